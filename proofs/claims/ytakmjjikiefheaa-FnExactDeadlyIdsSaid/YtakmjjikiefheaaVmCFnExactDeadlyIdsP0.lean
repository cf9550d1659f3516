/- Contracts. No condition. -/
import Derived.Test.YtakmjjikiefheaaVmS
import Derived.Test.YtakmjjikiefheaaVmLibThree
namespace Go.Proofs.Ytakmjjikiefheaa.Vm
open Go Go.Proofs.Ytakmjjikiefheaa.Lib
set_option maxRecDepth 100000
set_option linter.unusedVariables false

noncomputable def f17 (r : Int) : AV × Sig := (.one (.int .i64 r), [])
noncomputable def E17 : EnvOk Try.prog := E0
noncomputable def u17 (a0 : List (Ty.T y49)) (a1 : Int) : Option (AV × Sig) := cond (decide ((IntKind.wrap .i64 (a1 - ((a0).length : Int))) < (0 : Int))) (some (.one (.int .i64 (-1)), [])) (some (.one (.int .i64 (IntKind.wrap .i64 (a1 - ((a0).length : Int)))), []))
noncomputable def v17 (a0 : List (Ty.T y49)) (a1 : Int) : Int := cond (decide ((IntKind.wrap .i64 (a1 - ((a0).length : Int))) < (0 : Int))) ((-1)) (IntKind.wrap .i64 (a1 - ((a0).length : Int)))
theorem o17 (a0 : List (Ty.T y49)) (a1 : Int) : u17 a0 a1 = some (f17 (v17 a0 a1)) := (tot_cond rfl rfl)
noncomputable def p17 : Prim := ⟨[.one (.dat (.sl 60 y49) true), .one (.dat (.int .i64) true)], fun v => .done (f17 (v17 v.1 v.2.1))⟩
theorem ok17 : PrimOk Try.prog 17 p17 := primOk_eq E17.ok orders fun v => Eq.trans (b := u17 v.1 v.2.1) (by kernel_rfl) (o17 v.1 v.2.1)
noncomputable def f18 (r : Int) : AV × Sig := (.one (.int .i64 r), [])
noncomputable def E18 : EnvOk Try.prog := E0
noncomputable def u18 (a0 : List (Ty.T y70)) (a1 : Int) : Option (AV × Sig) := cond (decide ((IntKind.wrap .i64 (a1 - ((a0).length : Int))) < (0 : Int))) (some (.one (.int .i64 (-1)), [])) (some (.one (.int .i64 (IntKind.wrap .i64 (a1 - ((a0).length : Int)))), []))
noncomputable def v18 (a0 : List (Ty.T y70)) (a1 : Int) : Int := cond (decide ((IntKind.wrap .i64 (a1 - ((a0).length : Int))) < (0 : Int))) ((-1)) (IntKind.wrap .i64 (a1 - ((a0).length : Int)))
theorem o18 (a0 : List (Ty.T y70)) (a1 : Int) : u18 a0 a1 = some (f18 (v18 a0 a1)) := (tot_cond rfl rfl)
noncomputable def p18 : Prim := ⟨[.one (.dat (.sl 73 y70) true), .one (.dat (.int .i64) true)], fun v => .done (f18 (v18 v.1 v.2.1))⟩
theorem ok18 : PrimOk Try.prog 18 p18 := primOk_eq E18.ok orders fun v => Eq.trans (b := u18 v.1 v.2.1) (by kernel_rfl) (o18 v.1 v.2.1)
noncomputable def f4 (r : Int) : AV × Sig := (.one (.int .i64 r), [])
noncomputable def E4 : EnvOk Try.prog := ((E0.p ok17).p ok18)
noncomputable def u4 (a0 : Ty.T y24) (a1 : Int) : Option (AV × Sig) := cond (decide ((v17 a0.1 a1) < (0 : Int))) (some (.one (.int .i64 (-1)), [])) (cond (decide ((v18 a0.2.1 (v17 a0.1 a1)) < (0 : Int))) (some (.one (.int .i64 (-1)), [])) (some (.one (.int .i64 (v18 a0.2.1 (v17 a0.1 a1))), [])))
noncomputable def v4 (a0 : Ty.T y24) (a1 : Int) : Int := cond (decide ((v17 a0.1 a1) < (0 : Int))) ((-1)) (cond (decide ((v18 a0.2.1 (v17 a0.1 a1)) < (0 : Int))) ((-1)) ((v18 a0.2.1 (v17 a0.1 a1))))
theorem o4 (a0 : Ty.T y24) (a1 : Int) : u4 a0 a1 = some (f4 (v4 a0 a1)) := (tot_cond rfl (tot_cond rfl rfl))
noncomputable def p4 : Prim := ⟨[.agg [.dat y24 true], .one (.dat (.int .i64) true)], fun v => .done (f4 (v4 v.1 v.2.1))⟩
theorem ok4 : PrimOk Try.prog 4 p4 := primOk_eq E4.ok orders fun v => Eq.trans (b := u4 v.1 v.2.1) (by kernel_rfl) (o4 v.1 v.2.1)
noncomputable def f5 (r : Int) : AV × Sig := (.one (.int .i64 r), [])
noncomputable def E5 : EnvOk Try.prog := E0
noncomputable def u5 (a0 : List (Ty.T y51)) (a1 : Int) : Option (AV × Sig) := cond (decide ((IntKind.wrap .i64 (a1 - ((a0).length : Int))) < (0 : Int))) (some (.one (.int .i64 (-1)), [])) (some (.one (.int .i64 (IntKind.wrap .i64 (a1 - ((a0).length : Int)))), []))
noncomputable def v5 (a0 : List (Ty.T y51)) (a1 : Int) : Int := cond (decide ((IntKind.wrap .i64 (a1 - ((a0).length : Int))) < (0 : Int))) ((-1)) (IntKind.wrap .i64 (a1 - ((a0).length : Int)))
theorem o5 (a0 : List (Ty.T y51)) (a1 : Int) : u5 a0 a1 = some (f5 (v5 a0 a1)) := (tot_cond rfl rfl)
noncomputable def p5 : Prim := ⟨[.one (.dat (.sl 62 y51) true), .one (.dat (.int .i64) true)], fun v => .done (f5 (v5 v.1 v.2.1))⟩
theorem ok5 : PrimOk Try.prog 5 p5 := primOk_eq E5.ok orders fun v => Eq.trans (b := u5 v.1 v.2.1) (by kernel_rfl) (o5 v.1 v.2.1)
noncomputable def f19 (r : Bool) : AV × Sig := (.one (.bool r), [])
noncomputable def E19 : EnvOk Try.prog := E0
noncomputable def t19 (a0 : Ty.T y49) (a1 : Int) {Z : Type} (κ : Bool → Z) : Z := cond (a1 == (1 : Int)) (κ ((IntKind.wrap .i64 ((BitVec.ofInt (IntKind.bits .i64) a0.2.2.2.2.2.2.2.1 &&& BitVec.ofInt (IntKind.bits .i64) a1).toNat : Int)) != (0 : Int))) (cond (a1 == (2 : Int)) (κ ((IntKind.wrap .i64 ((BitVec.ofInt (IntKind.bits .i64) a0.2.2.2.2.2.2.2.1 &&& BitVec.ofInt (IntKind.bits .i64) a1).toNat : Int)) != (0 : Int))) (cond (a1 == (4 : Int)) (κ ((IntKind.wrap .i64 ((BitVec.ofInt (IntKind.bits .i64) a0.2.2.2.2.2.2.2.1 &&& BitVec.ofInt (IntKind.bits .i64) a1).toNat : Int)) != (0 : Int))) (cond (a1 == (8 : Int)) (κ ((IntKind.wrap .i64 ((BitVec.ofInt (IntKind.bits .i64) a0.2.2.2.2.2.2.2.1 &&& BitVec.ofInt (IntKind.bits .i64) a1).toNat : Int)) != (0 : Int))) (cond (a1 == (16 : Int)) (κ ((IntKind.wrap .i64 ((BitVec.ofInt (IntKind.bits .i64) a0.2.2.2.2.2.2.2.1 &&& BitVec.ofInt (IntKind.bits .i64) a1).toNat : Int)) != (0 : Int))) (cond (a1 == (32 : Int)) (κ ((IntKind.wrap .i64 ((BitVec.ofInt (IntKind.bits .i64) a0.2.2.2.2.2.2.2.1 &&& BitVec.ofInt (IntKind.bits .i64) a1).toNat : Int)) != (0 : Int))) (κ false))))))
noncomputable def v19 (a0 : Ty.T y49) (a1 : Int) : Bool := t19 a0 a1 fun r => r
noncomputable def p19 : Prim := ⟨[.agg [.dat y49 true], .one (.dat (.int .i64) true)], fun v => .done (f19 (v19 v.1 v.2.1))⟩
theorem ok19 : PrimOk Try.prog 19 p19 := primOk_eq E19.ok orders fun v => Eq.trans (b := (t19 v.1 v.2.1 (fun r => some (f19 r)))) (by kernel_rfl) (show t19 v.1 v.2.1 (fun r => some (f19 r)) = some (f19 (t19 v.1 v.2.1 fun r => r)) from (tot_cond rfl (tot_cond rfl (tot_cond rfl (tot_cond rfl (tot_cond rfl (tot_cond rfl rfl)))))))
noncomputable def f33 (r : Int) : AV × Sig := (.one (.int .i64 r), [])
noncomputable def E33 : EnvOk Try.prog := E0
@[reducible] noncomputable def ss33_0 : List SP := .und :: .one (.dat (.int .i64) true) :: .one (.ptr 2 0) :: .und :: .one (.dat (.int .i64) true) :: .one (.dat (.int .i64) true) :: U16 ([])
@[reducible] noncomputable def gs33_0 : List (Nat × GP) := [(2, .box 34 [.dat y33 true])]
@[reducible] noncomputable def V33_0 : Type := Int × Int × Int × (Ty.T y33) × Unit
theorem wf33_0 : wfSt ss33_0 gs33_0 := wf_of (by kernel_rfl)
noncomputable def t33_0 (v : V33_0) {Z : Type} (κ : Nat × V33_0 → Option Z) : Option Z := cond (decide (v.2.2.1 < ((v.2.2.2.1.1).length : Int))) (if 0 ≤ v.2.2.1 then (optC ((v.2.2.2.1.1)[(v.2.2.1).toNat]?) (fun x1 => cond (x1.1 == v.1) (κ (1, (v.1, v.2.2.1, v.2.2.1, v.2.2.2.1, ()))) (κ (0, (v.1, v.2.1, IntKind.wrap .i64 (v.2.2.1 + (1 : Int)), v.2.2.2.1, ()))))) else none) (κ (2, (v.1, v.2.1, v.2.2.1, v.2.2.2.1, ())))
noncomputable def s33_0 (v : V33_0) : Option (Nat × V33_0) := t33_0 v some
noncomputable def n33_0 (v : V33_0) : Nat := v.1.toNat + v.2.1.toNat + v.2.2.1.toNat + v.2.2.2.1.1.length + v.2.2.2.1.2.1.length + 100
noncomputable def k33_0 (h0 : Int) (h1 : Int) (h2 : Int) (h3 : Ty.T y33) (c : Nat) : Bool := iterAt s33_0 (n33_0 (h0, h1, h2, h3, ())) (h0, h1, h2, h3, ()) c
noncomputable def w33_0 (h0 : Int) (h1 : Int) (h2 : Int) (h3 : Ty.T y33) : V33_0 := iterV s33_0 (n33_0 (h0, h1, h2, h3, ())) (h0, h1, h2, h3, ())
noncomputable def F33_0 (v : V33_0) : Ways (Ex × St) := waysOf s33_0 (n33_0 v) v (bldSt ss33_0 gs33_0) [.ret, .exit 0] 0
theorem l33_0 : LoopOk Try.prog (loopAt [true, false, true] (bodyOf Try.f33)) ss33_0 gs33_0 F33_0 := loopOk_iter (lt := .none) E33.ok orders (LtOk.no _) fun n v K => Eq.trans (b := t33_0 v (kont _ _ _ _ _ K)) (by kernel_rfl) (show t33_0 v _ = (t33_0 v some).bind _ from (bnd_cond (bnd_ite (bnd_opt fun x1 => (bnd_cond rfl rfl))) rfl))
noncomputable def E33l : EnvOk Try.prog := E33.l (g := 33) (t := (ltPut [true, false, true] (bodyOf Try.f33) .none (.sum ss33_0 gs33_0 F33_0))) (ltOk_of Try.func33 (LtOk.put wf33_0 (LtOk.no _) l33_0))
noncomputable def u33 (a0 : Ty.T y33) (a1 : Int) : Option (AV × Sig) := cond (k33_0 a1 0 0 a0 0) (some (.one (.int .i64 (w33_0 a1 0 0 a0).2.1), [])) (cond (k33_0 a1 0 0 a0 1) (some (.one (.int .i64 (-1)), [])) (none))
noncomputable def v33 (a0 : Ty.T y33) (a1 : Int) : Int := cond (k33_0 a1 0 0 a0 0) ((w33_0 a1 0 0 a0).2.1) (cond (k33_0 a1 0 0 a0 1) ((-1)) (0))
noncomputable def d33 (a0 : Ty.T y33) (a1 : Int) : Bool := cond (k33_0 a1 0 0 a0 0) (true) (cond (k33_0 a1 0 0 a0 1) (true) (false))
theorem o33 (a0 : Ty.T y33) (a1 : Int) : u33 a0 a1 = cond (d33 a0 a1) (some (f33 (v33 a0 a1))) none := (par_cond (par_some _) (par_cond (par_some _) (par_none _)))
noncomputable def p33 : Prim := ⟨[.agg [.dat y33 true], .one (.dat (.int .i64) true)], fun v => .br (d33 v.1 v.2.1) (.done (f33 (v33 v.1 v.2.1))) .no⟩
theorem ok33 : PrimOk Try.prog 33 p33 := primOk_eq E33l.ok orders fun v => Eq.trans (b := u33 v.1 v.2.1) (by kernel_rfl) (o33 v.1 v.2.1)
noncomputable def f20 (r : (Ty.T y49)) : AV × Sig := (.agg (y49.cells false r), [])
noncomputable def E20 : EnvOk Try.prog := (E0.p ok33)
noncomputable def t20 (a0 : Ty.T y33) (a1 : Ty.T y47) {Z : Type} (κ : (Ty.T y49) → Option Z) : Option Z := cond (d33 a0 a1.2.1) (cond (a1.1 != (1 : Int)) (κ (0, 0, 0, 0, 0, 0, 0, 0, 0, 0, 0, false, false)) (cond (decide ((v33 a0 a1.2.1) < (0 : Int))) (κ (0, 0, 0, 0, 0, 0, 0, 0, 0, 0, 0, false, false)) (if 0 ≤ (v33 a0 a1.2.1) then (optC ((a0.1)[(v33 a0 a1.2.1).toNat]?) (fun x1 => κ x1)) else none))) (none)
noncomputable def v20 (a0 : Ty.T y33) (a1 : Ty.T y47) : (Ty.T y49) := (t20 a0 a1 some).getD (Ty.zero y49)
noncomputable def d20 (a0 : Ty.T y33) (a1 : Ty.T y47) : Bool := (t20 a0 a1 some).isSome
noncomputable def p20 : Prim := ⟨[.agg [.dat y33 true], .agg [.dat y47 true]], fun v => .br (d20 v.1 v.2.1) (.done (f20 (v20 v.1 v.2.1))) .no⟩
theorem ok20 : PrimOk Try.prog 20 p20 := primOk_eq E20.ok orders fun v => Eq.trans (b := (t20 v.1 v.2.1 (fun r => some (f20 r)))) (by kernel_rfl) (run_fin (show t20 v.1 v.2.1 (fun r => some (f20 r)) = (t20 v.1 v.2.1 some).bind _ from (bnd_cond (bnd_cond rfl (bnd_cond rfl (bnd_ite (bnd_opt fun x1 => rfl)))) rfl)))
noncomputable def f34 (r : Bool) : AV × Sig := (.one (.bool r), [])
noncomputable def E34 : EnvOk Try.prog := E0
@[reducible] noncomputable def ss34_0 : List SP := .one (.dat (.sl 3 (.int .i64)) true) :: .one (.dat (.int .i64) true) :: U2 (.one (.dat .bool true) :: .one (.dat (.int .i64) true) :: U8 (U4 ([])))
@[reducible] noncomputable def gs34_0 : List (Nat × GP) := []
@[reducible] noncomputable def V34_0 : Type := (List (Ty.T (.int .i64))) × Int × Bool × Int × Unit
theorem wf34_0 : wfSt ss34_0 gs34_0 := wf_of (by kernel_rfl)
noncomputable def t34_0 (v : V34_0) {Z : Type} (κ : Nat × V34_0 → Option Z) : Option Z := cond (decide (v.2.2.2.1 < ((v.1).length : Int))) (if 0 ≤ v.2.2.2.1 then (optC ((v.1)[(v.2.2.2.1).toNat]?) (fun x1 => cond (x1 == v.2.1) (κ (1, (v.1, v.2.1, true, v.2.2.2.1, ()))) (κ (0, (v.1, v.2.1, v.2.2.1, IntKind.wrap .i64 (v.2.2.2.1 + (1 : Int)), ()))))) else none) (κ (2, (v.1, v.2.1, v.2.2.1, v.2.2.2.1, ())))
noncomputable def s34_0 (v : V34_0) : Option (Nat × V34_0) := t34_0 v some
noncomputable def n34_0 (v : V34_0) : Nat := v.1.length + v.2.1.toNat + v.2.2.2.1.toNat + 100
noncomputable def k34_0 (h0 : List (Ty.T (.int .i64))) (h1 : Int) (h2 : Bool) (h3 : Int) (c : Nat) : Bool := iterAt s34_0 (n34_0 (h0, h1, h2, h3, ())) (h0, h1, h2, h3, ()) c
noncomputable def w34_0 (h0 : List (Ty.T (.int .i64))) (h1 : Int) (h2 : Bool) (h3 : Int) : V34_0 := iterV s34_0 (n34_0 (h0, h1, h2, h3, ())) (h0, h1, h2, h3, ())
noncomputable def F34_0 (v : V34_0) : Ways (Ex × St) := waysOf s34_0 (n34_0 v) v (bldSt ss34_0 gs34_0) [.ret, .exit 0] 0
theorem l34_0 : LoopOk Try.prog (loopAt [true, false, true] (bodyOf Try.f34)) ss34_0 gs34_0 F34_0 := loopOk_iter (lt := .none) E34.ok orders (LtOk.no _) fun n v K => Eq.trans (b := t34_0 v (kont _ _ _ _ _ K)) (by kernel_rfl) (show t34_0 v _ = (t34_0 v some).bind _ from (bnd_cond (bnd_ite (bnd_opt fun x1 => (bnd_cond rfl rfl))) rfl))
noncomputable def E34l : EnvOk Try.prog := E34.l (g := 34) (t := (ltPut [true, false, true] (bodyOf Try.f34) .none (.sum ss34_0 gs34_0 F34_0))) (ltOk_of Try.func34 (LtOk.put wf34_0 (LtOk.no _) l34_0))
noncomputable def u34 (a0 : List (Ty.T (.int .i64))) (a1 : Int) : Option (AV × Sig) := cond (k34_0 a0 a1 false 0 0) (some (.one (.bool (w34_0 a0 a1 false 0).2.2.1), [])) (cond (k34_0 a0 a1 false 0 1) (some (.one (.bool false), [])) (none))
noncomputable def v34 (a0 : List (Ty.T (.int .i64))) (a1 : Int) : Bool := cond (k34_0 a0 a1 false 0 0) ((w34_0 a0 a1 false 0).2.2.1) (cond (k34_0 a0 a1 false 0 1) (false) (false))
noncomputable def d34 (a0 : List (Ty.T (.int .i64))) (a1 : Int) : Bool := cond (k34_0 a0 a1 false 0 0) (true) (cond (k34_0 a0 a1 false 0 1) (true) (false))
theorem o34 (a0 : List (Ty.T (.int .i64))) (a1 : Int) : u34 a0 a1 = cond (d34 a0 a1) (some (f34 (v34 a0 a1))) none := (par_cond (par_some _) (par_cond (par_some _) (par_none _)))
noncomputable def p34 : Prim := ⟨[.one (.dat (.sl 3 (.int .i64)) true), .one (.dat (.int .i64) true)], fun v => .br (d34 v.1 v.2.1) (.done (f34 (v34 v.1 v.2.1))) .no⟩
theorem ok34 : PrimOk Try.prog 34 p34 := primOk_eq E34l.ok orders fun v => Eq.trans (b := u34 v.1 v.2.1) (by kernel_rfl) (o34 v.1 v.2.1)
noncomputable def f21 (r : (List (Ty.T (.int .i64)))) : AV × Sig := (.one (.sl 4096), [(4096, .arr 3 (.int .i64) r false)])
noncomputable def E21 : EnvOk Try.prog := (E0.p ok34)
@[reducible] noncomputable def ss21_2 : List SP := .one (.dat (.sl 3 (.int .i64)) true) :: .und :: .one (.dat (.sl 3 (.int .i64)) false) :: .one (.own 6) :: .one (.dat (.int .i64) true) :: .one (.dat (.int .i64) true) :: .und :: .one (.dat (.int .i64) true) :: .one (.dat (.sl 3 (.int .i64)) true) :: .one (.dat (.int .i64) true) :: .one (.dat .bool true) :: U2 (.one (.own 6) :: .one (.dat (.sl 3 (.int .i64)) true) :: .one (.dat (.int .i64) true) :: .one (.ept (.int .i64)) :: .one (.dat (.int .i64) true) :: .one (.dat .bool true) :: .one (.own 6) :: .one (.dat (.int .i64) true) :: U32 ([]))
@[reducible] noncomputable def gs21_2 : List (Nat × GP) := [(6, .arr 3 (.int .i64) false)]
@[reducible] noncomputable def V21_2 : Type := (List (Ty.T (.int .i64))) × (List (Ty.T (.int .i64))) × Int × Int × Int × (List (Ty.T (.int .i64))) × Int × Bool × (List (Ty.T (.int .i64))) × Int × Int × Int × Bool × Int × (List (Ty.T (.int .i64))) × Unit
theorem wf21_2 : wfSt ss21_2 gs21_2 := wf_of (by kernel_rfl)
@[reducible] noncomputable def sx21_2 : List SP := .one (.dat (.sl 3 (.int .i64)) true) :: .und :: .one (.dat (.sl 3 (.int .i64)) false) :: .one (.own 6) :: .one (.dat (.int .i64) true) :: .one (.dat (.int .i64) true) :: .und :: .one (.dat (.int .i64) true) :: .one (.dat (.sl 3 (.int .i64)) true) :: .one (.dat (.int .i64) true) :: .one (.dat .bool true) :: U2 (.one (.own 6) :: .one (.dat (.sl 3 (.int .i64)) true) :: .one (.dat (.int .i64) true) :: .one (.ept (.int .i64)) :: .one (.dat (.int .i64) true) :: .one (.dat .bool true) :: .one (.own 6) :: .one (.dat (.int .i64) true) :: .one (.dat (.int .i64) true) :: .one (.dat .bool true) :: .one (.dat .bool true) :: U8 (U2 (.one (.dat .bool true) :: U16 (U2 ([])))))
noncomputable def f21_2 (v : V21_2) (r : Bool × Bool) : Ex × St := (.normal, bldSt sx21_2 gs21_2 (v.1, v.2.1, v.2.2.1, v.2.2.2.1, v.2.2.2.2.1, v.2.2.2.2.2.1, v.2.2.2.2.2.2.1, v.2.2.2.2.2.2.2.1, v.2.2.2.2.2.2.2.2.1, v.2.2.2.2.2.2.2.2.2.1, v.2.2.2.2.2.2.2.2.2.2.1, v.2.2.2.2.2.2.2.2.2.2.2.1, v.2.2.2.2.2.2.2.2.2.2.2.2.1, v.2.2.2.2.2.2.2.2.2.2.2.2.2.1, v.2.2.2.1, decide (v.2.2.2.1 > (0 : Int)), r.1, r.2, v.2.2.2.2.2.2.2.2.2.2.2.2.2.2.1, ()))
noncomputable def t21_2 (v : V21_2) {Z : Type} (κ : Bool × Bool → Option Z) : Option Z := cond (decide (v.2.2.2.1 > (0 : Int))) (if 0 ≤ (IntKind.wrap .i64 (v.2.2.2.1 - (1 : Int))) then (if (IntKind.wrap .i64 (v.2.2.2.1 - (1 : Int))) < ((v.2.2.2.2.2.2.2.2.2.2.2.2.2.2.1).length : Int) then (optC ((v.2.2.2.2.2.2.2.2.2.2.2.2.2.2.1)[(IntKind.wrap .i64 (v.2.2.2.1 - (1 : Int))).toNat]?) (fun x2 => if 0 ≤ v.2.2.1 then (optC ((v.1)[(v.2.2.1).toNat]?) (fun x3 => κ (true, decide (x2 > x3)))) else none)) else none) else none) (κ (false, false))
noncomputable def c21_2 (v : V21_2) : Bool × Bool := (t21_2 v some).getD (false, false)
noncomputable def g21_2 (v : V21_2) : Bool := (t21_2 v some).isSome
noncomputable def F21_2 (v : V21_2) : Ways (Ex × St) := .br (g21_2 v) (.done (f21_2 v (c21_2 v))) .no
theorem l21_2 : CodeOk Try.prog (pieceAt [false, false] (loopAt [true, false, true, true, false] (loopAt [true, true, false, true] (bodyOf Try.f21)))) ss21_2 gs21_2 F21_2 := codeOk_eq (lt := .none) (sx := sx21_2) (gx := gs21_2) E21.ok orders (LtOk.no _) fun v => Eq.trans (b := t21_2 v (fun r => some (f21_2 v r))) (by kernel_rfl) (run_fin (show t21_2 v (fun r => some (f21_2 v r)) = (t21_2 v some).bind _ from (bnd_cond (bnd_ite (bnd_ite (bnd_opt fun x2 => (bnd_ite (bnd_opt fun x3 => rfl))))) rfl)))
theorem wf21_1 : wfSt ss21_2 gs21_2 := wf_of (by kernel_rfl)
noncomputable def t21_1 (v : V21_2) {Z : Type} (κ : Nat × V21_2 → Option Z) : Option Z := cond (g21_2 (v.1, v.2.1, v.2.2.1, v.2.2.2.1, v.2.2.2.2.1, v.2.2.2.2.2.1, v.2.2.2.2.2.2.1, v.2.2.2.2.2.2.2.1, v.2.2.2.2.2.2.2.2.1, v.2.2.2.2.2.2.2.2.2.1, v.2.2.2.2.2.2.2.2.2.2.1, v.2.2.2.2.2.2.2.2.2.2.2.1, v.2.2.2.2.2.2.2.2.2.2.2.2.1, v.2.2.2.2.2.2.2.2.2.2.2.2.2.1, v.2.2.2.2.2.2.2.2.2.2.2.2.2.2.1, ())) (cond (c21_2 (v.1, v.2.1, v.2.2.1, v.2.2.2.1, v.2.2.2.2.1, v.2.2.2.2.2.1, v.2.2.2.2.2.2.1, v.2.2.2.2.2.2.2.1, v.2.2.2.2.2.2.2.2.1, v.2.2.2.2.2.2.2.2.2.1, v.2.2.2.2.2.2.2.2.2.2.1, v.2.2.2.2.2.2.2.2.2.2.2.1, v.2.2.2.2.2.2.2.2.2.2.2.2.1, v.2.2.2.2.2.2.2.2.2.2.2.2.2.1, v.2.2.2.2.2.2.2.2.2.2.2.2.2.2.1, ())).2 (κ (0, (v.1, v.2.1, v.2.2.1, IntKind.wrap .i64 (v.2.2.2.1 - (1 : Int)), v.2.2.2.2.1, v.2.2.2.2.2.1, v.2.2.2.2.2.2.1, v.2.2.2.2.2.2.2.1, v.2.2.2.2.2.2.2.2.1, v.2.2.2.2.2.2.2.2.2.1, v.2.2.2.2.2.2.2.2.2.2.1, v.2.2.2.2.2.2.2.2.2.2.2.1, v.2.2.2.2.2.2.2.2.2.2.2.2.1, v.2.2.2.2.2.2.2.2.2.2.2.2.2.1, v.2.2.2.2.2.2.2.2.2.2.2.2.2.2.1, ()))) (κ (1, (v.1, v.2.1, v.2.2.1, v.2.2.2.1, v.2.2.2.2.1, v.2.2.2.2.2.1, v.2.2.2.2.2.2.1, v.2.2.2.2.2.2.2.1, v.2.2.2.2.2.2.2.2.1, v.2.2.2.2.2.2.2.2.2.1, v.2.2.2.2.2.2.2.2.2.2.1, v.2.2.2.2.2.2.2.2.2.2.2.1, v.2.2.2.2.2.2.2.2.2.2.2.2.1, v.2.2.2.2.2.2.2.2.2.2.2.2.2.1, v.2.2.2.2.2.2.2.2.2.2.2.2.2.2.1, ())))) (none)
noncomputable def s21_1 (v : V21_2) : Option (Nat × V21_2) := t21_1 v some
noncomputable def n21_1 (v : V21_2) : Nat := v.1.length + v.2.1.length + v.2.2.1.toNat + v.2.2.2.1.toNat + v.2.2.2.2.1.toNat + v.2.2.2.2.2.1.length + v.2.2.2.2.2.2.1.toNat + v.2.2.2.2.2.2.2.2.1.length + v.2.2.2.2.2.2.2.2.2.1.toNat + v.2.2.2.2.2.2.2.2.2.2.1.toNat + v.2.2.2.2.2.2.2.2.2.2.2.1.toNat + v.2.2.2.2.2.2.2.2.2.2.2.2.2.1.toNat + v.2.2.2.2.2.2.2.2.2.2.2.2.2.2.1.length + 100
noncomputable def k21_1 (h0 : List (Ty.T (.int .i64))) (h1 : List (Ty.T (.int .i64))) (h2 : Int) (h3 : Int) (h4 : Int) (h5 : List (Ty.T (.int .i64))) (h6 : Int) (h7 : Bool) (h8 : List (Ty.T (.int .i64))) (h9 : Int) (h10 : Int) (h11 : Int) (h12 : Bool) (h13 : Int) (h14 : List (Ty.T (.int .i64))) (c : Nat) : Bool := iterAt s21_1 (n21_1 (h0, h1, h2, h3, h4, h5, h6, h7, h8, h9, h10, h11, h12, h13, h14, ())) (h0, h1, h2, h3, h4, h5, h6, h7, h8, h9, h10, h11, h12, h13, h14, ()) c
noncomputable def w21_1 (h0 : List (Ty.T (.int .i64))) (h1 : List (Ty.T (.int .i64))) (h2 : Int) (h3 : Int) (h4 : Int) (h5 : List (Ty.T (.int .i64))) (h6 : Int) (h7 : Bool) (h8 : List (Ty.T (.int .i64))) (h9 : Int) (h10 : Int) (h11 : Int) (h12 : Bool) (h13 : Int) (h14 : List (Ty.T (.int .i64))) : V21_2 := iterV s21_1 (n21_1 (h0, h1, h2, h3, h4, h5, h6, h7, h8, h9, h10, h11, h12, h13, h14, ())) (h0, h1, h2, h3, h4, h5, h6, h7, h8, h9, h10, h11, h12, h13, h14, ())
noncomputable def F21_1 (v : V21_2) : Ways (Ex × St) := waysOf s21_1 (n21_1 v) v (bldSt ss21_2 gs21_2) [.exit 2] 0
theorem l21_1 : LoopOk Try.prog (loopAt [true, false, true, true, false] (loopAt [true, true, false, true] (bodyOf Try.f21))) ss21_2 gs21_2 F21_1 := loopOk_iter (lt := (ltPutC [false, false] (loopAt [true, false, true, true, false] (loopAt [true, true, false, true] (bodyOf Try.f21))) .none (.sum ss21_2 gs21_2 F21_2))) E21.ok orders (LtOk.putC wf21_2 (LtOk.no _) l21_2) fun n v K => Eq.trans (b := t21_1 v (kont _ _ _ _ _ K)) (by kernel_rfl) (show t21_1 v _ = (t21_1 v some).bind _ from (bnd_cond (bnd_cond rfl rfl) rfl))
theorem wf21_3 : wfSt ss21_2 gs21_2 := wf_of (by kernel_rfl)
@[reducible] noncomputable def sx21_3 : List SP := .one (.dat (.sl 3 (.int .i64)) true) :: .und :: .one (.dat (.sl 3 (.int .i64)) false) :: .one (.own 37) :: .one (.dat (.int .i64) true) :: .one (.dat (.int .i64) true) :: .und :: .one (.dat (.int .i64) true) :: .one (.dat (.sl 3 (.int .i64)) true) :: .one (.dat (.int .i64) true) :: .one (.dat .bool true) :: U2 (.und :: .one (.dat (.sl 3 (.int .i64)) true) :: .one (.dat (.int .i64) true) :: .one (.ept (.int .i64)) :: .one (.dat (.int .i64) true) :: .one (.dat .bool true) :: .und :: .one (.dat (.int .i64) true) :: U16 (U2 (.one (.dat (.int .i64) true) :: .one (.own 6) :: .und :: .one (.dat (.sl 3 (.int .i64)) true) :: .one (.dat (.int .i64) true) :: .one (.ept (.int .i64)) :: .one (.dat (.int .i64) true) :: .one (.own 46) :: U2 (.one (.dat (.int .i64) true) :: .und :: .one (.own 37) :: .und :: []))))
@[reducible] noncomputable def gx21_3 : List (Nat × GP) := [(6, .arr 3 (.int .i64) false), (37, .arr 3 (.int .i64) false), (46, .arr 3 (.int .i64) false)]
noncomputable def f21_3 (v : V21_2) (r : Int × Int × (List (Ty.T (.int .i64))) × (List (Ty.T (.int .i64)))) : Ex × St := (.normal, bldSt sx21_3 gx21_3 (v.1, v.2.1, v.2.2.1, v.2.2.2.1, v.2.2.2.2.1, v.2.2.2.2.2.1, v.2.2.2.2.2.2.1, v.2.2.2.2.2.2.2.1, v.2.2.2.2.2.2.2.2.1, v.2.2.2.2.2.2.2.2.2.1, v.2.2.2.2.2.2.2.2.2.2.1, v.2.2.2.2.2.2.2.2.2.2.2.1, v.2.2.2.2.2.2.2.2.2.2.2.2.1, v.2.2.2.2.2.2.2.2.2.2.2.2.2.1, v.2.2.2.1, v.1, v.2.2.1, r.1, r.2.1, v.2.2.2.1, v.2.2.2.2.2.2.2.2.2.2.2.2.2.2.1.take ((v.2.2.2.1).toNat), r.2.2.1, r.2.2.2, ()))
noncomputable def t21_3 (v : V21_2) {Z : Type} (κ : Int × Int × (List (Ty.T (.int .i64))) × (List (Ty.T (.int .i64))) → Option Z) : Option Z := if 0 ≤ v.2.2.2.1 then (if v.2.2.2.1 ≤ ((v.2.2.2.2.2.2.2.2.2.2.2.2.2.2.1).length : Int) then (if 0 ≤ v.2.2.1 then (optC ((v.1)[(v.2.2.1).toNat]?) (fun x4 => if 0 ≤ v.2.2.2.1 then (if v.2.2.2.1 ≤ ((v.2.2.2.2.2.2.2.2.2.2.2.2.2.2.1).length : Int) then (if ([] ++ (((v.2.2.2.2.2.2.2.2.2.2.2.2.2.2.1).drop 0).take ((v.2.2.2.1).toNat)) : List (Ty.T (.int .i64))).length * 8 ≤ 140737488351232 then (if (([] ++ (((v.2.2.2.2.2.2.2.2.2.2.2.2.2.2.1).drop 0).take ((v.2.2.2.1).toNat))) ++ [x4] : List (Ty.T (.int .i64))).length * 8 ≤ 140737488351232 then (if ((([] ++ (((v.2.2.2.2.2.2.2.2.2.2.2.2.2.2.1).drop 0).take ((v.2.2.2.1).toNat))) ++ [x4]) ++ (((v.2.2.2.2.2.2.2.2.2.2.2.2.2.2.1).drop ((v.2.2.2.1).toNat)).take ((v.2.2.2.2.2.2.2.2.2.2.2.2.2.2.1).length - (v.2.2.2.1).toNat)) : List (Ty.T (.int .i64))).length * 8 ≤ 140737488351232 then (κ (x4, x4, (([] ++ (((v.2.2.2.2.2.2.2.2.2.2.2.2.2.2.1).drop 0).take ((v.2.2.2.1).toNat))) ++ [x4]) ++ (((v.2.2.2.2.2.2.2.2.2.2.2.2.2.2.1).drop ((v.2.2.2.1).toNat)).take ((v.2.2.2.2.2.2.2.2.2.2.2.2.2.2.1).length - (v.2.2.2.1).toNat)), [x4])) else none) else none) else none) else none) else none)) else none) else none) else none
noncomputable def c21_3 (v : V21_2) : Int × Int × (List (Ty.T (.int .i64))) × (List (Ty.T (.int .i64))) := (t21_3 v some).getD (0, 0, [], [])
noncomputable def g21_3 (v : V21_2) : Bool := (t21_3 v some).isSome
noncomputable def F21_3 (v : V21_2) : Ways (Ex × St) := .br (g21_3 v) (.done (f21_3 v (c21_3 v))) .no
theorem l21_3 : CodeOk Try.prog (pieceAt [true, false, true, true, true] (loopAt [true, true, false, true] (bodyOf Try.f21))) ss21_2 gs21_2 F21_3 := codeOk_drawn (by kernel_rfl) (sx := sx21_3) (gx := gx21_3) E21.ok orders (by kernel_rfl) 3 fun v => Eq.trans (b := List.replicate 3 (t21_3 v (fun r => some (f21_3 v r)))) (by kernel_rfl) (congrArg (List.replicate 3) (run_fin (show t21_3 v (fun r => some (f21_3 v r)) = (t21_3 v some).bind _ from (bnd_ite (bnd_ite (bnd_ite (bnd_opt fun x4 => (bnd_ite (bnd_ite (bnd_ite (bnd_ite (bnd_ite rfl))))))))))))
@[reducible] noncomputable def ss21_0 : List SP := .one (.dat (.sl 3 (.int .i64)) true) :: .und :: .one (.dat (.sl 3 (.int .i64)) false) :: .one (.own 6) :: .one (.dat (.int .i64) true) :: U32 (U16 ([]))
@[reducible] noncomputable def V21_0 : Type := (List (Ty.T (.int .i64))) × (List (Ty.T (.int .i64))) × Int × (List (Ty.T (.int .i64))) × Unit
theorem wf21_0 : wfSt ss21_0 gs21_2 := wf_of (by kernel_rfl)
noncomputable def e21_0 (v : V21_0) (x1 : Ty.T (.int .i64)) := (w21_1 v.1 v.2.1 v.2.2.1 ((v.2.2.2.1).length : Int) v.2.2.1 v.1 ((v.1).length : Int) (decide (v.2.2.1 < ((v.1).length : Int))) v.1 v.2.2.1 x1 x1 (v34 v.2.2.2.1 x1) ((v.2.2.2.1).length : Int) v.2.2.2.1)
noncomputable def t21_0 (v : V21_0) {Z : Type} (κ : Nat × V21_0 → Option Z) : Option Z := cond (decide (v.2.2.1 < ((v.1).length : Int))) (if 0 ≤ v.2.2.1 then (optC ((v.1)[(v.2.2.1).toNat]?) (fun x1 => cond (d34 v.2.2.2.1 x1) (cond (v34 v.2.2.2.1 x1) (κ (0, (v.1, v.2.1, IntKind.wrap .i64 (v.2.2.1 + (1 : Int)), v.2.2.2.1, ()))) (cond (k21_1 v.1 v.2.1 v.2.2.1 ((v.2.2.2.1).length : Int) v.2.2.1 v.1 ((v.1).length : Int) (decide (v.2.2.1 < ((v.1).length : Int))) v.1 v.2.2.1 x1 x1 (v34 v.2.2.2.1 x1) ((v.2.2.2.1).length : Int) v.2.2.2.1 0) (cond (g21_3 ((e21_0 v x1).1, (e21_0 v x1).2.1, (e21_0 v x1).2.2.1, (e21_0 v x1).2.2.2.1, (e21_0 v x1).2.2.2.2.1, (e21_0 v x1).2.2.2.2.2.1, (e21_0 v x1).2.2.2.2.2.2.1, (e21_0 v x1).2.2.2.2.2.2.2.1, (e21_0 v x1).2.2.2.2.2.2.2.2.1, (e21_0 v x1).2.2.2.2.2.2.2.2.2.1, (e21_0 v x1).2.2.2.2.2.2.2.2.2.2.1, (e21_0 v x1).2.2.2.2.2.2.2.2.2.2.2.1, (e21_0 v x1).2.2.2.2.2.2.2.2.2.2.2.2.1, (e21_0 v x1).2.2.2.2.2.2.2.2.2.2.2.2.2.1, (e21_0 v x1).2.2.2.2.2.2.2.2.2.2.2.2.2.2.1, ())) (κ (0, ((e21_0 v x1).1, (e21_0 v x1).2.1, IntKind.wrap .i64 ((e21_0 v x1).2.2.1 + (1 : Int)), (c21_3 ((e21_0 v x1).1, (e21_0 v x1).2.1, (e21_0 v x1).2.2.1, (e21_0 v x1).2.2.2.1, (e21_0 v x1).2.2.2.2.1, (e21_0 v x1).2.2.2.2.2.1, (e21_0 v x1).2.2.2.2.2.2.1, (e21_0 v x1).2.2.2.2.2.2.2.1, (e21_0 v x1).2.2.2.2.2.2.2.2.1, (e21_0 v x1).2.2.2.2.2.2.2.2.2.1, (e21_0 v x1).2.2.2.2.2.2.2.2.2.2.1, (e21_0 v x1).2.2.2.2.2.2.2.2.2.2.2.1, (e21_0 v x1).2.2.2.2.2.2.2.2.2.2.2.2.1, (e21_0 v x1).2.2.2.2.2.2.2.2.2.2.2.2.2.1, (e21_0 v x1).2.2.2.2.2.2.2.2.2.2.2.2.2.2.1, ())).2.2.1, ()))) (none)) (none))) (none))) else none) (κ (1, (v.1, v.2.1, v.2.2.1, v.2.2.2.1, ())))
noncomputable def s21_0 (v : V21_0) : Option (Nat × V21_0) := t21_0 v some
noncomputable def n21_0 (v : V21_0) : Nat := v.1.length + v.2.1.length + v.2.2.1.toNat + v.2.2.2.1.length + 100
noncomputable def k21_0 (h0 : List (Ty.T (.int .i64))) (h1 : List (Ty.T (.int .i64))) (h2 : Int) (h3 : List (Ty.T (.int .i64))) (c : Nat) : Bool := iterAt s21_0 (n21_0 (h0, h1, h2, h3, ())) (h0, h1, h2, h3, ()) c
noncomputable def w21_0 (h0 : List (Ty.T (.int .i64))) (h1 : List (Ty.T (.int .i64))) (h2 : Int) (h3 : List (Ty.T (.int .i64))) : V21_0 := iterV s21_0 (n21_0 (h0, h1, h2, h3, ())) (h0, h1, h2, h3, ())
noncomputable def F21_0 (v : V21_0) : Ways (Ex × St) := waysOf s21_0 (n21_0 v) v (bldSt ss21_0 gs21_2) [.exit 0] 0
theorem l21_0 : LoopOk Try.prog (loopAt [true, true, false, true] (bodyOf Try.f21)) ss21_0 gs21_2 F21_0 := loopOk_iter (lt := (ltPutC [true, false, true, true, true] (loopAt [true, true, false, true] (bodyOf Try.f21)) (ltPutC [true, false, true, true, false] (loopAt [true, true, false, true] (bodyOf Try.f21)) .none (.sum ss21_2 gs21_2 F21_1)) (.sum ss21_2 gs21_2 F21_3))) E21.ok orders (LtOk.putC wf21_3 (LtOk.putL (by kernel_rfl) wf21_1 (LtOk.no _) l21_1) l21_3) fun n v K => Eq.trans (b := t21_0 v (kont _ _ _ _ _ K)) (by kernel_rfl) (show t21_0 v _ = (t21_0 v some).bind _ from (bnd_cond (bnd_ite (bnd_opt fun x1 => (bnd_cond (bnd_cond rfl (bnd_cond (bnd_cond rfl rfl) rfl)) rfl))) rfl))
noncomputable def E21l : EnvOk Try.prog := E21.l (g := 21) (t := (ltPutC [true, true, false, true] (bodyOf Try.f21) .none (.sum ss21_0 gs21_2 F21_0))) (ltOk_of Try.func21 (LtOk.putL (by kernel_rfl) wf21_0 (LtOk.no _) l21_0))
noncomputable def t21 (a0 : List (Ty.T (.int .i64))) {Z : Type} (κ : (List (Ty.T (.int .i64))) → Option Z) : Option Z := cond (k21_0 a0 [] 0 [] 0) (κ (w21_0 a0 [] 0 []).2.2.2.1) (none)
noncomputable def v21 (a0 : List (Ty.T (.int .i64))) : (List (Ty.T (.int .i64))) := (t21 a0 some).getD []
noncomputable def d21 (a0 : List (Ty.T (.int .i64))) : Bool := (t21 a0 some).isSome
noncomputable def p21 : Prim := ⟨[.one (.dat (.sl 3 (.int .i64)) true)], fun v => .br (d21 v.1) (.done (f21 (v21 v.1))) .no⟩
theorem ok21 : PrimOk Try.prog 21 p21 := primOk_eq E21l.ok orders fun v => Eq.trans (b := (t21 v.1 (fun r => some (f21 r)))) (by kernel_rfl) (run_fin (show t21 v.1 (fun r => some (f21 r)) = (t21 v.1 some).bind _ from (bnd_cond rfl rfl)))
noncomputable def f6 (r : (List (Ty.T (.int .i64)))) : AV × Sig := (.one (.sl 4096), [(4096, .arr 3 (.int .i64) r false)])
noncomputable def E6 : EnvOk Try.prog := (((E0.p ok19).p ok20).p ok21)
@[reducible] noncomputable def ss6_0 : List SP := .und :: .one (.dat (.sl 52 y51) true) :: .one (.ptr 2 0) :: .und :: .one (.dat (.sl 3 (.int .i64)) false) :: .one (.own 7) :: .one (.dat (.int .i64) true) :: U32 (U16 (U2 (.und :: [])))
@[reducible] noncomputable def gs6_0 : List (Nat × GP) := [(2, .box 34 [.dat y33 true]), (7, .arr 3 (.int .i64) false)]
@[reducible] noncomputable def V6_0 : Type := (List (Ty.T y51)) × (List (Ty.T (.int .i64))) × Int × (Ty.T y33) × (List (Ty.T (.int .i64))) × Unit
theorem wf6_0 : wfSt ss6_0 gs6_0 := wf_of (by kernel_rfl)
noncomputable def t6_0 (v : V6_0) {Z : Type} (κ : Nat × V6_0 → Option Z) : Option Z := cond (decide (v.2.2.1 < ((v.1).length : Int))) (if 0 ≤ v.2.2.1 then (optC ((v.1)[(v.2.2.1).toNat]?) (fun x1 => cond (x1.1 == (1 : Int)) (if 0 ≤ v.2.2.1 then (optC ((v.1)[(v.2.2.1).toNat]?) (fun x2 => cond (decide (x2.2.2.1 ≥ (1 : Int))) (if 0 ≤ v.2.2.1 then (optC ((v.1)[(v.2.2.1).toNat]?) (fun x3 => cond (x3.2.1.2.2.1 != (0 : Int)) (if 0 ≤ v.2.2.1 then (optC ((v.1)[(v.2.2.1).toNat]?) (fun x4 => cond (d20 v.2.2.2.1 x4.2.1) (cond (v19 (v20 v.2.2.2.1 x4.2.1) 4) (if 0 ≤ v.2.2.1 then (optC ((v.1)[(v.2.2.1).toNat]?) (fun x5 => if (v.2.2.2.2.1 ++ [x5.2.1.2.2.1] : List (Ty.T (.int .i64))).length * 8 ≤ 140737488351232 then (κ (0, (v.1, v.2.1, IntKind.wrap .i64 (v.2.2.1 + (1 : Int)), v.2.2.2.1, v.2.2.2.2.1 ++ [x5.2.1.2.2.1], ()))) else none)) else none) (κ (0, (v.1, v.2.1, IntKind.wrap .i64 (v.2.2.1 + (1 : Int)), v.2.2.2.1, v.2.2.2.2.1, ())))) (none))) else none) (κ (0, (v.1, v.2.1, IntKind.wrap .i64 (v.2.2.1 + (1 : Int)), v.2.2.2.1, v.2.2.2.2.1, ()))))) else none) (κ (0, (v.1, v.2.1, IntKind.wrap .i64 (v.2.2.1 + (1 : Int)), v.2.2.2.1, v.2.2.2.2.1, ()))))) else none) (κ (0, (v.1, v.2.1, IntKind.wrap .i64 (v.2.2.1 + (1 : Int)), v.2.2.2.1, v.2.2.2.2.1, ()))))) else none) (κ (1, (v.1, v.2.1, v.2.2.1, v.2.2.2.1, v.2.2.2.2.1, ())))
noncomputable def s6_0 (v : V6_0) : Option (Nat × V6_0) := t6_0 v some
noncomputable def n6_0 (v : V6_0) : Nat := v.1.length + v.2.1.length + v.2.2.1.toNat + v.2.2.2.1.1.length + v.2.2.2.1.2.1.length + v.2.2.2.2.1.length + 100
noncomputable def k6_0 (h0 : List (Ty.T y51)) (h1 : List (Ty.T (.int .i64))) (h2 : Int) (h3 : Ty.T y33) (h4 : List (Ty.T (.int .i64))) (c : Nat) : Bool := iterAt s6_0 (n6_0 (h0, h1, h2, h3, h4, ())) (h0, h1, h2, h3, h4, ()) c
noncomputable def w6_0 (h0 : List (Ty.T y51)) (h1 : List (Ty.T (.int .i64))) (h2 : Int) (h3 : Ty.T y33) (h4 : List (Ty.T (.int .i64))) : V6_0 := iterV s6_0 (n6_0 (h0, h1, h2, h3, h4, ())) (h0, h1, h2, h3, h4, ())
noncomputable def F6_0 (v : V6_0) : Ways (Ex × St) := waysOf s6_0 (n6_0 v) v (bldSt ss6_0 gs6_0) [.exit 0] 0
theorem l6_0 : LoopOk Try.prog (loopAt [true, true, false, true] (bodyOf Try.f6)) ss6_0 gs6_0 F6_0 := loopOk_iter (lt := .none) E6.ok orders (LtOk.no _) fun n v K => Eq.trans (b := t6_0 v (kont _ _ _ _ _ K)) (by kernel_rfl) (show t6_0 v _ = (t6_0 v some).bind _ from (bnd_cond (bnd_ite (bnd_opt fun x1 => (bnd_cond (bnd_ite (bnd_opt fun x2 => (bnd_cond (bnd_ite (bnd_opt fun x3 => (bnd_cond (bnd_ite (bnd_opt fun x4 => (bnd_cond (bnd_cond (bnd_ite (bnd_opt fun x5 => (bnd_ite rfl))) rfl) rfl))) rfl))) rfl))) rfl))) rfl))
noncomputable def E6l : EnvOk Try.prog := E6.l (g := 6) (t := (ltPut [true, true, false, true] (bodyOf Try.f6) .none (.sum ss6_0 gs6_0 F6_0))) (ltOk_of Try.func6 (LtOk.put wf6_0 (LtOk.no _) l6_0))
noncomputable def u6 (a0 : Ty.T y33) (a1 : List (Ty.T y51)) : Option (AV × Sig) := cond (k6_0 a1 [] 0 a0 [] 0) (cond (d21 (w6_0 a1 [] 0 a0 []).2.2.2.2.1) (some (.one (.sl 4096), [(4096, .arr 3 (.int .i64) (v21 (w6_0 a1 [] 0 a0 []).2.2.2.2.1) false)])) (none)) (none)
noncomputable def v6 (a0 : Ty.T y33) (a1 : List (Ty.T y51)) : (List (Ty.T (.int .i64))) := cond (k6_0 a1 [] 0 a0 [] 0) (cond (d21 (w6_0 a1 [] 0 a0 []).2.2.2.2.1) ((v21 (w6_0 a1 [] 0 a0 []).2.2.2.2.1)) ([])) ([])
noncomputable def d6 (a0 : Ty.T y33) (a1 : List (Ty.T y51)) : Bool := cond (k6_0 a1 [] 0 a0 [] 0) (cond (d21 (w6_0 a1 [] 0 a0 []).2.2.2.2.1) (true) (false)) (false)
theorem o6 (a0 : Ty.T y33) (a1 : List (Ty.T y51)) : u6 a0 a1 = cond (d6 a0 a1) (some (f6 (v6 a0 a1))) none := (par_cond (par_cond (par_some _) (par_none _)) (par_none _))
noncomputable def p6 : Prim := ⟨[.agg [.dat y33 true], .one (.dat (.sl 52 y51) true)], fun v => .br (d6 v.1 v.2.1) (.done (f6 (v6 v.1 v.2.1))) .no⟩
theorem ok6 : PrimOk Try.prog 6 p6 := primOk_eq E6l.ok orders fun v => Eq.trans (b := u6 v.1 v.2.1) (by kernel_rfl) (o6 v.1 v.2.1)
noncomputable def f35 (r : (Ty.T y49)) : AV × Sig := (.agg (y49.cells false r), [])
noncomputable def E35 : EnvOk Try.prog := E0
noncomputable def u35 (a0 : Ty.T y49) : Option (AV × Sig) := some (.agg [.int .i64 a0.1, .int .i64 a0.2.1, .int .i64 a0.2.2.1, .int .i64 a0.2.2.2.1, .int .i64 a0.2.2.2.2.1, .int .i64 a0.2.2.2.2.2.1, .int .i64 a0.2.2.2.2.2.2.1, .int .i64 a0.2.2.2.2.2.2.2.1, .int .i64 a0.2.2.2.2.2.2.2.2.1, .int .i64 a0.2.2.2.2.2.2.2.2.2.1, .int .i64 a0.2.2.2.2.2.2.2.2.2.2.1, .bool a0.2.2.2.2.2.2.2.2.2.2.2.1, .bool a0.2.2.2.2.2.2.2.2.2.2.2.2], [])
noncomputable def v35 (a0 : Ty.T y49) : (Ty.T y49) := a0
theorem o35 (a0 : Ty.T y49) : u35 a0 = some (f35 (v35 a0)) := rfl
noncomputable def p35 : Prim := ⟨[.agg [.dat y49 true]], fun v => .done (f35 (v35 v.1))⟩
theorem ok35 : PrimOk Try.prog 35 p35 := primOk_eq E35.ok orders fun v => Eq.trans (b := u35 v.1) (by kernel_rfl) (o35 v.1)
noncomputable def f22 (r : (List (Ty.T y49))) : AV × Sig := (.one (.sl 4096), [(4096, .arr 50 y49 r false)])
noncomputable def E22 : EnvOk Try.prog := (E0.p ok35)
@[reducible] noncomputable def ss22_0 : List SP := .one (.dat (.sl 60 y49) true) :: .und :: .one (.dat (.sl 50 y49) false) :: .one (.own 7) :: .one (.dat (.int .i64) true) :: U16 (U2 ([]))
@[reducible] noncomputable def gs22_0 : List (Nat × GP) := [(7, .arr 50 y49 false)]
@[reducible] noncomputable def V22_0 : Type := (List (Ty.T y49)) × (List (Ty.T y49)) × Int × (List (Ty.T y49)) × Unit
theorem wf22_0 : wfSt ss22_0 gs22_0 := wf_of (by kernel_rfl)
noncomputable def t22_0 (v : V22_0) {Z : Type} (κ : Nat × V22_0 → Option Z) : Option Z := cond (decide (v.2.2.1 < ((v.1).length : Int))) (if 0 ≤ v.2.2.1 then (optC ((v.1)[(v.2.2.1).toNat]?) (fun x1 => if 0 ≤ v.2.2.1 then (if v.2.2.1 < ((v.2.2.2.1).length : Int) then (optC ((v.2.2.2.1)[(v.2.2.1).toNat]?) (fun x2 => κ (0, (v.1, v.2.1, IntKind.wrap .i64 (v.2.2.1 + (1 : Int)), v.2.2.2.1.set ((v.2.2.1).toNat) (v35 x1), ())))) else none) else none)) else none) (κ (1, (v.1, v.2.1, v.2.2.1, v.2.2.2.1, ())))
noncomputable def s22_0 (v : V22_0) : Option (Nat × V22_0) := t22_0 v some
noncomputable def n22_0 (v : V22_0) : Nat := v.1.length + v.2.1.length + v.2.2.1.toNat + v.2.2.2.1.length + 100
noncomputable def k22_0 (h0 : List (Ty.T y49)) (h1 : List (Ty.T y49)) (h2 : Int) (h3 : List (Ty.T y49)) (c : Nat) : Bool := iterAt s22_0 (n22_0 (h0, h1, h2, h3, ())) (h0, h1, h2, h3, ()) c
noncomputable def w22_0 (h0 : List (Ty.T y49)) (h1 : List (Ty.T y49)) (h2 : Int) (h3 : List (Ty.T y49)) : V22_0 := iterV s22_0 (n22_0 (h0, h1, h2, h3, ())) (h0, h1, h2, h3, ())
noncomputable def F22_0 (v : V22_0) : Ways (Ex × St) := waysOf s22_0 (n22_0 v) v (bldSt ss22_0 gs22_0) [.exit 0] 0
theorem l22_0 : LoopOk Try.prog (loopAt [true, true, false, true] (bodyOf Try.f22)) ss22_0 gs22_0 F22_0 := loopOk_iter (lt := .none) E22.ok orders (LtOk.no _) fun n v K => Eq.trans (b := t22_0 v (kont _ _ _ _ _ K)) (by kernel_rfl) (show t22_0 v _ = (t22_0 v some).bind _ from (bnd_cond (bnd_ite (bnd_opt fun x1 => (bnd_ite (bnd_ite (bnd_opt fun x2 => rfl))))) rfl))
noncomputable def E22l : EnvOk Try.prog := E22.l (g := 22) (t := (ltPut [true, true, false, true] (bodyOf Try.f22) .none (.sum ss22_0 gs22_0 F22_0))) (ltOk_of Try.func22 (LtOk.put wf22_0 (LtOk.no _) l22_0))
noncomputable def u22 (a0 : List (Ty.T y49)) : Option (AV × Sig) := if ((a0).length : Int) = ((a0).length : Int) then (if ((a0).length : Int).toNat * 96 ≤ 140737488351232 then (cond (k22_0 a0 [] 0 (List.replicate ((a0).length : Int).toNat ((0, 0, 0, 0, 0, 0, 0, 0, 0, 0, 0, false, false) : Ty.T y49)) 0) (some (.one (.sl 4096), [(4096, .arr 50 y49 (w22_0 a0 [] 0 (List.replicate ((a0).length : Int).toNat ((0, 0, 0, 0, 0, 0, 0, 0, 0, 0, 0, false, false) : Ty.T y49))).2.2.2.1 false)])) (none)) else none) else none
noncomputable def v22 (a0 : List (Ty.T y49)) : (List (Ty.T y49)) := cond (k22_0 a0 [] 0 (List.replicate ((a0).length : Int).toNat ((0, 0, 0, 0, 0, 0, 0, 0, 0, 0, 0, false, false) : Ty.T y49)) 0) ((w22_0 a0 [] 0 (List.replicate ((a0).length : Int).toNat ((0, 0, 0, 0, 0, 0, 0, 0, 0, 0, 0, false, false) : Ty.T y49))).2.2.2.1) ([])
noncomputable def d22 (a0 : List (Ty.T y49)) : Bool := decide (((a0).length : Int) = ((a0).length : Int)) && (decide (((a0).length : Int).toNat * 96 ≤ 140737488351232) && (cond (k22_0 a0 [] 0 (List.replicate ((a0).length : Int).toNat ((0, 0, 0, 0, 0, 0, 0, 0, 0, 0, 0, false, false) : Ty.T y49)) 0) (true) (false)))
theorem o22 (a0 : List (Ty.T y49)) : u22 a0 = cond (d22 a0) (some (f22 (v22 a0))) none := (par_ite (par_ite (par_cond (par_some _) (par_none _))))
noncomputable def p22 : Prim := ⟨[.one (.dat (.sl 60 y49) true)], fun v => .br (d22 v.1) (.done (f22 (v22 v.1))) .no⟩
theorem ok22 : PrimOk Try.prog 22 p22 := primOk_eq E22l.ok orders fun v => Eq.trans (b := u22 v.1) (by kernel_rfl) (o22 v.1)
noncomputable def f36 (r : (Ty.T y70)) : AV × Sig := (.agg (y70.cells false r), [])
noncomputable def E36 : EnvOk Try.prog := E0
noncomputable def u36 (a0 : Ty.T y70) : Option (AV × Sig) := some (.agg [.int .i64 a0.1, .int .i64 a0.2.1, .bool a0.2.2], [])
noncomputable def v36 (a0 : Ty.T y70) : (Ty.T y70) := a0
theorem o36 (a0 : Ty.T y70) : u36 a0 = some (f36 (v36 a0)) := rfl
noncomputable def p36 : Prim := ⟨[.agg [.dat y70 true]], fun v => .done (f36 (v36 v.1))⟩
theorem ok36 : PrimOk Try.prog 36 p36 := primOk_eq E36.ok orders fun v => Eq.trans (b := u36 v.1) (by kernel_rfl) (o36 v.1)
noncomputable def f23 (r : (List (Ty.T y70))) : AV × Sig := (.one (.sl 4096), [(4096, .arr 71 y70 r false)])
noncomputable def E23 : EnvOk Try.prog := (E0.p ok36)
@[reducible] noncomputable def ss23_0 : List SP := .one (.dat (.sl 73 y70) true) :: .und :: .one (.dat (.sl 71 y70) false) :: .one (.own 7) :: .one (.dat (.int .i64) true) :: U16 (U2 ([]))
@[reducible] noncomputable def gs23_0 : List (Nat × GP) := [(7, .arr 71 y70 false)]
@[reducible] noncomputable def V23_0 : Type := (List (Ty.T y70)) × (List (Ty.T y70)) × Int × (List (Ty.T y70)) × Unit
theorem wf23_0 : wfSt ss23_0 gs23_0 := wf_of (by kernel_rfl)
noncomputable def t23_0 (v : V23_0) {Z : Type} (κ : Nat × V23_0 → Option Z) : Option Z := cond (decide (v.2.2.1 < ((v.1).length : Int))) (if 0 ≤ v.2.2.1 then (optC ((v.1)[(v.2.2.1).toNat]?) (fun x1 => if 0 ≤ v.2.2.1 then (if v.2.2.1 < ((v.2.2.2.1).length : Int) then (optC ((v.2.2.2.1)[(v.2.2.1).toNat]?) (fun x2 => κ (0, (v.1, v.2.1, IntKind.wrap .i64 (v.2.2.1 + (1 : Int)), v.2.2.2.1.set ((v.2.2.1).toNat) (v36 x1), ())))) else none) else none)) else none) (κ (1, (v.1, v.2.1, v.2.2.1, v.2.2.2.1, ())))
noncomputable def s23_0 (v : V23_0) : Option (Nat × V23_0) := t23_0 v some
noncomputable def n23_0 (v : V23_0) : Nat := v.1.length + v.2.1.length + v.2.2.1.toNat + v.2.2.2.1.length + 100
noncomputable def k23_0 (h0 : List (Ty.T y70)) (h1 : List (Ty.T y70)) (h2 : Int) (h3 : List (Ty.T y70)) (c : Nat) : Bool := iterAt s23_0 (n23_0 (h0, h1, h2, h3, ())) (h0, h1, h2, h3, ()) c
noncomputable def w23_0 (h0 : List (Ty.T y70)) (h1 : List (Ty.T y70)) (h2 : Int) (h3 : List (Ty.T y70)) : V23_0 := iterV s23_0 (n23_0 (h0, h1, h2, h3, ())) (h0, h1, h2, h3, ())
noncomputable def F23_0 (v : V23_0) : Ways (Ex × St) := waysOf s23_0 (n23_0 v) v (bldSt ss23_0 gs23_0) [.exit 0] 0
theorem l23_0 : LoopOk Try.prog (loopAt [true, true, false, true] (bodyOf Try.f23)) ss23_0 gs23_0 F23_0 := loopOk_iter (lt := .none) E23.ok orders (LtOk.no _) fun n v K => Eq.trans (b := t23_0 v (kont _ _ _ _ _ K)) (by kernel_rfl) (show t23_0 v _ = (t23_0 v some).bind _ from (bnd_cond (bnd_ite (bnd_opt fun x1 => (bnd_ite (bnd_ite (bnd_opt fun x2 => rfl))))) rfl))
noncomputable def E23l : EnvOk Try.prog := E23.l (g := 23) (t := (ltPut [true, true, false, true] (bodyOf Try.f23) .none (.sum ss23_0 gs23_0 F23_0))) (ltOk_of Try.func23 (LtOk.put wf23_0 (LtOk.no _) l23_0))
noncomputable def u23 (a0 : List (Ty.T y70)) : Option (AV × Sig) := if ((a0).length : Int) = ((a0).length : Int) then (if ((a0).length : Int).toNat * 24 ≤ 140737488351232 then (cond (k23_0 a0 [] 0 (List.replicate ((a0).length : Int).toNat ((0, 0, false) : Ty.T y70)) 0) (some (.one (.sl 4096), [(4096, .arr 71 y70 (w23_0 a0 [] 0 (List.replicate ((a0).length : Int).toNat ((0, 0, false) : Ty.T y70))).2.2.2.1 false)])) (none)) else none) else none
noncomputable def v23 (a0 : List (Ty.T y70)) : (List (Ty.T y70)) := cond (k23_0 a0 [] 0 (List.replicate ((a0).length : Int).toNat ((0, 0, false) : Ty.T y70)) 0) ((w23_0 a0 [] 0 (List.replicate ((a0).length : Int).toNat ((0, 0, false) : Ty.T y70))).2.2.2.1) ([])
noncomputable def d23 (a0 : List (Ty.T y70)) : Bool := decide (((a0).length : Int) = ((a0).length : Int)) && (decide (((a0).length : Int).toNat * 24 ≤ 140737488351232) && (cond (k23_0 a0 [] 0 (List.replicate ((a0).length : Int).toNat ((0, 0, false) : Ty.T y70)) 0) (true) (false)))
theorem o23 (a0 : List (Ty.T y70)) : u23 a0 = cond (d23 a0) (some (f23 (v23 a0))) none := (par_ite (par_ite (par_cond (par_some _) (par_none _))))
noncomputable def p23 : Prim := ⟨[.one (.dat (.sl 73 y70) true)], fun v => .br (d23 v.1) (.done (f23 (v23 v.1))) .no⟩
theorem ok23 : PrimOk Try.prog 23 p23 := primOk_eq E23l.ok orders fun v => Eq.trans (b := u23 v.1) (by kernel_rfl) (o23 v.1)
noncomputable def f7 (r : Int × Int × (List (Ty.T y49)) × (List (Ty.T y70))) : AV × Sig := (.agg ([.sl 4096] ++ [.sl 8192] ++ [.int .i64 r.1] ++ [.int .i64 r.2.1]), [(4096, .arr 50 y49 r.2.2.1 false), (8192, .arr 71 y70 r.2.2.2 false)])
noncomputable def E7 : EnvOk Try.prog := ((E0.p ok22).p ok23)
noncomputable def u7 (a0 : Ty.T y24) : Option (AV × Sig) := cond (d22 a0.1) (cond (d23 a0.2.1) (some (.agg [.sl 4096, .sl 8192, .int .i64 a0.2.2.1, .int .i64 a0.2.2.2], [(4096, .arr 50 y49 (v22 a0.1) false), (8192, .arr 71 y70 (v23 a0.2.1) false)])) (none)) (none)
noncomputable def v7 (a0 : Ty.T y24) : Int × Int × (List (Ty.T y49)) × (List (Ty.T y70)) := cond (d22 a0.1) (cond (d23 a0.2.1) ((a0.2.2.1, a0.2.2.2, (v22 a0.1), (v23 a0.2.1))) ((0, 0, [], []))) ((0, 0, [], []))
noncomputable def d7 (a0 : Ty.T y24) : Bool := cond (d22 a0.1) (cond (d23 a0.2.1) (true) (false)) (false)
theorem o7 (a0 : Ty.T y24) : u7 a0 = cond (d7 a0) (some (f7 (v7 a0))) none := (par_cond (par_cond (par_some _) (par_none _)) (par_none _))
noncomputable def p7 : Prim := ⟨[.agg [.dat y24 true]], fun v => .br (d7 v.1) (.done (f7 (v7 v.1))) .no⟩
theorem ok7 : PrimOk Try.prog 7 p7 := primOk_eq E7.ok orders fun v => Eq.trans (b := u7 v.1) (by kernel_rfl) (o7 v.1)
noncomputable def f37 (r : (Ty.T y47)) : AV × Sig := (.agg (y47.cells false r), [])
noncomputable def E37 : EnvOk Try.prog := E0
noncomputable def u37 (a0 : Ty.T y47) : Option (AV × Sig) := some (.agg [.int .i64 a0.1, .int .i64 a0.2.1, .int .i64 a0.2.2.1, .int .i64 a0.2.2.2.1, .int .i64 a0.2.2.2.2.1, .int .i64 a0.2.2.2.2.2.1, .bool a0.2.2.2.2.2.2], [])
noncomputable def v37 (a0 : Ty.T y47) : (Ty.T y47) := a0
theorem o37 (a0 : Ty.T y47) : u37 a0 = some (f37 (v37 a0)) := rfl
noncomputable def p37 : Prim := ⟨[.agg [.dat y47 true]], fun v => .done (f37 (v37 v.1))⟩
theorem ok37 : PrimOk Try.prog 37 p37 := primOk_eq E37.ok orders fun v => Eq.trans (b := u37 v.1) (by kernel_rfl) (o37 v.1)
noncomputable def f24 (r : (Ty.T y51)) : AV × Sig := (.agg (y51.cells false r), [])
noncomputable def E24 : EnvOk Try.prog := ((E0.p ok35).p ok37)
noncomputable def u24 (a0 : Ty.T y51) : Option (AV × Sig) := some (.agg [.int .i64 a0.1, .int .i64 (v37 a0.2.1).1, .int .i64 (v37 a0.2.1).2.1, .int .i64 (v37 a0.2.1).2.2.1, .int .i64 (v37 a0.2.1).2.2.2.1, .int .i64 (v37 a0.2.1).2.2.2.2.1, .int .i64 (v37 a0.2.1).2.2.2.2.2.1, .bool (v37 a0.2.1).2.2.2.2.2.2, .int .i64 a0.2.2.1, .int .i64 a0.2.2.2.1, .int .i64 (v35 a0.2.2.2.2).1, .int .i64 (v35 a0.2.2.2.2).2.1, .int .i64 (v35 a0.2.2.2.2).2.2.1, .int .i64 (v35 a0.2.2.2.2).2.2.2.1, .int .i64 (v35 a0.2.2.2.2).2.2.2.2.1, .int .i64 (v35 a0.2.2.2.2).2.2.2.2.2.1, .int .i64 (v35 a0.2.2.2.2).2.2.2.2.2.2.1, .int .i64 (v35 a0.2.2.2.2).2.2.2.2.2.2.2.1, .int .i64 (v35 a0.2.2.2.2).2.2.2.2.2.2.2.2.1, .int .i64 (v35 a0.2.2.2.2).2.2.2.2.2.2.2.2.2.1, .int .i64 (v35 a0.2.2.2.2).2.2.2.2.2.2.2.2.2.2.1, .bool (v35 a0.2.2.2.2).2.2.2.2.2.2.2.2.2.2.2.1, .bool (v35 a0.2.2.2.2).2.2.2.2.2.2.2.2.2.2.2.2], [])
noncomputable def v24 (a0 : Ty.T y51) : (Ty.T y51) := (a0.1, (v37 a0.2.1), a0.2.2.1, a0.2.2.2.1, (v35 a0.2.2.2.2))
theorem o24 (a0 : Ty.T y51) : u24 a0 = some (f24 (v24 a0)) := rfl
noncomputable def p24 : Prim := ⟨[.agg [.dat y51 true]], fun v => .done (f24 (v24 v.1))⟩
theorem ok24 : PrimOk Try.prog 24 p24 := primOk_eq E24.ok orders fun v => Eq.trans (b := u24 v.1) (by kernel_rfl) (o24 v.1)
noncomputable def f8 (r : (List (Ty.T y51))) : AV × Sig := (.one (.sl 4096), [(4096, .arr 52 y51 r false)])
noncomputable def E8 : EnvOk Try.prog := (E0.p ok24)
@[reducible] noncomputable def ss8_0 : List SP := .one (.dat (.sl 62 y51) true) :: .und :: .one (.dat (.sl 52 y51) false) :: .one (.own 7) :: .one (.dat (.int .i64) true) :: U16 (U2 ([]))
@[reducible] noncomputable def gs8_0 : List (Nat × GP) := [(7, .arr 52 y51 false)]
@[reducible] noncomputable def V8_0 : Type := (List (Ty.T y51)) × (List (Ty.T y51)) × Int × (List (Ty.T y51)) × Unit
theorem wf8_0 : wfSt ss8_0 gs8_0 := wf_of (by kernel_rfl)
noncomputable def t8_0 (v : V8_0) {Z : Type} (κ : Nat × V8_0 → Option Z) : Option Z := cond (decide (v.2.2.1 < ((v.1).length : Int))) (if 0 ≤ v.2.2.1 then (optC ((v.1)[(v.2.2.1).toNat]?) (fun x1 => if 0 ≤ v.2.2.1 then (if v.2.2.1 < ((v.2.2.2.1).length : Int) then (optC ((v.2.2.2.1)[(v.2.2.1).toNat]?) (fun x2 => κ (0, (v.1, v.2.1, IntKind.wrap .i64 (v.2.2.1 + (1 : Int)), v.2.2.2.1.set ((v.2.2.1).toNat) (v24 x1), ())))) else none) else none)) else none) (κ (1, (v.1, v.2.1, v.2.2.1, v.2.2.2.1, ())))
noncomputable def s8_0 (v : V8_0) : Option (Nat × V8_0) := t8_0 v some
noncomputable def n8_0 (v : V8_0) : Nat := v.1.length + v.2.1.length + v.2.2.1.toNat + v.2.2.2.1.length + 100
noncomputable def k8_0 (h0 : List (Ty.T y51)) (h1 : List (Ty.T y51)) (h2 : Int) (h3 : List (Ty.T y51)) (c : Nat) : Bool := iterAt s8_0 (n8_0 (h0, h1, h2, h3, ())) (h0, h1, h2, h3, ()) c
noncomputable def w8_0 (h0 : List (Ty.T y51)) (h1 : List (Ty.T y51)) (h2 : Int) (h3 : List (Ty.T y51)) : V8_0 := iterV s8_0 (n8_0 (h0, h1, h2, h3, ())) (h0, h1, h2, h3, ())
noncomputable def F8_0 (v : V8_0) : Ways (Ex × St) := waysOf s8_0 (n8_0 v) v (bldSt ss8_0 gs8_0) [.exit 0] 0
theorem l8_0 : LoopOk Try.prog (loopAt [true, true, false, true] (bodyOf Try.f8)) ss8_0 gs8_0 F8_0 := loopOk_iter (lt := .none) E8.ok orders (LtOk.no _) fun n v K => Eq.trans (b := t8_0 v (kont _ _ _ _ _ K)) (by kernel_rfl) (show t8_0 v _ = (t8_0 v some).bind _ from (bnd_cond (bnd_ite (bnd_opt fun x1 => (bnd_ite (bnd_ite (bnd_opt fun x2 => rfl))))) rfl))
noncomputable def E8l : EnvOk Try.prog := E8.l (g := 8) (t := (ltPut [true, true, false, true] (bodyOf Try.f8) .none (.sum ss8_0 gs8_0 F8_0))) (ltOk_of Try.func8 (LtOk.put wf8_0 (LtOk.no _) l8_0))
noncomputable def u8 (a0 : List (Ty.T y51)) : Option (AV × Sig) := if ((a0).length : Int) = ((a0).length : Int) then (if ((a0).length : Int).toNat * 176 ≤ 140737488351232 then (cond (k8_0 a0 [] 0 (List.replicate ((a0).length : Int).toNat ((0, (0, 0, 0, 0, 0, 0, false), 0, 0, 0, 0, 0, 0, 0, 0, 0, 0, 0, 0, 0, false, false) : Ty.T y51)) 0) (some (.one (.sl 4096), [(4096, .arr 52 y51 (w8_0 a0 [] 0 (List.replicate ((a0).length : Int).toNat ((0, (0, 0, 0, 0, 0, 0, false), 0, 0, 0, 0, 0, 0, 0, 0, 0, 0, 0, 0, 0, false, false) : Ty.T y51))).2.2.2.1 false)])) (none)) else none) else none
noncomputable def v8 (a0 : List (Ty.T y51)) : (List (Ty.T y51)) := cond (k8_0 a0 [] 0 (List.replicate ((a0).length : Int).toNat ((0, (0, 0, 0, 0, 0, 0, false), 0, 0, 0, 0, 0, 0, 0, 0, 0, 0, 0, 0, 0, false, false) : Ty.T y51)) 0) ((w8_0 a0 [] 0 (List.replicate ((a0).length : Int).toNat ((0, (0, 0, 0, 0, 0, 0, false), 0, 0, 0, 0, 0, 0, 0, 0, 0, 0, 0, 0, 0, false, false) : Ty.T y51))).2.2.2.1) ([])
noncomputable def d8 (a0 : List (Ty.T y51)) : Bool := decide (((a0).length : Int) = ((a0).length : Int)) && (decide (((a0).length : Int).toNat * 176 ≤ 140737488351232) && (cond (k8_0 a0 [] 0 (List.replicate ((a0).length : Int).toNat ((0, (0, 0, 0, 0, 0, 0, false), 0, 0, 0, 0, 0, 0, 0, 0, 0, 0, 0, 0, 0, false, false) : Ty.T y51)) 0) (true) (false)))
theorem o8 (a0 : List (Ty.T y51)) : u8 a0 = cond (d8 a0) (some (f8 (v8 a0))) none := (par_ite (par_ite (par_cond (par_some _) (par_none _))))
noncomputable def p8 : Prim := ⟨[.one (.dat (.sl 62 y51) true)], fun v => .br (d8 v.1) (.done (f8 (v8 v.1))) .no⟩
theorem ok8 : PrimOk Try.prog 8 p8 := primOk_eq E8l.ok orders fun v => Eq.trans (b := u8 v.1) (by kernel_rfl) (o8 v.1)
noncomputable def f25 (r : Bool) : AV × Sig := (.one (.bool r), [])
noncomputable def E25 : EnvOk Try.prog := E0
noncomputable def t25 (a0 : Ty.T y49) (a1 : Int) {Z : Type} (κ : Bool → Z) : Z := cond (a1 == (1 : Int)) (cond (a1 == (1 : Int)) (κ ((IntKind.wrap .i64 ((BitVec.ofInt (IntKind.bits .i64) a0.2.2.2.2.2.2.2.1 &&& BitVec.ofInt (IntKind.bits .i64) a1).toNat : Int)) != (0 : Int))) (κ false)) (cond (a1 == (2 : Int)) (cond (a1 == (2 : Int)) (κ ((IntKind.wrap .i64 ((BitVec.ofInt (IntKind.bits .i64) a0.2.2.2.2.2.2.2.1 &&& BitVec.ofInt (IntKind.bits .i64) a1).toNat : Int)) != (0 : Int))) (κ false)) (cond (a1 == (4 : Int)) (cond (a1 == (4 : Int)) (κ ((IntKind.wrap .i64 ((BitVec.ofInt (IntKind.bits .i64) a0.2.2.2.2.2.2.2.1 &&& BitVec.ofInt (IntKind.bits .i64) a1).toNat : Int)) != (0 : Int))) (κ false)) (cond (a1 == (8 : Int)) (cond (a1 == (8 : Int)) (κ ((IntKind.wrap .i64 ((BitVec.ofInt (IntKind.bits .i64) a0.2.2.2.2.2.2.2.1 &&& BitVec.ofInt (IntKind.bits .i64) a1).toNat : Int)) != (0 : Int))) (κ false)) (cond (a1 == (16 : Int)) (cond (a1 == (16 : Int)) (κ ((IntKind.wrap .i64 ((BitVec.ofInt (IntKind.bits .i64) a0.2.2.2.2.2.2.2.1 &&& BitVec.ofInt (IntKind.bits .i64) a1).toNat : Int)) != (0 : Int))) (κ false)) (cond (a1 == (32 : Int)) (κ ((IntKind.wrap .i64 ((BitVec.ofInt (IntKind.bits .i64) a0.2.2.2.2.2.2.2.1 &&& BitVec.ofInt (IntKind.bits .i64) a1).toNat : Int)) != (0 : Int))) (κ false))))))
noncomputable def v25 (a0 : Ty.T y49) (a1 : Int) : Bool := t25 a0 a1 fun r => r
noncomputable def p25 : Prim := ⟨[.agg [.dat y49 true], .one (.dat (.int .i64) true)], fun v => .done (f25 (v25 v.1 v.2.1))⟩
theorem ok25 : PrimOk Try.prog 25 p25 := primOk_eq E25.ok orders fun v => Eq.trans (b := (t25 v.1 v.2.1 (fun r => some (f25 r)))) (by kernel_rfl) (show t25 v.1 v.2.1 (fun r => some (f25 r)) = some (f25 (t25 v.1 v.2.1 fun r => r)) from (tot_cond (tot_cond rfl rfl) (tot_cond (tot_cond rfl rfl) (tot_cond (tot_cond rfl rfl) (tot_cond (tot_cond rfl rfl) (tot_cond (tot_cond rfl rfl) (tot_cond rfl rfl)))))))
noncomputable def f46c1 (r : Bool) : AV × Sig := (.one (.bool r), [])
noncomputable def E46c1 : EnvOk Try.prog := E0
noncomputable def u46c1 (a0 : Ty.T y49) (a1 : Int) : Option (AV × Sig) := some (.one (.bool (a0.1 == a1)), [])
noncomputable def v46c1 (a0 : Ty.T y49) (a1 : Int) : Bool := (a0.1 == a1)
theorem o46c1 (a0 : Ty.T y49) (a1 : Int) : u46c1 a0 a1 = some (f46c1 (v46c1 a0 a1)) := rfl
noncomputable def p46c1 : Prim := ⟨[.agg [.dat y49 true], .one (.ept (.int .i64))], fun v => .done (f46c1 (v46c1 v.1 v.2.1))⟩
theorem ok46c1 : PrimOk Try.prog 46 p46c1 := primOk_eq E46c1.ok orders fun v => Eq.trans (b := u46c1 v.1 v.2.1) (by kernel_rfl) (o46c1 v.1 v.2.1)
noncomputable def f45c1 (r : Int) : AV × Sig := (.one (.int .i64 r), [])
noncomputable def E45c1 : EnvOk Try.prog := (E0.p ok46c1)
@[reducible] noncomputable def ss45c1_0 : List SP := .one (.dat (.sl 50 y49) true) :: .one (.fnc 46 [(.int .i64)]) :: U2 (.one (.dat (.int .i64) true) :: U2 (.one (.dat (.int .i64) true) :: .one (.dat (.int .i64) true) :: U8 (U2 ([]))))
@[reducible] noncomputable def V45c1_0 : Type := (List (Ty.T y49)) × Int × Int × Int × Int × Unit
theorem wf45c1_0 : wfSt ss45c1_0 gs34_0 := wf_of (by kernel_rfl)
noncomputable def t45c1_0 (v : V45c1_0) {Z : Type} (κ : Nat × V45c1_0 → Option Z) : Option Z := cond (decide (v.2.2.2.2.1 < v.2.2.2.1)) (if 0 ≤ v.2.2.2.2.1 then (optC ((v.1)[(v.2.2.2.2.1).toNat]?) (fun x1 => cond (v46c1 x1 v.2.1) (κ (1, (v.1, v.2.1, v.2.2.2.2.1, v.2.2.2.1, v.2.2.2.2.1, ()))) (κ (0, (v.1, v.2.1, v.2.2.1, v.2.2.2.1, IntKind.wrap .i64 (v.2.2.2.2.1 + (1 : Int)), ()))))) else none) (κ (2, (v.1, v.2.1, v.2.2.1, v.2.2.2.1, v.2.2.2.2.1, ())))
noncomputable def s45c1_0 (v : V45c1_0) : Option (Nat × V45c1_0) := t45c1_0 v some
noncomputable def n45c1_0 (v : V45c1_0) : Nat := v.1.length + v.2.1.toNat + v.2.2.1.toNat + v.2.2.2.1.toNat + v.2.2.2.2.1.toNat + 100
noncomputable def k45c1_0 (h0 : List (Ty.T y49)) (h1 : Int) (h2 : Int) (h3 : Int) (h4 : Int) (c : Nat) : Bool := iterAt s45c1_0 (n45c1_0 (h0, h1, h2, h3, h4, ())) (h0, h1, h2, h3, h4, ()) c
noncomputable def w45c1_0 (h0 : List (Ty.T y49)) (h1 : Int) (h2 : Int) (h3 : Int) (h4 : Int) : V45c1_0 := iterV s45c1_0 (n45c1_0 (h0, h1, h2, h3, h4, ())) (h0, h1, h2, h3, h4, ())
noncomputable def F45c1_0 (v : V45c1_0) : Ways (Ex × St) := waysOf s45c1_0 (n45c1_0 v) v (bldSt ss45c1_0 gs34_0) [.ret, .exit 0] 0
theorem l45c1_0 : LoopOk Try.prog (loopAt [true, false, true] (bodyOf Try.f45)) ss45c1_0 gs34_0 F45c1_0 := loopOk_iter (lt := .none) E45c1.ok orders (LtOk.no _) fun n v K => Eq.trans (b := t45c1_0 v (kont _ _ _ _ _ K)) (by kernel_rfl) (show t45c1_0 v _ = (t45c1_0 v some).bind _ from (bnd_cond (bnd_ite (bnd_opt fun x1 => (bnd_cond rfl rfl))) rfl))
noncomputable def E45c1l : EnvOk Try.prog := E45c1.l (g := 45) (t := (ltPut [true, false, true] (bodyOf Try.f45) .none (.sum ss45c1_0 gs34_0 F45c1_0))) (ltOk_of Try.func45 (LtOk.put wf45c1_0 (LtOk.no _) l45c1_0))
noncomputable def u45c1 (a0 : List (Ty.T y49)) (a1_0 : Int) : Option (AV × Sig) := cond (k45c1_0 a0 a1_0 0 ((a0).length : Int) 0 0) (some (.one (.int .i64 (w45c1_0 a0 a1_0 0 ((a0).length : Int) 0).2.2.1), [])) (cond (k45c1_0 a0 a1_0 0 ((a0).length : Int) 0 1) (some (.one (.int .i64 (-1)), [])) (none))
noncomputable def v45c1 (a0 : List (Ty.T y49)) (a1_0 : Int) : Int := cond (k45c1_0 a0 a1_0 0 ((a0).length : Int) 0 0) ((w45c1_0 a0 a1_0 0 ((a0).length : Int) 0).2.2.1) (cond (k45c1_0 a0 a1_0 0 ((a0).length : Int) 0 1) ((-1)) (0))
noncomputable def d45c1 (a0 : List (Ty.T y49)) (a1_0 : Int) : Bool := cond (k45c1_0 a0 a1_0 0 ((a0).length : Int) 0 0) (true) (cond (k45c1_0 a0 a1_0 0 ((a0).length : Int) 0 1) (true) (false))
theorem o45c1 (a0 : List (Ty.T y49)) (a1_0 : Int) : u45c1 a0 a1_0 = cond (d45c1 a0 a1_0) (some (f45c1 (v45c1 a0 a1_0))) none := (par_cond (par_some _) (par_cond (par_some _) (par_none _)))
noncomputable def p45c1 : Prim := ⟨[.one (.dat (.sl 50 y49) true), .one (.fnc 46 [(.int .i64)])], fun v => .br (d45c1 v.1 v.2.1) (.done (f45c1 (v45c1 v.1 v.2.1))) .no⟩
theorem ok45c1 : PrimOk Try.prog 45 p45c1 := primOk_eq E45c1l.ok orders fun v => Eq.trans (b := u45c1 v.1 v.2.1) (by kernel_rfl) (o45c1 v.1 v.2.1)
noncomputable def f38 (r : Int) : AV × Sig := (.one (.int .i64 r), [])
noncomputable def E38 : EnvOk Try.prog := (E0.p ok45c1)
noncomputable def u38 (a0 : Ty.T y33) (a1 : Int) : Option (AV × Sig) := cond (d45c1 a0.1 a1) (some (.one (.int .i64 (v45c1 a0.1 a1)), [])) (none)
noncomputable def v38 (a0 : Ty.T y33) (a1 : Int) : Int := cond (d45c1 a0.1 a1) ((v45c1 a0.1 a1)) (0)
noncomputable def d38 (a0 : Ty.T y33) (a1 : Int) : Bool := cond (d45c1 a0.1 a1) (true) (false)
theorem o38 (a0 : Ty.T y33) (a1 : Int) : u38 a0 a1 = cond (d38 a0 a1) (some (f38 (v38 a0 a1))) none := (par_cond (par_some _) (par_none _))
noncomputable def p38 : Prim := ⟨[.agg [.dat y33 true], .one (.dat (.int .i64) true)], fun v => .br (d38 v.1 v.2.1) (.done (f38 (v38 v.1 v.2.1))) .no⟩
theorem ok38 : PrimOk Try.prog 38 p38 := primOk_eq E38.ok orders fun v => Eq.trans (b := u38 v.1 v.2.1) (by kernel_rfl) (o38 v.1 v.2.1)
noncomputable def f26 (r : (Ty.T y49)) : AV × Sig := (.agg (y49.cells false r), [])
noncomputable def E26 : EnvOk Try.prog := (E0.p ok38)
noncomputable def t26 (a0 : Ty.T y33) (a1 : Ty.T y47) {Z : Type} (κ : (Ty.T y49) → Option Z) : Option Z := cond (d38 a0 a1.2.1) (cond (a1.1 != (1 : Int)) (κ (0, 0, 0, 0, 0, 0, 0, 0, 0, 0, 0, false, false)) (cond (decide ((v38 a0 a1.2.1) < (0 : Int))) (κ (0, 0, 0, 0, 0, 0, 0, 0, 0, 0, 0, false, false)) (if 0 ≤ (v38 a0 a1.2.1) then (optC ((a0.1)[(v38 a0 a1.2.1).toNat]?) (fun x1 => κ x1)) else none))) (none)
noncomputable def v26 (a0 : Ty.T y33) (a1 : Ty.T y47) : (Ty.T y49) := (t26 a0 a1 some).getD (Ty.zero y49)
noncomputable def d26 (a0 : Ty.T y33) (a1 : Ty.T y47) : Bool := (t26 a0 a1 some).isSome
noncomputable def p26 : Prim := ⟨[.agg [.dat y33 true], .agg [.dat y47 true]], fun v => .br (d26 v.1 v.2.1) (.done (f26 (v26 v.1 v.2.1))) .no⟩
theorem ok26 : PrimOk Try.prog 26 p26 := primOk_eq E26.ok orders fun v => Eq.trans (b := (t26 v.1 v.2.1 (fun r => some (f26 r)))) (by kernel_rfl) (run_fin (show t26 v.1 v.2.1 (fun r => some (f26 r)) = (t26 v.1 v.2.1 some).bind _ from (bnd_cond (bnd_cond rfl (bnd_cond rfl (bnd_ite (bnd_opt fun x1 => rfl)))) rfl)))
noncomputable def f27 (r : List (Ty.T (.int .i64))) : AV × Sig := (.one (.sl 4096), [(4096, .arr 3 (.int .i64) r false)])
noncomputable def v27 (a0 : List (Ty.T (.int .i64))) : List (Ty.T (.int .i64)) := setI a0
noncomputable def d27 (a0 : List (Ty.T (.int .i64))) : Bool := decide (List.length (α := Int) a0 ≤ 17592186044416)
noncomputable def p27 : Prim := ⟨[.one (.dat (.sl 3 (.int .i64)) true)], fun v => .br (d27 v.1) (.done (f27 (v27 v.1))) .no⟩
theorem ok27 : PrimOk Try.prog 27 p27 := okSet
noncomputable def f9 (r : (List (Ty.T (.int .i64)))) : AV × Sig := (.one (.sl 4096), [(4096, .arr 3 (.int .i64) r false)])
noncomputable def E9 : EnvOk Try.prog := (((E0.p ok25).p ok26).p ok27)
@[reducible] noncomputable def ss9_0 : List SP := U2 (.one (.ptr 2 0) :: .und :: .one (.dat (.sl 3 (.int .i64)) false) :: .one (.own 8) :: U2 (.und :: .one (.dat (.sl 52 y51) true) :: .one (.dat (.int .i64) true) :: .one (.dat (.int .i64) true) :: U32 (.und :: [])))
@[reducible] noncomputable def gs9_0 : List (Nat × GP) := [(2, .box 34 [.dat y33 true]), (8, .arr 3 (.int .i64) false)]
@[reducible] noncomputable def V9_0 : Type := (List (Ty.T (.int .i64))) × (List (Ty.T y51)) × Int × Int × (Ty.T y33) × (List (Ty.T (.int .i64))) × Unit
theorem wf9_0 : wfSt ss9_0 gs9_0 := wf_of (by kernel_rfl)
noncomputable def t9_0 (v : V9_0) {Z : Type} (κ : Nat × V9_0 → Option Z) : Option Z := cond (decide (v.2.2.2.1 < v.2.2.1)) (if 0 ≤ v.2.2.2.1 then (optC ((v.2.1)[(v.2.2.2.1).toNat]?) (fun x1 => cond (x1.1 == (1 : Int)) (cond (decide (x1.2.2.1 ≥ (1 : Int))) (cond (x1.2.1.2.2.1 != (0 : Int)) (cond (d26 v.2.2.2.2.1 x1.2.1) (cond (v25 (v26 v.2.2.2.2.1 x1.2.1) 4) (if (v.2.2.2.2.2.1 ++ [x1.2.1.2.2.1] : List (Ty.T (.int .i64))).length * 8 ≤ 140737488351232 then (κ (0, (v.1, v.2.1, v.2.2.1, IntKind.wrap .i64 (v.2.2.2.1 + (1 : Int)), v.2.2.2.2.1, v.2.2.2.2.2.1 ++ [x1.2.1.2.2.1], ()))) else none) (κ (0, (v.1, v.2.1, v.2.2.1, IntKind.wrap .i64 (v.2.2.2.1 + (1 : Int)), v.2.2.2.2.1, v.2.2.2.2.2.1, ())))) (none)) (κ (0, (v.1, v.2.1, v.2.2.1, IntKind.wrap .i64 (v.2.2.2.1 + (1 : Int)), v.2.2.2.2.1, v.2.2.2.2.2.1, ())))) (κ (0, (v.1, v.2.1, v.2.2.1, IntKind.wrap .i64 (v.2.2.2.1 + (1 : Int)), v.2.2.2.2.1, v.2.2.2.2.2.1, ())))) (κ (0, (v.1, v.2.1, v.2.2.1, IntKind.wrap .i64 (v.2.2.2.1 + (1 : Int)), v.2.2.2.2.1, v.2.2.2.2.2.1, ()))))) else none) (κ (1, (v.1, v.2.1, v.2.2.1, v.2.2.2.1, v.2.2.2.2.1, v.2.2.2.2.2.1, ())))
noncomputable def s9_0 (v : V9_0) : Option (Nat × V9_0) := t9_0 v some
noncomputable def n9_0 (v : V9_0) : Nat := v.1.length + v.2.1.length + v.2.2.1.toNat + v.2.2.2.1.toNat + v.2.2.2.2.1.1.length + v.2.2.2.2.1.2.1.length + v.2.2.2.2.2.1.length + 100
noncomputable def k9_0 (h0 : List (Ty.T (.int .i64))) (h1 : List (Ty.T y51)) (h2 : Int) (h3 : Int) (h4 : Ty.T y33) (h5 : List (Ty.T (.int .i64))) (c : Nat) : Bool := iterAt s9_0 (n9_0 (h0, h1, h2, h3, h4, h5, ())) (h0, h1, h2, h3, h4, h5, ()) c
noncomputable def w9_0 (h0 : List (Ty.T (.int .i64))) (h1 : List (Ty.T y51)) (h2 : Int) (h3 : Int) (h4 : Ty.T y33) (h5 : List (Ty.T (.int .i64))) : V9_0 := iterV s9_0 (n9_0 (h0, h1, h2, h3, h4, h5, ())) (h0, h1, h2, h3, h4, h5, ())
noncomputable def F9_0 (v : V9_0) : Ways (Ex × St) := waysOf s9_0 (n9_0 v) v (bldSt ss9_0 gs9_0) [.exit 0] 0
theorem l9_0 : LoopOk Try.prog (loopAt [true, true, false, true] (bodyOf Try.f9)) ss9_0 gs9_0 F9_0 := loopOk_iter (lt := .none) E9.ok orders (LtOk.no _) fun n v K => Eq.trans (b := t9_0 v (kont _ _ _ _ _ K)) (by kernel_rfl) (show t9_0 v _ = (t9_0 v some).bind _ from (bnd_cond (bnd_ite (bnd_opt fun x1 => (bnd_cond (bnd_cond (bnd_cond (bnd_cond (bnd_cond (bnd_ite rfl) rfl) rfl) rfl) rfl) rfl))) rfl))
noncomputable def E9l : EnvOk Try.prog := E9.l (g := 9) (t := (ltPut [true, true, false, true] (bodyOf Try.f9) .none (.sum ss9_0 gs9_0 F9_0))) (ltOk_of Try.func9 (LtOk.put wf9_0 (LtOk.no _) l9_0))
noncomputable def u9 (a0 : Ty.T y33) (a1 : List (Ty.T y51)) : Option (AV × Sig) := cond (k9_0 [] a1 ((a1).length : Int) 0 a0 [] 0) (cond (d27 (w9_0 [] a1 ((a1).length : Int) 0 a0 []).2.2.2.2.2.1) (some (.one (.sl 4096), [(4096, .arr 3 (.int .i64) (v27 (w9_0 [] a1 ((a1).length : Int) 0 a0 []).2.2.2.2.2.1) false)])) (none)) (none)
noncomputable def v9 (a0 : Ty.T y33) (a1 : List (Ty.T y51)) : (List (Ty.T (.int .i64))) := cond (k9_0 [] a1 ((a1).length : Int) 0 a0 [] 0) (cond (d27 (w9_0 [] a1 ((a1).length : Int) 0 a0 []).2.2.2.2.2.1) ((v27 (w9_0 [] a1 ((a1).length : Int) 0 a0 []).2.2.2.2.2.1)) ([])) ([])
noncomputable def d9 (a0 : Ty.T y33) (a1 : List (Ty.T y51)) : Bool := cond (k9_0 [] a1 ((a1).length : Int) 0 a0 [] 0) (cond (d27 (w9_0 [] a1 ((a1).length : Int) 0 a0 []).2.2.2.2.2.1) (true) (false)) (false)
theorem o9 (a0 : Ty.T y33) (a1 : List (Ty.T y51)) : u9 a0 a1 = cond (d9 a0 a1) (some (f9 (v9 a0 a1))) none := (par_cond (par_cond (par_some _) (par_none _)) (par_none _))
noncomputable def p9 : Prim := ⟨[.agg [.dat y33 true], .one (.dat (.sl 52 y51) true)], fun v => .br (d9 v.1 v.2.1) (.done (f9 (v9 v.1 v.2.1))) .no⟩
theorem ok9 : PrimOk Try.prog 9 p9 := primOk_eq E9l.ok orders fun v => Eq.trans (b := u9 v.1 v.2.1) (by kernel_rfl) (o9 v.1 v.2.1)
noncomputable def f10 (r : Bool) : AV × Sig := (.one (.bool r), [])
noncomputable def E10 : EnvOk Try.prog := E0
@[reducible] noncomputable def ss10_0 : List SP := .one (.dat (.sl 3 (.int .i64)) true) :: .one (.dat (.sl 3 (.int .i64)) true) :: U2 (.one (.dat .bool true) :: .one (.dat (.int .i64) true) :: U16 (U4 ([])))
@[reducible] noncomputable def V10_0 : Type := (List (Ty.T (.int .i64))) × (List (Ty.T (.int .i64))) × Bool × Int × Unit
theorem wf10_0 : wfSt ss10_0 gs34_0 := wf_of (by kernel_rfl)
noncomputable def t10_0 (v : V10_0) {Z : Type} (κ : Nat × V10_0 → Option Z) : Option Z := cond (decide (v.2.2.2.1 < ((v.1).length : Int))) (if 0 ≤ v.2.2.2.1 then (optC ((v.1)[(v.2.2.2.1).toNat]?) (fun x1 => if 0 ≤ v.2.2.2.1 then (optC ((v.2.1)[(v.2.2.2.1).toNat]?) (fun x2 => cond (x1 != x2) (κ (1, (v.1, v.2.1, false, v.2.2.2.1, ()))) (κ (0, (v.1, v.2.1, v.2.2.1, IntKind.wrap .i64 (v.2.2.2.1 + (1 : Int)), ()))))) else none)) else none) (κ (2, (v.1, v.2.1, v.2.2.1, v.2.2.2.1, ())))
noncomputable def s10_0 (v : V10_0) : Option (Nat × V10_0) := t10_0 v some
noncomputable def n10_0 (v : V10_0) : Nat := v.1.length + v.2.1.length + v.2.2.2.1.toNat + 100
noncomputable def k10_0 (h0 : List (Ty.T (.int .i64))) (h1 : List (Ty.T (.int .i64))) (h2 : Bool) (h3 : Int) (c : Nat) : Bool := iterAt s10_0 (n10_0 (h0, h1, h2, h3, ())) (h0, h1, h2, h3, ()) c
noncomputable def w10_0 (h0 : List (Ty.T (.int .i64))) (h1 : List (Ty.T (.int .i64))) (h2 : Bool) (h3 : Int) : V10_0 := iterV s10_0 (n10_0 (h0, h1, h2, h3, ())) (h0, h1, h2, h3, ())
noncomputable def F10_0 (v : V10_0) : Ways (Ex × St) := waysOf s10_0 (n10_0 v) v (bldSt ss10_0 gs34_0) [.ret, .exit 0] 0
theorem l10_0 : LoopOk Try.prog (loopAt [true, true, false, true] (bodyOf Try.f10)) ss10_0 gs34_0 F10_0 := loopOk_iter (lt := .none) E10.ok orders (LtOk.no _) fun n v K => Eq.trans (b := t10_0 v (kont _ _ _ _ _ K)) (by kernel_rfl) (show t10_0 v _ = (t10_0 v some).bind _ from (bnd_cond (bnd_ite (bnd_opt fun x1 => (bnd_ite (bnd_opt fun x2 => (bnd_cond rfl rfl))))) rfl))
noncomputable def E10l : EnvOk Try.prog := E10.l (g := 10) (t := (ltPut [true, true, false, true] (bodyOf Try.f10) .none (.sum ss10_0 gs34_0 F10_0))) (ltOk_of Try.func10 (LtOk.put wf10_0 (LtOk.no _) l10_0))
noncomputable def u10 (a0 : List (Ty.T (.int .i64))) (a1 : List (Ty.T (.int .i64))) : Option (AV × Sig) := cond (((a0).length : Int) != ((a1).length : Int)) (some (.one (.bool false), [])) (cond (k10_0 a0 a1 false 0 0) (some (.one (.bool (w10_0 a0 a1 false 0).2.2.1), [])) (cond (k10_0 a0 a1 false 0 1) (some (.one (.bool true), [])) (none)))
noncomputable def v10 (a0 : List (Ty.T (.int .i64))) (a1 : List (Ty.T (.int .i64))) : Bool := cond (((a0).length : Int) != ((a1).length : Int)) (false) (cond (k10_0 a0 a1 false 0 0) ((w10_0 a0 a1 false 0).2.2.1) (cond (k10_0 a0 a1 false 0 1) (true) (false)))
noncomputable def d10 (a0 : List (Ty.T (.int .i64))) (a1 : List (Ty.T (.int .i64))) : Bool := cond (((a0).length : Int) != ((a1).length : Int)) (true) (cond (k10_0 a0 a1 false 0 0) (true) (cond (k10_0 a0 a1 false 0 1) (true) (false)))
theorem o10 (a0 : List (Ty.T (.int .i64))) (a1 : List (Ty.T (.int .i64))) : u10 a0 a1 = cond (d10 a0 a1) (some (f10 (v10 a0 a1))) none := (par_cond (par_some _) (par_cond (par_some _) (par_cond (par_some _) (par_none _))))
noncomputable def p10 : Prim := ⟨[.one (.dat (.sl 3 (.int .i64)) true), .one (.dat (.sl 3 (.int .i64)) true)], fun v => .br (d10 v.1 v.2.1) (.done (f10 (v10 v.1 v.2.1))) .no⟩
theorem ok10 : PrimOk Try.prog 10 p10 := primOk_eq E10l.ok orders fun v => Eq.trans (b := u10 v.1 v.2.1) (by kernel_rfl) (o10 v.1 v.2.1)
noncomputable def f42 (r : Bool) : AV × Sig := (.one (.bool r), [])
noncomputable def E42 : EnvOk Try.prog := E0
noncomputable def u42 (a0 : Ty.T y49) (a1 : Ty.T y49) : Option (AV × Sig) := cond (a0.1 != a1.1) (some (.one (.bool false), [])) (cond (a0.2.1 != a1.2.1) (some (.one (.bool false), [])) (cond (a0.2.2.1 != a1.2.2.1) (some (.one (.bool false), [])) (cond (a0.2.2.2.1 != a1.2.2.2.1) (some (.one (.bool false), [])) (cond (a0.2.2.2.2.1 != a1.2.2.2.2.1) (some (.one (.bool false), [])) (cond (a0.2.2.2.2.2.1 != a1.2.2.2.2.2.1) (some (.one (.bool false), [])) (cond (a0.2.2.2.2.2.2.1 != a1.2.2.2.2.2.2.1) (some (.one (.bool false), [])) (cond (a0.2.2.2.2.2.2.2.1 != a1.2.2.2.2.2.2.2.1) (some (.one (.bool false), [])) (cond (a0.2.2.2.2.2.2.2.2.1 != a1.2.2.2.2.2.2.2.2.1) (some (.one (.bool false), [])) (cond (a0.2.2.2.2.2.2.2.2.2.1 != a1.2.2.2.2.2.2.2.2.2.1) (some (.one (.bool false), [])) (cond (a0.2.2.2.2.2.2.2.2.2.2.1 != a1.2.2.2.2.2.2.2.2.2.2.1) (some (.one (.bool false), [])) (cond (!(a0.2.2.2.2.2.2.2.2.2.2.2.1 == a1.2.2.2.2.2.2.2.2.2.2.2.1)) (some (.one (.bool false), [])) (cond (!(a0.2.2.2.2.2.2.2.2.2.2.2.2 == a1.2.2.2.2.2.2.2.2.2.2.2.2)) (some (.one (.bool false), [])) (some (.one (.bool true), []))))))))))))))
noncomputable def v42 (a0 : Ty.T y49) (a1 : Ty.T y49) : Bool := cond (a0.1 != a1.1) (false) (cond (a0.2.1 != a1.2.1) (false) (cond (a0.2.2.1 != a1.2.2.1) (false) (cond (a0.2.2.2.1 != a1.2.2.2.1) (false) (cond (a0.2.2.2.2.1 != a1.2.2.2.2.1) (false) (cond (a0.2.2.2.2.2.1 != a1.2.2.2.2.2.1) (false) (cond (a0.2.2.2.2.2.2.1 != a1.2.2.2.2.2.2.1) (false) (cond (a0.2.2.2.2.2.2.2.1 != a1.2.2.2.2.2.2.2.1) (false) (cond (a0.2.2.2.2.2.2.2.2.1 != a1.2.2.2.2.2.2.2.2.1) (false) (cond (a0.2.2.2.2.2.2.2.2.2.1 != a1.2.2.2.2.2.2.2.2.2.1) (false) (cond (a0.2.2.2.2.2.2.2.2.2.2.1 != a1.2.2.2.2.2.2.2.2.2.2.1) (false) (cond (!(a0.2.2.2.2.2.2.2.2.2.2.2.1 == a1.2.2.2.2.2.2.2.2.2.2.2.1)) (false) (cond (!(a0.2.2.2.2.2.2.2.2.2.2.2.2 == a1.2.2.2.2.2.2.2.2.2.2.2.2)) (false) (true)))))))))))))
theorem o42 (a0 : Ty.T y49) (a1 : Ty.T y49) : u42 a0 a1 = some (f42 (v42 a0 a1)) := (tot_cond rfl (tot_cond rfl (tot_cond rfl (tot_cond rfl (tot_cond rfl (tot_cond rfl (tot_cond rfl (tot_cond rfl (tot_cond rfl (tot_cond rfl (tot_cond rfl (tot_cond rfl (tot_cond rfl rfl)))))))))))))
noncomputable def p42 : Prim := ⟨[.agg [.dat y49 true], .agg [.dat y49 true]], fun v => .done (f42 (v42 v.1 v.2.1))⟩
theorem ok42 : PrimOk Try.prog 42 p42 := primOk_eq E42.ok orders fun v => Eq.trans (b := u42 v.1 v.2.1) (by kernel_rfl) (o42 v.1 v.2.1)
noncomputable def f28 (r : Bool) : AV × Sig := (.one (.bool r), [])
noncomputable def E28 : EnvOk Try.prog := (E0.p ok42)
@[reducible] noncomputable def ss28_0 : List SP := .one (.dat (.sl 50 y49) true) :: .one (.dat (.sl 50 y49) true) :: U2 (.one (.dat .bool true) :: .one (.dat (.int .i64) true) :: U16 (U4 (.und :: [])))
@[reducible] noncomputable def V28_0 : Type := (List (Ty.T y49)) × (List (Ty.T y49)) × Bool × Int × Unit
theorem wf28_0 : wfSt ss28_0 gs34_0 := wf_of (by kernel_rfl)
noncomputable def t28_0 (v : V28_0) {Z : Type} (κ : Nat × V28_0 → Option Z) : Option Z := cond (decide (v.2.2.2.1 < ((v.1).length : Int))) (if 0 ≤ v.2.2.2.1 then (optC ((v.1)[(v.2.2.2.1).toNat]?) (fun x1 => if 0 ≤ v.2.2.2.1 then (optC ((v.2.1)[(v.2.2.2.1).toNat]?) (fun x2 => cond (!(v42 x1 x2)) (κ (1, (v.1, v.2.1, false, v.2.2.2.1, ()))) (κ (0, (v.1, v.2.1, v.2.2.1, IntKind.wrap .i64 (v.2.2.2.1 + (1 : Int)), ()))))) else none)) else none) (κ (2, (v.1, v.2.1, v.2.2.1, v.2.2.2.1, ())))
noncomputable def s28_0 (v : V28_0) : Option (Nat × V28_0) := t28_0 v some
noncomputable def n28_0 (v : V28_0) : Nat := v.1.length + v.2.1.length + v.2.2.2.1.toNat + 100
noncomputable def k28_0 (h0 : List (Ty.T y49)) (h1 : List (Ty.T y49)) (h2 : Bool) (h3 : Int) (c : Nat) : Bool := iterAt s28_0 (n28_0 (h0, h1, h2, h3, ())) (h0, h1, h2, h3, ()) c
noncomputable def w28_0 (h0 : List (Ty.T y49)) (h1 : List (Ty.T y49)) (h2 : Bool) (h3 : Int) : V28_0 := iterV s28_0 (n28_0 (h0, h1, h2, h3, ())) (h0, h1, h2, h3, ())
noncomputable def F28_0 (v : V28_0) : Ways (Ex × St) := waysOf s28_0 (n28_0 v) v (bldSt ss28_0 gs34_0) [.ret, .exit 0] 0
theorem l28_0 : LoopOk Try.prog (loopAt [true, true, false, true] (bodyOf Try.f28)) ss28_0 gs34_0 F28_0 := loopOk_iter (lt := .none) E28.ok orders (LtOk.no _) fun n v K => Eq.trans (b := t28_0 v (kont _ _ _ _ _ K)) (by kernel_rfl) (show t28_0 v _ = (t28_0 v some).bind _ from (bnd_cond (bnd_ite (bnd_opt fun x1 => (bnd_ite (bnd_opt fun x2 => (bnd_cond rfl rfl))))) rfl))
noncomputable def E28l : EnvOk Try.prog := E28.l (g := 28) (t := (ltPut [true, true, false, true] (bodyOf Try.f28) .none (.sum ss28_0 gs34_0 F28_0))) (ltOk_of Try.func28 (LtOk.put wf28_0 (LtOk.no _) l28_0))
noncomputable def u28 (a0 : List (Ty.T y49)) (a1 : List (Ty.T y49)) : Option (AV × Sig) := cond (((a0).length : Int) != ((a1).length : Int)) (some (.one (.bool false), [])) (cond (k28_0 a0 a1 false 0 0) (some (.one (.bool (w28_0 a0 a1 false 0).2.2.1), [])) (cond (k28_0 a0 a1 false 0 1) (some (.one (.bool true), [])) (none)))
noncomputable def v28 (a0 : List (Ty.T y49)) (a1 : List (Ty.T y49)) : Bool := cond (((a0).length : Int) != ((a1).length : Int)) (false) (cond (k28_0 a0 a1 false 0 0) ((w28_0 a0 a1 false 0).2.2.1) (cond (k28_0 a0 a1 false 0 1) (true) (false)))
noncomputable def d28 (a0 : List (Ty.T y49)) (a1 : List (Ty.T y49)) : Bool := cond (((a0).length : Int) != ((a1).length : Int)) (true) (cond (k28_0 a0 a1 false 0 0) (true) (cond (k28_0 a0 a1 false 0 1) (true) (false)))
theorem o28 (a0 : List (Ty.T y49)) (a1 : List (Ty.T y49)) : u28 a0 a1 = cond (d28 a0 a1) (some (f28 (v28 a0 a1))) none := (par_cond (par_some _) (par_cond (par_some _) (par_cond (par_some _) (par_none _))))
noncomputable def p28 : Prim := ⟨[.one (.dat (.sl 50 y49) true), .one (.dat (.sl 50 y49) true)], fun v => .br (d28 v.1 v.2.1) (.done (f28 (v28 v.1 v.2.1))) .no⟩
theorem ok28 : PrimOk Try.prog 28 p28 := primOk_eq E28l.ok orders fun v => Eq.trans (b := u28 v.1 v.2.1) (by kernel_rfl) (o28 v.1 v.2.1)
noncomputable def f43 (r : Bool) : AV × Sig := (.one (.bool r), [])
noncomputable def E43 : EnvOk Try.prog := E0
noncomputable def u43 (a0 : Ty.T y70) (a1 : Ty.T y70) : Option (AV × Sig) := cond (a0.1 != a1.1) (some (.one (.bool false), [])) (cond (a0.2.1 != a1.2.1) (some (.one (.bool false), [])) (cond (!(a0.2.2 == a1.2.2)) (some (.one (.bool false), [])) (some (.one (.bool true), []))))
noncomputable def v43 (a0 : Ty.T y70) (a1 : Ty.T y70) : Bool := cond (a0.1 != a1.1) (false) (cond (a0.2.1 != a1.2.1) (false) (cond (!(a0.2.2 == a1.2.2)) (false) (true)))
theorem o43 (a0 : Ty.T y70) (a1 : Ty.T y70) : u43 a0 a1 = some (f43 (v43 a0 a1)) := (tot_cond rfl (tot_cond rfl (tot_cond rfl rfl)))
noncomputable def p43 : Prim := ⟨[.agg [.dat y70 true], .agg [.dat y70 true]], fun v => .done (f43 (v43 v.1 v.2.1))⟩
theorem ok43 : PrimOk Try.prog 43 p43 := primOk_eq E43.ok orders fun v => Eq.trans (b := u43 v.1 v.2.1) (by kernel_rfl) (o43 v.1 v.2.1)
noncomputable def f29 (r : Bool) : AV × Sig := (.one (.bool r), [])
noncomputable def E29 : EnvOk Try.prog := (E0.p ok43)
@[reducible] noncomputable def ss29_0 : List SP := .one (.dat (.sl 71 y70) true) :: .one (.dat (.sl 71 y70) true) :: U2 (.one (.dat .bool true) :: .one (.dat (.int .i64) true) :: U16 (U4 (.und :: [])))
@[reducible] noncomputable def V29_0 : Type := (List (Ty.T y70)) × (List (Ty.T y70)) × Bool × Int × Unit
theorem wf29_0 : wfSt ss29_0 gs34_0 := wf_of (by kernel_rfl)
noncomputable def t29_0 (v : V29_0) {Z : Type} (κ : Nat × V29_0 → Option Z) : Option Z := cond (decide (v.2.2.2.1 < ((v.1).length : Int))) (if 0 ≤ v.2.2.2.1 then (optC ((v.1)[(v.2.2.2.1).toNat]?) (fun x1 => if 0 ≤ v.2.2.2.1 then (optC ((v.2.1)[(v.2.2.2.1).toNat]?) (fun x2 => cond (!(v43 x1 x2)) (κ (1, (v.1, v.2.1, false, v.2.2.2.1, ()))) (κ (0, (v.1, v.2.1, v.2.2.1, IntKind.wrap .i64 (v.2.2.2.1 + (1 : Int)), ()))))) else none)) else none) (κ (2, (v.1, v.2.1, v.2.2.1, v.2.2.2.1, ())))
noncomputable def s29_0 (v : V29_0) : Option (Nat × V29_0) := t29_0 v some
noncomputable def n29_0 (v : V29_0) : Nat := v.1.length + v.2.1.length + v.2.2.2.1.toNat + 100
noncomputable def k29_0 (h0 : List (Ty.T y70)) (h1 : List (Ty.T y70)) (h2 : Bool) (h3 : Int) (c : Nat) : Bool := iterAt s29_0 (n29_0 (h0, h1, h2, h3, ())) (h0, h1, h2, h3, ()) c
noncomputable def w29_0 (h0 : List (Ty.T y70)) (h1 : List (Ty.T y70)) (h2 : Bool) (h3 : Int) : V29_0 := iterV s29_0 (n29_0 (h0, h1, h2, h3, ())) (h0, h1, h2, h3, ())
noncomputable def F29_0 (v : V29_0) : Ways (Ex × St) := waysOf s29_0 (n29_0 v) v (bldSt ss29_0 gs34_0) [.ret, .exit 0] 0
theorem l29_0 : LoopOk Try.prog (loopAt [true, true, false, true] (bodyOf Try.f29)) ss29_0 gs34_0 F29_0 := loopOk_iter (lt := .none) E29.ok orders (LtOk.no _) fun n v K => Eq.trans (b := t29_0 v (kont _ _ _ _ _ K)) (by kernel_rfl) (show t29_0 v _ = (t29_0 v some).bind _ from (bnd_cond (bnd_ite (bnd_opt fun x1 => (bnd_ite (bnd_opt fun x2 => (bnd_cond rfl rfl))))) rfl))
noncomputable def E29l : EnvOk Try.prog := E29.l (g := 29) (t := (ltPut [true, true, false, true] (bodyOf Try.f29) .none (.sum ss29_0 gs34_0 F29_0))) (ltOk_of Try.func29 (LtOk.put wf29_0 (LtOk.no _) l29_0))
noncomputable def u29 (a0 : List (Ty.T y70)) (a1 : List (Ty.T y70)) : Option (AV × Sig) := cond (((a0).length : Int) != ((a1).length : Int)) (some (.one (.bool false), [])) (cond (k29_0 a0 a1 false 0 0) (some (.one (.bool (w29_0 a0 a1 false 0).2.2.1), [])) (cond (k29_0 a0 a1 false 0 1) (some (.one (.bool true), [])) (none)))
noncomputable def v29 (a0 : List (Ty.T y70)) (a1 : List (Ty.T y70)) : Bool := cond (((a0).length : Int) != ((a1).length : Int)) (false) (cond (k29_0 a0 a1 false 0 0) ((w29_0 a0 a1 false 0).2.2.1) (cond (k29_0 a0 a1 false 0 1) (true) (false)))
noncomputable def d29 (a0 : List (Ty.T y70)) (a1 : List (Ty.T y70)) : Bool := cond (((a0).length : Int) != ((a1).length : Int)) (true) (cond (k29_0 a0 a1 false 0 0) (true) (cond (k29_0 a0 a1 false 0 1) (true) (false)))
theorem o29 (a0 : List (Ty.T y70)) (a1 : List (Ty.T y70)) : u29 a0 a1 = cond (d29 a0 a1) (some (f29 (v29 a0 a1))) none := (par_cond (par_some _) (par_cond (par_some _) (par_cond (par_some _) (par_none _))))
noncomputable def p29 : Prim := ⟨[.one (.dat (.sl 71 y70) true), .one (.dat (.sl 71 y70) true)], fun v => .br (d29 v.1 v.2.1) (.done (f29 (v29 v.1 v.2.1))) .no⟩
theorem ok29 : PrimOk Try.prog 29 p29 := primOk_eq E29l.ok orders fun v => Eq.trans (b := u29 v.1 v.2.1) (by kernel_rfl) (o29 v.1 v.2.1)
noncomputable def f11 (r : Bool) : AV × Sig := (.one (.bool r), [])
noncomputable def E11 : EnvOk Try.prog := ((E0.p ok28).p ok29)
noncomputable def u11 (a0 : Ty.T y33) (a1 : Ty.T y33) : Option (AV × Sig) := cond (d28 a0.1 a1.1) (cond (!(v28 a0.1 a1.1)) (some (.one (.bool false), [])) (cond (d29 a0.2.1 a1.2.1) (cond (!(v29 a0.2.1 a1.2.1)) (some (.one (.bool false), [])) (cond (a0.2.2.1 != a1.2.2.1) (some (.one (.bool false), [])) (cond (a0.2.2.2 != a1.2.2.2) (some (.one (.bool false), [])) (some (.one (.bool true), []))))) (none))) (none)
noncomputable def v11 (a0 : Ty.T y33) (a1 : Ty.T y33) : Bool := cond (d28 a0.1 a1.1) (cond (!(v28 a0.1 a1.1)) (false) (cond (d29 a0.2.1 a1.2.1) (cond (!(v29 a0.2.1 a1.2.1)) (false) (cond (a0.2.2.1 != a1.2.2.1) (false) (cond (a0.2.2.2 != a1.2.2.2) (false) (true)))) (false))) (false)
noncomputable def d11 (a0 : Ty.T y33) (a1 : Ty.T y33) : Bool := cond (d28 a0.1 a1.1) (cond (!(v28 a0.1 a1.1)) (true) (cond (d29 a0.2.1 a1.2.1) (cond (!(v29 a0.2.1 a1.2.1)) (true) (cond (a0.2.2.1 != a1.2.2.1) (true) (cond (a0.2.2.2 != a1.2.2.2) (true) (true)))) (false))) (false)
theorem o11 (a0 : Ty.T y33) (a1 : Ty.T y33) : u11 a0 a1 = cond (d11 a0 a1) (some (f11 (v11 a0 a1))) none := (par_cond (par_cond (par_some _) (par_cond (par_cond (par_some _) (par_cond (par_some _) (par_cond (par_some _) (par_some _)))) (par_none _))) (par_none _))
noncomputable def p11 : Prim := ⟨[.agg [.dat y33 true], .agg [.dat y33 true]], fun v => .br (d11 v.1 v.2.1) (.done (f11 (v11 v.1 v.2.1))) .no⟩
theorem ok11 : PrimOk Try.prog 11 p11 := primOk_eq E11.ok orders fun v => Eq.trans (b := u11 v.1 v.2.1) (by kernel_rfl) (o11 v.1 v.2.1)
noncomputable def f44 (r : Bool) : AV × Sig := (.one (.bool r), [])
noncomputable def E44 : EnvOk Try.prog := E0
noncomputable def u44 (a0 : Ty.T y47) (a1 : Ty.T y47) : Option (AV × Sig) := cond (a0.1 != a1.1) (some (.one (.bool false), [])) (cond (a0.2.1 != a1.2.1) (some (.one (.bool false), [])) (cond (a0.2.2.1 != a1.2.2.1) (some (.one (.bool false), [])) (cond (a0.2.2.2.1 != a1.2.2.2.1) (some (.one (.bool false), [])) (cond (a0.2.2.2.2.1 != a1.2.2.2.2.1) (some (.one (.bool false), [])) (cond (a0.2.2.2.2.2.1 != a1.2.2.2.2.2.1) (some (.one (.bool false), [])) (cond (!(a0.2.2.2.2.2.2 == a1.2.2.2.2.2.2)) (some (.one (.bool false), [])) (some (.one (.bool true), []))))))))
noncomputable def v44 (a0 : Ty.T y47) (a1 : Ty.T y47) : Bool := cond (a0.1 != a1.1) (false) (cond (a0.2.1 != a1.2.1) (false) (cond (a0.2.2.1 != a1.2.2.1) (false) (cond (a0.2.2.2.1 != a1.2.2.2.1) (false) (cond (a0.2.2.2.2.1 != a1.2.2.2.2.1) (false) (cond (a0.2.2.2.2.2.1 != a1.2.2.2.2.2.1) (false) (cond (!(a0.2.2.2.2.2.2 == a1.2.2.2.2.2.2)) (false) (true)))))))
theorem o44 (a0 : Ty.T y47) (a1 : Ty.T y47) : u44 a0 a1 = some (f44 (v44 a0 a1)) := (tot_cond rfl (tot_cond rfl (tot_cond rfl (tot_cond rfl (tot_cond rfl (tot_cond rfl (tot_cond rfl rfl)))))))
noncomputable def p44 : Prim := ⟨[.agg [.dat y47 true], .agg [.dat y47 true]], fun v => .done (f44 (v44 v.1 v.2.1))⟩
theorem ok44 : PrimOk Try.prog 44 p44 := primOk_eq E44.ok orders fun v => Eq.trans (b := u44 v.1 v.2.1) (by kernel_rfl) (o44 v.1 v.2.1)
noncomputable def f30 (r : Bool) : AV × Sig := (.one (.bool r), [])
noncomputable def E30 : EnvOk Try.prog := ((E0.p ok42).p ok44)
noncomputable def u30 (a0 : Ty.T y51) (a1 : Ty.T y51) : Option (AV × Sig) := cond (a0.1 != a1.1) (some (.one (.bool false), [])) (cond (!(v44 a0.2.1 a1.2.1)) (some (.one (.bool false), [])) (cond (a0.2.2.1 != a1.2.2.1) (some (.one (.bool false), [])) (cond (a0.2.2.2.1 != a1.2.2.2.1) (some (.one (.bool false), [])) (cond (!(v42 a0.2.2.2.2 a1.2.2.2.2)) (some (.one (.bool false), [])) (some (.one (.bool true), []))))))
noncomputable def v30 (a0 : Ty.T y51) (a1 : Ty.T y51) : Bool := cond (a0.1 != a1.1) (false) (cond (!(v44 a0.2.1 a1.2.1)) (false) (cond (a0.2.2.1 != a1.2.2.1) (false) (cond (a0.2.2.2.1 != a1.2.2.2.1) (false) (cond (!(v42 a0.2.2.2.2 a1.2.2.2.2)) (false) (true)))))
theorem o30 (a0 : Ty.T y51) (a1 : Ty.T y51) : u30 a0 a1 = some (f30 (v30 a0 a1)) := (tot_cond rfl (tot_cond rfl (tot_cond rfl (tot_cond rfl (tot_cond rfl rfl)))))
noncomputable def p30 : Prim := ⟨[.agg [.dat y51 true], .agg [.dat y51 true]], fun v => .done (f30 (v30 v.1 v.2.1))⟩
theorem ok30 : PrimOk Try.prog 30 p30 := primOk_eq E30.ok orders fun v => Eq.trans (b := u30 v.1 v.2.1) (by kernel_rfl) (o30 v.1 v.2.1)
noncomputable def f12 (r : Bool) : AV × Sig := (.one (.bool r), [])
noncomputable def E12 : EnvOk Try.prog := (E0.p ok30)
@[reducible] noncomputable def ss12_0 : List SP := .one (.dat (.sl 52 y51) true) :: .one (.dat (.sl 52 y51) true) :: U2 (.one (.dat .bool true) :: .one (.dat (.int .i64) true) :: U16 (U4 (.und :: [])))
@[reducible] noncomputable def V12_0 : Type := (List (Ty.T y51)) × (List (Ty.T y51)) × Bool × Int × Unit
theorem wf12_0 : wfSt ss12_0 gs34_0 := wf_of (by kernel_rfl)
noncomputable def t12_0 (v : V12_0) {Z : Type} (κ : Nat × V12_0 → Option Z) : Option Z := cond (decide (v.2.2.2.1 < ((v.1).length : Int))) (if 0 ≤ v.2.2.2.1 then (optC ((v.1)[(v.2.2.2.1).toNat]?) (fun x1 => if 0 ≤ v.2.2.2.1 then (optC ((v.2.1)[(v.2.2.2.1).toNat]?) (fun x2 => cond (!(v30 x1 x2)) (κ (1, (v.1, v.2.1, false, v.2.2.2.1, ()))) (κ (0, (v.1, v.2.1, v.2.2.1, IntKind.wrap .i64 (v.2.2.2.1 + (1 : Int)), ()))))) else none)) else none) (κ (2, (v.1, v.2.1, v.2.2.1, v.2.2.2.1, ())))
noncomputable def s12_0 (v : V12_0) : Option (Nat × V12_0) := t12_0 v some
noncomputable def n12_0 (v : V12_0) : Nat := v.1.length + v.2.1.length + v.2.2.2.1.toNat + 100
noncomputable def k12_0 (h0 : List (Ty.T y51)) (h1 : List (Ty.T y51)) (h2 : Bool) (h3 : Int) (c : Nat) : Bool := iterAt s12_0 (n12_0 (h0, h1, h2, h3, ())) (h0, h1, h2, h3, ()) c
noncomputable def w12_0 (h0 : List (Ty.T y51)) (h1 : List (Ty.T y51)) (h2 : Bool) (h3 : Int) : V12_0 := iterV s12_0 (n12_0 (h0, h1, h2, h3, ())) (h0, h1, h2, h3, ())
noncomputable def F12_0 (v : V12_0) : Ways (Ex × St) := waysOf s12_0 (n12_0 v) v (bldSt ss12_0 gs34_0) [.ret, .exit 0] 0
theorem l12_0 : LoopOk Try.prog (loopAt [true, true, false, true] (bodyOf Try.f12)) ss12_0 gs34_0 F12_0 := loopOk_iter (lt := .none) E12.ok orders (LtOk.no _) fun n v K => Eq.trans (b := t12_0 v (kont _ _ _ _ _ K)) (by kernel_rfl) (show t12_0 v _ = (t12_0 v some).bind _ from (bnd_cond (bnd_ite (bnd_opt fun x1 => (bnd_ite (bnd_opt fun x2 => (bnd_cond rfl rfl))))) rfl))
noncomputable def E12l : EnvOk Try.prog := E12.l (g := 12) (t := (ltPut [true, true, false, true] (bodyOf Try.f12) .none (.sum ss12_0 gs34_0 F12_0))) (ltOk_of Try.func12 (LtOk.put wf12_0 (LtOk.no _) l12_0))
noncomputable def u12 (a0 : List (Ty.T y51)) (a1 : List (Ty.T y51)) : Option (AV × Sig) := cond (((a0).length : Int) != ((a1).length : Int)) (some (.one (.bool false), [])) (cond (k12_0 a0 a1 false 0 0) (some (.one (.bool (w12_0 a0 a1 false 0).2.2.1), [])) (cond (k12_0 a0 a1 false 0 1) (some (.one (.bool true), [])) (none)))
noncomputable def v12 (a0 : List (Ty.T y51)) (a1 : List (Ty.T y51)) : Bool := cond (((a0).length : Int) != ((a1).length : Int)) (false) (cond (k12_0 a0 a1 false 0 0) ((w12_0 a0 a1 false 0).2.2.1) (cond (k12_0 a0 a1 false 0 1) (true) (false)))
noncomputable def d12 (a0 : List (Ty.T y51)) (a1 : List (Ty.T y51)) : Bool := cond (((a0).length : Int) != ((a1).length : Int)) (true) (cond (k12_0 a0 a1 false 0 0) (true) (cond (k12_0 a0 a1 false 0 1) (true) (false)))
theorem o12 (a0 : List (Ty.T y51)) (a1 : List (Ty.T y51)) : u12 a0 a1 = cond (d12 a0 a1) (some (f12 (v12 a0 a1))) none := (par_cond (par_some _) (par_cond (par_some _) (par_cond (par_some _) (par_none _))))
noncomputable def p12 : Prim := ⟨[.one (.dat (.sl 52 y51) true), .one (.dat (.sl 52 y51) true)], fun v => .br (d12 v.1 v.2.1) (.done (f12 (v12 v.1 v.2.1))) .no⟩
theorem ok12 : PrimOk Try.prog 12 p12 := primOk_eq E12l.ok orders fun v => Eq.trans (b := u12 v.1 v.2.1) (by kernel_rfl) (o12 v.1 v.2.1)
end Go.Proofs.Ytakmjjikiefheaa.Vm
