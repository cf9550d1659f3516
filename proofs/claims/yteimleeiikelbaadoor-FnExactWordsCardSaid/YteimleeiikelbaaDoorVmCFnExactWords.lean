/- Contracts. No condition. -/
import Derived.Test.YteimleeiikelbaaDoorVmS
import Derived.Test.YteimleeiikelbaaDoorVmLibThree
namespace Go.Proofs.YteimleeiikelbaaDoor.Vm
open Go Go.Proofs.YteimleeiikelbaaDoor.Lib
set_option maxRecDepth 100000
set_option linter.unusedVariables false

noncomputable def f6 (r : (List (Ty.T .str))) : AV × Sig := (.one (.sl 4096), [(4096, .arr 9 .str r false)])
noncomputable def E6 : EnvOk Tryd.prog := E0
@[reducible] noncomputable def ss6_0 : List SP := .one (.dat .str true) :: .und :: .one (.dat (.sl 9 .str) false) :: .one (.own 6) :: .one (.dat (.int .i64) true) :: .one (.dat (.int .i64) true) :: U16 (U8 (U2 (.und :: [])))
@[reducible] noncomputable def gs6_0 : List (Nat × GP) := [(6, .arr 9 .str false)]
@[reducible] noncomputable def V6_0 : Type := ByteArray × (List (Ty.T .str)) × Int × Int × (List (Ty.T .str)) × Unit
theorem wf6_0 : wfSt ss6_0 gs6_0 := wf_of (by kernel_rfl)
noncomputable def t6_0 (v : V6_0) {Z : Type} (κ : Nat × V6_0 → Option Z) : Option Z := cond (decide (v.2.2.2.1 ≤ (v.1.size : Int))) (cond (v.2.2.2.1 == (v.1.size : Int)) (if 0 ≤ v.2.2.2.1 then (if v.2.2.2.1 ≤ (v.1.size : Int) then (if 0 ≤ v.2.2.1 then (if v.2.2.1 ≤ ((v.2.2.2.1).toNat : Int) then (if (v.2.2.2.2.1 ++ [v.1.extract ((v.2.2.1).toNat) ((v.2.2.2.1).toNat)] : List (Ty.T .str)).length * 16 ≤ 140737488351232 then (κ (0, (v.1, v.2.1, IntKind.wrap .i64 (v.2.2.2.1 + (1 : Int)), IntKind.wrap .i64 (v.2.2.2.1 + (1 : Int)), v.2.2.2.2.1 ++ [v.1.extract ((v.2.2.1).toNat) ((v.2.2.2.1).toNat)], ()))) else none) else none) else none) else none) else none) (if 0 ≤ v.2.2.2.1 then (optC (v.1[(v.2.2.2.1).toNat]?) (fun x1 => cond ((x1.toNat : Int) == (32 : Int)) (if 0 ≤ v.2.2.2.1 then (if v.2.2.2.1 ≤ (v.1.size : Int) then (if 0 ≤ v.2.2.1 then (if v.2.2.1 ≤ ((v.2.2.2.1).toNat : Int) then (if (v.2.2.2.2.1 ++ [v.1.extract ((v.2.2.1).toNat) ((v.2.2.2.1).toNat)] : List (Ty.T .str)).length * 16 ≤ 140737488351232 then (κ (0, (v.1, v.2.1, IntKind.wrap .i64 (v.2.2.2.1 + (1 : Int)), IntKind.wrap .i64 (v.2.2.2.1 + (1 : Int)), v.2.2.2.2.1 ++ [v.1.extract ((v.2.2.1).toNat) ((v.2.2.2.1).toNat)], ()))) else none) else none) else none) else none) else none) (κ (0, (v.1, v.2.1, v.2.2.1, IntKind.wrap .i64 (v.2.2.2.1 + (1 : Int)), v.2.2.2.2.1, ()))))) else none)) (κ (1, (v.1, v.2.1, v.2.2.1, v.2.2.2.1, v.2.2.2.2.1, ())))
noncomputable def s6_0 (v : V6_0) : Option (Nat × V6_0) := t6_0 v some
noncomputable def n6_0 (v : V6_0) : Nat := v.1.size + v.2.1.length + v.2.2.1.toNat + v.2.2.2.1.toNat + v.2.2.2.2.1.length + 100
noncomputable def k6_0 (h0 : ByteArray) (h1 : List (Ty.T .str)) (h2 : Int) (h3 : Int) (h4 : List (Ty.T .str)) (c : Nat) : Bool := iterAt s6_0 (n6_0 (h0, h1, h2, h3, h4, ())) (h0, h1, h2, h3, h4, ()) c
noncomputable def w6_0 (h0 : ByteArray) (h1 : List (Ty.T .str)) (h2 : Int) (h3 : Int) (h4 : List (Ty.T .str)) : V6_0 := iterV s6_0 (n6_0 (h0, h1, h2, h3, h4, ())) (h0, h1, h2, h3, h4, ())
noncomputable def F6_0 (v : V6_0) : Ways (Ex × St) := waysOf s6_0 (n6_0 v) v (bldSt ss6_0 gs6_0) [.exit 0] 0
theorem l6_0 : LoopOk Tryd.prog (loopAt [true, true, true, false, true] (bodyOf Tryd.f6)) ss6_0 gs6_0 F6_0 := loopOk_iter (lt := .none) E6.ok orders (LtOk.no _) fun n v K => Eq.trans (b := t6_0 v (kont _ _ _ _ _ K)) (by kernel_rfl) (show t6_0 v _ = (t6_0 v some).bind _ from (bnd_cond (bnd_cond (bnd_ite (bnd_ite (bnd_ite (bnd_ite (bnd_ite rfl))))) (bnd_ite (bnd_opt fun x1 => (bnd_cond (bnd_ite (bnd_ite (bnd_ite (bnd_ite (bnd_ite rfl))))) rfl)))) rfl))
noncomputable def E6l : EnvOk Tryd.prog := E6.l (g := 6) (t := (ltPut [true, true, true, false, true] (bodyOf Tryd.f6) .none (.sum ss6_0 gs6_0 F6_0))) (ltOk_of Tryd.func6 (LtOk.put wf6_0 (LtOk.no _) l6_0))
noncomputable def u6 (a0 : ByteArray) : Option (AV × Sig) := cond (k6_0 a0 [] 0 0 [] 0) (some (.one (.sl 4096), [(4096, .arr 9 .str (w6_0 a0 [] 0 0 []).2.2.2.2.1 false)])) (none)
noncomputable def v6 (a0 : ByteArray) : (List (Ty.T .str)) := cond (k6_0 a0 [] 0 0 [] 0) ((w6_0 a0 [] 0 0 []).2.2.2.2.1) ([])
noncomputable def d6 (a0 : ByteArray) : Bool := cond (k6_0 a0 [] 0 0 [] 0) (true) (false)
theorem o6 (a0 : ByteArray) : u6 a0 = cond (d6 a0) (some (f6 (v6 a0))) none := (par_cond (par_some _) (par_none _))
noncomputable def p6 : Prim := ⟨[.one (.dat .str true)], fun v => .br (d6 v.1) (.done (f6 (v6 v.1))) .no⟩
theorem ok6 : PrimOk Tryd.prog 6 p6 := primOk_eq E6l.ok orders fun v => Eq.trans (b := u6 v.1) (by kernel_rfl) (o6 v.1)
noncomputable def f20 (r : List (Ty.T .str)) : AV × Sig := (.one (.sl 4096), [(4096, .arr 9 .str r false)])
noncomputable def v20 (a0 : ByteArray) (a1 : ByteArray) : List (Ty.T .str) := splitL a0 a1
noncomputable def d20 (a0 : ByteArray) (a1 : ByteArray) : Bool := decide (ByteArray.size a0 < 4294967281 ∧ 1 ≤ ByteArray.size a1)
noncomputable def p20 : Prim := ⟨[.one (.dat .str true), .one (.dat .str true)], fun v => .br (d20 v.1 v.2.1) (.done (f20 (v20 v.1 v.2.1))) .no⟩
theorem ok20 : PrimOk Tryd.prog 20 p20 := okSplit
noncomputable def f7 (r : (List (Ty.T .str))) : AV × Sig := (.one (.sl 4096), [(4096, .arr 9 .str r false)])
noncomputable def E7 : EnvOk Tryd.prog := (E0.p ok20)
noncomputable def u7 (a0 : ByteArray) : Option (AV × Sig) := cond (d20 a0 (ByteArray.mk #[32])) (some (.one (.sl 4096), [(4096, .arr 9 .str (v20 a0 (ByteArray.mk #[32])) false)])) (none)
noncomputable def v7 (a0 : ByteArray) : (List (Ty.T .str)) := cond (d20 a0 (ByteArray.mk #[32])) ((v20 a0 (ByteArray.mk #[32]))) ([])
noncomputable def d7 (a0 : ByteArray) : Bool := cond (d20 a0 (ByteArray.mk #[32])) (true) (false)
theorem o7 (a0 : ByteArray) : u7 a0 = cond (d7 a0) (some (f7 (v7 a0))) none := (par_cond (par_some _) (par_none _))
noncomputable def p7 : Prim := ⟨[.one (.dat .str true)], fun v => .br (d7 v.1) (.done (f7 (v7 v.1))) .no⟩
theorem ok7 : PrimOk Tryd.prog 7 p7 := primOk_eq E7.ok orders fun v => Eq.trans (b := u7 v.1) (by kernel_rfl) (o7 v.1)
noncomputable def f8 (r : Bool) : AV × Sig := (.one (.bool r), [])
noncomputable def E8 : EnvOk Tryd.prog := E0
@[reducible] noncomputable def ss8_0 : List SP := .one (.dat (.sl 9 .str) true) :: .one (.dat (.sl 9 .str) true) :: U2 (.one (.dat .bool true) :: .one (.dat (.int .i64) true) :: U16 (U4 ([])))
@[reducible] noncomputable def gs8_0 : List (Nat × GP) := []
@[reducible] noncomputable def V8_0 : Type := (List (Ty.T .str)) × (List (Ty.T .str)) × Bool × Int × Unit
theorem wf8_0 : wfSt ss8_0 gs8_0 := wf_of (by kernel_rfl)
noncomputable def t8_0 (v : V8_0) {Z : Type} (κ : Nat × V8_0 → Option Z) : Option Z := cond (decide (v.2.2.2.1 < ((v.1).length : Int))) (if 0 ≤ v.2.2.2.1 then (optC ((v.1)[(v.2.2.2.1).toNat]?) (fun x1 => if 0 ≤ v.2.2.2.1 then (optC ((v.2.1)[(v.2.2.2.1).toNat]?) (fun x2 => cond (!(x1.toList == x2.toList)) (κ (1, (v.1, v.2.1, false, v.2.2.2.1, ()))) (κ (0, (v.1, v.2.1, v.2.2.1, IntKind.wrap .i64 (v.2.2.2.1 + (1 : Int)), ()))))) else none)) else none) (κ (2, (v.1, v.2.1, v.2.2.1, v.2.2.2.1, ())))
noncomputable def s8_0 (v : V8_0) : Option (Nat × V8_0) := t8_0 v some
noncomputable def n8_0 (v : V8_0) : Nat := v.1.length + v.2.1.length + v.2.2.2.1.toNat + 100
noncomputable def k8_0 (h0 : List (Ty.T .str)) (h1 : List (Ty.T .str)) (h2 : Bool) (h3 : Int) (c : Nat) : Bool := iterAt s8_0 (n8_0 (h0, h1, h2, h3, ())) (h0, h1, h2, h3, ()) c
noncomputable def w8_0 (h0 : List (Ty.T .str)) (h1 : List (Ty.T .str)) (h2 : Bool) (h3 : Int) : V8_0 := iterV s8_0 (n8_0 (h0, h1, h2, h3, ())) (h0, h1, h2, h3, ())
noncomputable def F8_0 (v : V8_0) : Ways (Ex × St) := waysOf s8_0 (n8_0 v) v (bldSt ss8_0 gs8_0) [.ret, .exit 0] 0
theorem l8_0 : LoopOk Tryd.prog (loopAt [true, true, false, true] (bodyOf Tryd.f8)) ss8_0 gs8_0 F8_0 := loopOk_iter (lt := .none) E8.ok orders (LtOk.no _) fun n v K => Eq.trans (b := t8_0 v (kont _ _ _ _ _ K)) (by kernel_rfl) (show t8_0 v _ = (t8_0 v some).bind _ from (bnd_cond (bnd_ite (bnd_opt fun x1 => (bnd_ite (bnd_opt fun x2 => (bnd_cond rfl rfl))))) rfl))
noncomputable def E8l : EnvOk Tryd.prog := E8.l (g := 8) (t := (ltPut [true, true, false, true] (bodyOf Tryd.f8) .none (.sum ss8_0 gs8_0 F8_0))) (ltOk_of Tryd.func8 (LtOk.put wf8_0 (LtOk.no _) l8_0))
noncomputable def u8 (a0 : List (Ty.T .str)) (a1 : List (Ty.T .str)) : Option (AV × Sig) := cond (((a0).length : Int) != ((a1).length : Int)) (some (.one (.bool false), [])) (cond (k8_0 a0 a1 false 0 0) (some (.one (.bool (w8_0 a0 a1 false 0).2.2.1), [])) (cond (k8_0 a0 a1 false 0 1) (some (.one (.bool true), [])) (none)))
noncomputable def v8 (a0 : List (Ty.T .str)) (a1 : List (Ty.T .str)) : Bool := cond (((a0).length : Int) != ((a1).length : Int)) (false) (cond (k8_0 a0 a1 false 0 0) ((w8_0 a0 a1 false 0).2.2.1) (cond (k8_0 a0 a1 false 0 1) (true) (false)))
noncomputable def d8 (a0 : List (Ty.T .str)) (a1 : List (Ty.T .str)) : Bool := cond (((a0).length : Int) != ((a1).length : Int)) (true) (cond (k8_0 a0 a1 false 0 0) (true) (cond (k8_0 a0 a1 false 0 1) (true) (false)))
theorem o8 (a0 : List (Ty.T .str)) (a1 : List (Ty.T .str)) : u8 a0 a1 = cond (d8 a0 a1) (some (f8 (v8 a0 a1))) none := (par_cond (par_some _) (par_cond (par_some _) (par_cond (par_some _) (par_none _))))
noncomputable def p8 : Prim := ⟨[.one (.dat (.sl 9 .str) true), .one (.dat (.sl 9 .str) true)], fun v => .br (d8 v.1 v.2.1) (.done (f8 (v8 v.1 v.2.1))) .no⟩
theorem ok8 : PrimOk Tryd.prog 8 p8 := primOk_eq E8l.ok orders fun v => Eq.trans (b := u8 v.1 v.2.1) (by kernel_rfl) (o8 v.1 v.2.1)
noncomputable def f21 (r : ByteArray) : AV × Sig := (.one (.str r), [])
noncomputable def E21 : EnvOk Tryd.prog := E0
@[reducible] noncomputable def ss21_0 : List SP := .one (.dat (.int .i64) true) :: .und :: .one (.dat .str true) :: .one (.dat .str true) :: U16 ([])
@[reducible] noncomputable def V21_0 : Type := Int × ByteArray × ByteArray × Unit
theorem wf21_0 : wfSt ss21_0 gs8_0 := wf_of (by kernel_rfl)
noncomputable def t21_0 (v : V21_0) {Z : Type} (κ : Nat × V21_0 → Option Z) : Option Z := cond (decide (v.1 > (0 : Int))) (if (strOfNums [IntKind.wrap .u8 (IntKind.wrap .i64 ((48 : Int) + (Int.tmod v.1 (10 : Int))))]).size + v.2.2.1.size ≤ 9223372036854775807 then (κ (0, (IntKind.wrap .i64 (v.1.tdiv (10 : Int)), v.2.1, (strOfNums [IntKind.wrap .u8 (IntKind.wrap .i64 ((48 : Int) + (Int.tmod v.1 (10 : Int))))]) ++ v.2.2.1, ()))) else none) (κ (1, (v.1, v.2.1, v.2.2.1, ())))
noncomputable def s21_0 (v : V21_0) : Option (Nat × V21_0) := t21_0 v some
noncomputable def n21_0 (v : V21_0) : Nat := v.1.toNat + v.2.1.size + v.2.2.1.size + 100
noncomputable def k21_0 (h0 : Int) (h1 : ByteArray) (h2 : ByteArray) (c : Nat) : Bool := iterAt s21_0 (n21_0 (h0, h1, h2, ())) (h0, h1, h2, ()) c
noncomputable def w21_0 (h0 : Int) (h1 : ByteArray) (h2 : ByteArray) : V21_0 := iterV s21_0 (n21_0 (h0, h1, h2, ())) (h0, h1, h2, ())
noncomputable def F21_0 (v : V21_0) : Ways (Ex × St) := waysOf s21_0 (n21_0 v) v (bldSt ss21_0 gs8_0) [.exit 0] 0
theorem l21_0 : LoopOk Tryd.prog (loopAt [true, true, true, false] (bodyOf Tryd.f21)) ss21_0 gs8_0 F21_0 := loopOk_iter (lt := .none) E21.ok orders (LtOk.no _) fun n v K => Eq.trans (b := t21_0 v (kont _ _ _ _ _ K)) (by kernel_rfl) (show t21_0 v _ = (t21_0 v some).bind _ from (bnd_cond (bnd_ite rfl) rfl))
noncomputable def E21l : EnvOk Tryd.prog := E21.l (g := 21) (t := (ltPut [true, true, true, false] (bodyOf Tryd.f21) .none (.sum ss21_0 gs8_0 F21_0))) (ltOk_of Tryd.func21 (LtOk.put wf21_0 (LtOk.no _) l21_0))
noncomputable def u21 (a0 : Int) : Option (AV × Sig) := cond (decide (a0 ≤ (0 : Int))) (some (.one (.str (ByteArray.mk #[109, 48])), [])) (cond (k21_0 a0 ByteArray.empty ByteArray.empty 0) (if (ByteArray.mk #[109]).size + (w21_0 a0 ByteArray.empty ByteArray.empty).2.2.1.size ≤ 9223372036854775807 then (some (.one (.str ((ByteArray.mk #[109]) ++ (w21_0 a0 ByteArray.empty ByteArray.empty).2.2.1)), [])) else none) (none))
noncomputable def v21 (a0 : Int) : ByteArray := cond (decide (a0 ≤ (0 : Int))) ((ByteArray.mk #[109, 48])) (cond (k21_0 a0 ByteArray.empty ByteArray.empty 0) ((ByteArray.mk #[109]) ++ (w21_0 a0 ByteArray.empty ByteArray.empty).2.2.1) (ByteArray.empty))
noncomputable def d21 (a0 : Int) : Bool := cond (decide (a0 ≤ (0 : Int))) (true) (cond (k21_0 a0 ByteArray.empty ByteArray.empty 0) (decide ((ByteArray.mk #[109]).size + (w21_0 a0 ByteArray.empty ByteArray.empty).2.2.1.size ≤ 9223372036854775807) && (true)) (false))
theorem o21 (a0 : Int) : u21 a0 = cond (d21 a0) (some (f21 (v21 a0))) none := (par_cond (par_some _) (par_cond (par_ite (par_some _)) (par_none _)))
noncomputable def p21 : Mrk := ⟨[.one (.dat (.int .i64) true)], [], fun v => .br (d21 v.1) (.done (f21 (v21 v.1))) .no⟩
theorem ok21 : MarkOk Tryd.prog 21 p21 := markOk_eq E21l.ok orders (wf_of (by kernel_rfl)) ⟨Tryd.f21, bodyOf Tryd.f21, by kernel_rfl, by kernel_rfl⟩ fun v => Eq.trans (b := u21 v.1) (by kernel_rfl) (o21 v.1)
noncomputable def f9 (r : Int × (List (Ty.T .str))) : AV × Sig := (.one (.int .i64 r.1), [(4294971392, .arr 9 .str r.2 false)])
noncomputable def E9 : EnvOk Tryd.prog := (E0.m ok21)
@[reducible] noncomputable def ss9_0 : List SP := .one (.own 4294971392) :: .one (.dat (.int .i64) true) :: U2 (.one (.dat (.int .i64) true) :: .one (.dat (.int .i64) true) :: U8 (U4 (U2 ([]))))
@[reducible] noncomputable def gs9_0 : List (Nat × GP) := [(4294971392, .arr 9 .str false)]
@[reducible] noncomputable def V9_0 : Type := Int × Int × Int × (List (Ty.T .str)) × Unit
theorem wf9_0 : wfSt ss9_0 gs9_0 := wf_of (by kernel_rfl)
noncomputable def t9_0 (v : V9_0) {Z : Type} (κ : Nat × V9_0 → Option Z) : Option Z := cond (decide (v.2.2.1 < ((v.2.2.2.1).length : Int))) (cond (d21 v.1) (if 0 ≤ v.2.2.1 then (if v.2.2.1 < ((v.2.2.2.1).length : Int) then (optC ((v.2.2.2.1)[(v.2.2.1).toNat]?) (fun x1 => κ (0, (IntKind.wrap .i64 (v.1 + (1 : Int)), v.2.1, IntKind.wrap .i64 (v.2.2.1 + (1 : Int)), v.2.2.2.1.set ((v.2.2.1).toNat) (v21 v.1), ())))) else none) else none) (none)) (κ (1, (v.1, v.2.1, v.2.2.1, v.2.2.2.1, ())))
noncomputable def s9_0 (v : V9_0) : Option (Nat × V9_0) := t9_0 v some
noncomputable def n9_0 (v : V9_0) : Nat := v.1.toNat + v.2.1.toNat + v.2.2.1.toNat + v.2.2.2.1.length + 100
noncomputable def k9_0 (h0 : Int) (h1 : Int) (h2 : Int) (h3 : List (Ty.T .str)) (c : Nat) : Bool := iterAt s9_0 (n9_0 (h0, h1, h2, h3, ())) (h0, h1, h2, h3, ()) c
noncomputable def w9_0 (h0 : Int) (h1 : Int) (h2 : Int) (h3 : List (Ty.T .str)) : V9_0 := iterV s9_0 (n9_0 (h0, h1, h2, h3, ())) (h0, h1, h2, h3, ())
noncomputable def F9_0 (v : V9_0) : Ways (Ex × St) := waysOf s9_0 (n9_0 v) v (bldSt ss9_0 gs9_0) [.exit 0] 0
theorem l9_0 : LoopOk Tryd.prog (loopAt [true, false, true] (bodyOf Tryd.f9)) ss9_0 gs9_0 F9_0 := loopOk_iter (lt := .none) E9.ok orders (LtOk.no _) fun n v K => Eq.trans (b := t9_0 v (kont _ _ _ _ _ K)) (by kernel_rfl) (show t9_0 v _ = (t9_0 v some).bind _ from (bnd_cond (bnd_cond (bnd_ite (bnd_ite (bnd_opt fun x1 => rfl))) rfl) rfl))
noncomputable def E9l : EnvOk Tryd.prog := E9.l (g := 9) (t := (ltPut [true, false, true] (bodyOf Tryd.f9) .none (.sum ss9_0 gs9_0 F9_0))) (ltOk_of Tryd.func9 (LtOk.put wf9_0 (LtOk.no _) l9_0))
noncomputable def u9 (a1 : Int) (r0 : List (Ty.T .str)) : Option (AV × Sig) := cond (k9_0 a1 0 0 r0 0) (some (.one (.int .i64 (w9_0 a1 0 0 r0).1), [(4294971392, .arr 9 .str (w9_0 a1 0 0 r0).2.2.2.1 false)])) (none)
noncomputable def v9 (a1 : Int) (r0 : List (Ty.T .str)) : Int × (List (Ty.T .str)) := cond (k9_0 a1 0 0 r0 0) (((w9_0 a1 0 0 r0).1, (w9_0 a1 0 0 r0).2.2.2.1)) ((0, []))
noncomputable def d9 (a1 : Int) (r0 : List (Ty.T .str)) : Bool := cond (k9_0 a1 0 0 r0 0) (true) (false)
theorem o9 (a1 : Int) (r0 : List (Ty.T .str)) : u9 a1 r0 = cond (d9 a1 r0) (some (f9 (v9 a1 r0))) none := (par_cond (par_some _) (par_none _))
noncomputable def p9 : Mrk := ⟨[.one (.own 4294971392), .one (.dat (.int .i64) true)], [(4294971392, .arr 9 .str false)], fun v => .br (d9 v.1 v.2.1) (.done (f9 (v9 v.1 v.2.1))) .no⟩
theorem ok9 : MarkOk Tryd.prog 9 p9 := markOk_eq E9l.ok orders (wf_of (by kernel_rfl)) ⟨Tryd.f9, bodyOf Tryd.f9, by kernel_rfl, by kernel_rfl⟩ fun v => Eq.trans (b := u9 v.1 v.2.1) (by kernel_rfl) (o9 v.1 v.2.1)
noncomputable def f10 (r : Int) : AV × Sig := (.one (.int .i64 r), [])
noncomputable def E10 : EnvOk Tryd.prog := (E0.m ok21)
@[reducible] noncomputable def ss10_1 : List SP := .one (.dat (.sl 9 .str) true) :: .one (.dat (.int .i64) true) :: U2 (.one (.dat (.int .i64) true) :: .one (.dat (.int .i64) true) :: .one (.dat (.int .i64) true) :: .one (.dat (.sl 9 .str) true) :: .one (.dat (.int .i64) true) :: .one (.dat .bool true) :: U8 (U4 ([])))
@[reducible] noncomputable def V10_1 : Type := (List (Ty.T .str)) × Int × Int × Int × Int × (List (Ty.T .str)) × Int × Bool × Unit
theorem wf10_1 : wfSt ss10_1 gs8_0 := wf_of (by kernel_rfl)
@[reducible] noncomputable def sx10_1 : List SP := .one (.dat (.sl 9 .str) true) :: .one (.dat (.int .i64) true) :: U2 (.one (.dat (.int .i64) true) :: .one (.dat (.int .i64) true) :: .one (.dat (.int .i64) true) :: .one (.dat (.sl 9 .str) true) :: .one (.dat (.int .i64) true) :: .one (.dat .bool true) :: U2 (.one (.dat (.sl 9 .str) true) :: .one (.dat (.int .i64) true) :: .one (.ept .str) :: .one (.dat .str true) :: .one (.dat (.int .i64) true) :: .one (.dat .str true) :: .one (.dat .bool true) :: U2 (.und :: [])))
noncomputable def f10_1 (v : V10_1) (r : ByteArray × ByteArray × Bool) : Ex × St := (.normal, bldSt sx10_1 gs8_0 (v.1, v.2.1, v.2.2.1, v.2.2.2.1, v.2.2.2.2.1, v.2.2.2.2.2.1, v.2.2.2.2.2.2.1, v.2.2.2.2.2.2.2.1, v.1, v.2.2.2.1, r.1, r.2.1, v.2.1, (v21 v.2.1), r.2.2, ()))
noncomputable def t10_1 (v : V10_1) {Z : Type} (κ : ByteArray × ByteArray × Bool → Option Z) : Option Z := if 0 ≤ v.2.2.2.1 then (optC ((v.1)[(v.2.2.2.1).toNat]?) (fun x1 => cond (d21 v.2.1) (κ (x1, x1, !(x1.toList == (v21 v.2.1).toList))) (none))) else none
noncomputable def c10_1 (v : V10_1) : ByteArray × ByteArray × Bool := (t10_1 v some).getD (ByteArray.empty, ByteArray.empty, false)
noncomputable def g10_1 (v : V10_1) : Bool := (t10_1 v some).isSome
noncomputable def F10_1 (v : V10_1) : Ways (Ex × St) := .br (g10_1 v) (.done (f10_1 v (c10_1 v))) .no
theorem l10_1 : CodeOk Tryd.prog (pieceAt [true, false, false, false] (loopAt [true, false, true] (bodyOf Tryd.f10))) ss10_1 gs8_0 F10_1 := codeOk_drawn (by kernel_rfl) (sx := sx10_1) (gx := gs8_0) E10.ok orders (by kernel_rfl) 2 fun v => Eq.trans (b := List.replicate 2 (t10_1 v (fun r => some (f10_1 v r)))) (by kernel_rfl) (congrArg (List.replicate 2) (run_fin (show t10_1 v (fun r => some (f10_1 v r)) = (t10_1 v some).bind _ from (bnd_ite (bnd_opt fun x1 => (bnd_cond rfl rfl))))))
@[reducible] noncomputable def ss10_0 : List SP := .one (.dat (.sl 9 .str) true) :: .one (.dat (.int .i64) true) :: U2 (.one (.dat (.int .i64) true) :: .one (.dat (.int .i64) true) :: U16 ([]))
@[reducible] noncomputable def V10_0 : Type := (List (Ty.T .str)) × Int × Int × Int × Unit
theorem wf10_0 : wfSt ss10_0 gs8_0 := wf_of (by kernel_rfl)
noncomputable def t10_0 (v : V10_0) {Z : Type} (κ : Nat × V10_0 → Option Z) : Option Z := cond (decide (v.2.2.2.1 < ((v.1).length : Int))) (cond (g10_1 (v.1, v.2.1, v.2.2.1, v.2.2.2.1, v.2.2.2.1, v.1, ((v.1).length : Int), decide (v.2.2.2.1 < ((v.1).length : Int)), ())) (cond (c10_1 (v.1, v.2.1, v.2.2.1, v.2.2.2.1, v.2.2.2.1, v.1, ((v.1).length : Int), decide (v.2.2.2.1 < ((v.1).length : Int)), ())).2.2 (κ (1, (v.1, v.2.1, (-1), v.2.2.2.1, ()))) (κ (0, (v.1, IntKind.wrap .i64 (v.2.1 + (1 : Int)), v.2.2.1, IntKind.wrap .i64 (v.2.2.2.1 + (1 : Int)), ())))) (none)) (κ (2, (v.1, v.2.1, v.2.2.1, v.2.2.2.1, ())))
noncomputable def s10_0 (v : V10_0) : Option (Nat × V10_0) := t10_0 v some
noncomputable def n10_0 (v : V10_0) : Nat := v.1.length + v.2.1.toNat + v.2.2.1.toNat + v.2.2.2.1.toNat + 100
noncomputable def k10_0 (h0 : List (Ty.T .str)) (h1 : Int) (h2 : Int) (h3 : Int) (c : Nat) : Bool := iterAt s10_0 (n10_0 (h0, h1, h2, h3, ())) (h0, h1, h2, h3, ()) c
noncomputable def w10_0 (h0 : List (Ty.T .str)) (h1 : Int) (h2 : Int) (h3 : Int) : V10_0 := iterV s10_0 (n10_0 (h0, h1, h2, h3, ())) (h0, h1, h2, h3, ())
noncomputable def F10_0 (v : V10_0) : Ways (Ex × St) := waysOf s10_0 (n10_0 v) v (bldSt ss10_0 gs8_0) [.ret, .exit 0] 0
theorem l10_0 : LoopOk Tryd.prog (loopAt [true, false, true] (bodyOf Tryd.f10)) ss10_0 gs8_0 F10_0 := loopOk_iter (lt := (ltPutC [true, false, false, false] (loopAt [true, false, true] (bodyOf Tryd.f10)) .none (.sum ss10_1 gs8_0 F10_1))) E10.ok orders (LtOk.putC wf10_1 (LtOk.no _) l10_1) fun n v K => Eq.trans (b := t10_0 v (kont _ _ _ _ _ K)) (by kernel_rfl) (show t10_0 v _ = (t10_0 v some).bind _ from (bnd_cond (bnd_cond (bnd_cond rfl rfl) rfl) rfl))
noncomputable def E10l : EnvOk Tryd.prog := E10.l (g := 10) (t := (ltPutC [true, false, true] (bodyOf Tryd.f10) .none (.sum ss10_0 gs8_0 F10_0))) (ltOk_of Tryd.func10 (LtOk.putL (by kernel_rfl) wf10_0 (LtOk.no _) l10_0))
noncomputable def u10 (a0 : List (Ty.T .str)) (a1 : Int) : Option (AV × Sig) := cond (k10_0 a0 a1 0 0 0) (some (.one (.int .i64 (w10_0 a0 a1 0 0).2.2.1), [])) (cond (k10_0 a0 a1 0 0 1) (some (.one (.int .i64 (w10_0 a0 a1 0 0).2.1), [])) (none))
noncomputable def v10 (a0 : List (Ty.T .str)) (a1 : Int) : Int := cond (k10_0 a0 a1 0 0 0) ((w10_0 a0 a1 0 0).2.2.1) (cond (k10_0 a0 a1 0 0 1) ((w10_0 a0 a1 0 0).2.1) (0))
noncomputable def d10 (a0 : List (Ty.T .str)) (a1 : Int) : Bool := cond (k10_0 a0 a1 0 0 0) (true) (cond (k10_0 a0 a1 0 0 1) (true) (false))
theorem o10 (a0 : List (Ty.T .str)) (a1 : Int) : u10 a0 a1 = cond (d10 a0 a1) (some (f10 (v10 a0 a1))) none := (par_cond (par_some _) (par_cond (par_some _) (par_none _)))
noncomputable def p10 : Prim := ⟨[.one (.dat (.sl 9 .str) true), .one (.dat (.int .i64) true)], fun v => .br (d10 v.1 v.2.1) (.done (f10 (v10 v.1 v.2.1))) .no⟩
theorem ok10 : PrimOk Tryd.prog 10 p10 := primOk_eq E10l.ok orders fun v => Eq.trans (b := u10 v.1 v.2.1) (by kernel_rfl) (o10 v.1 v.2.1)
noncomputable def f3 (r : Bool) : AV × Sig := (.one (.bool r), [])
noncomputable def E3 : EnvOk Tryd.prog := (((((E0.p ok10).p ok6).p ok7).p ok8).m ok9)
noncomputable def u3 (a0 : ByteArray) : Option (AV × Sig) := cond (decide ((a0.size : Int) > (1048576 : Int))) (some (.one (.bool true), [])) (cond (d6 a0) (cond (d7 a0) (cond (d8 (v7 a0) (v6 a0)) (cond (!(v8 (v7 a0) (v6 a0))) (some (.one (.bool false), [])) (cond (d9 1 (v7 a0)) (cond (d10 (v9 1 (v7 a0)).2 1) (cond (decide ((v10 (v9 1 (v7 a0)).2 1) < (0 : Int))) (some (.one (.bool false), [])) (cond ((v10 (v9 1 (v7 a0)).2 1) != (v9 1 (v7 a0)).1) (some (.one (.bool false), [])) (cond (d7 a0) (cond (d8 (v7 a0) (v6 a0)) (cond (!(v8 (v7 a0) (v6 a0))) (some (.one (.bool false), [])) (cond (d10 (v9 1 (v7 a0)).2 1) (cond (decide ((v10 (v9 1 (v7 a0)).2 1) < (0 : Int))) (some (.one (.bool false), [])) (cond ((v10 (v9 1 (v7 a0)).2 1) != (v9 1 (v7 a0)).1) (some (.one (.bool false), [])) (some (.one (.bool true), [])))) (none))) (none)) (none)))) (none)) (none))) (none)) (none)) (none))
noncomputable def v3 (a0 : ByteArray) : Bool := cond (decide ((a0.size : Int) > (1048576 : Int))) (true) (cond (d6 a0) (cond (d7 a0) (cond (d8 (v7 a0) (v6 a0)) (cond (!(v8 (v7 a0) (v6 a0))) (false) (cond (d9 1 (v7 a0)) (cond (d10 (v9 1 (v7 a0)).2 1) (cond (decide ((v10 (v9 1 (v7 a0)).2 1) < (0 : Int))) (false) (cond ((v10 (v9 1 (v7 a0)).2 1) != (v9 1 (v7 a0)).1) (false) (cond (d7 a0) (cond (d8 (v7 a0) (v6 a0)) (cond (!(v8 (v7 a0) (v6 a0))) (false) (cond (d10 (v9 1 (v7 a0)).2 1) (cond (decide ((v10 (v9 1 (v7 a0)).2 1) < (0 : Int))) (false) (cond ((v10 (v9 1 (v7 a0)).2 1) != (v9 1 (v7 a0)).1) (false) (true))) (false))) (false)) (false)))) (false)) (false))) (false)) (false)) (false))
noncomputable def d3 (a0 : ByteArray) : Bool := cond (decide ((a0.size : Int) > (1048576 : Int))) (true) (cond (d6 a0) (cond (d7 a0) (cond (d8 (v7 a0) (v6 a0)) (cond (!(v8 (v7 a0) (v6 a0))) (true) (cond (d9 1 (v7 a0)) (cond (d10 (v9 1 (v7 a0)).2 1) (cond (decide ((v10 (v9 1 (v7 a0)).2 1) < (0 : Int))) (true) (cond ((v10 (v9 1 (v7 a0)).2 1) != (v9 1 (v7 a0)).1) (true) (cond (d7 a0) (cond (d8 (v7 a0) (v6 a0)) (cond (!(v8 (v7 a0) (v6 a0))) (true) (cond (d10 (v9 1 (v7 a0)).2 1) (cond (decide ((v10 (v9 1 (v7 a0)).2 1) < (0 : Int))) (true) (cond ((v10 (v9 1 (v7 a0)).2 1) != (v9 1 (v7 a0)).1) (true) (true))) (false))) (false)) (false)))) (false)) (false))) (false)) (false)) (false))
theorem o3 (a0 : ByteArray) : u3 a0 = cond (d3 a0) (some (f3 (v3 a0))) none := (par_cond (par_some _) (par_cond (par_cond (par_cond (par_cond (par_some _) (par_cond (par_cond (par_cond (par_some _) (par_cond (par_some _) (par_cond (par_cond (par_cond (par_some _) (par_cond (par_cond (par_some _) (par_cond (par_some _) (par_some _))) (par_none _))) (par_none _)) (par_none _)))) (par_none _)) (par_none _))) (par_none _)) (par_none _)) (par_none _)))
noncomputable def p3 : Prim := ⟨[.one (.dat .str true)], fun v => .br (d3 v.1) (.done (f3 (v3 v.1))) .no⟩
theorem ok3 : PrimOk Tryd.prog 3 p3 := primOk_eq E3.ok orders fun v => Eq.trans (b := u3 v.1) (by kernel_rfl) (o3 v.1)
end Go.Proofs.YteimleeiikelbaaDoor.Vm
