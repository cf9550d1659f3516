/- Contracts. No condition. -/
import Derived.Test.YtahlaccdpmddbaaGreatVmCFnExactValidP2
import Derived.Test.YtahlaccdpmddbaaGreatVmLibThree
namespace Go.Proofs.YtahlaccdpmddbaaGreat.Vm
open Go Go.Proofs.YtahlaccdpmddbaaGreat.Lib
set_option maxRecDepth 100000
set_option linter.unusedVariables false
noncomputable def f174 (r : Bool) : AV × Sig := (.one (.bool r), [])
noncomputable def E174 : EnvOk Tryz.prog := E0
@[reducible] noncomputable def ss174_0 : List SP := .one (.dat (.sl 41 y27) true) :: .one (.dat (.sl 41 y27) true) :: U2 (.one (.dat .bool true) :: U4 (U2 (.und :: .one (.dat (.int .i64) true) :: .one (.dat (.int .i64) true) :: U8 (U4 ([])))))
@[reducible] noncomputable def V174_0 : Type := (List (Ty.T y27)) × (List (Ty.T y27)) × Bool × Int × Int × Unit
theorem wf174_0 : wfSt ss174_0 gs12_0 := wf_of (by kernel_rfl)
noncomputable def t174_0 (v : V174_0) {Z : Type} (κ : Nat × V174_0 → Option Z) : Option Z := cond (decide (v.2.2.2.2.1 < v.2.2.2.1)) (if 0 ≤ v.2.2.2.2.1 then (optC ((v.1)[(v.2.2.2.2.1).toNat]?) (fun x1 => if 0 ≤ v.2.2.2.2.1 then (optC ((v.2.1)[(v.2.2.2.2.1).toNat]?) (fun x2 => cond (!((x1.1 == x2.1) && ((x1.2.1 == x2.2.1) && ((x1.2.2.1 == x2.2.2.1) && ((x1.2.2.2.1 == x2.2.2.2.1) && ((x1.2.2.2.2.1 == x2.2.2.2.2.1) && ((x1.2.2.2.2.2.1 == x2.2.2.2.2.2.1) && ((x1.2.2.2.2.2.2 == x2.2.2.2.2.2.2) && true)))))))) (κ (1, (v.1, v.2.1, false, v.2.2.2.1, v.2.2.2.2.1, ()))) (κ (0, (v.1, v.2.1, v.2.2.1, v.2.2.2.1, IntKind.wrap .i64 (v.2.2.2.2.1 + (1 : Int)), ()))))) else none)) else none) (κ (2, (v.1, v.2.1, v.2.2.1, v.2.2.2.1, v.2.2.2.2.1, ())))
noncomputable def s174_0 (v : V174_0) : Option (Nat × V174_0) := t174_0 v some
noncomputable def n174_0 (v : V174_0) : Nat := v.1.length + v.2.1.length + v.2.2.2.1.toNat + v.2.2.2.2.1.toNat + 100
noncomputable def k174_0 (h0 : List (Ty.T y27)) (h1 : List (Ty.T y27)) (h2 : Bool) (h3 : Int) (h4 : Int) (c : Nat) : Bool := iterAt s174_0 (n174_0 (h0, h1, h2, h3, h4, ())) (h0, h1, h2, h3, h4, ()) c
noncomputable def w174_0 (h0 : List (Ty.T y27)) (h1 : List (Ty.T y27)) (h2 : Bool) (h3 : Int) (h4 : Int) : V174_0 := iterV s174_0 (n174_0 (h0, h1, h2, h3, h4, ())) (h0, h1, h2, h3, h4, ())
noncomputable def F174_0 (v : V174_0) : Ways (Ex × St) := waysOf s174_0 (n174_0 v) v (bldSt ss174_0 gs12_0) [.ret, .exit 0] 0
theorem l174_0 : LoopOk Tryz.prog (loopAt [true, true, false, true] (bodyOf Tryz.f174)) ss174_0 gs12_0 F174_0 := loopOk_iter (lt := .none) E174.ok orders (LtOk.no _) fun n v K => Eq.trans (b := t174_0 v (kont _ _ _ _ _ K)) (by kernel_rfl) (show t174_0 v _ = (t174_0 v some).bind _ from (bnd_cond (bnd_ite (bnd_opt fun x1 => (bnd_ite (bnd_opt fun x2 => (bnd_cond rfl rfl))))) rfl))
noncomputable def E174l : EnvOk Tryz.prog := E174.l (g := 174) (t := (ltPut [true, true, false, true] (bodyOf Tryz.f174) .none (.sum ss174_0 gs12_0 F174_0))) (ltOk_of Tryz.func174 (LtOk.put wf174_0 (LtOk.no _) l174_0))
noncomputable def u174 (a0 : List (Ty.T y27)) (a1 : List (Ty.T y27)) : Option (AV × Sig) := cond (((a0).length : Int) != ((a1).length : Int)) (some (.one (.bool false), [])) (cond (k174_0 a0 a1 false ((a0).length : Int) 0 0) (some (.one (.bool (w174_0 a0 a1 false ((a0).length : Int) 0).2.2.1), [])) (cond (k174_0 a0 a1 false ((a0).length : Int) 0 1) (some (.one (.bool true), [])) (none)))
noncomputable def v174 (a0 : List (Ty.T y27)) (a1 : List (Ty.T y27)) : Bool := cond (((a0).length : Int) != ((a1).length : Int)) (false) (cond (k174_0 a0 a1 false ((a0).length : Int) 0 0) ((w174_0 a0 a1 false ((a0).length : Int) 0).2.2.1) (cond (k174_0 a0 a1 false ((a0).length : Int) 0 1) (true) (false)))
noncomputable def d174 (a0 : List (Ty.T y27)) (a1 : List (Ty.T y27)) : Bool := cond (((a0).length : Int) != ((a1).length : Int)) (true) (cond (k174_0 a0 a1 false ((a0).length : Int) 0 0) (true) (cond (k174_0 a0 a1 false ((a0).length : Int) 0 1) (true) (false)))
theorem o174 (a0 : List (Ty.T y27)) (a1 : List (Ty.T y27)) : u174 a0 a1 = cond (d174 a0 a1) (some (f174 (v174 a0 a1))) none := (par_cond (par_some _) (par_cond (par_some _) (par_cond (par_some _) (par_none _))))
noncomputable def p174 : Prim := ⟨[.one (.dat (.sl 41 y27) true), .one (.dat (.sl 41 y27) true)], fun v => .br (d174 v.1 v.2.1) (.done (f174 (v174 v.1 v.2.1))) .no⟩
theorem ok174 : PrimOk Tryz.prog 174 p174 := primOk_eq E174l.ok orders fun v => Eq.trans (b := u174 v.1 v.2.1) (by kernel_rfl) (o174 v.1 v.2.1)
noncomputable def f59 (r : Bool) : AV × Sig := (.one (.bool r), [])
noncomputable def E59 : EnvOk Tryz.prog := (E0.p ok174)
noncomputable def u59 (a0 : List (Ty.T y27)) (a1 : List (Ty.T y27)) : Option (AV × Sig) := cond (d174 a0 a1) (some (.one (.bool (v174 a0 a1)), [])) (none)
noncomputable def v59 (a0 : List (Ty.T y27)) (a1 : List (Ty.T y27)) : Bool := cond (d174 a0 a1) ((v174 a0 a1)) (false)
noncomputable def d59 (a0 : List (Ty.T y27)) (a1 : List (Ty.T y27)) : Bool := cond (d174 a0 a1) (true) (false)
theorem o59 (a0 : List (Ty.T y27)) (a1 : List (Ty.T y27)) : u59 a0 a1 = cond (d59 a0 a1) (some (f59 (v59 a0 a1))) none := (par_cond (par_some _) (par_none _))
noncomputable def p59 : Prim := ⟨[.one (.dat (.sl 41 y27) true), .one (.dat (.sl 41 y27) true)], fun v => .br (d59 v.1 v.2.1) (.done (f59 (v59 v.1 v.2.1))) .no⟩
theorem ok59 : PrimOk Tryz.prog 59 p59 := primOk_eq E59.ok orders fun v => Eq.trans (b := u59 v.1 v.2.1) (by kernel_rfl) (o59 v.1 v.2.1)
noncomputable def f179 (r : Bool) : AV × Sig := (.one (.bool r), [])
noncomputable def E179 : EnvOk Tryz.prog := (E0.p ok174)
noncomputable def u179 (a0 : Ty.T y106) (a1 : Ty.T y106) : Option (AV × Sig) := cond (a0.1 == a1.1) (cond (a0.2.1 == a1.2.1) (cond (a0.2.2.1 == a1.2.2.1) (cond (a0.2.2.2.1 == a1.2.2.2.1) (cond (a0.2.2.2.2.1 == a1.2.2.2.2.1) (cond (a0.2.2.2.2.2.1 == a1.2.2.2.2.2.1) (cond (d174 a0.2.2.2.2.2.2 a1.2.2.2.2.2.2) (some (.one (.bool (v174 a0.2.2.2.2.2.2 a1.2.2.2.2.2.2)), [])) (none)) (some (.one (.bool false), []))) (some (.one (.bool false), []))) (some (.one (.bool false), []))) (some (.one (.bool false), []))) (some (.one (.bool false), []))) (some (.one (.bool false), []))
noncomputable def v179 (a0 : Ty.T y106) (a1 : Ty.T y106) : Bool := cond (a0.1 == a1.1) (cond (a0.2.1 == a1.2.1) (cond (a0.2.2.1 == a1.2.2.1) (cond (a0.2.2.2.1 == a1.2.2.2.1) (cond (a0.2.2.2.2.1 == a1.2.2.2.2.1) (cond (a0.2.2.2.2.2.1 == a1.2.2.2.2.2.1) (cond (d174 a0.2.2.2.2.2.2 a1.2.2.2.2.2.2) ((v174 a0.2.2.2.2.2.2 a1.2.2.2.2.2.2)) (false)) (false)) (false)) (false)) (false)) (false)) (false)
noncomputable def d179 (a0 : Ty.T y106) (a1 : Ty.T y106) : Bool := cond (a0.1 == a1.1) (cond (a0.2.1 == a1.2.1) (cond (a0.2.2.1 == a1.2.2.1) (cond (a0.2.2.2.1 == a1.2.2.2.1) (cond (a0.2.2.2.2.1 == a1.2.2.2.2.1) (cond (a0.2.2.2.2.2.1 == a1.2.2.2.2.2.1) (cond (d174 a0.2.2.2.2.2.2 a1.2.2.2.2.2.2) (true) (false)) (true)) (true)) (true)) (true)) (true)) (true)
theorem o179 (a0 : Ty.T y106) (a1 : Ty.T y106) : u179 a0 a1 = cond (d179 a0 a1) (some (f179 (v179 a0 a1))) none := (par_cond (par_cond (par_cond (par_cond (par_cond (par_cond (par_cond (par_some _) (par_none _)) (par_some _)) (par_some _)) (par_some _)) (par_some _)) (par_some _)) (par_some _))
noncomputable def p179 : Prim := ⟨[.agg [.dat y106 true], .agg [.dat y106 true]], fun v => .br (d179 v.1 v.2.1) (.done (f179 (v179 v.1 v.2.1))) .no⟩
theorem ok179 : PrimOk Tryz.prog 179 p179 := primOk_eq E179.ok orders fun v => Eq.trans (b := u179 v.1 v.2.1) (by kernel_rfl) (o179 v.1 v.2.1)
noncomputable def f73 (r : Bool) : AV × Sig := (.one (.bool r), [])
noncomputable def E73 : EnvOk Tryz.prog := (E0.p ok179)
noncomputable def t73 (a0 : Ty.T y108) (a1 : Ty.T y108) {Z : Type} (κ : Bool → Option Z) : Option Z := cond (a0.1 == a1.1) (cond (a0.2.1 == a1.2.1) (cond (a0.2.2.1 == a1.2.2.1) (cond (a0.2.2.2.1 == a1.2.2.2.1) (cond ((a0.2.2.2.2.1.1 == a1.2.2.2.2.1.1) && ((a0.2.2.2.2.1.2.1 == a1.2.2.2.2.1.2.1) && ((a0.2.2.2.2.1.2.2.1 == a1.2.2.2.2.1.2.2.1) && ((a0.2.2.2.2.1.2.2.2.1 == a1.2.2.2.2.1.2.2.2.1) && ((a0.2.2.2.2.1.2.2.2.2.1 == a1.2.2.2.2.1.2.2.2.2.1) && ((a0.2.2.2.2.1.2.2.2.2.2.1 == a1.2.2.2.2.1.2.2.2.2.2.1) && ((a0.2.2.2.2.1.2.2.2.2.2.2 == a1.2.2.2.2.1.2.2.2.2.2.2) && true))))))) (cond ((a0.2.2.2.2.2.1.1 == a1.2.2.2.2.2.1.1) && ((a0.2.2.2.2.2.1.2 == a1.2.2.2.2.2.1.2) && true)) (cond (d179 a0.2.2.2.2.2.2.1 a1.2.2.2.2.2.2.1) (cond (v179 a0.2.2.2.2.2.2.1 a1.2.2.2.2.2.2.1) (cond (a0.2.2.2.2.2.2.2.1 == a1.2.2.2.2.2.2.2.1) (κ (a0.2.2.2.2.2.2.2.2 == a1.2.2.2.2.2.2.2.2)) (κ false)) (κ false)) (none)) (κ false)) (κ false)) (κ false)) (κ false)) (κ false)) (κ false)
noncomputable def v73 (a0 : Ty.T y108) (a1 : Ty.T y108) : Bool := (t73 a0 a1 some).getD false
noncomputable def d73 (a0 : Ty.T y108) (a1 : Ty.T y108) : Bool := (t73 a0 a1 some).isSome
noncomputable def p73 : Prim := ⟨[.agg [.dat y108 true], .agg [.dat y108 true]], fun v => .br (d73 v.1 v.2.1) (.done (f73 (v73 v.1 v.2.1))) .no⟩
theorem ok73 : PrimOk Tryz.prog 73 p73 := primOk_eq E73.ok orders fun v => Eq.trans (b := (t73 v.1 v.2.1 (fun r => some (f73 r)))) (by kernel_rfl) (run_fin (show t73 v.1 v.2.1 (fun r => some (f73 r)) = (t73 v.1 v.2.1 some).bind _ from (bnd_cond (bnd_cond (bnd_cond (bnd_cond (bnd_cond (bnd_cond (bnd_cond (bnd_cond (bnd_cond rfl rfl) rfl) rfl) rfl) rfl) rfl) rfl) rfl) rfl)))
noncomputable def f180c1 (r : Bool) : AV × Sig := (.one (.bool r), [])
noncomputable def E180c1 : EnvOk Tryz.prog := (E0.p ok73)
@[reducible] noncomputable def ss180c1_0 : List SP := .und :: .one (.dat (.sl 109 y108) true) :: .one (.fnc 73 []) :: U2 (.und :: .one (.dat .bool true) :: U8 (.one (.dat (.sl 109 y108) true) :: .one (.dat (.int .i64) true) :: .one (.dat (.int .i64) true) :: U8 (U4 (U2 ([])))))
@[reducible] noncomputable def V180c1_0 : Type := (List (Ty.T y108)) × Bool × (List (Ty.T y108)) × Int × Int × Unit
theorem wf180c1_0 : wfSt ss180c1_0 gs12_0 := wf_of (by kernel_rfl)
noncomputable def t180c1_0 (v : V180c1_0) {Z : Type} (κ : Nat × V180c1_0 → Option Z) : Option Z := cond (decide (v.2.2.2.2.1 < v.2.2.2.1)) (if 0 ≤ v.2.2.2.2.1 then (optC ((v.2.2.1)[(v.2.2.2.2.1).toNat]?) (fun x1 => if 0 ≤ v.2.2.2.2.1 then (optC ((v.1)[(v.2.2.2.2.1).toNat]?) (fun x2 => cond (d73 x1 x2) (cond (!(v73 x1 x2)) (κ (1, (v.1, false, v.2.2.1, v.2.2.2.1, v.2.2.2.2.1, ()))) (κ (0, (v.1, v.2.1, v.2.2.1, v.2.2.2.1, IntKind.wrap .i64 (v.2.2.2.2.1 + (1 : Int)), ())))) (none))) else none)) else none) (κ (2, (v.1, v.2.1, v.2.2.1, v.2.2.2.1, v.2.2.2.2.1, ())))
noncomputable def s180c1_0 (v : V180c1_0) : Option (Nat × V180c1_0) := t180c1_0 v some
noncomputable def n180c1_0 (v : V180c1_0) : Nat := v.1.length + v.2.2.1.length + v.2.2.2.1.toNat + v.2.2.2.2.1.toNat + 100
noncomputable def k180c1_0 (h0 : List (Ty.T y108)) (h1 : Bool) (h2 : List (Ty.T y108)) (h3 : Int) (h4 : Int) (c : Nat) : Bool := iterAt s180c1_0 (n180c1_0 (h0, h1, h2, h3, h4, ())) (h0, h1, h2, h3, h4, ()) c
noncomputable def w180c1_0 (h0 : List (Ty.T y108)) (h1 : Bool) (h2 : List (Ty.T y108)) (h3 : Int) (h4 : Int) : V180c1_0 := iterV s180c1_0 (n180c1_0 (h0, h1, h2, h3, h4, ())) (h0, h1, h2, h3, h4, ())
noncomputable def F180c1_0 (v : V180c1_0) : Ways (Ex × St) := waysOf s180c1_0 (n180c1_0 v) v (bldSt ss180c1_0 gs12_0) [.ret, .exit 0] 0
theorem l180c1_0 : LoopOk Tryz.prog (loopAt [true, true, false, true] (bodyOf Tryz.f180)) ss180c1_0 gs12_0 F180c1_0 := loopOk_iter (lt := .none) E180c1.ok orders (LtOk.no _) fun n v K => Eq.trans (b := t180c1_0 v (kont _ _ _ _ _ K)) (by kernel_rfl) (show t180c1_0 v _ = (t180c1_0 v some).bind _ from (bnd_cond (bnd_ite (bnd_opt fun x1 => (bnd_ite (bnd_opt fun x2 => (bnd_cond (bnd_cond rfl rfl) rfl))))) rfl))
noncomputable def E180c1l : EnvOk Tryz.prog := E180c1.l (g := 180) (t := (ltPut [true, true, false, true] (bodyOf Tryz.f180) .none (.sum ss180c1_0 gs12_0 F180c1_0))) (ltOk_of Tryz.func180 (LtOk.put wf180c1_0 (LtOk.no _) l180c1_0))
noncomputable def u180c1 (a0 : List (Ty.T y108)) (a1 : List (Ty.T y108)) : Option (AV × Sig) := cond (((a0).length : Int) != ((a1).length : Int)) (some (.one (.bool false), [])) (cond (k180c1_0 a1 false a0 ((a0).length : Int) 0 0) (some (.one (.bool (w180c1_0 a1 false a0 ((a0).length : Int) 0).2.1), [])) (cond (k180c1_0 a1 false a0 ((a0).length : Int) 0 1) (some (.one (.bool true), [])) (none)))
noncomputable def v180c1 (a0 : List (Ty.T y108)) (a1 : List (Ty.T y108)) : Bool := cond (((a0).length : Int) != ((a1).length : Int)) (false) (cond (k180c1_0 a1 false a0 ((a0).length : Int) 0 0) ((w180c1_0 a1 false a0 ((a0).length : Int) 0).2.1) (cond (k180c1_0 a1 false a0 ((a0).length : Int) 0 1) (true) (false)))
noncomputable def d180c1 (a0 : List (Ty.T y108)) (a1 : List (Ty.T y108)) : Bool := cond (((a0).length : Int) != ((a1).length : Int)) (true) (cond (k180c1_0 a1 false a0 ((a0).length : Int) 0 0) (true) (cond (k180c1_0 a1 false a0 ((a0).length : Int) 0 1) (true) (false)))
theorem o180c1 (a0 : List (Ty.T y108)) (a1 : List (Ty.T y108)) : u180c1 a0 a1 = cond (d180c1 a0 a1) (some (f180c1 (v180c1 a0 a1))) none := (par_cond (par_some _) (par_cond (par_some _) (par_cond (par_some _) (par_none _))))
noncomputable def p180c1 : Prim := ⟨[.one (.dat (.sl 109 y108) true), .one (.dat (.sl 109 y108) true), .one (.fnc 73 [])], fun v => .br (d180c1 v.1 v.2.1) (.done (f180c1 (v180c1 v.1 v.2.1))) .no⟩
theorem ok180c1 : PrimOk Tryz.prog 180 p180c1 := primOk_eq E180c1l.ok orders fun v => Eq.trans (b := u180c1 v.1 v.2.1) (by kernel_rfl) (o180c1 v.1 v.2.1)
noncomputable def f74 (r : Bool) : AV × Sig := (.one (.bool r), [])
noncomputable def E74 : EnvOk Tryz.prog := (E0.p ok180c1)
noncomputable def u74 (a0 : List (Ty.T y108)) (a1 : List (Ty.T y108)) : Option (AV × Sig) := cond (d180c1 a0 a1) (some (.one (.bool (v180c1 a0 a1)), [])) (none)
noncomputable def v74 (a0 : List (Ty.T y108)) (a1 : List (Ty.T y108)) : Bool := cond (d180c1 a0 a1) ((v180c1 a0 a1)) (false)
noncomputable def d74 (a0 : List (Ty.T y108)) (a1 : List (Ty.T y108)) : Bool := cond (d180c1 a0 a1) (true) (false)
theorem o74 (a0 : List (Ty.T y108)) (a1 : List (Ty.T y108)) : u74 a0 a1 = cond (d74 a0 a1) (some (f74 (v74 a0 a1))) none := (par_cond (par_some _) (par_none _))
noncomputable def p74 : Prim := ⟨[.one (.dat (.sl 109 y108) true), .one (.dat (.sl 109 y108) true)], fun v => .br (d74 v.1 v.2.1) (.done (f74 (v74 v.1 v.2.1))) .no⟩
theorem ok74 : PrimOk Tryz.prog 74 p74 := primOk_eq E74.ok orders fun v => Eq.trans (b := u74 v.1 v.2.1) (by kernel_rfl) (o74 v.1 v.2.1)
noncomputable def f165 (r : Bool) : AV × Sig := (.one (.bool r), [])
noncomputable def E165 : EnvOk Tryz.prog := E0
noncomputable def u165 (a0 : Int) (a1 : Int) (a2 : Int) : Option (AV × Sig) := cond (decide (a0 ≥ a1)) (some (.one (.bool (decide (a0 ≤ a2))), [])) (some (.one (.bool false), []))
noncomputable def v165 (a0 : Int) (a1 : Int) (a2 : Int) : Bool := cond (decide (a0 ≥ a1)) (decide (a0 ≤ a2)) (false)
theorem o165 (a0 : Int) (a1 : Int) (a2 : Int) : u165 a0 a1 a2 = some (f165 (v165 a0 a1 a2)) := (tot_cond rfl rfl)
noncomputable def p165 : Prim := ⟨[.one (.dat (.int .i64) true), .one (.dat (.int .i64) true), .one (.dat (.int .i64) true)], fun v => .done (f165 (v165 v.1 v.2.1 v.2.2.1))⟩
theorem ok165 : PrimOk Tryz.prog 165 p165 := primOk_eq E165.ok orders fun v => Eq.trans (b := u165 v.1 v.2.1 v.2.2.1) (by kernel_rfl) (o165 v.1 v.2.1 v.2.2.1)
noncomputable def f159 (r : Bool) : AV × Sig := (.one (.bool r), [])
noncomputable def E159 : EnvOk Tryz.prog := (E0.p ok165)
noncomputable def u159 (a0 : Int) : Option (AV × Sig) := some (.one (.bool (v165 a0 0 2147483647)), [])
noncomputable def v159 (a0 : Int) : Bool := (v165 a0 0 2147483647)
theorem o159 (a0 : Int) : u159 a0 = some (f159 (v159 a0)) := rfl
noncomputable def p159 : Prim := ⟨[.one (.dat (.int .i64) true)], fun v => .done (f159 (v159 v.1))⟩
theorem ok159 : PrimOk Tryz.prog 159 p159 := primOk_eq E159.ok orders fun v => Eq.trans (b := u159 v.1) (by kernel_rfl) (o159 v.1)
noncomputable def f160 (r : Bool) : AV × Sig := (.one (.bool r), [])
noncomputable def E160 : EnvOk Tryz.prog := (E0.p ok165)
noncomputable def u160 (a0 : Int) : Option (AV × Sig) := some (.one (.bool (v165 a0 1 99)), [])
noncomputable def v160 (a0 : Int) : Bool := (v165 a0 1 99)
theorem o160 (a0 : Int) : u160 a0 = some (f160 (v160 a0)) := rfl
noncomputable def p160 : Prim := ⟨[.one (.dat (.int .i64) true)], fun v => .done (f160 (v160 v.1))⟩
theorem ok160 : PrimOk Tryz.prog 160 p160 := primOk_eq E160.ok orders fun v => Eq.trans (b := u160 v.1) (by kernel_rfl) (o160 v.1)
noncomputable def f161 (r : Bool) : AV × Sig := (.one (.bool r), [])
noncomputable def E161 : EnvOk Tryz.prog := (E0.p ok160)
noncomputable def u161 (a0 : Ty.T y27) : Option (AV × Sig) := cond (v160 a0.2.2.1) (some (.one (.bool (a0.2.2.2.1 == (-1 : Int))), [])) (some (.one (.bool false), []))
noncomputable def v161 (a0 : Ty.T y27) : Bool := cond (v160 a0.2.2.1) ((a0.2.2.2.1 == (-1 : Int))) (false)
theorem o161 (a0 : Ty.T y27) : u161 a0 = some (f161 (v161 a0)) := (tot_cond rfl rfl)
noncomputable def p161 : Prim := ⟨[.agg [.dat y27 true]], fun v => .done (f161 (v161 v.1))⟩
theorem ok161 : PrimOk Tryz.prog 161 p161 := primOk_eq E161.ok orders fun v => Eq.trans (b := u161 v.1) (by kernel_rfl) (o161 v.1)
noncomputable def f164 (r : Bool) : AV × Sig := (.one (.bool r), [])
noncomputable def E164 : EnvOk Tryz.prog := (E0.p ok165)
noncomputable def u164 (a0 : Int) : Option (AV × Sig) := some (.one (.bool (v165 a0 0 2)), [])
noncomputable def v164 (a0 : Int) : Bool := (v165 a0 0 2)
theorem o164 (a0 : Int) : u164 a0 = some (f164 (v164 a0)) := rfl
noncomputable def p164 : Prim := ⟨[.one (.dat (.int .i64) true)], fun v => .done (f164 (v164 v.1))⟩
theorem ok164 : PrimOk Tryz.prog 164 p164 := primOk_eq E164.ok orders fun v => Eq.trans (b := u164 v.1) (by kernel_rfl) (o164 v.1)
noncomputable def f162 (r : Bool) : AV × Sig := (.one (.bool r), [])
noncomputable def E162 : EnvOk Tryz.prog := (E0.p ok164)
noncomputable def u162 (a0 : Ty.T y27) : Option (AV × Sig) := cond (a0.2.2.1 == (0 : Int)) (some (.one (.bool (v164 a0.2.2.2.1)), [])) (some (.one (.bool false), []))
noncomputable def v162 (a0 : Ty.T y27) : Bool := cond (a0.2.2.1 == (0 : Int)) ((v164 a0.2.2.2.1)) (false)
theorem o162 (a0 : Ty.T y27) : u162 a0 = some (f162 (v162 a0)) := (tot_cond rfl rfl)
noncomputable def p162 : Prim := ⟨[.agg [.dat y27 true]], fun v => .done (f162 (v162 v.1))⟩
theorem ok162 : PrimOk Tryz.prog 162 p162 := primOk_eq E162.ok orders fun v => Eq.trans (b := u162 v.1) (by kernel_rfl) (o162 v.1)
noncomputable def f163 (r : Bool) : AV × Sig := (.one (.bool r), [])
noncomputable def E163 : EnvOk Tryz.prog := (E0.p ok165)
noncomputable def u163 (a0 : Int) : Option (AV × Sig) := some (.one (.bool (v165 a0 1 4)), [])
noncomputable def v163 (a0 : Int) : Bool := (v165 a0 1 4)
theorem o163 (a0 : Int) : u163 a0 = some (f163 (v163 a0)) := rfl
noncomputable def p163 : Prim := ⟨[.one (.dat (.int .i64) true)], fun v => .done (f163 (v163 v.1))⟩
theorem ok163 : PrimOk Tryz.prog 163 p163 := primOk_eq E163.ok orders fun v => Eq.trans (b := u163 v.1) (by kernel_rfl) (o163 v.1)
noncomputable def f53 (r : Bool) : AV × Sig := (.one (.bool r), [])
noncomputable def E53 : EnvOk Tryz.prog := (((((E0.p ok159).p ok160).p ok161).p ok162).p ok163)
noncomputable def t53 (a0 : Ty.T y27) {Z : Type} (κ : Bool → Z) : Z := cond (!(v159 a0.2.2.2.2.1)) (κ false) (cond (a0.1 != (1 : Int)) (cond (a0.2.1 != (0 : Int)) (κ false) (cond (a0.1 != (2 : Int)) (cond (a0.2.2.2.2.2.1 != (0 : Int)) (κ false) (cond a0.2.2.2.2.2.2 (κ false) (cond (a0.1 == (1 : Int)) (cond (v160 a0.2.1) (cond (v161 a0) (κ true) (κ (v162 a0))) (κ false)) (cond (a0.1 == (2 : Int)) (cond (a0.2.2.2.2.2.1 == (2 : Int)) (cond (v161 a0) (κ (decide (a0.2.2.2.2.1 ≤ (99 : Int)))) (κ false)) (cond (v161 a0) (cond (v163 a0.2.2.2.2.2.1) (cond (a0.2.2.2.2.1 == (0 : Int)) (κ (!a0.2.2.2.2.2.2)) (κ false)) (κ false)) (κ false))) (cond (a0.1 == (3 : Int)) (cond (a0.1 == (3 : Int)) (κ (v162 a0)) (cond (a0.1 == (5 : Int)) (cond (a0.1 == (5 : Int)) (κ (v161 a0)) (κ false)) (cond (a0.1 == (6 : Int)) (κ (v161 a0)) (κ false)))) (cond (a0.1 == (4 : Int)) (κ (v162 a0)) (cond (a0.1 == (5 : Int)) (cond (a0.1 == (5 : Int)) (κ (v161 a0)) (κ false)) (cond (a0.1 == (6 : Int)) (κ (v161 a0)) (κ false))))))))) (cond (a0.1 == (1 : Int)) (cond (v160 a0.2.1) (cond (v161 a0) (κ true) (κ (v162 a0))) (κ false)) (cond (a0.1 == (2 : Int)) (cond (a0.2.2.2.2.2.1 == (2 : Int)) (cond (v161 a0) (κ (decide (a0.2.2.2.2.1 ≤ (99 : Int)))) (κ false)) (cond (v161 a0) (cond (v163 a0.2.2.2.2.2.1) (cond (a0.2.2.2.2.1 == (0 : Int)) (κ (!a0.2.2.2.2.2.2)) (κ false)) (κ false)) (κ false))) (cond (a0.1 == (3 : Int)) (cond (a0.1 == (3 : Int)) (κ (v162 a0)) (cond (a0.1 == (5 : Int)) (cond (a0.1 == (5 : Int)) (κ (v161 a0)) (κ false)) (cond (a0.1 == (6 : Int)) (κ (v161 a0)) (κ false)))) (cond (a0.1 == (4 : Int)) (κ (v162 a0)) (cond (a0.1 == (5 : Int)) (cond (a0.1 == (5 : Int)) (κ (v161 a0)) (κ false)) (cond (a0.1 == (6 : Int)) (κ (v161 a0)) (κ false))))))))) (cond (a0.1 != (2 : Int)) (cond (a0.2.2.2.2.2.1 != (0 : Int)) (κ false) (cond a0.2.2.2.2.2.2 (κ false) (cond (a0.1 == (1 : Int)) (cond (v160 a0.2.1) (cond (v161 a0) (κ true) (κ (v162 a0))) (κ false)) (cond (a0.1 == (2 : Int)) (cond (a0.2.2.2.2.2.1 == (2 : Int)) (cond (v161 a0) (κ (decide (a0.2.2.2.2.1 ≤ (99 : Int)))) (κ false)) (cond (v161 a0) (cond (v163 a0.2.2.2.2.2.1) (cond (a0.2.2.2.2.1 == (0 : Int)) (κ (!a0.2.2.2.2.2.2)) (κ false)) (κ false)) (κ false))) (cond (a0.1 == (3 : Int)) (cond (a0.1 == (3 : Int)) (κ (v162 a0)) (cond (a0.1 == (5 : Int)) (cond (a0.1 == (5 : Int)) (κ (v161 a0)) (κ false)) (cond (a0.1 == (6 : Int)) (κ (v161 a0)) (κ false)))) (cond (a0.1 == (4 : Int)) (κ (v162 a0)) (cond (a0.1 == (5 : Int)) (cond (a0.1 == (5 : Int)) (κ (v161 a0)) (κ false)) (cond (a0.1 == (6 : Int)) (κ (v161 a0)) (κ false))))))))) (cond (a0.1 == (1 : Int)) (cond (v160 a0.2.1) (cond (v161 a0) (κ true) (κ (v162 a0))) (κ false)) (cond (a0.1 == (2 : Int)) (cond (a0.2.2.2.2.2.1 == (2 : Int)) (cond (v161 a0) (κ (decide (a0.2.2.2.2.1 ≤ (99 : Int)))) (κ false)) (cond (v161 a0) (cond (v163 a0.2.2.2.2.2.1) (cond (a0.2.2.2.2.1 == (0 : Int)) (κ (!a0.2.2.2.2.2.2)) (κ false)) (κ false)) (κ false))) (cond (a0.1 == (3 : Int)) (cond (a0.1 == (3 : Int)) (κ (v162 a0)) (cond (a0.1 == (5 : Int)) (cond (a0.1 == (5 : Int)) (κ (v161 a0)) (κ false)) (cond (a0.1 == (6 : Int)) (κ (v161 a0)) (κ false)))) (cond (a0.1 == (4 : Int)) (κ (v162 a0)) (cond (a0.1 == (5 : Int)) (cond (a0.1 == (5 : Int)) (κ (v161 a0)) (κ false)) (cond (a0.1 == (6 : Int)) (κ (v161 a0)) (κ false)))))))))
noncomputable def v53 (a0 : Ty.T y27) : Bool := t53 a0 fun r => r
noncomputable def p53 : Prim := ⟨[.agg [.dat y27 true]], fun v => .done (f53 (v53 v.1))⟩
theorem ok53 : PrimOk Tryz.prog 53 p53 := primOk_eq E53.ok orders fun v => Eq.trans (b := (t53 v.1 (fun r => some (f53 r)))) (by kernel_rfl) (show t53 v.1 (fun r => some (f53 r)) = some (f53 (t53 v.1 fun r => r)) from (tot_cond rfl (tot_cond (tot_cond rfl (tot_cond (tot_cond rfl (tot_cond rfl (tot_cond (tot_cond (tot_cond rfl rfl) rfl) (tot_cond (tot_cond (tot_cond rfl rfl) (tot_cond (tot_cond (tot_cond rfl rfl) rfl) rfl)) (tot_cond (tot_cond rfl (tot_cond (tot_cond rfl rfl) (tot_cond rfl rfl))) (tot_cond rfl (tot_cond (tot_cond rfl rfl) (tot_cond rfl rfl)))))))) (tot_cond (tot_cond (tot_cond rfl rfl) rfl) (tot_cond (tot_cond (tot_cond rfl rfl) (tot_cond (tot_cond (tot_cond rfl rfl) rfl) rfl)) (tot_cond (tot_cond rfl (tot_cond (tot_cond rfl rfl) (tot_cond rfl rfl))) (tot_cond rfl (tot_cond (tot_cond rfl rfl) (tot_cond rfl rfl)))))))) (tot_cond (tot_cond rfl (tot_cond rfl (tot_cond (tot_cond (tot_cond rfl rfl) rfl) (tot_cond (tot_cond (tot_cond rfl rfl) (tot_cond (tot_cond (tot_cond rfl rfl) rfl) rfl)) (tot_cond (tot_cond rfl (tot_cond (tot_cond rfl rfl) (tot_cond rfl rfl))) (tot_cond rfl (tot_cond (tot_cond rfl rfl) (tot_cond rfl rfl)))))))) (tot_cond (tot_cond (tot_cond rfl rfl) rfl) (tot_cond (tot_cond (tot_cond rfl rfl) (tot_cond (tot_cond (tot_cond rfl rfl) rfl) rfl)) (tot_cond (tot_cond rfl (tot_cond (tot_cond rfl rfl) (tot_cond rfl rfl))) (tot_cond rfl (tot_cond (tot_cond rfl rfl) (tot_cond rfl rfl))))))))))
noncomputable def f168 (r : Bool) : AV × Sig := (.one (.bool r), [])
noncomputable def E168 : EnvOk Tryz.prog := (E0.p ok165)
noncomputable def u168 (a0 : Ty.T y36) (a1 : Int) : Option (AV × Sig) := some (.one (.bool (v165 a1 0 (IntKind.wrap .i64 (((a0.2.1).length : Int) - (1 : Int))))), [])
noncomputable def v168 (a0 : Ty.T y36) (a1 : Int) : Bool := (v165 a1 0 (IntKind.wrap .i64 (((a0.2.1).length : Int) - (1 : Int))))
theorem o168 (a0 : Ty.T y36) (a1 : Int) : u168 a0 a1 = some (f168 (v168 a0 a1)) := rfl
noncomputable def p168 : Prim := ⟨[.agg [.dat y36 true], .one (.dat (.int .i64) true)], fun v => .done (f168 (v168 v.1 v.2.1))⟩
theorem ok168 : PrimOk Tryz.prog 168 p168 := primOk_eq E168.ok orders fun v => Eq.trans (b := u168 v.1 v.2.1) (by kernel_rfl) (o168 v.1 v.2.1)
noncomputable def f169 (r : Bool) : AV × Sig := (.one (.bool r), [])
noncomputable def E169 : EnvOk Tryz.prog := (E0.p ok165)
noncomputable def u169 (a0 : Int) : Option (AV × Sig) := some (.one (.bool (v165 a0 0 9999)), [])
noncomputable def v169 (a0 : Int) : Bool := (v165 a0 0 9999)
theorem o169 (a0 : Int) : u169 a0 = some (f169 (v169 a0)) := rfl
noncomputable def p169 : Prim := ⟨[.one (.dat (.int .i64) true)], fun v => .done (f169 (v169 v.1))⟩
theorem ok169 : PrimOk Tryz.prog 169 p169 := primOk_eq E169.ok orders fun v => Eq.trans (b := u169 v.1) (by kernel_rfl) (o169 v.1)
noncomputable def f250 (r : Bool) : AV × Sig := (.one (.bool r), [])
noncomputable def E250 : EnvOk Tryz.prog := (E0.p ok165)
noncomputable def u250 (a0 : Int) : Option (AV × Sig) := some (.one (.bool (v165 a0 0 63)), [])
noncomputable def v250 (a0 : Int) : Bool := (v165 a0 0 63)
theorem o250 (a0 : Int) : u250 a0 = some (f250 (v250 a0)) := rfl
noncomputable def p250 : Prim := ⟨[.one (.dat (.int .i64) true)], fun v => .done (f250 (v250 v.1))⟩
theorem ok250 : PrimOk Tryz.prog 250 p250 := primOk_eq E250.ok orders fun v => Eq.trans (b := u250 v.1) (by kernel_rfl) (o250 v.1)
noncomputable def f170 (r : Bool) : AV × Sig := (.one (.bool r), [])
noncomputable def E170 : EnvOk Tryz.prog := (((((((E0.p ok159).p ok160).p ok163).p ok164).p ok165).p ok169).p ok250)
noncomputable def t170 (a0 : Ty.T y63) {Z : Type} (κ : Bool → Z) : Z := cond (!(v160 a0.1)) (κ false) (cond (!(v164 a0.2.1)) (κ false) (cond (!(v164 a0.2.2.1)) (κ false) (cond (!(v163 a0.2.2.2.1)) (κ false) (cond (!(v169 a0.2.2.2.2.1)) (κ false) (cond (!(v165 a0.2.2.2.2.2.1 0 999)) (κ false) (cond (!(v165 a0.2.2.2.2.2.2.1 0 999)) (κ false) (cond (!(v250 a0.2.2.2.2.2.2.2.1)) (κ false) (cond (a0.2.2.2.1 != (2 : Int)) (cond (a0.2.2.1 == a0.2.1) (cond (a0.2.2.2.2.2.2.2.2.1 == (0 : Int)) (cond (a0.2.2.2.2.2.2.2.2.2.1 == (0 : Int)) (cond (a0.2.2.2.2.2.2.2.2.2.2.1 == (0 : Int)) (cond (!a0.2.2.2.2.2.2.2.2.2.2.2.1) (κ (!a0.2.2.2.2.2.2.2.2.2.2.2.2)) (κ false)) (κ false)) (κ false)) (κ false)) (κ false)) (cond (v159 a0.2.2.2.2.2.2.2.2.1) (cond (v159 a0.2.2.2.2.2.2.2.2.2.1) (κ (v159 a0.2.2.2.2.2.2.2.2.2.2.1)) (κ false)) (κ false))))))))))
noncomputable def v170 (a0 : Ty.T y63) : Bool := t170 a0 fun r => r
noncomputable def p170 : Prim := ⟨[.agg [.dat y63 true]], fun v => .done (f170 (v170 v.1))⟩
theorem ok170 : PrimOk Tryz.prog 170 p170 := primOk_eq E170.ok orders fun v => Eq.trans (b := (t170 v.1 (fun r => some (f170 r)))) (by kernel_rfl) (show t170 v.1 (fun r => some (f170 r)) = some (f170 (t170 v.1 fun r => r)) from (tot_cond rfl (tot_cond rfl (tot_cond rfl (tot_cond rfl (tot_cond rfl (tot_cond rfl (tot_cond rfl (tot_cond rfl (tot_cond (tot_cond (tot_cond (tot_cond (tot_cond (tot_cond rfl rfl) rfl) rfl) rfl) rfl) (tot_cond (tot_cond rfl rfl) rfl)))))))))))
noncomputable def f173 (r : Int) : AV × Sig := (.one (.int .i64 r), [])
noncomputable def E173 : EnvOk Tryz.prog := E0
noncomputable def u173 (a0 : Int) : Option (AV × Sig) := some (.one (.int .i64 (if (if (2147483647 : Int) < a0 then 2147483647 else a0) > (-2147483647 : Int) then if (2147483647 : Int) < a0 then 2147483647 else a0 else (-2147483647))), [])
noncomputable def v173 (a0 : Int) : Int := if (if (2147483647 : Int) < a0 then 2147483647 else a0) > (-2147483647 : Int) then if (2147483647 : Int) < a0 then 2147483647 else a0 else (-2147483647)
theorem o173 (a0 : Int) : u173 a0 = some (f173 (v173 a0)) := rfl
noncomputable def p173 : Prim := ⟨[.one (.dat (.int .i64) true)], fun v => .done (f173 (v173 v.1))⟩
theorem ok173 : PrimOk Tryz.prog 173 p173 := primOk_eq E173.ok orders fun v => Eq.trans (b := u173 v.1) (by kernel_rfl) (o173 v.1)
noncomputable def f172 (r : Bool) : AV × Sig := (.one (.bool r), [])
noncomputable def E172 : EnvOk Tryz.prog := ((E0.p ok159).p ok173)
noncomputable def u172 (a0 : Ty.T y190) : Option (AV × Sig) := cond ((v173 a0.1) != a0.1) (some (.one (.bool true), [])) (some (.one (.bool (!(v159 a0.2.1))), []))
noncomputable def v172 (a0 : Ty.T y190) : Bool := cond ((v173 a0.1) != a0.1) (true) (!(v159 a0.2.1))
theorem o172 (a0 : Ty.T y190) : u172 a0 = some (f172 (v172 a0)) := (tot_cond rfl rfl)
noncomputable def p172 : Prim := ⟨[.agg [.dat y190 true]], fun v => .done (f172 (v172 v.1))⟩
theorem ok172 : PrimOk Tryz.prog 172 p172 := primOk_eq E172.ok orders fun v => Eq.trans (b := u172 v.1) (by kernel_rfl) (o172 v.1)
noncomputable def f251c1 (r : Int) : AV × Sig := (.one (.int .i64 r), [])
noncomputable def E251c1 : EnvOk Tryz.prog := (E0.p ok172)
@[reducible] noncomputable def ss251c1_0 : List SP := .one (.dat (.sl 191 y190) true) :: .one (.fnc 172 []) :: U2 (.one (.dat (.int .i64) true) :: U2 (.one (.dat (.int .i64) true) :: .one (.dat (.int .i64) true) :: U8 (U2 ([]))))
@[reducible] noncomputable def V251c1_0 : Type := (List (Ty.T y190)) × Int × Int × Int × Unit
theorem wf251c1_0 : wfSt ss251c1_0 gs12_0 := wf_of (by kernel_rfl)
noncomputable def t251c1_0 (v : V251c1_0) {Z : Type} (κ : Nat × V251c1_0 → Option Z) : Option Z := cond (decide (v.2.2.2.1 < v.2.2.1)) (if 0 ≤ v.2.2.2.1 then (optC ((v.1)[(v.2.2.2.1).toNat]?) (fun x1 => cond (v172 x1) (κ (1, (v.1, v.2.2.2.1, v.2.2.1, v.2.2.2.1, ()))) (κ (0, (v.1, v.2.1, v.2.2.1, IntKind.wrap .i64 (v.2.2.2.1 + (1 : Int)), ()))))) else none) (κ (2, (v.1, v.2.1, v.2.2.1, v.2.2.2.1, ())))
noncomputable def s251c1_0 (v : V251c1_0) : Option (Nat × V251c1_0) := t251c1_0 v some
noncomputable def n251c1_0 (v : V251c1_0) : Nat := v.1.length + v.2.1.toNat + v.2.2.1.toNat + v.2.2.2.1.toNat + 100
noncomputable def k251c1_0 (h0 : List (Ty.T y190)) (h1 : Int) (h2 : Int) (h3 : Int) (c : Nat) : Bool := iterAt s251c1_0 (n251c1_0 (h0, h1, h2, h3, ())) (h0, h1, h2, h3, ()) c
noncomputable def w251c1_0 (h0 : List (Ty.T y190)) (h1 : Int) (h2 : Int) (h3 : Int) : V251c1_0 := iterV s251c1_0 (n251c1_0 (h0, h1, h2, h3, ())) (h0, h1, h2, h3, ())
noncomputable def F251c1_0 (v : V251c1_0) : Ways (Ex × St) := waysOf s251c1_0 (n251c1_0 v) v (bldSt ss251c1_0 gs12_0) [.ret, .exit 0] 0
theorem l251c1_0 : LoopOk Tryz.prog (loopAt [true, false, true] (bodyOf Tryz.f251)) ss251c1_0 gs12_0 F251c1_0 := loopOk_iter (lt := .none) E251c1.ok orders (LtOk.no _) fun n v K => Eq.trans (b := t251c1_0 v (kont _ _ _ _ _ K)) (by kernel_rfl) (show t251c1_0 v _ = (t251c1_0 v some).bind _ from (bnd_cond (bnd_ite (bnd_opt fun x1 => (bnd_cond rfl rfl))) rfl))
noncomputable def E251c1l : EnvOk Tryz.prog := E251c1.l (g := 251) (t := (ltPut [true, false, true] (bodyOf Tryz.f251) .none (.sum ss251c1_0 gs12_0 F251c1_0))) (ltOk_of Tryz.func251 (LtOk.put wf251c1_0 (LtOk.no _) l251c1_0))
noncomputable def u251c1 (a0 : List (Ty.T y190)) : Option (AV × Sig) := cond (k251c1_0 a0 0 ((a0).length : Int) 0 0) (some (.one (.int .i64 (w251c1_0 a0 0 ((a0).length : Int) 0).2.1), [])) (cond (k251c1_0 a0 0 ((a0).length : Int) 0 1) (some (.one (.int .i64 (-1)), [])) (none))
noncomputable def v251c1 (a0 : List (Ty.T y190)) : Int := cond (k251c1_0 a0 0 ((a0).length : Int) 0 0) ((w251c1_0 a0 0 ((a0).length : Int) 0).2.1) (cond (k251c1_0 a0 0 ((a0).length : Int) 0 1) ((-1)) (0))
noncomputable def d251c1 (a0 : List (Ty.T y190)) : Bool := cond (k251c1_0 a0 0 ((a0).length : Int) 0 0) (true) (cond (k251c1_0 a0 0 ((a0).length : Int) 0 1) (true) (false))
theorem o251c1 (a0 : List (Ty.T y190)) : u251c1 a0 = cond (d251c1 a0) (some (f251c1 (v251c1 a0))) none := (par_cond (par_some _) (par_cond (par_some _) (par_none _)))
noncomputable def p251c1 : Prim := ⟨[.one (.dat (.sl 191 y190) true), .one (.fnc 172 [])], fun v => .br (d251c1 v.1) (.done (f251c1 (v251c1 v.1))) .no⟩
theorem ok251c1 : PrimOk Tryz.prog 251 p251c1 := primOk_eq E251c1l.ok orders fun v => Eq.trans (b := u251c1 v.1) (by kernel_rfl) (o251c1 v.1)
noncomputable def f171c1 (r : Bool) : AV × Sig := (.one (.bool r), [])
noncomputable def E171c1 : EnvOk Tryz.prog := (E0.p ok251c1)
noncomputable def u171c1 (a0 : List (Ty.T y190)) : Option (AV × Sig) := cond (d251c1 a0) (some (.one (.bool (decide ((v251c1 a0) ≥ (0 : Int)))), [])) (none)
noncomputable def v171c1 (a0 : List (Ty.T y190)) : Bool := cond (d251c1 a0) (decide ((v251c1 a0) ≥ (0 : Int))) (false)
noncomputable def d171c1 (a0 : List (Ty.T y190)) : Bool := cond (d251c1 a0) (true) (false)
theorem o171c1 (a0 : List (Ty.T y190)) : u171c1 a0 = cond (d171c1 a0) (some (f171c1 (v171c1 a0))) none := (par_cond (par_some _) (par_none _))
noncomputable def p171c1 : Prim := ⟨[.one (.dat (.sl 191 y190) true), .one (.fnc 172 [])], fun v => .br (d171c1 v.1) (.done (f171c1 (v171c1 v.1))) .no⟩
theorem ok171c1 : PrimOk Tryz.prog 171 p171c1 := primOk_eq E171c1.ok orders fun v => Eq.trans (b := u171c1 v.1) (by kernel_rfl) (o171c1 v.1)
noncomputable def f56 (r : Bool) : AV × Sig := (.one (.bool r), [])
noncomputable def E56 : EnvOk Tryz.prog := (((((E0.p ok171c1).p ok165).p ok168).p ok169).p ok170)
@[reducible] noncomputable def ss56_0 : List SP := .und :: .one (.ptr 1 0) :: .one (.dat .bool true) :: U16 (U8 (U2 (.und :: .one (.dat (.sl 64 y63) true) :: .one (.dat (.int .i64) true) :: .one (.dat (.int .i64) true) :: U32 (U16 (.und :: [])))))
@[reducible] noncomputable def V56_0 : Type := Bool × (List (Ty.T y63)) × Int × Int × (Ty.T y36) × Unit
theorem wf56_0 : wfSt ss56_0 gs155_0 := wf_of (by kernel_rfl)
noncomputable def t56_0 (v : V56_0) {Z : Type} (κ : Nat × V56_0 → Option Z) : Option Z := cond (decide (v.2.2.2.1 < v.2.2.1)) (if 0 ≤ v.2.2.2.1 then (optC ((v.2.1)[(v.2.2.2.1).toNat]?) (fun x1 => cond (!(v170 x1)) (κ (1, (false, v.2.1, v.2.2.1, v.2.2.2.1, v.2.2.2.2.1, ()))) (cond (!(v168 v.2.2.2.2.1 x1.2.1)) (κ (1, (false, v.2.1, v.2.2.1, v.2.2.2.1, v.2.2.2.2.1, ()))) (cond (!(v168 v.2.2.2.2.1 x1.2.2.1)) (κ (1, (false, v.2.1, v.2.2.1, v.2.2.2.1, v.2.2.2.2.1, ()))) (cond (decide (x1.2.2.2.2.1 > v.2.2.2.2.1.2.2.2)) (κ (1, (false, v.2.1, v.2.2.1, v.2.2.2.1, v.2.2.2.2.1, ()))) (cond (decide (v.2.2.2.1 > (0 : Int))) (if 0 ≤ (IntKind.wrap .i64 (v.2.2.2.1 - (1 : Int))) then (optC ((v.2.2.2.2.1.1)[(IntKind.wrap .i64 (v.2.2.2.1 - (1 : Int))).toNat]?) (fun x2 => cond (decide (x2.1 ≥ x1.1)) (κ (1, (false, v.2.1, v.2.2.1, v.2.2.2.1, v.2.2.2.2.1, ()))) (κ (0, (v.1, v.2.1, v.2.2.1, IntKind.wrap .i64 (v.2.2.2.1 + (1 : Int)), v.2.2.2.2.1, ()))))) else none) (κ (0, (v.1, v.2.1, v.2.2.1, IntKind.wrap .i64 (v.2.2.2.1 + (1 : Int)), v.2.2.2.2.1, ()))))))))) else none) (κ (2, (v.1, v.2.1, v.2.2.1, v.2.2.2.1, v.2.2.2.2.1, ())))
noncomputable def s56_0 (v : V56_0) : Option (Nat × V56_0) := t56_0 v some
noncomputable def n56_0 (v : V56_0) : Nat := v.2.1.length + v.2.2.1.toNat + v.2.2.2.1.toNat + v.2.2.2.2.1.1.length + v.2.2.2.2.1.2.1.length + 100
noncomputable def k56_0 (h0 : Bool) (h1 : List (Ty.T y63)) (h2 : Int) (h3 : Int) (h4 : Ty.T y36) (c : Nat) : Bool := iterAt s56_0 (n56_0 (h0, h1, h2, h3, h4, ())) (h0, h1, h2, h3, h4, ()) c
noncomputable def w56_0 (h0 : Bool) (h1 : List (Ty.T y63)) (h2 : Int) (h3 : Int) (h4 : Ty.T y36) : V56_0 := iterV s56_0 (n56_0 (h0, h1, h2, h3, h4, ())) (h0, h1, h2, h3, h4, ())
noncomputable def F56_0 (v : V56_0) : Ways (Ex × St) := waysOf s56_0 (n56_0 v) v (bldSt ss56_0 gs155_0) [.ret, .exit 0] 0
theorem l56_0 : LoopOk Tryz.prog (loopAt [true, true, false, true] (bodyOf Tryz.f56)) ss56_0 gs155_0 F56_0 := loopOk_iter (lt := .none) E56.ok orders (LtOk.no _) fun n v K => Eq.trans (b := t56_0 v (kont _ _ _ _ _ K)) (by kernel_rfl) (show t56_0 v _ = (t56_0 v some).bind _ from (bnd_cond (bnd_ite (bnd_opt fun x1 => (bnd_cond rfl (bnd_cond rfl (bnd_cond rfl (bnd_cond rfl (bnd_cond (bnd_ite (bnd_opt fun x2 => (bnd_cond rfl rfl))) rfl))))))) rfl))
noncomputable def E56l : EnvOk Tryz.prog := E56.l (g := 56) (t := (ltPut [true, true, false, true] (bodyOf Tryz.f56) .none (.sum ss56_0 gs155_0 F56_0))) (ltOk_of Tryz.func56 (LtOk.put wf56_0 (LtOk.no _) l56_0))
noncomputable def t56 (a0 : Ty.T y36) {Z : Type} (κ : Bool → Option Z) : Option Z := cond (decide (((a0.1).length : Int) > (8 : Int))) (κ false) (cond (!(v165 ((a0.2.1).length : Int) 2 3)) (κ false) (cond (!(v168 a0 a0.2.2.1)) (κ false) (cond (!(v169 a0.2.2.2)) (κ false) (cond (k56_0 false a0.1 ((a0.1).length : Int) 0 a0 0) (κ (w56_0 false a0.1 ((a0.1).length : Int) 0 a0).1) (cond (k56_0 false a0.1 ((a0.1).length : Int) 0 a0 1) (cond (d171c1 (w56_0 false a0.1 ((a0.1).length : Int) 0 a0).2.2.2.2.1.2.1) (κ (!(v171c1 (w56_0 false a0.1 ((a0.1).length : Int) 0 a0).2.2.2.2.1.2.1))) (none)) (none))))))
noncomputable def v56 (a0 : Ty.T y36) : Bool := (t56 a0 some).getD false
noncomputable def d56 (a0 : Ty.T y36) : Bool := (t56 a0 some).isSome
noncomputable def p56 : Prim := ⟨[.agg [.dat y36 true]], fun v => .br (d56 v.1) (.done (f56 (v56 v.1))) .no⟩
theorem ok56 : PrimOk Tryz.prog 56 p56 := primOk_eq E56l.ok orders fun v => Eq.trans (b := (t56 v.1 (fun r => some (f56 r)))) (by kernel_rfl) (run_fin (show t56 v.1 (fun r => some (f56 r)) = (t56 v.1 some).bind _ from (bnd_cond rfl (bnd_cond rfl (bnd_cond rfl (bnd_cond rfl (bnd_cond rfl (bnd_cond (bnd_cond rfl rfl) rfl))))))))
noncomputable def f177 (r : List (Ty.T y27)) : AV × Sig := (.one (.sl 4096), [(4096, .arr 41 y27 r false)])
noncomputable def v177 (a0 : List (Ty.T y27)) : List (Ty.T y27) := a0
noncomputable def d177 (a0 : List (Ty.T y27)) : Bool := decide (List.length a0 * 56 ≤ 140737488351232)
noncomputable def p177 : Prim := ⟨[.one (.dat (.sl 41 y27) true)], fun v => .br (d177 v.1) (.done (f177 (v177 v.1))) .no⟩
theorem ok177 : PrimOk Tryz.prog 177 p177 := cloneOk (t := 55) (tb := 4) (e := 41) hEt Tryz.func177 (by kernel_rfl) (by kernel_rfl) (by kernel_rfl) (by kernel_rfl) rfl rfl (by decide) (by kernel_rfl)
noncomputable def f226 (r : (Ty.T q1) × (Ty.T y104) × (List (Ty.T y27))) : AV × Sig := (.agg ((q1.cells false r.1) ++ [.sl 81920] ++ (y104.cells false r.2.1)), [(81920, .arr 41 y27 r.2.2 false)])
noncomputable def E226 : EnvOk Tryz.prog := (E0.p ok177)
noncomputable def t226 (a0 : Ty.T y108) {Z : Type} (κ : (Ty.T q1) × (Ty.T y104) × (List (Ty.T y27)) → Option Z) : Option Z := cond (d177 a0.2.2.2.2.2.2.1.2.2.2.2.2.2) (κ ((a0.1, a0.2.1, a0.2.2.1, a0.2.2.2.1, a0.2.2.2.2.1, a0.2.2.2.2.2.1, a0.2.2.2.2.2.2.1.1, a0.2.2.2.2.2.2.1.2.1, a0.2.2.2.2.2.2.1.2.2.1, a0.2.2.2.2.2.2.1.2.2.2.1, a0.2.2.2.2.2.2.1.2.2.2.2.1, a0.2.2.2.2.2.2.1.2.2.2.2.2.1), a0.2.2.2.2.2.2.2, (v177 a0.2.2.2.2.2.2.1.2.2.2.2.2.2))) (none)
noncomputable def v226 (a0 : Ty.T y108) : (Ty.T q1) × (Ty.T y104) × (List (Ty.T y27)) := (t226 a0 some).getD ((Ty.zero q1), (Ty.zero y104), [])
noncomputable def d226 (a0 : Ty.T y108) : Bool := (t226 a0 some).isSome
noncomputable def p226 : Prim := ⟨[.agg [.dat y108 true]], fun v => .br (d226 v.1) (.done (f226 (v226 v.1))) .no⟩
theorem ok226 : PrimOk Tryz.prog 226 p226 := primOk_eq E226.ok orders fun v => Eq.trans (b := (t226 v.1 (fun r => some (f226 r)))) (by kernel_rfl) (run_fin (show t226 v.1 (fun r => some (f226 r)) = (t226 v.1 some).bind _ from (bnd_cond rfl rfl)))
noncomputable def f134 (r : (List (Ty.T y108))) : AV × Sig := (.one (.sl 4096), [(4096, .arr 109 y108 r false)])
noncomputable def E134 : EnvOk Tryz.prog := (E0.p ok226)
@[reducible] noncomputable def ss134_0 : List SP := U2 (.one (.dat (.sl 109 y108) false) :: .one (.own 6) :: U2 (.und :: .one (.dat (.sl 109 y108) true) :: .one (.dat (.int .i64) true) :: .one (.dat (.int .i64) true) :: U8 (U2 ([]))))
@[reducible] noncomputable def gs134_0 : List (Nat × GP) := [(6, .arr 109 y108 false)]
@[reducible] noncomputable def V134_0 : Type := (List (Ty.T y108)) × (List (Ty.T y108)) × Int × Int × (List (Ty.T y108)) × Unit
theorem wf134_0 : wfSt ss134_0 gs134_0 := wf_of (by kernel_rfl)
noncomputable def t134_0 (v : V134_0) {Z : Type} (κ : Nat × V134_0 → Option Z) : Option Z := cond (decide (v.2.2.2.1 < v.2.2.1)) (if 0 ≤ v.2.2.2.1 then (optC ((v.2.1)[(v.2.2.2.1).toNat]?) (fun x1 => cond (d226 x1) (if (v.2.2.2.2.1 ++ [((v226 x1).1.1, (v226 x1).1.2.1, (v226 x1).1.2.2.1, (v226 x1).1.2.2.2.1, (v226 x1).1.2.2.2.2.1, (v226 x1).1.2.2.2.2.2.1, ((v226 x1).1.2.2.2.2.2.2.1, (v226 x1).1.2.2.2.2.2.2.2.1, (v226 x1).1.2.2.2.2.2.2.2.2.1, (v226 x1).1.2.2.2.2.2.2.2.2.2.1, (v226 x1).1.2.2.2.2.2.2.2.2.2.2.1, (v226 x1).1.2.2.2.2.2.2.2.2.2.2.2, (v226 x1).2.2), (v226 x1).2.1)] : List (Ty.T y108)).length * 192 ≤ 140737488351232 then (κ (0, (v.1, v.2.1, v.2.2.1, IntKind.wrap .i64 (v.2.2.2.1 + (1 : Int)), v.2.2.2.2.1 ++ [((v226 x1).1.1, (v226 x1).1.2.1, (v226 x1).1.2.2.1, (v226 x1).1.2.2.2.1, (v226 x1).1.2.2.2.2.1, (v226 x1).1.2.2.2.2.2.1, ((v226 x1).1.2.2.2.2.2.2.1, (v226 x1).1.2.2.2.2.2.2.2.1, (v226 x1).1.2.2.2.2.2.2.2.2.1, (v226 x1).1.2.2.2.2.2.2.2.2.2.1, (v226 x1).1.2.2.2.2.2.2.2.2.2.2.1, (v226 x1).1.2.2.2.2.2.2.2.2.2.2.2, (v226 x1).2.2), (v226 x1).2.1)], ()))) else none) (none))) else none) (κ (1, (v.1, v.2.1, v.2.2.1, v.2.2.2.1, v.2.2.2.2.1, ())))
noncomputable def s134_0 (v : V134_0) : Option (Nat × V134_0) := t134_0 v some
noncomputable def n134_0 (v : V134_0) : Nat := v.1.length + v.2.1.length + v.2.2.1.toNat + v.2.2.2.1.toNat + v.2.2.2.2.1.length + 100
noncomputable def k134_0 (h0 : List (Ty.T y108)) (h1 : List (Ty.T y108)) (h2 : Int) (h3 : Int) (h4 : List (Ty.T y108)) (c : Nat) : Bool := iterAt s134_0 (n134_0 (h0, h1, h2, h3, h4, ())) (h0, h1, h2, h3, h4, ()) c
noncomputable def w134_0 (h0 : List (Ty.T y108)) (h1 : List (Ty.T y108)) (h2 : Int) (h3 : Int) (h4 : List (Ty.T y108)) : V134_0 := iterV s134_0 (n134_0 (h0, h1, h2, h3, h4, ())) (h0, h1, h2, h3, h4, ())
noncomputable def F134_0 (v : V134_0) : Ways (Ex × St) := waysOf s134_0 (n134_0 v) v (bldSt ss134_0 gs134_0) [.exit 0] 0
theorem l134_0 : LoopOk Tryz.prog (loopAt [true, true, false, true] (bodyOf Tryz.f134)) ss134_0 gs134_0 F134_0 := loopOk_iter (lt := .none) E134.ok orders (LtOk.no _) fun n v K => Eq.trans (b := t134_0 v (kont _ _ _ _ _ K)) (by kernel_rfl) (show t134_0 v _ = (t134_0 v some).bind _ from (bnd_cond (bnd_ite (bnd_opt fun x1 => (bnd_cond (bnd_ite rfl) rfl))) rfl))
noncomputable def E134l : EnvOk Tryz.prog := E134.l (g := 134) (t := (ltPut [true, true, false, true] (bodyOf Tryz.f134) .none (.sum ss134_0 gs134_0 F134_0))) (ltOk_of Tryz.func134 (LtOk.put wf134_0 (LtOk.no _) l134_0))
noncomputable def u134 (a0 : List (Ty.T y108)) : Option (AV × Sig) := cond (k134_0 [] a0 ((a0).length : Int) 0 [] 0) (some (.one (.sl 4096), [(4096, .arr 109 y108 (w134_0 [] a0 ((a0).length : Int) 0 []).2.2.2.2.1 false)])) (none)
noncomputable def v134 (a0 : List (Ty.T y108)) : (List (Ty.T y108)) := cond (k134_0 [] a0 ((a0).length : Int) 0 [] 0) ((w134_0 [] a0 ((a0).length : Int) 0 []).2.2.2.2.1) ([])
noncomputable def d134 (a0 : List (Ty.T y108)) : Bool := cond (k134_0 [] a0 ((a0).length : Int) 0 [] 0) (true) (false)
theorem o134 (a0 : List (Ty.T y108)) : u134 a0 = cond (d134 a0) (some (f134 (v134 a0))) none := (par_cond (par_some _) (par_none _))
noncomputable def p134 : Prim := ⟨[.one (.dat (.sl 109 y108) true)], fun v => .br (d134 v.1) (.done (f134 (v134 v.1))) .no⟩
theorem ok134 : PrimOk Tryz.prog 134 p134 := primOk_eq E134l.ok orders fun v => Eq.trans (b := u134 v.1) (by kernel_rfl) (o134 v.1)
noncomputable def f320 (r : Bool) : AV × Sig := (.one (.bool r), [])
noncomputable def E320 : EnvOk Tryz.prog := (E0.p ok165)
noncomputable def u320 (a0 : Int) : Option (AV × Sig) := some (.one (.bool (v165 a0 1 6)), [])
noncomputable def v320 (a0 : Int) : Bool := (v165 a0 1 6)
theorem o320 (a0 : Int) : u320 a0 = some (f320 (v320 a0)) := rfl
noncomputable def p320 : Prim := ⟨[.one (.dat (.int .i64) true)], fun v => .done (f320 (v320 v.1))⟩
theorem ok320 : PrimOk Tryz.prog 320 p320 := primOk_eq E320.ok orders fun v => Eq.trans (b := u320 v.1) (by kernel_rfl) (o320 v.1)
noncomputable def f283 (r : Bool) : AV × Sig := (.one (.bool r), [])
noncomputable def E283 : EnvOk Tryz.prog := ((((E0.p ok159).p ok165).p ok250).p ok320)
noncomputable def t283 (a0 : Ty.T y102) {Z : Type} (κ : Bool → Z) : Z := cond (!(v320 a0.1)) (κ false) (cond (!(v165 a0.2.1 0 2)) (κ false) (cond (!(v165 a0.2.2.1 0 99)) (κ false) (cond (!(v250 a0.2.2.2.1)) (κ false) (cond (!(v165 a0.2.2.2.2.1 0 99)) (κ false) (cond (!(v159 a0.2.2.2.2.2.1)) (κ false) (cond (!(v165 a0.2.2.2.2.2.2 0 4)) (κ false) (cond (a0.1 != (1 : Int)) (cond (a0.2.2.1 != (0 : Int)) (κ false) (cond (a0.2.2.2.1 != (0 : Int)) (κ false) (cond (a0.1 != (2 : Int)) (cond (a0.2.2.2.2.2.2 != (0 : Int)) (κ false) (cond (a0.2.2.2.2.1 == (0 : Int)) (κ true) (cond (a0.1 != (3 : Int)) (κ (a0.1 != (4 : Int))) (κ false)))) (cond (a0.2.2.2.2.1 == (0 : Int)) (κ true) (cond (a0.1 != (3 : Int)) (κ (a0.1 != (4 : Int))) (κ false)))))) (cond (a0.1 != (2 : Int)) (cond (a0.2.2.2.2.2.2 != (0 : Int)) (κ false) (cond (a0.2.2.2.2.1 == (0 : Int)) (κ true) (cond (a0.1 != (3 : Int)) (κ (a0.1 != (4 : Int))) (κ false)))) (cond (a0.2.2.2.2.1 == (0 : Int)) (κ true) (cond (a0.1 != (3 : Int)) (κ (a0.1 != (4 : Int))) (κ false)))))))))))
noncomputable def v283 (a0 : Ty.T y102) : Bool := t283 a0 fun r => r
noncomputable def p283 : Prim := ⟨[.agg [.dat y102 true]], fun v => .done (f283 (v283 v.1))⟩
theorem ok283 : PrimOk Tryz.prog 283 p283 := primOk_eq E283.ok orders fun v => Eq.trans (b := (t283 v.1 (fun r => some (f283 r)))) (by kernel_rfl) (show t283 v.1 (fun r => some (f283 r)) = some (f283 (t283 v.1 fun r => r)) from (tot_cond rfl (tot_cond rfl (tot_cond rfl (tot_cond rfl (tot_cond rfl (tot_cond rfl (tot_cond rfl (tot_cond (tot_cond rfl (tot_cond rfl (tot_cond (tot_cond rfl (tot_cond rfl (tot_cond rfl rfl))) (tot_cond rfl (tot_cond rfl rfl))))) (tot_cond (tot_cond rfl (tot_cond rfl (tot_cond rfl rfl))) (tot_cond rfl (tot_cond rfl rfl))))))))))))
noncomputable def f284 (r : Bool) : AV × Sig := (.one (.bool r), [])
noncomputable def E284 : EnvOk Tryz.prog := ((E0.p ok165).p ok173)
noncomputable def t284 (a0 : Ty.T y104) {Z : Type} (κ : Bool → Z) : Z := cond (a0.1 == (0 : Int)) (cond (a0.1 == (0 : Int)) (κ (a0.2 == (0 : Int))) (cond (a0.1 == (1 : Int)) (κ ((v173 a0.2) == a0.2)) (cond (a0.1 == (2 : Int)) (cond (a0.1 == (2 : Int)) (κ (v165 a0.2 0 8)) (κ false)) (cond (a0.1 == (4 : Int)) (κ (v165 a0.2 0 8)) (κ false))))) (cond (a0.1 == (3 : Int)) (κ (a0.2 == (0 : Int))) (cond (a0.1 == (1 : Int)) (κ ((v173 a0.2) == a0.2)) (cond (a0.1 == (2 : Int)) (cond (a0.1 == (2 : Int)) (κ (v165 a0.2 0 8)) (κ false)) (cond (a0.1 == (4 : Int)) (κ (v165 a0.2 0 8)) (κ false)))))
noncomputable def v284 (a0 : Ty.T y104) : Bool := t284 a0 fun r => r
noncomputable def p284 : Prim := ⟨[.agg [.dat y104 true]], fun v => .done (f284 (v284 v.1))⟩
theorem ok284 : PrimOk Tryz.prog 284 p284 := primOk_eq E284.ok orders fun v => Eq.trans (b := (t284 v.1 (fun r => some (f284 r)))) (by kernel_rfl) (show t284 v.1 (fun r => some (f284 r)) = some (f284 (t284 v.1 fun r => r)) from (tot_cond (tot_cond rfl (tot_cond rfl (tot_cond (tot_cond rfl rfl) (tot_cond rfl rfl)))) (tot_cond rfl (tot_cond rfl (tot_cond (tot_cond rfl rfl) (tot_cond rfl rfl))))))
noncomputable def f322 (r : Bool) : AV × Sig := (.one (.bool r), [])
noncomputable def E322 : EnvOk Tryz.prog := (E0.p ok53)
noncomputable def u322 (a0 : Ty.T y27) : Option (AV × Sig) := cond (v53 a0) (some (.one (.bool true), [])) (cond (a0.1 != (2 : Int)) (cond (a0.2.2.2.2.1 == (-1 : Int)) (some (.one (.bool (v53 (a0.1, a0.2.1, a0.2.2.1, a0.2.2.2.1, 0, a0.2.2.2.2.2))), [])) (some (.one (.bool false), []))) (some (.one (.bool false), [])))
noncomputable def v322 (a0 : Ty.T y27) : Bool := cond (v53 a0) (true) (cond (a0.1 != (2 : Int)) (cond (a0.2.2.2.2.1 == (-1 : Int)) ((v53 (a0.1, a0.2.1, a0.2.2.1, a0.2.2.2.1, 0, a0.2.2.2.2.2))) (false)) (false))
theorem o322 (a0 : Ty.T y27) : u322 a0 = some (f322 (v322 a0)) := (tot_cond rfl (tot_cond (tot_cond rfl rfl) rfl))
noncomputable def p322 : Prim := ⟨[.agg [.dat y27 true]], fun v => .done (f322 (v322 v.1))⟩
theorem ok322 : PrimOk Tryz.prog 322 p322 := primOk_eq E322.ok orders fun v => Eq.trans (b := u322 v.1) (by kernel_rfl) (o322 v.1)
noncomputable def f321 (r : Bool) : AV × Sig := (.one (.bool r), [])
noncomputable def E321 : EnvOk Tryz.prog := (E0.p ok322)
noncomputable def u321 (a0 : Ty.T y27) : Option (AV × Sig) := some (.one (.bool (!(v322 a0))), [])
noncomputable def v321 (a0 : Ty.T y27) : Bool := !(v322 a0)
theorem o321 (a0 : Ty.T y27) : u321 a0 = some (f321 (v321 a0)) := rfl
noncomputable def p321 : Prim := ⟨[.agg [.dat y27 true]], fun v => .done (f321 (v321 v.1))⟩
theorem ok321 : PrimOk Tryz.prog 321 p321 := primOk_eq E321.ok orders fun v => Eq.trans (b := u321 v.1) (by kernel_rfl) (o321 v.1)
noncomputable def f249c1 (r : Int) : AV × Sig := (.one (.int .i64 r), [])
noncomputable def E249c1 : EnvOk Tryz.prog := (E0.p ok321)
@[reducible] noncomputable def ss249c1_0 : List SP := .one (.dat (.sl 41 y27) true) :: .one (.fnc 321 []) :: U2 (.one (.dat (.int .i64) true) :: U2 (.one (.dat (.int .i64) true) :: .one (.dat (.int .i64) true) :: U8 (U2 ([]))))
@[reducible] noncomputable def V249c1_0 : Type := (List (Ty.T y27)) × Int × Int × Int × Unit
theorem wf249c1_0 : wfSt ss249c1_0 gs12_0 := wf_of (by kernel_rfl)
noncomputable def t249c1_0 (v : V249c1_0) {Z : Type} (κ : Nat × V249c1_0 → Option Z) : Option Z := cond (decide (v.2.2.2.1 < v.2.2.1)) (if 0 ≤ v.2.2.2.1 then (optC ((v.1)[(v.2.2.2.1).toNat]?) (fun x1 => cond (v321 x1) (κ (1, (v.1, v.2.2.2.1, v.2.2.1, v.2.2.2.1, ()))) (κ (0, (v.1, v.2.1, v.2.2.1, IntKind.wrap .i64 (v.2.2.2.1 + (1 : Int)), ()))))) else none) (κ (2, (v.1, v.2.1, v.2.2.1, v.2.2.2.1, ())))
noncomputable def s249c1_0 (v : V249c1_0) : Option (Nat × V249c1_0) := t249c1_0 v some
noncomputable def n249c1_0 (v : V249c1_0) : Nat := v.1.length + v.2.1.toNat + v.2.2.1.toNat + v.2.2.2.1.toNat + 100
noncomputable def k249c1_0 (h0 : List (Ty.T y27)) (h1 : Int) (h2 : Int) (h3 : Int) (c : Nat) : Bool := iterAt s249c1_0 (n249c1_0 (h0, h1, h2, h3, ())) (h0, h1, h2, h3, ()) c
noncomputable def w249c1_0 (h0 : List (Ty.T y27)) (h1 : Int) (h2 : Int) (h3 : Int) : V249c1_0 := iterV s249c1_0 (n249c1_0 (h0, h1, h2, h3, ())) (h0, h1, h2, h3, ())
noncomputable def F249c1_0 (v : V249c1_0) : Ways (Ex × St) := waysOf s249c1_0 (n249c1_0 v) v (bldSt ss249c1_0 gs12_0) [.ret, .exit 0] 0
theorem l249c1_0 : LoopOk Tryz.prog (loopAt [true, false, true] (bodyOf Tryz.f249)) ss249c1_0 gs12_0 F249c1_0 := loopOk_iter (lt := .none) E249c1.ok orders (LtOk.no _) fun n v K => Eq.trans (b := t249c1_0 v (kont _ _ _ _ _ K)) (by kernel_rfl) (show t249c1_0 v _ = (t249c1_0 v some).bind _ from (bnd_cond (bnd_ite (bnd_opt fun x1 => (bnd_cond rfl rfl))) rfl))
noncomputable def E249c1l : EnvOk Tryz.prog := E249c1.l (g := 249) (t := (ltPut [true, false, true] (bodyOf Tryz.f249) .none (.sum ss249c1_0 gs12_0 F249c1_0))) (ltOk_of Tryz.func249 (LtOk.put wf249c1_0 (LtOk.no _) l249c1_0))
noncomputable def u249c1 (a0 : List (Ty.T y27)) : Option (AV × Sig) := cond (k249c1_0 a0 0 ((a0).length : Int) 0 0) (some (.one (.int .i64 (w249c1_0 a0 0 ((a0).length : Int) 0).2.1), [])) (cond (k249c1_0 a0 0 ((a0).length : Int) 0 1) (some (.one (.int .i64 (-1)), [])) (none))
noncomputable def v249c1 (a0 : List (Ty.T y27)) : Int := cond (k249c1_0 a0 0 ((a0).length : Int) 0 0) ((w249c1_0 a0 0 ((a0).length : Int) 0).2.1) (cond (k249c1_0 a0 0 ((a0).length : Int) 0 1) ((-1)) (0))
noncomputable def d249c1 (a0 : List (Ty.T y27)) : Bool := cond (k249c1_0 a0 0 ((a0).length : Int) 0 0) (true) (cond (k249c1_0 a0 0 ((a0).length : Int) 0 1) (true) (false))
theorem o249c1 (a0 : List (Ty.T y27)) : u249c1 a0 = cond (d249c1 a0) (some (f249c1 (v249c1 a0))) none := (par_cond (par_some _) (par_cond (par_some _) (par_none _)))
noncomputable def p249c1 : Prim := ⟨[.one (.dat (.sl 41 y27) true), .one (.fnc 321 [])], fun v => .br (d249c1 v.1) (.done (f249c1 (v249c1 v.1))) .no⟩
theorem ok249c1 : PrimOk Tryz.prog 249 p249c1 := primOk_eq E249c1l.ok orders fun v => Eq.trans (b := u249c1 v.1) (by kernel_rfl) (o249c1 v.1)
noncomputable def f166c1 (r : Bool) : AV × Sig := (.one (.bool r), [])
noncomputable def E166c1 : EnvOk Tryz.prog := (E0.p ok249c1)
noncomputable def u166c1 (a0 : List (Ty.T y27)) : Option (AV × Sig) := cond (d249c1 a0) (some (.one (.bool (decide ((v249c1 a0) ≥ (0 : Int)))), [])) (none)
noncomputable def v166c1 (a0 : List (Ty.T y27)) : Bool := cond (d249c1 a0) (decide ((v249c1 a0) ≥ (0 : Int))) (false)
noncomputable def d166c1 (a0 : List (Ty.T y27)) : Bool := cond (d249c1 a0) (true) (false)
theorem o166c1 (a0 : List (Ty.T y27)) : u166c1 a0 = cond (d166c1 a0) (some (f166c1 (v166c1 a0))) none := (par_cond (par_some _) (par_none _))
noncomputable def p166c1 : Prim := ⟨[.one (.dat (.sl 41 y27) true), .one (.fnc 321 [])], fun v => .br (d166c1 v.1) (.done (f166c1 (v166c1 v.1))) .no⟩
theorem ok166c1 : PrimOk Tryz.prog 166 p166c1 := primOk_eq E166c1.ok orders fun v => Eq.trans (b := u166c1 v.1) (by kernel_rfl) (o166c1 v.1)
noncomputable def f285 (r : Bool) : AV × Sig := (.one (.bool r), [])
noncomputable def E285 : EnvOk Tryz.prog := (((((E0.p ok166c1).p ok160).p ok163).p ok164).p ok165)
@[reducible] noncomputable def ss285_0 : List SP := .und :: .one (.ptr 1 0) :: .one (.dat .bool true) :: U64 (U32 (U16 ([])))
theorem wf285_0 : wfSt ss285_0 gs299_0 := wf_of (by kernel_rfl)
@[reducible] noncomputable def sx285_0 : List SP := .und :: .one (.ptr 1 0) :: .one (.dat .bool true) :: U32 (U16 (U8 (.und :: .one (.dat .bool true) :: U32 (U16 (U4 (U2 ([])))))))
noncomputable def f285_0 (v : V299_1) (r : Bool) : Ex × St := (.normal, bldSt sx285_0 gs299_0 (v.1, r, v.2.1, ()))
noncomputable def t285_0 (v : V299_1) {Z : Type} (κ : Bool → Z) : Z := cond (v.2.1.1 != (3 : Int)) (cond (v.2.1.1 != (8 : Int)) (cond (v.2.1.2.1 != (0 : Int)) (κ true) (cond (v.2.1.1 != (6 : Int)) (cond (v.2.1.2.2.1 != (0 : Int)) (κ true) (cond (v.2.1.2.2.2.1 != (-1 : Int)) (κ true) (cond (v.2.1.1 != (7 : Int)) (cond (v.2.1.2.2.2.2.1 != (0 : Int)) (κ true) (cond (v.2.1.1 != (8 : Int)) (cond v.2.1.2.2.2.2.2.1 (κ true) (cond (v.2.1.1 != (9 : Int)) (κ (decide (((v.2.1.2.2.2.2.2.2).length : Int) > (0 : Int)))) (κ false))) (cond (v.2.1.1 != (9 : Int)) (κ (decide (((v.2.1.2.2.2.2.2.2).length : Int) > (0 : Int)))) (κ false)))) (cond (v.2.1.1 != (8 : Int)) (cond v.2.1.2.2.2.2.2.1 (κ true) (cond (v.2.1.1 != (9 : Int)) (κ (decide (((v.2.1.2.2.2.2.2.2).length : Int) > (0 : Int)))) (κ false))) (cond (v.2.1.1 != (9 : Int)) (κ (decide (((v.2.1.2.2.2.2.2.2).length : Int) > (0 : Int)))) (κ false)))))) (cond (v.2.1.1 != (7 : Int)) (cond (v.2.1.2.2.2.2.1 != (0 : Int)) (κ true) (cond (v.2.1.1 != (8 : Int)) (cond v.2.1.2.2.2.2.2.1 (κ true) (cond (v.2.1.1 != (9 : Int)) (κ (decide (((v.2.1.2.2.2.2.2.2).length : Int) > (0 : Int)))) (κ false))) (cond (v.2.1.1 != (9 : Int)) (κ (decide (((v.2.1.2.2.2.2.2.2).length : Int) > (0 : Int)))) (κ false)))) (cond (v.2.1.1 != (8 : Int)) (cond v.2.1.2.2.2.2.2.1 (κ true) (cond (v.2.1.1 != (9 : Int)) (κ (decide (((v.2.1.2.2.2.2.2.2).length : Int) > (0 : Int)))) (κ false))) (cond (v.2.1.1 != (9 : Int)) (κ (decide (((v.2.1.2.2.2.2.2.2).length : Int) > (0 : Int)))) (κ false)))))) (cond (v.2.1.1 != (6 : Int)) (cond (v.2.1.2.2.1 != (0 : Int)) (κ true) (cond (v.2.1.2.2.2.1 != (-1 : Int)) (κ true) (cond (v.2.1.1 != (7 : Int)) (cond (v.2.1.2.2.2.2.1 != (0 : Int)) (κ true) (cond (v.2.1.1 != (8 : Int)) (cond v.2.1.2.2.2.2.2.1 (κ true) (cond (v.2.1.1 != (9 : Int)) (κ (decide (((v.2.1.2.2.2.2.2.2).length : Int) > (0 : Int)))) (κ false))) (cond (v.2.1.1 != (9 : Int)) (κ (decide (((v.2.1.2.2.2.2.2.2).length : Int) > (0 : Int)))) (κ false)))) (cond (v.2.1.1 != (8 : Int)) (cond v.2.1.2.2.2.2.2.1 (κ true) (cond (v.2.1.1 != (9 : Int)) (κ (decide (((v.2.1.2.2.2.2.2.2).length : Int) > (0 : Int)))) (κ false))) (cond (v.2.1.1 != (9 : Int)) (κ (decide (((v.2.1.2.2.2.2.2.2).length : Int) > (0 : Int)))) (κ false)))))) (cond (v.2.1.1 != (7 : Int)) (cond (v.2.1.2.2.2.2.1 != (0 : Int)) (κ true) (cond (v.2.1.1 != (8 : Int)) (cond v.2.1.2.2.2.2.2.1 (κ true) (cond (v.2.1.1 != (9 : Int)) (κ (decide (((v.2.1.2.2.2.2.2.2).length : Int) > (0 : Int)))) (κ false))) (cond (v.2.1.1 != (9 : Int)) (κ (decide (((v.2.1.2.2.2.2.2.2).length : Int) > (0 : Int)))) (κ false)))) (cond (v.2.1.1 != (8 : Int)) (cond v.2.1.2.2.2.2.2.1 (κ true) (cond (v.2.1.1 != (9 : Int)) (κ (decide (((v.2.1.2.2.2.2.2.2).length : Int) > (0 : Int)))) (κ false))) (cond (v.2.1.1 != (9 : Int)) (κ (decide (((v.2.1.2.2.2.2.2.2).length : Int) > (0 : Int)))) (κ false)))))) (cond (v.2.1.1 != (6 : Int)) (cond (v.2.1.2.2.1 != (0 : Int)) (κ true) (cond (v.2.1.2.2.2.1 != (-1 : Int)) (κ true) (cond (v.2.1.1 != (7 : Int)) (cond (v.2.1.2.2.2.2.1 != (0 : Int)) (κ true) (cond (v.2.1.1 != (8 : Int)) (cond v.2.1.2.2.2.2.2.1 (κ true) (cond (v.2.1.1 != (9 : Int)) (κ (decide (((v.2.1.2.2.2.2.2.2).length : Int) > (0 : Int)))) (κ false))) (cond (v.2.1.1 != (9 : Int)) (κ (decide (((v.2.1.2.2.2.2.2.2).length : Int) > (0 : Int)))) (κ false)))) (cond (v.2.1.1 != (8 : Int)) (cond v.2.1.2.2.2.2.2.1 (κ true) (cond (v.2.1.1 != (9 : Int)) (κ (decide (((v.2.1.2.2.2.2.2.2).length : Int) > (0 : Int)))) (κ false))) (cond (v.2.1.1 != (9 : Int)) (κ (decide (((v.2.1.2.2.2.2.2.2).length : Int) > (0 : Int)))) (κ false)))))) (cond (v.2.1.1 != (7 : Int)) (cond (v.2.1.2.2.2.2.1 != (0 : Int)) (κ true) (cond (v.2.1.1 != (8 : Int)) (cond v.2.1.2.2.2.2.2.1 (κ true) (cond (v.2.1.1 != (9 : Int)) (κ (decide (((v.2.1.2.2.2.2.2.2).length : Int) > (0 : Int)))) (κ false))) (cond (v.2.1.1 != (9 : Int)) (κ (decide (((v.2.1.2.2.2.2.2.2).length : Int) > (0 : Int)))) (κ false)))) (cond (v.2.1.1 != (8 : Int)) (cond v.2.1.2.2.2.2.2.1 (κ true) (cond (v.2.1.1 != (9 : Int)) (κ (decide (((v.2.1.2.2.2.2.2.2).length : Int) > (0 : Int)))) (κ false))) (cond (v.2.1.1 != (9 : Int)) (κ (decide (((v.2.1.2.2.2.2.2.2).length : Int) > (0 : Int)))) (κ false)))))
noncomputable def c285_0 (v : V299_1) : Bool := t285_0 v id
noncomputable def F285_0 (v : V299_1) : Ways (Ex × St) := .done (f285_0 v (c285_0 v))
theorem l285_0 : CodeOk Tryz.prog (pieceAt [true, false, false] (bodyOf Tryz.f285)) ss285_0 gs299_0 F285_0 := codeOk_eq (lt := .none) (sx := sx285_0) (gx := gs299_0) E285.ok orders (LtOk.no _) fun v => Eq.trans (b := t285_0 v (fun r => some (f285_0 v r))) (by kernel_rfl) (show t285_0 v (fun r => some (f285_0 v r)) = some (f285_0 v (t285_0 v id)) from (tot_cond (tot_cond (tot_cond rfl (tot_cond (tot_cond rfl (tot_cond rfl (tot_cond (tot_cond rfl (tot_cond (tot_cond rfl (tot_cond rfl rfl)) (tot_cond rfl rfl))) (tot_cond (tot_cond rfl (tot_cond rfl rfl)) (tot_cond rfl rfl))))) (tot_cond (tot_cond rfl (tot_cond (tot_cond rfl (tot_cond rfl rfl)) (tot_cond rfl rfl))) (tot_cond (tot_cond rfl (tot_cond rfl rfl)) (tot_cond rfl rfl))))) (tot_cond (tot_cond rfl (tot_cond rfl (tot_cond (tot_cond rfl (tot_cond (tot_cond rfl (tot_cond rfl rfl)) (tot_cond rfl rfl))) (tot_cond (tot_cond rfl (tot_cond rfl rfl)) (tot_cond rfl rfl))))) (tot_cond (tot_cond rfl (tot_cond (tot_cond rfl (tot_cond rfl rfl)) (tot_cond rfl rfl))) (tot_cond (tot_cond rfl (tot_cond rfl rfl)) (tot_cond rfl rfl))))) (tot_cond (tot_cond rfl (tot_cond rfl (tot_cond (tot_cond rfl (tot_cond (tot_cond rfl (tot_cond rfl rfl)) (tot_cond rfl rfl))) (tot_cond (tot_cond rfl (tot_cond rfl rfl)) (tot_cond rfl rfl))))) (tot_cond (tot_cond rfl (tot_cond (tot_cond rfl (tot_cond rfl rfl)) (tot_cond rfl rfl))) (tot_cond (tot_cond rfl (tot_cond rfl rfl)) (tot_cond rfl rfl))))))
@[reducible] noncomputable def ss285_1 : List SP := .und :: .one (.ptr 1 0) :: .one (.dat .bool true) :: U32 (U16 (U8 (U2 (.und :: .one (.dat (.int .i64) true) :: .one (.dat .bool true) :: U32 (U16 (U2 (.und :: [])))))))
theorem wf285_1 : wfSt ss285_1 gs299_0 := wf_of (by kernel_rfl)
noncomputable def f285_1 (v : V299_0) (r : Bool) : Ex × St := (.normal, bldSt ss285_1 gs299_0 (v.1, v.2.1, r, v.2.2.2.1, ()))
noncomputable def t285_1 (v : V299_0) {Z : Type} (κ : Bool → Z) : Z := cond v.2.2.1 (κ v.2.2.1) (cond (v.2.1 == (2 : Int)) (κ (v.2.1 == (2 : Int))) (cond (v.2.1 == (4 : Int)) (κ (v.2.1 == (4 : Int))) (κ (v.2.1 == (5 : Int)))))
noncomputable def c285_1 (v : V299_0) : Bool := t285_1 v id
noncomputable def F285_1 (v : V299_0) : Ways (Ex × St) := .done (f285_1 v (c285_1 v))
theorem l285_1 : CodeOk Tryz.prog (pieceAt [true, true, false, true, false, true] (bodyOf Tryz.f285)) ss285_1 gs299_0 F285_1 := codeOk_eq (lt := .none) (sx := ss285_1) (gx := gs299_0) E285.ok orders (LtOk.no _) fun v => Eq.trans (b := t285_1 v (fun r => some (f285_1 v r))) (by kernel_rfl) (show t285_1 v (fun r => some (f285_1 v r)) = some (f285_1 v (t285_1 v id)) from (tot_cond rfl (tot_cond rfl (tot_cond rfl rfl))))
theorem wf285_2 : wfSt ss285_0 gs299_0 := wf_of (by kernel_rfl)
@[reducible] noncomputable def sx285_2 : List SP := U2 (.one (.dat .bool true) :: U64 (U32 (U16 ([]))))
noncomputable def f285_2 (v : V299_1) (r : Bool) : Ex × St := (.normal, bldSt sx285_2 gs12_0 (r, ()))
noncomputable def t285_2 (v : V299_1) {Z : Type} (κ : Bool → Z) : Z := cond (v160 v.2.1.2.2.1) (cond (v.2.1.2.2.2.1 == (-1 : Int)) (κ true) (cond (v.2.1.2.2.1 == (0 : Int)) (κ (v164 v.2.1.2.2.2.1)) (κ false))) (cond (v.2.1.2.2.1 == (0 : Int)) (κ (v164 v.2.1.2.2.2.1)) (κ false))
noncomputable def c285_2 (v : V299_1) : Bool := t285_2 v id
noncomputable def F285_2 (v : V299_1) : Ways (Ex × St) := .done (f285_2 v (c285_2 v))
theorem l285_2 : CodeOk Tryz.prog (pieceAt [true, true, false, true, true, true, true, true, true, false, false] (bodyOf Tryz.f285)) ss285_0 gs299_0 F285_2 := codeOk_eq (lt := .none) (sx := sx285_2) (gx := gs12_0) E285.ok orders (LtOk.no _) fun v => Eq.trans (b := t285_2 v (fun r => some (f285_2 v r))) (by kernel_rfl) (show t285_2 v (fun r => some (f285_2 v r)) = some (f285_2 v (t285_2 v id)) from (tot_cond (tot_cond rfl (tot_cond rfl rfl)) (tot_cond rfl rfl)))
theorem wf285_3 : wfSt ss285_0 gs299_0 := wf_of (by kernel_rfl)
noncomputable def f285_3 (v : V299_1) (r : Bool) : Ex × St := (.normal, bldSt sx285_2 gs12_0 (r, ()))
noncomputable def t285_3 (v : V299_1) {Z : Type} (κ : Bool → Option Z) : Option Z := cond (v165 ((v.2.1.2.2.2.2.2.2).length : Int) 1 3) (cond (d166c1 v.2.1.2.2.2.2.2.2) (κ (!(v166c1 v.2.1.2.2.2.2.2.2))) (none)) (κ false)
noncomputable def c285_3 (v : V299_1) : Bool := (t285_3 v some).getD false
noncomputable def g285_3 (v : V299_1) : Bool := (t285_3 v some).isSome
noncomputable def F285_3 (v : V299_1) : Ways (Ex × St) := .br (g285_3 v) (.done (f285_3 v (c285_3 v))) .no
theorem l285_3 : CodeOk Tryz.prog (pieceAt [true, true, false, true, true, true, true, true, true, true, true, true, true, true, true, false, false] (bodyOf Tryz.f285)) ss285_0 gs299_0 F285_3 := codeOk_eq (lt := .none) (sx := sx285_2) (gx := gs12_0) E285.ok orders (LtOk.no _) fun v => Eq.trans (b := t285_3 v (fun r => some (f285_3 v r))) (by kernel_rfl) (run_fin (show t285_3 v (fun r => some (f285_3 v r)) = (t285_3 v some).bind _ from (bnd_cond (bnd_cond rfl rfl) rfl)))
noncomputable def E285l : EnvOk Tryz.prog := E285.l (g := 285) (t := (ltPutC [true, true, false, true, true, true, true, true, true, true, true, true, true, true, true, false, false] (bodyOf Tryz.f285) (ltPutC [true, true, false, true, true, true, true, true, true, false, false] (bodyOf Tryz.f285) (ltPutC [true, true, false, true, false, true] (bodyOf Tryz.f285) (ltPutC [true, false, false] (bodyOf Tryz.f285) .none (.sum ss285_0 gs299_0 F285_0)) (.sum ss285_1 gs299_0 F285_1)) (.sum ss285_0 gs299_0 F285_2)) (.sum ss285_0 gs299_0 F285_3))) (ltOk_of Tryz.func285 (LtOk.putC wf285_3 (LtOk.putC wf285_2 (LtOk.putC wf285_1 (LtOk.putC wf285_0 (LtOk.no _) l285_0) l285_1) l285_2) l285_3))
noncomputable def t285 (a0 : Ty.T y106) {Z : Type} (κ : Bool → Option Z) : Option Z := cond (c285_0 (false, a0, ())) (κ false) (cond (c285_1 (false, a0.1, (a0.1 == (1 : Int)), a0, ())) (κ true) (cond (a0.1 == (3 : Int)) (κ (v165 a0.2.1 1 2147483647)) (cond (a0.1 == (6 : Int)) (κ (c285_2 (false, a0, ()))) (cond (a0.1 == (7 : Int)) (κ (v163 a0.2.2.2.2.1)) (cond (a0.1 == (8 : Int)) (κ (v165 a0.2.1 0 99)) (cond (a0.1 == (9 : Int)) (cond (g285_3 (false, a0, ())) (κ (c285_3 (false, a0, ()))) (none)) (κ false)))))))
noncomputable def v285 (a0 : Ty.T y106) : Bool := (t285 a0 some).getD false
noncomputable def d285 (a0 : Ty.T y106) : Bool := (t285 a0 some).isSome
noncomputable def p285 : Prim := ⟨[.agg [.dat y106 true]], fun v => .br (d285 v.1) (.done (f285 (v285 v.1))) .no⟩
theorem ok285 : PrimOk Tryz.prog 285 p285 := primOk_eq E285l.ok orders fun v => Eq.trans (b := (t285 v.1 (fun r => some (f285 r)))) (by kernel_rfl) (run_fin (show t285 v.1 (fun r => some (f285 r)) = (t285 v.1 some).bind _ from (bnd_cond rfl (bnd_cond rfl (bnd_cond rfl (bnd_cond rfl (bnd_cond rfl (bnd_cond rfl (bnd_cond (bnd_cond rfl rfl) rfl)))))))))
noncomputable def f286 (r : Bool) : AV × Sig := (.one (.bool r), [])
noncomputable def E286 : EnvOk Tryz.prog := (E0.p ok320)
noncomputable def t286 (a0 : Ty.T y106) (a1 : Int) {Z : Type} (κ : Bool → Z) : Z := cond (!(v320 a1)) (κ false) (cond (a0.1 == (1 : Int)) (cond (a0.1 == (1 : Int)) (κ true) (cond (a0.1 == (2 : Int)) (cond (a0.1 == (2 : Int)) (κ (a1 == (1 : Int))) (cond (a0.1 == (3 : Int)) (cond (a0.1 == (3 : Int)) (κ (a1 != (2 : Int))) (cond (a0.1 == (7 : Int)) (cond (a0.1 == (7 : Int)) (κ (a1 == (2 : Int))) (κ false)) (cond (a0.1 == (8 : Int)) (κ (a1 == (2 : Int))) (κ false)))) (cond (a0.1 == (4 : Int)) (cond (a0.1 == (4 : Int)) (κ (a1 != (2 : Int))) (cond (a0.1 == (7 : Int)) (cond (a0.1 == (7 : Int)) (κ (a1 == (2 : Int))) (κ false)) (cond (a0.1 == (8 : Int)) (κ (a1 == (2 : Int))) (κ false)))) (cond (a0.1 == (5 : Int)) (κ (a1 != (2 : Int))) (cond (a0.1 == (7 : Int)) (cond (a0.1 == (7 : Int)) (κ (a1 == (2 : Int))) (κ false)) (cond (a0.1 == (8 : Int)) (κ (a1 == (2 : Int))) (κ false))))))) (cond (a0.1 == (6 : Int)) (κ (a1 == (1 : Int))) (cond (a0.1 == (3 : Int)) (cond (a0.1 == (3 : Int)) (κ (a1 != (2 : Int))) (cond (a0.1 == (7 : Int)) (cond (a0.1 == (7 : Int)) (κ (a1 == (2 : Int))) (κ false)) (cond (a0.1 == (8 : Int)) (κ (a1 == (2 : Int))) (κ false)))) (cond (a0.1 == (4 : Int)) (cond (a0.1 == (4 : Int)) (κ (a1 != (2 : Int))) (cond (a0.1 == (7 : Int)) (cond (a0.1 == (7 : Int)) (κ (a1 == (2 : Int))) (κ false)) (cond (a0.1 == (8 : Int)) (κ (a1 == (2 : Int))) (κ false)))) (cond (a0.1 == (5 : Int)) (κ (a1 != (2 : Int))) (cond (a0.1 == (7 : Int)) (cond (a0.1 == (7 : Int)) (κ (a1 == (2 : Int))) (κ false)) (cond (a0.1 == (8 : Int)) (κ (a1 == (2 : Int))) (κ false))))))))) (cond (a0.1 == (9 : Int)) (κ true) (cond (a0.1 == (2 : Int)) (cond (a0.1 == (2 : Int)) (κ (a1 == (1 : Int))) (cond (a0.1 == (3 : Int)) (cond (a0.1 == (3 : Int)) (κ (a1 != (2 : Int))) (cond (a0.1 == (7 : Int)) (cond (a0.1 == (7 : Int)) (κ (a1 == (2 : Int))) (κ false)) (cond (a0.1 == (8 : Int)) (κ (a1 == (2 : Int))) (κ false)))) (cond (a0.1 == (4 : Int)) (cond (a0.1 == (4 : Int)) (κ (a1 != (2 : Int))) (cond (a0.1 == (7 : Int)) (cond (a0.1 == (7 : Int)) (κ (a1 == (2 : Int))) (κ false)) (cond (a0.1 == (8 : Int)) (κ (a1 == (2 : Int))) (κ false)))) (cond (a0.1 == (5 : Int)) (κ (a1 != (2 : Int))) (cond (a0.1 == (7 : Int)) (cond (a0.1 == (7 : Int)) (κ (a1 == (2 : Int))) (κ false)) (cond (a0.1 == (8 : Int)) (κ (a1 == (2 : Int))) (κ false))))))) (cond (a0.1 == (6 : Int)) (κ (a1 == (1 : Int))) (cond (a0.1 == (3 : Int)) (cond (a0.1 == (3 : Int)) (κ (a1 != (2 : Int))) (cond (a0.1 == (7 : Int)) (cond (a0.1 == (7 : Int)) (κ (a1 == (2 : Int))) (κ false)) (cond (a0.1 == (8 : Int)) (κ (a1 == (2 : Int))) (κ false)))) (cond (a0.1 == (4 : Int)) (cond (a0.1 == (4 : Int)) (κ (a1 != (2 : Int))) (cond (a0.1 == (7 : Int)) (cond (a0.1 == (7 : Int)) (κ (a1 == (2 : Int))) (κ false)) (cond (a0.1 == (8 : Int)) (κ (a1 == (2 : Int))) (κ false)))) (cond (a0.1 == (5 : Int)) (κ (a1 != (2 : Int))) (cond (a0.1 == (7 : Int)) (cond (a0.1 == (7 : Int)) (κ (a1 == (2 : Int))) (κ false)) (cond (a0.1 == (8 : Int)) (κ (a1 == (2 : Int))) (κ false))))))))))
noncomputable def v286 (a0 : Ty.T y106) (a1 : Int) : Bool := t286 a0 a1 fun r => r
noncomputable def p286 : Prim := ⟨[.agg [.dat y106 true], .one (.dat (.int .i64) true)], fun v => .done (f286 (v286 v.1 v.2.1))⟩
theorem ok286 : PrimOk Tryz.prog 286 p286 := primOk_eq E286.ok orders fun v => Eq.trans (b := (t286 v.1 v.2.1 (fun r => some (f286 r)))) (by kernel_rfl) (show t286 v.1 v.2.1 (fun r => some (f286 r)) = some (f286 (t286 v.1 v.2.1 fun r => r)) from (tot_cond rfl (tot_cond (tot_cond rfl (tot_cond (tot_cond rfl (tot_cond (tot_cond rfl (tot_cond (tot_cond rfl rfl) (tot_cond rfl rfl))) (tot_cond (tot_cond rfl (tot_cond (tot_cond rfl rfl) (tot_cond rfl rfl))) (tot_cond rfl (tot_cond (tot_cond rfl rfl) (tot_cond rfl rfl)))))) (tot_cond rfl (tot_cond (tot_cond rfl (tot_cond (tot_cond rfl rfl) (tot_cond rfl rfl))) (tot_cond (tot_cond rfl (tot_cond (tot_cond rfl rfl) (tot_cond rfl rfl))) (tot_cond rfl (tot_cond (tot_cond rfl rfl) (tot_cond rfl rfl)))))))) (tot_cond rfl (tot_cond (tot_cond rfl (tot_cond (tot_cond rfl (tot_cond (tot_cond rfl rfl) (tot_cond rfl rfl))) (tot_cond (tot_cond rfl (tot_cond (tot_cond rfl rfl) (tot_cond rfl rfl))) (tot_cond rfl (tot_cond (tot_cond rfl rfl) (tot_cond rfl rfl)))))) (tot_cond rfl (tot_cond (tot_cond rfl (tot_cond (tot_cond rfl rfl) (tot_cond rfl rfl))) (tot_cond (tot_cond rfl (tot_cond (tot_cond rfl rfl) (tot_cond rfl rfl))) (tot_cond rfl (tot_cond (tot_cond rfl rfl) (tot_cond rfl rfl)))))))))))
noncomputable def f227 (r : Bool) : AV × Sig := (.one (.bool r), [])
noncomputable def E227 : EnvOk Tryz.prog := (((((((E0.p ok160).p ok164).p ok165).p ok283).p ok284).p ok285).p ok286)
noncomputable def t227 (a0 : Ty.T y108) {Z : Type} (κ : Bool → Option Z) : Option Z := cond (a0.2.2.2.2.2.2.1.1 == (2 : Int)) (cond (v160 a0.1) (cond (v164 a0.2.1) (cond (v165 a0.2.2.1 0 99) (cond (v165 a0.2.2.2.1 0 4) (cond (a0.2.2.2.1 != (0 : Int)) (cond (v283 a0.2.2.2.2.1) (cond (v284 a0.2.2.2.2.2.1) (cond (d285 a0.2.2.2.2.2.2.1) (cond (v285 a0.2.2.2.2.2.2.1) (cond (v286 a0.2.2.2.2.2.2.1 a0.2.2.2.2.1.1) (cond (v165 a0.2.2.2.2.2.2.2.1 (-1) 9999) (κ (v165 a0.2.2.2.2.2.2.2.2 0 2147483647)) (κ false)) (κ false)) (κ false)) (none)) (κ false)) (κ false)) (cond (a0.2.2.1 != (0 : Int)) (cond (v283 a0.2.2.2.2.1) (cond (v284 a0.2.2.2.2.2.1) (cond (d285 a0.2.2.2.2.2.2.1) (cond (v285 a0.2.2.2.2.2.2.1) (cond (v286 a0.2.2.2.2.2.2.1 a0.2.2.2.2.1.1) (cond (v165 a0.2.2.2.2.2.2.2.1 (-1) 9999) (κ (v165 a0.2.2.2.2.2.2.2.2 0 2147483647)) (κ false)) (κ false)) (κ false)) (none)) (κ false)) (κ false)) (κ false))) (κ false)) (κ false)) (κ false)) (κ false)) (cond (v160 a0.1) (cond (v164 a0.2.1) (cond (v165 a0.2.2.1 0 99) (cond (v165 a0.2.2.2.1 0 4) (cond (a0.2.2.2.1 != (0 : Int)) (cond (v283 a0.2.2.2.2.1) (cond (v284 a0.2.2.2.2.2.1) (cond (d285 a0.2.2.2.2.2.2.1) (cond (v285 a0.2.2.2.2.2.2.1) (cond (v286 a0.2.2.2.2.2.2.1 a0.2.2.2.2.1.1) (cond (v165 a0.2.2.2.2.2.2.2.1 (-1) 9999) (κ (v165 a0.2.2.2.2.2.2.2.2 (-1) 2147483647)) (κ false)) (κ false)) (κ false)) (none)) (κ false)) (κ false)) (cond (a0.2.2.1 != (0 : Int)) (cond (v283 a0.2.2.2.2.1) (cond (v284 a0.2.2.2.2.2.1) (cond (d285 a0.2.2.2.2.2.2.1) (cond (v285 a0.2.2.2.2.2.2.1) (cond (v286 a0.2.2.2.2.2.2.1 a0.2.2.2.2.1.1) (cond (v165 a0.2.2.2.2.2.2.2.1 (-1) 9999) (κ (v165 a0.2.2.2.2.2.2.2.2 (-1) 2147483647)) (κ false)) (κ false)) (κ false)) (none)) (κ false)) (κ false)) (κ false))) (κ false)) (κ false)) (κ false)) (κ false))
noncomputable def v227 (a0 : Ty.T y108) : Bool := (t227 a0 some).getD false
noncomputable def d227 (a0 : Ty.T y108) : Bool := (t227 a0 some).isSome
noncomputable def p227 : Prim := ⟨[.agg [.dat y108 true]], fun v => .br (d227 v.1) (.done (f227 (v227 v.1))) .no⟩
theorem ok227 : PrimOk Tryz.prog 227 p227 := primOk_eq E227.ok orders fun v => Eq.trans (b := (t227 v.1 (fun r => some (f227 r)))) (by kernel_rfl) (run_fin (show t227 v.1 (fun r => some (f227 r)) = (t227 v.1 some).bind _ from (bnd_cond (bnd_cond (bnd_cond (bnd_cond (bnd_cond (bnd_cond (bnd_cond (bnd_cond (bnd_cond (bnd_cond (bnd_cond (bnd_cond rfl rfl) rfl) rfl) rfl) rfl) rfl) (bnd_cond (bnd_cond (bnd_cond (bnd_cond (bnd_cond (bnd_cond (bnd_cond rfl rfl) rfl) rfl) rfl) rfl) rfl) rfl)) rfl) rfl) rfl) rfl) (bnd_cond (bnd_cond (bnd_cond (bnd_cond (bnd_cond (bnd_cond (bnd_cond (bnd_cond (bnd_cond (bnd_cond (bnd_cond rfl rfl) rfl) rfl) rfl) rfl) rfl) (bnd_cond (bnd_cond (bnd_cond (bnd_cond (bnd_cond (bnd_cond (bnd_cond rfl rfl) rfl) rfl) rfl) rfl) rfl) rfl)) rfl) rfl) rfl) rfl))))
noncomputable def f136 (r : Bool) : AV × Sig := (.one (.bool r), [])
noncomputable def E136 : EnvOk Tryz.prog := (E0.p ok227)
@[reducible] noncomputable def ss136_0 : List SP := .one (.dat (.sl 109 y108) true) :: .und :: .one (.dat .bool true) :: U2 (.one (.dat (.sl 109 y108) true) :: .one (.dat (.int .i64) true) :: .one (.dat (.int .i64) true) :: U16 (U8 (U2 ([]))))
theorem wf136_0 : wfSt ss136_0 gs12_0 := wf_of (by kernel_rfl)
noncomputable def t136_0 (v : V180c1_0) {Z : Type} (κ : Nat × V180c1_0 → Option Z) : Option Z := cond (decide (v.2.2.2.2.1 < v.2.2.2.1)) (if 0 ≤ v.2.2.2.2.1 then (optC ((v.2.2.1)[(v.2.2.2.2.1).toNat]?) (fun x1 => cond (d227 x1) (cond (!(v227 x1)) (κ (1, (v.1, false, v.2.2.1, v.2.2.2.1, v.2.2.2.2.1, ()))) (cond (decide (v.2.2.2.2.1 > (0 : Int))) (if 0 ≤ (IntKind.wrap .i64 (v.2.2.2.2.1 - (1 : Int))) then (optC ((v.1)[(IntKind.wrap .i64 (v.2.2.2.2.1 - (1 : Int))).toNat]?) (fun x2 => cond (decide (x2.1 ≥ x1.1)) (κ (1, (v.1, false, v.2.2.1, v.2.2.2.1, v.2.2.2.2.1, ()))) (κ (0, (v.1, v.2.1, v.2.2.1, v.2.2.2.1, IntKind.wrap .i64 (v.2.2.2.2.1 + (1 : Int)), ()))))) else none) (κ (0, (v.1, v.2.1, v.2.2.1, v.2.2.2.1, IntKind.wrap .i64 (v.2.2.2.2.1 + (1 : Int)), ()))))) (none))) else none) (κ (2, (v.1, v.2.1, v.2.2.1, v.2.2.2.1, v.2.2.2.2.1, ())))
noncomputable def s136_0 (v : V180c1_0) : Option (Nat × V180c1_0) := t136_0 v some
noncomputable def n136_0 (v : V180c1_0) : Nat := v.1.length + v.2.2.1.length + v.2.2.2.1.toNat + v.2.2.2.2.1.toNat + 100
noncomputable def k136_0 (h0 : List (Ty.T y108)) (h1 : Bool) (h2 : List (Ty.T y108)) (h3 : Int) (h4 : Int) (c : Nat) : Bool := iterAt s136_0 (n136_0 (h0, h1, h2, h3, h4, ())) (h0, h1, h2, h3, h4, ()) c
noncomputable def w136_0 (h0 : List (Ty.T y108)) (h1 : Bool) (h2 : List (Ty.T y108)) (h3 : Int) (h4 : Int) : V180c1_0 := iterV s136_0 (n136_0 (h0, h1, h2, h3, h4, ())) (h0, h1, h2, h3, h4, ())
noncomputable def F136_0 (v : V180c1_0) : Ways (Ex × St) := waysOf s136_0 (n136_0 v) v (bldSt ss136_0 gs12_0) [.ret, .exit 0] 0
theorem l136_0 : LoopOk Tryz.prog (loopAt [true, false, true] (bodyOf Tryz.f136)) ss136_0 gs12_0 F136_0 := loopOk_iter (lt := .none) E136.ok orders (LtOk.no _) fun n v K => Eq.trans (b := t136_0 v (kont _ _ _ _ _ K)) (by kernel_rfl) (show t136_0 v _ = (t136_0 v some).bind _ from (bnd_cond (bnd_ite (bnd_opt fun x1 => (bnd_cond (bnd_cond rfl (bnd_cond (bnd_ite (bnd_opt fun x2 => (bnd_cond rfl rfl))) rfl)) rfl))) rfl))
noncomputable def E136l : EnvOk Tryz.prog := E136.l (g := 136) (t := (ltPut [true, false, true] (bodyOf Tryz.f136) .none (.sum ss136_0 gs12_0 F136_0))) (ltOk_of Tryz.func136 (LtOk.put wf136_0 (LtOk.no _) l136_0))
noncomputable def u136 (a0 : List (Ty.T y108)) : Option (AV × Sig) := cond (k136_0 a0 false a0 ((a0).length : Int) 0 0) (some (.one (.bool (w136_0 a0 false a0 ((a0).length : Int) 0).2.1), [])) (cond (k136_0 a0 false a0 ((a0).length : Int) 0 1) (some (.one (.bool (decide ((((w136_0 a0 false a0 ((a0).length : Int) 0).1).length : Int) ≤ (5 : Int)))), [])) (none))
noncomputable def v136 (a0 : List (Ty.T y108)) : Bool := cond (k136_0 a0 false a0 ((a0).length : Int) 0 0) ((w136_0 a0 false a0 ((a0).length : Int) 0).2.1) (cond (k136_0 a0 false a0 ((a0).length : Int) 0 1) (decide ((((w136_0 a0 false a0 ((a0).length : Int) 0).1).length : Int) ≤ (5 : Int))) (false))
noncomputable def d136 (a0 : List (Ty.T y108)) : Bool := cond (k136_0 a0 false a0 ((a0).length : Int) 0 0) (true) (cond (k136_0 a0 false a0 ((a0).length : Int) 0 1) (true) (false))
theorem o136 (a0 : List (Ty.T y108)) : u136 a0 = cond (d136 a0) (some (f136 (v136 a0))) none := (par_cond (par_some _) (par_cond (par_some _) (par_none _)))
noncomputable def p136 : Prim := ⟨[.one (.dat (.sl 109 y108) true)], fun v => .br (d136 v.1) (.done (f136 (v136 v.1))) .no⟩
theorem ok136 : PrimOk Tryz.prog 136 p136 := primOk_eq E136l.ok orders fun v => Eq.trans (b := u136 v.1) (by kernel_rfl) (o136 v.1)
noncomputable def f141 (r : (List (Ty.T y66))) : AV × Sig := (.one (.sl 4096), [(4096, .arr 67 y66 r false)])
noncomputable def E141 : EnvOk Tryz.prog := (E0.p ok177)
@[reducible] noncomputable def ss141_0 : List SP := U2 (.one (.dat (.sl 67 y66) false) :: .one (.own 6) :: U2 (.und :: .one (.dat (.sl 67 y66) true) :: .one (.dat (.int .i64) true) :: .one (.dat (.int .i64) true) :: U8 (U4 (.und :: []))))
@[reducible] noncomputable def gs141_0 : List (Nat × GP) := [(6, .arr 67 y66 false)]
@[reducible] noncomputable def V141_0 : Type := (List (Ty.T y66)) × (List (Ty.T y66)) × Int × Int × (List (Ty.T y66)) × Unit
theorem wf141_0 : wfSt ss141_0 gs141_0 := wf_of (by kernel_rfl)
noncomputable def t141_0 (v : V141_0) {Z : Type} (κ : Nat × V141_0 → Option Z) : Option Z := cond (decide (v.2.2.2.1 < v.2.2.1)) (if 0 ≤ v.2.2.2.1 then (optC ((v.2.1)[(v.2.2.2.1).toNat]?) (fun x1 => cond (d177 x1.2.2.2.2.2.1) (if (v.2.2.2.2.1 ++ [(x1.1, x1.2.1, x1.2.2.1, x1.2.2.2.1, x1.2.2.2.2.1, (v177 x1.2.2.2.2.2.1), x1.2.2.2.2.2.2)] : List (Ty.T y66)).length * 128 ≤ 140737488351232 then (κ (0, (v.1, v.2.1, v.2.2.1, IntKind.wrap .i64 (v.2.2.2.1 + (1 : Int)), v.2.2.2.2.1 ++ [(x1.1, x1.2.1, x1.2.2.1, x1.2.2.2.1, x1.2.2.2.2.1, (v177 x1.2.2.2.2.2.1), x1.2.2.2.2.2.2)], ()))) else none) (none))) else none) (κ (1, (v.1, v.2.1, v.2.2.1, v.2.2.2.1, v.2.2.2.2.1, ())))
noncomputable def s141_0 (v : V141_0) : Option (Nat × V141_0) := t141_0 v some
noncomputable def n141_0 (v : V141_0) : Nat := v.1.length + v.2.1.length + v.2.2.1.toNat + v.2.2.2.1.toNat + v.2.2.2.2.1.length + 100
noncomputable def k141_0 (h0 : List (Ty.T y66)) (h1 : List (Ty.T y66)) (h2 : Int) (h3 : Int) (h4 : List (Ty.T y66)) (c : Nat) : Bool := iterAt s141_0 (n141_0 (h0, h1, h2, h3, h4, ())) (h0, h1, h2, h3, h4, ()) c
noncomputable def w141_0 (h0 : List (Ty.T y66)) (h1 : List (Ty.T y66)) (h2 : Int) (h3 : Int) (h4 : List (Ty.T y66)) : V141_0 := iterV s141_0 (n141_0 (h0, h1, h2, h3, h4, ())) (h0, h1, h2, h3, h4, ())
noncomputable def F141_0 (v : V141_0) : Ways (Ex × St) := waysOf s141_0 (n141_0 v) v (bldSt ss141_0 gs141_0) [.exit 0] 0
theorem l141_0 : LoopOk Tryz.prog (loopAt [true, true, false, true] (bodyOf Tryz.f141)) ss141_0 gs141_0 F141_0 := loopOk_iter (lt := .none) E141.ok orders (LtOk.no _) fun n v K => Eq.trans (b := t141_0 v (kont _ _ _ _ _ K)) (by kernel_rfl) (show t141_0 v _ = (t141_0 v some).bind _ from (bnd_cond (bnd_ite (bnd_opt fun x1 => (bnd_cond (bnd_ite rfl) rfl))) rfl))
noncomputable def E141l : EnvOk Tryz.prog := E141.l (g := 141) (t := (ltPut [true, true, false, true] (bodyOf Tryz.f141) .none (.sum ss141_0 gs141_0 F141_0))) (ltOk_of Tryz.func141 (LtOk.put wf141_0 (LtOk.no _) l141_0))
noncomputable def u141 (a0 : List (Ty.T y66)) : Option (AV × Sig) := cond (k141_0 [] a0 ((a0).length : Int) 0 [] 0) (some (.one (.sl 4096), [(4096, .arr 67 y66 (w141_0 [] a0 ((a0).length : Int) 0 []).2.2.2.2.1 false)])) (none)
noncomputable def v141 (a0 : List (Ty.T y66)) : (List (Ty.T y66)) := cond (k141_0 [] a0 ((a0).length : Int) 0 [] 0) ((w141_0 [] a0 ((a0).length : Int) 0 []).2.2.2.2.1) ([])
noncomputable def d141 (a0 : List (Ty.T y66)) : Bool := cond (k141_0 [] a0 ((a0).length : Int) 0 [] 0) (true) (false)
theorem o141 (a0 : List (Ty.T y66)) : u141 a0 = cond (d141 a0) (some (f141 (v141 a0))) none := (par_cond (par_some _) (par_none _))
noncomputable def p141 : Prim := ⟨[.one (.dat (.sl 67 y66) true)], fun v => .br (d141 v.1) (.done (f141 (v141 v.1))) .no⟩
theorem ok141 : PrimOk Tryz.prog 141 p141 := primOk_eq E141l.ok orders fun v => Eq.trans (b := u141 v.1) (by kernel_rfl) (o141 v.1)
noncomputable def f252 (r : Int) : AV × Sig := (.one (.int .i64 r), [])
noncomputable def E252 : EnvOk Tryz.prog := E0
@[reducible] noncomputable def ss252_0 : List SP := .one (.dat (.sl 3 (.int .i64)) true) :: .one (.dat (.int .i64) true) :: U2 (.one (.dat (.int .i64) true) :: U2 (.one (.dat (.int .i64) true) :: .one (.dat (.int .i64) true) :: U8 (U2 ([]))))
@[reducible] noncomputable def V252_0 : Type := (List (Ty.T (.int .i64))) × Int × Int × Int × Int × Unit
theorem wf252_0 : wfSt ss252_0 gs12_0 := wf_of (by kernel_rfl)
noncomputable def t252_0 (v : V252_0) {Z : Type} (κ : Nat × V252_0 → Option Z) : Option Z := cond (decide (v.2.2.2.2.1 < v.2.2.2.1)) (if 0 ≤ v.2.2.2.2.1 then (optC ((v.1)[(v.2.2.2.2.1).toNat]?) (fun x1 => cond (v.2.1 == x1) (κ (1, (v.1, v.2.1, v.2.2.2.2.1, v.2.2.2.1, v.2.2.2.2.1, ()))) (κ (0, (v.1, v.2.1, v.2.2.1, v.2.2.2.1, IntKind.wrap .i64 (v.2.2.2.2.1 + (1 : Int)), ()))))) else none) (κ (2, (v.1, v.2.1, v.2.2.1, v.2.2.2.1, v.2.2.2.2.1, ())))
noncomputable def s252_0 (v : V252_0) : Option (Nat × V252_0) := t252_0 v some
noncomputable def n252_0 (v : V252_0) : Nat := v.1.length + v.2.1.toNat + v.2.2.1.toNat + v.2.2.2.1.toNat + v.2.2.2.2.1.toNat + 100
noncomputable def k252_0 (h0 : List (Ty.T (.int .i64))) (h1 : Int) (h2 : Int) (h3 : Int) (h4 : Int) (c : Nat) : Bool := iterAt s252_0 (n252_0 (h0, h1, h2, h3, h4, ())) (h0, h1, h2, h3, h4, ()) c
noncomputable def w252_0 (h0 : List (Ty.T (.int .i64))) (h1 : Int) (h2 : Int) (h3 : Int) (h4 : Int) : V252_0 := iterV s252_0 (n252_0 (h0, h1, h2, h3, h4, ())) (h0, h1, h2, h3, h4, ())
noncomputable def F252_0 (v : V252_0) : Ways (Ex × St) := waysOf s252_0 (n252_0 v) v (bldSt ss252_0 gs12_0) [.ret, .exit 0] 0
theorem l252_0 : LoopOk Tryz.prog (loopAt [true, false, true] (bodyOf Tryz.f252)) ss252_0 gs12_0 F252_0 := loopOk_iter (lt := .none) E252.ok orders (LtOk.no _) fun n v K => Eq.trans (b := t252_0 v (kont _ _ _ _ _ K)) (by kernel_rfl) (show t252_0 v _ = (t252_0 v some).bind _ from (bnd_cond (bnd_ite (bnd_opt fun x1 => (bnd_cond rfl rfl))) rfl))
noncomputable def E252l : EnvOk Tryz.prog := E252.l (g := 252) (t := (ltPut [true, false, true] (bodyOf Tryz.f252) .none (.sum ss252_0 gs12_0 F252_0))) (ltOk_of Tryz.func252 (LtOk.put wf252_0 (LtOk.no _) l252_0))
noncomputable def u252 (a0 : List (Ty.T (.int .i64))) (a1 : Int) : Option (AV × Sig) := cond (k252_0 a0 a1 0 ((a0).length : Int) 0 0) (some (.one (.int .i64 (w252_0 a0 a1 0 ((a0).length : Int) 0).2.2.1), [])) (cond (k252_0 a0 a1 0 ((a0).length : Int) 0 1) (some (.one (.int .i64 (-1)), [])) (none))
noncomputable def v252 (a0 : List (Ty.T (.int .i64))) (a1 : Int) : Int := cond (k252_0 a0 a1 0 ((a0).length : Int) 0 0) ((w252_0 a0 a1 0 ((a0).length : Int) 0).2.2.1) (cond (k252_0 a0 a1 0 ((a0).length : Int) 0 1) ((-1)) (0))
noncomputable def d252 (a0 : List (Ty.T (.int .i64))) (a1 : Int) : Bool := cond (k252_0 a0 a1 0 ((a0).length : Int) 0 0) (true) (cond (k252_0 a0 a1 0 ((a0).length : Int) 0 1) (true) (false))
theorem o252 (a0 : List (Ty.T (.int .i64))) (a1 : Int) : u252 a0 a1 = cond (d252 a0 a1) (some (f252 (v252 a0 a1))) none := (par_cond (par_some _) (par_cond (par_some _) (par_none _)))
noncomputable def p252 : Prim := ⟨[.one (.dat (.sl 3 (.int .i64)) true), .one (.dat (.int .i64) true)], fun v => .br (d252 v.1 v.2.1) (.done (f252 (v252 v.1 v.2.1))) .no⟩
theorem ok252 : PrimOk Tryz.prog 252 p252 := primOk_eq E252l.ok orders fun v => Eq.trans (b := u252 v.1 v.2.1) (by kernel_rfl) (o252 v.1 v.2.1)
noncomputable def f181 (r : Bool) : AV × Sig := (.one (.bool r), [])
noncomputable def E181 : EnvOk Tryz.prog := (E0.p ok252)
noncomputable def u181 (a0 : List (Ty.T (.int .i64))) (a1 : Int) : Option (AV × Sig) := cond (d252 a0 a1) (some (.one (.bool (decide ((v252 a0 a1) ≥ (0 : Int)))), [])) (none)
noncomputable def v181 (a0 : List (Ty.T (.int .i64))) (a1 : Int) : Bool := cond (d252 a0 a1) (decide ((v252 a0 a1) ≥ (0 : Int))) (false)
noncomputable def d181 (a0 : List (Ty.T (.int .i64))) (a1 : Int) : Bool := cond (d252 a0 a1) (true) (false)
theorem o181 (a0 : List (Ty.T (.int .i64))) (a1 : Int) : u181 a0 a1 = cond (d181 a0 a1) (some (f181 (v181 a0 a1))) none := (par_cond (par_some _) (par_none _))
noncomputable def p181 : Prim := ⟨[.one (.dat (.sl 3 (.int .i64)) true), .one (.dat (.int .i64) true)], fun v => .br (d181 v.1 v.2.1) (.done (f181 (v181 v.1 v.2.1))) .no⟩
theorem ok181 : PrimOk Tryz.prog 181 p181 := primOk_eq E181.ok orders fun v => Eq.trans (b := u181 v.1 v.2.1) (by kernel_rfl) (o181 v.1 v.2.1)
noncomputable def f75 (r : Bool) : AV × Sig := (.one (.bool r), [])
noncomputable def E75 : EnvOk Tryz.prog := (E0.p ok181)
noncomputable def u75 (a0 : List (Ty.T (.int .i64))) (a1 : Int) : Option (AV × Sig) := cond (d181 a0 a1) (some (.one (.bool (v181 a0 a1)), [])) (none)
noncomputable def v75 (a0 : List (Ty.T (.int .i64))) (a1 : Int) : Bool := cond (d181 a0 a1) ((v181 a0 a1)) (false)
noncomputable def d75 (a0 : List (Ty.T (.int .i64))) (a1 : Int) : Bool := cond (d181 a0 a1) (true) (false)
theorem o75 (a0 : List (Ty.T (.int .i64))) (a1 : Int) : u75 a0 a1 = cond (d75 a0 a1) (some (f75 (v75 a0 a1))) none := (par_cond (par_some _) (par_none _))
noncomputable def p75 : Prim := ⟨[.one (.dat (.sl 3 (.int .i64)) true), .one (.dat (.int .i64) true)], fun v => .br (d75 v.1 v.2.1) (.done (f75 (v75 v.1 v.2.1))) .no⟩
theorem ok75 : PrimOk Tryz.prog 75 p75 := primOk_eq E75.ok orders fun v => Eq.trans (b := u75 v.1 v.2.1) (by kernel_rfl) (o75 v.1 v.2.1)
noncomputable def f253 (r : Bool) : AV × Sig := (.one (.bool r), [])
noncomputable def E253 : EnvOk Tryz.prog := E0
noncomputable def u253 (a0 : Ty.T y108) (a1 : Int) : Option (AV × Sig) := cond (a0.2.2.2.2.2.2.2.2 != (0 : Int)) (cond (a0.2.2.2.2.2.2.2.1 == (-1 : Int)) (some (.one (.bool true), [])) (some (.one (.bool (decide (a0.2.2.2.2.2.2.2.1 ≥ a1))), []))) (some (.one (.bool false), []))
noncomputable def v253 (a0 : Ty.T y108) (a1 : Int) : Bool := cond (a0.2.2.2.2.2.2.2.2 != (0 : Int)) (cond (a0.2.2.2.2.2.2.2.1 == (-1 : Int)) (true) (decide (a0.2.2.2.2.2.2.2.1 ≥ a1))) (false)
theorem o253 (a0 : Ty.T y108) (a1 : Int) : u253 a0 a1 = some (f253 (v253 a0 a1)) := (tot_cond (tot_cond rfl rfl) rfl)
noncomputable def p253 : Prim := ⟨[.agg [.dat y108 true], .one (.dat (.int .i64) true)], fun v => .done (f253 (v253 v.1 v.2.1))⟩
theorem ok253 : PrimOk Tryz.prog 253 p253 := primOk_eq E253.ok orders fun v => Eq.trans (b := u253 v.1 v.2.1) (by kernel_rfl) (o253 v.1 v.2.1)
noncomputable def f254 (r : Bool) : AV × Sig := (.one (.bool r), [])
noncomputable def E254 : EnvOk Tryz.prog := E0
noncomputable def u254 (a0 : Ty.T y108) (a1 : Ty.T y27) : Option (AV × Sig) := cond (a0.2.2.2.1 != (0 : Int)) (some (.one (.bool true), [])) (cond (a0.2.2.1 == a1.2.1) (some (.one (.bool true), [])) (some (.one (.bool (a0.2.2.1 == a1.2.2.1)), [])))
noncomputable def v254 (a0 : Ty.T y108) (a1 : Ty.T y27) : Bool := cond (a0.2.2.2.1 != (0 : Int)) (true) (cond (a0.2.2.1 == a1.2.1) (true) ((a0.2.2.1 == a1.2.2.1)))
theorem o254 (a0 : Ty.T y108) (a1 : Ty.T y27) : u254 a0 a1 = some (f254 (v254 a0 a1)) := (tot_cond rfl (tot_cond rfl rfl))
noncomputable def p254 : Prim := ⟨[.agg [.dat y108 true], .agg [.dat y27 true]], fun v => .done (f254 (v254 v.1 v.2.1))⟩
theorem ok254 : PrimOk Tryz.prog 254 p254 := primOk_eq E254.ok orders fun v => Eq.trans (b := u254 v.1 v.2.1) (by kernel_rfl) (o254 v.1 v.2.1)
noncomputable def f302 (r : (List (Ty.T (.int .i64)))) : AV × Sig := (.one (.sl 4096), [(4096, .arr 3 (.int .i64) r false)])
noncomputable def E302 : EnvOk Tryz.prog := E0
@[reducible] noncomputable def ss302_0 : List SP := .und :: .one (.dat (.int .i64) true) :: U2 (.one (.dat (.sl 3 (.int .i64)) false) :: .one (.own 8) :: U4 (.one (.dat (.sl 64 y63) true) :: .one (.dat (.int .i64) true) :: .one (.dat (.int .i64) true) :: U16 (U4 (U2 (.und :: [])))))
@[reducible] noncomputable def gs302_0 : List (Nat × GP) := [(8, .arr 3 (.int .i64) false)]
@[reducible] noncomputable def V302_0 : Type := Int × (List (Ty.T (.int .i64))) × (List (Ty.T y63)) × Int × Int × (List (Ty.T (.int .i64))) × Unit
theorem wf302_0 : wfSt ss302_0 gs302_0 := wf_of (by kernel_rfl)
noncomputable def t302_0 (v : V302_0) {Z : Type} (κ : Nat × V302_0 → Option Z) : Option Z := cond (decide (v.2.2.2.2.1 < v.2.2.2.1)) (if 0 ≤ v.2.2.2.2.1 then (optC ((v.2.2.1)[(v.2.2.2.2.1).toNat]?) (fun x1 => cond (x1.2.2.2.1 == (2 : Int)) (cond (v.1 == (-1 : Int)) (if (v.2.2.2.2.2.1 ++ [x1.1] : List (Ty.T (.int .i64))).length * 8 ≤ 140737488351232 then (κ (0, (v.1, v.2.1, v.2.2.1, v.2.2.2.1, IntKind.wrap .i64 (v.2.2.2.2.1 + (1 : Int)), v.2.2.2.2.2.1 ++ [x1.1], ()))) else none) (cond (x1.2.2.1 == v.1) (if (v.2.2.2.2.2.1 ++ [x1.1] : List (Ty.T (.int .i64))).length * 8 ≤ 140737488351232 then (κ (0, (v.1, v.2.1, v.2.2.1, v.2.2.2.1, IntKind.wrap .i64 (v.2.2.2.2.1 + (1 : Int)), v.2.2.2.2.2.1 ++ [x1.1], ()))) else none) (κ (0, (v.1, v.2.1, v.2.2.1, v.2.2.2.1, IntKind.wrap .i64 (v.2.2.2.2.1 + (1 : Int)), v.2.2.2.2.2.1, ()))))) (κ (0, (v.1, v.2.1, v.2.2.1, v.2.2.2.1, IntKind.wrap .i64 (v.2.2.2.2.1 + (1 : Int)), v.2.2.2.2.2.1, ()))))) else none) (κ (1, (v.1, v.2.1, v.2.2.1, v.2.2.2.1, v.2.2.2.2.1, v.2.2.2.2.2.1, ())))
noncomputable def s302_0 (v : V302_0) : Option (Nat × V302_0) := t302_0 v some
noncomputable def n302_0 (v : V302_0) : Nat := v.1.toNat + v.2.1.length + v.2.2.1.length + v.2.2.2.1.toNat + v.2.2.2.2.1.toNat + v.2.2.2.2.2.1.length + 100
noncomputable def k302_0 (h0 : Int) (h1 : List (Ty.T (.int .i64))) (h2 : List (Ty.T y63)) (h3 : Int) (h4 : Int) (h5 : List (Ty.T (.int .i64))) (c : Nat) : Bool := iterAt s302_0 (n302_0 (h0, h1, h2, h3, h4, h5, ())) (h0, h1, h2, h3, h4, h5, ()) c
noncomputable def w302_0 (h0 : Int) (h1 : List (Ty.T (.int .i64))) (h2 : List (Ty.T y63)) (h3 : Int) (h4 : Int) (h5 : List (Ty.T (.int .i64))) : V302_0 := iterV s302_0 (n302_0 (h0, h1, h2, h3, h4, h5, ())) (h0, h1, h2, h3, h4, h5, ())
noncomputable def F302_0 (v : V302_0) : Ways (Ex × St) := waysOf s302_0 (n302_0 v) v (bldSt ss302_0 gs302_0) [.exit 0] 0
theorem l302_0 : LoopOk Tryz.prog (loopAt [true, true, false, true] (bodyOf Tryz.f302)) ss302_0 gs302_0 F302_0 := loopOk_iter (lt := .none) E302.ok orders (LtOk.no _) fun n v K => Eq.trans (b := t302_0 v (kont _ _ _ _ _ K)) (by kernel_rfl) (show t302_0 v _ = (t302_0 v some).bind _ from (bnd_cond (bnd_ite (bnd_opt fun x1 => (bnd_cond (bnd_cond (bnd_ite rfl) (bnd_cond (bnd_ite rfl) rfl)) rfl))) rfl))
noncomputable def E302l : EnvOk Tryz.prog := E302.l (g := 302) (t := (ltPut [true, true, false, true] (bodyOf Tryz.f302) .none (.sum ss302_0 gs302_0 F302_0))) (ltOk_of Tryz.func302 (LtOk.put wf302_0 (LtOk.no _) l302_0))
noncomputable def u302 (a0 : Ty.T y36) (a1 : Int) : Option (AV × Sig) := cond (k302_0 a1 [] a0.1 ((a0.1).length : Int) 0 [] 0) (some (.one (.sl 4096), [(4096, .arr 3 (.int .i64) (w302_0 a1 [] a0.1 ((a0.1).length : Int) 0 []).2.2.2.2.2.1 false)])) (none)
noncomputable def v302 (a0 : Ty.T y36) (a1 : Int) : (List (Ty.T (.int .i64))) := cond (k302_0 a1 [] a0.1 ((a0.1).length : Int) 0 [] 0) ((w302_0 a1 [] a0.1 ((a0.1).length : Int) 0 []).2.2.2.2.2.1) ([])
noncomputable def d302 (a0 : Ty.T y36) (a1 : Int) : Bool := cond (k302_0 a1 [] a0.1 ((a0.1).length : Int) 0 [] 0) (true) (false)
theorem o302 (a0 : Ty.T y36) (a1 : Int) : u302 a0 a1 = cond (d302 a0 a1) (some (f302 (v302 a0 a1))) none := (par_cond (par_some _) (par_none _))
noncomputable def p302 : Prim := ⟨[.agg [.dat y36 true], .one (.dat (.int .i64) true)], fun v => .br (d302 v.1 v.2.1) (.done (f302 (v302 v.1 v.2.1))) .no⟩
theorem ok302 : PrimOk Tryz.prog 302 p302 := primOk_eq E302l.ok orders fun v => Eq.trans (b := u302 v.1 v.2.1) (by kernel_rfl) (o302 v.1 v.2.1)
noncomputable def f303 (r : Int) : AV × Sig := (.one (.int .i64 r), [])
noncomputable def E303 : EnvOk Tryz.prog := E0
@[reducible] noncomputable def ss303_0 : List SP := .und :: .one (.dat (.int .i64) true) :: U2 (.one (.dat (.int .i64) true) :: .one (.dat (.int .i64) true) :: U2 (.und :: .one (.dat (.sl 64 y63) true) :: .one (.dat (.int .i64) true) :: .one (.dat (.int .i64) true) :: U16 (U4 ([]))))
@[reducible] noncomputable def V303_0 : Type := Int × Int × Int × (List (Ty.T y63)) × Int × Int × Unit
theorem wf303_0 : wfSt ss303_0 gs12_0 := wf_of (by kernel_rfl)
noncomputable def t303_0 (v : V303_0) {Z : Type} (κ : Nat × V303_0 → Option Z) : Option Z := cond (decide (v.2.2.2.2.2.1 < v.2.2.2.2.1)) (if 0 ≤ v.2.2.2.2.2.1 then (optC ((v.2.2.2.1)[(v.2.2.2.2.2.1).toNat]?) (fun x1 => cond (x1.2.2.2.1 == (2 : Int)) (cond (x1.2.2.1 == v.1) (cond x1.2.2.2.2.2.2.2.2.2.2.2.2 (κ (0, (v.1, v.2.1, IntKind.wrap .i64 (v.2.2.1 + (1 : Int)), v.2.2.2.1, v.2.2.2.2.1, IntKind.wrap .i64 (v.2.2.2.2.2.1 + (1 : Int)), ()))) (κ (0, (v.1, v.2.1, v.2.2.1, v.2.2.2.1, v.2.2.2.2.1, IntKind.wrap .i64 (v.2.2.2.2.2.1 + (1 : Int)), ())))) (κ (0, (v.1, v.2.1, v.2.2.1, v.2.2.2.1, v.2.2.2.2.1, IntKind.wrap .i64 (v.2.2.2.2.2.1 + (1 : Int)), ())))) (κ (0, (v.1, v.2.1, v.2.2.1, v.2.2.2.1, v.2.2.2.2.1, IntKind.wrap .i64 (v.2.2.2.2.2.1 + (1 : Int)), ()))))) else none) (κ (1, (v.1, v.2.1, v.2.2.1, v.2.2.2.1, v.2.2.2.2.1, v.2.2.2.2.2.1, ())))
noncomputable def s303_0 (v : V303_0) : Option (Nat × V303_0) := t303_0 v some
noncomputable def n303_0 (v : V303_0) : Nat := v.1.toNat + v.2.1.toNat + v.2.2.1.toNat + v.2.2.2.1.length + v.2.2.2.2.1.toNat + v.2.2.2.2.2.1.toNat + 100
noncomputable def k303_0 (h0 : Int) (h1 : Int) (h2 : Int) (h3 : List (Ty.T y63)) (h4 : Int) (h5 : Int) (c : Nat) : Bool := iterAt s303_0 (n303_0 (h0, h1, h2, h3, h4, h5, ())) (h0, h1, h2, h3, h4, h5, ()) c
noncomputable def w303_0 (h0 : Int) (h1 : Int) (h2 : Int) (h3 : List (Ty.T y63)) (h4 : Int) (h5 : Int) : V303_0 := iterV s303_0 (n303_0 (h0, h1, h2, h3, h4, h5, ())) (h0, h1, h2, h3, h4, h5, ())
noncomputable def F303_0 (v : V303_0) : Ways (Ex × St) := waysOf s303_0 (n303_0 v) v (bldSt ss303_0 gs12_0) [.exit 0] 0
theorem l303_0 : LoopOk Tryz.prog (loopAt [true, true, false, true] (bodyOf Tryz.f303)) ss303_0 gs12_0 F303_0 := loopOk_iter (lt := .none) E303.ok orders (LtOk.no _) fun n v K => Eq.trans (b := t303_0 v (kont _ _ _ _ _ K)) (by kernel_rfl) (show t303_0 v _ = (t303_0 v some).bind _ from (bnd_cond (bnd_ite (bnd_opt fun x1 => (bnd_cond (bnd_cond (bnd_cond rfl rfl) rfl) rfl))) rfl))
noncomputable def E303l : EnvOk Tryz.prog := E303.l (g := 303) (t := (ltPut [true, true, false, true] (bodyOf Tryz.f303) .none (.sum ss303_0 gs12_0 F303_0))) (ltOk_of Tryz.func303 (LtOk.put wf303_0 (LtOk.no _) l303_0))
noncomputable def u303 (a0 : Ty.T y36) (a1 : Int) : Option (AV × Sig) := cond (k303_0 a1 0 0 a0.1 ((a0.1).length : Int) 0 0) (some (.one (.int .i64 (w303_0 a1 0 0 a0.1 ((a0.1).length : Int) 0).2.2.1), [])) (none)
noncomputable def v303 (a0 : Ty.T y36) (a1 : Int) : Int := cond (k303_0 a1 0 0 a0.1 ((a0.1).length : Int) 0 0) ((w303_0 a1 0 0 a0.1 ((a0.1).length : Int) 0).2.2.1) (0)
noncomputable def d303 (a0 : Ty.T y36) (a1 : Int) : Bool := cond (k303_0 a1 0 0 a0.1 ((a0.1).length : Int) 0 0) (true) (false)
theorem o303 (a0 : Ty.T y36) (a1 : Int) : u303 a0 a1 = cond (d303 a0 a1) (some (f303 (v303 a0 a1))) none := (par_cond (par_some _) (par_none _))
noncomputable def p303 : Prim := ⟨[.agg [.dat y36 true], .one (.dat (.int .i64) true)], fun v => .br (d303 v.1 v.2.1) (.done (f303 (v303 v.1 v.2.1))) .no⟩
theorem ok303 : PrimOk Tryz.prog 303 p303 := primOk_eq E303l.ok orders fun v => Eq.trans (b := u303 v.1 v.2.1) (by kernel_rfl) (o303 v.1 v.2.1)
noncomputable def f255 (r : Bool) : AV × Sig := (.one (.bool r), [])
noncomputable def E255 : EnvOk Tryz.prog := ((((E0.p ok168).p ok284).p ok302).p ok303)
noncomputable def u255 (a0 : Ty.T y36) (a1 : Int) (a2 : Ty.T y104) : Option (AV × Sig) := cond (!(v284 a2)) (some (.one (.bool false), [])) (cond (!(v168 a0 a1)) (some (.one (.bool false), [])) (cond (a2.1 == (1 : Int)) (if 0 ≤ a1 then (optC ((a0.2.1)[(a1).toNat]?) (fun x1 => some (.one (.bool (decide (x1.1 ≤ a2.2))), []))) else none) (cond (a2.1 == (2 : Int)) (cond (d302 a0 a1) (some (.one (.bool (decide ((((v302 a0 a1)).length : Int) ≥ a2.2))), [])) (none)) (cond (a2.1 == (3 : Int)) (some (.one (.bool (a0.2.2.1 == a1)), [])) (cond (a2.1 == (4 : Int)) (cond (d303 a0 a1) (some (.one (.bool (decide ((v303 a0 a1) ≥ a2.2))), [])) (none)) (some (.one (.bool true), [])))))))
noncomputable def v255 (a0 : Ty.T y36) (a1 : Int) (a2 : Ty.T y104) : Bool := cond (!(v284 a2)) (false) (cond (!(v168 a0 a1)) (false) (cond (a2.1 == (1 : Int)) (optV ((a0.2.1)[(a1).toNat]?) false (fun x1 => decide (x1.1 ≤ a2.2))) (cond (a2.1 == (2 : Int)) (cond (d302 a0 a1) (decide ((((v302 a0 a1)).length : Int) ≥ a2.2)) (false)) (cond (a2.1 == (3 : Int)) ((a0.2.2.1 == a1)) (cond (a2.1 == (4 : Int)) (cond (d303 a0 a1) (decide ((v303 a0 a1) ≥ a2.2)) (false)) (true))))))
noncomputable def d255 (a0 : Ty.T y36) (a1 : Int) (a2 : Ty.T y104) : Bool := cond (!(v284 a2)) (true) (cond (!(v168 a0 a1)) (true) (cond (a2.1 == (1 : Int)) (decide (0 ≤ a1) && (optD ((a0.2.1)[(a1).toNat]?) (fun x1 => true))) (cond (a2.1 == (2 : Int)) (cond (d302 a0 a1) (true) (false)) (cond (a2.1 == (3 : Int)) (true) (cond (a2.1 == (4 : Int)) (cond (d303 a0 a1) (true) (false)) (true))))))
theorem o255 (a0 : Ty.T y36) (a1 : Int) (a2 : Ty.T y104) : u255 a0 a1 a2 = cond (d255 a0 a1 a2) (some (f255 (v255 a0 a1 a2))) none := (par_cond (par_some _) (par_cond (par_some _) (par_cond (par_ite (par_opt fun x1 => (par_some _))) (par_cond (par_cond (par_some _) (par_none _)) (par_cond (par_some _) (par_cond (par_cond (par_some _) (par_none _)) (par_some _)))))))
noncomputable def p255 : Prim := ⟨[.agg [.dat y36 true], .one (.dat (.int .i64) true), .agg [.dat y104 true]], fun v => .br (d255 v.1 v.2.1 v.2.2.1) (.done (f255 (v255 v.1 v.2.1 v.2.2.1))) .no⟩
theorem ok255 : PrimOk Tryz.prog 255 p255 := primOk_eq E255.ok orders fun v => Eq.trans (b := u255 v.1 v.2.1 v.2.2.1) (by kernel_rfl) (o255 v.1 v.2.1 v.2.2.1)
noncomputable def f341c1 (r : Bool) : AV × Sig := (.one (.bool r), [])
noncomputable def E341c1 : EnvOk Tryz.prog := E0
noncomputable def u341c1 (a0 : Ty.T y63) (a1 : Int) : Option (AV × Sig) := some (.one (.bool (a0.1 == a1)), [])
noncomputable def v341c1 (a0 : Ty.T y63) (a1 : Int) : Bool := (a0.1 == a1)
theorem o341c1 (a0 : Ty.T y63) (a1 : Int) : u341c1 a0 a1 = some (f341c1 (v341c1 a0 a1)) := rfl
noncomputable def p341c1 : Prim := ⟨[.agg [.dat y63 true], .one (.ept (.int .i64))], fun v => .done (f341c1 (v341c1 v.1 v.2.1))⟩
theorem ok341c1 : PrimOk Tryz.prog 341 p341c1 := primOk_eq E341c1.ok orders fun v => Eq.trans (b := u341c1 v.1 v.2.1) (by kernel_rfl) (o341c1 v.1 v.2.1)
noncomputable def f340c1 (r : Int) : AV × Sig := (.one (.int .i64 r), [])
noncomputable def E340c1 : EnvOk Tryz.prog := (E0.p ok341c1)
@[reducible] noncomputable def ss340c1_0 : List SP := .one (.dat (.sl 64 y63) true) :: .one (.fnc 341 [(.int .i64)]) :: U2 (.one (.dat (.int .i64) true) :: U2 (.one (.dat (.int .i64) true) :: .one (.dat (.int .i64) true) :: U8 (U2 ([]))))
@[reducible] noncomputable def V340c1_0 : Type := (List (Ty.T y63)) × Int × Int × Int × Int × Unit
theorem wf340c1_0 : wfSt ss340c1_0 gs12_0 := wf_of (by kernel_rfl)
noncomputable def t340c1_0 (v : V340c1_0) {Z : Type} (κ : Nat × V340c1_0 → Option Z) : Option Z := cond (decide (v.2.2.2.2.1 < v.2.2.2.1)) (if 0 ≤ v.2.2.2.2.1 then (optC ((v.1)[(v.2.2.2.2.1).toNat]?) (fun x1 => cond (v341c1 x1 v.2.1) (κ (1, (v.1, v.2.1, v.2.2.2.2.1, v.2.2.2.1, v.2.2.2.2.1, ()))) (κ (0, (v.1, v.2.1, v.2.2.1, v.2.2.2.1, IntKind.wrap .i64 (v.2.2.2.2.1 + (1 : Int)), ()))))) else none) (κ (2, (v.1, v.2.1, v.2.2.1, v.2.2.2.1, v.2.2.2.2.1, ())))
noncomputable def s340c1_0 (v : V340c1_0) : Option (Nat × V340c1_0) := t340c1_0 v some
noncomputable def n340c1_0 (v : V340c1_0) : Nat := v.1.length + v.2.1.toNat + v.2.2.1.toNat + v.2.2.2.1.toNat + v.2.2.2.2.1.toNat + 100
noncomputable def k340c1_0 (h0 : List (Ty.T y63)) (h1 : Int) (h2 : Int) (h3 : Int) (h4 : Int) (c : Nat) : Bool := iterAt s340c1_0 (n340c1_0 (h0, h1, h2, h3, h4, ())) (h0, h1, h2, h3, h4, ()) c
noncomputable def w340c1_0 (h0 : List (Ty.T y63)) (h1 : Int) (h2 : Int) (h3 : Int) (h4 : Int) : V340c1_0 := iterV s340c1_0 (n340c1_0 (h0, h1, h2, h3, h4, ())) (h0, h1, h2, h3, h4, ())
noncomputable def F340c1_0 (v : V340c1_0) : Ways (Ex × St) := waysOf s340c1_0 (n340c1_0 v) v (bldSt ss340c1_0 gs12_0) [.ret, .exit 0] 0
theorem l340c1_0 : LoopOk Tryz.prog (loopAt [true, false, true] (bodyOf Tryz.f340)) ss340c1_0 gs12_0 F340c1_0 := loopOk_iter (lt := .none) E340c1.ok orders (LtOk.no _) fun n v K => Eq.trans (b := t340c1_0 v (kont _ _ _ _ _ K)) (by kernel_rfl) (show t340c1_0 v _ = (t340c1_0 v some).bind _ from (bnd_cond (bnd_ite (bnd_opt fun x1 => (bnd_cond rfl rfl))) rfl))
noncomputable def E340c1l : EnvOk Tryz.prog := E340c1.l (g := 340) (t := (ltPut [true, false, true] (bodyOf Tryz.f340) .none (.sum ss340c1_0 gs12_0 F340c1_0))) (ltOk_of Tryz.func340 (LtOk.put wf340c1_0 (LtOk.no _) l340c1_0))
noncomputable def u340c1 (a0 : List (Ty.T y63)) (a1_0 : Int) : Option (AV × Sig) := cond (k340c1_0 a0 a1_0 0 ((a0).length : Int) 0 0) (some (.one (.int .i64 (w340c1_0 a0 a1_0 0 ((a0).length : Int) 0).2.2.1), [])) (cond (k340c1_0 a0 a1_0 0 ((a0).length : Int) 0 1) (some (.one (.int .i64 (-1)), [])) (none))
noncomputable def v340c1 (a0 : List (Ty.T y63)) (a1_0 : Int) : Int := cond (k340c1_0 a0 a1_0 0 ((a0).length : Int) 0 0) ((w340c1_0 a0 a1_0 0 ((a0).length : Int) 0).2.2.1) (cond (k340c1_0 a0 a1_0 0 ((a0).length : Int) 0 1) ((-1)) (0))
noncomputable def d340c1 (a0 : List (Ty.T y63)) (a1_0 : Int) : Bool := cond (k340c1_0 a0 a1_0 0 ((a0).length : Int) 0 0) (true) (cond (k340c1_0 a0 a1_0 0 ((a0).length : Int) 0 1) (true) (false))
theorem o340c1 (a0 : List (Ty.T y63)) (a1_0 : Int) : u340c1 a0 a1_0 = cond (d340c1 a0 a1_0) (some (f340c1 (v340c1 a0 a1_0))) none := (par_cond (par_some _) (par_cond (par_some _) (par_none _)))
noncomputable def p340c1 : Prim := ⟨[.one (.dat (.sl 64 y63) true), .one (.fnc 341 [(.int .i64)])], fun v => .br (d340c1 v.1 v.2.1) (.done (f340c1 (v340c1 v.1 v.2.1))) .no⟩
theorem ok340c1 : PrimOk Tryz.prog 340 p340c1 := primOk_eq E340c1l.ok orders fun v => Eq.trans (b := u340c1 v.1 v.2.1) (by kernel_rfl) (o340c1 v.1 v.2.1)
noncomputable def f326 (r : Int) : AV × Sig := (.one (.int .i64 r), [])
noncomputable def E326 : EnvOk Tryz.prog := (E0.p ok340c1)
noncomputable def u326 (a0 : Ty.T y36) (a1 : Int) : Option (AV × Sig) := cond (d340c1 a0.1 a1) (some (.one (.int .i64 (v340c1 a0.1 a1)), [])) (none)
noncomputable def v326 (a0 : Ty.T y36) (a1 : Int) : Int := cond (d340c1 a0.1 a1) ((v340c1 a0.1 a1)) (0)
noncomputable def d326 (a0 : Ty.T y36) (a1 : Int) : Bool := cond (d340c1 a0.1 a1) (true) (false)
theorem o326 (a0 : Ty.T y36) (a1 : Int) : u326 a0 a1 = cond (d326 a0 a1) (some (f326 (v326 a0 a1))) none := (par_cond (par_some _) (par_none _))
noncomputable def p326 : Prim := ⟨[.agg [.dat y36 true], .one (.dat (.int .i64) true)], fun v => .br (d326 v.1 v.2.1) (.done (f326 (v326 v.1 v.2.1))) .no⟩
theorem ok326 : PrimOk Tryz.prog 326 p326 := primOk_eq E326.ok orders fun v => Eq.trans (b := u326 v.1 v.2.1) (by kernel_rfl) (o326 v.1 v.2.1)
noncomputable def f292 (r : Int) : AV × Sig := (.one (.int .i64 r), [])
noncomputable def E292 : EnvOk Tryz.prog := ((E0.p ok168).p ok326)
noncomputable def u292 (a0 : Ty.T y36) (a1 : Ty.T y27) : Option (AV × Sig) := cond (a1.2.2.1 == (0 : Int)) (cond (v168 a0 a1.2.2.2.1) (some (.one (.int .i64 a1.2.2.2.1), [])) (some (.one (.int .i64 (-1)), []))) (cond (d326 a0 a1.2.2.1) (cond (decide ((v326 a0 a1.2.2.1) < (0 : Int))) (some (.one (.int .i64 (-1)), [])) (if 0 ≤ (v326 a0 a1.2.2.1) then (optC ((a0.1)[(v326 a0 a1.2.2.1).toNat]?) (fun x1 => some (.one (.int .i64 x1.2.2.1), []))) else none)) (none))
noncomputable def v292 (a0 : Ty.T y36) (a1 : Ty.T y27) : Int := cond (a1.2.2.1 == (0 : Int)) (cond (v168 a0 a1.2.2.2.1) (a1.2.2.2.1) ((-1))) (cond (d326 a0 a1.2.2.1) (cond (decide ((v326 a0 a1.2.2.1) < (0 : Int))) ((-1)) (optV ((a0.1)[(v326 a0 a1.2.2.1).toNat]?) 0 (fun x1 => x1.2.2.1))) (0))
noncomputable def d292 (a0 : Ty.T y36) (a1 : Ty.T y27) : Bool := cond (a1.2.2.1 == (0 : Int)) (cond (v168 a0 a1.2.2.2.1) (true) (true)) (cond (d326 a0 a1.2.2.1) (cond (decide ((v326 a0 a1.2.2.1) < (0 : Int))) (true) (decide (0 ≤ (v326 a0 a1.2.2.1)) && (optD ((a0.1)[(v326 a0 a1.2.2.1).toNat]?) (fun x1 => true)))) (false))
theorem o292 (a0 : Ty.T y36) (a1 : Ty.T y27) : u292 a0 a1 = cond (d292 a0 a1) (some (f292 (v292 a0 a1))) none := (par_cond (par_cond (par_some _) (par_some _)) (par_cond (par_cond (par_some _) (par_ite (par_opt fun x1 => (par_some _)))) (par_none _)))
noncomputable def p292 : Prim := ⟨[.agg [.dat y36 true], .agg [.dat y27 true]], fun v => .br (d292 v.1 v.2.1) (.done (f292 (v292 v.1 v.2.1))) .no⟩
theorem ok292 : PrimOk Tryz.prog 292 p292 := primOk_eq E292.ok orders fun v => Eq.trans (b := u292 v.1 v.2.1) (by kernel_rfl) (o292 v.1 v.2.1)
noncomputable def f304 (r : Bool) : AV × Sig := (.one (.bool r), [])
noncomputable def E304 : EnvOk Tryz.prog := (E0.p ok292)
noncomputable def t304 (a0 : Ty.T y36) (a1 : Int) (a2 : Ty.T y102) (a3 : Ty.T y27) {Z : Type} (κ : Bool → Option Z) : Option Z := cond (d292 a0 a3) (cond ((v292 a0 a3) == (-1 : Int)) (κ false) (cond (a2.2.1 == (1 : Int)) (cond ((v292 a0 a3) != a1) (κ false) (cond (a2.2.1 == (2 : Int)) (cond ((v292 a0 a3) == a1) (κ false) (cond (a2.2.2.2.2.1 == (0 : Int)) (κ true) (κ (a2.2.2.2.2.1 == a3.2.2.1)))) (cond (a2.2.2.2.2.1 == (0 : Int)) (κ true) (κ (a2.2.2.2.2.1 == a3.2.2.1))))) (cond (a2.2.1 == (2 : Int)) (cond ((v292 a0 a3) == a1) (κ false) (cond (a2.2.2.2.2.1 == (0 : Int)) (κ true) (κ (a2.2.2.2.2.1 == a3.2.2.1)))) (cond (a2.2.2.2.2.1 == (0 : Int)) (κ true) (κ (a2.2.2.2.2.1 == a3.2.2.1)))))) (none)
noncomputable def v304 (a0 : Ty.T y36) (a1 : Int) (a2 : Ty.T y102) (a3 : Ty.T y27) : Bool := (t304 a0 a1 a2 a3 some).getD false
noncomputable def d304 (a0 : Ty.T y36) (a1 : Int) (a2 : Ty.T y102) (a3 : Ty.T y27) : Bool := (t304 a0 a1 a2 a3 some).isSome
noncomputable def p304 : Prim := ⟨[.agg [.dat y36 true], .one (.dat (.int .i64) true), .agg [.dat y102 true], .agg [.dat y27 true]], fun v => .br (d304 v.1 v.2.1 v.2.2.1 v.2.2.2.1) (.done (f304 (v304 v.1 v.2.1 v.2.2.1 v.2.2.2.1))) .no⟩
theorem ok304 : PrimOk Tryz.prog 304 p304 := primOk_eq E304.ok orders fun v => Eq.trans (b := (t304 v.1 v.2.1 v.2.2.1 v.2.2.2.1 (fun r => some (f304 r)))) (by kernel_rfl) (run_fin (show t304 v.1 v.2.1 v.2.2.1 v.2.2.2.1 (fun r => some (f304 r)) = (t304 v.1 v.2.1 v.2.2.1 v.2.2.2.1 some).bind _ from (bnd_cond (bnd_cond rfl (bnd_cond (bnd_cond rfl (bnd_cond (bnd_cond rfl (bnd_cond rfl rfl)) (bnd_cond rfl rfl))) (bnd_cond (bnd_cond rfl (bnd_cond rfl rfl)) (bnd_cond rfl rfl)))) rfl)))
noncomputable def f329 (r : (Ty.T y63)) : AV × Sig := (.agg (y63.cells false r), [])
noncomputable def E329 : EnvOk Tryz.prog := (E0.p ok326)
noncomputable def t329 (a0 : Ty.T y36) (a1 : Ty.T y27) {Z : Type} (κ : (Ty.T y63) → Option Z) : Option Z := cond (d326 a0 a1.2.1) (cond (a1.1 != (1 : Int)) (κ (0, 0, 0, 0, 0, 0, 0, 0, 0, 0, 0, false, false)) (cond (decide ((v326 a0 a1.2.1) < (0 : Int))) (κ (0, 0, 0, 0, 0, 0, 0, 0, 0, 0, 0, false, false)) (if 0 ≤ (v326 a0 a1.2.1) then (optC ((a0.1)[(v326 a0 a1.2.1).toNat]?) (fun x1 => κ x1)) else none))) (none)
noncomputable def v329 (a0 : Ty.T y36) (a1 : Ty.T y27) : (Ty.T y63) := (t329 a0 a1 some).getD (Ty.zero y63)
noncomputable def d329 (a0 : Ty.T y36) (a1 : Ty.T y27) : Bool := (t329 a0 a1 some).isSome
noncomputable def p329 : Prim := ⟨[.agg [.dat y36 true], .agg [.dat y27 true]], fun v => .br (d329 v.1 v.2.1) (.done (f329 (v329 v.1 v.2.1))) .no⟩
theorem ok329 : PrimOk Tryz.prog 329 p329 := primOk_eq E329.ok orders fun v => Eq.trans (b := (t329 v.1 v.2.1 (fun r => some (f329 r)))) (by kernel_rfl) (run_fin (show t329 v.1 v.2.1 (fun r => some (f329 r)) = (t329 v.1 v.2.1 some).bind _ from (bnd_cond (bnd_cond rfl (bnd_cond rfl (bnd_ite (bnd_opt fun x1 => rfl)))) rfl)))
end Go.Proofs.YtahlaccdpmddbaaGreat.Vm
