/- Contracts. No condition. -/
import Derived.Test.YtahlaccdpmddbaaGreatVmCFnRewritesP0
import Derived.Test.YtahlaccdpmddbaaGreatVmLibThree
namespace Go.Proofs.YtahlaccdpmddbaaGreat.Vm
open Go Go.Proofs.YtahlaccdpmddbaaGreat.Lib
noncomputable section
set_option maxRecDepth 100000
set_option linter.unusedVariables false
def f76 (r : (List (Ty.T (.int .i64)))) : AV × Sig := (.one (.sl 4096), [(4096, .arr 3 (.int .i64) r false)])
def E76 := ((E0.p abq).p aff)
@[reducible] def JG : List SP := U2 (.und :: .one (.dat (.sl 3 (.int .i64)) true) :: .one (.ptr 4 0) :: .und :: .one (.ptr 6 0) :: .und :: .one (.dat (.sl 3 (.int .i64)) false) :: .one (.own 13) :: oI :: U2 (.und :: .one (.dat (.sl 109 ab) true) :: oI :: oI :: U32 (U4 (U2 ([])))))
@[reducible] def Jt : List (Nat × GP) := [(4, .box 37 [.dat y36 true]), (6, .box 41 [.dat y27 false]), (13, .arr 3 (.int .i64) false)]
@[reducible] def zI : Type := (List (Ty.T (.int .i64))) × (List (Ty.T (.int .i64))) × Int × (List (Ty.T ab)) × Int × Int × (Ty.T y36) × (Ty.T y27) × (List (Ty.T (.int .i64))) × Unit
def wS (v : zI) {Z : Type} (κ : Nat × zI -> Option Z) : Option Z := cond (decide (v.2.2.2.2.2.1 < v.2.2.2.2.1)) (if 0 <= v.2.2.2.2.2.1 then (bt ((v.2.2.2.1)[(v.2.2.2.2.2.1).toNat]?) (fun x1 => cond (d75 v.1 x1.1) (cond (v75 v.1 x1.1) (κ (0, (v.1, v.2.1, v.2.2.1, v.2.2.2.1, v.2.2.2.2.1, IntKind.wrap .i64 (v.2.2.2.2.2.1 + (1 : Int)), v.2.2.2.2.2.2.1, v.2.2.2.2.2.2.2.1, v.2.2.2.2.2.2.2.2.1, ()))) (cond (d182 v.2.2.2.2.2.2.1 x1 v.2.2.2.2.2.2.2.1) (cond (!(O9 v.2.2.2.2.2.2.1 x1 v.2.2.2.2.2.2.2.1)) (κ (0, (v.1, v.2.1, v.2.2.1, v.2.2.2.1, v.2.2.2.2.1, IntKind.wrap .i64 (v.2.2.2.2.2.1 + (1 : Int)), v.2.2.2.2.2.2.1, v.2.2.2.2.2.2.2.1, v.2.2.2.2.2.2.2.2.1, ()))) (cond (((v.2.2.2.2.2.2.2.2.1).length : Int) == (0 : Int)) (if (0 : Int) <= ((v.2.2.2.2.2.2.2.2.1).length : Int) then (cond (x1.2.2.2.1 == x1.2.2.2.1) (if ((((v.2.2.2.2.2.2.2.2.1).drop 0).take 0) ++ [x1.1] : List (Ty.T (.int .i64))).length * 8 <= 140737488351232 then (κ (0, (v.1, v.2.1, x1.2.2.2.1, v.2.2.2.1, v.2.2.2.2.1, IntKind.wrap .i64 (v.2.2.2.2.2.1 + (1 : Int)), v.2.2.2.2.2.2.1, v.2.2.2.2.2.2.2.1, (((v.2.2.2.2.2.2.2.2.1).drop 0).take 0) ++ [x1.1], ()))) else none) (κ (0, (v.1, v.2.1, x1.2.2.2.1, v.2.2.2.1, v.2.2.2.2.1, IntKind.wrap .i64 (v.2.2.2.2.2.1 + (1 : Int)), v.2.2.2.2.2.2.1, v.2.2.2.2.2.2.2.1, v.2.2.2.2.2.2.2.2.1.take 0, ())))) else none) (cond (decide (x1.2.2.2.1 < v.2.2.1)) (if (0 : Int) <= ((v.2.2.2.2.2.2.2.2.1).length : Int) then (cond (x1.2.2.2.1 == x1.2.2.2.1) (if ((((v.2.2.2.2.2.2.2.2.1).drop 0).take 0) ++ [x1.1] : List (Ty.T (.int .i64))).length * 8 <= 140737488351232 then (κ (0, (v.1, v.2.1, x1.2.2.2.1, v.2.2.2.1, v.2.2.2.2.1, IntKind.wrap .i64 (v.2.2.2.2.2.1 + (1 : Int)), v.2.2.2.2.2.2.1, v.2.2.2.2.2.2.2.1, (((v.2.2.2.2.2.2.2.2.1).drop 0).take 0) ++ [x1.1], ()))) else none) (κ (0, (v.1, v.2.1, x1.2.2.2.1, v.2.2.2.1, v.2.2.2.2.1, IntKind.wrap .i64 (v.2.2.2.2.2.1 + (1 : Int)), v.2.2.2.2.2.2.1, v.2.2.2.2.2.2.2.1, v.2.2.2.2.2.2.2.2.1.take 0, ())))) else none) (cond (x1.2.2.2.1 == v.2.2.1) (if (v.2.2.2.2.2.2.2.2.1 ++ [x1.1] : List (Ty.T (.int .i64))).length * 8 <= 140737488351232 then (κ (0, (v.1, v.2.1, v.2.2.1, v.2.2.2.1, v.2.2.2.2.1, IntKind.wrap .i64 (v.2.2.2.2.2.1 + (1 : Int)), v.2.2.2.2.2.2.1, v.2.2.2.2.2.2.2.1, v.2.2.2.2.2.2.2.2.1 ++ [x1.1], ()))) else none) (κ (0, (v.1, v.2.1, v.2.2.1, v.2.2.2.1, v.2.2.2.2.1, IntKind.wrap .i64 (v.2.2.2.2.2.1 + (1 : Int)), v.2.2.2.2.2.2.1, v.2.2.2.2.2.2.2.1, v.2.2.2.2.2.2.2.2.1, ()))))))) (none))) (none))) else none) (κ (1, (v.1, v.2.1, v.2.2.1, v.2.2.2.1, v.2.2.2.2.1, v.2.2.2.2.2.1, v.2.2.2.2.2.2.1, v.2.2.2.2.2.2.2.1, v.2.2.2.2.2.2.2.2.1, ())))
def wY (v : zI) : Option (Nat × zI) := wS v some
def Fz (v : zI) : Nat := v.1.length + v.2.1.length + v.2.2.1.toNat + v.2.2.2.1.length + v.2.2.2.2.1.toNat + v.2.2.2.2.2.1.toNat + v.2.2.2.2.2.2.1.1.length + v.2.2.2.2.2.2.1.2.1.length + v.2.2.2.2.2.2.2.2.1.length + 100
def K9 (h0 : List (Ty.T (.int .i64))) (h1 : List (Ty.T (.int .i64))) (h2 : Int) (h3 : List (Ty.T ab)) (h4 : Int) (h5 : Int) (h6 : Ty.T y36) (h7 : Ty.T y27) (h8 : List (Ty.T (.int .i64))) (c : Nat) : Bool := iK wY Fz (h0, h1, h2, h3, h4, h5, h6, h7, h8, ()) c
def OW (h0 : List (Ty.T (.int .i64))) (h1 : List (Ty.T (.int .i64))) (h2 : Int) (h3 : List (Ty.T ab)) (h4 : Int) (h5 : Int) (h6 : Ty.T y36) (h7 : Ty.T y27) (h8 : List (Ty.T (.int .i64))) : zI := iW wY Fz (h0, h1, h2, h3, h4, h5, h6, h7, h8, ())
def Vg (v : zI) : aJ (Ex × St) := bo wY (Fz v) v (ax JG Jt) [.exit 0] 0
theorem ado : bl Tryz.prog (aB (pb 5 23) (ae Tryz.f76)) JG Jt Vg := aw (lt := .none) E76.ok aj (ah.no _) fun n v K => Eq.trans (b := wS v (cW _ _ _ _ _ K)) (by kernel_rfl) (show wS v _ = (wS v some).bind _ from (bC (bI (bO fun x1 => (bC (bC rfl (bC (bC rfl (bC (bI (bC (bI rfl) rfl)) (bC (bI (bC (bI rfl) rfl)) (bC (bI rfl) rfl)))) rfl)) rfl))) rfl))
def afr := E76.l (g := 76) (t := (cv (pb 5 23) (ae Tryz.f76) .none (.sum JG Jt Vg))) (aQ Tryz.func76 (ah.put (az (by kernel_rfl)) (ah.no _) ado))
def u76 (a0 : Ty.T y36) (a1 : List (Ty.T ab)) (a2 : Ty.T y27) (a3 : List (Ty.T (.int .i64))) : Option (AV × Sig) := cond (K9 a3 [] 0 a1 ((a1).length : Int) 0 a0 a2 [] 0) (some (.one (.sl 4096), [(4096, .arr 3 (.int .i64) (OW a3 [] 0 a1 ((a1).length : Int) 0 a0 a2 []).2.2.2.2.2.2.2.2.1 false)])) (none)
def v76 (a0 : Ty.T y36) (a1 : List (Ty.T ab)) (a2 : Ty.T y27) (a3 : List (Ty.T (.int .i64))) : (List (Ty.T (.int .i64))) := cond (K9 a3 [] 0 a1 ((a1).length : Int) 0 a0 a2 [] 0) ((OW a3 [] 0 a1 ((a1).length : Int) 0 a0 a2 []).2.2.2.2.2.2.2.2.1) ([])
def d76 (a0 : Ty.T y36) (a1 : List (Ty.T ab)) (a2 : Ty.T y27) (a3 : List (Ty.T (.int .i64))) : Bool := cond (K9 a3 [] 0 a1 ((a1).length : Int) 0 a0 a2 [] 0) (true) (false)
theorem o76 (a0 : Ty.T y36) (a1 : List (Ty.T ab)) (a2 : Ty.T y27) (a3 : List (Ty.T (.int .i64))) : u76 a0 a1 a2 a3 = cond (d76 a0 a1 a2 a3) (some (f76 (v76 a0 a1 a2 a3))) none := (pC (pS _) (pN _))
def p76 : Prim := ⟨[.agg [.dat y36 true], .one (.dat (.sl 109 ab) true), .agg [.dat y27 true], .one (.dat (.sl 3 (.int .i64)) true)], fun v => .br (d76 v.1 v.2.1 v.2.2.1 v.2.2.2.1) (.done (f76 (v76 v.1 v.2.1 v.2.2.1 v.2.2.2.1))) .no⟩
theorem aeO : PO 76 p76 := pK afr fun v => Eq.trans (b := u76 v.1 v.2.1 v.2.2.1 v.2.2.2.1) (by kernel_rfl) (o76 v.1 v.2.1 v.2.2.1 v.2.2.2.1)
def f54 (r : Bool) : AV × Sig := (.one (.bool r), [])
def E54 := E0
def u54 (a0 : Ty.T y27) : Option (AV × Sig) := cond (a0.2.2.2.2.1 == (0 : Int)) (some (.one (.bool (a0.1 != (2 : Int))), [])) (some (.one (.bool false), []))
def v54 (a0 : Ty.T y27) : Bool := cond (a0.2.2.2.2.1 == (0 : Int)) ((a0.1 != (2 : Int))) (false)
theorem o54 (a0 : Ty.T y27) : u54 a0 = some (f54 (v54 a0)) := (tC rfl rfl)
def p54 : Prim := ⟨[.agg [.dat y27 true]], fun v => .done (f54 (v54 v.1))⟩
theorem YX : PO 54 p54 := pK E54 fun v => Eq.trans (b := u54 v.1) (by kernel_rfl) (o54 v.1)
def f138 (r : Int × (List (Ty.T (.int .i64)))) : AV × Sig := (.tup [(false, ([.int .i64 r.1])), (false, ([.sl 8192]))], [(8192, .arr 3 (.int .i64) r.2 false)])
def ah1 := (E0.p OZ)
def t138 (a0 : List (Ty.T (.int .i64))) (a1 : Int) {Z : Type} (κ : Int × (List (Ty.T (.int .i64))) -> Option Z) : Option Z := cond (decide (a1 < (2 : Int))) (cond (d135 a0) (κ (0, (fV a0))) (none)) (cond (((a0).length : Int) == (0 : Int)) (cond (d135 a0) (κ (0, (fV a0))) (none)) (bt ((a0)[0]?) (fun x1 => if a1 = 0 then none else (cond (decide ((Int.tmod x1 a1) < (0 : Int))) (if (1 : Int) <= ((a0).length : Int) then (cond (d135 ((a0.take ((a0).length)).drop 1)) (κ (IntKind.wrap .i64 ((Int.tmod x1 a1) + a1), (fV ((a0.take ((a0).length)).drop 1)))) (none)) else none) (if (1 : Int) <= ((a0).length : Int) then (cond (d135 ((a0.take ((a0).length)).drop 1)) (κ (Int.tmod x1 a1, (fV ((a0.take ((a0).length)).drop 1)))) (none)) else none)))))
def GK (a0 : List (Ty.T (.int .i64))) (a1 : Int) : Int × (List (Ty.T (.int .i64))) := (t138 a0 a1 some).getD (0, [])
def d138 (a0 : List (Ty.T (.int .i64))) (a1 : Int) : Bool := (t138 a0 a1 some).isSome
def afh : Prim := ⟨[.one (.dat (.sl 3 (.int .i64)) true), oI], fun v => .br (d138 v.1 v.2.1) (.done (f138 (GK v.1 v.2.1))) .no⟩
theorem acF : PO 138 afh := pK ah1 fun v => Eq.trans (b := (t138 v.1 v.2.1 (sm f138))) (by kernel_rfl) (aq (show t138 v.1 v.2.1 (sm f138) = (t138 v.1 v.2.1 some).bind _ from by unfold t138; simp only [bb]))
def IX (r : Int × Bool × (Ty.T y36) × (List (Ty.T y27)) × (List (Ty.T ab)) × (List (Ty.T (.int .i64))) × (List (Ty.T y66))) : AV × Sig := (.tup [(false, ([.int .i64 r.1])), (false, ([.bool r.2.1]))], [(4294967296, .box 165 ([.ptr 4294967297 0 0])), (4294967297, .box 169 ((y36.cells true r.2.2.1) ++ [.sl 17055744] ++ [.sl 17059840] ++ [.sl 17063936] ++ [.sl 17068032] ++ [.fnp 137 [4294967296]] ++ [.fn 139 []])), (17055744, .arr 41 y27 r.2.2.2.1 false), (17059840, .arr 109 ab r.2.2.2.2.1 false), (17063936, .arr 3 (.int .i64) r.2.2.2.2.2.1 false), (17068032, .arr 67 y66 r.2.2.2.2.2.2 false)])
def YW := (E0.p acF)
def vg (a0 : Int) (a1 : Ty.T y36) (a2 : List (Ty.T y27)) (a3 : List (Ty.T ab)) (a4 : List (Ty.T (.int .i64))) (a5 : List (Ty.T y66)) {Z : Type} (κ : Int × Bool × (Ty.T y36) × (List (Ty.T y27)) × (List (Ty.T ab)) × (List (Ty.T (.int .i64))) × (List (Ty.T y66)) -> Option Z) : Option Z := cond (d138 a4 a0) (κ ((GK a4 a0).1, true, a1, a2, a3, (GK a4 a0).2, a5)) (none)
def bG (a0 : Int) (a1 : Ty.T y36) (a2 : List (Ty.T y27)) (a3 : List (Ty.T ab)) (a4 : List (Ty.T (.int .i64))) (a5 : List (Ty.T y66)) : Int × Bool × (Ty.T y36) × (List (Ty.T y27)) × (List (Ty.T ab)) × (List (Ty.T (.int .i64))) × (List (Ty.T y66)) := (vg a0 a1 a2 a3 a4 a5 some).getD (0, false, (Ty.zero y36), [], [], [], [])
def Eg (a0 : Int) (a1 : Ty.T y36) (a2 : List (Ty.T y27)) (a3 : List (Ty.T ab)) (a4 : List (Ty.T (.int .i64))) (a5 : List (Ty.T y66)) : Bool := (vg a0 a1 a2 a3 a4 a5 some).isSome
def Yy : Gen := ⟨[false, false], [oI, .one (.ptr 4294967296 0)], [(4294967296, .box 165 [.ptr 4294967297 0]), (4294967297, .box 169 [.dat y36 true, .own 17055744, .own 17059840, .own 17063936, .own 17068032, .fnp 137 [4294967296], .fnc 139 []]), (17055744, .arr 41 y27 false), (17059840, .arr 109 ab false), (17063936, .arr 3 (.int .i64) false), (17068032, .arr 67 y66 false)], fun v => .br (Eg v.1 v.2.1 v.2.2.1 v.2.2.2.1 v.2.2.2.2.1 v.2.2.2.2.2.1) (.done (IX (bG v.1 v.2.1 v.2.2.1 v.2.2.2.1 v.2.2.2.2.1 v.2.2.2.2.2.1))) .no⟩
theorem Ui : bu Tryz.prog 137 Yy := bH YW.ok aj (az (by kernel_rfl)) ⟨Tryz.f137, ae Tryz.f137, by kernel_rfl, by kernel_rfl⟩ fun v => Eq.trans (b := (vg v.1 v.2.1 v.2.2.1 v.2.2.2.1 v.2.2.2.2.1 v.2.2.2.2.2.1 (sm IX))) (by kernel_rfl) (aq (show vg v.1 v.2.1 v.2.2.1 v.2.2.2.1 v.2.2.2.2.1 v.2.2.2.2.2.1 (sm IX) = (vg v.1 v.2.1 v.2.2.1 v.2.2.2.1 v.2.2.2.2.1 v.2.2.2.2.2.1 some).bind _ from (bC rfl rfl)))
def NR (r : Bool) : AV × Sig := (.one (.bool r), [])
def XQ := E0
def QH (a0 : Ty.T ab) (a1 : Int) : Option (AV × Sig) := some (.one (.bool (a0.1 == a1)), [])
def EM (a0 : Ty.T ab) (a1 : Int) : Bool := (a0.1 == a1)
theorem Xw (a0 : Ty.T ab) (a1 : Int) : QH a0 a1 = some (NR (EM a0 a1)) := rfl
def YH : Prim := ⟨[.agg [.dat ab true], .one (.ept (.int .i64))], fun v => .done (NR (EM v.1 v.2.1))⟩
theorem UE : PO 291 YH := pK XQ fun v => Eq.trans (b := QH v.1 v.2.1) (by kernel_rfl) (Xw v.1 v.2.1)
def NL (r : Int) : AV × Sig := (.one (.int .i64 r), [])
def QE := (E0.p UE)
@[reducible] def uw : List SP := .one (.dat (.sl 109 ab) true) :: .one (.fnc 291 [(.int .i64)]) :: U2 (oI :: U2 (oI :: oI :: U8 (U2 ([]))))
@[reducible] def iv : Type := (List (Ty.T ab)) × Int × Int × Int × Int × Unit
def lq (v : iv) {Z : Type} (κ : Nat × iv -> Option Z) : Option Z := cond (decide (v.2.2.2.2.1 < v.2.2.2.1)) (if 0 <= v.2.2.2.2.1 then (bt ((v.1)[(v.2.2.2.2.1).toNat]?) (fun x1 => cond (EM x1 v.2.1) (κ (1, (v.1, v.2.1, v.2.2.2.2.1, v.2.2.2.1, v.2.2.2.2.1, ()))) (κ (0, (v.1, v.2.1, v.2.2.1, v.2.2.2.1, IntKind.wrap .i64 (v.2.2.2.2.1 + (1 : Int)), ()))))) else none) (κ (2, (v.1, v.2.1, v.2.2.1, v.2.2.2.1, v.2.2.2.2.1, ())))
def la (v : iv) : Option (Nat × iv) := lq v some
def ny (v : iv) : Nat := v.1.length + v.2.1.toNat + v.2.2.1.toNat + v.2.2.2.1.toNat + v.2.2.2.2.1.toNat + 100
def fe (h0 : List (Ty.T ab)) (h1 : Int) (h2 : Int) (h3 : Int) (h4 : Int) (c : Nat) : Bool := iK la ny (h0, h1, h2, h3, h4, ()) c
def yI (h0 : List (Ty.T ab)) (h1 : Int) (h2 : Int) (h3 : Int) (h4 : Int) : iv := iW la ny (h0, h1, h2, h3, h4, ())
def HS (v : iv) : aJ (Ex × St) := bo la (ny v) v (ax uw au) [.ret, .exit 0] 0
theorem Q9 : bl Tryz.prog (aB (pb 3 5) (ae Tryz.f290)) uw au HS := aw (lt := .none) QE.ok aj (ah.no _) fun n v K => Eq.trans (b := lq v (cW _ _ _ _ _ K)) (by kernel_rfl) (show lq v _ = (lq v some).bind _ from (bC (bI (bO fun x1 => (bC rfl rfl))) rfl))
def UF := QE.l (g := 290) (t := (cv (pb 3 5) (ae Tryz.f290) .none (.sum uw au HS))) (aQ Tryz.func290 (ah.put (az (by kernel_rfl)) (ah.no _) Q9))
def Sz (a0 : List (Ty.T ab)) (a1_0 : Int) : Option (AV × Sig) := cond (fe a0 a1_0 0 ((a0).length : Int) 0 0) (some (.one (.int .i64 (yI a0 a1_0 0 ((a0).length : Int) 0).2.2.1), [])) (cond (fe a0 a1_0 0 ((a0).length : Int) 0 1) (some (.one (.int .i64 (-1)), [])) (none))
def s9 (a0 : List (Ty.T ab)) (a1_0 : Int) : Int := cond (fe a0 a1_0 0 ((a0).length : Int) 0 0) ((yI a0 a1_0 0 ((a0).length : Int) 0).2.2.1) (cond (fe a0 a1_0 0 ((a0).length : Int) 0 1) ((-1)) (0))
def qC (a0 : List (Ty.T ab)) (a1_0 : Int) : Bool := cond (fe a0 a1_0 0 ((a0).length : Int) 0 0) (true) (cond (fe a0 a1_0 0 ((a0).length : Int) 0 1) (true) (false))
theorem Ws (a0 : List (Ty.T ab)) (a1_0 : Int) : Sz a0 a1_0 = cond (qC a0 a1_0) (some (NL (s9 a0 a1_0))) none := (pC (pS _) (pC (pS _) (pN _)))
def Xk : Prim := ⟨[.one (.dat (.sl 109 ab) true), .one (.fnc 291 [(.int .i64)])], fun v => .br (qC v.1 v.2.1) (.done (NL (s9 v.1 v.2.1))) .no⟩
theorem TK : PO 290 Xk := pK UF fun v => Eq.trans (b := Sz v.1 v.2.1) (by kernel_rfl) (Ws v.1 v.2.1)
def f229 (r : Int) : AV × Sig := (.one (.int .i64 r), [])
def ahz := (E0.p TK)
def ZV (a0 : List (Ty.T ab)) (a1 : Int) : Option (AV × Sig) := cond (qC a0 a1) (some (.one (.int .i64 (s9 a0 a1)), [])) (none)
def As (a0 : List (Ty.T ab)) (a1 : Int) : Int := cond (qC a0 a1) ((s9 a0 a1)) (0)
def d229 (a0 : List (Ty.T ab)) (a1 : Int) : Bool := cond (qC a0 a1) (true) (false)
theorem agu (a0 : List (Ty.T ab)) (a1 : Int) : ZV a0 a1 = cond (d229 a0 a1) (some (f229 (As a0 a1))) none := (pC (pS _) (pN _))
def ahB : Prim := ⟨[.one (.dat (.sl 109 ab) true), oI], fun v => .br (d229 v.1 v.2.1) (.done (f229 (As v.1 v.2.1))) .no⟩
theorem V4 : PO 229 ahB := pK ahz fun v => Eq.trans (b := ZV v.1 v.2.1) (by kernel_rfl) (agu v.1 v.2.1)
def f192 (r : Int) : AV × Sig := (.one (.int .i64 r), [])
def aeg := E0
def acI (a0 : Int) (a1 : Int) : Option (AV × Sig) := some (.one (.int .i64 (if (if a1 < a0 then a1 else a0) > (0 : Int) then if a1 < a0 then a1 else a0 else 0)), [])
def kP (a0 : Int) (a1 : Int) : Int := if (if a1 < a0 then a1 else a0) > (0 : Int) then if a1 < a0 then a1 else a0 else 0
theorem ai8 (a0 : Int) (a1 : Int) : acI a0 a1 = some (f192 (kP a0 a1)) := rfl
def ae3 : Prim := ⟨[oI, oI], fun v => .done (f192 (kP v.1 v.2.1))⟩
theorem HR : PO 192 ae3 := pK aeg fun v => Eq.trans (b := acI v.1 v.2.1) (by kernel_rfl) (ai8 v.1 v.2.1)
def f323 (r : (Ty.T y27)) : AV × Sig := (.agg (y27.cells false r), [])
def aec := (E0.p HR)
def adx (a0 : Ty.T y27) (a1 : Int) : Option (AV × Sig) := some (.agg [.int .i64 a0.1, .int .i64 a0.2.1, .int .i64 a0.2.2.1, .int .i64 a0.2.2.2.1, .int .i64 (kP a1 2147483647), .int .i64 a0.2.2.2.2.2.1, .bool a0.2.2.2.2.2.2], [])
def HE (a0 : Ty.T y27) (a1 : Int) : (Ty.T y27) := (a0.1, a0.2.1, a0.2.2.1, a0.2.2.2.1, (kP a1 2147483647), a0.2.2.2.2.2)
theorem ae9 (a0 : Ty.T y27) (a1 : Int) : adx a0 a1 = some (f323 (HE a0 a1)) := rfl
def agJ : Prim := ⟨[.agg [.dat y27 true], oI], fun v => .done (f323 (HE v.1 v.2.1))⟩
theorem adB : PO 323 agJ := pK aec fun v => Eq.trans (b := adx v.1 v.2.1) (by kernel_rfl) (ae9 v.1 v.2.1)
def f220 (r : Int) : AV × Sig := (.one (.int .i64 r), [])
def agM := (E0.p A1)
def aau (a0 : Int) (a1 : Int) : Option (AV × Sig) := some (.one (.int .i64 (fG (IntKind.wrap .i64 ((fG a0) + (fG a1))))), [])
def MI (a0 : Int) (a1 : Int) : Int := (fG (IntKind.wrap .i64 ((fG a0) + (fG a1))))
theorem agR (a0 : Int) (a1 : Int) : aau a0 a1 = some (f220 (MI a0 a1)) := rfl
def agf : Prim := ⟨[oI, oI], fun v => .done (f220 (MI v.1 v.2.1))⟩
theorem acB : PO 220 agf := pK agM fun v => Eq.trans (b := aau v.1 v.2.1) (by kernel_rfl) (agR v.1 v.2.1)
def f338 (r : Int) : AV × Sig := (.one (.int .i64 r), [])
def ahC := (E0.p A1)
def adv (a0 : Int) : Option (AV × Sig) := some (.one (.int .i64 (fG (IntKind.wrap .i64 ((2 : Int) * (fG a0))))), [])
def Mk (a0 : Int) : Int := (fG (IntKind.wrap .i64 ((2 : Int) * (fG a0))))
theorem afz (a0 : Int) : adv a0 = some (f338 (Mk a0)) := rfl
def adZ : Prim := ⟨[oI], fun v => .done (f338 (Mk v.1))⟩
theorem acD : PO 338 adZ := pK ahC fun v => Eq.trans (b := adv v.1) (by kernel_rfl) (afz v.1)
def f339 (r : Int) : AV × Sig := (.one (.int .i64 r), [])
def air := (E0.p A1)
def aaQ (a0 : Int) : Option (AV × Sig) := some (.one (.int .i64 (IntKind.wrap .i64 ((fG a0).tdiv (2 : Int)))), [])
def L2 (a0 : Int) : Int := IntKind.wrap .i64 ((fG a0).tdiv (2 : Int))
theorem aiA (a0 : Int) : aaQ a0 = some (f339 (L2 a0)) := rfl
def agz : Prim := ⟨[oI], fun v => .done (f339 (L2 v.1))⟩
theorem abO : PO 339 agz := pK air fun v => Eq.trans (b := aaQ v.1) (by kernel_rfl) (aiA v.1)
def f324 (r : Int) : AV × Sig := (.one (.int .i64 r), [])
def adS := ((((E0.p HR).p acB).p acD).p abO)
def acU (a0 : Ty.T bm) (a1 : Int) : Option (AV × Sig) := cond (a0.1 == (1 : Int)) (some (.one (.int .i64 0), [])) (cond (a0.1 == (3 : Int)) (some (.one (.int .i64 (MI (kP a1 2147483647) a0.2.1)), [])) (cond (a0.1 == (4 : Int)) (some (.one (.int .i64 (Mk (kP a1 2147483647))), [])) (cond (a0.1 == (5 : Int)) (some (.one (.int .i64 (L2 (kP a1 2147483647))), [])) (some (.one (.int .i64 (kP a1 2147483647)), [])))))
def J5 (a0 : Ty.T bm) (a1 : Int) : Int := cond (a0.1 == (1 : Int)) (0) (cond (a0.1 == (3 : Int)) ((MI (kP a1 2147483647) a0.2.1)) (cond (a0.1 == (4 : Int)) ((Mk (kP a1 2147483647))) (cond (a0.1 == (5 : Int)) ((L2 (kP a1 2147483647))) ((kP a1 2147483647)))))
theorem aiy (a0 : Ty.T bm) (a1 : Int) : acU a0 a1 = some (f324 (J5 a0 a1)) := (tC rfl (tC rfl (tC rfl (tC rfl rfl))))
def ah2 : Prim := ⟨[.agg [.dat bm true], oI], fun v => .done (f324 (J5 v.1 v.2.1))⟩
theorem adk : PO 324 ah2 := pK adS fun v => Eq.trans (b := acU v.1 v.2.1) (by kernel_rfl) (aiy v.1 v.2.1)
def f325 (r : (List (Ty.T y27))) : AV × Sig := (.one (.sl 4096), [(4096, .arr 41 y27 r false)])
def adH := (E0.p HR)
@[reducible] def DN : List SP := U2 (.und :: .one (.ptr 3 0) :: .one (.dat (.sl 41 y27) false) :: .one (.own 8) :: U8 (.one (.dat (.sl 41 y27) true) :: oI :: oI :: U16 ([])))
@[reducible] def Dt : List (Nat × GP) := [(3, .box 41 [.dat y27 false]), (8, .arr 41 y27 false)]
@[reducible] def qt : Type := (List (Ty.T y27)) × (List (Ty.T y27)) × Int × Int × (Ty.T y27) × (List (Ty.T y27)) × Unit
def tP (v : qt) {Z : Type} (κ : Nat × qt -> Option Z) : Option Z := cond (decide (v.2.2.2.1 < v.2.2.1)) (if 0 <= v.2.2.2.1 then (bt ((v.2.1)[(v.2.2.2.1).toNat]?) (fun x1 => cond (x1.2.2.2.2.1 == (-1 : Int)) (if (v.2.2.2.2.2.1 ++ [(x1.1, x1.2.1, x1.2.2.1, x1.2.2.2.1, (kP v.2.2.2.2.1.2.2.2.2.1 2147483647), x1.2.2.2.2.2)] : List (Ty.T y27)).length * 56 <= 140737488351232 then (κ (0, (v.1, v.2.1, v.2.2.1, IntKind.wrap .i64 (v.2.2.2.1 + (1 : Int)), v.2.2.2.2.1, v.2.2.2.2.2.1 ++ [(x1.1, x1.2.1, x1.2.2.1, x1.2.2.2.1, (kP v.2.2.2.2.1.2.2.2.2.1 2147483647), x1.2.2.2.2.2)], ()))) else none) (if (v.2.2.2.2.2.1 ++ [x1] : List (Ty.T y27)).length * 56 <= 140737488351232 then (κ (0, (v.1, v.2.1, v.2.2.1, IntKind.wrap .i64 (v.2.2.2.1 + (1 : Int)), v.2.2.2.2.1, v.2.2.2.2.2.1 ++ [x1], ()))) else none))) else none) (κ (1, (v.1, v.2.1, v.2.2.1, v.2.2.2.1, v.2.2.2.2.1, v.2.2.2.2.2.1, ())))
def tD (v : qt) : Option (Nat × qt) := tP v some
def wN (v : qt) : Nat := v.1.length + v.2.1.length + v.2.2.1.toNat + v.2.2.2.1.toNat + v.2.2.2.2.2.1.length + 100
def Dv (h0 : List (Ty.T y27)) (h1 : List (Ty.T y27)) (h2 : Int) (h3 : Int) (h4 : Ty.T y27) (h5 : List (Ty.T y27)) (c : Nat) : Bool := iK tD wN (h0, h1, h2, h3, h4, h5, ()) c
def Km (h0 : List (Ty.T y27)) (h1 : List (Ty.T y27)) (h2 : Int) (h3 : Int) (h4 : Ty.T y27) (h5 : List (Ty.T y27)) : qt := iW tD wN (h0, h1, h2, h3, h4, h5, ())
def Rb (v : qt) : aJ (Ex × St) := bo tD (wN v) v (ax DN Dt) [.exit 0] 0
theorem WT : bl Tryz.prog (aB (pb 5 23) (ae Tryz.f325)) DN Dt Rb := aw (lt := .none) adH.ok aj (ah.no _) fun n v K => Eq.trans (b := tP v (cW _ _ _ _ _ K)) (by kernel_rfl) (show tP v _ = (tP v some).bind _ from (bC (bI (bO fun x1 => (bC (bI rfl) (bI rfl)))) rfl))
def acM := adH.l (g := 325) (t := (cv (pb 5 23) (ae Tryz.f325) .none (.sum DN Dt Rb))) (aQ Tryz.func325 (ah.put (az (by kernel_rfl)) (ah.no _) WT))
def ade (a0 : Ty.T bm) (a1 : Ty.T y27) : Option (AV × Sig) := cond (a0.1 != (9 : Int)) (some (.one (.sl 4096), [(4096, .arr 41 y27 [] false)])) (cond (Dv [] a0.2.2.2.2.2.2 ((a0.2.2.2.2.2.2).length : Int) 0 a1 [] 0) (some (.one (.sl 4096), [(4096, .arr 41 y27 (Km [] a0.2.2.2.2.2.2 ((a0.2.2.2.2.2.2).length : Int) 0 a1 []).2.2.2.2.2.1 false)])) (none))
def Aj (a0 : Ty.T bm) (a1 : Ty.T y27) : (List (Ty.T y27)) := cond (a0.1 != (9 : Int)) ([]) (cond (Dv [] a0.2.2.2.2.2.2 ((a0.2.2.2.2.2.2).length : Int) 0 a1 [] 0) ((Km [] a0.2.2.2.2.2.2 ((a0.2.2.2.2.2.2).length : Int) 0 a1 []).2.2.2.2.2.1) ([]))
def d325 (a0 : Ty.T bm) (a1 : Ty.T y27) : Bool := cond (a0.1 != (9 : Int)) (true) (cond (Dv [] a0.2.2.2.2.2.2 ((a0.2.2.2.2.2.2).length : Int) 0 a1 [] 0) (true) (false))
theorem agF (a0 : Ty.T bm) (a1 : Ty.T y27) : ade a0 a1 = cond (d325 a0 a1) (some (f325 (Aj a0 a1))) none := (pC (pS _) (pC (pS _) (pN _)))
def ahm : Prim := ⟨[.agg [.dat bm true], .agg [.dat y27 true]], fun v => .br (d325 v.1 v.2.1) (.done (f325 (Aj v.1 v.2.1))) .no⟩
theorem adp : PO 325 ahm := pK acM fun v => Eq.trans (b := ade v.1 v.2.1) (by kernel_rfl) (agF v.1 v.2.1)
def f287 (r : Int × (List (Ty.T y27))) : AV × Sig := (.tup [(false, ([.sl 4096])), (false, ([.int .i64 r.1]))], [(4096, .arr 41 y27 r.2 false)])
def acr := ((((E0.p HR).p adB).p adk).p adp)
@[reducible] def KO : List SP := U2 (.und :: .one (.ptr 3 0) :: .one (.dat (.sl 41 y27) false) :: oI :: .one (.ptr 6 0) :: U64 (U16 (U2 ([]))))
@[reducible] def LX : List (Nat × GP) := [(3, .box 41 [.dat y27 false]), (6, .box 107 [.dat bm true])]
@[reducible] def Cv : Type := (List (Ty.T y27)) × Int × (Ty.T y27) × (Ty.T bm) × Unit
@[reducible] def LF : List SP := U2 (.und :: .one (.ptr 3 0) :: .one (.dat (.sl 41 y27) false) :: oI :: U64 (U16 (U2 (.und :: []))))
@[reducible] def Lx : List (Nat × GP) := [(3, .box 41 [.dat y27 false])]
def Dp (v : Cv) (r : Unit) : Ex × St := (.normal, ax LF Lx (v.1, v.2.1, (v.2.2.1.1, v.2.2.1.2.1, v.2.2.2.1.2.2.1, v.2.2.2.1.2.2.2.1, v.2.2.1.2.2.2.2), ()))
def CO (v : Cv) {Z : Type} (κ : Unit -> Z) : Z := κ ()
def WV (v : Cv) : Unit := CO v id
def QG (v : Cv) : aJ (Ex × St) := .done (Dp v (WV v))
theorem W0 : aN Tryz.prog (av (pb 12 2043) (ae Tryz.f287)) KO LX QG := bq (by kernel_rfl) (sx := LF) (gx := Lx) acr.ok aj (by kernel_rfl) 2 fun v => Eq.trans (b := List.replicate 2 (CO v (sm (Dp v)))) (by kernel_rfl) (congrArg (List.replicate 2) (show CO v (sm (Dp v)) = some (Dp v (CO v id)) from rfl))
def ZC := acr.l (g := 287) (t := (aD (pb 12 2043) (ae Tryz.f287) .none (.sum KO LX QG))) (aQ Tryz.func287 (ah.b7 (az (by kernel_rfl)) (ah.no _) W0))
def eu (a0 : Ty.T ab) (a1 : Ty.T y27) := (kP (IntKind.wrap .i64 (a1.2.2.2.2.1 + a0.2.2.2.2.2.2.1.2.1)) 99)
def t287 (a0 : Ty.T ab) (a1 : Ty.T y27) {Z : Type} (κ : Int × (List (Ty.T y27)) -> Option Z) : Option Z := cond (a0.2.2.2.2.2.2.1.1 == (1 : Int)) (cond (a1.1 == (1 : Int)) (κ (a1.2.2.2.2.1, [])) (κ (0, []))) (cond (a0.2.2.2.2.2.2.1.1 == (2 : Int)) (κ ((kP a1.2.2.2.2.1 a0.2.2.2.2.2.2.2.2), [(HE a1 (IntKind.wrap .i64 (a1.2.2.2.2.1 - (kP a1.2.2.2.2.1 a0.2.2.2.2.2.2.2.2))))])) (cond (a0.2.2.2.2.2.2.1.1 == (3 : Int)) (cond (a0.2.2.2.2.2.2.1.1 == (3 : Int)) (κ (0, [(HE a1 (J5 a0.2.2.2.2.2.2.1 a1.2.2.2.2.1))])) (cond (a0.2.2.2.2.2.2.1.1 == (6 : Int)) (κ (0, [(a1.1, a1.2.1, a0.2.2.2.2.2.2.1.2.2.1, a0.2.2.2.2.2.2.1.2.2.2.1, a1.2.2.2.2)])) (cond (a0.2.2.2.2.2.2.1.1 == (7 : Int)) (cond (a0.2.2.2.2.2.2.1.2.2.2.2.1 != (2 : Int)) (κ (0, [(a1.1, a1.2.1, a1.2.2.1, a1.2.2.2.1, 0, a0.2.2.2.2.2.2.1.2.2.2.2.1, false)])) (κ (0, [(a1.1, a1.2.1, a1.2.2.1, a1.2.2.2.1, a1.2.2.2.2.1, a0.2.2.2.2.2.2.1.2.2.2.2.1, a1.2.2.2.2.2.2)]))) (cond (a0.2.2.2.2.2.2.1.1 == (8 : Int)) (cond (a1.2.2.2.2.2.1 == (2 : Int)) (cond a1.2.2.2.2.2.2 (κ (0, [(a1.1, a1.2.1, a1.2.2.1, a1.2.2.2.1, (eu a0 a1), a1.2.2.2.2.2.1, true)])) (κ (0, [(a1.1, a1.2.1, a1.2.2.1, a1.2.2.2.1, (eu a0 a1), a1.2.2.2.2.2.1, a0.2.2.2.2.2.2.1.2.2.2.2.2.1)]))) (κ (0, [a1]))) (cond (a0.2.2.2.2.2.2.1.1 == (9 : Int)) (cond (d325 a0.2.2.2.2.2.2.1 a1) (κ (0, (Aj a0.2.2.2.2.2.2.1 a1))) (none)) (κ (0, [a1]))))))) (cond (a0.2.2.2.2.2.2.1.1 == (4 : Int)) (cond (a0.2.2.2.2.2.2.1.1 == (4 : Int)) (κ (0, [(HE a1 (J5 a0.2.2.2.2.2.2.1 a1.2.2.2.2.1))])) (cond (a0.2.2.2.2.2.2.1.1 == (6 : Int)) (κ (0, [(a1.1, a1.2.1, a0.2.2.2.2.2.2.1.2.2.1, a0.2.2.2.2.2.2.1.2.2.2.1, a1.2.2.2.2)])) (cond (a0.2.2.2.2.2.2.1.1 == (7 : Int)) (cond (a0.2.2.2.2.2.2.1.2.2.2.2.1 != (2 : Int)) (κ (0, [(a1.1, a1.2.1, a1.2.2.1, a1.2.2.2.1, 0, a0.2.2.2.2.2.2.1.2.2.2.2.1, false)])) (κ (0, [(a1.1, a1.2.1, a1.2.2.1, a1.2.2.2.1, a1.2.2.2.2.1, a0.2.2.2.2.2.2.1.2.2.2.2.1, a1.2.2.2.2.2.2)]))) (cond (a0.2.2.2.2.2.2.1.1 == (8 : Int)) (cond (a1.2.2.2.2.2.1 == (2 : Int)) (cond a1.2.2.2.2.2.2 (κ (0, [(a1.1, a1.2.1, a1.2.2.1, a1.2.2.2.1, (eu a0 a1), a1.2.2.2.2.2.1, true)])) (κ (0, [(a1.1, a1.2.1, a1.2.2.1, a1.2.2.2.1, (eu a0 a1), a1.2.2.2.2.2.1, a0.2.2.2.2.2.2.1.2.2.2.2.2.1)]))) (κ (0, [a1]))) (cond (a0.2.2.2.2.2.2.1.1 == (9 : Int)) (cond (d325 a0.2.2.2.2.2.2.1 a1) (κ (0, (Aj a0.2.2.2.2.2.2.1 a1))) (none)) (κ (0, [a1]))))))) (cond (a0.2.2.2.2.2.2.1.1 == (5 : Int)) (κ (0, [(HE a1 (J5 a0.2.2.2.2.2.2.1 a1.2.2.2.2.1))])) (cond (a0.2.2.2.2.2.2.1.1 == (6 : Int)) (κ (0, [(a1.1, a1.2.1, a0.2.2.2.2.2.2.1.2.2.1, a0.2.2.2.2.2.2.1.2.2.2.1, a1.2.2.2.2)])) (cond (a0.2.2.2.2.2.2.1.1 == (7 : Int)) (cond (a0.2.2.2.2.2.2.1.2.2.2.2.1 != (2 : Int)) (κ (0, [(a1.1, a1.2.1, a1.2.2.1, a1.2.2.2.1, 0, a0.2.2.2.2.2.2.1.2.2.2.2.1, false)])) (κ (0, [(a1.1, a1.2.1, a1.2.2.1, a1.2.2.2.1, a1.2.2.2.2.1, a0.2.2.2.2.2.2.1.2.2.2.2.1, a1.2.2.2.2.2.2)]))) (cond (a0.2.2.2.2.2.2.1.1 == (8 : Int)) (cond (a1.2.2.2.2.2.1 == (2 : Int)) (cond a1.2.2.2.2.2.2 (κ (0, [(a1.1, a1.2.1, a1.2.2.1, a1.2.2.2.1, (eu a0 a1), a1.2.2.2.2.2.1, true)])) (κ (0, [(a1.1, a1.2.1, a1.2.2.1, a1.2.2.2.1, (eu a0 a1), a1.2.2.2.2.2.1, a0.2.2.2.2.2.2.1.2.2.2.2.2.1)]))) (κ (0, [a1]))) (cond (a0.2.2.2.2.2.2.1.1 == (9 : Int)) (cond (d325 a0.2.2.2.2.2.2.1 a1) (κ (0, (Aj a0.2.2.2.2.2.2.1 a1))) (none)) (κ (0, [a1]))))))))))
def fP (a0 : Ty.T ab) (a1 : Ty.T y27) : Int × (List (Ty.T y27)) := (t287 a0 a1 some).getD (0, [])
def d287 (a0 : Ty.T ab) (a1 : Ty.T y27) : Bool := (t287 a0 a1 some).isSome
def aep : Prim := ⟨[.agg [.dat ab true], .agg [.dat y27 true]], fun v => .br (d287 v.1 v.2.1) (.done (f287 (fP v.1 v.2.1))) .no⟩
theorem aaW : PO 287 aep := pK ZC fun v => Eq.trans (b := (t287 v.1 v.2.1 (sm f287))) (by kernel_rfl) (aq (show t287 v.1 v.2.1 (sm f287) = (t287 v.1 v.2.1 some).bind _ from by unfold t287; simp only [bb]))
def f219 (r : Int) : AV × Sig := (.one (.int .i64 r), [])
def afE := (E0.p A1)
def aaE (a0 : Int) (a1 : Int) : Option (AV × Sig) := some (.one (.int .i64 (fG (IntKind.wrap .i64 ((fG a0) - (fG a1))))), [])
def Qn (a0 : Int) (a1 : Int) : Int := (fG (IntKind.wrap .i64 ((fG a0) - (fG a1))))
theorem aiz (a0 : Int) (a1 : Int) : aaE a0 a1 = some (f219 (Qn a0 a1)) := rfl
def ahK : Prim := ⟨[oI, oI], fun v => .done (f219 (Qn v.1 v.2.1))⟩
theorem adg : PO 219 ahK := pK afE fun v => Eq.trans (b := aaE v.1 v.2.1) (by kernel_rfl) (aiz v.1 v.2.1)
def f289 (r : (Ty.T q0) × (Ty.T aT) × (List (Ty.T y27))) : AV × Sig := (.agg ((q0.cells false r.1) ++ [.sl 81920] ++ (aT.cells false r.2.1)), [(81920, .arr 41 y27 r.2.2 false)])
def adT := (((E0.p HR).p adg).p KJ)
def t289 (a0 : Ty.T ab) (a1 : Int) {Z : Type} (κ : (Ty.T q0) × (Ty.T aT) × (List (Ty.T y27)) -> Option Z) : Option Z := cond (d226 a0) (cond ((cy a0).1.2.2.2.2.2.2.1 == (2 : Int)) (κ ((cy a0).1, ((cy a0).2.1.1, (kP (Qn (cy a0).2.1.2 a1) 2147483647)), (cy a0).2.2)) (cond (decide ((cy a0).2.1.2 > (0 : Int))) (κ ((cy a0).1, ((cy a0).2.1.1, IntKind.wrap .i64 ((cy a0).2.1.2 - (1 : Int))), (cy a0).2.2)) (κ ((cy a0).1, (cy a0).2.1, (cy a0).2.2)))) (none)
def Md (a0 : Ty.T ab) (a1 : Int) : (Ty.T q0) × (Ty.T aT) × (List (Ty.T y27)) := (t289 a0 a1 some).getD ((Ty.zero q0), (Ty.zero aT), [])
def d289 (a0 : Ty.T ab) (a1 : Int) : Bool := (t289 a0 a1 some).isSome
def aiV : Prim := ⟨[.agg [.dat ab true], oI], fun v => .br (d289 v.1 v.2.1) (.done (f289 (Md v.1 v.2.1))) .no⟩
theorem adj : PO 289 aiV := pK adT fun v => Eq.trans (b := (t289 v.1 v.2.1 (sm f289))) (by kernel_rfl) (aq (show t289 v.1 v.2.1 (sm f289) = (t289 v.1 v.2.1 some).bind _ from (bC (bC rfl (bC rfl rfl)) rfl)))
def f288 (r : Bool) : AV × Sig := (.one (.bool r), [])
def aid := ((E0.p Gz).p YX)
def aaH (a0 : Ty.T y27) : Option (AV × Sig) := cond (!(v53 a0)) (some (.one (.bool true), [])) (some (.one (.bool (v54 a0)), []))
def gM (a0 : Ty.T y27) : Bool := cond (!(v53 a0)) (true) ((v54 a0))
theorem agU (a0 : Ty.T y27) : aaH a0 = some (f288 (gM a0)) := (tC rfl rfl)
def aiu : Prim := ⟨[.agg [.dat y27 true]], fun v => .done (f288 (gM v.1))⟩
theorem Vn : PO 288 aiu := pK aid fun v => Eq.trans (b := aaH v.1) (by kernel_rfl) (agU v.1)
def PZ (r : Int) : AV × Sig := (.one (.int .i64 r), [])
def O3 := (E0.p Vn)
@[reducible] def vo : List SP := .one (.dat (.sl 41 y27) true) :: .one (.fnc 288 []) :: U2 (oI :: U2 (oI :: oI :: U8 (U2 ([]))))
def kB (v : cD) {Z : Type} (κ : Nat × cD -> Option Z) : Option Z := cond (decide (v.2.2.2.1 < v.2.2.1)) (if 0 <= v.2.2.2.1 then (bt ((v.1)[(v.2.2.2.1).toNat]?) (fun x1 => cond (gM x1) (κ (1, (v.1, v.2.2.2.1, v.2.2.1, v.2.2.2.1, ()))) (κ (0, (v.1, v.2.1, v.2.2.1, IntKind.wrap .i64 (v.2.2.2.1 + (1 : Int)), ()))))) else none) (κ (2, (v.1, v.2.1, v.2.2.1, v.2.2.2.1, ())))
def kG (v : cD) : Option (Nat × cD) := kB v some
def nQ (v : cD) : Nat := v.1.length + v.2.1.toNat + v.2.2.1.toNat + v.2.2.2.1.toNat + 100
def fm (h0 : List (Ty.T y27)) (h1 : Int) (h2 : Int) (h3 : Int) (c : Nat) : Bool := iK kG nQ (h0, h1, h2, h3, ()) c
def ym (h0 : List (Ty.T y27)) (h1 : Int) (h2 : Int) (h3 : Int) : cD := iW kG nQ (h0, h1, h2, h3, ())
def Hx (v : cD) : aJ (Ex × St) := bo kG (nQ v) v (ax vo au) [.ret, .exit 0] 0
theorem P7 : bl Tryz.prog (aB (pb 3 5) (ae Tryz.f249)) vo au Hx := aw (lt := .none) O3.ok aj (ah.no _) fun n v K => Eq.trans (b := kB v (cW _ _ _ _ _ K)) (by kernel_rfl) (show kB v _ = (kB v some).bind _ from (bC (bI (bO fun x1 => (bC rfl rfl))) rfl))
def UJ := O3.l (g := 249) (t := (cv (pb 3 5) (ae Tryz.f249) .none (.sum vo au Hx))) (aQ Tryz.func249 (ah.put (az (by kernel_rfl)) (ah.no _) P7))
def Ra (a0 : List (Ty.T y27)) : Option (AV × Sig) := cond (fm a0 0 ((a0).length : Int) 0 0) (some (.one (.int .i64 (ym a0 0 ((a0).length : Int) 0).2.1), [])) (cond (fm a0 0 ((a0).length : Int) 0 1) (some (.one (.int .i64 (-1)), [])) (none))
def bw (a0 : List (Ty.T y27)) : Int := cond (fm a0 0 ((a0).length : Int) 0 0) ((ym a0 0 ((a0).length : Int) 0).2.1) (cond (fm a0 0 ((a0).length : Int) 0 1) ((-1)) (0))
def y9 (a0 : List (Ty.T y27)) : Bool := cond (fm a0 0 ((a0).length : Int) 0 0) (true) (cond (fm a0 0 ((a0).length : Int) 0 1) (true) (false))
theorem Yt (a0 : List (Ty.T y27)) : Ra a0 = cond (y9 a0) (some (PZ (bw a0))) none := (pC (pS _) (pC (pS _) (pN _)))
def Xs : Prim := ⟨[.one (.dat (.sl 41 y27) true), .one (.fnc 288 [])], fun v => .br (y9 v.1) (.done (PZ (bw v.1))) .no⟩
theorem U6 : PO 249 Xs := pK UJ fun v => Eq.trans (b := Ra v.1) (by kernel_rfl) (Yt v.1)
def Iq (r : (List (Ty.T y27))) : AV × Sig := (.one (.sl 33554432), [(33554432, .arr 41 y27 r false)])
def Pl := ((E0.p U6).p Vn)
@[reducible] def te : List SP := .one (.own 41943040) :: .one (.fnc 288 []) :: U2 (.one (.dat (.sl 41 y27) false) :: oI :: oI :: U32 (U2 (.und :: [])))
@[reducible] def uL : List (Nat × GP) := [(41943040, .arr 41 y27 false)]
@[reducible] def jn : Type := (List (Ty.T y27)) × Int × Int × (List (Ty.T y27)) × Unit
def iC (v : jn) {Z : Type} (κ : Nat × jn -> Option Z) : Option Z := cond (decide (v.2.2.1 < ((v.2.2.2.1).length : Int))) (if 0 <= v.2.2.1 then (if v.2.2.1 < ((v.2.2.2.1).length : Int) then (bt ((v.2.2.2.1)[(v.2.2.1).toNat]?) (fun x1 => cond (!(gM x1)) (if 0 <= v.2.1 then (if v.2.1 < ((v.2.2.2.1).length : Int) then (bt ((v.2.2.2.1)[(v.2.1).toNat]?) (fun x2 => κ (0, (v.1, IntKind.wrap .i64 (v.2.1 + (1 : Int)), IntKind.wrap .i64 (v.2.2.1 + (1 : Int)), v.2.2.2.1.set ((v.2.1).toNat) x1, ())))) else none) else none) (κ (0, (v.1, v.2.1, IntKind.wrap .i64 (v.2.2.1 + (1 : Int)), v.2.2.2.1, ()))))) else none) else none) (κ (1, (v.1, v.2.1, v.2.2.1, v.2.2.2.1, ())))
def jr (v : jn) : Option (Nat × jn) := iC v some
def nL (v : jn) : Nat := v.1.length + v.2.1.toNat + v.2.2.1.toNat + v.2.2.2.1.length + 100
def Gt (h0 : List (Ty.T y27)) (h1 : Int) (h2 : Int) (h3 : List (Ty.T y27)) (c : Nat) : Bool := iK jr nL (h0, h1, h2, h3, ()) c
def cg (h0 : List (Ty.T y27)) (h1 : Int) (h2 : Int) (h3 : List (Ty.T y27)) : jn := iW jr nL (h0, h1, h2, h3, ())
def GQ (v : jn) : aJ (Ex × St) := bo jr (nL v) v (ax te uL) [.exit 0] 0
theorem Q4 : bl Tryz.prog (aB (pb 5 23) (ae Tryz.f176)) te uL GQ := aw (lt := .none) Pl.ok aj (ah.no _) fun n v K => Eq.trans (b := iC v (cW _ _ _ _ _ K)) (by kernel_rfl) (show iC v _ = (iC v some).bind _ from (bC (bI (bI (bO fun x1 => (bC (bI (bI (bO fun x2 => rfl))) rfl)))) rfl))
def Ut := Pl.l (g := 176) (t := (cv (pb 5 23) (ae Tryz.f176) .none (.sum te uL GQ))) (aQ Tryz.func176 (ah.put (az (by kernel_rfl)) (ah.no _) Q4))
def qj (a0 : List (Ty.T y27)) {Z : Type} (κ : (List (Ty.T y27)) -> Option Z) : Option Z := cond (y9 a0) (cond ((bw a0) == (-1 : Int)) (κ a0) (cond (Gt [] (bw a0) (IntKind.wrap .i64 ((bw a0) + (1 : Int))) a0 0) (if 0 <= (cg [] (bw a0) (IntKind.wrap .i64 ((bw a0) + (1 : Int))) a0).2.1 then (if (cg [] (bw a0) (IntKind.wrap .i64 ((bw a0) + (1 : Int))) a0).2.1 <= (((cg [] (bw a0) (IntKind.wrap .i64 ((bw a0) + (1 : Int))) a0).2.2.2.1).length : Int) then (if 0 <= (cg [] (bw a0) (IntKind.wrap .i64 ((bw a0) + (1 : Int))) a0).2.1 then (if (cg [] (bw a0) (IntKind.wrap .i64 ((bw a0) + (1 : Int))) a0).2.1 <= (((cg [] (bw a0) (IntKind.wrap .i64 ((bw a0) + (1 : Int))) a0).2.2.2.1.take (((cg [] (bw a0) (IntKind.wrap .i64 ((bw a0) + (1 : Int))) a0).2.1).toNat) ++ List.replicate (((cg [] (bw a0) (IntKind.wrap .i64 ((bw a0) + (1 : Int))) a0).2.2.2.1).length - ((cg [] (bw a0) (IntKind.wrap .i64 ((bw a0) + (1 : Int))) a0).2.1).toNat) ((0, 0, 0, 0, 0, 0, false) : Ty.T y27) ++ (cg [] (bw a0) (IntKind.wrap .i64 ((bw a0) + (1 : Int))) a0).2.2.2.1.drop (((cg [] (bw a0) (IntKind.wrap .i64 ((bw a0) + (1 : Int))) a0).2.1).toNat + (((cg [] (bw a0) (IntKind.wrap .i64 ((bw a0) + (1 : Int))) a0).2.2.2.1).length - ((cg [] (bw a0) (IntKind.wrap .i64 ((bw a0) + (1 : Int))) a0).2.1).toNat))).length : Int) then (κ (((cg [] (bw a0) (IntKind.wrap .i64 ((bw a0) + (1 : Int))) a0).2.2.2.1.take (((cg [] (bw a0) (IntKind.wrap .i64 ((bw a0) + (1 : Int))) a0).2.1).toNat) ++ List.replicate (((cg [] (bw a0) (IntKind.wrap .i64 ((bw a0) + (1 : Int))) a0).2.2.2.1).length - ((cg [] (bw a0) (IntKind.wrap .i64 ((bw a0) + (1 : Int))) a0).2.1).toNat) ((0, 0, 0, 0, 0, 0, false) : Ty.T y27) ++ (cg [] (bw a0) (IntKind.wrap .i64 ((bw a0) + (1 : Int))) a0).2.2.2.1.drop (((cg [] (bw a0) (IntKind.wrap .i64 ((bw a0) + (1 : Int))) a0).2.1).toNat + (((cg [] (bw a0) (IntKind.wrap .i64 ((bw a0) + (1 : Int))) a0).2.2.2.1).length - ((cg [] (bw a0) (IntKind.wrap .i64 ((bw a0) + (1 : Int))) a0).2.1).toNat))).take (((cg [] (bw a0) (IntKind.wrap .i64 ((bw a0) + (1 : Int))) a0).2.1).toNat))) else none) else none) else none) else none) (none))) (none)
def Ah (a0 : List (Ty.T y27)) : (List (Ty.T y27)) := (qj a0 some).getD []
def zg (a0 : List (Ty.T y27)) : Bool := (qj a0 some).isSome
def Xc : Gen := ⟨[true, false], [.one (.own 41943040), .one (.fnc 288 [])], [(41943040, .arr 41 y27 false)], fun v => .br (zg v.1) (.done (Iq (Ah v.1))) .no⟩
theorem Uy : bu Tryz.prog 176 Xc := bH Ut.ok aj (az (by kernel_rfl)) ⟨Tryz.f176, ae Tryz.f176, by kernel_rfl, by kernel_rfl⟩ fun v => Eq.trans (b := (qj v.1 (sm Iq))) (by kernel_rfl) (aq (show qj v.1 (sm Iq) = (qj v.1 some).bind _ from (bC (bC rfl (bC (bI (bI (bI (bI rfl)))) rfl)) rfl)))
def f228 (r : Int × (Ty.T q0) × (Ty.T aT) × (List (Ty.T y27)) × (List (Ty.T y27))) : AV × Sig := (.tup [(false, ([.sl 4096])), (false, ([.int .i64 r.1])), (true, ((q0.cells false r.2.1) ++ [.sl 90112] ++ (aT.cells false r.2.2.1)))], [(4096, .arr 41 y27 r.2.2.2.1 false), (90112, .arr 41 y27 r.2.2.2.2 false)])
def afN := (((((((E0.g Uy).p KJ).p O5).p V2).p aaW).p adj).p Gz)
def t228 (a0 : Ty.T ab) (a1 : Ty.T y27) {Z : Type} (κ : Int × (Ty.T q0) × (Ty.T aT) × (List (Ty.T y27)) × (List (Ty.T y27)) -> Option Z) : Option Z := cond (d227 a0) (cond (!(Am a0)) (cond (d226 a0) (κ (0, (cy a0).1, (cy a0).2.1, [a1], (cy a0).2.2)) (none)) (cond (!(v53 a1)) (cond (d226 a0) (κ (0, (cy a0).1, (cy a0).2.1, [a1], (cy a0).2.2)) (none)) (cond (!(CQ a0.2.2.2.2.2.2.1 a1.1)) (cond (d226 a0) (κ (0, (cy a0).1, (cy a0).2.1, [a1], (cy a0).2.2)) (none)) (cond (d287 a0 a1) (cond (zg (fP a0 a1).2) (cond (d289 a0 (fP a0 a1).1) (κ ((fP a0 a1).1, (Md a0 (fP a0 a1).1).1, (Md a0 (fP a0 a1).1).2.1, (Ah (fP a0 a1).2), (Md a0 (fP a0 a1).1).2.2)) (none)) (none)) (none))))) (none)
def du (a0 : Ty.T ab) (a1 : Ty.T y27) : Int × (Ty.T q0) × (Ty.T aT) × (List (Ty.T y27)) × (List (Ty.T y27)) := (t228 a0 a1 some).getD (0, (Ty.zero q0), (Ty.zero aT), [], [])
def d228 (a0 : Ty.T ab) (a1 : Ty.T y27) : Bool := (t228 a0 a1 some).isSome
def ahp : Prim := ⟨[.agg [.dat ab true], .agg [.dat y27 true]], fun v => .br (d228 v.1 v.2.1) (.done (f228 (du v.1 v.2.1))) .no⟩
theorem Zm : PO 228 ahp := pK afN fun v => Eq.trans (b := (t228 v.1 v.2.1 (sm f228))) (by kernel_rfl) (aq (show t228 v.1 v.2.1 (sm f228) = (t228 v.1 v.2.1 some).bind _ from by unfold t228; simp only [bb]))
def f230 (r : Int) : AV × Sig := (.one (.int .i64 r), [])
def aeo := (E0.p Vs)
def abp (a0 : Ty.T y36) (a1 : Ty.T y27) : Option (AV × Sig) := cond (d292 a0 a1) (cond ((vk a0 a1) != (-1 : Int)) (some (.one (.int .i64 (vk a0 a1)), [])) (some (.one (.int .i64 a0.2.2.1), []))) (none)
def SC (a0 : Ty.T y36) (a1 : Ty.T y27) : Int := cond (d292 a0 a1) (cond ((vk a0 a1) != (-1 : Int)) ((vk a0 a1)) (a0.2.2.1)) (0)
def d230 (a0 : Ty.T y36) (a1 : Ty.T y27) : Bool := cond (d292 a0 a1) (cond ((vk a0 a1) != (-1 : Int)) (true) (true)) (false)
theorem aif (a0 : Ty.T y36) (a1 : Ty.T y27) : abp a0 a1 = cond (d230 a0 a1) (some (f230 (SC a0 a1))) none := (pC (pC (pS _) (pS _)) (pN _))
def ain : Prim := ⟨[.agg [.dat y36 true], .agg [.dat y27 true]], fun v => .br (d230 v.1 v.2.1) (.done (f230 (SC v.1 v.2.1))) .no⟩
theorem acs : PO 230 ain := pK aeo fun v => Eq.trans (b := abp v.1 v.2.1) (by kernel_rfl) (aif v.1 v.2.1)
def f139 (r : Bool) : AV × Sig := (.one (.bool r), [])
def ad0 := E0
def Zc (a0 : Ty.T y66) : Option (AV × Sig) := some (.one (.bool true), [])
def Vb (a0 : Ty.T y66) : Bool := true
theorem ahq (a0 : Ty.T y66) : Zc a0 = some (f139 (Vb a0)) := rfl
def ahW : Prim := ⟨[.agg [.dat y66 true]], fun v => .done (f139 (Vb v.1))⟩
theorem Z5 : PO 139 ahW := pK ad0 fun v => Eq.trans (b := Zc v.1) (by kernel_rfl) (ahq v.1)
def f231 (r : (List (Ty.T ab))) : AV × Sig := (.one (.sl 4096), [(4096, .arr 109 ab r false)])
def ajo := (((E0.p Wf).p KJ).p V4)
def t231 (a0 : List (Ty.T ab)) (a1 : Ty.T ab) {Z : Type} (κ : (List (Ty.T ab)) -> Option Z) : Option Z := cond (d134 a0) (cond (d229 a0 a1.1) (cond (decide ((As a0 a1.1) ≥ (0 : Int))) (cond (d226 a1) (if 0 <= (As a0 a1.1) then (if (As a0 a1.1) < (((nu a0)).length : Int) then (bt (((nu a0))[(As a0 a1.1).toNat]?) (fun x1 => κ ((nu a0).set ((As a0 a1.1).toNat) ((cy a1).1.1, (cy a1).1.2.1, (cy a1).1.2.2.1, (cy a1).1.2.2.2.1, (cy a1).1.2.2.2.2.1, (cy a1).1.2.2.2.2.2.1, ((cy a1).1.2.2.2.2.2.2.1, (cy a1).1.2.2.2.2.2.2.2.1, (cy a1).1.2.2.2.2.2.2.2.2.1, (cy a1).1.2.2.2.2.2.2.2.2.2.1, (cy a1).1.2.2.2.2.2.2.2.2.2.2.1, (cy a1).1.2.2.2.2.2.2.2.2.2.2.2, (cy a1).2.2), (cy a1).2.1)))) else none) else none) (none)) (κ (nu a0))) (none)) (none)
def Uv (a0 : List (Ty.T ab)) (a1 : Ty.T ab) : (List (Ty.T ab)) := (t231 a0 a1 some).getD []
def d231 (a0 : List (Ty.T ab)) (a1 : Ty.T ab) : Bool := (t231 a0 a1 some).isSome
def aem : Prim := ⟨[.one (.dat (.sl 109 ab) true), .agg [.dat ab true]], fun v => .br (d231 v.1 v.2.1) (.done (f231 (Uv v.1 v.2.1))) .no⟩
theorem ab2 : PO 231 aem := pK ajo fun v => Eq.trans (b := (t231 v.1 v.2.1 (sm f231))) (by kernel_rfl) (aq (show t231 v.1 v.2.1 (sm f231) = (t231 v.1 v.2.1 some).bind _ from by unfold t231; simp only [bb]))
@[reducible] def bD : Type := Ty.T y27 -> List (Ty.T (.int .i64)) -> Ty.T y36 -> List (Ty.T y27) -> List (Ty.T ab) -> List (Ty.T (.int .i64)) -> List (Ty.T y66) -> Bool × (Bool × (Ty.T y36) × (List (Ty.T y27)) × (List (Ty.T ab)) × (List (Ty.T (.int .i64))) × (List (Ty.T y66)))
def Er (r : Bool × (Ty.T y36) × (List (Ty.T y27)) × (List (Ty.T ab)) × (List (Ty.T (.int .i64))) × (List (Ty.T y66))) : AV × Sig := (.one (.bool r.1), [(4294967296, .box 169 ((y36.cells true r.2.1) ++ [.sl 16793600] ++ [.sl 16797696] ++ [.sl 16801792] ++ [.sl 16805888] ++ [.fnp 137 [4294967297]] ++ [.fn 139 []])), (4294967297, .box 165 ([.ptr 4294967296 0 0])), (16793600, .arr 41 y27 r.2.2.1 false), (16797696, .arr 109 ab r.2.2.2.1 false), (16801792, .arr 3 (.int .i64) r.2.2.2.2.1 false), (16805888, .arr 67 y66 r.2.2.2.2.2 false)])
def gW (R : bD) : Gen := ⟨[false, false, false], [.one (.ptr 4294967296 0), .agg [.dat y27 false], .one (.dat (.sl 3 (.int .i64)) false)], [(4294967296, .box 169 [.dat y36 true, .own 16793600, .own 16797696, .own 16801792, .own 16805888, .fnp 137 [4294967297], .fnc 139 []]), (4294967297, .box 165 [.ptr 4294967296 0]), (16793600, .arr 41 y27 false), (16797696, .arr 109 ab false), (16801792, .arr 3 (.int .i64) false), (16805888, .arr 67 y66 false)], fun v => .br (R v.1 v.2.1 v.2.2.1 v.2.2.2.1 v.2.2.2.2.1 v.2.2.2.2.2.1 v.2.2.2.2.2.2.1).1 (.done (Er (R v.1 v.2.1 v.2.2.1 v.2.2.2.1 v.2.2.2.2.1 v.2.2.2.2.2.1 v.2.2.2.2.2.2.1).2)) .no⟩
def zO (R : bD) (h : bu Tryz.prog 140 (gW R)) : eE Tryz.prog := ((((((((((E0.g Ui).p OZ).p Z5).p Zm).p V4).p acs).p ab2).p YX).p aeO).g h)
@[reducible] def ij : List SP := .one (.ptr 4294967296 0) :: .und :: .one (.dat (.sl 3 (.int .i64)) false) :: .und :: .one (.ptr 4 0) :: .und :: .one (.dat .bool true) :: .one (.own 4124) :: U64 (U64 (U8 (U2 ([]))))
@[reducible] def eT : List (Nat × GP) := [(4294967296, .box 169 [.dat y36 true, .own 16793600, .own 16797696, .own 16801792, .own 16805888, .fnp 137 [4294967297], .fnc 139 []]), (4, .box 41 [.dat y27 false]), (4294967297, .box 165 [.ptr 4294967296 0]), (4124, .arr 3 (.int .i64) false), (16793600, .arr 41 y27 false), (16797696, .arr 109 ab false), (16801792, .arr 3 (.int .i64) false), (16805888, .arr 67 y66 false)]
@[reducible] def nk : Type := (List (Ty.T (.int .i64))) × Bool × (Ty.T y36) × (Ty.T y27) × (List (Ty.T (.int .i64))) × (List (Ty.T y27)) × (List (Ty.T ab)) × (List (Ty.T (.int .i64))) × (List (Ty.T y66)) × Unit
def xp (R : bD) (v : nk) (r : Unit) : Ex × St := (.normal, ax ij eT (v.1, v.2.1, v.2.2.1, v.2.2.2.1, v.2.2.2.2.1, v.2.2.2.2.2.1 ++ [v.2.2.2.1], v.2.2.2.2.2.2.1, v.2.2.2.2.2.2.2.1, v.2.2.2.2.2.2.2.2.1, ()))
def iw (R : bD) (v : nk) {Z : Type} (κ : Unit -> Option Z) : Option Z := if (v.2.2.2.2.2.1 ++ [v.2.2.2.1] : List (Ty.T y27)).length * 56 <= 140737488351232 then (κ ()) else none
def Rs (R : bD) (v : nk) : Unit := (iw R v some).getD ()
def sn (R : bD) (v : nk) : Bool := (iw R v some).isSome
def HV (R : bD) (v : nk) : aJ (Ex × St) := .br (sn R v) (.done (xp R v (Rs R v))) .no
theorem OK (R : bD) (h : bu Tryz.prog 140 (gW R)) : aN Tryz.prog (av [false] (av (pb 7 75) (ae Tryz.f140))) ij eT (HV R) := bq (by kernel_rfl) (sx := ij) (gx := eT) (zO R h).ok aj (by kernel_rfl) 1 fun v => Eq.trans (b := List.replicate 1 (iw R v (sm (xp R v)))) (by kernel_rfl) (congrArg (List.replicate 1) (aq (show iw R v (sm (xp R v)) = (iw R v some).bind _ from (bI rfl))))
@[reducible] def B3 : List SP := .one (.ptr 4294967296 0) :: .und :: .one (.dat (.sl 3 (.int .i64)) false) :: .und :: .one (.ptr 4 0) :: .und :: .one (.dat .bool true) :: .one (.own 4124) :: U16 (U8 (U2 (.one (.dat .bool true) :: U64 (U32 (U8 (U4 (U2 (.und :: []))))))))
@[reducible] def mX : Type := (List (Ty.T (.int .i64))) × Bool × Bool × (Ty.T y36) × (Ty.T y27) × (List (Ty.T (.int .i64))) × (List (Ty.T y27)) × (List (Ty.T ab)) × (List (Ty.T (.int .i64))) × (List (Ty.T y66)) × Unit
def yL (R : bD) (v : mX) (r : (List (Ty.T y27))) : Ex × St := (.normal, ax ij eT (v.1, v.2.1, v.2.2.2.1, v.2.2.2.2.1, v.2.2.2.2.2.1, r, v.2.2.2.2.2.2.2.1, v.2.2.2.2.2.2.2.2.1, v.2.2.2.2.2.2.2.2.2.1, ()))
def jD (R : bD) (v : mX) {Z : Type} (κ : (List (Ty.T y27)) -> Option Z) : Option Z := cond v.2.2.1 (cond (sn R (v.1, v.2.1, v.2.2.2.1, v.2.2.2.2.1, v.2.2.2.2.2.1, v.2.2.2.2.2.2.1, v.2.2.2.2.2.2.2.1, v.2.2.2.2.2.2.2.2.1, v.2.2.2.2.2.2.2.2.2.1, ())) (κ (v.2.2.2.2.2.2.1 ++ [v.2.2.2.2.1])) (none)) (κ v.2.2.2.2.2.2.1)
def ry (R : bD) (v : mX) : (List (Ty.T y27)) := (jD R v some).getD []
def rl (R : bD) (v : mX) : Bool := (jD R v some).isSome
def G8 (R : bD) (v : mX) : aJ (Ex × St) := .br (rl R v) (.done (yL R v (ry R v))) .no
theorem OY (R : bD) (h : bu Tryz.prog 140 (gW R)) : aN Tryz.prog (av (pb 7 75) (ae Tryz.f140)) B3 eT (G8 R) := aI (lt := (aD [false] (av (pb 7 75) (ae Tryz.f140)) .none (.sum ij eT (HV R)))) (sx := ij) (gx := eT) (zO R h).ok aj (ah.b7 (az (by kernel_rfl)) (ah.no _) (OK R h)) fun v => Eq.trans (b := jD R v (sm (yL R v))) (by kernel_rfl) (aq (show jD R v (sm (yL R v)) = (jD R v some).bind _ from (bC (bC rfl rfl) rfl)))
@[reducible] def BE : List SP := .one (.ptr 4294967296 0) :: .und :: .one (.dat (.sl 3 (.int .i64)) false) :: U2 (.und :: .one (.dat .bool true) :: U2 (.und :: oI :: .one (.own 4175) :: U2 (.one (.ptr 14 0) :: U64 (U64 (U2 (.und :: []))))))
@[reducible] def B1 : List (Nat × GP) := [(4294967296, .box 169 [.dat y36 true, .own 16793600, .own 4209, .own 16801792, .own 16805888, .fnp 137 [4294967297], .fnc 139 []]), (14, .box 67 [.dat q1 false, .own 4175, .dat aT false]), (4294967297, .box 165 [.ptr 4294967296 0]), (4175, .arr 41 y27 false), (4209, .arr 109 ab false), (16793600, .arr 41 y27 false), (16801792, .arr 3 (.int .i64) false), (16805888, .arr 67 y66 false)]
@[reducible] def nh : Type := (List (Ty.T (.int .i64))) × Bool × Int × (Ty.T y36) × (Ty.T q1) × (Ty.T aT) × (List (Ty.T y27)) × (List (Ty.T ab)) × (List (Ty.T y27)) × (List (Ty.T (.int .i64))) × (List (Ty.T y66)) × Unit
@[reducible] def BL : List SP := .one (.ptr 4294967296 0) :: .und :: .one (.dat (.sl 3 (.int .i64)) false) :: U2 (.und :: .one (.dat .bool true) :: U2 (.und :: oI :: .one (.dat (.sl 41 y27) false) :: U64 (U64 (U4 (U2 ([]))))))
@[reducible] def kU : List (Nat × GP) := [(4294967296, .box 169 [.dat y36 true, .own 16793600, .own 4209, .own 16801792, .own 16805888, .fnp 137 [4294967297], .fnc 139 []]), (4294967297, .box 165 [.ptr 4294967296 0]), (4209, .arr 109 ab false), (16793600, .arr 41 y27 false), (16801792, .arr 3 (.int .i64) false), (16805888, .arr 67 y66 false)]
def xw (R : bD) (v : nh) (r : Unit) : Ex × St := (.normal, ax BL kU (v.1, v.2.1, v.2.2.1, v.2.2.2.2.2.2.1, v.2.2.2.1, v.2.2.2.2.2.2.2.1, v.2.2.2.2.2.2.2.2.1, v.2.2.2.2.2.2.2.2.2.1, v.2.2.2.2.2.2.2.2.2.2.1 ++ [(v.2.2.2.2.1.1, v.2.2.2.2.1.2.1, v.2.2.2.2.1.2.2.1, v.2.2.2.2.1.2.2.2.1, v.2.2.2.2.1.2.2.2.2, v.2.2.2.2.2.2.1, v.2.2.2.2.2.1)], ()))
def kY (R : bD) (v : nh) {Z : Type} (κ : Unit -> Option Z) : Option Z := if (v.2.2.2.2.2.2.2.2.2.2.1 ++ [(v.2.2.2.2.1.1, v.2.2.2.2.1.2.1, v.2.2.2.2.1.2.2.1, v.2.2.2.2.1.2.2.2.1, v.2.2.2.2.1.2.2.2.2, v.2.2.2.2.2.2.1, v.2.2.2.2.2.1)] : List (Ty.T y66)).length * 128 <= 140737488351232 then (κ ()) else none
def Pg (R : bD) (v : nh) : Unit := (kY R v some).getD ()
def zA (R : bD) (v : nh) : Bool := (kY R v some).isSome
def FR (R : bD) (v : nh) : aJ (Ex × St) := .br (zA R v) (.done (xw R v (Pg R v))) .no
theorem Pn (R : bD) (h : bu Tryz.prog 140 (gW R)) : aN Tryz.prog (av (pb 11 1023) (ae Tryz.f140)) BE B1 (FR R) := bq (by kernel_rfl) (sx := BL) (gx := kU) (zO R h).ok aj (by kernel_rfl) 2 fun v => Eq.trans (b := List.replicate 2 (kY R v (sm (xw R v)))) (by kernel_rfl) (congrArg (List.replicate 2) (aq (show kY R v (sm (xw R v)) = (kY R v some).bind _ from (bI rfl))))
@[reducible] def vu : List SP := .one (.ptr 4294967296 0) :: .und :: .one (.dat (.sl 3 (.int .i64)) false) :: U2 (.und :: .one (.dat .bool true) :: U64 (U32 (U16 (U8 (U4 (U2 (.und :: .one (.dat (.sl 41 y27) false) :: oI :: oI :: U8 (.und :: []))))))))
@[reducible] def jq : Type := (List (Ty.T (.int .i64))) × Bool × (List (Ty.T y27)) × Int × Int × (Ty.T y36) × (List (Ty.T ab)) × (List (Ty.T y27)) × (List (Ty.T (.int .i64))) × (List (Ty.T y66)) × Unit
def kF (R : bD) (v : jq) {Z : Type} (κ : Nat × jq -> Option Z) : Option Z := cond (decide (v.2.2.2.2.1 < v.2.2.2.1)) (if 0 <= v.2.2.2.2.1 then (bt ((v.2.2.1)[(v.2.2.2.2.1).toNat]?) (fun x3 => cond (R x3 v.1 v.2.2.2.2.2.1 v.2.2.2.2.2.2.2.1 v.2.2.2.2.2.2.1 v.2.2.2.2.2.2.2.2.1 v.2.2.2.2.2.2.2.2.2.1).1 (cond (!(R x3 v.1 v.2.2.2.2.2.1 v.2.2.2.2.2.2.2.1 v.2.2.2.2.2.2.1 v.2.2.2.2.2.2.2.2.1 v.2.2.2.2.2.2.2.2.2.1).2.1) (κ (1, (v.1, false, v.2.2.1, v.2.2.2.1, v.2.2.2.2.1, (R x3 v.1 v.2.2.2.2.2.1 v.2.2.2.2.2.2.2.1 v.2.2.2.2.2.2.1 v.2.2.2.2.2.2.2.2.1 v.2.2.2.2.2.2.2.2.2.1).2.2.1, (R x3 v.1 v.2.2.2.2.2.1 v.2.2.2.2.2.2.2.1 v.2.2.2.2.2.2.1 v.2.2.2.2.2.2.2.2.1 v.2.2.2.2.2.2.2.2.2.1).2.2.2.2.1, (R x3 v.1 v.2.2.2.2.2.1 v.2.2.2.2.2.2.2.1 v.2.2.2.2.2.2.1 v.2.2.2.2.2.2.2.2.1 v.2.2.2.2.2.2.2.2.2.1).2.2.2.1, (R x3 v.1 v.2.2.2.2.2.1 v.2.2.2.2.2.2.2.1 v.2.2.2.2.2.2.1 v.2.2.2.2.2.2.2.2.1 v.2.2.2.2.2.2.2.2.2.1).2.2.2.2.2.1, (R x3 v.1 v.2.2.2.2.2.1 v.2.2.2.2.2.2.2.1 v.2.2.2.2.2.2.1 v.2.2.2.2.2.2.2.2.1 v.2.2.2.2.2.2.2.2.2.1).2.2.2.2.2.2, ()))) (κ (0, (v.1, v.2.1, v.2.2.1, v.2.2.2.1, IntKind.wrap .i64 (v.2.2.2.2.1 + (1 : Int)), (R x3 v.1 v.2.2.2.2.2.1 v.2.2.2.2.2.2.2.1 v.2.2.2.2.2.2.1 v.2.2.2.2.2.2.2.2.1 v.2.2.2.2.2.2.2.2.2.1).2.2.1, (R x3 v.1 v.2.2.2.2.2.1 v.2.2.2.2.2.2.2.1 v.2.2.2.2.2.2.1 v.2.2.2.2.2.2.2.2.1 v.2.2.2.2.2.2.2.2.2.1).2.2.2.2.1, (R x3 v.1 v.2.2.2.2.2.1 v.2.2.2.2.2.2.2.1 v.2.2.2.2.2.2.1 v.2.2.2.2.2.2.2.2.1 v.2.2.2.2.2.2.2.2.2.1).2.2.2.1, (R x3 v.1 v.2.2.2.2.2.1 v.2.2.2.2.2.2.2.1 v.2.2.2.2.2.2.1 v.2.2.2.2.2.2.2.2.1 v.2.2.2.2.2.2.2.2.2.1).2.2.2.2.2.1, (R x3 v.1 v.2.2.2.2.2.1 v.2.2.2.2.2.2.2.1 v.2.2.2.2.2.2.1 v.2.2.2.2.2.2.2.2.1 v.2.2.2.2.2.2.2.2.2.1).2.2.2.2.2.2, ())))) (none))) else none) (κ (2, (v.1, v.2.1, v.2.2.1, v.2.2.2.1, v.2.2.2.2.1, v.2.2.2.2.2.1, v.2.2.2.2.2.2.1, v.2.2.2.2.2.2.2.1, v.2.2.2.2.2.2.2.2.1, v.2.2.2.2.2.2.2.2.2.1, ())))
def gF (R : bD) (v : jq) : Option (Nat × jq) := kF R v some
def oD (v : jq) : Nat := v.1.length + v.2.2.1.length + v.2.2.2.1.toNat + v.2.2.2.2.1.toNat + v.2.2.2.2.2.1.1.length + v.2.2.2.2.2.1.2.1.length + v.2.2.2.2.2.2.1.length + v.2.2.2.2.2.2.2.1.length + v.2.2.2.2.2.2.2.2.1.length + v.2.2.2.2.2.2.2.2.2.1.length + 100
def sv (R : bD) (h0 : List (Ty.T (.int .i64))) (h1 : Bool) (h2 : List (Ty.T y27)) (h3 : Int) (h4 : Int) (h5 : Ty.T y36) (h6 : List (Ty.T ab)) (h7 : List (Ty.T y27)) (h8 : List (Ty.T (.int .i64))) (h9 : List (Ty.T y66)) (c : Nat) : Bool := iK (gF R) oD (h0, h1, h2, h3, h4, h5, h6, h7, h8, h9, ()) c
def H4 (R : bD) (h0 : List (Ty.T (.int .i64))) (h1 : Bool) (h2 : List (Ty.T y27)) (h3 : Int) (h4 : Int) (h5 : Ty.T y36) (h6 : List (Ty.T ab)) (h7 : List (Ty.T y27)) (h8 : List (Ty.T (.int .i64))) (h9 : List (Ty.T y66)) : jq := iW (gF R) oD (h0, h1, h2, h3, h4, h5, h6, h7, h8, h9, ())
def G5 (R : bD) (v : jq) : aJ (Ex × St) := bo (gF R) (oD v) v (ax vu kU) [.ret, .exit 0] 0
theorem Ph (R : bD) (h : bu Tryz.prog 140 (gW R)) : bl Tryz.prog (aB (pb 14 12287) (ae Tryz.f140)) vu kU (G5 R) := aw (lt := .none) (zO R h).ok aj (ah.no _) fun n v K => Eq.trans (b := kF R v (cW _ _ _ _ _ K)) (by kernel_rfl) (show kF R v _ = (kF R v some).bind _ from (bC (bI (bO fun x3 => (bC (bC rfl rfl) rfl))) rfl))
def TE (R : bD) (h : bu Tryz.prog 140 (gW R)) : eE Tryz.prog := (zO R h).l (g := 140) (t := (aD (pb 14 12287) (ae Tryz.f140) (aD (pb 11 1023) (ae Tryz.f140) (aD (pb 7 75) (ae Tryz.f140) .none (.sum B3 eT (G8 R))) (.sum BE B1 (FR R))) (.sum vu kU (G5 R)))) (aQ Tryz.func140 (ah.sJ (by kernel_rfl) (az (by kernel_rfl)) (ah.b7 (az (by kernel_rfl)) (ah.b7 (az (by kernel_rfl)) (ah.no _) (OY R h)) (Pn R h)) (Ph R h)))
def kK (a0 : Ty.T y27) (a1 : List (Ty.T (.int .i64))) (a2 : Ty.T y36) (a3 : List (Ty.T y27)) (a4 : List (Ty.T ab)) (a5 : List (Ty.T (.int .i64))) (a6 : List (Ty.T y66)) := (SC (bG (((v76 a2 a4 a0 a1)).length : Int) a2 a3 a4 a5 a6).2.2.1 a0)
def sy (a0 : Ty.T y27) (a1 : List (Ty.T (.int .i64))) (a2 : Ty.T y36) (a3 : List (Ty.T y27)) (a4 : List (Ty.T ab)) (a5 : List (Ty.T (.int .i64))) (a6 : List (Ty.T y66)) (x1 : Ty.T (.int .i64)) := (As (bG (((v76 a2 a4 a0 a1)).length : Int) a2 a3 a4 a5 a6).2.2.2.2.1 x1)
def nS (a0 : Ty.T y27) (a1 : List (Ty.T (.int .i64))) (a2 : Ty.T y36) (a3 : List (Ty.T y27)) (a4 : List (Ty.T ab)) (a5 : List (Ty.T (.int .i64))) (a6 : List (Ty.T y66)) (x2 : Ty.T ab) := (Uv (bG (((v76 a2 a4 a0 a1)).length : Int) a2 a3 a4 a5 a6).2.2.2.2.1 ((du x2 a0).2.1.1, (du x2 a0).2.1.2.1, (du x2 a0).2.1.2.2.1, (du x2 a0).2.1.2.2.2.1, (du x2 a0).2.1.2.2.2.2.1, (du x2 a0).2.1.2.2.2.2.2.1, ((du x2 a0).2.1.2.2.2.2.2.2.1, (du x2 a0).2.1.2.2.2.2.2.2.2.1, (du x2 a0).2.1.2.2.2.2.2.2.2.2.1, (du x2 a0).2.1.2.2.2.2.2.2.2.2.2.1, (du x2 a0).2.1.2.2.2.2.2.2.2.2.2.2.1, (du x2 a0).2.1.2.2.2.2.2.2.2.2.2.2.2, (du x2 a0).2.2.2.2), (du x2 a0).2.2.1))
def dQ (R : bD) (a0 : Ty.T y27) (a1 : List (Ty.T (.int .i64))) (a2 : Ty.T y36) (a3 : List (Ty.T y27)) (a4 : List (Ty.T ab)) (a5 : List (Ty.T (.int .i64))) (a6 : List (Ty.T y66)) (x1 : Ty.T (.int .i64)) (x2 : Ty.T ab) := (H4 R ((fV a1) ++ [x1]) false (du x2 a0).2.2.2.1 (((du x2 a0).2.2.2.1).length : Int) 0 (bG (((v76 a2 a4 a0 a1)).length : Int) a2 a3 a4 a5 a6).2.2.1 (nS a0 a1 a2 a3 a4 a5 a6 x2) (bG (((v76 a2 a4 a0 a1)).length : Int) a2 a3 a4 a5 a6).2.2.2.1 (bG (((v76 a2 a4 a0 a1)).length : Int) a2 a3 a4 a5 a6).2.2.2.2.2.1 ((bG (((v76 a2 a4 a0 a1)).length : Int) a2 a3 a4 a5 a6).2.2.2.2.2.2 ++ [(x1, (kK a0 a1 a2 a3 a4 a5 a6), (bG (((v76 a2 a4 a0 a1)).length : Int) a2 a3 a4 a5 a6).1, (((v76 a2 a4 a0 a1)).length : Int), a0, (du x2 a0).2.2.2.1, ((du x2 a0).1, ((a1).length : Int)))]))
def kn (R : bD) (a0 : Ty.T y27) (a1 : List (Ty.T (.int .i64))) (a2 : Ty.T y36) (a3 : List (Ty.T y27)) (a4 : List (Ty.T ab)) (a5 : List (Ty.T (.int .i64))) (a6 : List (Ty.T y66)) {Z : Type} (κ : Bool × (Ty.T y36) × (List (Ty.T y27)) × (List (Ty.T ab)) × (List (Ty.T (.int .i64))) × (List (Ty.T y66)) -> Option Z) : Option Z := cond (d76 a2 a4 a0 a1) (cond ((((v76 a2 a4 a0 a1)).length : Int) == (0 : Int)) (cond (rl R (a1, false, !(v54 a0), a2, a0, (v76 a2 a4 a0 a1), a3, a4, a5, a6, ())) (κ (true, a2, (ry R (a1, false, !(v54 a0), a2, a0, (v76 a2 a4 a0 a1), a3, a4, a5, a6, ())), a4, a5, a6)) (none)) (cond (Eg (((v76 a2 a4 a0 a1)).length : Int) a2 a3 a4 a5 a6) (cond (!(bG (((v76 a2 a4 a0 a1)).length : Int) a2 a3 a4 a5 a6).2.1) (κ (false, (bG (((v76 a2 a4 a0 a1)).length : Int) a2 a3 a4 a5 a6).2.2.1, (bG (((v76 a2 a4 a0 a1)).length : Int) a2 a3 a4 a5 a6).2.2.2.1, (bG (((v76 a2 a4 a0 a1)).length : Int) a2 a3 a4 a5 a6).2.2.2.2.1, (bG (((v76 a2 a4 a0 a1)).length : Int) a2 a3 a4 a5 a6).2.2.2.2.2.1, (bG (((v76 a2 a4 a0 a1)).length : Int) a2 a3 a4 a5 a6).2.2.2.2.2.2)) (if 0 <= (bG (((v76 a2 a4 a0 a1)).length : Int) a2 a3 a4 a5 a6).1 then (if (bG (((v76 a2 a4 a0 a1)).length : Int) a2 a3 a4 a5 a6).1 < (((v76 a2 a4 a0 a1)).length : Int) then (bt (((v76 a2 a4 a0 a1))[((bG (((v76 a2 a4 a0 a1)).length : Int) a2 a3 a4 a5 a6).1).toNat]?) (fun x1 => cond (d229 (bG (((v76 a2 a4 a0 a1)).length : Int) a2 a3 a4 a5 a6).2.2.2.2.1 x1) (if 0 <= (sy a0 a1 a2 a3 a4 a5 a6 x1) then (if (sy a0 a1 a2 a3 a4 a5 a6 x1) < (((bG (((v76 a2 a4 a0 a1)).length : Int) a2 a3 a4 a5 a6).2.2.2.2.1).length : Int) then (bt (((bG (((v76 a2 a4 a0 a1)).length : Int) a2 a3 a4 a5 a6).2.2.2.2.1)[(sy a0 a1 a2 a3 a4 a5 a6 x1).toNat]?) (fun x2 => cond (d228 x2 a0) (cond (d230 (bG (((v76 a2 a4 a0 a1)).length : Int) a2 a3 a4 a5 a6).2.2.1 a0) (cond (!(Vb (x1, (kK a0 a1 a2 a3 a4 a5 a6), (bG (((v76 a2 a4 a0 a1)).length : Int) a2 a3 a4 a5 a6).1, (((v76 a2 a4 a0 a1)).length : Int), a0, (du x2 a0).2.2.2.1, (du x2 a0).1, ((a1).length : Int)))) (κ (false, (bG (((v76 a2 a4 a0 a1)).length : Int) a2 a3 a4 a5 a6).2.2.1, (bG (((v76 a2 a4 a0 a1)).length : Int) a2 a3 a4 a5 a6).2.2.2.1, (bG (((v76 a2 a4 a0 a1)).length : Int) a2 a3 a4 a5 a6).2.2.2.2.1, (bG (((v76 a2 a4 a0 a1)).length : Int) a2 a3 a4 a5 a6).2.2.2.2.2.1, (bG (((v76 a2 a4 a0 a1)).length : Int) a2 a3 a4 a5 a6).2.2.2.2.2.2)) (cond (d231 (bG (((v76 a2 a4 a0 a1)).length : Int) a2 a3 a4 a5 a6).2.2.2.2.1 ((du x2 a0).2.1.1, (du x2 a0).2.1.2.1, (du x2 a0).2.1.2.2.1, (du x2 a0).2.1.2.2.2.1, (du x2 a0).2.1.2.2.2.2.1, (du x2 a0).2.1.2.2.2.2.2.1, ((du x2 a0).2.1.2.2.2.2.2.2.1, (du x2 a0).2.1.2.2.2.2.2.2.2.1, (du x2 a0).2.1.2.2.2.2.2.2.2.2.1, (du x2 a0).2.1.2.2.2.2.2.2.2.2.2.1, (du x2 a0).2.1.2.2.2.2.2.2.2.2.2.2.1, (du x2 a0).2.1.2.2.2.2.2.2.2.2.2.2.2, (du x2 a0).2.2.2.2), (du x2 a0).2.2.1)) (cond (zA R (a1, false, x1, (bG (((v76 a2 a4 a0 a1)).length : Int) a2 a3 a4 a5 a6).2.2.1, (x1, (kK a0 a1 a2 a3 a4 a5 a6), (bG (((v76 a2 a4 a0 a1)).length : Int) a2 a3 a4 a5 a6).1, (((v76 a2 a4 a0 a1)).length : Int), a0), ((du x2 a0).1, ((a1).length : Int)), (du x2 a0).2.2.2.1, (nS a0 a1 a2 a3 a4 a5 a6 x2), (bG (((v76 a2 a4 a0 a1)).length : Int) a2 a3 a4 a5 a6).2.2.2.1, (bG (((v76 a2 a4 a0 a1)).length : Int) a2 a3 a4 a5 a6).2.2.2.2.2.1, (bG (((v76 a2 a4 a0 a1)).length : Int) a2 a3 a4 a5 a6).2.2.2.2.2.2, ())) (cond (d135 a1) (if ((fV a1) ++ [x1] : List (Ty.T (.int .i64))).length * 8 <= 140737488351232 then (cond (sv R ((fV a1) ++ [x1]) false (du x2 a0).2.2.2.1 (((du x2 a0).2.2.2.1).length : Int) 0 (bG (((v76 a2 a4 a0 a1)).length : Int) a2 a3 a4 a5 a6).2.2.1 (nS a0 a1 a2 a3 a4 a5 a6 x2) (bG (((v76 a2 a4 a0 a1)).length : Int) a2 a3 a4 a5 a6).2.2.2.1 (bG (((v76 a2 a4 a0 a1)).length : Int) a2 a3 a4 a5 a6).2.2.2.2.2.1 ((bG (((v76 a2 a4 a0 a1)).length : Int) a2 a3 a4 a5 a6).2.2.2.2.2.2 ++ [(x1, (kK a0 a1 a2 a3 a4 a5 a6), (bG (((v76 a2 a4 a0 a1)).length : Int) a2 a3 a4 a5 a6).1, (((v76 a2 a4 a0 a1)).length : Int), a0, (du x2 a0).2.2.2.1, ((du x2 a0).1, ((a1).length : Int)))]) 0) (κ ((dQ R a0 a1 a2 a3 a4 a5 a6 x1 x2).2.1, (dQ R a0 a1 a2 a3 a4 a5 a6 x1 x2).2.2.2.2.2.1, (dQ R a0 a1 a2 a3 a4 a5 a6 x1 x2).2.2.2.2.2.2.2.1, (dQ R a0 a1 a2 a3 a4 a5 a6 x1 x2).2.2.2.2.2.2.1, (dQ R a0 a1 a2 a3 a4 a5 a6 x1 x2).2.2.2.2.2.2.2.2.1, (dQ R a0 a1 a2 a3 a4 a5 a6 x1 x2).2.2.2.2.2.2.2.2.2.1)) (cond (sv R ((fV a1) ++ [x1]) false (du x2 a0).2.2.2.1 (((du x2 a0).2.2.2.1).length : Int) 0 (bG (((v76 a2 a4 a0 a1)).length : Int) a2 a3 a4 a5 a6).2.2.1 (nS a0 a1 a2 a3 a4 a5 a6 x2) (bG (((v76 a2 a4 a0 a1)).length : Int) a2 a3 a4 a5 a6).2.2.2.1 (bG (((v76 a2 a4 a0 a1)).length : Int) a2 a3 a4 a5 a6).2.2.2.2.2.1 ((bG (((v76 a2 a4 a0 a1)).length : Int) a2 a3 a4 a5 a6).2.2.2.2.2.2 ++ [(x1, (kK a0 a1 a2 a3 a4 a5 a6), (bG (((v76 a2 a4 a0 a1)).length : Int) a2 a3 a4 a5 a6).1, (((v76 a2 a4 a0 a1)).length : Int), a0, (du x2 a0).2.2.2.1, ((du x2 a0).1, ((a1).length : Int)))]) 1) (κ (true, (dQ R a0 a1 a2 a3 a4 a5 a6 x1 x2).2.2.2.2.2.1, (dQ R a0 a1 a2 a3 a4 a5 a6 x1 x2).2.2.2.2.2.2.2.1, (dQ R a0 a1 a2 a3 a4 a5 a6 x1 x2).2.2.2.2.2.2.1, (dQ R a0 a1 a2 a3 a4 a5 a6 x1 x2).2.2.2.2.2.2.2.2.1, (dQ R a0 a1 a2 a3 a4 a5 a6 x1 x2).2.2.2.2.2.2.2.2.2.1)) (none))) else none) (none)) (none)) (none))) (none)) (none))) else none) else none) (none))) else none) else none)) (none))) (none)
def sF (R : bD) (a0 : Ty.T y27) (a1 : List (Ty.T (.int .i64))) (a2 : Ty.T y36) (a3 : List (Ty.T y27)) (a4 : List (Ty.T ab)) (a5 : List (Ty.T (.int .i64))) (a6 : List (Ty.T y66)) : Bool × (Ty.T y36) × (List (Ty.T y27)) × (List (Ty.T ab)) × (List (Ty.T (.int .i64))) × (List (Ty.T y66)) := (kn R a0 a1 a2 a3 a4 a5 a6 some).getD (false, (Ty.zero y36), [], [], [], [])
def sd (R : bD) (a0 : Ty.T y27) (a1 : List (Ty.T (.int .i64))) (a2 : Ty.T y36) (a3 : List (Ty.T y27)) (a4 : List (Ty.T ab)) (a5 : List (Ty.T (.int .i64))) (a6 : List (Ty.T y66)) : Bool := (kn R a0 a1 a2 a3 a4 a5 a6 some).isSome
theorem NG (R : bD) (h : bu Tryz.prog 140 (gW R)) : bu Tryz.prog 140 (gW (fun a0 a1 a2 a3 a4 a5 a6 => (sd R a0 a1 a2 a3 a4 a5 a6, sF R a0 a1 a2 a3 a4 a5 a6))) := bH (TE R h).ok aj (az (by kernel_rfl)) ⟨Tryz.f140, ae Tryz.f140, by kernel_rfl, by kernel_rfl⟩ fun v => Eq.trans (b := (kn R v.1 v.2.1 v.2.2.1 v.2.2.2.1 v.2.2.2.2.1 v.2.2.2.2.2.1 v.2.2.2.2.2.2.1 (sm Er))) (by kernel_rfl) (aq (show kn R v.1 v.2.1 v.2.2.1 v.2.2.2.1 v.2.2.2.2.1 v.2.2.2.2.2.1 v.2.2.2.2.2.2.1 (sm Er) = (kn R v.1 v.2.1 v.2.2.1 v.2.2.2.1 v.2.2.2.2.1 v.2.2.2.2.2.1 v.2.2.2.2.2.2.1 some).bind _ from by unfold kn; simp only [bb]))
def m3 : Nat -> bD
  | 0 => fun _ _ _ _ _ _ _ => (false, (false, ([], [], 0, 0), [], [], [], []))
  | k + 1 => fun a0 a1 a2 a3 a4 a5 a6 => (sd (m3 k) a0 a1 a2 a3 a4 a5 a6, sF (m3 k) a0 a1 a2 a3 a4 a5 a6)
theorem Hy : ∀ k, bu Tryz.prog 140 (gW (m3 k))
  | 0 => ⟨az (by kernel_rfl), ⟨Tryz.f140, Tryz.func140, by kernel_rfl, by kernel_rfl⟩, fun v res fin h => by cases (show (none : Option (AV × Sig)) = some (res, fin) from h)⟩
  | k + 1 => NG (m3 k) (Hy k)
def oS (a0 : Ty.T y27) (a1 : List (Ty.T (.int .i64))) (a2 : Ty.T y36) (a3 : List (Ty.T y27)) (a4 : List (Ty.T ab)) (a5 : List (Ty.T (.int .i64))) (a6 : List (Ty.T y66)) : Bool × (Ty.T y36) × (List (Ty.T y27)) × (List (Ty.T ab)) × (List (Ty.T (.int .i64))) × (List (Ty.T y66)) := (m3 40 a0 a1 a2 a3 a4 a5 a6).2
def Ev (a0 : Ty.T y27) (a1 : List (Ty.T (.int .i64))) (a2 : Ty.T y36) (a3 : List (Ty.T y27)) (a4 : List (Ty.T ab)) (a5 : List (Ty.T (.int .i64))) (a6 : List (Ty.T y66)) : Bool := (m3 40 a0 a1 a2 a3 a4 a5 a6).1
def Yp : Gen := ⟨[false, false, false], [.one (.ptr 4294967296 0), .agg [.dat y27 false], .one (.dat (.sl 3 (.int .i64)) false)], [(4294967296, .box 169 [.dat y36 true, .own 16793600, .own 16797696, .own 16801792, .own 16805888, .fnp 137 [4294967297], .fnc 139 []]), (4294967297, .box 165 [.ptr 4294967296 0]), (16793600, .arr 41 y27 false), (16797696, .arr 109 ab false), (16801792, .arr 3 (.int .i64) false), (16805888, .arr 67 y66 false)], fun v => .br (Ev v.1 v.2.1 v.2.2.1 v.2.2.2.1 v.2.2.2.2.1 v.2.2.2.2.2.1 v.2.2.2.2.2.2.1) (.done (Er (oS v.1 v.2.1 v.2.2.1 v.2.2.2.1 v.2.2.2.2.1 v.2.2.2.2.2.1 v.2.2.2.2.2.2.1))) .no⟩
theorem Vd : bu Tryz.prog 140 Yp := Hy 40
def f42 (r : (List (Ty.T y27)) × (List (Ty.T ab)) × (List (Ty.T (.int .i64))) × (List (Ty.T y66))) : AV × Sig := (.agg ([.sl 4096] ++ [.sl 8192] ++ [.sl 12288] ++ [.sl 16384]), [(4096, .arr 41 y27 r.1 false), (8192, .arr 109 ab r.2.1 false), (12288, .arr 3 (.int .i64) r.2.2.1 false), (16384, .arr 67 y66 r.2.2.2 false)])
def E42 := (((((((E0.g Vd).p Wf).p OZ).p ady).p abe).p Gz).p abK)
def t42 (a0 : Ty.T y36) (a1 : List (Ty.T ab)) (a2 : Ty.T y27) (a3 : List (Ty.T (.int .i64))) {Z : Type} (κ : (List (Ty.T y27)) × (List (Ty.T ab)) × (List (Ty.T (.int .i64))) × (List (Ty.T y66)) -> Option Z) : Option Z := cond (d134 a1) (cond (d135 a3) (cond (d56 a0) (cond (!(v56 a0)) (κ ([], (nu a1), (fV a3), [])) (cond (!(v53 a2)) (κ ([], (nu a1), (fV a3), [])) (cond (d136 a1) (cond (!(Qq a1)) (κ ([], (nu a1), (fV a3), [])) (cond (Ev a2 [] a0 [] (nu a1) (fV a3) []) (cond (d141 (oS a2 [] a0 [] (nu a1) (fV a3) []).2.2.2.2.2) (κ ((oS a2 [] a0 [] (nu a1) (fV a3) []).2.2.1, (oS a2 [] a0 [] (nu a1) (fV a3) []).2.2.2.1, (oS a2 [] a0 [] (nu a1) (fV a3) []).2.2.2.2.1, (PN (oS a2 [] a0 [] (nu a1) (fV a3) []).2.2.2.2.2))) (none)) (none))) (none)))) (none)) (none)) (none)
def v42 (a0 : Ty.T y36) (a1 : List (Ty.T ab)) (a2 : Ty.T y27) (a3 : List (Ty.T (.int .i64))) : (List (Ty.T y27)) × (List (Ty.T ab)) × (List (Ty.T (.int .i64))) × (List (Ty.T y66)) := (t42 a0 a1 a2 a3 some).getD ([], [], [], [])
def d42 (a0 : Ty.T y36) (a1 : List (Ty.T ab)) (a2 : Ty.T y27) (a3 : List (Ty.T (.int .i64))) : Bool := (t42 a0 a1 a2 a3 some).isSome
def p42 : Prim := ⟨[.agg [.dat y36 true], .one (.dat (.sl 109 ab) true), .agg [.dat y27 true], .one (.dat (.sl 3 (.int .i64)) true)], fun v => .br (d42 v.1 v.2.1 v.2.2.1 v.2.2.2.1) (.done (f42 (v42 v.1 v.2.1 v.2.2.1 v.2.2.2.1))) .no⟩
theorem ahj : PO 42 p42 := pK E42 fun v => Eq.trans (b := (t42 v.1 v.2.1 v.2.2.1 v.2.2.2.1 (sm f42))) (by kernel_rfl) (aq (show t42 v.1 v.2.1 v.2.2.1 v.2.2.2.1 (sm f42) = (t42 v.1 v.2.1 v.2.2.1 v.2.2.2.1 some).bind _ from by unfold t42; simp only [bb]))
def f58 (r : (List (Ty.T (.int .i64)))) : AV × Sig := (.one (.sl 4096), [(4096, .arr 3 (.int .i64) r false)])
def E58 := E0
@[reducible] def JV : List SP := U2 (.one (.dat (.sl 3 (.int .i64)) false) :: .one (.own 6) :: U2 (.und :: .one (.dat (.sl 67 y66) true) :: oI :: oI :: U8 (U4 (.und :: []))))
@[reducible] def eI : List (Nat × GP) := [(6, .arr 3 (.int .i64) false)]
@[reducible] def yG : Type := (List (Ty.T (.int .i64))) × (List (Ty.T y66)) × Int × Int × (List (Ty.T (.int .i64))) × Unit
def zL (v : yG) {Z : Type} (κ : Nat × yG -> Option Z) : Option Z := cond (decide (v.2.2.2.1 < v.2.2.1)) (if 0 <= v.2.2.2.1 then (bt ((v.2.1)[(v.2.2.2.1).toNat]?) (fun x1 => cond (decide (x1.2.2.2.1 ≥ (2 : Int))) (if (v.2.2.2.2.1 ++ [x1.2.2.1] : List (Ty.T (.int .i64))).length * 8 <= 140737488351232 then (κ (0, (v.1, v.2.1, v.2.2.1, IntKind.wrap .i64 (v.2.2.2.1 + (1 : Int)), v.2.2.2.2.1 ++ [x1.2.2.1], ()))) else none) (κ (0, (v.1, v.2.1, v.2.2.1, IntKind.wrap .i64 (v.2.2.2.1 + (1 : Int)), v.2.2.2.2.1, ()))))) else none) (κ (1, (v.1, v.2.1, v.2.2.1, v.2.2.2.1, v.2.2.2.2.1, ())))
def xq (v : yG) : Option (Nat × yG) := zL v some
def FM (v : yG) : Nat := v.1.length + v.2.1.length + v.2.2.1.toNat + v.2.2.2.1.toNat + v.2.2.2.2.1.length + 100
def K8 (h0 : List (Ty.T (.int .i64))) (h1 : List (Ty.T y66)) (h2 : Int) (h3 : Int) (h4 : List (Ty.T (.int .i64))) (c : Nat) : Bool := iK xq FM (h0, h1, h2, h3, h4, ()) c
def Ox (h0 : List (Ty.T (.int .i64))) (h1 : List (Ty.T y66)) (h2 : Int) (h3 : Int) (h4 : List (Ty.T (.int .i64))) : yG := iW xq FM (h0, h1, h2, h3, h4, ())
def Vl (v : yG) : aJ (Ex × St) := bo xq (FM v) v (ax JV eI) [.exit 0] 0
theorem acm : bl Tryz.prog (aB (pb 4 11) (ae Tryz.f58)) JV eI Vl := aw (lt := .none) E58.ok aj (ah.no _) fun n v K => Eq.trans (b := zL v (cW _ _ _ _ _ K)) (by kernel_rfl) (show zL v _ = (zL v some).bind _ from (bC (bI (bO fun x1 => (bC (bI rfl) rfl))) rfl))
def aeW := E58.l (g := 58) (t := (cv (pb 4 11) (ae Tryz.f58) .none (.sum JV eI Vl))) (aQ Tryz.func58 (ah.put (az (by kernel_rfl)) (ah.no _) acm))
def u58 (a0 : List (Ty.T y66)) : Option (AV × Sig) := cond (K8 [] a0 ((a0).length : Int) 0 [] 0) (some (.one (.sl 4096), [(4096, .arr 3 (.int .i64) (Ox [] a0 ((a0).length : Int) 0 []).2.2.2.2.1 false)])) (none)
def v58 (a0 : List (Ty.T y66)) : (List (Ty.T (.int .i64))) := cond (K8 [] a0 ((a0).length : Int) 0 [] 0) ((Ox [] a0 ((a0).length : Int) 0 []).2.2.2.2.1) ([])
def d58 (a0 : List (Ty.T y66)) : Bool := cond (K8 [] a0 ((a0).length : Int) 0 [] 0) (true) (false)
theorem o58 (a0 : List (Ty.T y66)) : u58 a0 = cond (d58 a0) (some (f58 (v58 a0))) none := (pC (pS _) (pN _))
def p58 : Prim := ⟨[.one (.dat (.sl 67 y66) true)], fun v => .br (d58 v.1) (.done (f58 (v58 v.1))) .no⟩
theorem agH : PO 58 p58 := pK aeW fun v => Eq.trans (b := u58 v.1) (by kernel_rfl) (o58 v.1)
def f49 (r : Int) : AV × Sig := (.one (.int .i64 r), [])
def E49 := (E0.p agH)
def u49 (a0 : Ty.T y56) : Option (AV × Sig) := cond (d58 a0.2.2.2) (some (.one (.int .i64 (((v58 a0.2.2.2)).length : Int)), [])) (none)
def v49 (a0 : Ty.T y56) : Int := cond (d58 a0.2.2.2) ((((v58 a0.2.2.2)).length : Int)) (0)
def d49 (a0 : Ty.T y56) : Bool := cond (d58 a0.2.2.2) (true) (false)
theorem o49 (a0 : Ty.T y56) : u49 a0 = cond (d49 a0) (some (f49 (v49 a0))) none := (pC (pS _) (pN _))
def p49 : Prim := ⟨[.agg [.dat y56 true]], fun v => .br (d49 v.1) (.done (f49 (v49 v.1))) .no⟩
theorem aiW : PO 49 p49 := pK E49 fun v => Eq.trans (b := u49 v.1) (by kernel_rfl) (o49 v.1)
def f116 (r : (Ty.T af)) : AV × Sig := (.one (.ptr 4096 0 0), [(4096, .box 222 ((af.cells true r)))])
def ac0 := E0
@[reducible] def D4 : List SP := .one (.dat (.sl 5 (.int .u8)) true) :: U2 (oI :: oI :: U16 (U8 (U2 (.und :: []))))
@[reducible] def qT : Type := (List (Ty.T (.int .u8))) × Int × Int × Unit
def yC (v : qT) {Z : Type} (κ : Nat × qT -> Option Z) : Option Z := cond (decide (v.2.2.1 < ((v.1).length : Int))) (cond (decide (v.2.2.1 < (4000 : Int))) (if 0 <= v.2.2.1 then (bt ((v.1)[(v.2.2.1).toNat]?) (fun x1 => κ (0, (v.1, IntKind.wrap .i64 ((BitVec.ofInt (IntKind.bits .i64) (IntKind.wrap .i64 ((IntKind.wrap .i64 ((IntKind.wrap .i64 (v.2.1 * (137 : Int))) + (IntKind.wrap .i64 x1))) + (11 : Int))) &&& BitVec.ofInt (IntKind.bits .i64) (1073741823 : Int)).toNat : Int), IntKind.wrap .i64 (v.2.2.1 + (1 : Int)), ())))) else none) (κ (1, (v.1, v.2.1, v.2.2.1, ())))) (κ (1, (v.1, v.2.1, v.2.2.1, ())))
def qJ (v : qT) : Option (Nat × qT) := yC v some
def yZ (v : qT) : Nat := v.1.length + v.2.1.toNat + v.2.2.1.toNat + 100
def C9 (h0 : List (Ty.T (.int .u8))) (h1 : Int) (h2 : Int) (c : Nat) : Bool := iK qJ yZ (h0, h1, h2, ()) c
def yS (h0 : List (Ty.T (.int .u8))) (h1 : Int) (h2 : Int) : qT := iW qJ yZ (h0, h1, h2, ())
def R3 (v : qT) : aJ (Ex × St) := bo qJ (yZ v) v (ax D4 au) [.exit 0] 0
theorem Wt : bl Tryz.prog (aB (pb 4 11) (ae Tryz.f116)) D4 au R3 := aw (lt := .none) ac0.ok aj (ah.no _) fun n v K => Eq.trans (b := yC v (cW _ _ _ _ _ K)) (by kernel_rfl) (show yC v _ = (yC v some).bind _ from (bC (bC (bI (bO fun x1 => rfl)) rfl) rfl))
def abC := ac0.l (g := 116) (t := (cv (pb 4 11) (ae Tryz.f116) .none (.sum D4 au R3))) (aQ Tryz.func116 (ah.put (az (by kernel_rfl)) (ah.no _) Wt))
def abX (a0 : List (Ty.T (.int .u8))) : Option (AV × Sig) := cond (C9 a0 (IntKind.wrap .i64 ((139871 : Int) + ((a0).length : Int))) 0 0) (some (.one (.ptr 4096 0 0), [(4096, .box 222 [.emb 5 (.int .u8) (yS a0 (IntKind.wrap .i64 ((139871 : Int) + ((a0).length : Int))) 0).1 true, .int .i64 0, .int .i64 (yS a0 (IntKind.wrap .i64 ((139871 : Int) + ((a0).length : Int))) 0).2.1])])) (none)
def dW (a0 : List (Ty.T (.int .u8))) : (Ty.T af) := cond (C9 a0 (IntKind.wrap .i64 ((139871 : Int) + ((a0).length : Int))) 0 0) (((yS a0 (IntKind.wrap .i64 ((139871 : Int) + ((a0).length : Int))) 0).1, 0, (yS a0 (IntKind.wrap .i64 ((139871 : Int) + ((a0).length : Int))) 0).2.1)) (([], 0, 0))
def d116 (a0 : List (Ty.T (.int .u8))) : Bool := cond (C9 a0 (IntKind.wrap .i64 ((139871 : Int) + ((a0).length : Int))) 0 0) (true) (false)
theorem aiM (a0 : List (Ty.T (.int .u8))) : abX a0 = cond (d116 a0) (some (f116 (dW a0))) none := (pC (pS _) (pN _))
def aeH : Prim := ⟨[.one (.dat (.sl 5 (.int .u8)) true)], fun v => .br (d116 v.1) (.done (f116 (dW v.1))) .no⟩
theorem aaL : PO 116 aeH := pK abC fun v => Eq.trans (b := abX v.1) (by kernel_rfl) (aiM v.1)
def f215 (r : (Ty.T aT) × (List (Ty.T y63)) × (List (Ty.T bS))) : AV × Sig := (.agg ([.sl 4096] ++ [.sl 8192] ++ (aT.cells false r.1)), [(4096, .arr 64 y63 r.2.1 false), (8192, .arr 191 bS r.2.2 false)])
def ajj := E0
def Z8 (a0 : Int) : Option (AV × Sig) := cond (a0 == (3 : Int)) (if ([(20, 0, false), (20, 0, false)] ++ [(20, 0, false)] : List (Ty.T bS)).length * 24 <= 140737488351232 then (some (.agg [.sl 4096, .sl 8192, .int .i64 0, .int .i64 0], [(4096, .arr 64 y63 [] false), (8192, .arr 191 bS ([(20, 0, false), (20, 0, false)] ++ [(20, 0, false)]) false)])) else none) (some (.agg [.sl 4096, .sl 8192, .int .i64 0, .int .i64 0], [(4096, .arr 64 y63 [] false), (8192, .arr 191 bS [(20, 0, false), (20, 0, false)] false)]))
def DM (a0 : Int) : (Ty.T aT) × (List (Ty.T y63)) × (List (Ty.T bS)) := cond (a0 == (3 : Int)) (((0, 0), [], [(20, 0, false), (20, 0, false)] ++ [(20, 0, false)])) (((0, 0), [], [(20, 0, false), (20, 0, false)]))
def d215 (a0 : Int) : Bool := cond (a0 == (3 : Int)) (decide (([(20, 0, false), (20, 0, false)] ++ [(20, 0, false)] : List (Ty.T bS)).length * 24 <= 140737488351232) && (true)) (true)
theorem ail (a0 : Int) : Z8 a0 = cond (d215 a0) (some (f215 (DM a0))) none := (pC (pI (pS _)) (pS _))
def ah3 : Prim := ⟨[oI], fun v => .br (d215 v.1) (.done (f215 (DM v.1))) .no⟩
theorem acb : PO 215 ah3 := pK ajj fun v => Eq.trans (b := Z8 v.1) (by kernel_rfl) (ail v.1)
def Kl (r : Int × (Ty.T af)) : AV × Sig := (.one (.int .i64 r.1), [(4294967296, .box 222 ((af.cells true r.2)))])
def XT := E0
def qf (a0 : Ty.T af) {Z : Type} (κ : Int × (Ty.T af) -> Option Z) : Option Z := cond (decide (a0.2.1 < ((a0.1).length : Int))) (if 0 <= a0.2.1 then (bt ((a0.1)[(a0.2.1).toNat]?) (fun x1 => κ (IntKind.wrap .i64 ((BitVec.ofInt (IntKind.bits .i64) (IntKind.wrap .i64 ((IntKind.wrap .i64 ((BitVec.ofInt (IntKind.bits .i64) (IntKind.wrap .i64 ((BitVec.ofInt (IntKind.bits .i64) (Int.fdiv (IntKind.wrap .i64 ((IntKind.wrap .i64 (a0.2.2 * (6364136223846793005 : Int))) + (1442695040888963407 : Int))) (2 ^ 33)) ^^^ BitVec.ofInt (IntKind.bits .i64) (Int.fdiv (IntKind.wrap .i64 ((IntKind.wrap .i64 (a0.2.2 * (6364136223846793005 : Int))) + (1442695040888963407 : Int))) (2 ^ 47))).toNat : Int)) &&& BitVec.ofInt (IntKind.bits .i64) (255 : Int)).toNat : Int)) + (IntKind.wrap .i64 x1))) &&& BitVec.ofInt (IntKind.bits .i64) (255 : Int)).toNat : Int), (a0.1, IntKind.wrap .i64 (a0.2.1 + (1 : Int)), IntKind.wrap .i64 ((IntKind.wrap .i64 (a0.2.2 * (6364136223846793005 : Int))) + (1442695040888963407 : Int)))))) else none) (κ (IntKind.wrap .i64 ((BitVec.ofInt (IntKind.bits .i64) (IntKind.wrap .i64 ((BitVec.ofInt (IntKind.bits .i64) (Int.fdiv (IntKind.wrap .i64 ((IntKind.wrap .i64 (a0.2.2 * (6364136223846793005 : Int))) + (1442695040888963407 : Int))) (2 ^ 33)) ^^^ BitVec.ofInt (IntKind.bits .i64) (Int.fdiv (IntKind.wrap .i64 ((IntKind.wrap .i64 (a0.2.2 * (6364136223846793005 : Int))) + (1442695040888963407 : Int))) (2 ^ 47))).toNat : Int)) &&& BitVec.ofInt (IntKind.bits .i64) (255 : Int)).toNat : Int), (a0.1, a0.2.1, IntKind.wrap .i64 ((IntKind.wrap .i64 (a0.2.2 * (6364136223846793005 : Int))) + (1442695040888963407 : Int)))))
def c8 (a0 : Ty.T af) : Int × (Ty.T af) := (qf a0 some).getD (0, (Ty.zero af))
def oP (a0 : Ty.T af) : Bool := (qf a0 some).isSome
def YK : Gen := ⟨[false], [.one (.ptr 4294967296 0)], [(4294967296, .box 222 [.dat af true])], fun v => .br (oP v.1) (.done (Kl (c8 v.1))) .no⟩
theorem Up : bu Tryz.prog 218 YK := bH XT.ok aj (az (by kernel_rfl)) ⟨Tryz.f218, ae Tryz.f218, by kernel_rfl, by kernel_rfl⟩ fun v => Eq.trans (b := (qf v.1 (sm Kl))) (by kernel_rfl) (aq (show qf v.1 (sm Kl) = (qf v.1 some).bind _ from (bC (bI (bO fun x1 => rfl)) rfl)))
def J2 (r : Int × (Ty.T af)) : AV × Sig := (.one (.int .i64 r.1), [(4294967296, .box 222 ((af.cells true r.2)))])
def Yd := (E0.g Up)
def nH (a0 : Int) (a1 : Ty.T af) {Z : Type} (κ : Int × (Ty.T af) -> Option Z) : Option Z := cond (decide (a0 <= (0 : Int))) (κ (0, a1)) (cond (decide (a0 <= (256 : Int))) (cond (oP a1) (if a0 = 0 then none else (κ (Int.tmod (c8 a1).1 a0, (c8 a1).2))) (none)) (cond (oP a1) (cond (oP (c8 a1).2) (cond (oP (c8 (c8 a1).2).2) (if a0 = 0 then none else (κ (Int.tmod (IntKind.wrap .i64 ((IntKind.wrap .i64 ((IntKind.wrap .i64 ((c8 a1).1 * (65536 : Int))) + (IntKind.wrap .i64 ((c8 (c8 a1).2).1 * (256 : Int))))) + (c8 (c8 (c8 a1).2).2).1)) a0, (c8 (c8 (c8 a1).2).2).2))) (none)) (none)) (none)))
def aa (a0 : Int) (a1 : Ty.T af) : Int × (Ty.T af) := (nH a0 a1 some).getD (0, (Ty.zero af))
def bB (a0 : Int) (a1 : Ty.T af) : Bool := (nH a0 a1 some).isSome
def YR : Gen := ⟨[false, false], [.one (.ptr 4294967296 0), oI], [(4294967296, .box 222 [.dat af true])], fun v => .br (bB v.1 v.2.1) (.done (J2 (aa v.1 v.2.1))) .no⟩
theorem db : bu Tryz.prog 121 YR := bH Yd.ok aj (az (by kernel_rfl)) ⟨Tryz.f121, ae Tryz.f121, by kernel_rfl, by kernel_rfl⟩ fun v => Eq.trans (b := (nH v.1 v.2.1 (sm J2))) (by kernel_rfl) (aq (show nH v.1 v.2.1 (sm J2) = (nH v.1 v.2.1 some).bind _ from by unfold nH; simp only [bb]))
def Qw (r : Int × (Ty.T af)) : AV × Sig := (.one (.int .i64 r.1), [(4294967296, .box 222 ((af.cells true r.2)))])
def WC := (E0.g db)
def OL (a0 : List (Ty.T (.int .i64))) (a1 : Ty.T af) : Option (AV × Sig) := cond (bB ((a0).length : Int) a1) (if 0 <= (aa ((a0).length : Int) a1).1 then (bt ((a0)[((aa ((a0).length : Int) a1).1).toNat]?) (fun x1 => some (.one (.int .i64 x1), [(4294967296, .box 222 [.emb 5 (.int .u8) (aa ((a0).length : Int) a1).2.1 true, .int .i64 (aa ((a0).length : Int) a1).2.2.1, .int .i64 (aa ((a0).length : Int) a1).2.2.2])]))) else none) (none)
def ai (a0 : List (Ty.T (.int .i64))) (a1 : Ty.T af) : Int × (Ty.T af) := cond (bB ((a0).length : Int) a1) (rV ((a0)[((aa ((a0).length : Int) a1).1).toNat]?) (0, ([], 0, 0)) (fun x1 => (x1, (aa ((a0).length : Int) a1).2))) ((0, ([], 0, 0)))
def aV (a0 : List (Ty.T (.int .i64))) (a1 : Ty.T af) : Bool := cond (bB ((a0).length : Int) a1) (decide (0 <= (aa ((a0).length : Int) a1).1) && (pB ((a0)[((aa ((a0).length : Int) a1).1).toNat]?) (fun x1 => true))) (false)
theorem WQ (a0 : List (Ty.T (.int .i64))) (a1 : Ty.T af) : OL a0 a1 = cond (aV a0 a1) (some (Qw (ai a0 a1))) none := (pC (pI (pO fun x1 => (pS _))) (pN _))
def XI : Gen := ⟨[false, false], [.one (.ptr 4294967296 0), .one (.dat (.sl 3 (.int .i64)) false)], [(4294967296, .box 222 [.dat af true])], fun v => .br (aV v.1 v.2.1) (.done (Qw (ai v.1 v.2.1))) .no⟩
theorem dH : bu Tryz.prog 209 XI := bH WC.ok aj (az (by kernel_rfl)) ⟨Tryz.f209, ae Tryz.f209, by kernel_rfl, by kernel_rfl⟩ fun v => Eq.trans (b := OL v.1 v.2.1) (by kernel_rfl) (WQ v.1 v.2.1)
def PU (r : Bool × (Ty.T af)) : AV × Sig := (.one (.bool r.1), [(4294967296, .box 222 ((af.cells true r.2)))])
def YA := (E0.g db)
def PJ (a0 : Int) (a1 : Ty.T af) : Option (AV × Sig) := cond (bB a0 a1) (some (.one (.bool ((aa a0 a1).1 == (0 : Int))), [(4294967296, .box 222 [.emb 5 (.int .u8) (aa a0 a1).2.1 true, .int .i64 (aa a0 a1).2.2.1, .int .i64 (aa a0 a1).2.2.2])])) (none)
def ay (a0 : Int) (a1 : Ty.T af) : Bool × (Ty.T af) := cond (bB a0 a1) ((((aa a0 a1).1 == (0 : Int)), (aa a0 a1).2)) ((false, ([], 0, 0)))
def dm (a0 : Int) (a1 : Ty.T af) : Bool := cond (bB a0 a1) (true) (false)
theorem Yf (a0 : Int) (a1 : Ty.T af) : PJ a0 a1 = cond (dm a0 a1) (some (PU (ay a0 a1))) none := (pC (pS _) (pN _))
def Xt : Gen := ⟨[false, false], [.one (.ptr 4294967296 0), oI], [(4294967296, .box 222 [.dat af true])], fun v => .br (dm v.1 v.2.1) (.done (PU (ay v.1 v.2.1))) .no⟩
theorem jQ : bu Tryz.prog 142 Xt := bH YA.ok aj (az (by kernel_rfl)) ⟨Tryz.f142, ae Tryz.f142, by kernel_rfl, by kernel_rfl⟩ fun v => Eq.trans (b := PJ v.1 v.2.1) (by kernel_rfl) (Yf v.1 v.2.1)
def Kp (r : (Ty.T y63) × (Ty.T af)) : AV × Sig := (.agg (y63.cells false r.1), [(4294967296, .box 222 ((af.cells true r.2)))])
def DQ := (((E0.g db).g jQ).g dH)
@[reducible] def pg : List SP := .one (.ptr 4294967296 0) :: U2 (.und :: .one (.ptr 4 0) :: .one (.ptr 5 0) :: .und :: oI :: U16 (.und :: .one (.own 25) :: oI :: oI :: .one (.dat .bool true) :: .und :: oI :: .one (.ptr 4294967296 0) :: .one (.dat .bool true) :: U32 ([])))
@[reducible] def fN : List (Nat × GP) := [(4294967296, .box 222 [.dat af true]), (4, .box 64 [.dat y63 false]), (5, .box 64 [.dat y63 false]), (25, .arr 3 (.int .i64) false)]
@[reducible] def rZ : Type := Int × Int × Int × Bool × Int × Bool × (Ty.T af) × (Ty.T y63) × (Ty.T y63) × (List (Ty.T (.int .i64))) × Unit
def su (v : rZ) (r : (Ty.T y63)) : Ex × St := (.normal, ax pg fN (v.1, v.2.1, v.2.2.1, v.2.2.2.1, v.2.2.2.2.1, v.2.2.2.2.2.1, v.2.2.2.2.2.2.1, v.2.2.2.2.2.2.2.1, r, v.2.2.2.2.2.2.2.2.2.1, ()))
def rz (v : rZ) {Z : Type} (κ : (Ty.T y63) -> Z) : Z := cond v.2.2.2.2.2.1 (κ (v.2.2.2.2.2.2.2.2.1.1, v.2.2.2.2.2.2.2.2.1.2.1, v.2.2.2.2.2.2.2.2.1.2.2.1, v.2.2.2.2.2.2.2.2.1.2.2.2.1, v.2.2.2.2.2.2.2.2.1.2.2.2.2.1, v.2.2.2.2.2.2.2.2.1.2.2.2.2.2.1, v.2.2.2.2.2.2.2.2.1.2.2.2.2.2.2.1, IntKind.wrap .i64 (v.2.2.2.2.2.2.2.2.1.2.2.2.2.2.2.2.1 + v.1), v.2.2.2.2.2.2.2.2.1.2.2.2.2.2.2.2.2)) (κ v.2.2.2.2.2.2.2.2.1)
def GD (v : rZ) : (Ty.T y63) := rz v id
def Gf (v : rZ) : aJ (Ex × St) := .done (su v (GD v))
theorem Rg : aN Tryz.prog (av [true, true, false, true, true] (aB (pb 5 23) (ae Tryz.f122))) pg fN Gf := aI (lt := .none) (sx := pg) (gx := fN) DQ.ok aj (ah.no _) fun v => Eq.trans (b := rz v (sm (su v))) (by kernel_rfl) (show rz v (sm (su v)) = some (su v (rz v id)) from (tC rfl rfl))
@[reducible] def vn : List SP := .one (.ptr 4294967296 0) :: U2 (.und :: .one (.ptr 4 0) :: .one (.ptr 5 0) :: U16 (U2 (.und :: .one (.own 25) :: oI :: oI :: U32 (U4 (.und :: [])))))
@[reducible] def jE : Type := Int × Int × (Ty.T af) × (Ty.T y63) × (Ty.T y63) × (List (Ty.T (.int .i64))) × Unit
def mO (v : jE) {Z : Type} (κ : Nat × jE -> Option Z) : Option Z := cond (decide (v.2.1 < v.1)) (if 0 <= v.2.1 then (if v.2.1 < ((v.2.2.2.2.2.1).length : Int) then (bt ((v.2.2.2.2.2.1)[(v.2.1).toNat]?) (fun x1 => cond (dm 3 v.2.2.1) (κ (0, (v.1, IntKind.wrap .i64 (v.2.1 + (1 : Int)), (ay 3 v.2.2.1).2, v.2.2.2.1, (GD (x1, v.1, v.2.1, decide (v.2.1 < v.1), x1, (ay 3 v.2.2.1).1, (ay 3 v.2.2.1).2, v.2.2.2.1, v.2.2.2.2.1, v.2.2.2.2.2.1, ())), v.2.2.2.2.2.1, ()))) (none))) else none) else none) (κ (1, (v.1, v.2.1, v.2.2.1, v.2.2.2.1, v.2.2.2.2.1, v.2.2.2.2.2.1, ())))
def oG (v : jE) : Option (Nat × jE) := mO v some
def nV (v : jE) : Nat := v.1.toNat + v.2.1.toNat + v.2.2.1.1.length + v.2.2.2.2.2.1.length + 100
def xi (h0 : Int) (h1 : Int) (h2 : Ty.T af) (h3 : Ty.T y63) (h4 : Ty.T y63) (h5 : List (Ty.T (.int .i64))) (c : Nat) : Bool := iK oG nV (h0, h1, h2, h3, h4, h5, ()) c
def xb (h0 : Int) (h1 : Int) (h2 : Ty.T af) (h3 : Ty.T y63) (h4 : Ty.T y63) (h5 : List (Ty.T (.int .i64))) : jE := iW oG nV (h0, h1, h2, h3, h4, h5, ())
def HU (v : jE) : aJ (Ex × St) := bo oG (nV v) v (ax vn fN) [.exit 0] 0
theorem Ny : bl Tryz.prog (aB (pb 5 23) (ae Tryz.f122)) vn fN HU := aw (lt := (aD [true, true, false, true, true] (aB (pb 5 23) (ae Tryz.f122)) .none (.sum pg fN Gf))) DQ.ok aj (ah.b7 (az (by kernel_rfl)) (ah.no _) Rg) fun n v K => Eq.trans (b := mO v (cW _ _ _ _ _ K)) (by kernel_rfl) (show mO v _ = (mO v some).bind _ from (bC (bI (bI (bO fun x1 => (bC rfl rfl)))) rfl))
@[reducible] def B5 : List SP := .one (.ptr 4294967296 0) :: U2 (.und :: .one (.ptr 4 0) :: .one (.ptr 5 0) :: U32 (U4 (U2 (.one (.dat .bool true) :: U16 (U4 ([]))))))
@[reducible] def oX : List (Nat × GP) := [(4294967296, .box 222 [.dat af true]), (4, .box 64 [.dat y63 false]), (5, .box 64 [.dat y63 false])]
@[reducible] def sQ : Type := Bool × (Ty.T af) × (Ty.T y63) × (Ty.T y63) × Unit
@[reducible] def BC : List SP := .one (.ptr 4294967296 0) :: U2 (.und :: .one (.ptr 4 0) :: .one (.ptr 5 0) :: U32 (U16 (U8 (U2 (.und :: [])))))
def rY (v : sQ) (r : (Ty.T y63)) : Ex × St := (.normal, ax BC oX (v.2.1, v.2.2.1, r, ()))
def sI (v : sQ) {Z : Type} (κ : (Ty.T y63) -> Z) : Z := cond v.1 (κ (v.2.2.2.1.1, v.2.2.2.1.2.1, IntKind.wrap .i64 ((1 : Int) - v.2.2.2.1.2.1), v.2.2.2.1.2.2.2)) (κ v.2.2.2.1)
def FH (v : sQ) : (Ty.T y63) := sI v id
def Gn (v : sQ) : aJ (Ex × St) := .done (rY v (FH v))
theorem So : aN Tryz.prog (av (pb 7 95) (ae Tryz.f122)) B5 oX Gn := aI (lt := .none) (sx := BC) (gx := oX) DQ.ok aj (ah.no _) fun v => Eq.trans (b := sI v (sm (rY v))) (by kernel_rfl) (show sI v (sm (rY v)) = some (rY v (sI v id)) from (tC rfl rfl))
def SX := DQ.l (g := 122) (t := (aD (pb 7 95) (ae Tryz.f122) (aD (pb 5 23) (ae Tryz.f122) .none (.sum vn fN HU)) (.sum B5 oX Gn))) (aQ Tryz.func122 (ah.b7 (az (by kernel_rfl)) (ah.sJ (by kernel_rfl) (az (by kernel_rfl)) (ah.no _) Ny) So))
def fA (a1 : Ty.T af) := (aa 5 (aa 3 (ai [2, 2, 2, 1, 3] (aa 2 a1).2).2).2)
def dF (a0 : Int) (a1 : Ty.T af) := (xb 6 0 (aa 5 (fA a1).2).2 (0, 0, 0, 0, 0, 0, 0, 0, 0, 0, 0, false, false) (a0, (aa 2 a1).1, (aa 2 a1).1, (ai [2, 2, 2, 1, 3] (aa 2 a1).2).1, (aa 3 (ai [2, 2, 2, 1, 3] (aa 2 a1).2).2).1, (fA a1).1, IntKind.wrap .i64 ((1 : Int) + (aa 5 (fA a1).2).1), 0, 0, 0, 0, false, false) [1, 2, 4, 8, 16, 32])
def gA (a0 : Int) (a1 : Ty.T af) := (ai [0, 0, 0, 1] (ai [0, 0, 1, 2] (ay 4 (dF a0 a1).2.2.1).2).2)
def fb (a0 : Int) (a1 : Ty.T af) := (FH ((ay 4 (dF a0 a1).2.2.1).1, (ay 4 (dF a0 a1).2.2.1).2, (dF a0 a1).2.2.2.1, (dF a0 a1).2.2.2.2.1, ()))
def oC (a0 : Int) (a1 : Ty.T af) {Z : Type} (κ : (Ty.T y63) × (Ty.T af) -> Option Z) : Option Z := cond (bB 2 a1) (cond (aV [2, 2, 2, 1, 3] (aa 2 a1).2) (cond (bB 3 (ai [2, 2, 2, 1, 3] (aa 2 a1).2).2) (cond (bB 5 (aa 3 (ai [2, 2, 2, 1, 3] (aa 2 a1).2).2).2) (cond (bB 5 (fA a1).2) (cond (xi 6 0 (aa 5 (fA a1).2).2 (0, 0, 0, 0, 0, 0, 0, 0, 0, 0, 0, false, false) (a0, (aa 2 a1).1, (aa 2 a1).1, (ai [2, 2, 2, 1, 3] (aa 2 a1).2).1, (aa 3 (ai [2, 2, 2, 1, 3] (aa 2 a1).2).2).1, (fA a1).1, IntKind.wrap .i64 ((1 : Int) + (aa 5 (fA a1).2).1), 0, 0, 0, 0, false, false) [1, 2, 4, 8, 16, 32] 0) (cond ((dF a0 a1).2.2.2.2.1.2.2.2.1 != (2 : Int)) (κ ((dF a0 a1).2.2.2.2.1, (dF a0 a1).2.2.1)) (cond (dm 4 (dF a0 a1).2.2.1) (cond (aV [0, 0, 1, 2] (ay 4 (dF a0 a1).2.2.1).2) (cond (aV [0, 0, 0, 1] (ai [0, 0, 1, 2] (ay 4 (dF a0 a1).2.2.1).2).2) (cond (aV [0, 0, 1] (gA a0 a1).2) (cond (dm 4 (ai [0, 0, 1] (gA a0 a1).2).2) (κ (((fb a0 a1).1, (fb a0 a1).2.1, (fb a0 a1).2.2.1, (fb a0 a1).2.2.2.1, (fb a0 a1).2.2.2.2.1, (fb a0 a1).2.2.2.2.2.1, (fb a0 a1).2.2.2.2.2.2.1, (fb a0 a1).2.2.2.2.2.2.2.1, (ai [0, 0, 1, 2] (ay 4 (dF a0 a1).2.2.1).2).1, (gA a0 a1).1, (ai [0, 0, 1] (gA a0 a1).2).1, (fb a0 a1).2.2.2.2.2.2.2.2.2.2.2.1, (ay 4 (ai [0, 0, 1] (gA a0 a1).2).2).1), (ay 4 (ai [0, 0, 1] (gA a0 a1).2).2).2)) (none)) (none)) (none)) (none)) (none))) (none)) (none)) (none)) (none)) (none)) (none)
def dh (a0 : Int) (a1 : Ty.T af) : (Ty.T y63) × (Ty.T af) := (oC a0 a1 some).getD ((Ty.zero y63), (Ty.zero af))
def zC (a0 : Int) (a1 : Ty.T af) : Bool := (oC a0 a1 some).isSome
def X2 : Gen := ⟨[false, false], [.one (.ptr 4294967296 0), oI], [(4294967296, .box 222 [.dat af true])], fun v => .br (zC v.1 v.2.1) (.done (Kp (dh v.1 v.2.1))) .no⟩
theorem D0 : bu Tryz.prog 122 X2 := bH SX.ok aj (az (by kernel_rfl)) ⟨Tryz.f122, ae Tryz.f122, by kernel_rfl, by kernel_rfl⟩ fun v => Eq.trans (b := (oC v.1 v.2.1 (sm Kp))) (by kernel_rfl) (aq (show oC v.1 v.2.1 (sm Kp) = (oC v.1 v.2.1 some).bind _ from by unfold oC; simp only [bb]))
end
end Go.Proofs.YtahlaccdpmddbaaGreat.Vm
