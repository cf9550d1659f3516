/- Contracts. No condition. -/
import Derived.Test.YtahlaccdpmddbaaGreatVmCFnRewritesP2
import Derived.Test.YtahlaccdpmddbaaGreatVmLibThree
namespace Go.Proofs.YtahlaccdpmddbaaGreat.Vm
open Go Go.Proofs.YtahlaccdpmddbaaGreat.Lib
noncomputable section
set_option maxRecDepth 100000
set_option linter.unusedVariables false
def f299 (r : Bool) : AV × Sig := (.one (.bool r), [])
def Ee := (((E0.p mP).p acp).p Z6)
@[reducible] def wo : List SP := .und :: .one (.ptr 1 0) :: .one (.dat .bool true) :: U2 (oI :: .one (.dat .bool true) :: U64 (U64 (U32 (U2 (.und :: [])))))
def El (v : oL) (r : Bool) : Ex × St := (.normal, ax wo bU (v.1, v.2.1, r, v.2.2.2.1, ()))
def uE (v : oL) {Z : Type} (κ : Bool -> Z) : Z := cond v.2.2.1 (κ v.2.2.1) (cond (v.2.1 == (2 : Int)) (κ (v.2.1 == (2 : Int))) (cond (v.2.1 == (4 : Int)) (κ (v.2.1 == (4 : Int))) (κ (v.2.1 == (5 : Int)))))
def CN (v : oL) : Bool := uE v id
def ND (v : oL) : aJ (Ex × St) := .done (El v (CN v))
theorem YB : aN Tryz.prog (av (pb 5 21) (ae Tryz.f299)) wo bU ND := aI (lt := .none) (sx := wo) (gx := bU) Ee.ok aj (ah.no _) fun v => Eq.trans (b := uE v (sm (El v))) (by kernel_rfl) (show uE v (sm (El v)) = some (El v (uE v id)) from (tC rfl (tC rfl (tC rfl rfl))))
@[reducible] def eG : List SP := .und :: .one (.ptr 1 0) :: .one (.dat .bool true) :: U64 (U64 (U32 (U4 (U2 (.und :: [])))))
@[reducible] def eF : List SP := U2 (.one (.dat .bool true) :: U64 (U64 (U32 (U4 (U2 (.und :: []))))))
def Em (v : bX) (r : Bool) : Ex × St := (.normal, ax eF au (r, ()))
def vh (v : bX) {Z : Type} (κ : Bool -> Z) : Z := cond (MV v.2.1) (κ (v.2.1.2.1 == (0 : Int))) (κ false)
def DF (v : bX) : Bool := vh v id
def NQ (v : bX) : aJ (Ex × St) := .done (Em v (DF v))
theorem W7 : aN Tryz.prog (av (pb 6 13) (ae Tryz.f299)) eG bU NQ := aI (lt := .none) (sx := eF) (gx := au) Ee.ok aj (ah.no _) fun v => Eq.trans (b := vh v (sm (Em v))) (by kernel_rfl) (show vh v (sm (Em v)) = some (Em v (vh v id)) from (tC rfl rfl))
def DG (v : bX) (r : Bool) : Ex × St := (.normal, ax eF au (r, ()))
def uk (v : bX) {Z : Type} (κ : Bool -> Z) : Z := cond (MV v.2.1) (κ (bj v.2.1.2.1 1 2147483647)) (κ false)
def Dh (v : bX) : Bool := uk v id
def Oh (v : bX) : aJ (Ex × St) := .done (DG v (Dh v))
theorem Xa : aN Tryz.prog (av (pb 8 61) (ae Tryz.f299)) eG bU Oh := aI (lt := .none) (sx := eF) (gx := au) Ee.ok aj (ah.no _) fun v => Eq.trans (b := uk v (sm (DG v))) (by kernel_rfl) (show uk v (sm (DG v)) = some (DG v (uk v id)) from (tC rfl rfl))
def EE (v : bX) (r : Bool) : Ex × St := (.normal, ax eF au (r, ()))
def vf (v : bX) {Z : Type} (κ : Bool -> Z) : Z := cond (v.2.1.2.1 == (0 : Int)) (cond (v.2.1.2.2.2.2.1 == (0 : Int)) (cond (!v.2.1.2.2.2.2.2.1) (cond (((v.2.1.2.2.2.2.2.2).length : Int) == (0 : Int)) (cond (bj v.2.1.2.2.1 1 99) (cond (v.2.1.2.2.2.1 == (-1 : Int)) (κ true) (cond (v.2.1.2.2.1 == (0 : Int)) (κ (bj v.2.1.2.2.2.1 0 2)) (κ false))) (cond (v.2.1.2.2.1 == (0 : Int)) (κ (bj v.2.1.2.2.2.1 0 2)) (κ false))) (κ false)) (κ false)) (κ false)) (κ false)
def Du (v : bX) : Bool := vf v id
def Sx (v : bX) : aJ (Ex × St) := .done (EE v (Du v))
theorem Xj : aN Tryz.prog (av (pb 10 253) (ae Tryz.f299)) eG bU Sx := aI (lt := .none) (sx := eF) (gx := au) Ee.ok aj (ah.no _) fun v => Eq.trans (b := vf v (sm (EE v))) (by kernel_rfl) (show vf v (sm (EE v)) = some (EE v (vf v id)) from (tC (tC (tC (tC (tC (tC rfl (tC rfl rfl)) (tC rfl rfl)) rfl) rfl) rfl) rfl))
def DB (v : bX) (r : Bool) : Ex × St := (.normal, ax eF au (r, ()))
def u9 (v : bX) {Z : Type} (κ : Bool -> Z) : Z := cond (v.2.1.2.1 == (0 : Int)) (cond (v.2.1.2.2.1 == (0 : Int)) (cond (v.2.1.2.2.2.1 == (-1 : Int)) (cond (!v.2.1.2.2.2.2.2.1) (cond (((v.2.1.2.2.2.2.2.2).length : Int) == (0 : Int)) (κ (bj v.2.1.2.2.2.2.1 1 4)) (κ false)) (κ false)) (κ false)) (κ false)) (κ false)
def CC (v : bX) : Bool := u9 v id
def Su (v : bX) : aJ (Ex × St) := .done (DB v (CC v))
theorem Wz : aN Tryz.prog (av (pb 12 1021) (ae Tryz.f299)) eG bU Su := aI (lt := .none) (sx := eF) (gx := au) Ee.ok aj (ah.no _) fun v => Eq.trans (b := u9 v (sm (DB v))) (by kernel_rfl) (show u9 v (sm (DB v)) = some (DB v (u9 v id)) from (tC (tC (tC (tC (tC rfl rfl) rfl) rfl) rfl) rfl))
def De (v : bX) (r : Bool) : Ex × St := (.normal, ax eF au (r, ()))
def tH (v : bX) {Z : Type} (κ : Bool -> Z) : Z := cond (bj v.2.1.2.1 0 99) (cond (v.2.1.2.2.1 == (0 : Int)) (cond (v.2.1.2.2.2.1 == (-1 : Int)) (cond (v.2.1.2.2.2.2.1 == (0 : Int)) (κ (((v.2.1.2.2.2.2.2.2).length : Int) == (0 : Int))) (κ false)) (κ false)) (κ false)) (κ false)
def Cr (v : bX) : Bool := tH v id
def Sf (v : bX) : aJ (Ex × St) := .done (De v (Cr v))
theorem XK : aN Tryz.prog (av (pb 14 4093) (ae Tryz.f299)) eG bU Sf := aI (lt := .none) (sx := eF) (gx := au) Ee.ok aj (ah.no _) fun v => Eq.trans (b := tH v (sm (De v))) (by kernel_rfl) (show tH v (sm (De v)) = some (De v (tH v id)) from (tC (tC (tC (tC rfl rfl) rfl) rfl) rfl))
@[reducible] def Ef : List SP := .und :: .one (.ptr 1 0) :: .one (.dat .bool true) :: oI :: U64 (U64 (U32 (U4 (U2 ([])))))
@[reducible] def p4 : Type := Bool × Int × (Ty.T bm) × Unit
def tj (v : p4) {Z : Type} (κ : Nat × p4 -> Option Z) : Option Z := cond (decide (v.2.1 < ((v.2.2.1.2.2.2.2.2.2).length : Int))) (if 0 <= v.2.1 then (bt ((v.2.2.1.2.2.2.2.2.2)[(v.2.1).toNat]?) (fun x1 => cond (!(mz x1)) (κ (1, (false, v.2.1, v.2.2.1, ()))) (κ (0, (v.1, IntKind.wrap .i64 (v.2.1 + (1 : Int)), v.2.2.1, ()))))) else none) (κ (2, (v.1, v.2.1, v.2.2.1, ())))
def tc (v : p4) : Option (Nat × p4) := tj v some
def xr (v : p4) : Nat := v.2.1.toNat + v.2.2.1.2.2.2.2.2.2.length + 100
def yg (h0 : Bool) (h1 : Int) (h2 : Ty.T bm) (c : Nat) : Bool := iK tc xr (h0, h1, h2, ()) c
def Ad (h0 : Bool) (h1 : Int) (h2 : Ty.T bm) : p4 := iW tc xr (h0, h1, h2, ())
def Qh (v : p4) : aJ (Ex × St) := bo tc (xr v) v (ax Ef bU) [.ret, .exit 1] 0
theorem Xh : bl Tryz.prog (aB (pb 17 81917) (ae Tryz.f299)) Ef bU Qh := aw (lt := .none) Ee.ok aj (ah.no _) fun n v K => Eq.trans (b := tj v (cW _ _ _ _ _ K)) (by kernel_rfl) (show tj v _ = (tj v some).bind _ from (bC (bI (bO fun x1 => (bC rfl rfl))) rfl))
def Eh (v : bX) (r : Bool) : Ex × St := (.normal, ax eF au (r, ()))
def s7 (v : bX) {Z : Type} (κ : Bool -> Z) : Z := cond (v.2.1.2.1 == (0 : Int)) (cond (v.2.1.2.2.1 == (0 : Int)) (cond (v.2.1.2.2.2.1 == (-1 : Int)) (cond (v.2.1.2.2.2.2.1 == (0 : Int)) (cond (!v.2.1.2.2.2.2.2.1) (κ (bj ((v.2.1.2.2.2.2.2.2).length : Int) 1 3)) (κ false)) (κ false)) (κ false)) (κ false)) (κ false)
def Dl (v : bX) : Bool := s7 v id
def NW (v : bX) : aJ (Ex × St) := .done (Eh v (Dl v))
theorem W9 : aN Tryz.prog (av (pb 17 49149) (ae Tryz.f299)) eG bU NW := aI (lt := .none) (sx := eF) (gx := au) Ee.ok aj (ah.no _) fun v => Eq.trans (b := s7 v (sm (Eh v))) (by kernel_rfl) (show s7 v (sm (Eh v)) = some (Eh v (s7 v id)) from (tC (tC (tC (tC (tC rfl rfl) rfl) rfl) rfl) rfl))
def Z9 := Ee.l (g := 299) (t := (aD (pb 17 49149) (ae Tryz.f299) (aD (pb 17 81917) (ae Tryz.f299) (aD (pb 14 4093) (ae Tryz.f299) (aD (pb 12 1021) (ae Tryz.f299) (aD (pb 10 253) (ae Tryz.f299) (aD (pb 8 61) (ae Tryz.f299) (aD (pb 6 13) (ae Tryz.f299) (aD (pb 5 21) (ae Tryz.f299) .none (.sum wo bU ND)) (.sum eG bU NQ)) (.sum eG bU Oh)) (.sum eG bU Sx)) (.sum eG bU Su)) (.sum eG bU Sf)) (.sum Ef bU Qh)) (.sum eG bU NW))) (aQ Tryz.func299 (ah.b7 (az (by kernel_rfl)) (ah.sJ (by kernel_rfl) (az (by kernel_rfl)) (ah.b7 (az (by kernel_rfl)) (ah.b7 (az (by kernel_rfl)) (ah.b7 (az (by kernel_rfl)) (ah.b7 (az (by kernel_rfl)) (ah.b7 (az (by kernel_rfl)) (ah.b7 (az (by kernel_rfl)) (ah.no _) YB) W7) Xa) Xj) Wz) XK) Xh) W9))
def t299 (a0 : Ty.T bm) {Z : Type} (κ : Bool -> Option Z) : Option Z := cond (CN (false, a0.1, (a0.1 == (1 : Int)), a0, ())) (κ (DF (false, a0, ()))) (cond (a0.1 == (3 : Int)) (κ (Dh (false, a0, ()))) (cond (a0.1 == (6 : Int)) (κ (Du (false, a0, ()))) (cond (a0.1 == (7 : Int)) (κ (CC (false, a0, ()))) (cond (a0.1 == (8 : Int)) (κ (Cr (false, a0, ()))) (cond (a0.1 == (9 : Int)) (cond (yg false 0 a0 0) (κ (Ad false 0 a0).1) (cond (yg false 0 a0 1) (κ (Dl ((Ad false 0 a0).1, (Ad false 0 a0).2.2.1, ()))) (none))) (κ false))))))
def Ak (a0 : Ty.T bm) : Bool := (t299 a0 some).getD false
def d299 (a0 : Ty.T bm) : Bool := (t299 a0 some).isSome
def ah7 : Prim := ⟨[.agg [.dat bm true]], fun v => .br (d299 v.1) (.done (f299 (Ak v.1))) .no⟩
theorem abZ : PO 299 ah7 := pK Z9 fun v => Eq.trans (b := (t299 v.1 (sm f299))) (by kernel_rfl) (aq (show t299 v.1 (sm f299) = (t299 v.1 some).bind _ from by unfold t299; simp only [bb]))
def f242 (r : Bool) : AV × Sig := (.one (.bool r), [])
def aiX := (((((E0.p mP).p QN).p VI).p VT).p abZ)
def t242 (a0 : Ty.T ab) {Z : Type} (κ : Bool -> Option Z) : Option Z := cond (!(bj a0.1 1 99)) (κ false) (cond (!(bj a0.2.1 0 2)) (κ false) (cond (!(bj a0.2.2.1 0 99)) (κ false) (cond (!(bj a0.2.2.2.1 0 4)) (κ false) (cond (!(bj a0.2.2.2.2.2.2.2.1 (-1) 9999)) (κ false) (cond (!(bj a0.2.2.2.2.2.2.2.2 (-1) 2147483647)) (κ false) (cond (a0.2.2.2.1 == (0 : Int)) (cond (a0.2.2.1 == (0 : Int)) (κ false) (cond (a0.2.2.2.2.2.2.1.1 == (2 : Int)) (cond (decide (a0.2.2.2.2.2.2.2.2 < (0 : Int))) (κ false) (cond (wg a0.2.2.2.2.1) (cond (xG a0.2.2.2.2.2.1) (cond (d299 a0.2.2.2.2.2.2.1) (cond (Ak a0.2.2.2.2.2.2.1) (κ (mB a0.2.2.2.2.2.2.1 a0.2.2.2.2.1.1)) (κ false)) (none)) (κ false)) (κ false))) (cond (wg a0.2.2.2.2.1) (cond (xG a0.2.2.2.2.2.1) (cond (d299 a0.2.2.2.2.2.2.1) (cond (Ak a0.2.2.2.2.2.2.1) (κ (mB a0.2.2.2.2.2.2.1 a0.2.2.2.2.1.1)) (κ false)) (none)) (κ false)) (κ false)))) (cond (a0.2.2.2.2.2.2.1.1 == (2 : Int)) (cond (decide (a0.2.2.2.2.2.2.2.2 < (0 : Int))) (κ false) (cond (wg a0.2.2.2.2.1) (cond (xG a0.2.2.2.2.2.1) (cond (d299 a0.2.2.2.2.2.2.1) (cond (Ak a0.2.2.2.2.2.2.1) (κ (mB a0.2.2.2.2.2.2.1 a0.2.2.2.2.1.1)) (κ false)) (none)) (κ false)) (κ false))) (cond (wg a0.2.2.2.2.1) (cond (xG a0.2.2.2.2.2.1) (cond (d299 a0.2.2.2.2.2.2.1) (cond (Ak a0.2.2.2.2.2.2.1) (κ (mB a0.2.2.2.2.2.2.1 a0.2.2.2.2.1.1)) (κ false)) (none)) (κ false)) (κ false)))))))))
def eg (a0 : Ty.T ab) : Bool := (t242 a0 some).getD false
def d242 (a0 : Ty.T ab) : Bool := (t242 a0 some).isSome
def aeR : Prim := ⟨[.agg [.dat ab true]], fun v => .br (d242 v.1) (.done (f242 (eg v.1))) .no⟩
theorem Sa : PO 242 aeR := pK aiX fun v => Eq.trans (b := (t242 v.1 (sm f242))) (by kernel_rfl) (aq (show t242 v.1 (sm f242) = (t242 v.1 some).bind _ from by unfold t242; simp only [bb]))
def f309 (r : Bool) : AV × Sig := (.one (.bool r), [])
def agC := E0
def Zy (a0 : Ty.T ab) (a1 : Int) : Option (AV × Sig) := cond (a0.2.2.2.2.2.2.2.2 != (0 : Int)) (cond (a0.2.2.2.2.2.2.2.1 == (-1 : Int)) (some (.one (.bool true), [])) (some (.one (.bool (decide (a0.2.2.2.2.2.2.2.1 ≥ a1))), []))) (some (.one (.bool false), []))
def Ga (a0 : Ty.T ab) (a1 : Int) : Bool := cond (a0.2.2.2.2.2.2.2.2 != (0 : Int)) (cond (a0.2.2.2.2.2.2.2.1 == (-1 : Int)) (true) (decide (a0.2.2.2.2.2.2.2.1 ≥ a1))) (false)
theorem afM (a0 : Ty.T ab) (a1 : Int) : Zy a0 a1 = some (f309 (Ga a0 a1)) := (tC (tC rfl rfl) rfl)
def afX : Prim := ⟨[.agg [.dat ab true], oI], fun v => .done (f309 (Ga v.1 v.2.1))⟩
theorem aa2 : PO 309 afX := pK agC fun v => Eq.trans (b := Zy v.1 v.2.1) (by kernel_rfl) (afM v.1 v.2.1)
def f310 (r : Bool) : AV × Sig := (.one (.bool r), [])
def aeD := E0
def aad (a0 : Ty.T ab) (a1 : Ty.T y27) : Option (AV × Sig) := cond (a0.2.2.2.1 != (0 : Int)) (some (.one (.bool true), [])) (cond (a0.2.2.1 == a1.2.1) (some (.one (.bool true), [])) (some (.one (.bool (a0.2.2.1 == a1.2.2.1)), [])))
def L3 (a0 : Ty.T ab) (a1 : Ty.T y27) : Bool := cond (a0.2.2.2.1 != (0 : Int)) (true) (cond (a0.2.2.1 == a1.2.1) (true) ((a0.2.2.1 == a1.2.2.1)))
theorem afv (a0 : Ty.T ab) (a1 : Ty.T y27) : aad a0 a1 = some (f310 (L3 a0 a1)) := (tC rfl (tC rfl rfl))
def agN : Prim := ⟨[.agg [.dat ab true], .agg [.dat y27 true]], fun v => .done (f310 (L3 v.1 v.2.1))⟩
theorem ab8 : PO 310 agN := pK aeD fun v => Eq.trans (b := aad v.1 v.2.1) (by kernel_rfl) (afv v.1 v.2.1)
def f331 (r : Int) : AV × Sig := (.one (.int .i64 r), [])
def abz := E0
@[reducible] def Ck : List SP := .und :: oI :: .one (.ptr 2 0) :: .und :: oI :: oI :: oI :: U16 (U8 (U2 (.und :: [])))
@[reducible] def gT : List (Nat × GP) := [(2, .box 37 [.dat y36 true])]
@[reducible] def fk : Type := Int × Int × Int × Int × (Ty.T y36) × Unit
def uy (v : fk) {Z : Type} (κ : Nat × fk -> Option Z) : Option Z := cond (decide (v.2.2.2.1 < ((v.2.2.2.2.1.1).length : Int))) (if 0 <= v.2.2.2.1 then (bt ((v.2.2.2.2.1.1)[(v.2.2.2.1).toNat]?) (fun x1 => cond (x1.2.2.2.1 == (2 : Int)) (if 0 <= v.2.2.2.1 then (bt ((v.2.2.2.2.1.1)[(v.2.2.2.1).toNat]?) (fun x2 => cond (x2.2.2.1 == v.1) (κ (0, (v.1, v.2.1, IntKind.wrap .i64 (v.2.2.1 + (1 : Int)), IntKind.wrap .i64 (v.2.2.2.1 + (1 : Int)), v.2.2.2.2.1, ()))) (κ (0, (v.1, v.2.1, v.2.2.1, IntKind.wrap .i64 (v.2.2.2.1 + (1 : Int)), v.2.2.2.2.1, ()))))) else none) (κ (0, (v.1, v.2.1, v.2.2.1, IntKind.wrap .i64 (v.2.2.2.1 + (1 : Int)), v.2.2.2.2.1, ()))))) else none) (κ (1, (v.1, v.2.1, v.2.2.1, v.2.2.2.1, v.2.2.2.2.1, ())))
def uz (v : fk) : Option (Nat × fk) := uy v some
def xn (v : fk) : Nat := v.1.toNat + v.2.1.toNat + v.2.2.1.toNat + v.2.2.2.1.toNat + v.2.2.2.2.1.1.length + v.2.2.2.2.1.2.1.length + 100
def ED (h0 : Int) (h1 : Int) (h2 : Int) (h3 : Int) (h4 : Ty.T y36) (c : Nat) : Bool := iK uz xn (h0, h1, h2, h3, h4, ()) c
def Kg (h0 : Int) (h1 : Int) (h2 : Int) (h3 : Int) (h4 : Ty.T y36) : fk := iW uz xn (h0, h1, h2, h3, h4, ())
def PX (v : fk) : aJ (Ex × St) := bo uz (xn v) v (ax Ck gT) [.exit 0] 0
theorem Xn : bl Tryz.prog (aB (pb 4 11) (ae Tryz.f331)) Ck gT PX := aw (lt := .none) abz.ok aj (ah.no _) fun n v K => Eq.trans (b := uy v (cW _ _ _ _ _ K)) (by kernel_rfl) (show uy v _ = (uy v some).bind _ from (bC (bI (bO fun x1 => (bC (bI (bO fun x2 => (bC rfl rfl))) rfl))) rfl))
def Zw := abz.l (g := 331) (t := (cv (pb 4 11) (ae Tryz.f331) .none (.sum Ck gT PX))) (aQ Tryz.func331 (ah.put (az (by kernel_rfl)) (ah.no _) Xn))
def aaM (a0 : Ty.T y36) (a1 : Int) : Option (AV × Sig) := cond (ED a1 0 0 0 a0 0) (some (.one (.int .i64 (Kg a1 0 0 0 a0).2.2.1), [])) (none)
def N5 (a0 : Ty.T y36) (a1 : Int) : Int := cond (ED a1 0 0 0 a0 0) ((Kg a1 0 0 0 a0).2.2.1) (0)
def d331 (a0 : Ty.T y36) (a1 : Int) : Bool := cond (ED a1 0 0 0 a0 0) (true) (false)
theorem afA (a0 : Ty.T y36) (a1 : Int) : aaM a0 a1 = cond (d331 a0 a1) (some (f331 (N5 a0 a1))) none := (pC (pS _) (pN _))
def ai0 : Prim := ⟨[.agg [.dat y36 true], oI], fun v => .br (d331 v.1 v.2.1) (.done (f331 (N5 v.1 v.2.1))) .no⟩
theorem ab7 : PO 331 ai0 := pK Zw fun v => Eq.trans (b := aaM v.1 v.2.1) (by kernel_rfl) (afA v.1 v.2.1)
def f332 (r : Int) : AV × Sig := (.one (.int .i64 r), [])
def ZO := E0
@[reducible] def DU : List SP := .und :: oI :: .one (.ptr 2 0) :: .und :: oI :: oI :: oI :: U32 (U2 (.und :: []))
def uT (v : fk) {Z : Type} (κ : Nat × fk -> Option Z) : Option Z := cond (decide (v.2.2.2.1 < ((v.2.2.2.2.1.1).length : Int))) (if 0 <= v.2.2.2.1 then (bt ((v.2.2.2.2.1.1)[(v.2.2.2.1).toNat]?) (fun x1 => cond (x1.2.2.2.1 == (2 : Int)) (if 0 <= v.2.2.2.1 then (bt ((v.2.2.2.2.1.1)[(v.2.2.2.1).toNat]?) (fun x2 => cond (x2.2.2.1 == v.1) (if 0 <= v.2.2.2.1 then (bt ((v.2.2.2.2.1.1)[(v.2.2.2.1).toNat]?) (fun x3 => cond x3.2.2.2.2.2.2.2.2.2.2.2.2 (κ (0, (v.1, v.2.1, IntKind.wrap .i64 (v.2.2.1 + (1 : Int)), IntKind.wrap .i64 (v.2.2.2.1 + (1 : Int)), v.2.2.2.2.1, ()))) (κ (0, (v.1, v.2.1, v.2.2.1, IntKind.wrap .i64 (v.2.2.2.1 + (1 : Int)), v.2.2.2.2.1, ()))))) else none) (κ (0, (v.1, v.2.1, v.2.2.1, IntKind.wrap .i64 (v.2.2.2.1 + (1 : Int)), v.2.2.2.2.1, ()))))) else none) (κ (0, (v.1, v.2.1, v.2.2.1, IntKind.wrap .i64 (v.2.2.2.1 + (1 : Int)), v.2.2.2.2.1, ()))))) else none) (κ (1, (v.1, v.2.1, v.2.2.1, v.2.2.2.1, v.2.2.2.2.1, ())))
def uH (v : fk) : Option (Nat × fk) := uT v some
def y5 (v : fk) : Nat := v.1.toNat + v.2.1.toNat + v.2.2.1.toNat + v.2.2.2.1.toNat + v.2.2.2.2.1.1.length + v.2.2.2.2.1.2.1.length + 100
def DC (h0 : Int) (h1 : Int) (h2 : Int) (h3 : Int) (h4 : Ty.T y36) (c : Nat) : Bool := iK uH y5 (h0, h1, h2, h3, h4, ()) c
def JK (h0 : Int) (h1 : Int) (h2 : Int) (h3 : Int) (h4 : Ty.T y36) : fk := iW uH y5 (h0, h1, h2, h3, h4, ())
def O1 (v : fk) : aJ (Ex × St) := bo uH (y5 v) v (ax DU gT) [.exit 0] 0
theorem Xf : bl Tryz.prog (aB (pb 4 11) (ae Tryz.f332)) DU gT O1 := aw (lt := .none) ZO.ok aj (ah.no _) fun n v K => Eq.trans (b := uT v (cW _ _ _ _ _ K)) (by kernel_rfl) (show uT v _ = (uT v some).bind _ from (bC (bI (bO fun x1 => (bC (bI (bO fun x2 => (bC (bI (bO fun x3 => (bC rfl rfl))) rfl))) rfl))) rfl))
def acz := ZO.l (g := 332) (t := (cv (pb 4 11) (ae Tryz.f332) .none (.sum DU gT O1))) (aQ Tryz.func332 (ah.put (az (by kernel_rfl)) (ah.no _) Xf))
def ab6 (a0 : Ty.T y36) (a1 : Int) : Option (AV × Sig) := cond (DC a1 0 0 0 a0 0) (some (.one (.int .i64 (JK a1 0 0 0 a0).2.2.1), [])) (none)
def NY (a0 : Ty.T y36) (a1 : Int) : Int := cond (DC a1 0 0 0 a0 0) ((JK a1 0 0 0 a0).2.2.1) (0)
def d332 (a0 : Ty.T y36) (a1 : Int) : Bool := cond (DC a1 0 0 0 a0 0) (true) (false)
theorem ajm (a0 : Ty.T y36) (a1 : Int) : ab6 a0 a1 = cond (d332 a0 a1) (some (f332 (NY a0 a1))) none := (pC (pS _) (pN _))
def aia : Prim := ⟨[.agg [.dat y36 true], oI], fun v => .br (d332 v.1 v.2.1) (.done (f332 (NY v.1 v.2.1))) .no⟩
theorem abh : PO 332 aia := pK acz fun v => Eq.trans (b := ab6 v.1 v.2.1) (by kernel_rfl) (ajm v.1 v.2.1)
def f311 (r : Bool) : AV × Sig := (.one (.bool r), [])
def aho := ((((E0.p mP).p VT).p ab7).p abh)
def t311 (a0 : Ty.T y36) (a1 : Int) (a2 : Ty.T aT) {Z : Type} (κ : Bool -> Option Z) : Option Z := cond (!(xG a2)) (κ false) (cond (!(bj a1 0 (IntKind.wrap .i64 (((a0.2.1).length : Int) - (1 : Int))))) (κ false) (cond (a2.1 == (1 : Int)) (if 0 <= a1 then (bt ((a0.2.1)[(a1).toNat]?) (fun x1 => κ (decide (x1.1 <= a2.2)))) else none) (cond (a2.1 == (2 : Int)) (cond (d331 a0 a1) (κ (decide ((N5 a0 a1) ≥ a2.2))) (none)) (cond (a2.1 == (3 : Int)) (κ (a0.2.2.1 == a1)) (cond (a2.1 == (4 : Int)) (cond (d332 a0 a1) (κ (decide ((NY a0 a1) ≥ a2.2))) (none)) (κ true))))))
def M3 (a0 : Ty.T y36) (a1 : Int) (a2 : Ty.T aT) : Bool := (t311 a0 a1 a2 some).getD false
def d311 (a0 : Ty.T y36) (a1 : Int) (a2 : Ty.T aT) : Bool := (t311 a0 a1 a2 some).isSome
def ae6 : Prim := ⟨[.agg [.dat y36 true], oI, .agg [.dat aT true]], fun v => .br (d311 v.1 v.2.1 v.2.2.1) (.done (f311 (M3 v.1 v.2.1 v.2.2.1))) .no⟩
theorem aat : PO 311 ae6 := pK aho fun v => Eq.trans (b := (t311 v.1 v.2.1 v.2.2.1 (sm f311))) (by kernel_rfl) (aq (show t311 v.1 v.2.1 v.2.2.1 (sm f311) = (t311 v.1 v.2.1 v.2.2.1 some).bind _ from by unfold t311; simp only [bb]))
def f279 (r : Int) : AV × Sig := (.one (.int .i64 r), [])
def acy := E0
@[reducible] def D5 : List SP := .und :: oI :: .one (.ptr 2 0) :: .und :: oI :: oI :: U16 ([])
@[reducible] def qF : Type := Int × Int × Int × (Ty.T y36) × Unit
def tL (v : qF) {Z : Type} (κ : Nat × qF -> Option Z) : Option Z := cond (decide (v.2.2.1 < ((v.2.2.2.1.1).length : Int))) (if 0 <= v.2.2.1 then (bt ((v.2.2.2.1.1)[(v.2.2.1).toNat]?) (fun x1 => cond (x1.1 == v.1) (κ (1, (v.1, v.2.2.1, v.2.2.1, v.2.2.2.1, ()))) (κ (0, (v.1, v.2.1, IntKind.wrap .i64 (v.2.2.1 + (1 : Int)), v.2.2.2.1, ()))))) else none) (κ (2, (v.1, v.2.1, v.2.2.1, v.2.2.2.1, ())))
def uv (v : qF) : Option (Nat × qF) := tL v some
def xF (v : qF) : Nat := v.1.toNat + v.2.1.toNat + v.2.2.1.toNat + v.2.2.2.1.1.length + v.2.2.2.1.2.1.length + 100
def me (h0 : Int) (h1 : Int) (h2 : Int) (h3 : Ty.T y36) (c : Nat) : Bool := iK uv xF (h0, h1, h2, h3, ()) c
def Kk (h0 : Int) (h1 : Int) (h2 : Int) (h3 : Ty.T y36) : qF := iW uv xF (h0, h1, h2, h3, ())
def N2 (v : qF) : aJ (Ex × St) := bo uv (xF v) v (ax D5 gT) [.ret, .exit 0] 0
theorem XZ : bl Tryz.prog (aB (pb 3 5) (ae Tryz.f279)) D5 gT N2 := aw (lt := .none) acy.ok aj (ah.no _) fun n v K => Eq.trans (b := tL v (cW _ _ _ _ _ K)) (by kernel_rfl) (show tL v _ = (tL v some).bind _ from (bC (bI (bO fun x1 => (bC rfl rfl))) rfl))
def ac5 := acy.l (g := 279) (t := (cv (pb 3 5) (ae Tryz.f279) .none (.sum D5 gT N2))) (aQ Tryz.func279 (ah.put (az (by kernel_rfl)) (ah.no _) XZ))
def aa5 (a0 : Ty.T y36) (a1 : Int) : Option (AV × Sig) := cond (me a1 0 0 a0 0) (some (.one (.int .i64 (Kk a1 0 0 a0).2.1), [])) (cond (me a1 0 0 a0 1) (some (.one (.int .i64 (-1)), [])) (none))
def kl (a0 : Ty.T y36) (a1 : Int) : Int := cond (me a1 0 0 a0 0) ((Kk a1 0 0 a0).2.1) (cond (me a1 0 0 a0 1) ((-1)) (0))
def d279 (a0 : Ty.T y36) (a1 : Int) : Bool := cond (me a1 0 0 a0 0) (true) (cond (me a1 0 0 a0 1) (true) (false))
theorem aji (a0 : Ty.T y36) (a1 : Int) : aa5 a0 a1 = cond (d279 a0 a1) (some (f279 (kl a0 a1))) none := (pC (pS _) (pC (pS _) (pN _)))
def ahH : Prim := ⟨[.agg [.dat y36 true], oI], fun v => .br (d279 v.1 v.2.1) (.done (f279 (kl v.1 v.2.1))) .no⟩
theorem We : PO 279 ahH := pK ac5 fun v => Eq.trans (b := aa5 v.1 v.2.1) (by kernel_rfl) (aji v.1 v.2.1)
def f270 (r : Int) : AV × Sig := (.one (.int .i64 r), [])
def ahE := ((E0.p mP).p We)
def ZP (a0 : Ty.T y36) (a1 : Ty.T y27) : Option (AV × Sig) := cond (a1.2.2.1 == (0 : Int)) (cond (!(bj a1.2.2.2.1 0 (IntKind.wrap .i64 (((a0.2.1).length : Int) - (1 : Int))))) (some (.one (.int .i64 (-1)), [])) (some (.one (.int .i64 a1.2.2.2.1), []))) (cond (d279 a0 a1.2.2.1) (cond (decide ((kl a0 a1.2.2.1) < (0 : Int))) (some (.one (.int .i64 (-1)), [])) (if 0 <= (kl a0 a1.2.2.1) then (bt ((a0.1)[(kl a0 a1.2.2.1).toNat]?) (fun x1 => some (.one (.int .i64 x1.2.2.1), []))) else none)) (none))
def lI (a0 : Ty.T y36) (a1 : Ty.T y27) : Int := cond (a1.2.2.1 == (0 : Int)) (cond (!(bj a1.2.2.2.1 0 (IntKind.wrap .i64 (((a0.2.1).length : Int) - (1 : Int))))) ((-1)) (a1.2.2.2.1)) (cond (d279 a0 a1.2.2.1) (cond (decide ((kl a0 a1.2.2.1) < (0 : Int))) ((-1)) (rV ((a0.1)[(kl a0 a1.2.2.1).toNat]?) 0 (fun x1 => x1.2.2.1))) (0))
def d270 (a0 : Ty.T y36) (a1 : Ty.T y27) : Bool := cond (a1.2.2.1 == (0 : Int)) (cond (!(bj a1.2.2.2.1 0 (IntKind.wrap .i64 (((a0.2.1).length : Int) - (1 : Int))))) (true) (true)) (cond (d279 a0 a1.2.2.1) (cond (decide ((kl a0 a1.2.2.1) < (0 : Int))) (true) (decide (0 <= (kl a0 a1.2.2.1)) && (pB ((a0.1)[(kl a0 a1.2.2.1).toNat]?) (fun x1 => true)))) (false))
theorem agr (a0 : Ty.T y36) (a1 : Ty.T y27) : ZP a0 a1 = cond (d270 a0 a1) (some (f270 (lI a0 a1))) none := (pC (pC (pS _) (pS _)) (pC (pC (pS _) (pI (pO fun x1 => (pS _)))) (pN _)))
def aiP : Prim := ⟨[.agg [.dat y36 true], .agg [.dat y27 true]], fun v => .br (d270 v.1 v.2.1) (.done (f270 (lI v.1 v.2.1))) .no⟩
theorem VL : PO 270 aiP := pK ahE fun v => Eq.trans (b := ZP v.1 v.2.1) (by kernel_rfl) (agr v.1 v.2.1)
def f333 (r : Bool) : AV × Sig := (.one (.bool r), [])
def ahN := (E0.p VL)
def KI (a0 : Ty.T y36) (a1 : Int) (a2 : Ty.T bT) (a3 : Ty.T y27) {Z : Type} (κ : Bool -> Option Z) : Option Z := cond (d270 a0 a3) (cond ((lI a0 a3) == (-1 : Int)) (κ false) (cond (a2.2.1 == (1 : Int)) (cond ((lI a0 a3) != a1) (κ false) (cond (a2.2.1 == (2 : Int)) (cond ((lI a0 a3) == a1) (κ false) (cond (a2.2.2.2.2.1 == (0 : Int)) (κ true) (κ (a2.2.2.2.2.1 == a3.2.2.1)))) (cond (a2.2.2.2.2.1 == (0 : Int)) (κ true) (κ (a2.2.2.2.2.1 == a3.2.2.1))))) (cond (a2.2.1 == (2 : Int)) (cond ((lI a0 a3) == a1) (κ false) (cond (a2.2.2.2.2.1 == (0 : Int)) (κ true) (κ (a2.2.2.2.2.1 == a3.2.2.1)))) (cond (a2.2.2.2.2.1 == (0 : Int)) (κ true) (κ (a2.2.2.2.2.1 == a3.2.2.1)))))) (none)
def Mw (a0 : Ty.T y36) (a1 : Int) (a2 : Ty.T bT) (a3 : Ty.T y27) : Bool := (KI a0 a1 a2 a3 some).getD false
def d333 (a0 : Ty.T y36) (a1 : Int) (a2 : Ty.T bT) (a3 : Ty.T y27) : Bool := (KI a0 a1 a2 a3 some).isSome
def af8 : Prim := ⟨[.agg [.dat y36 true], oI, .agg [.dat bT true], .agg [.dat y27 true]], fun v => .br (d333 v.1 v.2.1 v.2.2.1 v.2.2.2.1) (.done (f333 (Mw v.1 v.2.1 v.2.2.1 v.2.2.2.1))) .no⟩
theorem aaP : PO 333 af8 := pK ahN fun v => Eq.trans (b := (KI v.1 v.2.1 v.2.2.1 v.2.2.2.1 (sm f333))) (by kernel_rfl) (aq (show KI v.1 v.2.1 v.2.2.1 v.2.2.2.1 (sm f333) = (KI v.1 v.2.1 v.2.2.1 v.2.2.2.1 some).bind _ from by unfold KI; simp only [bb]))
def f315 (r : (Ty.T y63)) : AV × Sig := (.agg (y63.cells false r), [])
def aeU := (E0.p We)
def FX (a0 : Ty.T y36) (a1 : Ty.T y27) {Z : Type} (κ : (Ty.T y63) -> Option Z) : Option Z := cond (d279 a0 a1.2.1) (cond (a1.1 != (1 : Int)) (κ (0, 0, 0, 0, 0, 0, 0, 0, 0, 0, 0, false, false)) (cond (decide ((kl a0 a1.2.1) < (0 : Int))) (κ (0, 0, 0, 0, 0, 0, 0, 0, 0, 0, 0, false, false)) (if 0 <= (kl a0 a1.2.1) then (bt ((a0.1)[(kl a0 a1.2.1).toNat]?) (fun x1 => κ x1)) else none))) (none)
def Kf (a0 : Ty.T y36) (a1 : Ty.T y27) : (Ty.T y63) := (FX a0 a1 some).getD (Ty.zero y63)
def d315 (a0 : Ty.T y36) (a1 : Ty.T y27) : Bool := (FX a0 a1 some).isSome
def ahU : Prim := ⟨[.agg [.dat y36 true], .agg [.dat y27 true]], fun v => .br (d315 v.1 v.2.1) (.done (f315 (Kf v.1 v.2.1))) .no⟩
theorem adL : PO 315 ahU := pK aeU fun v => Eq.trans (b := (FX v.1 v.2.1 (sm f315))) (by kernel_rfl) (aq (show FX v.1 v.2.1 (sm f315) = (FX v.1 v.2.1 some).bind _ from (bC (bC rfl (bC rfl (bI (bO fun x1 => rfl)))) rfl)))
def f334 (r : Bool) : AV × Sig := (.one (.bool r), [])
def afq := (E0.p adL)
def aa3 (a0 : Ty.T y36) (a1 : Ty.T bT) (a2 : Ty.T y27) : Option (AV × Sig) := cond (a1.2.2.1 == (0 : Int)) (cond (d315 a0 a2) (some (.one (.bool ((IntKind.wrap .i64 ((BitVec.ofInt (IntKind.bits .i64) (Kf a0 a2).2.2.2.2.2.2.2.1 &&& BitVec.ofInt (IntKind.bits .i64) a1.2.2.2.1).toNat : Int)) == a1.2.2.2.1)), [])) (none)) (cond (a1.2.2.1 == a2.2.1) (cond (d315 a0 a2) (some (.one (.bool ((IntKind.wrap .i64 ((BitVec.ofInt (IntKind.bits .i64) (Kf a0 a2).2.2.2.2.2.2.2.1 &&& BitVec.ofInt (IntKind.bits .i64) a1.2.2.2.1).toNat : Int)) == a1.2.2.2.1)), [])) (none)) (some (.one (.bool false), [])))
def Iv (a0 : Ty.T y36) (a1 : Ty.T bT) (a2 : Ty.T y27) : Bool := cond (a1.2.2.1 == (0 : Int)) (cond (d315 a0 a2) (((IntKind.wrap .i64 ((BitVec.ofInt (IntKind.bits .i64) (Kf a0 a2).2.2.2.2.2.2.2.1 &&& BitVec.ofInt (IntKind.bits .i64) a1.2.2.2.1).toNat : Int)) == a1.2.2.2.1)) (false)) (cond (a1.2.2.1 == a2.2.1) (cond (d315 a0 a2) (((IntKind.wrap .i64 ((BitVec.ofInt (IntKind.bits .i64) (Kf a0 a2).2.2.2.2.2.2.2.1 &&& BitVec.ofInt (IntKind.bits .i64) a1.2.2.2.1).toNat : Int)) == a1.2.2.2.1)) (false)) (false))
def d334 (a0 : Ty.T y36) (a1 : Ty.T bT) (a2 : Ty.T y27) : Bool := cond (a1.2.2.1 == (0 : Int)) (cond (d315 a0 a2) (true) (false)) (cond (a1.2.2.1 == a2.2.1) (cond (d315 a0 a2) (true) (false)) (true))
theorem afV (a0 : Ty.T y36) (a1 : Ty.T bT) (a2 : Ty.T y27) : aa3 a0 a1 a2 = cond (d334 a0 a1 a2) (some (f334 (Iv a0 a1 a2))) none := (pC (pC (pS _) (pN _)) (pC (pC (pS _) (pN _)) (pS _)))
def ag8 : Prim := ⟨[.agg [.dat y36 true], .agg [.dat bT true], .agg [.dat y27 true]], fun v => .br (d334 v.1 v.2.1 v.2.2.1) (.done (f334 (Iv v.1 v.2.1 v.2.2.1))) .no⟩
theorem acj : PO 334 ag8 := pK afq fun v => Eq.trans (b := aa3 v.1 v.2.1 v.2.2.1) (by kernel_rfl) (afV v.1 v.2.1 v.2.2.1)
def f312 (r : Bool) : AV × Sig := (.one (.bool r), [])
def aiE := ((((E0.p LO).p VI).p aaP).p acj)
def ab9 (a0 : Ty.T y36) (a1 : Int) (a2 : Ty.T bT) (a3 : Ty.T y27) : Option (AV × Sig) := cond (wg a2) (cond (cu a3) (cond (a2.1 == a3.1) (cond (d333 a0 a1 a2 a3) (cond (Mw a0 a1 a2 a3) (cond (d334 a0 a2 a3) (cond (Iv a0 a2 a3) (cond (decide (a3.2.2.2.2.1 ≥ a2.2.2.2.2.2.1)) (cond (a2.2.2.2.2.2.2 == (0 : Int)) (some (.one (.bool true), [])) (some (.one (.bool (a2.2.2.2.2.2.2 == a3.2.2.2.2.2.1)), []))) (some (.one (.bool false), []))) (some (.one (.bool false), []))) (none)) (some (.one (.bool false), []))) (none)) (some (.one (.bool false), []))) (some (.one (.bool false), []))) (some (.one (.bool false), []))
def MJ (a0 : Ty.T y36) (a1 : Int) (a2 : Ty.T bT) (a3 : Ty.T y27) : Bool := cond (wg a2) (cond (cu a3) (cond (a2.1 == a3.1) (cond (d333 a0 a1 a2 a3) (cond (Mw a0 a1 a2 a3) (cond (d334 a0 a2 a3) (cond (Iv a0 a2 a3) (cond (decide (a3.2.2.2.2.1 ≥ a2.2.2.2.2.2.1)) (cond (a2.2.2.2.2.2.2 == (0 : Int)) (true) ((a2.2.2.2.2.2.2 == a3.2.2.2.2.2.1))) (false)) (false)) (false)) (false)) (false)) (false)) (false)) (false)
def d312 (a0 : Ty.T y36) (a1 : Int) (a2 : Ty.T bT) (a3 : Ty.T y27) : Bool := cond (wg a2) (cond (cu a3) (cond (a2.1 == a3.1) (cond (d333 a0 a1 a2 a3) (cond (Mw a0 a1 a2 a3) (cond (d334 a0 a2 a3) (cond (Iv a0 a2 a3) (cond (decide (a3.2.2.2.2.1 ≥ a2.2.2.2.2.2.1)) (cond (a2.2.2.2.2.2.2 == (0 : Int)) (true) (true)) (true)) (true)) (false)) (true)) (false)) (true)) (true)) (true)
theorem ai9 (a0 : Ty.T y36) (a1 : Int) (a2 : Ty.T bT) (a3 : Ty.T y27) : ab9 a0 a1 a2 a3 = cond (d312 a0 a1 a2 a3) (some (f312 (MJ a0 a1 a2 a3))) none := (pC (pC (pC (pC (pC (pC (pC (pC (pC (pS _) (pS _)) (pS _)) (pS _)) (pN _)) (pS _)) (pN _)) (pS _)) (pS _)) (pS _))
def agi : Prim := ⟨[.agg [.dat y36 true], oI, .agg [.dat bT true], .agg [.dat y27 true]], fun v => .br (d312 v.1 v.2.1 v.2.2.1 v.2.2.2.1) (.done (f312 (MJ v.1 v.2.1 v.2.2.1 v.2.2.2.1))) .no⟩
theorem aaV : PO 312 agi := pK aiE fun v => Eq.trans (b := ab9 v.1 v.2.1 v.2.2.1 v.2.2.2.1) (by kernel_rfl) (ai9 v.1 v.2.1 v.2.2.1 v.2.2.2.1)
def f269 (r : Bool) : AV × Sig := (.one (.bool r), [])
def afR := (((((E0.p Sa).p aa2).p ab8).p aat).p aaV)
def Zs (a0 : Ty.T y36) (a1 : Ty.T ab) (a2 : Ty.T y27) : Option (AV × Sig) := cond (d242 a1) (cond (eg a1) (cond (Ga a1 a0.2.2.2) (cond (L3 a1 a2) (cond (d311 a0 a1.2.1 a1.2.2.2.2.2.1) (cond (M3 a0 a1.2.1 a1.2.2.2.2.2.1) (cond (d312 a0 a1.2.1 a1.2.2.2.2.1 a2) (some (.one (.bool (MJ a0 a1.2.1 a1.2.2.2.2.1 a2)), [])) (none)) (some (.one (.bool false), []))) (none)) (some (.one (.bool false), []))) (some (.one (.bool false), []))) (some (.one (.bool false), []))) (none)
def gV (a0 : Ty.T y36) (a1 : Ty.T ab) (a2 : Ty.T y27) : Bool := cond (d242 a1) (cond (eg a1) (cond (Ga a1 a0.2.2.2) (cond (L3 a1 a2) (cond (d311 a0 a1.2.1 a1.2.2.2.2.2.1) (cond (M3 a0 a1.2.1 a1.2.2.2.2.2.1) (cond (d312 a0 a1.2.1 a1.2.2.2.2.1 a2) ((MJ a0 a1.2.1 a1.2.2.2.2.1 a2)) (false)) (false)) (false)) (false)) (false)) (false)) (false)
def d269 (a0 : Ty.T y36) (a1 : Ty.T ab) (a2 : Ty.T y27) : Bool := cond (d242 a1) (cond (eg a1) (cond (Ga a1 a0.2.2.2) (cond (L3 a1 a2) (cond (d311 a0 a1.2.1 a1.2.2.2.2.2.1) (cond (M3 a0 a1.2.1 a1.2.2.2.2.2.1) (cond (d312 a0 a1.2.1 a1.2.2.2.2.1 a2) (true) (false)) (true)) (false)) (true)) (true)) (true)) (false)
theorem afa (a0 : Ty.T y36) (a1 : Ty.T ab) (a2 : Ty.T y27) : Zs a0 a1 a2 = cond (d269 a0 a1 a2) (some (f269 (gV a0 a1 a2))) none := (pC (pC (pC (pC (pC (pC (pC (pS _) (pN _)) (pS _)) (pN _)) (pS _)) (pS _)) (pS _)) (pN _))
def aiI : Prim := ⟨[.agg [.dat y36 true], .agg [.dat ab true], .agg [.dat y27 true]], fun v => .br (d269 v.1 v.2.1 v.2.2.1) (.done (f269 (gV v.1 v.2.1 v.2.2.1))) .no⟩
theorem VG : PO 269 aiI := pK afR fun v => Eq.trans (b := Zs v.1 v.2.1 v.2.2.1) (by kernel_rfl) (afa v.1 v.2.1 v.2.2.1)
def IT (r : (Ty.T y27) × (Ty.T af)) : AV × Sig := (.agg (y27.cells false r.1), [(4294967296, .box 222 ((af.cells true r.2)))])
def Jm := ((E0.g wv).p VG)
@[reducible] def vt : List SP := .one (.ptr 4294967296 0) :: .und :: .one (.dat (.sl 109 ab) false) :: .und :: .one (.ptr 4 0) :: .und :: .one (.ptr 6 0) :: .one (.ptr 7 0) :: oI :: oI :: U2 (.und :: oI :: .one (.dat .bool true) :: U16 (U4 ([])))
@[reducible] def ir : List (Nat × GP) := [(4294967296, .box 222 [.dat af true]), (4, .box 37 [.dat y36 false]), (6, .box 41 [.dat y27 false]), (7, .box 41 [.dat y27 false])]
@[reducible] def jm : Type := (List (Ty.T ab)) × Int × Int × Int × Bool × (Ty.T af) × (Ty.T y36) × (Ty.T y27) × (Ty.T y27) × Unit
def mY (v : jm) {Z : Type} (κ : Nat × jm -> Option Z) : Option Z := cond (decide (v.2.2.1 < ((v.1).length : Int))) (if 0 <= v.2.2.1 then (bt ((v.1)[(v.2.2.1).toNat]?) (fun x1 => cond (d269 v.2.2.2.2.2.2.1 x1 v.2.2.2.2.2.2.2.2.1) (cond (gV v.2.2.2.2.2.2.1 x1 v.2.2.2.2.2.2.2.2.1) (κ (1, (v.1, v.2.1, v.2.2.1, v.2.2.2.1, v.2.2.2.2.1, v.2.2.2.2.2.1, v.2.2.2.2.2.2.1, v.2.2.2.2.2.2.2.2.1, v.2.2.2.2.2.2.2.2.1, ()))) (κ (0, (v.1, v.2.1, IntKind.wrap .i64 (v.2.2.1 + (1 : Int)), v.2.2.2.1, v.2.2.2.2.1, v.2.2.2.2.2.1, v.2.2.2.2.2.2.1, v.2.2.2.2.2.2.2.1, v.2.2.2.2.2.2.2.2.1, ())))) (none))) else none) (κ (2, (v.1, v.2.1, v.2.2.1, v.2.2.2.1, v.2.2.2.2.1, v.2.2.2.2.2.1, v.2.2.2.2.2.2.1, v.2.2.2.2.2.2.2.1, v.2.2.2.2.2.2.2.2.1, ())))
def kJ (v : jm) : Option (Nat × jm) := mY v some
def kQ (v : jm) : Nat := v.1.length + v.2.1.toNat + v.2.2.1.toNat + v.2.2.2.1.toNat + v.2.2.2.2.2.1.1.length + v.2.2.2.2.2.2.1.1.length + v.2.2.2.2.2.2.1.2.1.length + 100
def rI (h0 : List (Ty.T ab)) (h1 : Int) (h2 : Int) (h3 : Int) (h4 : Bool) (h5 : Ty.T af) (h6 : Ty.T y36) (h7 : Ty.T y27) (h8 : Ty.T y27) (c : Nat) : Bool := iK kJ kQ (h0, h1, h2, h3, h4, h5, h6, h7, h8, ()) c
def c9 (h0 : List (Ty.T ab)) (h1 : Int) (h2 : Int) (h3 : Int) (h4 : Bool) (h5 : Ty.T af) (h6 : Ty.T y36) (h7 : Ty.T y27) (h8 : Ty.T y27) : jm := iW kJ kQ (h0, h1, h2, h3, h4, h5, h6, h7, h8, ())
def Hg (v : jm) : aJ (Ex × St) := bo kJ (kQ v) v (ax vt ir) [.ret, .exit 2] 0
theorem R9 : bl Tryz.prog (aB [true, false, false, true] (aB (pb 4 11) (ae Tryz.f212))) vt ir Hg := aw (lt := .none) Jm.ok aj (ah.no _) fun n v K => Eq.trans (b := mY v (cW _ _ _ _ _ K)) (by kernel_rfl) (show mY v _ = (mY v some).bind _ from (bC (bI (bO fun x1 => (bC (bC rfl rfl) rfl))) rfl))
@[reducible] def tR : List SP := .one (.ptr 4294967296 0) :: .und :: .one (.dat (.sl 109 ab) false) :: .und :: .one (.ptr 4 0) :: .und :: .one (.ptr 6 0) :: .one (.ptr 7 0) :: oI :: U16 (U8 (U2 ([])))
@[reducible] def gk : Type := (List (Ty.T ab)) × Int × (Ty.T af) × (Ty.T y36) × (Ty.T y27) × (Ty.T y27) × Unit
def mR (v : gk) {Z : Type} (κ : Nat × gk -> Option Z) : Option Z := cond (decide (v.2.1 < (5 : Int))) (cond (rI v.1 v.2.1 0 v.2.1 (decide (v.2.1 < (5 : Int))) v.2.2.1 v.2.2.2.1 v.2.2.2.2.1 v.2.2.2.2.2.1 0) (κ (1, ((c9 v.1 v.2.1 0 v.2.1 (decide (v.2.1 < (5 : Int))) v.2.2.1 v.2.2.2.1 v.2.2.2.2.1 v.2.2.2.2.2.1).1, (c9 v.1 v.2.1 0 v.2.1 (decide (v.2.1 < (5 : Int))) v.2.2.1 v.2.2.2.1 v.2.2.2.2.1 v.2.2.2.2.2.1).2.1, (c9 v.1 v.2.1 0 v.2.1 (decide (v.2.1 < (5 : Int))) v.2.2.1 v.2.2.2.1 v.2.2.2.2.1 v.2.2.2.2.2.1).2.2.2.2.2.1, (c9 v.1 v.2.1 0 v.2.1 (decide (v.2.1 < (5 : Int))) v.2.2.1 v.2.2.2.1 v.2.2.2.2.1 v.2.2.2.2.2.1).2.2.2.2.2.2.1, (c9 v.1 v.2.1 0 v.2.1 (decide (v.2.1 < (5 : Int))) v.2.2.1 v.2.2.2.1 v.2.2.2.2.1 v.2.2.2.2.2.1).2.2.2.2.2.2.2.1, (c9 v.1 v.2.1 0 v.2.1 (decide (v.2.1 < (5 : Int))) v.2.2.1 v.2.2.2.1 v.2.2.2.2.1 v.2.2.2.2.2.1).2.2.2.2.2.2.2.2.1, ()))) (cond (rI v.1 v.2.1 0 v.2.1 (decide (v.2.1 < (5 : Int))) v.2.2.1 v.2.2.2.1 v.2.2.2.2.1 v.2.2.2.2.2.1 1) (cond (lU (c9 v.1 v.2.1 0 v.2.1 (decide (v.2.1 < (5 : Int))) v.2.2.1 v.2.2.2.1 v.2.2.2.2.1 v.2.2.2.2.2.1).2.2.2.2.2.2.1 (c9 v.1 v.2.1 0 v.2.1 (decide (v.2.1 < (5 : Int))) v.2.2.1 v.2.2.2.1 v.2.2.2.2.1 v.2.2.2.2.2.1).2.2.2.2.2.1) (κ (0, ((c9 v.1 v.2.1 0 v.2.1 (decide (v.2.1 < (5 : Int))) v.2.2.1 v.2.2.2.1 v.2.2.2.2.1 v.2.2.2.2.2.1).1, IntKind.wrap .i64 ((c9 v.1 v.2.1 0 v.2.1 (decide (v.2.1 < (5 : Int))) v.2.2.1 v.2.2.2.1 v.2.2.2.2.1 v.2.2.2.2.2.1).2.1 + (1 : Int)), (al (c9 v.1 v.2.1 0 v.2.1 (decide (v.2.1 < (5 : Int))) v.2.2.1 v.2.2.2.1 v.2.2.2.2.1 v.2.2.2.2.2.1).2.2.2.2.2.2.1 (c9 v.1 v.2.1 0 v.2.1 (decide (v.2.1 < (5 : Int))) v.2.2.1 v.2.2.2.1 v.2.2.2.2.1 v.2.2.2.2.2.1).2.2.2.2.2.1).2, (c9 v.1 v.2.1 0 v.2.1 (decide (v.2.1 < (5 : Int))) v.2.2.1 v.2.2.2.1 v.2.2.2.2.1 v.2.2.2.2.2.1).2.2.2.2.2.2.1, (c9 v.1 v.2.1 0 v.2.1 (decide (v.2.1 < (5 : Int))) v.2.2.1 v.2.2.2.1 v.2.2.2.2.1 v.2.2.2.2.2.1).2.2.2.2.2.2.2.1, (al (c9 v.1 v.2.1 0 v.2.1 (decide (v.2.1 < (5 : Int))) v.2.2.1 v.2.2.2.1 v.2.2.2.2.1 v.2.2.2.2.2.1).2.2.2.2.2.2.1 (c9 v.1 v.2.1 0 v.2.1 (decide (v.2.1 < (5 : Int))) v.2.2.1 v.2.2.2.1 v.2.2.2.2.1 v.2.2.2.2.2.1).2.2.2.2.2.1).1, ()))) (none)) (none))) (κ (2, (v.1, v.2.1, v.2.2.1, v.2.2.2.1, v.2.2.2.2.1, v.2.2.2.2.2.1, ())))
def lg (v : gk) : Option (Nat × gk) := mR v some
def ky (v : gk) : Nat := v.1.length + v.2.1.toNat + v.2.2.1.1.length + v.2.2.2.1.1.length + v.2.2.2.1.2.1.length + 100
def sa (h0 : List (Ty.T ab)) (h1 : Int) (h2 : Ty.T af) (h3 : Ty.T y36) (h4 : Ty.T y27) (h5 : Ty.T y27) (c : Nat) : Bool := iK lg ky (h0, h1, h2, h3, h4, h5, ()) c
def na (h0 : List (Ty.T ab)) (h1 : Int) (h2 : Ty.T af) (h3 : Ty.T y36) (h4 : Ty.T y27) (h5 : Ty.T y27) : gk := iW lg ky (h0, h1, h2, h3, h4, h5, ())
def Fs (v : gk) : aJ (Ex × St) := bo lg (ky v) v (ax tR ir) [.ret, .exit 0] 0
theorem NX : bl Tryz.prog (aB (pb 4 11) (ae Tryz.f212)) tR ir Fs := aw (lt := (cv [true, false, false, true] (aB (pb 4 11) (ae Tryz.f212)) .none (.sum vt ir Hg))) Jm.ok aj (ah.put (az (by kernel_rfl)) (ah.no _) R9) fun n v K => Eq.trans (b := mR v (cW _ _ _ _ _ K)) (by kernel_rfl) (show mR v _ = (mR v some).bind _ from (bC (bC rfl (bC (bC rfl rfl) rfl)) rfl))
def S1 := Jm.l (g := 212) (t := (cv (pb 4 11) (ae Tryz.f212) .none (.sum tR ir Fs))) (aQ Tryz.func212 (ah.put (az (by kernel_rfl)) (ah.no _) NX))
def qh (a0 : Ty.T y36) (a1 : List (Ty.T ab)) (a2 : Ty.T af) {Z : Type} (κ : (Ty.T y27) × (Ty.T af) -> Option Z) : Option Z := cond (lU a0 a2) (cond (sa a1 0 (al a0 a2).2 a0 (0, 0, 0, 0, 0, 0, false) (al a0 a2).1 0) (κ ((na a1 0 (al a0 a2).2 a0 (0, 0, 0, 0, 0, 0, false) (al a0 a2).1).2.2.2.2.1, (na a1 0 (al a0 a2).2 a0 (0, 0, 0, 0, 0, 0, false) (al a0 a2).1).2.2.1)) (cond (sa a1 0 (al a0 a2).2 a0 (0, 0, 0, 0, 0, 0, false) (al a0 a2).1 1) (κ ((na a1 0 (al a0 a2).2 a0 (0, 0, 0, 0, 0, 0, false) (al a0 a2).1).2.2.2.2.2.1, (na a1 0 (al a0 a2).2 a0 (0, 0, 0, 0, 0, 0, false) (al a0 a2).1).2.2.1)) (none))) (none)
def qx (a0 : Ty.T y36) (a1 : List (Ty.T ab)) (a2 : Ty.T af) : (Ty.T y27) × (Ty.T af) := (qh a0 a1 a2 some).getD ((Ty.zero y27), (Ty.zero af))
def Kb (a0 : Ty.T y36) (a1 : List (Ty.T ab)) (a2 : Ty.T af) : Bool := (qh a0 a1 a2 some).isSome
def WB : Gen := ⟨[false, false, false], [.one (.ptr 4294967296 0), .agg [.dat y36 false], .one (.dat (.sl 109 ab) false)], [(4294967296, .box 222 [.dat af true])], fun v => .br (Kb v.1 v.2.1 v.2.2.1) (.done (IT (qx v.1 v.2.1 v.2.2.1))) .no⟩
theorem UK : bu Tryz.prog 212 WB := bH S1.ok aj (az (by kernel_rfl)) ⟨Tryz.f212, ae Tryz.f212, by kernel_rfl, by kernel_rfl⟩ fun v => Eq.trans (b := (qh v.1 v.2.1 v.2.2.1 (sm IT))) (by kernel_rfl) (aq (show qh v.1 v.2.1 v.2.2.1 (sm IT) = (qh v.1 v.2.1 v.2.2.1 some).bind _ from (bC (bC rfl (bC rfl rfl)) rfl)))
def J7 (r : (Ty.T af) × (List (Ty.T (.int .i64)))) : AV × Sig := (.one (.sl 33554432), [(4294967296, .box 222 ((af.cells true r.1))), (33554432, .arr 3 (.int .i64) r.2 false)])
def SN := ((E0.g db).g dH)
@[reducible] def uN : List SP := .one (.ptr 4294967296 0) :: .und :: .one (.dat (.sl 3 (.int .i64)) false) :: .one (.own 5) :: oI :: U8 (U4 (U2 ([])))
@[reducible] def uC : List (Nat × GP) := [(4294967296, .box 222 [.dat af true]), (5, .arr 3 (.int .i64) false)]
@[reducible] def iU : Type := (List (Ty.T (.int .i64))) × Int × (Ty.T af) × (List (Ty.T (.int .i64))) × Unit
def oQ (v : iU) {Z : Type} (κ : Nat × iU -> Option Z) : Option Z := cond (decide (v.2.1 > (0 : Int))) (cond (aV [0, 1, 2, 1, 3, 5, (-1)] v.2.2.1) (if (v.2.2.2.1 ++ [(ai [0, 1, 2, 1, 3, 5, (-1)] v.2.2.1).1] : List (Ty.T (.int .i64))).length * 8 <= 140737488351232 then (κ (0, (v.1, IntKind.wrap .i64 (v.2.1 - (1 : Int)), (ai [0, 1, 2, 1, 3, 5, (-1)] v.2.2.1).2, v.2.2.2.1 ++ [(ai [0, 1, 2, 1, 3, 5, (-1)] v.2.2.1).1], ()))) else none) (none)) (κ (1, (v.1, v.2.1, v.2.2.1, v.2.2.2.1, ())))
def og (v : iU) : Option (Nat × iU) := oQ v some
def oV (v : iU) : Nat := v.1.length + v.2.1.toNat + v.2.2.1.1.length + v.2.2.2.1.length + 100
def Hh (h0 : List (Ty.T (.int .i64))) (h1 : Int) (h2 : Ty.T af) (h3 : List (Ty.T (.int .i64))) (c : Nat) : Bool := iK og oV (h0, h1, h2, h3, ()) c
def rS (h0 : List (Ty.T (.int .i64))) (h1 : Int) (h2 : Ty.T af) (h3 : List (Ty.T (.int .i64))) : iU := iW og oV (h0, h1, h2, h3, ())
def Gg (v : iU) : aJ (Ex × St) := bo og (oV v) v (ax uN uC) [.exit 0] 0
theorem Og : bl Tryz.prog (aB (pb 4 11) (ae Tryz.f143)) uN uC Gg := aw (lt := .none) SN.ok aj (ah.no _) fun n v K => Eq.trans (b := oQ v (cW _ _ _ _ _ K)) (by kernel_rfl) (show oQ v _ = (oQ v some).bind _ from (bC (bC (bI rfl) rfl) rfl))
def UQ := SN.l (g := 143) (t := (cv (pb 4 11) (ae Tryz.f143) .none (.sum uN uC Gg))) (aQ Tryz.func143 (ah.put (az (by kernel_rfl)) (ah.no _) Og))
def qR (a0 : Ty.T af) {Z : Type} (κ : (Ty.T af) × (List (Ty.T (.int .i64))) -> Option Z) : Option Z := cond (bB 8 a0) (cond (Hh [] (aa 8 a0).1 (aa 8 a0).2 [] 0) (κ ((rS [] (aa 8 a0).1 (aa 8 a0).2 []).2.2.1, (rS [] (aa 8 a0).1 (aa 8 a0).2 []).2.2.2.1)) (none)) (none)
def p9 (a0 : Ty.T af) : (Ty.T af) × (List (Ty.T (.int .i64))) := (qR a0 some).getD ((Ty.zero af), [])
def Dx (a0 : Ty.T af) : Bool := (qR a0 some).isSome
def W3 : Gen := ⟨[false], [.one (.ptr 4294967296 0)], [(4294967296, .box 222 [.dat af true])], fun v => .br (Dx v.1) (.done (J7 (p9 v.1))) .no⟩
theorem Ue : bu Tryz.prog 143 W3 := bH UQ.ok aj (az (by kernel_rfl)) ⟨Tryz.f143, ae Tryz.f143, by kernel_rfl, by kernel_rfl⟩ fun v => Eq.trans (b := (qR v.1 (sm J7))) (by kernel_rfl) (aq (show qR v.1 (sm J7) = (qR v.1 some).bind _ from (bC (bC rfl rfl) rfl)))
def IU (r : (Ty.T y36) × (List (Ty.T ab)) × (Ty.T y27) × (Ty.T af) × (List (Ty.T (.int .i64)))) : AV × Sig := (.tup [(true, (y36.cells false r.1)), (false, ([.emb 109 ab r.2.1 false])), (true, (y27.cells false r.2.2.1)), (false, ([.sl 33603584]))], [(4294967296, .box 222 ((af.cells true r.2.2.2.1))), (33603584, .arr 3 (.int .i64) r.2.2.2.2 false)])
def O8 := ((((E0.g LM).g Ue).g KK).g UK)
@[reducible] def AX : List SP := .one (.ptr 4294967296 0) :: .und :: .one (.ptr 2 0) :: .one (.dat (.sl 109 ab) false) :: .one (.ptr 4 0) :: .one (.dat (.sl 3 (.int .i64)) false) :: .one (.ptr 6 0) :: .one (.dat (.sl 109 ab) false) :: .one (.ptr 8 0) :: U8 (U4 (U2 ([])))
@[reducible] def AO : List (Nat × GP) := [(4294967296, .box 222 [.dat af true]), (2, .box 37 [.dat y36 false]), (4, .box 41 [.dat y27 false]), (6, .box 37 [.dat y36 false]), (8, .box 41 [.dat y27 false])]
@[reducible] def nM : Type := (List (Ty.T ab)) × (List (Ty.T (.int .i64))) × (List (Ty.T ab)) × (Ty.T af) × (Ty.T y36) × (Ty.T y27) × (Ty.T y36) × (Ty.T y27) × Unit
@[reducible] def Bj : List SP := U2 (.one (.ptr 2 0) :: .one (.dat (.sl 109 ab) false) :: .one (.ptr 4 0) :: .one (.own 33554454) :: U16 (.und :: []))
@[reducible] def BW : List (Nat × GP) := [(2, .box 37 [.dat y36 false]), (4, .box 41 [.dat y27 false]), (4294967296, .box 222 [.dat af true]), (33554454, .arr 3 (.int .i64) false)]
def zK (v : nM) (r : Unit) : Ex × St := (.normal, ax Bj BW (v.2.2.1, v.2.2.2.2.2.2.1, v.2.2.2.2.2.2.2.1, (p9 v.2.2.2.1).1, (p9 v.2.2.2.1).2, ()))
def kC (v : nM) {Z : Type} (κ : Unit -> Option Z) : Option Z := cond (Dx v.2.2.2.1) (κ ()) (none)
def Sh (v : nM) : Unit := (kC v some).getD ()
def se (v : nM) : Bool := (kC v some).isSome
def HG (v : nM) : aJ (Ex × St) := .br (se v) (.done (zK v (Sh v))) .no
theorem QD : aN Tryz.prog (av (pb 5 15) (ae Tryz.f133)) AX AO HG := bq (by kernel_rfl) (sx := Bj) (gx := BW) O8.ok aj (by kernel_rfl) 6 fun v => Eq.trans (b := List.replicate 6 (kC v (sm (zK v)))) (by kernel_rfl) (congrArg (List.replicate 6) (aq (show kC v (sm (zK v)) = (kC v some).bind _ from (bC rfl rfl))))
def TV := O8.l (g := 133) (t := (aD (pb 5 15) (ae Tryz.f133) .none (.sum AX AO HG))) (aQ Tryz.func133 (ah.b7 (az (by kernel_rfl)) (ah.no _) QD))
def p3 (a0 : Ty.T af) {Z : Type} (κ : (Ty.T y36) × (List (Ty.T ab)) × (Ty.T y27) × (Ty.T af) × (List (Ty.T (.int .i64))) -> Option Z) : Option Z := cond (yX a0) (cond (yl ((ag a0).2.2.1, (ag a0).2.2.2, (ag a0).1) (ag a0).2.1) (cond (Kb ((ag a0).2.2.1, (ag a0).2.2.2, (ag a0).1) (bZ ((ag a0).2.2.1, (ag a0).2.2.2, (ag a0).1) (ag a0).2.1).2 (bZ ((ag a0).2.2.1, (ag a0).2.2.2, (ag a0).1) (ag a0).2.1).1) (cond (se ([], [], (bZ ((ag a0).2.2.1, (ag a0).2.2.2, (ag a0).1) (ag a0).2.1).2, (qx ((ag a0).2.2.1, (ag a0).2.2.2, (ag a0).1) (bZ ((ag a0).2.2.1, (ag a0).2.2.2, (ag a0).1) (ag a0).2.1).2 (bZ ((ag a0).2.2.1, (ag a0).2.2.2, (ag a0).1) (ag a0).2.1).1).2, ([], [], 0, 0), (0, 0, 0, 0, 0, 0, false), ((ag a0).2.2.1, (ag a0).2.2.2, (ag a0).1), (qx ((ag a0).2.2.1, (ag a0).2.2.2, (ag a0).1) (bZ ((ag a0).2.2.1, (ag a0).2.2.2, (ag a0).1) (ag a0).2.1).2 (bZ ((ag a0).2.2.1, (ag a0).2.2.2, (ag a0).1) (ag a0).2.1).1).1, ())) (κ (((ag a0).2.2.1, (ag a0).2.2.2, (ag a0).1), (bZ ((ag a0).2.2.1, (ag a0).2.2.2, (ag a0).1) (ag a0).2.1).2, (qx ((ag a0).2.2.1, (ag a0).2.2.2, (ag a0).1) (bZ ((ag a0).2.2.1, (ag a0).2.2.2, (ag a0).1) (ag a0).2.1).2 (bZ ((ag a0).2.2.1, (ag a0).2.2.2, (ag a0).1) (ag a0).2.1).1).1, (p9 (qx ((ag a0).2.2.1, (ag a0).2.2.2, (ag a0).1) (bZ ((ag a0).2.2.1, (ag a0).2.2.2, (ag a0).1) (ag a0).2.1).2 (bZ ((ag a0).2.2.1, (ag a0).2.2.2, (ag a0).1) (ag a0).2.1).1).2).1, (p9 (qx ((ag a0).2.2.1, (ag a0).2.2.2, (ag a0).1) (bZ ((ag a0).2.2.1, (ag a0).2.2.2, (ag a0).1) (ag a0).2.1).2 (bZ ((ag a0).2.2.1, (ag a0).2.2.2, (ag a0).1) (ag a0).2.1).1).2).2)) (none)) (none)) (none)) (none)
def bY (a0 : Ty.T af) : (Ty.T y36) × (List (Ty.T ab)) × (Ty.T y27) × (Ty.T af) × (List (Ty.T (.int .i64))) := (p3 a0 some).getD ((Ty.zero y36), [], (Ty.zero y27), (Ty.zero af), [])
def JD (a0 : Ty.T af) : Bool := (p3 a0 some).isSome
def WJ : Gen := ⟨[false], [.one (.ptr 4294967296 0)], [(4294967296, .box 222 [.dat af true])], fun v => .br (JD v.1) (.done (IU (bY v.1))) .no⟩
theorem Th : bu Tryz.prog 133 WJ := bH TV.ok aj (az (by kernel_rfl)) ⟨Tryz.f133, ae Tryz.f133, by kernel_rfl, by kernel_rfl⟩ fun v => Eq.trans (b := (p3 v.1 (sm IU))) (by kernel_rfl) (aq (show p3 v.1 (sm IU) = (p3 v.1 some).bind _ from (bC (bC (bC (bC rfl rfl) rfl) rfl) rfl)))
def IW (r : Int × (Ty.T af)) : AV × Sig := (.one (.int .i64 r.1), [(4294967296, .box 222 ((af.cells true r.2)))])
def W4 := (E0.g dH)
def qB (a0 : Ty.T af) {Z : Type} (κ : Int × (Ty.T af) -> Option Z) : Option Z := cond (aV [(-1), 0, 1, 2, 255, 256, 65535, 2147483647, 2147483648, 4294967295, 4294967296, (-2147483648), 9223372036854775807, (-9223372036854775808)] a0) (κ ((ai [(-1), 0, 1, 2, 255, 256, 65535, 2147483647, 2147483648, 4294967295, 4294967296, (-2147483648), 9223372036854775807, (-9223372036854775808)] a0).1, (ai [(-1), 0, 1, 2, 255, 256, 65535, 2147483647, 2147483648, 4294967295, 4294967296, (-2147483648), 9223372036854775807, (-9223372036854775808)] a0).2)) (none)
def Cc (a0 : Ty.T af) : Int × (Ty.T af) := (qB a0 some).getD (0, (Ty.zero af))
def Il (a0 : Ty.T af) : Bool := (qB a0 some).isSome
def Y2 : Gen := ⟨[false], [.one (.ptr 4294967296 0)], [(4294967296, .box 222 [.dat af true])], fun v => .br (Il v.1) (.done (IW (Cc v.1))) .no⟩
theorem T6 : bu Tryz.prog 264 Y2 := bH W4.ok aj (az (by kernel_rfl)) ⟨Tryz.f264, ae Tryz.f264, by kernel_rfl, by kernel_rfl⟩ fun v => Eq.trans (b := (qB v.1 (sm IW))) (by kernel_rfl) (aq (show qB v.1 (sm IW) = (qB v.1 some).bind _ from (bC rfl rfl)))
def Iu (r : Int × (Ty.T af)) : AV × Sig := (.one (.int .i64 r.1), [(4294967296, .box 222 ((af.cells true r.2)))])
def Xg := (((E0.g jQ).g dH).g T6)
def rh (a0 : Ty.T af) {Z : Type} (κ : Int × (Ty.T af) -> Option Z) : Option Z := cond (dm 2 a0) (cond (ay 2 a0).1 (cond (Il (ay 2 a0).2) (κ ((Cc (ay 2 a0).2).1, (Cc (ay 2 a0).2).2)) (none)) (cond (aV [(-2147483648), (-2147483647), (-3), (-1), 0, 1, 3, 7, 2147483647, 2147483648] (ay 2 a0).2) (κ ((ai [(-2147483648), (-2147483647), (-3), (-1), 0, 1, 3, 7, 2147483647, 2147483648] (ay 2 a0).2).1, (ai [(-2147483648), (-2147483647), (-3), (-1), 0, 1, 3, 7, 2147483647, 2147483648] (ay 2 a0).2).2)) (none))) (none)
def dn (a0 : Ty.T af) : Int × (Ty.T af) := (rh a0 some).getD (0, (Ty.zero af))
def iX (a0 : Ty.T af) : Bool := (rh a0 some).isSome
def Xp : Gen := ⟨[false], [.one (.ptr 4294967296 0)], [(4294967296, .box 222 [.dat af true])], fun v => .br (iX v.1) (.done (Iu (dn v.1))) .no⟩
theorem px : bu Tryz.prog 210 Xp := bH Xg.ok aj (az (by kernel_rfl)) ⟨Tryz.f210, ae Tryz.f210, by kernel_rfl, by kernel_rfl⟩ fun v => Eq.trans (b := (rh v.1 (sm Iu))) (by kernel_rfl) (aq (show rh v.1 (sm Iu) = (rh v.1 some).bind _ from (bC (bC (bC rfl rfl) (bC rfl rfl)) rfl)))
def ID (r : (Ty.T y63) × (Ty.T af)) : AV × Sig := (.agg (y63.cells false r.1), [(4294967296, .box 222 ((af.cells true r.2)))])
def RF := ((((E0.g db).g D0).g dH).g px)
@[reducible] def BD : List SP := .one (.ptr 4294967296 0) :: .und :: .one (.ptr 2 0) :: .one (.ptr 3 0) :: U4 (U2 (oI :: .one (.dat .bool true) :: U64 (U2 ([]))))
@[reducible] def Aw : List (Nat × GP) := [(4294967296, .box 222 [.dat af true]), (2, .box 64 [.dat y63 false]), (3, .box 64 [.dat y63 false])]
@[reducible] def gm : Type := Int × Bool × (Ty.T af) × (Ty.T y63) × (Ty.T y63) × Unit
@[reducible] def BG : List SP := U2 (.one (.ptr 2 0) :: .one (.ptr 3 0) :: U64 (U8 (U2 ([]))))
@[reducible] def Bo : List (Nat × GP) := [(2, .box 64 [.dat y63 false]), (3, .box 64 [.dat y63 false]), (4294967296, .box 222 [.dat af true])]
def wK (v : gm) (r : (Ty.T y63) × (Ty.T af)) : Ex × St := (.normal, ax BG Bo (v.2.2.2.1, r.1, r.2, ()))
def gb (v : gm) {Z : Type} (κ : (Ty.T y63) × (Ty.T af) -> Option Z) : Option Z := cond v.2.1 (cond (aV [0, 99, 100] v.2.2.1) (κ (((ai [0, 99, 100] v.2.2.1).1, v.2.2.2.2.1.2), (ai [0, 99, 100] v.2.2.1).2)) (none)) (cond (v.1 == (1 : Int)) (cond (aV [(-1), 2, 3] v.2.2.1) (κ ((v.2.2.2.2.1.1, (ai [(-1), 2, 3] v.2.2.1).1, v.2.2.2.2.1.2.2), (ai [(-1), 2, 3] v.2.2.1).2)) (none)) (cond (v.1 == (2 : Int)) (cond (aV [(-1), 2, 3] v.2.2.1) (κ ((v.2.2.2.2.1.1, v.2.2.2.2.1.2.1, (ai [(-1), 2, 3] v.2.2.1).1, v.2.2.2.2.1.2.2.2), (ai [(-1), 2, 3] v.2.2.1).2)) (none)) (cond (v.1 == (3 : Int)) (cond (aV [0, 1, 4, 5] v.2.2.1) (κ ((v.2.2.2.2.1.1, v.2.2.2.2.1.2.1, v.2.2.2.2.1.2.2.1, (ai [0, 1, 4, 5] v.2.2.1).1, v.2.2.2.2.1.2.2.2.2), (ai [0, 1, 4, 5] v.2.2.1).2)) (none)) (cond (v.1 == (4 : Int)) (cond (aV [(-1), 9999, 10000] v.2.2.1) (κ ((v.2.2.2.2.1.1, v.2.2.2.2.1.2.1, v.2.2.2.2.1.2.2.1, v.2.2.2.2.1.2.2.2.1, (ai [(-1), 9999, 10000] v.2.2.1).1, v.2.2.2.2.1.2.2.2.2.2), (ai [(-1), 9999, 10000] v.2.2.1).2)) (none)) (cond (v.1 == (5 : Int)) (cond (aV [(-1), 999, 1000] v.2.2.1) (κ ((v.2.2.2.2.1.1, v.2.2.2.2.1.2.1, v.2.2.2.2.1.2.2.1, v.2.2.2.2.1.2.2.2.1, v.2.2.2.2.1.2.2.2.2.1, (ai [(-1), 999, 1000] v.2.2.1).1, v.2.2.2.2.1.2.2.2.2.2.2), (ai [(-1), 999, 1000] v.2.2.1).2)) (none)) (cond (v.1 == (6 : Int)) (cond (aV [(-1), 999, 1000] v.2.2.1) (κ ((v.2.2.2.2.1.1, v.2.2.2.2.1.2.1, v.2.2.2.2.1.2.2.1, v.2.2.2.2.1.2.2.2.1, v.2.2.2.2.1.2.2.2.2.1, v.2.2.2.2.1.2.2.2.2.2.1, (ai [(-1), 999, 1000] v.2.2.1).1, v.2.2.2.2.1.2.2.2.2.2.2.2), (ai [(-1), 999, 1000] v.2.2.1).2)) (none)) (cond (v.1 == (7 : Int)) (cond (aV [(-1), 63, 64] v.2.2.1) (κ ((v.2.2.2.2.1.1, v.2.2.2.2.1.2.1, v.2.2.2.2.1.2.2.1, v.2.2.2.2.1.2.2.2.1, v.2.2.2.2.1.2.2.2.2.1, v.2.2.2.2.1.2.2.2.2.2.1, v.2.2.2.2.1.2.2.2.2.2.2.1, (ai [(-1), 63, 64] v.2.2.1).1, v.2.2.2.2.1.2.2.2.2.2.2.2.2), (ai [(-1), 63, 64] v.2.2.1).2)) (none)) (cond (v.1 == (8 : Int)) (cond (iX v.2.2.1) (κ ((v.2.2.2.2.1.1, v.2.2.2.2.1.2.1, v.2.2.2.2.1.2.2.1, v.2.2.2.2.1.2.2.2.1, v.2.2.2.2.1.2.2.2.2.1, v.2.2.2.2.1.2.2.2.2.2.1, v.2.2.2.2.1.2.2.2.2.2.2.1, v.2.2.2.2.1.2.2.2.2.2.2.2.1, (dn v.2.2.1).1, v.2.2.2.2.1.2.2.2.2.2.2.2.2.2), (dn v.2.2.1).2)) (none)) (cond (v.1 == (9 : Int)) (cond (iX v.2.2.1) (κ ((v.2.2.2.2.1.1, v.2.2.2.2.1.2.1, v.2.2.2.2.1.2.2.1, v.2.2.2.2.1.2.2.2.1, v.2.2.2.2.1.2.2.2.2.1, v.2.2.2.2.1.2.2.2.2.2.1, v.2.2.2.2.1.2.2.2.2.2.2.1, v.2.2.2.2.1.2.2.2.2.2.2.2.1, v.2.2.2.2.1.2.2.2.2.2.2.2.2.1, (dn v.2.2.1).1, v.2.2.2.2.1.2.2.2.2.2.2.2.2.2.2), (dn v.2.2.1).2)) (none)) (cond (v.1 == (10 : Int)) (cond (iX v.2.2.1) (κ ((v.2.2.2.2.1.1, v.2.2.2.2.1.2.1, v.2.2.2.2.1.2.2.1, v.2.2.2.2.1.2.2.2.1, v.2.2.2.2.1.2.2.2.2.1, v.2.2.2.2.1.2.2.2.2.2.1, v.2.2.2.2.1.2.2.2.2.2.2.1, v.2.2.2.2.1.2.2.2.2.2.2.2.1, v.2.2.2.2.1.2.2.2.2.2.2.2.2.1, v.2.2.2.2.1.2.2.2.2.2.2.2.2.2.1, (dn v.2.2.1).1, v.2.2.2.2.1.2.2.2.2.2.2.2.2.2.2.2), (dn v.2.2.1).2)) (none)) (cond (v.1 == (11 : Int)) (κ ((v.2.2.2.2.1.1, v.2.2.2.2.1.2.1, v.2.2.2.2.1.2.2.1, v.2.2.2.2.1.2.2.2.1, v.2.2.2.2.1.2.2.2.2.1, v.2.2.2.2.1.2.2.2.2.2.1, v.2.2.2.2.1.2.2.2.2.2.2.1, v.2.2.2.2.1.2.2.2.2.2.2.2.1, v.2.2.2.2.1.2.2.2.2.2.2.2.2.1, v.2.2.2.2.1.2.2.2.2.2.2.2.2.2.1, v.2.2.2.2.1.2.2.2.2.2.2.2.2.2.2.1, true, v.2.2.2.2.1.2.2.2.2.2.2.2.2.2.2.2.2), v.2.2.1)) (κ (v.2.2.2.2.1, v.2.2.1)))))))))))))
def rv (v : gm) : (Ty.T y63) × (Ty.T af) := (gb v some).getD ((Ty.zero y63), (Ty.zero af))
def zz (v : gm) : Bool := (gb v some).isSome
def Fo (v : gm) : aJ (Ex × St) := .br (zz v) (.done (wK v (rv v))) .no
theorem Sl : aN Tryz.prog (av (pb 5 27) (ae Tryz.f117)) BD Aw Fo := aI (lt := .none) (sx := BG) (gx := Bo) RF.ok aj (ah.no _) fun v => Eq.trans (b := gb v (sm (wK v))) (by kernel_rfl) (aq (show gb v (sm (wK v)) = (gb v some).bind _ from by unfold gb; simp only [bb]))
def TO := RF.l (g := 117) (t := (aD (pb 5 27) (ae Tryz.f117) .none (.sum BD Aw Fo))) (aQ Tryz.func117 (ah.b7 (az (by kernel_rfl)) (ah.no _) Sl))
def ql (a0 : Ty.T af) {Z : Type} (κ : (Ty.T y63) × (Ty.T af) -> Option Z) : Option Z := cond (bB 9 a0) (cond (zC (IntKind.wrap .i64 ((1 : Int) + (aa 9 a0).1)) (aa 9 a0).2) (cond (bB 20 (dh (IntKind.wrap .i64 ((1 : Int) + (aa 9 a0).1)) (aa 9 a0).2).2) (cond (zz ((aa 20 (dh (IntKind.wrap .i64 ((1 : Int) + (aa 9 a0).1)) (aa 9 a0).2).2).1, ((aa 20 (dh (IntKind.wrap .i64 ((1 : Int) + (aa 9 a0).1)) (aa 9 a0).2).2).1 == (0 : Int)), (aa 20 (dh (IntKind.wrap .i64 ((1 : Int) + (aa 9 a0).1)) (aa 9 a0).2).2).2, (0, 0, 0, 0, 0, 0, 0, 0, 0, 0, 0, false, false), (dh (IntKind.wrap .i64 ((1 : Int) + (aa 9 a0).1)) (aa 9 a0).2).1, ())) (κ ((rv ((aa 20 (dh (IntKind.wrap .i64 ((1 : Int) + (aa 9 a0).1)) (aa 9 a0).2).2).1, ((aa 20 (dh (IntKind.wrap .i64 ((1 : Int) + (aa 9 a0).1)) (aa 9 a0).2).2).1 == (0 : Int)), (aa 20 (dh (IntKind.wrap .i64 ((1 : Int) + (aa 9 a0).1)) (aa 9 a0).2).2).2, (0, 0, 0, 0, 0, 0, 0, 0, 0, 0, 0, false, false), (dh (IntKind.wrap .i64 ((1 : Int) + (aa 9 a0).1)) (aa 9 a0).2).1, ())).1, (rv ((aa 20 (dh (IntKind.wrap .i64 ((1 : Int) + (aa 9 a0).1)) (aa 9 a0).2).2).1, ((aa 20 (dh (IntKind.wrap .i64 ((1 : Int) + (aa 9 a0).1)) (aa 9 a0).2).2).1 == (0 : Int)), (aa 20 (dh (IntKind.wrap .i64 ((1 : Int) + (aa 9 a0).1)) (aa 9 a0).2).2).2, (0, 0, 0, 0, 0, 0, 0, 0, 0, 0, 0, false, false), (dh (IntKind.wrap .i64 ((1 : Int) + (aa 9 a0).1)) (aa 9 a0).2).1, ())).2)) (none)) (none)) (none)) (none)
def iO (a0 : Ty.T af) : (Ty.T y63) × (Ty.T af) := (ql a0 some).getD ((Ty.zero y63), (Ty.zero af))
def Cq (a0 : Ty.T af) : Bool := (ql a0 some).isSome
def Wq : Gen := ⟨[false], [.one (.ptr 4294967296 0)], [(4294967296, .box 222 [.dat af true])], fun v => .br (Cq v.1) (.done (ID (iO v.1))) .no⟩
theorem To : bu Tryz.prog 117 Wq := bH TO.ok aj (az (by kernel_rfl)) ⟨Tryz.f117, ae Tryz.f117, by kernel_rfl, by kernel_rfl⟩ fun v => Eq.trans (b := (ql v.1 (sm ID))) (by kernel_rfl) (aq (show ql v.1 (sm ID) = (ql v.1 some).bind _ from (bC (bC (bC (bC rfl rfl) rfl) rfl) rfl)))
def IG (r : (Ty.T aT) × (Ty.T af) × (List (Ty.T y63)) × (List (Ty.T bS))) : AV × Sig := (.agg ([.sl 33554432] ++ [.sl 33558528] ++ (aT.cells false r.1)), [(4294967296, .box 222 ((af.cells true r.2.1))), (33554432, .arr 64 y63 r.2.2.1 false), (33558528, .arr 191 bS r.2.2.2 false)])
def p6 := ((((((E0.g To).g LM).g db).g D0).g dH).g px)
@[reducible] def e8 : List SP := .one (.ptr 4294967296 0) :: .und :: .one (.ptr 2 0) :: .one (.ptr 3 0) :: U64 (U8 ([]))
@[reducible] def dr : List (Nat × GP) := [(4294967296, .box 222 [.dat af true]), (2, .box 37 [.dat y36 false]), (3, .box 37 [.own 33554438, .own 33558534, .dat aT false]), (33554438, .arr 64 y63 false), (33558534, .arr 191 bS false)]
@[reducible] def b9 : Type := (Ty.T af) × (Ty.T y36) × (Ty.T aT) × (List (Ty.T y63)) × (List (Ty.T bS)) × Unit
@[reducible] def eU : List SP := U2 (.one (.ptr 2 0) :: .one (.ptr 3 0) :: U64 (U8 ([])))
@[reducible] def eY : List (Nat × GP) := [(2, .box 37 [.dat y36 false]), (3, .box 37 [.own 33554438, .own 33558534, .dat aT false]), (4294967296, .box 222 [.dat af true]), (33554438, .arr 64 y63 false), (33558534, .arr 191 bS false)]
def yx (v : b9) (r : Unit) : Ex × St := (.normal, ax eU eY (v.2.1, v.2.2.1, (dn v.1).2, v.2.2.2.1, v.2.2.2.2.1 ++ [((dn v.1).1, 0, false)], ()))
def jc (v : b9) {Z : Type} (κ : Unit -> Option Z) : Option Z := cond (iX v.1) (if (v.2.2.2.2.1 ++ [((dn v.1).1, 0, false)] : List (Ty.T bS)).length * 24 <= 140737488351232 then (κ ()) else none) (none)
def NM (v : b9) : Unit := (jc v some).getD ()
def ze (v : b9) : Bool := (jc v some).isSome
def F6 (v : b9) : aJ (Ex × St) := .br (ze v) (.done (yx v (NM v))) .no
theorem Oj : aN Tryz.prog (av (pb 10 507) (ae Tryz.f149)) e8 dr F6 := bq (by kernel_rfl) (sx := eU) (gx := eY) p6.ok aj (by kernel_rfl) 2 fun v => Eq.trans (b := List.replicate 2 (jc v (sm (yx v)))) (by kernel_rfl) (congrArg (List.replicate 2) (aq (show jc v (sm (yx v)) = (jc v some).bind _ from (bC (bI rfl) rfl))))
def zy (v : b9) (r : (List (Ty.T bS))) : Ex × St := (.normal, ax eU eY (v.2.1, v.2.2.1, (dn v.1).2, v.2.2.2.1, r, ()))
def jt (v : b9) {Z : Type} (κ : (List (Ty.T bS)) -> Option Z) : Option Z := cond (iX v.1) (if (0 : Int) < ((v.2.2.2.2.1).length : Int) then (bt ((v.2.2.2.2.1)[0]?) (fun x1 => κ (v.2.2.2.2.1.set 0 (x1.1, (dn v.1).1, x1.2.2)))) else none) (none)
def xI (v : b9) : (List (Ty.T bS)) := (jt v some).getD []
def yR (v : b9) : Bool := (jt v some).isSome
def G7 (v : b9) : aJ (Ex × St) := .br (yR v) (.done (zy v (xI v))) .no
theorem NC : aN Tryz.prog (av (pb 12 2043) (ae Tryz.f149)) e8 dr G7 := bq (by kernel_rfl) (sx := eU) (gx := eY) p6.ok aj (by kernel_rfl) 2 fun v => Eq.trans (b := List.replicate 2 (jt v (sm (zy v)))) (by kernel_rfl) (congrArg (List.replicate 2) (aq (show jt v (sm (zy v)) = (jt v some).bind _ from (bC (bI (bO fun x1 => rfl)) rfl))))
def wI (v : b9) (r : Unit) : Ex × St := (.normal, ax eU eY (v.2.1, v.2.2.1, (iO v.1).2, v.2.2.2.1 ++ [(iO v.1).1], v.2.2.2.2.1, ()))
def iR (v : b9) {Z : Type} (κ : Unit -> Option Z) : Option Z := cond (Cq v.1) (if (v.2.2.2.1 ++ [(iO v.1).1] : List (Ty.T y63)).length * 96 <= 140737488351232 then (κ ()) else none) (none)
def PA (v : b9) : Unit := (iR v some).getD ()
def yV (v : b9) : Bool := (iR v some).isSome
def FG (v : b9) : aJ (Ex × St) := .br (yV v) (.done (wI v (PA v))) .no
theorem P4 : aN Tryz.prog (av (pb 14 8187) (ae Tryz.f149)) e8 dr FG := bq (by kernel_rfl) (sx := eU) (gx := eY) p6.ok aj (by kernel_rfl) 2 fun v => Eq.trans (b := List.replicate 2 (iR v (sm (wI v)))) (by kernel_rfl) (congrArg (List.replicate 2) (aq (show iR v (sm (wI v)) = (iR v some).bind _ from (bC (bI rfl) rfl))))
def xk (v : b9) (r : Unit) : Ex × St := (.normal, ax eU eY (v.2.1, v.2.2.1, (iO v.1).2, v.2.2.2.1.set 0 (iO v.1).1, v.2.2.2.2.1, ()))
def jA (v : b9) {Z : Type} (κ : Unit -> Option Z) : Option Z := cond (Cq v.1) (if (0 : Int) < ((v.2.2.2.1).length : Int) then (bt ((v.2.2.2.1)[0]?) (fun x2 => κ ())) else none) (none)
def Ru (v : b9) : Unit := (jA v some).getD ()
def yv (v : b9) : Bool := (jA v some).isSome
def GS (v : b9) : aJ (Ex × St) := .br (yv v) (.done (xk v (Ru v))) .no
theorem QM : aN Tryz.prog (av (pb 18 131067) (ae Tryz.f149)) e8 dr GS := bq (by kernel_rfl) (sx := eU) (gx := eY) p6.ok aj (by kernel_rfl) 2 fun v => Eq.trans (b := List.replicate 2 (jA v (sm (xk v)))) (by kernel_rfl) (congrArg (List.replicate 2) (aq (show jA v (sm (xk v)) = (jA v some).bind _ from (bC (bI (bO fun x2 => rfl)) rfl))))
@[reducible] def BJ : List SP := .one (.ptr 4294967296 0) :: .und :: .one (.ptr 2 0) :: .one (.ptr 3 0) :: oI :: U32 (U16 (U8 (U2 (oI :: .one (.dat .bool true) :: U8 (U2 (.und :: []))))))
@[reducible] def B4 : List SP := .one (.ptr 4294967296 0) :: .und :: .one (.ptr 2 0) :: .one (.ptr 3 0) :: oI :: U32 (U16 (U8 (U2 (oI :: .one (.dat .bool true) :: U2 (.one (.ptr 3 0) :: .und :: .one (.ptr 4294967296 0) :: oI :: .agg [.dat y63 false] :: .one (.own 72) :: .one (.own 33554438) :: .one (.ptr 3 0) :: .und :: [])))))
@[reducible] def BO : List (Nat × GP) := [(4294967296, .box 222 [.dat af true]), (2, .box 37 [.dat y36 false]), (3, .box 37 [.own 33554438, .own 33558534, .dat aT false]), (72, .arr 64 y63 false), (33554438, .arr 64 y63 false), (33558534, .arr 191 bS false)]
def x9 (v : ec) (r : Unit) : Ex × St := (.normal, ax B4 BO (v.1, v.2.1, v.2.2.1, v.1, (dh v.1 v.2.2.2.1).1, (dh v.1 v.2.2.2.1).2, v.2.2.2.2.1, v.2.2.2.2.2.1, [(dh v.1 v.2.2.2.1).1], v.2.2.2.2.2.2.1 ++ [(dh v.1 v.2.2.2.1).1], v.2.2.2.2.2.2.2.1, ()))
def jh (v : ec) {Z : Type} (κ : Unit -> Option Z) : Option Z := cond (zC v.1 v.2.2.2.1) (if (v.2.2.2.2.2.2.1 ++ [(dh v.1 v.2.2.2.1).1] : List (Ty.T y63)).length * 96 <= 140737488351232 then (κ ()) else none) (none)
def Rf (v : ec) : Unit := (jh v some).getD ()
def xz (v : ec) : Bool := (jh v some).isSome
def HF (v : ec) : aJ (Ex × St) := .br (xz v) (.done (x9 v (Rf v))) .no
theorem QU : aN Tryz.prog (av [true, false] (aB (pb 21 1572859) (ae Tryz.f149))) BJ dr HF := bq (by kernel_rfl) (sx := B4) (gx := BO) p6.ok aj (by kernel_rfl) 2 fun v => Eq.trans (b := List.replicate 2 (jh v (sm (x9 v)))) (by kernel_rfl) (congrArg (List.replicate 2) (aq (show jh v (sm (x9 v)) = (jh v some).bind _ from (bC (bI rfl) rfl))))
@[reducible] def uP : List SP := .one (.ptr 4294967296 0) :: .und :: .one (.ptr 2 0) :: .one (.ptr 3 0) :: oI :: U64 (U4 (U2 (.und :: [])))
def oK (v : dG) {Z : Type} (κ : Nat × dG -> Option Z) : Option Z := cond (decide (v.1 < (46 : Int))) (cond (xz (v.1, v.1, decide (v.1 < (46 : Int)), v.2.1, v.2.2.1, v.2.2.2.1, v.2.2.2.2.1, v.2.2.2.2.2.1, ())) (κ (0, (IntKind.wrap .i64 (v.1 + (1 : Int)), (dh v.1 v.2.1).2, v.2.2.1, v.2.2.2.1, v.2.2.2.2.1 ++ [(dh v.1 v.2.1).1], v.2.2.2.2.2.1, ()))) (none)) (κ (1, (v.1, v.2.1, v.2.2.1, v.2.2.2.1, v.2.2.2.2.1, v.2.2.2.2.2.1, ())))
def od (v : dG) : Option (Nat × dG) := oK v some
def nP (v : dG) : Nat := v.1.toNat + v.2.1.1.length + v.2.2.1.1.length + v.2.2.1.2.1.length + v.2.2.2.2.1.length + v.2.2.2.2.2.1.length + 100
def ER (h0 : Int) (h1 : Ty.T af) (h2 : Ty.T y36) (h3 : Ty.T aT) (h4 : List (Ty.T y63)) (h5 : List (Ty.T bS)) (c : Nat) : Bool := iK od nP (h0, h1, h2, h3, h4, h5, ()) c
def HQ (h0 : Int) (h1 : Ty.T af) (h2 : Ty.T y36) (h3 : Ty.T aT) (h4 : List (Ty.T y63)) (h5 : List (Ty.T bS)) : dG := iW od nP (h0, h1, h2, h3, h4, h5, ())
def Gc (v : dG) : aJ (Ex × St) := bo od (nP v) v (ax uP dr) [.exit 1] 0
theorem R5 : bl Tryz.prog (aB (pb 21 1572859) (ae Tryz.f149)) uP dr Gc := aw (lt := (aD [true, false] (aB (pb 21 1572859) (ae Tryz.f149)) .none (.sum BJ dr HF))) p6.ok aj (ah.b7 (az (by kernel_rfl)) (ah.no _) QU) fun n v K => Eq.trans (b := oK v (cW _ _ _ _ _ K)) (by kernel_rfl) (show oK v _ = (oK v some).bind _ from (bC (bC rfl rfl) rfl))
def TA := p6.l (g := 149) (t := (aD (pb 21 1572859) (ae Tryz.f149) (aD (pb 18 131067) (ae Tryz.f149) (aD (pb 14 8187) (ae Tryz.f149) (aD (pb 12 2043) (ae Tryz.f149) (aD (pb 10 507) (ae Tryz.f149) .none (.sum e8 dr F6)) (.sum e8 dr G7)) (.sum e8 dr FG)) (.sum e8 dr GS)) (.sum uP dr Gc))) (aQ Tryz.func149 (ah.sJ (by kernel_rfl) (az (by kernel_rfl)) (ah.b7 (az (by kernel_rfl)) (ah.b7 (az (by kernel_rfl)) (ah.b7 (az (by kernel_rfl)) (ah.b7 (az (by kernel_rfl)) (ah.no _) Oj) NC) P4) QM) R5))
def zP (a0 : Ty.T af) := (ai [(-1), 0, 9999, 10000] (aa 18 (ag a0).2.1).2)
def m4 (a0 : Ty.T af) := (HQ 40 (aa 18 (ag a0).2.1).2 ([], [], 0, 0) (ag a0).1 (ag a0).2.2.1 (ag a0).2.2.2)
def nF (a0 : Ty.T af) {Z : Type} (κ : (Ty.T aT) × (Ty.T af) × (List (Ty.T y63)) × (List (Ty.T bS)) -> Option Z) : Option Z := cond (yX a0) (cond (bB 18 (ag a0).2.1) (cond ((aa 18 (ag a0).2.1).1 == (0 : Int)) (cond (aV [(-1), 2, 3] (aa 18 (ag a0).2.1).2) (κ (((ai [(-1), 2, 3] (aa 18 (ag a0).2.1).2).1, (ag a0).1.2), (ai [(-1), 2, 3] (aa 18 (ag a0).2.1).2).2, (ag a0).2.2.1, (ag a0).2.2.2)) (none)) (cond ((aa 18 (ag a0).2.1).1 == (1 : Int)) (cond (aV [(-1), 0, 9999, 10000] (aa 18 (ag a0).2.1).2) (κ (((ag a0).1.1, (zP a0).1), (zP a0).2, (ag a0).2.2.1, (ag a0).2.2.2)) (none)) (cond ((aa 18 (ag a0).2.1).1 == (2 : Int)) (cond (ze ((aa 18 (ag a0).2.1).2, ([], [], 0, 0), (ag a0).1, (ag a0).2.2.1, (ag a0).2.2.2, ())) (κ ((ag a0).1, (dn (aa 18 (ag a0).2.1).2).2, (ag a0).2.2.1, (ag a0).2.2.2 ++ [((dn (aa 18 (ag a0).2.1).2).1, 0, false)])) (none)) (cond ((aa 18 (ag a0).2.1).1 == (3 : Int)) (cond (yR ((aa 18 (ag a0).2.1).2, ([], [], 0, 0), (ag a0).1, (ag a0).2.2.1, (ag a0).2.2.2, ())) (κ ((ag a0).1, (dn (aa 18 (ag a0).2.1).2).2, (ag a0).2.2.1, (xI ((aa 18 (ag a0).2.1).2, ([], [], 0, 0), (ag a0).1, (ag a0).2.2.1, (ag a0).2.2.2, ())))) (none)) (cond ((aa 18 (ag a0).2.1).1 == (4 : Int)) (cond (yV ((aa 18 (ag a0).2.1).2, ([], [], 0, 0), (ag a0).1, (ag a0).2.2.1, (ag a0).2.2.2, ())) (κ ((ag a0).1, (iO (aa 18 (ag a0).2.1).2).2, (ag a0).2.2.1 ++ [(iO (aa 18 (ag a0).2.1).2).1], (ag a0).2.2.2)) (none)) (cond ((aa 18 (ag a0).2.1).1 == (5 : Int)) (if (1 : Int) <= (((ag a0).2.2.2).length : Int) then (κ ((ag a0).1, (aa 18 (ag a0).2.1).2, (ag a0).2.2.1, (ag a0).2.2.2.take 1)) else none) (cond ((aa 18 (ag a0).2.1).1 == (6 : Int)) (cond (yv ((aa 18 (ag a0).2.1).2, ([], [], 0, 0), (ag a0).1, (ag a0).2.2.1, (ag a0).2.2.2, ())) (κ ((ag a0).1, (iO (aa 18 (ag a0).2.1).2).2, (ag a0).2.2.1.set 0 (iO (aa 18 (ag a0).2.1).2).1, (ag a0).2.2.2)) (none)) (cond ((aa 18 (ag a0).2.1).1 == (7 : Int)) (cond (ER 40 (aa 18 (ag a0).2.1).2 ([], [], 0, 0) (ag a0).1 (ag a0).2.2.1 (ag a0).2.2.2 0) (κ ((m4 a0).2.2.2.1, (m4 a0).2.1, (m4 a0).2.2.2.2.1, (m4 a0).2.2.2.2.2.1)) (none)) (κ ((ag a0).1, (aa 18 (ag a0).2.1).2, (ag a0).2.2.1, (ag a0).2.2.2)))))))))) (none)) (none)
def qI (a0 : Ty.T af) : (Ty.T aT) × (Ty.T af) × (List (Ty.T y63)) × (List (Ty.T bS)) := (nF a0 some).getD ((Ty.zero aT), (Ty.zero af), [], [])
def Kw (a0 : Ty.T af) : Bool := (nF a0 some).isSome
def Xo : Gen := ⟨[false], [.one (.ptr 4294967296 0)], [(4294967296, .box 222 [.dat af true])], fun v => .br (Kw v.1) (.done (IG (qI v.1))) .no⟩
theorem UX : bu Tryz.prog 149 Xo := bH TA.ok aj (az (by kernel_rfl)) ⟨Tryz.f149, ae Tryz.f149, by kernel_rfl, by kernel_rfl⟩ fun v => Eq.trans (b := (nF v.1 (sm IG))) (by kernel_rfl) (aq (show nF v.1 (sm IG) = (nF v.1 some).bind _ from by unfold nF; simp only [bb]))
def Jf (r : (Ty.T bT) × (Ty.T af)) : AV × Sig := (.agg (bT.cells false r.1), [(4294967296, .box 222 ((af.cells true r.2)))])
def WZ := ((((E0.g db).g dH).g px).g Lm)
def n9 (a0 : Ty.T y36) (a1 : Ty.T af) {Z : Type} (κ : (Ty.T bT) × (Ty.T af) -> Option Z) : Option Z := cond (DX a0 a1) (cond (bB 16 (aH a0 a1).2) (cond ((aa 16 (aH a0 a1).2).1 == (0 : Int)) (cond (aV [0, 1, 2, 3, 7] (aa 16 (aH a0 a1).2).2) (κ (((ai [0, 1, 2, 3, 7] (aa 16 (aH a0 a1).2).2).1, (aH a0 a1).1.2), (ai [0, 1, 2, 3, 7] (aa 16 (aH a0 a1).2).2).2)) (none)) (cond ((aa 16 (aH a0 a1).2).1 == (1 : Int)) (cond (aV [(-1), 3] (aa 16 (aH a0 a1).2).2) (κ (((aH a0 a1).1.1, (ai [(-1), 3] (aa 16 (aH a0 a1).2).2).1, (aH a0 a1).1.2.2), (ai [(-1), 3] (aa 16 (aH a0 a1).2).2).2)) (none)) (cond ((aa 16 (aH a0 a1).2).1 == (2 : Int)) (cond (aV [(-1), 1, 99, 100] (aa 16 (aH a0 a1).2).2) (κ (((aH a0 a1).1.1, (aH a0 a1).1.2.1, (ai [(-1), 1, 99, 100] (aa 16 (aH a0 a1).2).2).1, (aH a0 a1).1.2.2.2), (ai [(-1), 1, 99, 100] (aa 16 (aH a0 a1).2).2).2)) (none)) (cond ((aa 16 (aH a0 a1).2).1 == (3 : Int)) (cond (aV [(-1), 1, 63, 64] (aa 16 (aH a0 a1).2).2) (κ (((aH a0 a1).1.1, (aH a0 a1).1.2.1, (aH a0 a1).1.2.2.1, (ai [(-1), 1, 63, 64] (aa 16 (aH a0 a1).2).2).1, (aH a0 a1).1.2.2.2.2), (ai [(-1), 1, 63, 64] (aa 16 (aH a0 a1).2).2).2)) (none)) (cond ((aa 16 (aH a0 a1).2).1 == (4 : Int)) (cond (aV [(-1), 1, 100] (aa 16 (aH a0 a1).2).2) (κ (((aH a0 a1).1.1, (aH a0 a1).1.2.1, (aH a0 a1).1.2.2.1, (aH a0 a1).1.2.2.2.1, (ai [(-1), 1, 100] (aa 16 (aH a0 a1).2).2).1, (aH a0 a1).1.2.2.2.2.2), (ai [(-1), 1, 100] (aa 16 (aH a0 a1).2).2).2)) (none)) (cond ((aa 16 (aH a0 a1).2).1 == (5 : Int)) (cond (iX (aa 16 (aH a0 a1).2).2) (κ (((aH a0 a1).1.1, (aH a0 a1).1.2.1, (aH a0 a1).1.2.2.1, (aH a0 a1).1.2.2.2.1, (aH a0 a1).1.2.2.2.2.1, (dn (aa 16 (aH a0 a1).2).2).1, (aH a0 a1).1.2.2.2.2.2.2), (dn (aa 16 (aH a0 a1).2).2).2)) (none)) (cond ((aa 16 (aH a0 a1).2).1 == (6 : Int)) (cond (aV [(-1), 2, 5] (aa 16 (aH a0 a1).2).2) (κ (((aH a0 a1).1.1, (aH a0 a1).1.2.1, (aH a0 a1).1.2.2.1, (aH a0 a1).1.2.2.2.1, (aH a0 a1).1.2.2.2.2.1, (aH a0 a1).1.2.2.2.2.2.1, (ai [(-1), 2, 5] (aa 16 (aH a0 a1).2).2).1), (ai [(-1), 2, 5] (aa 16 (aH a0 a1).2).2).2)) (none)) (κ ((aH a0 a1).1, (aa 16 (aH a0 a1).2).2))))))))) (none)) (none)
def DI (a0 : Ty.T y36) (a1 : Ty.T af) : (Ty.T bT) × (Ty.T af) := (n9 a0 a1 some).getD ((Ty.zero bT), (Ty.zero af))
def Jj (a0 : Ty.T y36) (a1 : Ty.T af) : Bool := (n9 a0 a1 some).isSome
def Yv : Gen := ⟨[false, false], [.one (.ptr 4294967296 0), .agg [.dat y36 false]], [(4294967296, .box 222 [.dat af true])], fun v => .br (Jj v.1 v.2.1) (.done (Jf (DI v.1 v.2.1))) .no⟩
theorem UH : bu Tryz.prog 293 Yv := bH WZ.ok aj (az (by kernel_rfl)) ⟨Tryz.f293, ae Tryz.f293, by kernel_rfl, by kernel_rfl⟩ fun v => Eq.trans (b := (n9 v.1 v.2.1 (sm Jf))) (by kernel_rfl) (aq (show n9 v.1 v.2.1 (sm Jf) = (n9 v.1 v.2.1 some).bind _ from by unfold n9; simp only [bb]))
def J4 (r : (Ty.T aT) × (Ty.T af)) : AV × Sig := (.agg (aT.cells false r.1), [(4294967296, .box 222 ((af.cells true r.2)))])
def Yw := ((((E0.g db).g dH).g px).g LN)
def nB (a0 : Ty.T af) {Z : Type} (κ : (Ty.T aT) × (Ty.T af) -> Option Z) : Option Z := cond (CT a0) (cond (bB 8 (cI a0).2) (cond ((aa 8 (cI a0).2).1 == (0 : Int)) (cond (aV [(-1), 1, 2, 3, 4, 5] (aa 8 (cI a0).2).2) (κ (((ai [(-1), 1, 2, 3, 4, 5] (aa 8 (cI a0).2).2).1, (cI a0).1.2), (ai [(-1), 1, 2, 3, 4, 5] (aa 8 (cI a0).2).2).2)) (none)) (cond ((aa 8 (cI a0).2).1 == (1 : Int)) (cond (iX (aa 8 (cI a0).2).2) (κ (((cI a0).1.1, (dn (aa 8 (cI a0).2).2).1), (dn (aa 8 (cI a0).2).2).2)) (none)) (cond ((aa 8 (cI a0).2).1 == (2 : Int)) (cond (aV [1, 8, 9, (-1)] (aa 8 (cI a0).2).2) (κ (((cI a0).1.1, (ai [1, 8, 9, (-1)] (aa 8 (cI a0).2).2).1), (ai [1, 8, 9, (-1)] (aa 8 (cI a0).2).2).2)) (none)) (κ ((cI a0).1, (aa 8 (cI a0).2).2))))) (none)) (none)
def CW (a0 : Ty.T af) : (Ty.T aT) × (Ty.T af) := (nB a0 some).getD ((Ty.zero aT), (Ty.zero af))
def KA (a0 : Ty.T af) : Bool := (nB a0 some).isSome
def XV : Gen := ⟨[false], [.one (.ptr 4294967296 0)], [(4294967296, .box 222 [.dat af true])], fun v => .br (KA v.1) (.done (J4 (CW v.1))) .no⟩
theorem UB : bu Tryz.prog 294 XV := bH Yw.ok aj (az (by kernel_rfl)) ⟨Tryz.f294, ae Tryz.f294, by kernel_rfl, by kernel_rfl⟩ fun v => Eq.trans (b := (nB v.1 (sm J4))) (by kernel_rfl) (aq (show nB v.1 (sm J4) = (nB v.1 some).bind _ from by unfold nB; simp only [bb]))
def JJ (r : (Ty.T y27) × (Ty.T af)) : AV × Sig := (.agg (y27.cells false r.1), [(4294967296, .box 222 ((af.cells true r.2)))])
def Xi := ((((E0.g db).g dH).g px).g wv)
def oz (a0 : Ty.T y36) (a1 : Ty.T af) {Z : Type} (κ : (Ty.T y27) × (Ty.T af) -> Option Z) : Option Z := cond (lU a0 a1) (cond (bB 16 (al a0 a1).2) (cond ((aa 16 (al a0 a1).2).1 == (0 : Int)) (cond (aV [0, 1, 2, 3, 5, 7] (aa 16 (al a0 a1).2).2) (κ (((ai [0, 1, 2, 3, 5, 7] (aa 16 (al a0 a1).2).2).1, (al a0 a1).1.2), (ai [0, 1, 2, 3, 5, 7] (aa 16 (al a0 a1).2).2).2)) (none)) (cond ((aa 16 (al a0 a1).2).1 == (1 : Int)) (cond (aV [0, 1, 99, 100] (aa 16 (al a0 a1).2).2) (κ (((al a0 a1).1.1, (ai [0, 1, 99, 100] (aa 16 (al a0 a1).2).2).1, (al a0 a1).1.2.2), (ai [0, 1, 99, 100] (aa 16 (al a0 a1).2).2).2)) (none)) (cond ((aa 16 (al a0 a1).2).1 == (2 : Int)) (cond (aV [0, 99, 100, (-1)] (aa 16 (al a0 a1).2).2) (κ (((al a0 a1).1.1, (al a0 a1).1.2.1, (ai [0, 99, 100, (-1)] (aa 16 (al a0 a1).2).2).1, (al a0 a1).1.2.2.2), (ai [0, 99, 100, (-1)] (aa 16 (al a0 a1).2).2).2)) (none)) (cond ((aa 16 (al a0 a1).2).1 == (3 : Int)) (cond (aV [(-2), (-1), 0, 2, 3] (aa 16 (al a0 a1).2).2) (κ (((al a0 a1).1.1, (al a0 a1).1.2.1, (al a0 a1).1.2.2.1, (ai [(-2), (-1), 0, 2, 3] (aa 16 (al a0 a1).2).2).1, (al a0 a1).1.2.2.2.2), (ai [(-2), (-1), 0, 2, 3] (aa 16 (al a0 a1).2).2).2)) (none)) (cond ((aa 16 (al a0 a1).2).1 == (4 : Int)) (cond (iX (aa 16 (al a0 a1).2).2) (κ (((al a0 a1).1.1, (al a0 a1).1.2.1, (al a0 a1).1.2.2.1, (al a0 a1).1.2.2.2.1, (dn (aa 16 (al a0 a1).2).2).1, (al a0 a1).1.2.2.2.2.2), (dn (aa 16 (al a0 a1).2).2).2)) (none)) (cond ((aa 16 (al a0 a1).2).1 == (5 : Int)) (cond (aV [0, 2, 4, 5] (aa 16 (al a0 a1).2).2) (κ (((al a0 a1).1.1, (al a0 a1).1.2.1, (al a0 a1).1.2.2.1, (al a0 a1).1.2.2.2.1, (al a0 a1).1.2.2.2.2.1, (ai [0, 2, 4, 5] (aa 16 (al a0 a1).2).2).1, (al a0 a1).1.2.2.2.2.2.2), (ai [0, 2, 4, 5] (aa 16 (al a0 a1).2).2).2)) (none)) (cond ((aa 16 (al a0 a1).2).1 == (6 : Int)) (κ (((al a0 a1).1.1, (al a0 a1).1.2.1, (al a0 a1).1.2.2.1, (al a0 a1).1.2.2.2.1, (al a0 a1).1.2.2.2.2.1, (al a0 a1).1.2.2.2.2.2.1, !(al a0 a1).1.2.2.2.2.2.2), (aa 16 (al a0 a1).2).2)) (κ ((al a0 a1).1, (aa 16 (al a0 a1).2).2))))))))) (none)) (none)
def n6 (a0 : Ty.T y36) (a1 : Ty.T af) : (Ty.T y27) × (Ty.T af) := (oz a0 a1 some).getD ((Ty.zero y27), (Ty.zero af))
def CY (a0 : Ty.T y36) (a1 : Ty.T af) : Bool := (oz a0 a1 some).isSome
def Wr : Gen := ⟨[false, false], [.one (.ptr 4294967296 0), .agg [.dat y36 false]], [(4294967296, .box 222 [.dat af true])], fun v => .br (CY v.1 v.2.1) (.done (JJ (n6 v.1 v.2.1))) .no⟩
theorem K1 : bu Tryz.prog 151 Wr := bH Xi.ok aj (az (by kernel_rfl)) ⟨Tryz.f151, ae Tryz.f151, by kernel_rfl, by kernel_rfl⟩ fun v => Eq.trans (b := (oz v.1 v.2.1 (sm JJ))) (by kernel_rfl) (aq (show oz v.1 v.2.1 (sm JJ) = (oz v.1 v.2.1 some).bind _ from by unfold oz; simp only [bb]))
end
end Go.Proofs.YtahlaccdpmddbaaGreat.Vm
