/- Contracts. No condition. -/
import Derived.Test.YtahlaccdpmddbaaGreatVmT
import Derived.Test.YtahlaccdpmddbaaGreatVmLibThree
namespace Go.Proofs.YtahlaccdpmddbaaGreat.Vm
open Go Go.Proofs.YtahlaccdpmddbaaGreat.Lib
noncomputable section
set_option maxRecDepth 100000
set_option linter.unusedVariables false
@[reducible] def q2 : Ty := (.pair (.int .i64) (.pair (.int .i64) (.pair (.int .i64) bS)))
@[reducible] def q1 : Ty := (.pair (.int .i64) (.pair (.int .i64) (.pair (.int .i64) (.pair (.int .i64) y27))))
@[reducible] def q0 : Ty := (.pair (.int .i64) (.pair (.int .i64) (.pair (.int .i64) (.pair (.int .i64) (.pair bT (.pair aT q2))))))
@[reducible] def q3 : Ty := (.pair (.int .i64) (.pair (.int .i64) (.pair (.int .i64) (.pair (.int .i64) (.pair (.int .i64) (.pair (.int .i64) (.pair (.int .i64) (.pair (.int .i64) q1))))))))
def f28 (r : Bool) : AV × Sig := (.one (.bool r), [])
def E28 := E0
def u28 (a0 : List (Ty.T (.int .u8))) : Option (AV × Sig) := some (.one (.bool (decide (((a0).length : Int) > (1048576 : Int)))), [])
def v28 (a0 : List (Ty.T (.int .u8))) : Bool := decide (((a0).length : Int) > (1048576 : Int))
theorem o28 (a0 : List (Ty.T (.int .u8))) : u28 a0 = some (f28 (v28 a0)) := rfl
def p28 : Prim := ⟨[.one (.dat (.sl 5 (.int .u8)) true)], fun v => .done (f28 (v28 v.1))⟩
theorem agl : PO 28 p28 := pK E28 fun v => Eq.trans (b := u28 v.1) (by kernel_rfl) (o28 v.1)
def f165 (r : Bool) : AV × Sig := (.one (.bool r), [])
def ahS := E0
def aav (a0 : Int) (a1 : Int) (a2 : Int) : Option (AV × Sig) := cond (decide (a0 ≥ a1)) (some (.one (.bool (decide (a0 <= a2))), [])) (some (.one (.bool false), []))
def cw (a0 : Int) (a1 : Int) (a2 : Int) : Bool := cond (decide (a0 ≥ a1)) (decide (a0 <= a2)) (false)
theorem aei (a0 : Int) (a1 : Int) (a2 : Int) : aav a0 a1 a2 = some (f165 (cw a0 a1 a2)) := (tC rfl rfl)
def aez : Prim := ⟨[oI, oI, oI], fun v => .done (f165 (cw v.1 v.2.1 v.2.2.1))⟩
theorem ju : PO 165 aez := pK ahS fun v => Eq.trans (b := aav v.1 v.2.1 v.2.2.1) (by kernel_rfl) (aei v.1 v.2.1 v.2.2.1)
def f159 (r : Bool) : AV × Sig := (.one (.bool r), [])
def ahv := (E0.p ju)
def acC (a0 : Int) : Option (AV × Sig) := some (.one (.bool (cw a0 0 2147483647)), [])
def pE (a0 : Int) : Bool := (cw a0 0 2147483647)
theorem ait (a0 : Int) : acC a0 = some (f159 (pE a0)) := rfl
def afP : Prim := ⟨[oI], fun v => .done (f159 (pE v.1))⟩
theorem FU : PO 159 afP := pK ahv fun v => Eq.trans (b := acC v.1) (by kernel_rfl) (ait v.1)
def f160 (r : Bool) : AV × Sig := (.one (.bool r), [])
def ad2 := (E0.p ju)
def Zz (a0 : Int) : Option (AV × Sig) := some (.one (.bool (cw a0 1 99)), [])
def lb (a0 : Int) : Bool := (cw a0 1 99)
theorem agP (a0 : Int) : Zz a0 = some (f160 (lb a0)) := rfl
def ag7 : Prim := ⟨[oI], fun v => .done (f160 (lb v.1))⟩
theorem Br : PO 160 ag7 := pK ad2 fun v => Eq.trans (b := Zz v.1) (by kernel_rfl) (agP v.1)
def f161 (r : Bool) : AV × Sig := (.one (.bool r), [])
def ajd := (E0.p Br)
def aah (a0 : Ty.T y27) : Option (AV × Sig) := cond (lb a0.2.2.1) (some (.one (.bool (a0.2.2.2.1 == (-1 : Int))), [])) (some (.one (.bool false), []))
def eK (a0 : Ty.T y27) : Bool := cond (lb a0.2.2.1) ((a0.2.2.2.1 == (-1 : Int))) (false)
theorem ahs (a0 : Ty.T y27) : aah a0 = some (f161 (eK a0)) := (tC rfl rfl)
def ai6 : Prim := ⟨[.agg [.dat y27 true]], fun v => .done (f161 (eK v.1))⟩
theorem abV : PO 161 ai6 := pK ajd fun v => Eq.trans (b := aah v.1) (by kernel_rfl) (ahs v.1)
def f164 (r : Bool) : AV × Sig := (.one (.bool r), [])
def ae7 := (E0.p ju)
def acK (a0 : Int) : Option (AV × Sig) := some (.one (.bool (cw a0 0 2)), [])
def mu (a0 : Int) : Bool := (cw a0 0 2)
theorem ahn (a0 : Int) : acK a0 = some (f164 (mu a0)) := rfl
def afx : Prim := ⟨[oI], fun v => .done (f164 (mu v.1))⟩
theorem FO : PO 164 afx := pK ae7 fun v => Eq.trans (b := acK v.1) (by kernel_rfl) (ahn v.1)
def f162 (r : Bool) : AV × Sig := (.one (.bool r), [])
def agZ := (E0.p FO)
def abg (a0 : Ty.T y27) : Option (AV × Sig) := cond (a0.2.2.1 == (0 : Int)) (some (.one (.bool (mu a0.2.2.2.1)), [])) (some (.one (.bool false), []))
def qN (a0 : Ty.T y27) : Bool := cond (a0.2.2.1 == (0 : Int)) ((mu a0.2.2.2.1)) (false)
theorem aeG (a0 : Ty.T y27) : abg a0 = some (f162 (qN a0)) := (tC rfl rfl)
def ahT : Prim := ⟨[.agg [.dat y27 true]], fun v => .done (f162 (qN v.1))⟩
theorem abG : PO 162 ahT := pK agZ fun v => Eq.trans (b := abg v.1) (by kernel_rfl) (aeG v.1)
def f163 (r : Bool) : AV × Sig := (.one (.bool r), [])
def ajb := (E0.p ju)
def abb (a0 : Int) : Option (AV × Sig) := some (.one (.bool (cw a0 1 4)), [])
def wi (a0 : Int) : Bool := (cw a0 1 4)
theorem afi (a0 : Int) : abb a0 = some (f163 (wi a0)) := rfl
def aiZ : Prim := ⟨[oI], fun v => .done (f163 (wi v.1))⟩
theorem Qs : PO 163 aiZ := pK ajb fun v => Eq.trans (b := abb v.1) (by kernel_rfl) (afi v.1)
def f53 (r : Bool) : AV × Sig := (.one (.bool r), [])
def E53 := (((((E0.p FU).p Br).p abV).p abG).p Qs)
def t53 (a0 : Ty.T y27) {Z : Type} (κ : Bool -> Z) : Z := cond (!(pE a0.2.2.2.2.1)) (κ false) (cond (a0.1 != (1 : Int)) (cond (a0.2.1 != (0 : Int)) (κ false) (cond (a0.1 != (2 : Int)) (cond (a0.2.2.2.2.2.1 != (0 : Int)) (κ false) (cond a0.2.2.2.2.2.2 (κ false) (cond (a0.1 == (1 : Int)) (cond (lb a0.2.1) (cond (eK a0) (κ true) (κ (qN a0))) (κ false)) (cond (a0.1 == (2 : Int)) (cond (a0.2.2.2.2.2.1 == (2 : Int)) (cond (eK a0) (κ (decide (a0.2.2.2.2.1 <= (99 : Int)))) (κ false)) (cond (eK a0) (cond (wi a0.2.2.2.2.2.1) (cond (a0.2.2.2.2.1 == (0 : Int)) (κ (!a0.2.2.2.2.2.2)) (κ false)) (κ false)) (κ false))) (cond (a0.1 == (3 : Int)) (cond (a0.1 == (3 : Int)) (κ (qN a0)) (cond (a0.1 == (5 : Int)) (cond (a0.1 == (5 : Int)) (κ (eK a0)) (κ false)) (cond (a0.1 == (6 : Int)) (κ (eK a0)) (κ false)))) (cond (a0.1 == (4 : Int)) (κ (qN a0)) (cond (a0.1 == (5 : Int)) (cond (a0.1 == (5 : Int)) (κ (eK a0)) (κ false)) (cond (a0.1 == (6 : Int)) (κ (eK a0)) (κ false))))))))) (cond (a0.1 == (1 : Int)) (cond (lb a0.2.1) (cond (eK a0) (κ true) (κ (qN a0))) (κ false)) (cond (a0.1 == (2 : Int)) (cond (a0.2.2.2.2.2.1 == (2 : Int)) (cond (eK a0) (κ (decide (a0.2.2.2.2.1 <= (99 : Int)))) (κ false)) (cond (eK a0) (cond (wi a0.2.2.2.2.2.1) (cond (a0.2.2.2.2.1 == (0 : Int)) (κ (!a0.2.2.2.2.2.2)) (κ false)) (κ false)) (κ false))) (cond (a0.1 == (3 : Int)) (cond (a0.1 == (3 : Int)) (κ (qN a0)) (cond (a0.1 == (5 : Int)) (cond (a0.1 == (5 : Int)) (κ (eK a0)) (κ false)) (cond (a0.1 == (6 : Int)) (κ (eK a0)) (κ false)))) (cond (a0.1 == (4 : Int)) (κ (qN a0)) (cond (a0.1 == (5 : Int)) (cond (a0.1 == (5 : Int)) (κ (eK a0)) (κ false)) (cond (a0.1 == (6 : Int)) (κ (eK a0)) (κ false))))))))) (cond (a0.1 != (2 : Int)) (cond (a0.2.2.2.2.2.1 != (0 : Int)) (κ false) (cond a0.2.2.2.2.2.2 (κ false) (cond (a0.1 == (1 : Int)) (cond (lb a0.2.1) (cond (eK a0) (κ true) (κ (qN a0))) (κ false)) (cond (a0.1 == (2 : Int)) (cond (a0.2.2.2.2.2.1 == (2 : Int)) (cond (eK a0) (κ (decide (a0.2.2.2.2.1 <= (99 : Int)))) (κ false)) (cond (eK a0) (cond (wi a0.2.2.2.2.2.1) (cond (a0.2.2.2.2.1 == (0 : Int)) (κ (!a0.2.2.2.2.2.2)) (κ false)) (κ false)) (κ false))) (cond (a0.1 == (3 : Int)) (cond (a0.1 == (3 : Int)) (κ (qN a0)) (cond (a0.1 == (5 : Int)) (cond (a0.1 == (5 : Int)) (κ (eK a0)) (κ false)) (cond (a0.1 == (6 : Int)) (κ (eK a0)) (κ false)))) (cond (a0.1 == (4 : Int)) (κ (qN a0)) (cond (a0.1 == (5 : Int)) (cond (a0.1 == (5 : Int)) (κ (eK a0)) (κ false)) (cond (a0.1 == (6 : Int)) (κ (eK a0)) (κ false))))))))) (cond (a0.1 == (1 : Int)) (cond (lb a0.2.1) (cond (eK a0) (κ true) (κ (qN a0))) (κ false)) (cond (a0.1 == (2 : Int)) (cond (a0.2.2.2.2.2.1 == (2 : Int)) (cond (eK a0) (κ (decide (a0.2.2.2.2.1 <= (99 : Int)))) (κ false)) (cond (eK a0) (cond (wi a0.2.2.2.2.2.1) (cond (a0.2.2.2.2.1 == (0 : Int)) (κ (!a0.2.2.2.2.2.2)) (κ false)) (κ false)) (κ false))) (cond (a0.1 == (3 : Int)) (cond (a0.1 == (3 : Int)) (κ (qN a0)) (cond (a0.1 == (5 : Int)) (cond (a0.1 == (5 : Int)) (κ (eK a0)) (κ false)) (cond (a0.1 == (6 : Int)) (κ (eK a0)) (κ false)))) (cond (a0.1 == (4 : Int)) (κ (qN a0)) (cond (a0.1 == (5 : Int)) (cond (a0.1 == (5 : Int)) (κ (eK a0)) (κ false)) (cond (a0.1 == (6 : Int)) (κ (eK a0)) (κ false)))))))))
def v53 (a0 : Ty.T y27) : Bool := t53 a0 fun r => r
def p53 : Prim := ⟨[.agg [.dat y27 true]], fun v => .done (f53 (v53 v.1))⟩
theorem Gz : PO 53 p53 := pK E53 fun v => Eq.trans (b := (t53 v.1 (sm f53))) (by kernel_rfl) (show t53 v.1 (sm f53) = some (f53 (t53 v.1 fun r => r)) from (tC rfl (tC (tC rfl (tC (tC rfl (tC rfl (tC (tC (tC rfl rfl) rfl) (tC (tC (tC rfl rfl) (tC (tC (tC rfl rfl) rfl) rfl)) (tC (tC rfl (tC (tC rfl rfl) (tC rfl rfl))) (tC rfl (tC (tC rfl rfl) (tC rfl rfl)))))))) (tC (tC (tC rfl rfl) rfl) (tC (tC (tC rfl rfl) (tC (tC (tC rfl rfl) rfl) rfl)) (tC (tC rfl (tC (tC rfl rfl) (tC rfl rfl))) (tC rfl (tC (tC rfl rfl) (tC rfl rfl)))))))) (tC (tC rfl (tC rfl (tC (tC (tC rfl rfl) rfl) (tC (tC (tC rfl rfl) (tC (tC (tC rfl rfl) rfl) rfl)) (tC (tC rfl (tC (tC rfl rfl) (tC rfl rfl))) (tC rfl (tC (tC rfl rfl) (tC rfl rfl)))))))) (tC (tC (tC rfl rfl) rfl) (tC (tC (tC rfl rfl) (tC (tC (tC rfl rfl) rfl) rfl)) (tC (tC rfl (tC (tC rfl rfl) (tC rfl rfl))) (tC rfl (tC (tC rfl rfl) (tC rfl rfl))))))))))
def f168 (r : Bool) : AV × Sig := (.one (.bool r), [])
def aix := (E0.p ju)
def aa4 (a0 : Ty.T y36) (a1 : Int) : Option (AV × Sig) := some (.one (.bool (cw a1 0 (IntKind.wrap .i64 (((a0.2.1).length : Int) - (1 : Int))))), [])
def pF (a0 : Ty.T y36) (a1 : Int) : Bool := (cw a1 0 (IntKind.wrap .i64 (((a0.2.1).length : Int) - (1 : Int))))
theorem ahL (a0 : Ty.T y36) (a1 : Int) : aa4 a0 a1 = some (f168 (pF a0 a1)) := rfl
def ahY : Prim := ⟨[.agg [.dat y36 true], oI], fun v => .done (f168 (pF v.1 v.2.1))⟩
theorem Pv : PO 168 ahY := pK aix fun v => Eq.trans (b := aa4 v.1 v.2.1) (by kernel_rfl) (ahL v.1 v.2.1)
def f169 (r : Bool) : AV × Sig := (.one (.bool r), [])
def agV := (E0.p ju)
def abk (a0 : Int) : Option (AV × Sig) := some (.one (.bool (cw a0 0 9999)), [])
def Mp (a0 : Int) : Bool := (cw a0 0 9999)
theorem ai5 (a0 : Int) : abk a0 = some (f169 (Mp a0)) := rfl
def aga : Prim := ⟨[oI], fun v => .done (f169 (Mp v.1))⟩
theorem Wb : PO 169 aga := pK agV fun v => Eq.trans (b := abk v.1) (by kernel_rfl) (ai5 v.1)
def f250 (r : Bool) : AV × Sig := (.one (.bool r), [])
def ae5 := (E0.p ju)
def ZL (a0 : Int) : Option (AV × Sig) := some (.one (.bool (cw a0 0 63)), [])
def MD (a0 : Int) : Bool := (cw a0 0 63)
theorem afj (a0 : Int) : ZL a0 = some (f250 (MD a0)) := rfl
def aht : Prim := ⟨[oI], fun v => .done (f250 (MD v.1))⟩
theorem VO : PO 250 aht := pK ae5 fun v => Eq.trans (b := ZL v.1) (by kernel_rfl) (afj v.1)
def f170 (r : Bool) : AV × Sig := (.one (.bool r), [])
def afu := (((((((E0.p FU).p Br).p Qs).p FO).p ju).p Wb).p VO)
def t170 (a0 : Ty.T y63) {Z : Type} (κ : Bool -> Z) : Z := cond (!(lb a0.1)) (κ false) (cond (!(mu a0.2.1)) (κ false) (cond (!(mu a0.2.2.1)) (κ false) (cond (!(wi a0.2.2.2.1)) (κ false) (cond (!(Mp a0.2.2.2.2.1)) (κ false) (cond (!(cw a0.2.2.2.2.2.1 0 999)) (κ false) (cond (!(cw a0.2.2.2.2.2.2.1 0 999)) (κ false) (cond (!(MD a0.2.2.2.2.2.2.2.1)) (κ false) (cond (a0.2.2.2.1 != (2 : Int)) (cond (a0.2.2.1 == a0.2.1) (cond (a0.2.2.2.2.2.2.2.2.1 == (0 : Int)) (cond (a0.2.2.2.2.2.2.2.2.2.1 == (0 : Int)) (cond (a0.2.2.2.2.2.2.2.2.2.2.1 == (0 : Int)) (cond (!a0.2.2.2.2.2.2.2.2.2.2.2.1) (κ (!a0.2.2.2.2.2.2.2.2.2.2.2.2)) (κ false)) (κ false)) (κ false)) (κ false)) (κ false)) (cond (pE a0.2.2.2.2.2.2.2.2.1) (cond (pE a0.2.2.2.2.2.2.2.2.2.1) (κ (pE a0.2.2.2.2.2.2.2.2.2.2.1)) (κ false)) (κ false))))))))))
def Ps (a0 : Ty.T y63) : Bool := t170 a0 fun r => r
def ah5 : Prim := ⟨[.agg [.dat y63 true]], fun v => .done (f170 (Ps v.1))⟩
theorem Z2 : PO 170 ah5 := pK afu fun v => Eq.trans (b := (t170 v.1 (sm f170))) (by kernel_rfl) (show t170 v.1 (sm f170) = some (f170 (t170 v.1 fun r => r)) from (tC rfl (tC rfl (tC rfl (tC rfl (tC rfl (tC rfl (tC rfl (tC rfl (tC (tC (tC (tC (tC (tC rfl rfl) rfl) rfl) rfl) rfl) (tC (tC rfl rfl) rfl)))))))))))
def f173 (r : Int) : AV × Sig := (.one (.int .i64 r), [])
def afD := E0
def Zg (a0 : Int) : Option (AV × Sig) := some (.one (.int .i64 (if (if (2147483647 : Int) < a0 then 2147483647 else a0) > (-2147483647 : Int) then if (2147483647 : Int) < a0 then 2147483647 else a0 else (-2147483647))), [])
def fG (a0 : Int) : Int := if (if (2147483647 : Int) < a0 then 2147483647 else a0) > (-2147483647 : Int) then if (2147483647 : Int) < a0 then 2147483647 else a0 else (-2147483647)
theorem afd (a0 : Int) : Zg a0 = some (f173 (fG a0)) := rfl
def agT : Prim := ⟨[oI], fun v => .done (f173 (fG v.1))⟩
theorem A1 : PO 173 agT := pK afD fun v => Eq.trans (b := Zg v.1) (by kernel_rfl) (afd v.1)
def f172 (r : Bool) : AV × Sig := (.one (.bool r), [])
def ah6 := ((E0.p FU).p A1)
def ab1 (a0 : Ty.T bS) : Option (AV × Sig) := cond ((fG a0.1) != a0.1) (some (.one (.bool true), [])) (some (.one (.bool (!(pE a0.2.1))), []))
def L7 (a0 : Ty.T bS) : Bool := cond ((fG a0.1) != a0.1) (true) (!(pE a0.2.1))
theorem agj (a0 : Ty.T bS) : ab1 a0 = some (f172 (L7 a0)) := (tC rfl rfl)
def ahJ : Prim := ⟨[.agg [.dat bS true]], fun v => .done (f172 (L7 v.1))⟩
theorem acg : PO 172 ahJ := pK ah6 fun v => Eq.trans (b := ab1 v.1) (by kernel_rfl) (agj v.1)
def Qo (r : Int) : AV × Sig := (.one (.int .i64 r), [])
def Oe := (E0.p acg)
@[reducible] def tt : List SP := .one (.dat (.sl 191 bS) true) :: .one (.fnc 172 []) :: U2 (oI :: U2 (oI :: oI :: U8 (U2 ([]))))
@[reducible] def au : List (Nat × GP) := []
@[reducible] def iZ : Type := (List (Ty.T bS)) × Int × Int × Int × Unit
def lu (v : iZ) {Z : Type} (κ : Nat × iZ -> Option Z) : Option Z := cond (decide (v.2.2.2.1 < v.2.2.1)) (if 0 <= v.2.2.2.1 then (bt ((v.1)[(v.2.2.2.1).toNat]?) (fun x1 => cond (L7 x1) (κ (1, (v.1, v.2.2.2.1, v.2.2.1, v.2.2.2.1, ()))) (κ (0, (v.1, v.2.1, v.2.2.1, IntKind.wrap .i64 (v.2.2.2.1 + (1 : Int)), ()))))) else none) (κ (2, (v.1, v.2.1, v.2.2.1, v.2.2.2.1, ())))
def kI (v : iZ) : Option (Nat × iZ) := lu v some
def mL (v : iZ) : Nat := v.1.length + v.2.1.toNat + v.2.2.1.toNat + v.2.2.2.1.toNat + 100
def fo (h0 : List (Ty.T bS)) (h1 : Int) (h2 : Int) (h3 : Int) (c : Nat) : Bool := iK kI mL (h0, h1, h2, h3, ()) c
def rE (h0 : List (Ty.T bS)) (h1 : Int) (h2 : Int) (h3 : Int) : iZ := iW kI mL (h0, h1, h2, h3, ())
def GV (v : iZ) : aJ (Ex × St) := bo kI (mL v) v (ax tt au) [.ret, .exit 0] 0
theorem SF : bl Tryz.prog (aB (pb 3 5) (ae Tryz.f251)) tt au GV := aw (lt := .none) Oe.ok aj (ah.no _) fun n v K => Eq.trans (b := lu v (cW _ _ _ _ _ K)) (by kernel_rfl) (show lu v _ = (lu v some).bind _ from (bC (bI (bO fun x1 => (bC rfl rfl))) rfl))
def S4 := Oe.l (g := 251) (t := (cv (pb 3 5) (ae Tryz.f251) .none (.sum tt au GV))) (aQ Tryz.func251 (ah.put (az (by kernel_rfl)) (ah.no _) SF))
def Qa (a0 : List (Ty.T bS)) : Option (AV × Sig) := cond (fo a0 0 ((a0).length : Int) 0 0) (some (.one (.int .i64 (rE a0 0 ((a0).length : Int) 0).2.1), [])) (cond (fo a0 0 ((a0).length : Int) 0 1) (some (.one (.int .i64 (-1)), [])) (none))
def yF (a0 : List (Ty.T bS)) : Int := cond (fo a0 0 ((a0).length : Int) 0 0) ((rE a0 0 ((a0).length : Int) 0).2.1) (cond (fo a0 0 ((a0).length : Int) 0 1) ((-1)) (0))
def vj (a0 : List (Ty.T bS)) : Bool := cond (fo a0 0 ((a0).length : Int) 0 0) (true) (cond (fo a0 0 ((a0).length : Int) 0 1) (true) (false))
theorem Yh (a0 : List (Ty.T bS)) : Qa a0 = cond (vj a0) (some (Qo (yF a0))) none := (pC (pS _) (pC (pS _) (pN _)))
def WM : Prim := ⟨[.one (.dat (.sl 191 bS) true), .one (.fnc 172 [])], fun v => .br (vj v.1) (.done (Qo (yF v.1))) .no⟩
theorem UI : PO 251 WM := pK S4 fun v => Eq.trans (b := Qa v.1) (by kernel_rfl) (Yh v.1)
def Pq (r : Bool) : AV × Sig := (.one (.bool r), [])
def X4 := (E0.p UI)
def NB (a0 : List (Ty.T bS)) : Option (AV × Sig) := cond (vj a0) (some (.one (.bool (decide ((yF a0) ≥ (0 : Int)))), [])) (none)
def xa (a0 : List (Ty.T bS)) : Bool := cond (vj a0) (decide ((yF a0) ≥ (0 : Int))) (false)
def zw (a0 : List (Ty.T bS)) : Bool := cond (vj a0) (true) (false)
theorem Yl (a0 : List (Ty.T bS)) : NB a0 = cond (zw a0) (some (Pq (xa a0))) none := (pC (pS _) (pN _))
def Yj : Prim := ⟨[.one (.dat (.sl 191 bS) true), .one (.fnc 172 [])], fun v => .br (zw v.1) (.done (Pq (xa v.1))) .no⟩
theorem Uw : PO 171 Yj := pK X4 fun v => Eq.trans (b := NB v.1) (by kernel_rfl) (Yl v.1)
def f56 (r : Bool) : AV × Sig := (.one (.bool r), [])
def E56 := (((((E0.p Uw).p ju).p Pv).p Wb).p Z2)
@[reducible] def IN : List SP := .und :: .one (.ptr 1 0) :: .one (.dat .bool true) :: U16 (U8 (U2 (.und :: .one (.dat (.sl 64 y63) true) :: oI :: oI :: U32 (U16 (.und :: [])))))
@[reducible] def l6 : List (Nat × GP) := [(1, .box 37 [.dat y36 true])]
@[reducible] def zT : Type := Bool × (List (Ty.T y63)) × Int × Int × (Ty.T y36) × Unit
def vL (v : zT) {Z : Type} (κ : Nat × zT -> Option Z) : Option Z := cond (decide (v.2.2.2.1 < v.2.2.1)) (if 0 <= v.2.2.2.1 then (bt ((v.2.1)[(v.2.2.2.1).toNat]?) (fun x1 => cond (!(Ps x1)) (κ (1, (false, v.2.1, v.2.2.1, v.2.2.2.1, v.2.2.2.2.1, ()))) (cond (!(pF v.2.2.2.2.1 x1.2.1)) (κ (1, (false, v.2.1, v.2.2.1, v.2.2.2.1, v.2.2.2.2.1, ()))) (cond (!(pF v.2.2.2.2.1 x1.2.2.1)) (κ (1, (false, v.2.1, v.2.2.1, v.2.2.2.1, v.2.2.2.2.1, ()))) (cond (decide (x1.2.2.2.2.1 > v.2.2.2.2.1.2.2.2)) (κ (1, (false, v.2.1, v.2.2.1, v.2.2.2.1, v.2.2.2.2.1, ()))) (cond (decide (v.2.2.2.1 > (0 : Int))) (if 0 <= (IntKind.wrap .i64 (v.2.2.2.1 - (1 : Int))) then (bt ((v.2.2.2.2.1.1)[(IntKind.wrap .i64 (v.2.2.2.1 - (1 : Int))).toNat]?) (fun x2 => cond (decide (x2.1 ≥ x1.1)) (κ (1, (false, v.2.1, v.2.2.1, v.2.2.2.1, v.2.2.2.2.1, ()))) (κ (0, (v.1, v.2.1, v.2.2.1, IntKind.wrap .i64 (v.2.2.2.1 + (1 : Int)), v.2.2.2.2.1, ()))))) else none) (κ (0, (v.1, v.2.1, v.2.2.1, IntKind.wrap .i64 (v.2.2.2.1 + (1 : Int)), v.2.2.2.2.1, ()))))))))) else none) (κ (2, (v.1, v.2.1, v.2.2.1, v.2.2.2.1, v.2.2.2.2.1, ())))
def pU (v : zT) : Option (Nat × zT) := vL v some
def BF (v : zT) : Nat := v.2.1.length + v.2.2.1.toNat + v.2.2.2.1.toNat + v.2.2.2.2.1.1.length + v.2.2.2.2.1.2.1.length + 100
def FD (h0 : Bool) (h1 : List (Ty.T y63)) (h2 : Int) (h3 : Int) (h4 : Ty.T y36) (c : Nat) : Bool := iK pU BF (h0, h1, h2, h3, h4, ()) c
def FL (h0 : Bool) (h1 : List (Ty.T y63)) (h2 : Int) (h3 : Int) (h4 : Ty.T y36) : zT := iW pU BF (h0, h1, h2, h3, h4, ())
def Vf (v : zT) : aJ (Ex × St) := bo pU (BF v) v (ax IN l6) [.ret, .exit 0] 0
theorem acG : bl Tryz.prog (aB (pb 4 11) (ae Tryz.f56)) IN l6 Vf := aw (lt := .none) E56.ok aj (ah.no _) fun n v K => Eq.trans (b := vL v (cW _ _ _ _ _ K)) (by kernel_rfl) (show vL v _ = (vL v some).bind _ from (bC (bI (bO fun x1 => (bC rfl (bC rfl (bC rfl (bC rfl (bC (bI (bO fun x2 => (bC rfl rfl))) rfl))))))) rfl))
def aiU := E56.l (g := 56) (t := (cv (pb 4 11) (ae Tryz.f56) .none (.sum IN l6 Vf))) (aQ Tryz.func56 (ah.put (az (by kernel_rfl)) (ah.no _) acG))
def t56 (a0 : Ty.T y36) {Z : Type} (κ : Bool -> Option Z) : Option Z := cond (decide (((a0.1).length : Int) > (8 : Int))) (κ false) (cond (!(cw ((a0.2.1).length : Int) 2 3)) (κ false) (cond (!(pF a0 a0.2.2.1)) (κ false) (cond (!(Mp a0.2.2.2)) (κ false) (cond (FD false a0.1 ((a0.1).length : Int) 0 a0 0) (κ (FL false a0.1 ((a0.1).length : Int) 0 a0).1) (cond (FD false a0.1 ((a0.1).length : Int) 0 a0 1) (cond (zw (FL false a0.1 ((a0.1).length : Int) 0 a0).2.2.2.2.1.2.1) (κ (!(xa (FL false a0.1 ((a0.1).length : Int) 0 a0).2.2.2.2.1.2.1))) (none)) (none))))))
def v56 (a0 : Ty.T y36) : Bool := (t56 a0 some).getD false
def d56 (a0 : Ty.T y36) : Bool := (t56 a0 some).isSome
def p56 : Prim := ⟨[.agg [.dat y36 true]], fun v => .br (d56 v.1) (.done (f56 (v56 v.1))) .no⟩
theorem abK : PO 56 p56 := pK aiU fun v => Eq.trans (b := (t56 v.1 (sm f56))) (by kernel_rfl) (aq (show t56 v.1 (sm f56) = (t56 v.1 some).bind _ from by unfold t56; simp only [bb]))
def f177 (r : List (Ty.T y27)) : AV × Sig := (.one (.sl 4096), [(4096, .arr 41 y27 r false)])
def R1 (a0 : List (Ty.T y27)) : List (Ty.T y27) := a0
def d177 (a0 : List (Ty.T y27)) : Bool := decide (List.length a0 * 56 <= 140737488351232)
def ah9 : Prim := ⟨[.one (.dat (.sl 41 y27) true)], fun v => .br (d177 v.1) (.done (f177 (R1 v.1))) .no⟩
theorem Vu : PO 177 ah9 := K6 (t := 55) (tb := 4) (e := 41) hEt Tryz.func177 (by kernel_rfl) (by kernel_rfl) (by kernel_rfl) (by kernel_rfl) rfl rfl (by decide) (by kernel_rfl)
def f226 (r : (Ty.T q0) × (Ty.T aT) × (List (Ty.T y27))) : AV × Sig := (.agg ((q0.cells false r.1) ++ [.sl 81920] ++ (aT.cells false r.2.1)), [(81920, .arr 41 y27 r.2.2 false)])
def agb := (E0.p Vu)
def t226 (a0 : Ty.T ab) {Z : Type} (κ : (Ty.T q0) × (Ty.T aT) × (List (Ty.T y27)) -> Option Z) : Option Z := cond (d177 a0.2.2.2.2.2.2.1.2.2.2.2.2.2) (κ ((a0.1, a0.2.1, a0.2.2.1, a0.2.2.2.1, a0.2.2.2.2.1, a0.2.2.2.2.2.1, a0.2.2.2.2.2.2.1.1, a0.2.2.2.2.2.2.1.2.1, a0.2.2.2.2.2.2.1.2.2.1, a0.2.2.2.2.2.2.1.2.2.2.1, a0.2.2.2.2.2.2.1.2.2.2.2.1, a0.2.2.2.2.2.2.1.2.2.2.2.2.1), a0.2.2.2.2.2.2.2, (R1 a0.2.2.2.2.2.2.1.2.2.2.2.2.2))) (none)
def cy (a0 : Ty.T ab) : (Ty.T q0) × (Ty.T aT) × (List (Ty.T y27)) := (t226 a0 some).getD ((Ty.zero q0), (Ty.zero aT), [])
def d226 (a0 : Ty.T ab) : Bool := (t226 a0 some).isSome
def ahd : Prim := ⟨[.agg [.dat ab true]], fun v => .br (d226 v.1) (.done (f226 (cy v.1))) .no⟩
theorem KJ : PO 226 ahd := pK agb fun v => Eq.trans (b := (t226 v.1 (sm f226))) (by kernel_rfl) (aq (show t226 v.1 (sm f226) = (t226 v.1 some).bind _ from (bC rfl rfl)))
def f134 (r : (List (Ty.T ab))) : AV × Sig := (.one (.sl 4096), [(4096, .arr 109 ab r false)])
def acJ := (E0.p KJ)
@[reducible] def Db : List SP := U2 (.one (.dat (.sl 109 ab) false) :: .one (.own 6) :: U2 (.und :: .one (.dat (.sl 109 ab) true) :: oI :: oI :: U8 (U2 ([]))))
@[reducible] def Cj : List (Nat × GP) := [(6, .arr 109 ab false)]
@[reducible] def qZ : Type := (List (Ty.T ab)) × (List (Ty.T ab)) × Int × Int × (List (Ty.T ab)) × Unit
def uj (v : qZ) {Z : Type} (κ : Nat × qZ -> Option Z) : Option Z := cond (decide (v.2.2.2.1 < v.2.2.1)) (if 0 <= v.2.2.2.1 then (bt ((v.2.1)[(v.2.2.2.1).toNat]?) (fun x1 => cond (d226 x1) (if (v.2.2.2.2.1 ++ [((cy x1).1.1, (cy x1).1.2.1, (cy x1).1.2.2.1, (cy x1).1.2.2.2.1, (cy x1).1.2.2.2.2.1, (cy x1).1.2.2.2.2.2.1, ((cy x1).1.2.2.2.2.2.2.1, (cy x1).1.2.2.2.2.2.2.2.1, (cy x1).1.2.2.2.2.2.2.2.2.1, (cy x1).1.2.2.2.2.2.2.2.2.2.1, (cy x1).1.2.2.2.2.2.2.2.2.2.2.1, (cy x1).1.2.2.2.2.2.2.2.2.2.2.2, (cy x1).2.2), (cy x1).2.1)] : List (Ty.T ab)).length * 192 <= 140737488351232 then (κ (0, (v.1, v.2.1, v.2.2.1, IntKind.wrap .i64 (v.2.2.2.1 + (1 : Int)), v.2.2.2.2.1 ++ [((cy x1).1.1, (cy x1).1.2.1, (cy x1).1.2.2.1, (cy x1).1.2.2.2.1, (cy x1).1.2.2.2.2.1, (cy x1).1.2.2.2.2.2.1, ((cy x1).1.2.2.2.2.2.2.1, (cy x1).1.2.2.2.2.2.2.2.1, (cy x1).1.2.2.2.2.2.2.2.2.1, (cy x1).1.2.2.2.2.2.2.2.2.2.1, (cy x1).1.2.2.2.2.2.2.2.2.2.2.1, (cy x1).1.2.2.2.2.2.2.2.2.2.2.2, (cy x1).2.2), (cy x1).2.1)], ()))) else none) (none))) else none) (κ (1, (v.1, v.2.1, v.2.2.1, v.2.2.2.1, v.2.2.2.2.1, ())))
def tJ (v : qZ) : Option (Nat × qZ) := uj v some
def xm (v : qZ) : Nat := v.1.length + v.2.1.length + v.2.2.1.toNat + v.2.2.2.1.toNat + v.2.2.2.2.1.length + 100
def DL (h0 : List (Ty.T ab)) (h1 : List (Ty.T ab)) (h2 : Int) (h3 : Int) (h4 : List (Ty.T ab)) (c : Nat) : Bool := iK tJ xm (h0, h1, h2, h3, h4, ()) c
def Je (h0 : List (Ty.T ab)) (h1 : List (Ty.T ab)) (h2 : Int) (h3 : Int) (h4 : List (Ty.T ab)) : qZ := iW tJ xm (h0, h1, h2, h3, h4, ())
def R0 (v : qZ) : aJ (Ex × St) := bo tJ (xm v) v (ax Db Cj) [.exit 0] 0
theorem Y6 : bl Tryz.prog (aB (pb 4 11) (ae Tryz.f134)) Db Cj R0 := aw (lt := .none) acJ.ok aj (ah.no _) fun n v K => Eq.trans (b := uj v (cW _ _ _ _ _ K)) (by kernel_rfl) (show uj v _ = (uj v some).bind _ from (bC (bI (bO fun x1 => (bC (bI rfl) rfl))) rfl))
def abW := acJ.l (g := 134) (t := (cv (pb 4 11) (ae Tryz.f134) .none (.sum Db Cj R0))) (aQ Tryz.func134 (ah.put (az (by kernel_rfl)) (ah.no _) Y6))
def adh (a0 : List (Ty.T ab)) : Option (AV × Sig) := cond (DL [] a0 ((a0).length : Int) 0 [] 0) (some (.one (.sl 4096), [(4096, .arr 109 ab (Je [] a0 ((a0).length : Int) 0 []).2.2.2.2.1 false)])) (none)
def nu (a0 : List (Ty.T ab)) : (List (Ty.T ab)) := cond (DL [] a0 ((a0).length : Int) 0 [] 0) ((Je [] a0 ((a0).length : Int) 0 []).2.2.2.2.1) ([])
def d134 (a0 : List (Ty.T ab)) : Bool := cond (DL [] a0 ((a0).length : Int) 0 [] 0) (true) (false)
theorem aes (a0 : List (Ty.T ab)) : adh a0 = cond (d134 a0) (some (f134 (nu a0))) none := (pC (pS _) (pN _))
def ahh : Prim := ⟨[.one (.dat (.sl 109 ab) true)], fun v => .br (d134 v.1) (.done (f134 (nu v.1))) .no⟩
theorem Wf : PO 134 ahh := pK abW fun v => Eq.trans (b := adh v.1) (by kernel_rfl) (aes v.1)
def f135 (r : List (Ty.T (.int .i64))) : AV × Sig := (.one (.sl 4096), [(4096, .arr 3 (.int .i64) r false)])
def fV (a0 : List (Ty.T (.int .i64))) : List (Ty.T (.int .i64)) := a0
def d135 (a0 : List (Ty.T (.int .i64))) : Bool := decide (List.length a0 * 8 <= 140737488351232)
def afn : Prim := ⟨[.one (.dat (.sl 3 (.int .i64)) true)], fun v => .br (d135 v.1) (.done (f135 (fV v.1))) .no⟩
theorem OZ : PO 135 afn := K6 (t := 50) (tb := 4) (e := 3) hEt Tryz.func135 (by kernel_rfl) (by kernel_rfl) (by kernel_rfl) (by kernel_rfl) rfl rfl (by decide) (by kernel_rfl)
def f320 (r : Bool) : AV × Sig := (.one (.bool r), [])
def ai4 := (E0.p ju)
def adN (a0 : Int) : Option (AV × Sig) := some (.one (.bool (cw a0 1 6)), [])
def MW (a0 : Int) : Bool := (cw a0 1 6)
theorem aeq (a0 : Int) : adN a0 = some (f320 (MW a0)) := rfl
def agy : Prim := ⟨[oI], fun v => .done (f320 (MW v.1))⟩
theorem Vo : PO 320 agy := pK ai4 fun v => Eq.trans (b := adN v.1) (by kernel_rfl) (aeq v.1)
def f283 (r : Bool) : AV × Sig := (.one (.bool r), [])
def ae0 := ((((E0.p FU).p ju).p VO).p Vo)
def t283 (a0 : Ty.T bT) {Z : Type} (κ : Bool -> Z) : Z := cond (!(MW a0.1)) (κ false) (cond (!(cw a0.2.1 0 2)) (κ false) (cond (!(cw a0.2.2.1 0 99)) (κ false) (cond (!(MD a0.2.2.2.1)) (κ false) (cond (!(cw a0.2.2.2.2.1 0 99)) (κ false) (cond (!(pE a0.2.2.2.2.2.1)) (κ false) (cond (!(cw a0.2.2.2.2.2.2 0 4)) (κ false) (cond (a0.1 != (1 : Int)) (cond (a0.2.2.1 != (0 : Int)) (κ false) (cond (a0.2.2.2.1 != (0 : Int)) (κ false) (cond (a0.1 != (2 : Int)) (cond (a0.2.2.2.2.2.2 != (0 : Int)) (κ false) (cond (a0.2.2.2.2.1 == (0 : Int)) (κ true) (cond (a0.1 != (3 : Int)) (κ (a0.1 != (4 : Int))) (κ false)))) (cond (a0.2.2.2.2.1 == (0 : Int)) (κ true) (cond (a0.1 != (3 : Int)) (κ (a0.1 != (4 : Int))) (κ false)))))) (cond (a0.1 != (2 : Int)) (cond (a0.2.2.2.2.2.2 != (0 : Int)) (κ false) (cond (a0.2.2.2.2.1 == (0 : Int)) (κ true) (cond (a0.1 != (3 : Int)) (κ (a0.1 != (4 : Int))) (κ false)))) (cond (a0.2.2.2.2.1 == (0 : Int)) (κ true) (cond (a0.1 != (3 : Int)) (κ (a0.1 != (4 : Int))) (κ false)))))))))))
def xK (a0 : Ty.T bT) : Bool := t283 a0 fun r => r
def afI : Prim := ⟨[.agg [.dat bT true]], fun v => .done (f283 (xK v.1))⟩
theorem V7 : PO 283 afI := pK ae0 fun v => Eq.trans (b := (t283 v.1 (sm f283))) (by kernel_rfl) (show t283 v.1 (sm f283) = some (f283 (t283 v.1 fun r => r)) from (tC rfl (tC rfl (tC rfl (tC rfl (tC rfl (tC rfl (tC rfl (tC (tC rfl (tC rfl (tC (tC rfl (tC rfl (tC rfl rfl))) (tC rfl (tC rfl rfl))))) (tC (tC rfl (tC rfl (tC rfl rfl))) (tC rfl (tC rfl rfl))))))))))))
def f284 (r : Bool) : AV × Sig := (.one (.bool r), [])
def ae2 := ((E0.p ju).p A1)
def t284 (a0 : Ty.T aT) {Z : Type} (κ : Bool -> Z) : Z := cond (a0.1 == (0 : Int)) (cond (a0.1 == (0 : Int)) (κ (a0.2 == (0 : Int))) (cond (a0.1 == (1 : Int)) (κ ((fG a0.2) == a0.2)) (cond (a0.1 == (2 : Int)) (cond (a0.1 == (2 : Int)) (κ (cw a0.2 0 8)) (κ false)) (cond (a0.1 == (4 : Int)) (κ (cw a0.2 0 8)) (κ false))))) (cond (a0.1 == (3 : Int)) (κ (a0.2 == (0 : Int))) (cond (a0.1 == (1 : Int)) (κ ((fG a0.2) == a0.2)) (cond (a0.1 == (2 : Int)) (cond (a0.1 == (2 : Int)) (κ (cw a0.2 0 8)) (κ false)) (cond (a0.1 == (4 : Int)) (κ (cw a0.2 0 8)) (κ false)))))
def zm (a0 : Ty.T aT) : Bool := t284 a0 fun r => r
def ajc : Prim := ⟨[.agg [.dat aT true]], fun v => .done (f284 (zm v.1))⟩
theorem VB : PO 284 ajc := pK ae2 fun v => Eq.trans (b := (t284 v.1 (sm f284))) (by kernel_rfl) (show t284 v.1 (sm f284) = some (f284 (t284 v.1 fun r => r)) from (tC (tC rfl (tC rfl (tC (tC rfl rfl) (tC rfl rfl)))) (tC rfl (tC rfl (tC (tC rfl rfl) (tC rfl rfl))))))
def f322 (r : Bool) : AV × Sig := (.one (.bool r), [])
def afb := (E0.p Gz)
def ZQ (a0 : Ty.T y27) : Option (AV × Sig) := cond (v53 a0) (some (.one (.bool true), [])) (cond (a0.1 != (2 : Int)) (cond (a0.2.2.2.2.1 == (-1 : Int)) (some (.one (.bool (v53 (a0.1, a0.2.1, a0.2.2.1, a0.2.2.2.1, 0, a0.2.2.2.2.2))), [])) (some (.one (.bool false), []))) (some (.one (.bool false), [])))
def Mf (a0 : Ty.T y27) : Bool := cond (v53 a0) (true) (cond (a0.1 != (2 : Int)) (cond (a0.2.2.2.2.1 == (-1 : Int)) ((v53 (a0.1, a0.2.1, a0.2.2.1, a0.2.2.2.1, 0, a0.2.2.2.2.2))) (false)) (false))
theorem aib (a0 : Ty.T y27) : ZQ a0 = some (f322 (Mf a0)) := (tC rfl (tC (tC rfl rfl) rfl))
def adU : Prim := ⟨[.agg [.dat y27 true]], fun v => .done (f322 (Mf v.1))⟩
theorem acE : PO 322 adU := pK afb fun v => Eq.trans (b := ZQ v.1) (by kernel_rfl) (aib v.1)
def f321 (r : Bool) : AV × Sig := (.one (.bool r), [])
def ajr := (E0.p acE)
def acZ (a0 : Ty.T y27) : Option (AV × Sig) := some (.one (.bool (!(Mf a0))), [])
def Tv (a0 : Ty.T y27) : Bool := !(Mf a0)
theorem agS (a0 : Ty.T y27) : acZ a0 = some (f321 (Tv a0)) := rfl
def aeP : Prim := ⟨[.agg [.dat y27 true]], fun v => .done (f321 (Tv v.1))⟩
theorem aa7 : PO 321 aeP := pK ajr fun v => Eq.trans (b := acZ v.1) (by kernel_rfl) (agS v.1)
def Qr (r : Int) : AV × Sig := (.one (.int .i64 r), [])
def Ou := (E0.p aa7)
@[reducible] def tl : List SP := .one (.dat (.sl 41 y27) true) :: .one (.fnc 321 []) :: U2 (oI :: U2 (oI :: oI :: U8 (U2 ([]))))
@[reducible] def cD : Type := (List (Ty.T y27)) × Int × Int × Int × Unit
def kT (v : cD) {Z : Type} (κ : Nat × cD -> Option Z) : Option Z := cond (decide (v.2.2.2.1 < v.2.2.1)) (if 0 <= v.2.2.2.1 then (bt ((v.1)[(v.2.2.2.1).toNat]?) (fun x1 => cond (Tv x1) (κ (1, (v.1, v.2.2.2.1, v.2.2.1, v.2.2.2.1, ()))) (κ (0, (v.1, v.2.1, v.2.2.1, IntKind.wrap .i64 (v.2.2.2.1 + (1 : Int)), ()))))) else none) (κ (2, (v.1, v.2.1, v.2.2.1, v.2.2.2.1, ())))
def lh (v : cD) : Option (Nat × cD) := kT v some
def mJ (v : cD) : Nat := v.1.length + v.2.1.toNat + v.2.2.1.toNat + v.2.2.2.1.toNat + 100
def fE (h0 : List (Ty.T y27)) (h1 : Int) (h2 : Int) (h3 : Int) (c : Nat) : Bool := iK lh mJ (h0, h1, h2, h3, ()) c
def ru (h0 : List (Ty.T y27)) (h1 : Int) (h2 : Int) (h3 : Int) : cD := iW lh mJ (h0, h1, h2, h3, ())
def Gq (v : cD) : aJ (Ex × St) := bo lh (mJ v) v (ax tl au) [.ret, .exit 0] 0
theorem Pr : bl Tryz.prog (aB (pb 3 5) (ae Tryz.f249)) tl au Gq := aw (lt := .none) Ou.ok aj (ah.no _) fun n v K => Eq.trans (b := kT v (cW _ _ _ _ _ K)) (by kernel_rfl) (show kT v _ = (kT v some).bind _ from (bC (bI (bO fun x1 => (bC rfl rfl))) rfl))
def Tj := Ou.l (g := 249) (t := (cv (pb 3 5) (ae Tryz.f249) .none (.sum tl au Gq))) (aQ Tryz.func249 (ah.put (az (by kernel_rfl)) (ah.no _) Pr))
def Oi (a0 : List (Ty.T y27)) : Option (AV × Sig) := cond (fE a0 0 ((a0).length : Int) 0 0) (some (.one (.int .i64 (ru a0 0 ((a0).length : Int) 0).2.1), [])) (cond (fE a0 0 ((a0).length : Int) 0 1) (some (.one (.int .i64 (-1)), [])) (none))
def zq (a0 : List (Ty.T y27)) : Int := cond (fE a0 0 ((a0).length : Int) 0 0) ((ru a0 0 ((a0).length : Int) 0).2.1) (cond (fE a0 0 ((a0).length : Int) 0 1) ((-1)) (0))
def tK (a0 : List (Ty.T y27)) : Bool := cond (fE a0 0 ((a0).length : Int) 0 0) (true) (cond (fE a0 0 ((a0).length : Int) 0 1) (true) (false))
theorem Ww (a0 : List (Ty.T y27)) : Oi a0 = cond (tK a0) (some (Qr (zq a0))) none := (pC (pS _) (pC (pS _) (pN _)))
def Y0 : Prim := ⟨[.one (.dat (.sl 41 y27) true), .one (.fnc 321 [])], fun v => .br (tK v.1) (.done (Qr (zq v.1))) .no⟩
theorem Uj : PO 249 Y0 := pK Tj fun v => Eq.trans (b := Oi v.1) (by kernel_rfl) (Ww v.1)
def PC (r : Bool) : AV × Sig := (.one (.bool r), [])
def XD := (E0.p Uj)
def OM (a0 : List (Ty.T y27)) : Option (AV × Sig) := cond (tK a0) (some (.one (.bool (decide ((zq a0) ≥ (0 : Int)))), [])) (none)
def yy (a0 : List (Ty.T y27)) : Bool := cond (tK a0) (decide ((zq a0) ≥ (0 : Int))) (false)
def xZ (a0 : List (Ty.T y27)) : Bool := cond (tK a0) (true) (false)
theorem XN (a0 : List (Ty.T y27)) : OM a0 = cond (xZ a0) (some (PC (yy a0))) none := (pC (pS _) (pN _))
def XH : Prim := ⟨[.one (.dat (.sl 41 y27) true), .one (.fnc 321 [])], fun v => .br (xZ v.1) (.done (PC (yy v.1))) .no⟩
theorem Ux : PO 166 XH := pK XD fun v => Eq.trans (b := OM v.1) (by kernel_rfl) (XN v.1)
def f285 (r : Bool) : AV × Sig := (.one (.bool r), [])
def Qb := (((((E0.p Ux).p Br).p Qs).p FO).p ju)
@[reducible] def pn : List SP := .und :: .one (.ptr 1 0) :: .one (.dat .bool true) :: U64 (U32 (U16 ([])))
@[reducible] def bU : List (Nat × GP) := [(1, .box 107 [.dat bm true])]
@[reducible] def bX : Type := Bool × (Ty.T bm) × Unit
@[reducible] def LP : List SP := .und :: .one (.ptr 1 0) :: .one (.dat .bool true) :: U32 (U16 (U8 (.und :: .one (.dat .bool true) :: U32 (U16 (U4 (U2 ([])))))))
def Cu (v : bX) (r : Bool) : Ex × St := (.normal, ax LP bU (v.1, r, v.2.1, ()))
def tk (v : bX) {Z : Type} (κ : Bool -> Z) : Z := cond (v.2.1.1 != (3 : Int)) (cond (v.2.1.1 != (8 : Int)) (cond (v.2.1.2.1 != (0 : Int)) (κ true) (cond (v.2.1.1 != (6 : Int)) (cond (v.2.1.2.2.1 != (0 : Int)) (κ true) (cond (v.2.1.2.2.2.1 != (-1 : Int)) (κ true) (cond (v.2.1.1 != (7 : Int)) (cond (v.2.1.2.2.2.2.1 != (0 : Int)) (κ true) (cond (v.2.1.1 != (8 : Int)) (cond v.2.1.2.2.2.2.2.1 (κ true) (cond (v.2.1.1 != (9 : Int)) (κ (decide (((v.2.1.2.2.2.2.2.2).length : Int) > (0 : Int)))) (κ false))) (cond (v.2.1.1 != (9 : Int)) (κ (decide (((v.2.1.2.2.2.2.2.2).length : Int) > (0 : Int)))) (κ false)))) (cond (v.2.1.1 != (8 : Int)) (cond v.2.1.2.2.2.2.2.1 (κ true) (cond (v.2.1.1 != (9 : Int)) (κ (decide (((v.2.1.2.2.2.2.2.2).length : Int) > (0 : Int)))) (κ false))) (cond (v.2.1.1 != (9 : Int)) (κ (decide (((v.2.1.2.2.2.2.2.2).length : Int) > (0 : Int)))) (κ false)))))) (cond (v.2.1.1 != (7 : Int)) (cond (v.2.1.2.2.2.2.1 != (0 : Int)) (κ true) (cond (v.2.1.1 != (8 : Int)) (cond v.2.1.2.2.2.2.2.1 (κ true) (cond (v.2.1.1 != (9 : Int)) (κ (decide (((v.2.1.2.2.2.2.2.2).length : Int) > (0 : Int)))) (κ false))) (cond (v.2.1.1 != (9 : Int)) (κ (decide (((v.2.1.2.2.2.2.2.2).length : Int) > (0 : Int)))) (κ false)))) (cond (v.2.1.1 != (8 : Int)) (cond v.2.1.2.2.2.2.2.1 (κ true) (cond (v.2.1.1 != (9 : Int)) (κ (decide (((v.2.1.2.2.2.2.2.2).length : Int) > (0 : Int)))) (κ false))) (cond (v.2.1.1 != (9 : Int)) (κ (decide (((v.2.1.2.2.2.2.2.2).length : Int) > (0 : Int)))) (κ false)))))) (cond (v.2.1.1 != (6 : Int)) (cond (v.2.1.2.2.1 != (0 : Int)) (κ true) (cond (v.2.1.2.2.2.1 != (-1 : Int)) (κ true) (cond (v.2.1.1 != (7 : Int)) (cond (v.2.1.2.2.2.2.1 != (0 : Int)) (κ true) (cond (v.2.1.1 != (8 : Int)) (cond v.2.1.2.2.2.2.2.1 (κ true) (cond (v.2.1.1 != (9 : Int)) (κ (decide (((v.2.1.2.2.2.2.2.2).length : Int) > (0 : Int)))) (κ false))) (cond (v.2.1.1 != (9 : Int)) (κ (decide (((v.2.1.2.2.2.2.2.2).length : Int) > (0 : Int)))) (κ false)))) (cond (v.2.1.1 != (8 : Int)) (cond v.2.1.2.2.2.2.2.1 (κ true) (cond (v.2.1.1 != (9 : Int)) (κ (decide (((v.2.1.2.2.2.2.2.2).length : Int) > (0 : Int)))) (κ false))) (cond (v.2.1.1 != (9 : Int)) (κ (decide (((v.2.1.2.2.2.2.2.2).length : Int) > (0 : Int)))) (κ false)))))) (cond (v.2.1.1 != (7 : Int)) (cond (v.2.1.2.2.2.2.1 != (0 : Int)) (κ true) (cond (v.2.1.1 != (8 : Int)) (cond v.2.1.2.2.2.2.2.1 (κ true) (cond (v.2.1.1 != (9 : Int)) (κ (decide (((v.2.1.2.2.2.2.2.2).length : Int) > (0 : Int)))) (κ false))) (cond (v.2.1.1 != (9 : Int)) (κ (decide (((v.2.1.2.2.2.2.2.2).length : Int) > (0 : Int)))) (κ false)))) (cond (v.2.1.1 != (8 : Int)) (cond v.2.1.2.2.2.2.2.1 (κ true) (cond (v.2.1.1 != (9 : Int)) (κ (decide (((v.2.1.2.2.2.2.2.2).length : Int) > (0 : Int)))) (κ false))) (cond (v.2.1.1 != (9 : Int)) (κ (decide (((v.2.1.2.2.2.2.2.2).length : Int) > (0 : Int)))) (κ false)))))) (cond (v.2.1.1 != (6 : Int)) (cond (v.2.1.2.2.1 != (0 : Int)) (κ true) (cond (v.2.1.2.2.2.1 != (-1 : Int)) (κ true) (cond (v.2.1.1 != (7 : Int)) (cond (v.2.1.2.2.2.2.1 != (0 : Int)) (κ true) (cond (v.2.1.1 != (8 : Int)) (cond v.2.1.2.2.2.2.2.1 (κ true) (cond (v.2.1.1 != (9 : Int)) (κ (decide (((v.2.1.2.2.2.2.2.2).length : Int) > (0 : Int)))) (κ false))) (cond (v.2.1.1 != (9 : Int)) (κ (decide (((v.2.1.2.2.2.2.2.2).length : Int) > (0 : Int)))) (κ false)))) (cond (v.2.1.1 != (8 : Int)) (cond v.2.1.2.2.2.2.2.1 (κ true) (cond (v.2.1.1 != (9 : Int)) (κ (decide (((v.2.1.2.2.2.2.2.2).length : Int) > (0 : Int)))) (κ false))) (cond (v.2.1.1 != (9 : Int)) (κ (decide (((v.2.1.2.2.2.2.2.2).length : Int) > (0 : Int)))) (κ false)))))) (cond (v.2.1.1 != (7 : Int)) (cond (v.2.1.2.2.2.2.1 != (0 : Int)) (κ true) (cond (v.2.1.1 != (8 : Int)) (cond v.2.1.2.2.2.2.2.1 (κ true) (cond (v.2.1.1 != (9 : Int)) (κ (decide (((v.2.1.2.2.2.2.2.2).length : Int) > (0 : Int)))) (κ false))) (cond (v.2.1.1 != (9 : Int)) (κ (decide (((v.2.1.2.2.2.2.2.2).length : Int) > (0 : Int)))) (κ false)))) (cond (v.2.1.1 != (8 : Int)) (cond v.2.1.2.2.2.2.2.1 (κ true) (cond (v.2.1.1 != (9 : Int)) (κ (decide (((v.2.1.2.2.2.2.2.2).length : Int) > (0 : Int)))) (κ false))) (cond (v.2.1.1 != (9 : Int)) (κ (decide (((v.2.1.2.2.2.2.2.2).length : Int) > (0 : Int)))) (κ false)))))
def Cn (v : bX) : Bool := tk v id
def NP (v : bX) : aJ (Ex × St) := .done (Cu v (Cn v))
theorem XC : aN Tryz.prog (av (pb 3 1) (ae Tryz.f285)) pn bU NP := aI (lt := .none) (sx := LP) (gx := bU) Qb.ok aj (ah.no _) fun v => Eq.trans (b := tk v (sm (Cu v))) (by kernel_rfl) (show tk v (sm (Cu v)) = some (Cu v (tk v id)) from (tC (tC (tC rfl (tC (tC rfl (tC rfl (tC (tC rfl (tC (tC rfl (tC rfl rfl)) (tC rfl rfl))) (tC (tC rfl (tC rfl rfl)) (tC rfl rfl))))) (tC (tC rfl (tC (tC rfl (tC rfl rfl)) (tC rfl rfl))) (tC (tC rfl (tC rfl rfl)) (tC rfl rfl))))) (tC (tC rfl (tC rfl (tC (tC rfl (tC (tC rfl (tC rfl rfl)) (tC rfl rfl))) (tC (tC rfl (tC rfl rfl)) (tC rfl rfl))))) (tC (tC rfl (tC (tC rfl (tC rfl rfl)) (tC rfl rfl))) (tC (tC rfl (tC rfl rfl)) (tC rfl rfl))))) (tC (tC rfl (tC rfl (tC (tC rfl (tC (tC rfl (tC rfl rfl)) (tC rfl rfl))) (tC (tC rfl (tC rfl rfl)) (tC rfl rfl))))) (tC (tC rfl (tC (tC rfl (tC rfl rfl)) (tC rfl rfl))) (tC (tC rfl (tC rfl rfl)) (tC rfl rfl))))))
@[reducible] def wy : List SP := .und :: .one (.ptr 1 0) :: .one (.dat .bool true) :: U32 (U16 (U8 (U2 (.und :: oI :: .one (.dat .bool true) :: U32 (U16 (U2 (.und :: [])))))))
@[reducible] def oL : Type := Bool × Int × Bool × (Ty.T bm) × Unit
def CI (v : oL) (r : Bool) : Ex × St := (.normal, ax wy bU (v.1, v.2.1, r, v.2.2.2.1, ()))
def qd (v : oL) {Z : Type} (κ : Bool -> Z) : Z := cond v.2.2.1 (κ v.2.2.1) (cond (v.2.1 == (2 : Int)) (κ (v.2.1 == (2 : Int))) (cond (v.2.1 == (4 : Int)) (κ (v.2.1 == (4 : Int))) (κ (v.2.1 == (5 : Int)))))
def xo (v : oL) : Bool := qd v id
def Sb (v : oL) : aJ (Ex × St) := .done (CI v (xo v))
theorem YV : aN Tryz.prog (av (pb 6 43) (ae Tryz.f285)) wy bU Sb := aI (lt := .none) (sx := wy) (gx := bU) Qb.ok aj (ah.no _) fun v => Eq.trans (b := qd v (sm (CI v))) (by kernel_rfl) (show qd v (sm (CI v)) = some (CI v (qd v id)) from (tC rfl (tC rfl (tC rfl rfl))))
@[reducible] def wk : List SP := U2 (.one (.dat .bool true) :: U64 (U32 (U16 ([]))))
def D6 (v : bX) (r : Bool) : Ex × St := (.normal, ax wk au (r, ()))
def tF (v : bX) {Z : Type} (κ : Bool -> Z) : Z := cond (lb v.2.1.2.2.1) (cond (v.2.1.2.2.2.1 == (-1 : Int)) (κ true) (cond (v.2.1.2.2.1 == (0 : Int)) (κ (mu v.2.1.2.2.2.1)) (κ false))) (cond (v.2.1.2.2.1 == (0 : Int)) (κ (mu v.2.1.2.2.2.1)) (κ false))
def Eu (v : bX) : Bool := tF v id
def QZ (v : bX) : aJ (Ex × St) := .done (D6 v (Eu v))
theorem Y1 : aN Tryz.prog (av (pb 11 507) (ae Tryz.f285)) pn bU QZ := aI (lt := .none) (sx := wk) (gx := au) Qb.ok aj (ah.no _) fun v => Eq.trans (b := tF v (sm (D6 v))) (by kernel_rfl) (show tF v (sm (D6 v)) = some (D6 v (tF v id)) from (tC (tC rfl (tC rfl rfl)) (tC rfl rfl)))
def IH (v : bX) (r : Bool) : Ex × St := (.normal, ax wk au (r, ()))
def nX (v : bX) {Z : Type} (κ : Bool -> Option Z) : Option Z := cond (cw ((v.2.1.2.2.2.2.2.2).length : Int) 1 3) (cond (xZ v.2.1.2.2.2.2.2.2) (κ (!(yy v.2.1.2.2.2.2.2.2))) (none)) (κ false)
def zR (v : bX) : Bool := (nX v some).getD false
def xO (v : bX) : Bool := (nX v some).isSome
def Nx (v : bX) : aJ (Ex × St) := .br (xO v) (.done (IH v (zR v))) .no
theorem WS : aN Tryz.prog (av (pb 17 32763) (ae Tryz.f285)) pn bU Nx := aI (lt := .none) (sx := wk) (gx := au) Qb.ok aj (ah.no _) fun v => Eq.trans (b := nX v (sm (IH v))) (by kernel_rfl) (aq (show nX v (sm (IH v)) = (nX v some).bind _ from (bC (bC rfl rfl) rfl)))
def aaq := Qb.l (g := 285) (t := (aD (pb 17 32763) (ae Tryz.f285) (aD (pb 11 507) (ae Tryz.f285) (aD (pb 6 43) (ae Tryz.f285) (aD (pb 3 1) (ae Tryz.f285) .none (.sum pn bU NP)) (.sum wy bU Sb)) (.sum pn bU QZ)) (.sum pn bU Nx))) (aQ Tryz.func285 (ah.b7 (az (by kernel_rfl)) (ah.b7 (az (by kernel_rfl)) (ah.b7 (az (by kernel_rfl)) (ah.b7 (az (by kernel_rfl)) (ah.no _) XC) YV) Y1) WS))
def t285 (a0 : Ty.T bm) {Z : Type} (κ : Bool -> Option Z) : Option Z := cond (Cn (false, a0, ())) (κ false) (cond (xo (false, a0.1, (a0.1 == (1 : Int)), a0, ())) (κ true) (cond (a0.1 == (3 : Int)) (κ (cw a0.2.1 1 2147483647)) (cond (a0.1 == (6 : Int)) (κ (Eu (false, a0, ()))) (cond (a0.1 == (7 : Int)) (κ (wi a0.2.2.2.2.1)) (cond (a0.1 == (8 : Int)) (κ (cw a0.2.1 0 99)) (cond (a0.1 == (9 : Int)) (cond (xO (false, a0, ())) (κ (zR (false, a0, ()))) (none)) (κ false)))))))
def tx (a0 : Ty.T bm) : Bool := (t285 a0 some).getD false
def d285 (a0 : Ty.T bm) : Bool := (t285 a0 some).isSome
def ahV : Prim := ⟨[.agg [.dat bm true]], fun v => .br (d285 v.1) (.done (f285 (tx v.1))) .no⟩
theorem Zk : PO 285 ahV := pK aaq fun v => Eq.trans (b := (t285 v.1 (sm f285))) (by kernel_rfl) (aq (show t285 v.1 (sm f285) = (t285 v.1 some).bind _ from by unfold t285; simp only [bb]))
def f286 (r : Bool) : AV × Sig := (.one (.bool r), [])
def agO := (E0.p Vo)
def t286 (a0 : Ty.T bm) (a1 : Int) {Z : Type} (κ : Bool -> Z) : Z := cond (!(MW a1)) (κ false) (cond (a0.1 == (1 : Int)) (cond (a0.1 == (1 : Int)) (κ true) (cond (a0.1 == (2 : Int)) (cond (a0.1 == (2 : Int)) (κ (a1 == (1 : Int))) (cond (a0.1 == (3 : Int)) (cond (a0.1 == (3 : Int)) (κ (a1 != (2 : Int))) (cond (a0.1 == (7 : Int)) (cond (a0.1 == (7 : Int)) (κ (a1 == (2 : Int))) (κ false)) (cond (a0.1 == (8 : Int)) (κ (a1 == (2 : Int))) (κ false)))) (cond (a0.1 == (4 : Int)) (cond (a0.1 == (4 : Int)) (κ (a1 != (2 : Int))) (cond (a0.1 == (7 : Int)) (cond (a0.1 == (7 : Int)) (κ (a1 == (2 : Int))) (κ false)) (cond (a0.1 == (8 : Int)) (κ (a1 == (2 : Int))) (κ false)))) (cond (a0.1 == (5 : Int)) (κ (a1 != (2 : Int))) (cond (a0.1 == (7 : Int)) (cond (a0.1 == (7 : Int)) (κ (a1 == (2 : Int))) (κ false)) (cond (a0.1 == (8 : Int)) (κ (a1 == (2 : Int))) (κ false))))))) (cond (a0.1 == (6 : Int)) (κ (a1 == (1 : Int))) (cond (a0.1 == (3 : Int)) (cond (a0.1 == (3 : Int)) (κ (a1 != (2 : Int))) (cond (a0.1 == (7 : Int)) (cond (a0.1 == (7 : Int)) (κ (a1 == (2 : Int))) (κ false)) (cond (a0.1 == (8 : Int)) (κ (a1 == (2 : Int))) (κ false)))) (cond (a0.1 == (4 : Int)) (cond (a0.1 == (4 : Int)) (κ (a1 != (2 : Int))) (cond (a0.1 == (7 : Int)) (cond (a0.1 == (7 : Int)) (κ (a1 == (2 : Int))) (κ false)) (cond (a0.1 == (8 : Int)) (κ (a1 == (2 : Int))) (κ false)))) (cond (a0.1 == (5 : Int)) (κ (a1 != (2 : Int))) (cond (a0.1 == (7 : Int)) (cond (a0.1 == (7 : Int)) (κ (a1 == (2 : Int))) (κ false)) (cond (a0.1 == (8 : Int)) (κ (a1 == (2 : Int))) (κ false))))))))) (cond (a0.1 == (9 : Int)) (κ true) (cond (a0.1 == (2 : Int)) (cond (a0.1 == (2 : Int)) (κ (a1 == (1 : Int))) (cond (a0.1 == (3 : Int)) (cond (a0.1 == (3 : Int)) (κ (a1 != (2 : Int))) (cond (a0.1 == (7 : Int)) (cond (a0.1 == (7 : Int)) (κ (a1 == (2 : Int))) (κ false)) (cond (a0.1 == (8 : Int)) (κ (a1 == (2 : Int))) (κ false)))) (cond (a0.1 == (4 : Int)) (cond (a0.1 == (4 : Int)) (κ (a1 != (2 : Int))) (cond (a0.1 == (7 : Int)) (cond (a0.1 == (7 : Int)) (κ (a1 == (2 : Int))) (κ false)) (cond (a0.1 == (8 : Int)) (κ (a1 == (2 : Int))) (κ false)))) (cond (a0.1 == (5 : Int)) (κ (a1 != (2 : Int))) (cond (a0.1 == (7 : Int)) (cond (a0.1 == (7 : Int)) (κ (a1 == (2 : Int))) (κ false)) (cond (a0.1 == (8 : Int)) (κ (a1 == (2 : Int))) (κ false))))))) (cond (a0.1 == (6 : Int)) (κ (a1 == (1 : Int))) (cond (a0.1 == (3 : Int)) (cond (a0.1 == (3 : Int)) (κ (a1 != (2 : Int))) (cond (a0.1 == (7 : Int)) (cond (a0.1 == (7 : Int)) (κ (a1 == (2 : Int))) (κ false)) (cond (a0.1 == (8 : Int)) (κ (a1 == (2 : Int))) (κ false)))) (cond (a0.1 == (4 : Int)) (cond (a0.1 == (4 : Int)) (κ (a1 != (2 : Int))) (cond (a0.1 == (7 : Int)) (cond (a0.1 == (7 : Int)) (κ (a1 == (2 : Int))) (κ false)) (cond (a0.1 == (8 : Int)) (κ (a1 == (2 : Int))) (κ false)))) (cond (a0.1 == (5 : Int)) (κ (a1 != (2 : Int))) (cond (a0.1 == (7 : Int)) (cond (a0.1 == (7 : Int)) (κ (a1 == (2 : Int))) (κ false)) (cond (a0.1 == (8 : Int)) (κ (a1 == (2 : Int))) (κ false))))))))))
def CQ (a0 : Ty.T bm) (a1 : Int) : Bool := t286 a0 a1 fun r => r
def aiJ : Prim := ⟨[.agg [.dat bm true], oI], fun v => .done (f286 (CQ v.1 v.2.1))⟩
theorem V2 : PO 286 aiJ := pK agO fun v => Eq.trans (b := (t286 v.1 v.2.1 (sm f286))) (by kernel_rfl) (show t286 v.1 v.2.1 (sm f286) = some (f286 (t286 v.1 v.2.1 fun r => r)) from (tC rfl (tC (tC rfl (tC (tC rfl (tC (tC rfl (tC (tC rfl rfl) (tC rfl rfl))) (tC (tC rfl (tC (tC rfl rfl) (tC rfl rfl))) (tC rfl (tC (tC rfl rfl) (tC rfl rfl)))))) (tC rfl (tC (tC rfl (tC (tC rfl rfl) (tC rfl rfl))) (tC (tC rfl (tC (tC rfl rfl) (tC rfl rfl))) (tC rfl (tC (tC rfl rfl) (tC rfl rfl)))))))) (tC rfl (tC (tC rfl (tC (tC rfl (tC (tC rfl rfl) (tC rfl rfl))) (tC (tC rfl (tC (tC rfl rfl) (tC rfl rfl))) (tC rfl (tC (tC rfl rfl) (tC rfl rfl)))))) (tC rfl (tC (tC rfl (tC (tC rfl rfl) (tC rfl rfl))) (tC (tC rfl (tC (tC rfl rfl) (tC rfl rfl))) (tC rfl (tC (tC rfl rfl) (tC rfl rfl)))))))))))
def f227 (r : Bool) : AV × Sig := (.one (.bool r), [])
def aeI := (((((((E0.p Br).p FO).p ju).p V7).p VB).p Zk).p V2)
def t227 (a0 : Ty.T ab) {Z : Type} (κ : Bool -> Option Z) : Option Z := cond (a0.2.2.2.2.2.2.1.1 == (2 : Int)) (cond (lb a0.1) (cond (mu a0.2.1) (cond (cw a0.2.2.1 0 99) (cond (cw a0.2.2.2.1 0 4) (cond (a0.2.2.2.1 != (0 : Int)) (cond (xK a0.2.2.2.2.1) (cond (zm a0.2.2.2.2.2.1) (cond (d285 a0.2.2.2.2.2.2.1) (cond (tx a0.2.2.2.2.2.2.1) (cond (CQ a0.2.2.2.2.2.2.1 a0.2.2.2.2.1.1) (cond (cw a0.2.2.2.2.2.2.2.1 (-1) 9999) (κ (cw a0.2.2.2.2.2.2.2.2 0 2147483647)) (κ false)) (κ false)) (κ false)) (none)) (κ false)) (κ false)) (cond (a0.2.2.1 != (0 : Int)) (cond (xK a0.2.2.2.2.1) (cond (zm a0.2.2.2.2.2.1) (cond (d285 a0.2.2.2.2.2.2.1) (cond (tx a0.2.2.2.2.2.2.1) (cond (CQ a0.2.2.2.2.2.2.1 a0.2.2.2.2.1.1) (cond (cw a0.2.2.2.2.2.2.2.1 (-1) 9999) (κ (cw a0.2.2.2.2.2.2.2.2 0 2147483647)) (κ false)) (κ false)) (κ false)) (none)) (κ false)) (κ false)) (κ false))) (κ false)) (κ false)) (κ false)) (κ false)) (cond (lb a0.1) (cond (mu a0.2.1) (cond (cw a0.2.2.1 0 99) (cond (cw a0.2.2.2.1 0 4) (cond (a0.2.2.2.1 != (0 : Int)) (cond (xK a0.2.2.2.2.1) (cond (zm a0.2.2.2.2.2.1) (cond (d285 a0.2.2.2.2.2.2.1) (cond (tx a0.2.2.2.2.2.2.1) (cond (CQ a0.2.2.2.2.2.2.1 a0.2.2.2.2.1.1) (cond (cw a0.2.2.2.2.2.2.2.1 (-1) 9999) (κ (cw a0.2.2.2.2.2.2.2.2 (-1) 2147483647)) (κ false)) (κ false)) (κ false)) (none)) (κ false)) (κ false)) (cond (a0.2.2.1 != (0 : Int)) (cond (xK a0.2.2.2.2.1) (cond (zm a0.2.2.2.2.2.1) (cond (d285 a0.2.2.2.2.2.2.1) (cond (tx a0.2.2.2.2.2.2.1) (cond (CQ a0.2.2.2.2.2.2.1 a0.2.2.2.2.1.1) (cond (cw a0.2.2.2.2.2.2.2.1 (-1) 9999) (κ (cw a0.2.2.2.2.2.2.2.2 (-1) 2147483647)) (κ false)) (κ false)) (κ false)) (none)) (κ false)) (κ false)) (κ false))) (κ false)) (κ false)) (κ false)) (κ false))
def Am (a0 : Ty.T ab) : Bool := (t227 a0 some).getD false
def d227 (a0 : Ty.T ab) : Bool := (t227 a0 some).isSome
def aeB : Prim := ⟨[.agg [.dat ab true]], fun v => .br (d227 v.1) (.done (f227 (Am v.1))) .no⟩
theorem O5 : PO 227 aeB := pK aeI fun v => Eq.trans (b := (t227 v.1 (sm f227))) (by kernel_rfl) (aq (show t227 v.1 (sm f227) = (t227 v.1 some).bind _ from by unfold t227; simp only [bb]))
def f136 (r : Bool) : AV × Sig := (.one (.bool r), [])
def acx := (E0.p O5)
@[reducible] def Ed : List SP := .one (.dat (.sl 109 ab) true) :: .und :: .one (.dat .bool true) :: U2 (.one (.dat (.sl 109 ab) true) :: oI :: oI :: U16 (U8 (U2 ([]))))
@[reducible] def fc : Type := (List (Ty.T ab)) × Bool × (List (Ty.T ab)) × Int × Int × Unit
def q5 (v : fc) {Z : Type} (κ : Nat × fc -> Option Z) : Option Z := cond (decide (v.2.2.2.2.1 < v.2.2.2.1)) (if 0 <= v.2.2.2.2.1 then (bt ((v.2.2.1)[(v.2.2.2.2.1).toNat]?) (fun x1 => cond (d227 x1) (cond (!(Am x1)) (κ (1, (v.1, false, v.2.2.1, v.2.2.2.1, v.2.2.2.2.1, ()))) (cond (decide (v.2.2.2.2.1 > (0 : Int))) (if 0 <= (IntKind.wrap .i64 (v.2.2.2.2.1 - (1 : Int))) then (bt ((v.1)[(IntKind.wrap .i64 (v.2.2.2.2.1 - (1 : Int))).toNat]?) (fun x2 => cond (decide (x2.1 ≥ x1.1)) (κ (1, (v.1, false, v.2.2.1, v.2.2.2.1, v.2.2.2.2.1, ()))) (κ (0, (v.1, v.2.1, v.2.2.1, v.2.2.2.1, IntKind.wrap .i64 (v.2.2.2.2.1 + (1 : Int)), ()))))) else none) (κ (0, (v.1, v.2.1, v.2.2.1, v.2.2.2.1, IntKind.wrap .i64 (v.2.2.2.2.1 + (1 : Int)), ()))))) (none))) else none) (κ (2, (v.1, v.2.1, v.2.2.1, v.2.2.2.1, v.2.2.2.2.1, ())))
def mc (v : fc) : Option (Nat × fc) := q5 v some
def uh (v : fc) : Nat := v.1.length + v.2.2.1.length + v.2.2.2.1.toNat + v.2.2.2.2.1.toNat + 100
def l4 (h0 : List (Ty.T ab)) (h1 : Bool) (h2 : List (Ty.T ab)) (h3 : Int) (h4 : Int) (c : Nat) : Bool := iK mc uh (h0, h1, h2, h3, h4, ()) c
def s5 (h0 : List (Ty.T ab)) (h1 : Bool) (h2 : List (Ty.T ab)) (h3 : Int) (h4 : Int) : fc := iW mc uh (h0, h1, h2, h3, h4, ())
def RZ (v : fc) : aJ (Ex × St) := bo mc (uh v) v (ax Ed au) [.ret, .exit 0] 0
theorem YQ : bl Tryz.prog (aB (pb 3 5) (ae Tryz.f136)) Ed au RZ := aw (lt := .none) acx.ok aj (ah.no _) fun n v K => Eq.trans (b := q5 v (cW _ _ _ _ _ K)) (by kernel_rfl) (show q5 v _ = (q5 v some).bind _ from (bC (bI (bO fun x1 => (bC (bC rfl (bC (bI (bO fun x2 => (bC rfl rfl))) rfl)) rfl))) rfl))
def aci := acx.l (g := 136) (t := (cv (pb 3 5) (ae Tryz.f136) .none (.sum Ed au RZ))) (aQ Tryz.func136 (ah.put (az (by kernel_rfl)) (ah.no _) YQ))
def aaS (a0 : List (Ty.T ab)) : Option (AV × Sig) := cond (l4 a0 false a0 ((a0).length : Int) 0 0) (some (.one (.bool (s5 a0 false a0 ((a0).length : Int) 0).2.1), [])) (cond (l4 a0 false a0 ((a0).length : Int) 0 1) (some (.one (.bool (decide ((((s5 a0 false a0 ((a0).length : Int) 0).1).length : Int) <= (5 : Int)))), [])) (none))
def Qq (a0 : List (Ty.T ab)) : Bool := cond (l4 a0 false a0 ((a0).length : Int) 0 0) ((s5 a0 false a0 ((a0).length : Int) 0).2.1) (cond (l4 a0 false a0 ((a0).length : Int) 0 1) (decide ((((s5 a0 false a0 ((a0).length : Int) 0).1).length : Int) <= (5 : Int))) (false))
def d136 (a0 : List (Ty.T ab)) : Bool := cond (l4 a0 false a0 ((a0).length : Int) 0 0) (true) (cond (l4 a0 false a0 ((a0).length : Int) 0 1) (true) (false))
theorem ago (a0 : List (Ty.T ab)) : aaS a0 = cond (d136 a0) (some (f136 (Qq a0))) none := (pC (pS _) (pC (pS _) (pN _)))
def ahl : Prim := ⟨[.one (.dat (.sl 109 ab) true)], fun v => .br (d136 v.1) (.done (f136 (Qq v.1))) .no⟩
theorem ady : PO 136 ahl := pK aci fun v => Eq.trans (b := aaS v.1) (by kernel_rfl) (ago v.1)
def f141 (r : (List (Ty.T y66))) : AV × Sig := (.one (.sl 4096), [(4096, .arr 67 y66 r false)])
def ac4 := (E0.p Vu)
@[reducible] def DW : List SP := U2 (.one (.dat (.sl 67 y66) false) :: .one (.own 6) :: U2 (.und :: .one (.dat (.sl 67 y66) true) :: oI :: oI :: U8 (U4 (.und :: []))))
@[reducible] def Cs : List (Nat × GP) := [(6, .arr 67 y66 false)]
@[reducible] def qW : Type := (List (Ty.T y66)) × (List (Ty.T y66)) × Int × Int × (List (Ty.T y66)) × Unit
def uQ (v : qW) {Z : Type} (κ : Nat × qW -> Option Z) : Option Z := cond (decide (v.2.2.2.1 < v.2.2.1)) (if 0 <= v.2.2.2.1 then (bt ((v.2.1)[(v.2.2.2.1).toNat]?) (fun x1 => cond (d177 x1.2.2.2.2.2.1) (if (v.2.2.2.2.1 ++ [(x1.1, x1.2.1, x1.2.2.1, x1.2.2.2.1, x1.2.2.2.2.1, (R1 x1.2.2.2.2.2.1), x1.2.2.2.2.2.2)] : List (Ty.T y66)).length * 128 <= 140737488351232 then (κ (0, (v.1, v.2.1, v.2.2.1, IntKind.wrap .i64 (v.2.2.2.1 + (1 : Int)), v.2.2.2.2.1 ++ [(x1.1, x1.2.1, x1.2.2.1, x1.2.2.2.1, x1.2.2.2.2.1, (R1 x1.2.2.2.2.2.1), x1.2.2.2.2.2.2)], ()))) else none) (none))) else none) (κ (1, (v.1, v.2.1, v.2.2.1, v.2.2.2.1, v.2.2.2.2.1, ())))
def uY (v : qW) : Option (Nat × qW) := uQ v some
def zW (v : qW) : Nat := v.1.length + v.2.1.length + v.2.2.1.toNat + v.2.2.2.1.toNat + v.2.2.2.2.1.length + 100
def Ey (h0 : List (Ty.T y66)) (h1 : List (Ty.T y66)) (h2 : Int) (h3 : Int) (h4 : List (Ty.T y66)) (c : Nat) : Bool := iK uY zW (h0, h1, h2, h3, h4, ()) c
def KG (h0 : List (Ty.T y66)) (h1 : List (Ty.T y66)) (h2 : Int) (h3 : Int) (h4 : List (Ty.T y66)) : qW := iW uY zW (h0, h1, h2, h3, h4, ())
def NO (v : qW) : aJ (Ex × St) := bo uY (zW v) v (ax DW Cs) [.exit 0] 0
theorem XU : bl Tryz.prog (aB (pb 4 11) (ae Tryz.f141)) DW Cs NO := aw (lt := .none) ac4.ok aj (ah.no _) fun n v K => Eq.trans (b := uQ v (cW _ _ _ _ _ K)) (by kernel_rfl) (show uQ v _ = (uQ v some).bind _ from (bC (bI (bO fun x1 => (bC (bI rfl) rfl))) rfl))
def Zq := ac4.l (g := 141) (t := (cv (pb 4 11) (ae Tryz.f141) .none (.sum DW Cs NO))) (aQ Tryz.func141 (ah.put (az (by kernel_rfl)) (ah.no _) XU))
def acP (a0 : List (Ty.T y66)) : Option (AV × Sig) := cond (Ey [] a0 ((a0).length : Int) 0 [] 0) (some (.one (.sl 4096), [(4096, .arr 67 y66 (KG [] a0 ((a0).length : Int) 0 []).2.2.2.2.1 false)])) (none)
def PN (a0 : List (Ty.T y66)) : (List (Ty.T y66)) := cond (Ey [] a0 ((a0).length : Int) 0 [] 0) ((KG [] a0 ((a0).length : Int) 0 []).2.2.2.2.1) ([])
def d141 (a0 : List (Ty.T y66)) : Bool := cond (Ey [] a0 ((a0).length : Int) 0 [] 0) (true) (false)
theorem ad4 (a0 : List (Ty.T y66)) : acP a0 = cond (d141 a0) (some (f141 (PN a0))) none := (pC (pS _) (pN _))
def aeE : Prim := ⟨[.one (.dat (.sl 67 y66) true)], fun v => .br (d141 v.1) (.done (f141 (PN v.1))) .no⟩
theorem abe : PO 141 aeE := pK Zq fun v => Eq.trans (b := acP v.1) (by kernel_rfl) (ad4 v.1)
def f252 (r : Int) : AV × Sig := (.one (.int .i64 r), [])
def aaj := E0
@[reducible] def EI : List SP := .one (.dat (.sl 3 (.int .i64)) true) :: oI :: U2 (oI :: U2 (oI :: oI :: U8 (U2 ([]))))
@[reducible] def qm : Type := (List (Ty.T (.int .i64))) × Int × Int × Int × Int × Unit
def vi (v : qm) {Z : Type} (κ : Nat × qm -> Option Z) : Option Z := cond (decide (v.2.2.2.2.1 < v.2.2.2.1)) (if 0 <= v.2.2.2.2.1 then (bt ((v.1)[(v.2.2.2.2.1).toNat]?) (fun x1 => cond (v.2.1 == x1) (κ (1, (v.1, v.2.1, v.2.2.2.2.1, v.2.2.2.1, v.2.2.2.2.1, ()))) (κ (0, (v.1, v.2.1, v.2.2.1, v.2.2.2.1, IntKind.wrap .i64 (v.2.2.2.2.1 + (1 : Int)), ()))))) else none) (κ (2, (v.1, v.2.1, v.2.2.1, v.2.2.2.1, v.2.2.2.2.1, ())))
def tT (v : qm) : Option (Nat × qm) := vi v some
def xu (v : qm) : Nat := v.1.length + v.2.1.toNat + v.2.2.1.toNat + v.2.2.2.1.toNat + v.2.2.2.2.1.toNat + 100
def mg (h0 : List (Ty.T (.int .i64))) (h1 : Int) (h2 : Int) (h3 : Int) (h4 : Int) (c : Nat) : Bool := iK tT xu (h0, h1, h2, h3, h4, ()) c
def Im (h0 : List (Ty.T (.int .i64))) (h1 : Int) (h2 : Int) (h3 : Int) (h4 : Int) : qm := iW tT xu (h0, h1, h2, h3, h4, ())
def NT (v : qm) : aJ (Ex × St) := bo tT (xu v) v (ax EI au) [.ret, .exit 0] 0
theorem X3 : bl Tryz.prog (aB (pb 3 5) (ae Tryz.f252)) EI au NT := aw (lt := .none) aaj.ok aj (ah.no _) fun n v K => Eq.trans (b := vi v (cW _ _ _ _ _ K)) (by kernel_rfl) (show vi v _ = (vi v some).bind _ from (bC (bI (bO fun x1 => (bC rfl rfl))) rfl))
def aaB := aaj.l (g := 252) (t := (cv (pb 3 5) (ae Tryz.f252) .none (.sum EI au NT))) (aQ Tryz.func252 (ah.put (az (by kernel_rfl)) (ah.no _) X3))
def ZF (a0 : List (Ty.T (.int .i64))) (a1 : Int) : Option (AV × Sig) := cond (mg a0 a1 0 ((a0).length : Int) 0 0) (some (.one (.int .i64 (Im a0 a1 0 ((a0).length : Int) 0).2.2.1), [])) (cond (mg a0 a1 0 ((a0).length : Int) 0 1) (some (.one (.int .i64 (-1)), [])) (none))
def M8 (a0 : List (Ty.T (.int .i64))) (a1 : Int) : Int := cond (mg a0 a1 0 ((a0).length : Int) 0 0) ((Im a0 a1 0 ((a0).length : Int) 0).2.2.1) (cond (mg a0 a1 0 ((a0).length : Int) 0 1) ((-1)) (0))
def d252 (a0 : List (Ty.T (.int .i64))) (a1 : Int) : Bool := cond (mg a0 a1 0 ((a0).length : Int) 0 0) (true) (cond (mg a0 a1 0 ((a0).length : Int) 0 1) (true) (false))
theorem af1 (a0 : List (Ty.T (.int .i64))) (a1 : Int) : ZF a0 a1 = cond (d252 a0 a1) (some (f252 (M8 a0 a1))) none := (pC (pS _) (pC (pS _) (pN _)))
def ad7 : Prim := ⟨[.one (.dat (.sl 3 (.int .i64)) true), oI], fun v => .br (d252 v.1 v.2.1) (.done (f252 (M8 v.1 v.2.1))) .no⟩
theorem acX : PO 252 ad7 := pK aaB fun v => Eq.trans (b := ZF v.1 v.2.1) (by kernel_rfl) (af1 v.1 v.2.1)
def f181 (r : Bool) : AV × Sig := (.one (.bool r), [])
def afe := (E0.p acX)
def adi (a0 : List (Ty.T (.int .i64))) (a1 : Int) : Option (AV × Sig) := cond (d252 a0 a1) (some (.one (.bool (decide ((M8 a0 a1) ≥ (0 : Int)))), [])) (none)
def N6 (a0 : List (Ty.T (.int .i64))) (a1 : Int) : Bool := cond (d252 a0 a1) (decide ((M8 a0 a1) ≥ (0 : Int))) (false)
def d181 (a0 : List (Ty.T (.int .i64))) (a1 : Int) : Bool := cond (d252 a0 a1) (true) (false)
theorem afp (a0 : List (Ty.T (.int .i64))) (a1 : Int) : adi a0 a1 = cond (d181 a0 a1) (some (f181 (N6 a0 a1))) none := (pC (pS _) (pN _))
def aeJ : Prim := ⟨[.one (.dat (.sl 3 (.int .i64)) true), oI], fun v => .br (d181 v.1 v.2.1) (.done (f181 (N6 v.1 v.2.1))) .no⟩
theorem abY : PO 181 aeJ := pK afe fun v => Eq.trans (b := adi v.1 v.2.1) (by kernel_rfl) (afp v.1 v.2.1)
def f75 (r : Bool) : AV × Sig := (.one (.bool r), [])
def E75 := (E0.p abY)
def u75 (a0 : List (Ty.T (.int .i64))) (a1 : Int) : Option (AV × Sig) := cond (d181 a0 a1) (some (.one (.bool (N6 a0 a1)), [])) (none)
def v75 (a0 : List (Ty.T (.int .i64))) (a1 : Int) : Bool := cond (d181 a0 a1) ((N6 a0 a1)) (false)
def d75 (a0 : List (Ty.T (.int .i64))) (a1 : Int) : Bool := cond (d181 a0 a1) (true) (false)
theorem o75 (a0 : List (Ty.T (.int .i64))) (a1 : Int) : u75 a0 a1 = cond (d75 a0 a1) (some (f75 (v75 a0 a1))) none := (pC (pS _) (pN _))
def p75 : Prim := ⟨[.one (.dat (.sl 3 (.int .i64)) true), oI], fun v => .br (d75 v.1 v.2.1) (.done (f75 (v75 v.1 v.2.1))) .no⟩
theorem aff : PO 75 p75 := pK E75 fun v => Eq.trans (b := u75 v.1 v.2.1) (by kernel_rfl) (o75 v.1 v.2.1)
def f253 (r : Bool) : AV × Sig := (.one (.bool r), [])
def aeN := E0
def adE (a0 : Ty.T ab) (a1 : Int) : Option (AV × Sig) := cond (a0.2.2.2.2.2.2.2.2 != (0 : Int)) (cond (a0.2.2.2.2.2.2.2.1 == (-1 : Int)) (some (.one (.bool true), [])) (some (.one (.bool (decide (a0.2.2.2.2.2.2.2.1 ≥ a1))), []))) (some (.one (.bool false), []))
def Mm (a0 : Ty.T ab) (a1 : Int) : Bool := cond (a0.2.2.2.2.2.2.2.2 != (0 : Int)) (cond (a0.2.2.2.2.2.2.2.1 == (-1 : Int)) (true) (decide (a0.2.2.2.2.2.2.2.1 ≥ a1))) (false)
theorem afC (a0 : Ty.T ab) (a1 : Int) : adE a0 a1 = some (f253 (Mm a0 a1)) := (tC (tC rfl rfl) rfl)
def ajg : Prim := ⟨[.agg [.dat ab true], oI], fun v => .done (f253 (Mm v.1 v.2.1))⟩
theorem Zj : PO 253 ajg := pK aeN fun v => Eq.trans (b := adE v.1 v.2.1) (by kernel_rfl) (afC v.1 v.2.1)
def f254 (r : Bool) : AV × Sig := (.one (.bool r), [])
def agA := E0
def adI (a0 : Ty.T ab) (a1 : Ty.T y27) : Option (AV × Sig) := cond (a0.2.2.2.1 != (0 : Int)) (some (.one (.bool true), [])) (cond (a0.2.2.1 == a1.2.1) (some (.one (.bool true), [])) (some (.one (.bool (a0.2.2.1 == a1.2.2.1)), [])))
def Nk (a0 : Ty.T ab) (a1 : Ty.T y27) : Bool := cond (a0.2.2.2.1 != (0 : Int)) (true) (cond (a0.2.2.1 == a1.2.1) (true) ((a0.2.2.1 == a1.2.2.1)))
theorem ag3 (a0 : Ty.T ab) (a1 : Ty.T y27) : adI a0 a1 = some (f254 (Nk a0 a1)) := (tC rfl (tC rfl rfl))
def afG : Prim := ⟨[.agg [.dat ab true], .agg [.dat y27 true]], fun v => .done (f254 (Nk v.1 v.2.1))⟩
theorem aae : PO 254 afG := pK agA fun v => Eq.trans (b := adI v.1 v.2.1) (by kernel_rfl) (ag3 v.1 v.2.1)
def f302 (r : (List (Ty.T (.int .i64)))) : AV × Sig := (.one (.sl 4096), [(4096, .arr 3 (.int .i64) r false)])
def aaG := E0
@[reducible] def Ew : List SP := .und :: oI :: U2 (.one (.dat (.sl 3 (.int .i64)) false) :: .one (.own 8) :: U4 (.one (.dat (.sl 64 y63) true) :: oI :: oI :: U16 (U4 (U2 (.und :: [])))))
@[reducible] def Eo : List (Nat × GP) := [(8, .arr 3 (.int .i64) false)]
@[reducible] def qL : Type := Int × (List (Ty.T (.int .i64))) × (List (Ty.T y63)) × Int × Int × (List (Ty.T (.int .i64))) × Unit
def tN (v : qL) {Z : Type} (κ : Nat × qL -> Option Z) : Option Z := cond (decide (v.2.2.2.2.1 < v.2.2.2.1)) (if 0 <= v.2.2.2.2.1 then (bt ((v.2.2.1)[(v.2.2.2.2.1).toNat]?) (fun x1 => cond (x1.2.2.2.1 == (2 : Int)) (cond (v.1 == (-1 : Int)) (if (v.2.2.2.2.2.1 ++ [x1.1] : List (Ty.T (.int .i64))).length * 8 <= 140737488351232 then (κ (0, (v.1, v.2.1, v.2.2.1, v.2.2.2.1, IntKind.wrap .i64 (v.2.2.2.2.1 + (1 : Int)), v.2.2.2.2.2.1 ++ [x1.1], ()))) else none) (cond (x1.2.2.1 == v.1) (if (v.2.2.2.2.2.1 ++ [x1.1] : List (Ty.T (.int .i64))).length * 8 <= 140737488351232 then (κ (0, (v.1, v.2.1, v.2.2.1, v.2.2.2.1, IntKind.wrap .i64 (v.2.2.2.2.1 + (1 : Int)), v.2.2.2.2.2.1 ++ [x1.1], ()))) else none) (κ (0, (v.1, v.2.1, v.2.2.1, v.2.2.2.1, IntKind.wrap .i64 (v.2.2.2.2.1 + (1 : Int)), v.2.2.2.2.2.1, ()))))) (κ (0, (v.1, v.2.1, v.2.2.1, v.2.2.2.1, IntKind.wrap .i64 (v.2.2.2.2.1 + (1 : Int)), v.2.2.2.2.2.1, ()))))) else none) (κ (1, (v.1, v.2.1, v.2.2.1, v.2.2.2.1, v.2.2.2.2.1, v.2.2.2.2.2.1, ())))
def uA (v : qL) : Option (Nat × qL) := tN v some
def yd (v : qL) : Nat := v.1.toNat + v.2.1.length + v.2.2.1.length + v.2.2.2.1.toNat + v.2.2.2.2.1.toNat + v.2.2.2.2.2.1.length + 100
def DY (h0 : Int) (h1 : List (Ty.T (.int .i64))) (h2 : List (Ty.T y63)) (h3 : Int) (h4 : Int) (h5 : List (Ty.T (.int .i64))) (c : Nat) : Bool := iK uA yd (h0, h1, h2, h3, h4, h5, ()) c
def Jg (h0 : Int) (h1 : List (Ty.T (.int .i64))) (h2 : List (Ty.T y63)) (h3 : Int) (h4 : Int) (h5 : List (Ty.T (.int .i64))) : qL := iW uA yd (h0, h1, h2, h3, h4, h5, ())
def NJ (v : qL) : aJ (Ex × St) := bo uA (yd v) v (ax Ew Eo) [.exit 0] 0
theorem Wi : bl Tryz.prog (aB (pb 4 11) (ae Tryz.f302)) Ew Eo NJ := aw (lt := .none) aaG.ok aj (ah.no _) fun n v K => Eq.trans (b := tN v (cW _ _ _ _ _ K)) (by kernel_rfl) (show tN v _ = (tN v some).bind _ from (bC (bI (bO fun x1 => (bC (bC (bI rfl) (bC (bI rfl) rfl)) rfl))) rfl))
def Z4 := aaG.l (g := 302) (t := (cv (pb 4 11) (ae Tryz.f302) .none (.sum Ew Eo NJ))) (aQ Tryz.func302 (ah.put (az (by kernel_rfl)) (ah.no _) Wi))
def Zh (a0 : Ty.T y36) (a1 : Int) : Option (AV × Sig) := cond (DY a1 [] a0.1 ((a0.1).length : Int) 0 [] 0) (some (.one (.sl 4096), [(4096, .arr 3 (.int .i64) (Jg a1 [] a0.1 ((a0.1).length : Int) 0 []).2.2.2.2.2.1 false)])) (none)
def Mj (a0 : Ty.T y36) (a1 : Int) : (List (Ty.T (.int .i64))) := cond (DY a1 [] a0.1 ((a0.1).length : Int) 0 [] 0) ((Jg a1 [] a0.1 ((a0.1).length : Int) 0 []).2.2.2.2.2.1) ([])
def d302 (a0 : Ty.T y36) (a1 : Int) : Bool := cond (DY a1 [] a0.1 ((a0.1).length : Int) 0 [] 0) (true) (false)
theorem aiT (a0 : Ty.T y36) (a1 : Int) : Zh a0 a1 = cond (d302 a0 a1) (some (f302 (Mj a0 a1))) none := (pC (pS _) (pN _))
def ag4 : Prim := ⟨[.agg [.dat y36 true], oI], fun v => .br (d302 v.1 v.2.1) (.done (f302 (Mj v.1 v.2.1))) .no⟩
theorem abB : PO 302 ag4 := pK Z4 fun v => Eq.trans (b := Zh v.1 v.2.1) (by kernel_rfl) (aiT v.1 v.2.1)
def f303 (r : Int) : AV × Sig := (.one (.int .i64 r), [])
def ZI := E0
@[reducible] def Es : List SP := .und :: oI :: U2 (oI :: oI :: U2 (.und :: .one (.dat (.sl 64 y63) true) :: oI :: oI :: U16 (U4 ([]))))
@[reducible] def qw : Type := Int × Int × Int × (List (Ty.T y63)) × Int × Int × Unit
def u6 (v : qw) {Z : Type} (κ : Nat × qw -> Option Z) : Option Z := cond (decide (v.2.2.2.2.2.1 < v.2.2.2.2.1)) (if 0 <= v.2.2.2.2.2.1 then (bt ((v.2.2.2.1)[(v.2.2.2.2.2.1).toNat]?) (fun x1 => cond (x1.2.2.2.1 == (2 : Int)) (cond (x1.2.2.1 == v.1) (cond x1.2.2.2.2.2.2.2.2.2.2.2.2 (κ (0, (v.1, v.2.1, IntKind.wrap .i64 (v.2.2.1 + (1 : Int)), v.2.2.2.1, v.2.2.2.2.1, IntKind.wrap .i64 (v.2.2.2.2.2.1 + (1 : Int)), ()))) (κ (0, (v.1, v.2.1, v.2.2.1, v.2.2.2.1, v.2.2.2.2.1, IntKind.wrap .i64 (v.2.2.2.2.2.1 + (1 : Int)), ())))) (κ (0, (v.1, v.2.1, v.2.2.1, v.2.2.2.1, v.2.2.2.2.1, IntKind.wrap .i64 (v.2.2.2.2.2.1 + (1 : Int)), ())))) (κ (0, (v.1, v.2.1, v.2.2.1, v.2.2.2.1, v.2.2.2.2.1, IntKind.wrap .i64 (v.2.2.2.2.2.1 + (1 : Int)), ()))))) else none) (κ (1, (v.1, v.2.1, v.2.2.1, v.2.2.2.1, v.2.2.2.2.1, v.2.2.2.2.2.1, ())))
def uB (v : qw) : Option (Nat × qw) := u6 v some
def wQ (v : qw) : Nat := v.1.toNat + v.2.1.toNat + v.2.2.1.toNat + v.2.2.2.1.length + v.2.2.2.2.1.toNat + v.2.2.2.2.2.1.toNat + 100
def Ek (h0 : Int) (h1 : Int) (h2 : Int) (h3 : List (Ty.T y63)) (h4 : Int) (h5 : Int) (c : Nat) : Bool := iK uB wQ (h0, h1, h2, h3, h4, h5, ()) c
def Ka (h0 : Int) (h1 : Int) (h2 : Int) (h3 : List (Ty.T y63)) (h4 : Int) (h5 : Int) : qw := iW uB wQ (h0, h1, h2, h3, h4, h5, ())
def N3 (v : qw) : aJ (Ex × St) := bo uB (wQ v) v (ax Es au) [.exit 0] 0
theorem YU : bl Tryz.prog (aB (pb 4 11) (ae Tryz.f303)) Es au N3 := aw (lt := .none) ZI.ok aj (ah.no _) fun n v K => Eq.trans (b := u6 v (cW _ _ _ _ _ K)) (by kernel_rfl) (show u6 v _ = (u6 v some).bind _ from (bC (bI (bO fun x1 => (bC (bC (bC rfl rfl) rfl) rfl))) rfl))
def Zo := ZI.l (g := 303) (t := (cv (pb 4 11) (ae Tryz.f303) .none (.sum Es au N3))) (aQ Tryz.func303 (ah.put (az (by kernel_rfl)) (ah.no _) YU))
def abj (a0 : Ty.T y36) (a1 : Int) : Option (AV × Sig) := cond (Ek a1 0 0 a0.1 ((a0.1).length : Int) 0 0) (some (.one (.int .i64 (Ka a1 0 0 a0.1 ((a0.1).length : Int) 0).2.2.1), [])) (none)
def M4 (a0 : Ty.T y36) (a1 : Int) : Int := cond (Ek a1 0 0 a0.1 ((a0.1).length : Int) 0 0) ((Ka a1 0 0 a0.1 ((a0.1).length : Int) 0).2.2.1) (0)
def d303 (a0 : Ty.T y36) (a1 : Int) : Bool := cond (Ek a1 0 0 a0.1 ((a0.1).length : Int) 0 0) (true) (false)
theorem ahF (a0 : Ty.T y36) (a1 : Int) : abj a0 a1 = cond (d303 a0 a1) (some (f303 (M4 a0 a1))) none := (pC (pS _) (pN _))
def agQ : Prim := ⟨[.agg [.dat y36 true], oI], fun v => .br (d303 v.1 v.2.1) (.done (f303 (M4 v.1 v.2.1))) .no⟩
theorem acA : PO 303 agQ := pK Zo fun v => Eq.trans (b := abj v.1 v.2.1) (by kernel_rfl) (ahF v.1 v.2.1)
def f255 (r : Bool) : AV × Sig := (.one (.bool r), [])
def afQ := ((((E0.p Pv).p VB).p abB).p acA)
def adn (a0 : Ty.T y36) (a1 : Int) (a2 : Ty.T aT) : Option (AV × Sig) := cond (!(zm a2)) (some (.one (.bool false), [])) (cond (!(pF a0 a1)) (some (.one (.bool false), [])) (cond (a2.1 == (1 : Int)) (if 0 <= a1 then (bt ((a0.2.1)[(a1).toNat]?) (fun x1 => some (.one (.bool (decide (x1.1 <= a2.2))), []))) else none) (cond (a2.1 == (2 : Int)) (cond (d302 a0 a1) (some (.one (.bool (decide ((((Mj a0 a1)).length : Int) ≥ a2.2))), [])) (none)) (cond (a2.1 == (3 : Int)) (some (.one (.bool (a0.2.2.1 == a1)), [])) (cond (a2.1 == (4 : Int)) (cond (d303 a0 a1) (some (.one (.bool (decide ((M4 a0 a1) ≥ a2.2))), [])) (none)) (some (.one (.bool true), [])))))))
def I9 (a0 : Ty.T y36) (a1 : Int) (a2 : Ty.T aT) : Bool := cond (!(zm a2)) (false) (cond (!(pF a0 a1)) (false) (cond (a2.1 == (1 : Int)) (rV ((a0.2.1)[(a1).toNat]?) false (fun x1 => decide (x1.1 <= a2.2))) (cond (a2.1 == (2 : Int)) (cond (d302 a0 a1) (decide ((((Mj a0 a1)).length : Int) ≥ a2.2)) (false)) (cond (a2.1 == (3 : Int)) ((a0.2.2.1 == a1)) (cond (a2.1 == (4 : Int)) (cond (d303 a0 a1) (decide ((M4 a0 a1) ≥ a2.2)) (false)) (true))))))
def d255 (a0 : Ty.T y36) (a1 : Int) (a2 : Ty.T aT) : Bool := cond (!(zm a2)) (true) (cond (!(pF a0 a1)) (true) (cond (a2.1 == (1 : Int)) (decide (0 <= a1) && (pB ((a0.2.1)[(a1).toNat]?) (fun x1 => true))) (cond (a2.1 == (2 : Int)) (cond (d302 a0 a1) (true) (false)) (cond (a2.1 == (3 : Int)) (true) (cond (a2.1 == (4 : Int)) (cond (d303 a0 a1) (true) (false)) (true))))))
theorem aiQ (a0 : Ty.T y36) (a1 : Int) (a2 : Ty.T aT) : adn a0 a1 a2 = cond (d255 a0 a1 a2) (some (f255 (I9 a0 a1 a2))) none := (pC (pS _) (pC (pS _) (pC (pI (pO fun x1 => (pS _))) (pC (pC (pS _) (pN _)) (pC (pS _) (pC (pC (pS _) (pN _)) (pS _)))))))
def age : Prim := ⟨[.agg [.dat y36 true], oI, .agg [.dat aT true]], fun v => .br (d255 v.1 v.2.1 v.2.2.1) (.done (f255 (I9 v.1 v.2.1 v.2.2.1))) .no⟩
theorem abl : PO 255 age := pK afQ fun v => Eq.trans (b := adn v.1 v.2.1 v.2.2.1) (by kernel_rfl) (aiQ v.1 v.2.1 v.2.2.1)
def RW (r : Bool) : AV × Sig := (.one (.bool r), [])
def Wo := E0
def Oc (a0 : Ty.T y63) (a1 : Int) : Option (AV × Sig) := some (.one (.bool (a0.1 == a1)), [])
def D8 (a0 : Ty.T y63) (a1 : Int) : Bool := (a0.1 == a1)
theorem Wv (a0 : Ty.T y63) (a1 : Int) : Oc a0 a1 = some (RW (D8 a0 a1)) := rfl
def YT : Prim := ⟨[.agg [.dat y63 true], .one (.ept (.int .i64))], fun v => .done (RW (D8 v.1 v.2.1))⟩
theorem TJ : PO 341 YT := pK Wo fun v => Eq.trans (b := Oc v.1 v.2.1) (by kernel_rfl) (Wv v.1 v.2.1)
def N8 (r : Int) : AV × Sig := (.one (.int .i64 r), [])
def QS := (E0.p TJ)
@[reducible] def uD : List SP := .one (.dat (.sl 64 y63) true) :: .one (.fnc 341 [(.int .i64)]) :: U2 (oI :: U2 (oI :: oI :: U8 (U2 ([]))))
@[reducible] def jK : Type := (List (Ty.T y63)) × Int × Int × Int × Int × Unit
def kE (v : jK) {Z : Type} (κ : Nat × jK -> Option Z) : Option Z := cond (decide (v.2.2.2.2.1 < v.2.2.2.1)) (if 0 <= v.2.2.2.2.1 then (bt ((v.1)[(v.2.2.2.2.1).toNat]?) (fun x1 => cond (D8 x1 v.2.1) (κ (1, (v.1, v.2.1, v.2.2.2.2.1, v.2.2.2.1, v.2.2.2.2.1, ()))) (κ (0, (v.1, v.2.1, v.2.2.1, v.2.2.2.1, IntKind.wrap .i64 (v.2.2.2.2.1 + (1 : Int)), ()))))) else none) (κ (2, (v.1, v.2.1, v.2.2.1, v.2.2.2.1, v.2.2.2.2.1, ())))
def kA (v : jK) : Option (Nat × jK) := kE v some
def nv (v : jK) : Nat := v.1.length + v.2.1.toNat + v.2.2.1.toNat + v.2.2.2.1.toNat + v.2.2.2.2.1.toNat + 100
def ff (h0 : List (Ty.T y63)) (h1 : Int) (h2 : Int) (h3 : Int) (h4 : Int) (c : Nat) : Bool := iK kA nv (h0, h1, h2, h3, h4, ()) c
def yr (h0 : List (Ty.T y63)) (h1 : Int) (h2 : Int) (h3 : Int) (h4 : Int) : jK := iW kA nv (h0, h1, h2, h3, h4, ())
def He (v : jK) : aJ (Ex × St) := bo kA (nv v) v (ax uD au) [.ret, .exit 0] 0
theorem NS : bl Tryz.prog (aB (pb 3 5) (ae Tryz.f340)) uD au He := aw (lt := .none) QS.ok aj (ah.no _) fun n v K => Eq.trans (b := kE v (cW _ _ _ _ _ K)) (by kernel_rfl) (show kE v _ = (kE v some).bind _ from (bC (bI (bO fun x1 => (bC rfl rfl))) rfl))
def TR := QS.l (g := 340) (t := (cv (pb 3 5) (ae Tryz.f340) .none (.sum uD au He))) (aQ Tryz.func340 (ah.put (az (by kernel_rfl)) (ah.no _) NS))
def Rm (a0 : List (Ty.T y63)) (a1_0 : Int) : Option (AV × Sig) := cond (ff a0 a1_0 0 ((a0).length : Int) 0 0) (some (.one (.int .i64 (yr a0 a1_0 0 ((a0).length : Int) 0).2.2.1), [])) (cond (ff a0 a1_0 0 ((a0).length : Int) 0 1) (some (.one (.int .i64 (-1)), [])) (none))
def tS (a0 : List (Ty.T y63)) (a1_0 : Int) : Int := cond (ff a0 a1_0 0 ((a0).length : Int) 0 0) ((yr a0 a1_0 0 ((a0).length : Int) 0).2.2.1) (cond (ff a0 a1_0 0 ((a0).length : Int) 0 1) ((-1)) (0))
def qO (a0 : List (Ty.T y63)) (a1_0 : Int) : Bool := cond (ff a0 a1_0 0 ((a0).length : Int) 0 0) (true) (cond (ff a0 a1_0 0 ((a0).length : Int) 0 1) (true) (false))
theorem Yq (a0 : List (Ty.T y63)) (a1_0 : Int) : Rm a0 a1_0 = cond (qO a0 a1_0) (some (N8 (tS a0 a1_0))) none := (pC (pS _) (pC (pS _) (pN _)))
def Xm : Prim := ⟨[.one (.dat (.sl 64 y63) true), .one (.fnc 341 [(.int .i64)])], fun v => .br (qO v.1 v.2.1) (.done (N8 (tS v.1 v.2.1))) .no⟩
theorem S5 : PO 340 Xm := pK TR fun v => Eq.trans (b := Rm v.1 v.2.1) (by kernel_rfl) (Yq v.1 v.2.1)
def f326 (r : Int) : AV × Sig := (.one (.int .i64 r), [])
def ai3 := (E0.p S5)
def adC (a0 : Ty.T y36) (a1 : Int) : Option (AV × Sig) := cond (qO a0.1 a1) (some (.one (.int .i64 (tS a0.1 a1)), [])) (none)
def qk (a0 : Ty.T y36) (a1 : Int) : Int := cond (qO a0.1 a1) ((tS a0.1 a1)) (0)
def d326 (a0 : Ty.T y36) (a1 : Int) : Bool := cond (qO a0.1 a1) (true) (false)
theorem ahe (a0 : Ty.T y36) (a1 : Int) : adC a0 a1 = cond (d326 a0 a1) (some (f326 (qk a0 a1))) none := (pC (pS _) (pN _))
def aiq : Prim := ⟨[.agg [.dat y36 true], oI], fun v => .br (d326 v.1 v.2.1) (.done (f326 (qk v.1 v.2.1))) .no⟩
theorem Vj : PO 326 aiq := pK ai3 fun v => Eq.trans (b := adC v.1 v.2.1) (by kernel_rfl) (ahe v.1 v.2.1)
def f292 (r : Int) : AV × Sig := (.one (.int .i64 r), [])
def ajl := ((E0.p Pv).p Vj)
def Zx (a0 : Ty.T y36) (a1 : Ty.T y27) : Option (AV × Sig) := cond (a1.2.2.1 == (0 : Int)) (cond (pF a0 a1.2.2.2.1) (some (.one (.int .i64 a1.2.2.2.1), [])) (some (.one (.int .i64 (-1)), []))) (cond (d326 a0 a1.2.2.1) (cond (decide ((qk a0 a1.2.2.1) < (0 : Int))) (some (.one (.int .i64 (-1)), [])) (if 0 <= (qk a0 a1.2.2.1) then (bt ((a0.1)[(qk a0 a1.2.2.1).toNat]?) (fun x1 => some (.one (.int .i64 x1.2.2.1), []))) else none)) (none))
def vk (a0 : Ty.T y36) (a1 : Ty.T y27) : Int := cond (a1.2.2.1 == (0 : Int)) (cond (pF a0 a1.2.2.2.1) (a1.2.2.2.1) ((-1))) (cond (d326 a0 a1.2.2.1) (cond (decide ((qk a0 a1.2.2.1) < (0 : Int))) ((-1)) (rV ((a0.1)[(qk a0 a1.2.2.1).toNat]?) 0 (fun x1 => x1.2.2.1))) (0))
def d292 (a0 : Ty.T y36) (a1 : Ty.T y27) : Bool := cond (a1.2.2.1 == (0 : Int)) (cond (pF a0 a1.2.2.2.1) (true) (true)) (cond (d326 a0 a1.2.2.1) (cond (decide ((qk a0 a1.2.2.1) < (0 : Int))) (true) (decide (0 <= (qk a0 a1.2.2.1)) && (pB ((a0.1)[(qk a0 a1.2.2.1).toNat]?) (fun x1 => true)))) (false))
theorem afS (a0 : Ty.T y36) (a1 : Ty.T y27) : Zx a0 a1 = cond (d292 a0 a1) (some (f292 (vk a0 a1))) none := (pC (pC (pS _) (pS _)) (pC (pC (pS _) (pI (pO fun x1 => (pS _)))) (pN _)))
def agG : Prim := ⟨[.agg [.dat y36 true], .agg [.dat y27 true]], fun v => .br (d292 v.1 v.2.1) (.done (f292 (vk v.1 v.2.1))) .no⟩
theorem Vs : PO 292 agG := pK ajl fun v => Eq.trans (b := Zx v.1 v.2.1) (by kernel_rfl) (afS v.1 v.2.1)
def f304 (r : Bool) : AV × Sig := (.one (.bool r), [])
def aie := (E0.p Vs)
def t304 (a0 : Ty.T y36) (a1 : Int) (a2 : Ty.T bT) (a3 : Ty.T y27) {Z : Type} (κ : Bool -> Option Z) : Option Z := cond (d292 a0 a3) (cond ((vk a0 a3) == (-1 : Int)) (κ false) (cond (a2.2.1 == (1 : Int)) (cond ((vk a0 a3) != a1) (κ false) (cond (a2.2.1 == (2 : Int)) (cond ((vk a0 a3) == a1) (κ false) (cond (a2.2.2.2.2.1 == (0 : Int)) (κ true) (κ (a2.2.2.2.2.1 == a3.2.2.1)))) (cond (a2.2.2.2.2.1 == (0 : Int)) (κ true) (κ (a2.2.2.2.2.1 == a3.2.2.1))))) (cond (a2.2.1 == (2 : Int)) (cond ((vk a0 a3) == a1) (κ false) (cond (a2.2.2.2.2.1 == (0 : Int)) (κ true) (κ (a2.2.2.2.2.1 == a3.2.2.1)))) (cond (a2.2.2.2.2.1 == (0 : Int)) (κ true) (κ (a2.2.2.2.2.1 == a3.2.2.1)))))) (none)
def MN (a0 : Ty.T y36) (a1 : Int) (a2 : Ty.T bT) (a3 : Ty.T y27) : Bool := (t304 a0 a1 a2 a3 some).getD false
def d304 (a0 : Ty.T y36) (a1 : Int) (a2 : Ty.T bT) (a3 : Ty.T y27) : Bool := (t304 a0 a1 a2 a3 some).isSome
def afF : Prim := ⟨[.agg [.dat y36 true], oI, .agg [.dat bT true], .agg [.dat y27 true]], fun v => .br (d304 v.1 v.2.1 v.2.2.1 v.2.2.2.1) (.done (f304 (MN v.1 v.2.1 v.2.2.1 v.2.2.2.1))) .no⟩
theorem aaw : PO 304 afF := pK aie fun v => Eq.trans (b := (t304 v.1 v.2.1 v.2.2.1 v.2.2.2.1 (sm f304))) (by kernel_rfl) (aq (show t304 v.1 v.2.1 v.2.2.1 v.2.2.2.1 (sm f304) = (t304 v.1 v.2.1 v.2.2.1 v.2.2.2.1 some).bind _ from by unfold t304; simp only [bb]))
def f329 (r : (Ty.T y63)) : AV × Sig := (.agg (y63.cells false r), [])
def ajh := (E0.p Vj)
def Jq (a0 : Ty.T y36) (a1 : Ty.T y27) {Z : Type} (κ : (Ty.T y63) -> Option Z) : Option Z := cond (d326 a0 a1.2.1) (cond (a1.1 != (1 : Int)) (κ (0, 0, 0, 0, 0, 0, 0, 0, 0, 0, 0, false, false)) (cond (decide ((qk a0 a1.2.1) < (0 : Int))) (κ (0, 0, 0, 0, 0, 0, 0, 0, 0, 0, 0, false, false)) (if 0 <= (qk a0 a1.2.1) then (bt ((a0.1)[(qk a0 a1.2.1).toNat]?) (fun x1 => κ x1)) else none))) (none)
def IL (a0 : Ty.T y36) (a1 : Ty.T y27) : (Ty.T y63) := (Jq a0 a1 some).getD (Ty.zero y63)
def d329 (a0 : Ty.T y36) (a1 : Ty.T y27) : Bool := (Jq a0 a1 some).isSome
def ai7 : Prim := ⟨[.agg [.dat y36 true], .agg [.dat y27 true]], fun v => .br (d329 v.1 v.2.1) (.done (f329 (IL v.1 v.2.1))) .no⟩
theorem ZS : PO 329 ai7 := pK ajh fun v => Eq.trans (b := (Jq v.1 v.2.1 (sm f329))) (by kernel_rfl) (aq (show Jq v.1 v.2.1 (sm f329) = (Jq v.1 v.2.1 some).bind _ from (bC (bC rfl (bC rfl (bI (bO fun x1 => rfl)))) rfl)))
def f305 (r : Bool) : AV × Sig := (.one (.bool r), [])
def agv := (E0.p ZS)
def adJ (a0 : Ty.T y36) (a1 : Ty.T bT) (a2 : Ty.T y27) : Option (AV × Sig) := cond (a1.2.2.1 == (0 : Int)) (cond (d329 a0 a2) (some (.one (.bool ((IntKind.wrap .i64 ((BitVec.ofInt (IntKind.bits .i64) (IL a0 a2).2.2.2.2.2.2.2.1 &&& BitVec.ofInt (IntKind.bits .i64) a1.2.2.2.1).toNat : Int)) == a1.2.2.2.1)), [])) (none)) (cond (a1.2.2.1 == a2.2.1) (cond (d329 a0 a2) (some (.one (.bool ((IntKind.wrap .i64 ((BitVec.ofInt (IntKind.bits .i64) (IL a0 a2).2.2.2.2.2.2.2.1 &&& BitVec.ofInt (IntKind.bits .i64) a1.2.2.2.1).toNat : Int)) == a1.2.2.2.1)), [])) (none)) (some (.one (.bool false), [])))
def Io (a0 : Ty.T y36) (a1 : Ty.T bT) (a2 : Ty.T y27) : Bool := cond (a1.2.2.1 == (0 : Int)) (cond (d329 a0 a2) (((IntKind.wrap .i64 ((BitVec.ofInt (IntKind.bits .i64) (IL a0 a2).2.2.2.2.2.2.2.1 &&& BitVec.ofInt (IntKind.bits .i64) a1.2.2.2.1).toNat : Int)) == a1.2.2.2.1)) (false)) (cond (a1.2.2.1 == a2.2.1) (cond (d329 a0 a2) (((IntKind.wrap .i64 ((BitVec.ofInt (IntKind.bits .i64) (IL a0 a2).2.2.2.2.2.2.2.1 &&& BitVec.ofInt (IntKind.bits .i64) a1.2.2.2.1).toNat : Int)) == a1.2.2.2.1)) (false)) (false))
def d305 (a0 : Ty.T y36) (a1 : Ty.T bT) (a2 : Ty.T y27) : Bool := cond (a1.2.2.1 == (0 : Int)) (cond (d329 a0 a2) (true) (false)) (cond (a1.2.2.1 == a2.2.1) (cond (d329 a0 a2) (true) (false)) (true))
theorem adV (a0 : Ty.T y36) (a1 : Ty.T bT) (a2 : Ty.T y27) : adJ a0 a1 a2 = cond (d305 a0 a1 a2) (some (f305 (Io a0 a1 a2))) none := (pC (pC (pS _) (pN _)) (pC (pC (pS _) (pN _)) (pS _)))
def aeF : Prim := ⟨[.agg [.dat y36 true], .agg [.dat bT true], .agg [.dat y27 true]], fun v => .br (d305 v.1 v.2.1 v.2.2.1) (.done (f305 (Io v.1 v.2.1 v.2.2.1))) .no⟩
theorem Zu : PO 305 aeF := pK agv fun v => Eq.trans (b := adJ v.1 v.2.1 v.2.2.1) (by kernel_rfl) (adV v.1 v.2.1 v.2.2.1)
def f256 (r : Bool) : AV × Sig := (.one (.bool r), [])
def afJ := ((((E0.p V7).p aaw).p Zu).p Gz)
def acv (a0 : Ty.T y36) (a1 : Int) (a2 : Ty.T bT) (a3 : Ty.T y27) : Option (AV × Sig) := cond (xK a2) (cond (v53 a3) (cond (a2.1 == a3.1) (cond (d304 a0 a1 a2 a3) (cond (MN a0 a1 a2 a3) (cond (d305 a0 a2 a3) (cond (Io a0 a2 a3) (cond (decide (a3.2.2.2.2.1 ≥ a2.2.2.2.2.2.1)) (cond (a2.2.2.2.2.2.2 == (0 : Int)) (some (.one (.bool true), [])) (some (.one (.bool (a2.2.2.2.2.2.2 == a3.2.2.2.2.2.1)), []))) (some (.one (.bool false), []))) (some (.one (.bool false), []))) (none)) (some (.one (.bool false), []))) (none)) (some (.one (.bool false), []))) (some (.one (.bool false), []))) (some (.one (.bool false), []))
def Ma (a0 : Ty.T y36) (a1 : Int) (a2 : Ty.T bT) (a3 : Ty.T y27) : Bool := cond (xK a2) (cond (v53 a3) (cond (a2.1 == a3.1) (cond (d304 a0 a1 a2 a3) (cond (MN a0 a1 a2 a3) (cond (d305 a0 a2 a3) (cond (Io a0 a2 a3) (cond (decide (a3.2.2.2.2.1 ≥ a2.2.2.2.2.2.1)) (cond (a2.2.2.2.2.2.2 == (0 : Int)) (true) ((a2.2.2.2.2.2.2 == a3.2.2.2.2.2.1))) (false)) (false)) (false)) (false)) (false)) (false)) (false)) (false)
def d256 (a0 : Ty.T y36) (a1 : Int) (a2 : Ty.T bT) (a3 : Ty.T y27) : Bool := cond (xK a2) (cond (v53 a3) (cond (a2.1 == a3.1) (cond (d304 a0 a1 a2 a3) (cond (MN a0 a1 a2 a3) (cond (d305 a0 a2 a3) (cond (Io a0 a2 a3) (cond (decide (a3.2.2.2.2.1 ≥ a2.2.2.2.2.2.1)) (cond (a2.2.2.2.2.2.2 == (0 : Int)) (true) (true)) (true)) (true)) (false)) (true)) (false)) (true)) (true)) (true)
theorem aiv (a0 : Ty.T y36) (a1 : Int) (a2 : Ty.T bT) (a3 : Ty.T y27) : acv a0 a1 a2 a3 = cond (d256 a0 a1 a2 a3) (some (f256 (Ma a0 a1 a2 a3))) none := (pC (pC (pC (pC (pC (pC (pC (pC (pC (pS _) (pS _)) (pS _)) (pS _)) (pN _)) (pS _)) (pN _)) (pS _)) (pS _)) (pS _))
def af4 : Prim := ⟨[.agg [.dat y36 true], oI, .agg [.dat bT true], .agg [.dat y27 true]], fun v => .br (d256 v.1 v.2.1 v.2.2.1 v.2.2.2.1) (.done (f256 (Ma v.1 v.2.1 v.2.2.1 v.2.2.2.1))) .no⟩
theorem acS : PO 256 af4 := pK afJ fun v => Eq.trans (b := acv v.1 v.2.1 v.2.2.1 v.2.2.2.1) (by kernel_rfl) (aiv v.1 v.2.1 v.2.2.1 v.2.2.2.1)
def f182 (r : Bool) : AV × Sig := (.one (.bool r), [])
def af6 := (((((E0.p O5).p Zj).p aae).p abl).p acS)
def aar (a0 : Ty.T y36) (a1 : Ty.T ab) (a2 : Ty.T y27) : Option (AV × Sig) := cond (d227 a1) (cond (Am a1) (cond (Mm a1 a0.2.2.2) (cond (Nk a1 a2) (cond (d255 a0 a1.2.1 a1.2.2.2.2.2.1) (cond (I9 a0 a1.2.1 a1.2.2.2.2.2.1) (cond (d256 a0 a1.2.1 a1.2.2.2.2.1 a2) (some (.one (.bool (Ma a0 a1.2.1 a1.2.2.2.2.1 a2)), [])) (none)) (some (.one (.bool false), []))) (none)) (some (.one (.bool false), []))) (some (.one (.bool false), []))) (some (.one (.bool false), []))) (none)
def O9 (a0 : Ty.T y36) (a1 : Ty.T ab) (a2 : Ty.T y27) : Bool := cond (d227 a1) (cond (Am a1) (cond (Mm a1 a0.2.2.2) (cond (Nk a1 a2) (cond (d255 a0 a1.2.1 a1.2.2.2.2.2.1) (cond (I9 a0 a1.2.1 a1.2.2.2.2.2.1) (cond (d256 a0 a1.2.1 a1.2.2.2.2.1 a2) ((Ma a0 a1.2.1 a1.2.2.2.2.1 a2)) (false)) (false)) (false)) (false)) (false)) (false)) (false)
def d182 (a0 : Ty.T y36) (a1 : Ty.T ab) (a2 : Ty.T y27) : Bool := cond (d227 a1) (cond (Am a1) (cond (Mm a1 a0.2.2.2) (cond (Nk a1 a2) (cond (d255 a0 a1.2.1 a1.2.2.2.2.2.1) (cond (I9 a0 a1.2.1 a1.2.2.2.2.2.1) (cond (d256 a0 a1.2.1 a1.2.2.2.2.1 a2) (true) (false)) (true)) (false)) (true)) (true)) (true)) (false)
theorem aiK (a0 : Ty.T y36) (a1 : Ty.T ab) (a2 : Ty.T y27) : aar a0 a1 a2 = cond (d182 a0 a1 a2) (some (f182 (O9 a0 a1 a2))) none := (pC (pC (pC (pC (pC (pC (pC (pS _) (pN _)) (pS _)) (pN _)) (pS _)) (pS _)) (pS _)) (pN _))
def agK : Prim := ⟨[.agg [.dat y36 true], .agg [.dat ab true], .agg [.dat y27 true]], fun v => .br (d182 v.1 v.2.1 v.2.2.1) (.done (f182 (O9 v.1 v.2.1 v.2.2.1))) .no⟩
theorem abq : PO 182 agK := pK af6 fun v => Eq.trans (b := aar v.1 v.2.1 v.2.2.1) (by kernel_rfl) (aiK v.1 v.2.1 v.2.2.1)
end
end Go.Proofs.YtahlaccdpmddbaaGreat.Vm
