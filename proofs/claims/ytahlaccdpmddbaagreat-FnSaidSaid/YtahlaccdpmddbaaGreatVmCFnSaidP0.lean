/- Contracts. No condition. -/
import Derived.Test.YtahlaccdpmddbaaGreatVmS
import Derived.Test.YtahlaccdpmddbaaGreatVmLibThree
namespace Go.Proofs.YtahlaccdpmddbaaGreat.Vm
open Go Go.Proofs.YtahlaccdpmddbaaGreat.Lib
noncomputable section
set_option maxRecDepth 100000
set_option linter.unusedVariables false
@[reducible] def q1 : Ty := (.pair (.int .i64) (.pair (.int .i64) (.pair (.int .i64) aM)))
@[reducible] def q3 : Ty := (.pair (.int .i64) (.pair (.int .i64) (.pair (.int .i64) (.pair (.int .i64) y27))))
@[reducible] def q0 : Ty := (.pair (.int .i64) (.pair (.int .i64) (.pair (.int .i64) (.pair (.int .i64) (.pair bS (.pair aB q1))))))
@[reducible] def q2 : Ty := (.pair (.int .i64) (.pair (.int .i64) (.pair (.int .i64) (.pair (.int .i64) (.pair (.int .i64) (.pair (.int .i64) (.pair (.int .i64) (.pair (.int .i64) q3))))))))
def f165 (r : Bool) : AV × Sig := (.one (.bool r), [])
def afC := E0
def Xn (a0 : Int) (a1 : Int) (a2 : Int) : Option (AV × Sig) := cond (decide (a0 ≥ a1)) (some (.one (.bool (decide (a0 <= a2))), [])) (some (.one (.bool false), []))
def cu (a0 : Int) (a1 : Int) (a2 : Int) : Bool := cond (decide (a0 ≥ a1)) (decide (a0 <= a2)) (false)
theorem ado (a0 : Int) (a1 : Int) (a2 : Int) : Xn a0 a1 a2 = some (f165 (cu a0 a1 a2)) := (tC rfl rfl)
def aas : Prim := ⟨[oI, oI, oI], fun v => .done (f165 (cu v.1 v.2.1 v.2.2.1))⟩
theorem iV : PO 165 aas := pK afC fun v => Eq.trans (b := Xn v.1 v.2.1 v.2.2.1) (by kernel_rfl) (ado v.1 v.2.1 v.2.2.1)
def f160 (r : Bool) : AV × Sig := (.one (.bool r), [])
def abk := (E0.p iV)
def V1 (a0 : Int) : Option (AV × Sig) := some (.one (.bool (cu a0 1 99)), [])
def nu (a0 : Int) : Bool := (cu a0 1 99)
theorem afd (a0 : Int) : V1 a0 = some (f160 (nu a0)) := rfl
def af2 : Prim := ⟨[oI], fun v => .done (f160 (nu v.1))⟩
theorem FR : PO 160 af2 := pK abk fun v => Eq.trans (b := V1 v.1) (by kernel_rfl) (afd v.1)
def f164 (r : Bool) : AV × Sig := (.one (.bool r), [])
def aeo := (E0.p iV)
def Zh (a0 : Int) : Option (AV × Sig) := some (.one (.bool (cu a0 0 2)), [])
def v164 (a0 : Int) : Bool := (cu a0 0 2)
theorem ack (a0 : Int) : Zh a0 = some (f164 (v164 a0)) := rfl
def abf : Prim := ⟨[oI], fun v => .done (f164 (v164 v.1))⟩
theorem IZ : PO 164 abf := pK aeo fun v => Eq.trans (b := Zh v.1) (by kernel_rfl) (ack v.1)
def f159 (r : Bool) : AV × Sig := (.one (.bool r), [])
def aeU := (E0.p iV)
def VF (a0 : Int) : Option (AV × Sig) := some (.one (.bool (cu a0 0 2147483647)), [])
def sa (a0 : Int) : Bool := (cu a0 0 2147483647)
theorem acA (a0 : Int) : VF a0 = some (f159 (sa a0)) := rfl
def adl : Prim := ⟨[oI], fun v => .done (f159 (sa v.1))⟩
theorem Jd : PO 159 adl := pK aeU fun v => Eq.trans (b := VF v.1) (by kernel_rfl) (acA v.1)
def f250 (r : Bool) : AV × Sig := (.one (.bool r), [])
def abS := (E0.p iV)
def W6 (a0 : Int) : Option (AV × Sig) := some (.one (.bool (cu a0 0 63)), [])
def Lt (a0 : Int) : Bool := (cu a0 0 63)
theorem afO (a0 : Int) : W6 a0 = some (f250 (Lt a0)) := rfl
def abK : Prim := ⟨[oI], fun v => .done (f250 (Lt v.1))⟩
theorem RU : PO 250 abK := pK abS fun v => Eq.trans (b := W6 v.1) (by kernel_rfl) (afO v.1)
def f320 (r : Bool) : AV × Sig := (.one (.bool r), [])
def adk := (E0.p iV)
def WV (a0 : Int) : Option (AV × Sig) := some (.one (.bool (cu a0 1 6)), [])
def Le (a0 : Int) : Bool := (cu a0 1 6)
theorem aaa (a0 : Int) : WV a0 = some (f320 (Le a0)) := rfl
def abb : Prim := ⟨[oI], fun v => .done (f320 (Le v.1))⟩
theorem Sc : PO 320 abb := pK adk fun v => Eq.trans (b := WV v.1) (by kernel_rfl) (aaa v.1)
def f283 (r : Bool) : AV × Sig := (.one (.bool r), [])
def aaC := ((((E0.p Jd).p iV).p RU).p Sc)
def t283 (a0 : Ty.T bS) {Z : Type} (κ : Bool -> Z) : Z := cond (!(Le a0.1)) (κ false) (cond (!(cu a0.2.1 0 2)) (κ false) (cond (!(cu a0.2.2.1 0 99)) (κ false) (cond (!(Lt a0.2.2.2.1)) (κ false) (cond (!(cu a0.2.2.2.2.1 0 99)) (κ false) (cond (!(sa a0.2.2.2.2.2.1)) (κ false) (cond (!(cu a0.2.2.2.2.2.2 0 4)) (κ false) (cond (a0.1 != (1 : Int)) (cond (a0.2.2.1 != (0 : Int)) (κ false) (cond (a0.2.2.2.1 != (0 : Int)) (κ false) (cond (a0.1 != (2 : Int)) (cond (a0.2.2.2.2.2.2 != (0 : Int)) (κ false) (cond (a0.2.2.2.2.1 == (0 : Int)) (κ true) (cond (a0.1 != (3 : Int)) (κ (a0.1 != (4 : Int))) (κ false)))) (cond (a0.2.2.2.2.1 == (0 : Int)) (κ true) (cond (a0.1 != (3 : Int)) (κ (a0.1 != (4 : Int))) (κ false)))))) (cond (a0.1 != (2 : Int)) (cond (a0.2.2.2.2.2.2 != (0 : Int)) (κ false) (cond (a0.2.2.2.2.1 == (0 : Int)) (κ true) (cond (a0.1 != (3 : Int)) (κ (a0.1 != (4 : Int))) (κ false)))) (cond (a0.2.2.2.2.1 == (0 : Int)) (κ true) (cond (a0.1 != (3 : Int)) (κ (a0.1 != (4 : Int))) (κ false)))))))))))
def yl (a0 : Ty.T bS) : Bool := t283 a0 fun r => r
def ady : Prim := ⟨[.agg [.dat bS true]], fun v => .done (f283 (yl v.1))⟩
theorem RH : PO 283 ady := pK aaC fun v => Eq.trans (b := (t283 v.1 (sm f283))) (by kernel_rfl) (show t283 v.1 (sm f283) = some (f283 (t283 v.1 fun r => r)) from (tC rfl (tC rfl (tC rfl (tC rfl (tC rfl (tC rfl (tC rfl (tC (tC rfl (tC rfl (tC (tC rfl (tC rfl (tC rfl rfl))) (tC rfl (tC rfl rfl))))) (tC (tC rfl (tC rfl (tC rfl rfl))) (tC rfl (tC rfl rfl))))))))))))
def f173 (r : Int) : AV × Sig := (.one (.int .i64 r), [])
def aeJ := E0
def YY (a0 : Int) : Option (AV × Sig) := some (.one (.int .i64 (if (if (2147483647 : Int) < a0 then 2147483647 else a0) > (-2147483647 : Int) then if (2147483647 : Int) < a0 then 2147483647 else a0 else (-2147483647))), [])
def dZ (a0 : Int) : Int := if (if (2147483647 : Int) < a0 then 2147483647 else a0) > (-2147483647 : Int) then if (2147483647 : Int) < a0 then 2147483647 else a0 else (-2147483647)
theorem adD (a0 : Int) : YY a0 = some (f173 (dZ a0)) := rfl
def aef : Prim := ⟨[oI], fun v => .done (f173 (dZ v.1))⟩
theorem zJ : PO 173 aef := pK aeJ fun v => Eq.trans (b := YY v.1) (by kernel_rfl) (adD v.1)
def f284 (r : Bool) : AV × Sig := (.one (.bool r), [])
def aer := ((E0.p iV).p zJ)
def t284 (a0 : Ty.T aB) {Z : Type} (κ : Bool -> Z) : Z := cond (a0.1 == (0 : Int)) (cond (a0.1 == (0 : Int)) (κ (a0.2 == (0 : Int))) (cond (a0.1 == (1 : Int)) (κ ((dZ a0.2) == a0.2)) (cond (a0.1 == (2 : Int)) (cond (a0.1 == (2 : Int)) (κ (cu a0.2 0 8)) (κ false)) (cond (a0.1 == (4 : Int)) (κ (cu a0.2 0 8)) (κ false))))) (cond (a0.1 == (3 : Int)) (κ (a0.2 == (0 : Int))) (cond (a0.1 == (1 : Int)) (κ ((dZ a0.2) == a0.2)) (cond (a0.1 == (2 : Int)) (cond (a0.1 == (2 : Int)) (κ (cu a0.2 0 8)) (κ false)) (cond (a0.1 == (4 : Int)) (κ (cu a0.2 0 8)) (κ false)))))
def uV (a0 : Ty.T aB) : Bool := t284 a0 fun r => r
def afv : Prim := ⟨[.agg [.dat aB true]], fun v => .done (f284 (uV v.1))⟩
theorem R1 : PO 284 afv := pK aer fun v => Eq.trans (b := (t284 v.1 (sm f284))) (by kernel_rfl) (show t284 v.1 (sm f284) = some (f284 (t284 v.1 fun r => r)) from (tC (tC rfl (tC rfl (tC (tC rfl rfl) (tC rfl rfl)))) (tC rfl (tC rfl (tC (tC rfl rfl) (tC rfl rfl))))))
def f163 (r : Bool) : AV × Sig := (.one (.bool r), [])
def aeR := (E0.p iV)
def Zd (a0 : Int) : Option (AV × Sig) := some (.one (.bool (cu a0 1 4)), [])
def tS (a0 : Int) : Bool := (cu a0 1 4)
theorem aga (a0 : Int) : Zd a0 = some (f163 (tS a0)) := rfl
def acH : Prim := ⟨[oI], fun v => .done (f163 (tS v.1))⟩
theorem Po : PO 163 acH := pK aeR fun v => Eq.trans (b := Zd v.1) (by kernel_rfl) (aga v.1)
def f161 (r : Bool) : AV × Sig := (.one (.bool r), [])
def aeP := (E0.p FR)
def Yz (a0 : Ty.T y27) : Option (AV × Sig) := cond (nu a0.2.2.1) (some (.one (.bool (a0.2.2.2.1 == (-1 : Int))), [])) (some (.one (.bool false), []))
def eD (a0 : Ty.T y27) : Bool := cond (nu a0.2.2.1) ((a0.2.2.2.1 == (-1 : Int))) (false)
theorem acV (a0 : Ty.T y27) : Yz a0 = some (f161 (eD a0)) := (tC rfl rfl)
def aca : Prim := ⟨[.agg [.dat y27 true]], fun v => .done (f161 (eD v.1))⟩
theorem Wu : PO 161 aca := pK aeP fun v => Eq.trans (b := Yz v.1) (by kernel_rfl) (acV v.1)
def f162 (r : Bool) : AV × Sig := (.one (.bool r), [])
def aeX := (E0.p IZ)
def Vu (a0 : Ty.T y27) : Option (AV × Sig) := cond (a0.2.2.1 == (0 : Int)) (some (.one (.bool (v164 a0.2.2.2.1)), [])) (some (.one (.bool false), []))
def pB (a0 : Ty.T y27) : Bool := cond (a0.2.2.1 == (0 : Int)) ((v164 a0.2.2.2.1)) (false)
theorem adV (a0 : Ty.T y27) : Vu a0 = some (f162 (pB a0)) := (tC rfl rfl)
def adI : Prim := ⟨[.agg [.dat y27 true]], fun v => .done (f162 (pB v.1))⟩
theorem ZW : PO 162 adI := pK aeX fun v => Eq.trans (b := Vu v.1) (by kernel_rfl) (adV v.1)
def f53 (r : Bool) : AV × Sig := (.one (.bool r), [])
def E53 := (((((E0.p Jd).p FR).p Wu).p ZW).p Po)
def t53 (a0 : Ty.T y27) {Z : Type} (κ : Bool -> Z) : Z := cond (!(sa a0.2.2.2.2.1)) (κ false) (cond (a0.1 != (1 : Int)) (cond (a0.2.1 != (0 : Int)) (κ false) (cond (a0.1 != (2 : Int)) (cond (a0.2.2.2.2.2.1 != (0 : Int)) (κ false) (cond a0.2.2.2.2.2.2 (κ false) (cond (a0.1 == (1 : Int)) (cond (nu a0.2.1) (cond (eD a0) (κ true) (κ (pB a0))) (κ false)) (cond (a0.1 == (2 : Int)) (cond (a0.2.2.2.2.2.1 == (2 : Int)) (cond (eD a0) (κ (decide (a0.2.2.2.2.1 <= (99 : Int)))) (κ false)) (cond (eD a0) (cond (tS a0.2.2.2.2.2.1) (cond (a0.2.2.2.2.1 == (0 : Int)) (κ (!a0.2.2.2.2.2.2)) (κ false)) (κ false)) (κ false))) (cond (a0.1 == (3 : Int)) (cond (a0.1 == (3 : Int)) (κ (pB a0)) (cond (a0.1 == (5 : Int)) (cond (a0.1 == (5 : Int)) (κ (eD a0)) (κ false)) (cond (a0.1 == (6 : Int)) (κ (eD a0)) (κ false)))) (cond (a0.1 == (4 : Int)) (κ (pB a0)) (cond (a0.1 == (5 : Int)) (cond (a0.1 == (5 : Int)) (κ (eD a0)) (κ false)) (cond (a0.1 == (6 : Int)) (κ (eD a0)) (κ false))))))))) (cond (a0.1 == (1 : Int)) (cond (nu a0.2.1) (cond (eD a0) (κ true) (κ (pB a0))) (κ false)) (cond (a0.1 == (2 : Int)) (cond (a0.2.2.2.2.2.1 == (2 : Int)) (cond (eD a0) (κ (decide (a0.2.2.2.2.1 <= (99 : Int)))) (κ false)) (cond (eD a0) (cond (tS a0.2.2.2.2.2.1) (cond (a0.2.2.2.2.1 == (0 : Int)) (κ (!a0.2.2.2.2.2.2)) (κ false)) (κ false)) (κ false))) (cond (a0.1 == (3 : Int)) (cond (a0.1 == (3 : Int)) (κ (pB a0)) (cond (a0.1 == (5 : Int)) (cond (a0.1 == (5 : Int)) (κ (eD a0)) (κ false)) (cond (a0.1 == (6 : Int)) (κ (eD a0)) (κ false)))) (cond (a0.1 == (4 : Int)) (κ (pB a0)) (cond (a0.1 == (5 : Int)) (cond (a0.1 == (5 : Int)) (κ (eD a0)) (κ false)) (cond (a0.1 == (6 : Int)) (κ (eD a0)) (κ false))))))))) (cond (a0.1 != (2 : Int)) (cond (a0.2.2.2.2.2.1 != (0 : Int)) (κ false) (cond a0.2.2.2.2.2.2 (κ false) (cond (a0.1 == (1 : Int)) (cond (nu a0.2.1) (cond (eD a0) (κ true) (κ (pB a0))) (κ false)) (cond (a0.1 == (2 : Int)) (cond (a0.2.2.2.2.2.1 == (2 : Int)) (cond (eD a0) (κ (decide (a0.2.2.2.2.1 <= (99 : Int)))) (κ false)) (cond (eD a0) (cond (tS a0.2.2.2.2.2.1) (cond (a0.2.2.2.2.1 == (0 : Int)) (κ (!a0.2.2.2.2.2.2)) (κ false)) (κ false)) (κ false))) (cond (a0.1 == (3 : Int)) (cond (a0.1 == (3 : Int)) (κ (pB a0)) (cond (a0.1 == (5 : Int)) (cond (a0.1 == (5 : Int)) (κ (eD a0)) (κ false)) (cond (a0.1 == (6 : Int)) (κ (eD a0)) (κ false)))) (cond (a0.1 == (4 : Int)) (κ (pB a0)) (cond (a0.1 == (5 : Int)) (cond (a0.1 == (5 : Int)) (κ (eD a0)) (κ false)) (cond (a0.1 == (6 : Int)) (κ (eD a0)) (κ false))))))))) (cond (a0.1 == (1 : Int)) (cond (nu a0.2.1) (cond (eD a0) (κ true) (κ (pB a0))) (κ false)) (cond (a0.1 == (2 : Int)) (cond (a0.2.2.2.2.2.1 == (2 : Int)) (cond (eD a0) (κ (decide (a0.2.2.2.2.1 <= (99 : Int)))) (κ false)) (cond (eD a0) (cond (tS a0.2.2.2.2.2.1) (cond (a0.2.2.2.2.1 == (0 : Int)) (κ (!a0.2.2.2.2.2.2)) (κ false)) (κ false)) (κ false))) (cond (a0.1 == (3 : Int)) (cond (a0.1 == (3 : Int)) (κ (pB a0)) (cond (a0.1 == (5 : Int)) (cond (a0.1 == (5 : Int)) (κ (eD a0)) (κ false)) (cond (a0.1 == (6 : Int)) (κ (eD a0)) (κ false)))) (cond (a0.1 == (4 : Int)) (κ (pB a0)) (cond (a0.1 == (5 : Int)) (cond (a0.1 == (5 : Int)) (κ (eD a0)) (κ false)) (cond (a0.1 == (6 : Int)) (κ (eD a0)) (κ false)))))))))
def v53 (a0 : Ty.T y27) : Bool := t53 a0 fun r => r
def p53 : Prim := ⟨[.agg [.dat y27 true]], fun v => .done (f53 (v53 v.1))⟩
theorem LI : PO 53 p53 := pK E53 fun v => Eq.trans (b := (t53 v.1 (sm f53))) (by kernel_rfl) (show t53 v.1 (sm f53) = some (f53 (t53 v.1 fun r => r)) from (tC rfl (tC (tC rfl (tC (tC rfl (tC rfl (tC (tC (tC rfl rfl) rfl) (tC (tC (tC rfl rfl) (tC (tC (tC rfl rfl) rfl) rfl)) (tC (tC rfl (tC (tC rfl rfl) (tC rfl rfl))) (tC rfl (tC (tC rfl rfl) (tC rfl rfl)))))))) (tC (tC (tC rfl rfl) rfl) (tC (tC (tC rfl rfl) (tC (tC (tC rfl rfl) rfl) rfl)) (tC (tC rfl (tC (tC rfl rfl) (tC rfl rfl))) (tC rfl (tC (tC rfl rfl) (tC rfl rfl)))))))) (tC (tC rfl (tC rfl (tC (tC (tC rfl rfl) rfl) (tC (tC (tC rfl rfl) (tC (tC (tC rfl rfl) rfl) rfl)) (tC (tC rfl (tC (tC rfl rfl) (tC rfl rfl))) (tC rfl (tC (tC rfl rfl) (tC rfl rfl)))))))) (tC (tC (tC rfl rfl) rfl) (tC (tC (tC rfl rfl) (tC (tC (tC rfl rfl) rfl) rfl)) (tC (tC rfl (tC (tC rfl rfl) (tC rfl rfl))) (tC rfl (tC (tC rfl rfl) (tC rfl rfl))))))))))
def f322 (r : Bool) : AV × Sig := (.one (.bool r), [])
def abi := (E0.p LI)
def YO (a0 : Ty.T y27) : Option (AV × Sig) := cond (v53 a0) (some (.one (.bool true), [])) (cond (a0.1 != (2 : Int)) (cond (a0.2.2.2.2.1 == (-1 : Int)) (some (.one (.bool (v53 (a0.1, a0.2.1, a0.2.2.1, a0.2.2.2.1, 0, a0.2.2.2.2.2))), [])) (some (.one (.bool false), []))) (some (.one (.bool false), [])))
def KX (a0 : Ty.T y27) : Bool := cond (v53 a0) (true) (cond (a0.1 != (2 : Int)) (cond (a0.2.2.2.2.1 == (-1 : Int)) ((v53 (a0.1, a0.2.1, a0.2.2.1, a0.2.2.2.1, 0, a0.2.2.2.2.2))) (false)) (false))
theorem aam (a0 : Ty.T y27) : YO a0 = some (f322 (KX a0)) := (tC rfl (tC (tC rfl rfl) rfl))
def adv : Prim := ⟨[.agg [.dat y27 true]], fun v => .done (f322 (KX v.1))⟩
theorem Wp : PO 322 adv := pK abi fun v => Eq.trans (b := YO v.1) (by kernel_rfl) (aam v.1)
def f321 (r : Bool) : AV × Sig := (.one (.bool r), [])
def aat := (E0.p Wp)
def XY (a0 : Ty.T y27) : Option (AV × Sig) := some (.one (.bool (!(KX a0))), [])
def QA (a0 : Ty.T y27) : Bool := !(KX a0)
theorem aaW (a0 : Ty.T y27) : XY a0 = some (f321 (QA a0)) := rfl
def ada : Prim := ⟨[.agg [.dat y27 true]], fun v => .done (f321 (QA v.1))⟩
theorem Z3 : PO 321 ada := pK aat fun v => Eq.trans (b := XY v.1) (by kernel_rfl) (aaW v.1)
def Od (r : Int) : AV × Sig := (.one (.int .i64 r), [])
def Nt := (E0.p Z3)
@[reducible] def sK : List SP := .one (.dat (.sl 41 y27) true) :: .one (.fnc 321 []) :: U2 (oI :: U2 (oI :: oI :: U8 (U2 ([]))))
@[reducible] def au : List (Nat × GP) := []
@[reducible] def dq : Type := (List (Ty.T y27)) × Int × Int × Int × Unit
def jA (v : dq) {Z : Type} (κ : Nat × dq -> Option Z) : Option Z := cond (decide (v.2.2.2.1 < v.2.2.1)) (if 0 <= v.2.2.2.1 then (bc ((v.1)[(v.2.2.2.1).toNat]?) (fun x1 => cond (QA x1) (κ (1, (v.1, v.2.2.2.1, v.2.2.1, v.2.2.2.1, ()))) (κ (0, (v.1, v.2.1, v.2.2.1, IntKind.wrap .i64 (v.2.2.2.1 + (1 : Int)), ()))))) else none) (κ (2, (v.1, v.2.1, v.2.2.1, v.2.2.2.1, ())))
def jG (v : dq) : Option (Nat × dq) := jA v some
def mM (v : dq) : Nat := v.1.length + v.2.1.toNat + v.2.2.1.toNat + v.2.2.2.1.toNat + 100
def e9 (h0 : List (Ty.T y27)) (h1 : Int) (h2 : Int) (h3 : Int) (c : Nat) : Bool := iK jG mM (h0, h1, h2, h3, ()) c
def qK (h0 : List (Ty.T y27)) (h1 : Int) (h2 : Int) (h3 : Int) : dq := iW jG mM (h0, h1, h2, h3, ())
def DP (v : dq) : aP (Ex × St) := bz jG (mM v) v (ax sK au) [.ret, .exit 0] 0
theorem MF : bw Tryz.prog (aO (pb 3 5) (ae Tryz.f249)) sK au DP := aE (lt := .none) Nt.ok aj (ag.no _) fun n v K => Eq.trans (b := jA v (dt _ _ _ _ _ K)) (by kernel_rfl) (show jA v _ = (jA v some).bind _ from (bC (bI (bO fun x1 => (bC rfl rfl))) rfl))
def Rq := Nt.l (g := 249) (t := (cD (pb 3 5) (ae Tryz.f249) .none (.sum sK au DP))) (aZ Tryz.func249 (ag.put (az (by kernel_rfl)) (ag.no _) MF))
def LN (a0 : List (Ty.T y27)) : Option (AV × Sig) := cond (e9 a0 0 ((a0).length : Int) 0 0) (some (.one (.int .i64 (qK a0 0 ((a0).length : Int) 0).2.1), [])) (cond (e9 a0 0 ((a0).length : Int) 0 1) (some (.one (.int .i64 (-1)), [])) (none))
def xe (a0 : List (Ty.T y27)) : Int := cond (e9 a0 0 ((a0).length : Int) 0 0) ((qK a0 0 ((a0).length : Int) 0).2.1) (cond (e9 a0 0 ((a0).length : Int) 0 1) ((-1)) (0))
def sf (a0 : List (Ty.T y27)) : Bool := cond (e9 a0 0 ((a0).length : Int) 0 0) (true) (cond (e9 a0 0 ((a0).length : Int) 0 1) (true) (false))
theorem TN (a0 : List (Ty.T y27)) : LN a0 = cond (sf a0) (some (Od (xe a0))) none := (pC (pS _) (pC (pS _) (pN _)))
def Vd : Prim := ⟨[.one (.dat (.sl 41 y27) true), .one (.fnc 321 [])], fun v => .br (sf v.1) (.done (Od (xe v.1))) .no⟩
theorem P6 : PO 249 Vd := pK Rq fun v => Eq.trans (b := LN v.1) (by kernel_rfl) (TN v.1)
def NO (r : Bool) : AV × Sig := (.one (.bool r), [])
def Um := (E0.p P6)
def Pz (a0 : List (Ty.T y27)) : Option (AV × Sig) := cond (sf a0) (some (.one (.bool (decide ((xe a0) ≥ (0 : Int)))), [])) (none)
def xE (a0 : List (Ty.T y27)) : Bool := cond (sf a0) (decide ((xe a0) ≥ (0 : Int))) (false)
def xN (a0 : List (Ty.T y27)) : Bool := cond (sf a0) (true) (false)
theorem UH (a0 : List (Ty.T y27)) : Pz a0 = cond (xN a0) (some (NO (xE a0))) none := (pC (pS _) (pN _))
def Tu : Prim := ⟨[.one (.dat (.sl 41 y27) true), .one (.fnc 321 [])], fun v => .br (xN v.1) (.done (NO (xE v.1))) .no⟩
theorem P7 : PO 166 Tu := pK Um fun v => Eq.trans (b := Pz v.1) (by kernel_rfl) (UH v.1)
def f285 (r : Bool) : AV × Sig := (.one (.bool r), [])
def LC := (((((E0.p P7).p FR).p Po).p IZ).p iV)
@[reducible] def nJ : List SP := .und :: .one (.ptr 1 0) :: .one (.dat .bool true) :: U64 (U32 (U16 ([])))
@[reducible] def bR : List (Nat × GP) := [(1, .box 107 [.dat bo true])]
@[reducible] def bT : Type := Bool × (Ty.T bo) × Unit
@[reducible] def JN : List SP := .und :: .one (.ptr 1 0) :: .one (.dat .bool true) :: U32 (U16 (U8 (.und :: .one (.dat .bool true) :: U32 (U16 (U4 (U2 ([])))))))
def B9 (v : bT) (r : Bool) : Ex × St := (.normal, ax JN bR (v.1, r, v.2.1, ()))
def rE (v : bT) {Z : Type} (κ : Bool -> Z) : Z := cond (v.2.1.1 != (3 : Int)) (cond (v.2.1.1 != (8 : Int)) (cond (v.2.1.2.1 != (0 : Int)) (κ true) (cond (v.2.1.1 != (6 : Int)) (cond (v.2.1.2.2.1 != (0 : Int)) (κ true) (cond (v.2.1.2.2.2.1 != (-1 : Int)) (κ true) (cond (v.2.1.1 != (7 : Int)) (cond (v.2.1.2.2.2.2.1 != (0 : Int)) (κ true) (cond (v.2.1.1 != (8 : Int)) (cond v.2.1.2.2.2.2.2.1 (κ true) (cond (v.2.1.1 != (9 : Int)) (κ (decide (((v.2.1.2.2.2.2.2.2).length : Int) > (0 : Int)))) (κ false))) (cond (v.2.1.1 != (9 : Int)) (κ (decide (((v.2.1.2.2.2.2.2.2).length : Int) > (0 : Int)))) (κ false)))) (cond (v.2.1.1 != (8 : Int)) (cond v.2.1.2.2.2.2.2.1 (κ true) (cond (v.2.1.1 != (9 : Int)) (κ (decide (((v.2.1.2.2.2.2.2.2).length : Int) > (0 : Int)))) (κ false))) (cond (v.2.1.1 != (9 : Int)) (κ (decide (((v.2.1.2.2.2.2.2.2).length : Int) > (0 : Int)))) (κ false)))))) (cond (v.2.1.1 != (7 : Int)) (cond (v.2.1.2.2.2.2.1 != (0 : Int)) (κ true) (cond (v.2.1.1 != (8 : Int)) (cond v.2.1.2.2.2.2.2.1 (κ true) (cond (v.2.1.1 != (9 : Int)) (κ (decide (((v.2.1.2.2.2.2.2.2).length : Int) > (0 : Int)))) (κ false))) (cond (v.2.1.1 != (9 : Int)) (κ (decide (((v.2.1.2.2.2.2.2.2).length : Int) > (0 : Int)))) (κ false)))) (cond (v.2.1.1 != (8 : Int)) (cond v.2.1.2.2.2.2.2.1 (κ true) (cond (v.2.1.1 != (9 : Int)) (κ (decide (((v.2.1.2.2.2.2.2.2).length : Int) > (0 : Int)))) (κ false))) (cond (v.2.1.1 != (9 : Int)) (κ (decide (((v.2.1.2.2.2.2.2.2).length : Int) > (0 : Int)))) (κ false)))))) (cond (v.2.1.1 != (6 : Int)) (cond (v.2.1.2.2.1 != (0 : Int)) (κ true) (cond (v.2.1.2.2.2.1 != (-1 : Int)) (κ true) (cond (v.2.1.1 != (7 : Int)) (cond (v.2.1.2.2.2.2.1 != (0 : Int)) (κ true) (cond (v.2.1.1 != (8 : Int)) (cond v.2.1.2.2.2.2.2.1 (κ true) (cond (v.2.1.1 != (9 : Int)) (κ (decide (((v.2.1.2.2.2.2.2.2).length : Int) > (0 : Int)))) (κ false))) (cond (v.2.1.1 != (9 : Int)) (κ (decide (((v.2.1.2.2.2.2.2.2).length : Int) > (0 : Int)))) (κ false)))) (cond (v.2.1.1 != (8 : Int)) (cond v.2.1.2.2.2.2.2.1 (κ true) (cond (v.2.1.1 != (9 : Int)) (κ (decide (((v.2.1.2.2.2.2.2.2).length : Int) > (0 : Int)))) (κ false))) (cond (v.2.1.1 != (9 : Int)) (κ (decide (((v.2.1.2.2.2.2.2.2).length : Int) > (0 : Int)))) (κ false)))))) (cond (v.2.1.1 != (7 : Int)) (cond (v.2.1.2.2.2.2.1 != (0 : Int)) (κ true) (cond (v.2.1.1 != (8 : Int)) (cond v.2.1.2.2.2.2.2.1 (κ true) (cond (v.2.1.1 != (9 : Int)) (κ (decide (((v.2.1.2.2.2.2.2.2).length : Int) > (0 : Int)))) (κ false))) (cond (v.2.1.1 != (9 : Int)) (κ (decide (((v.2.1.2.2.2.2.2.2).length : Int) > (0 : Int)))) (κ false)))) (cond (v.2.1.1 != (8 : Int)) (cond v.2.1.2.2.2.2.2.1 (κ true) (cond (v.2.1.1 != (9 : Int)) (κ (decide (((v.2.1.2.2.2.2.2.2).length : Int) > (0 : Int)))) (κ false))) (cond (v.2.1.1 != (9 : Int)) (κ (decide (((v.2.1.2.2.2.2.2.2).length : Int) > (0 : Int)))) (κ false)))))) (cond (v.2.1.1 != (6 : Int)) (cond (v.2.1.2.2.1 != (0 : Int)) (κ true) (cond (v.2.1.2.2.2.1 != (-1 : Int)) (κ true) (cond (v.2.1.1 != (7 : Int)) (cond (v.2.1.2.2.2.2.1 != (0 : Int)) (κ true) (cond (v.2.1.1 != (8 : Int)) (cond v.2.1.2.2.2.2.2.1 (κ true) (cond (v.2.1.1 != (9 : Int)) (κ (decide (((v.2.1.2.2.2.2.2.2).length : Int) > (0 : Int)))) (κ false))) (cond (v.2.1.1 != (9 : Int)) (κ (decide (((v.2.1.2.2.2.2.2.2).length : Int) > (0 : Int)))) (κ false)))) (cond (v.2.1.1 != (8 : Int)) (cond v.2.1.2.2.2.2.2.1 (κ true) (cond (v.2.1.1 != (9 : Int)) (κ (decide (((v.2.1.2.2.2.2.2.2).length : Int) > (0 : Int)))) (κ false))) (cond (v.2.1.1 != (9 : Int)) (κ (decide (((v.2.1.2.2.2.2.2.2).length : Int) > (0 : Int)))) (κ false)))))) (cond (v.2.1.1 != (7 : Int)) (cond (v.2.1.2.2.2.2.1 != (0 : Int)) (κ true) (cond (v.2.1.1 != (8 : Int)) (cond v.2.1.2.2.2.2.2.1 (κ true) (cond (v.2.1.1 != (9 : Int)) (κ (decide (((v.2.1.2.2.2.2.2.2).length : Int) > (0 : Int)))) (κ false))) (cond (v.2.1.1 != (9 : Int)) (κ (decide (((v.2.1.2.2.2.2.2.2).length : Int) > (0 : Int)))) (κ false)))) (cond (v.2.1.1 != (8 : Int)) (cond v.2.1.2.2.2.2.2.1 (κ true) (cond (v.2.1.1 != (9 : Int)) (κ (decide (((v.2.1.2.2.2.2.2.2).length : Int) > (0 : Int)))) (κ false))) (cond (v.2.1.1 != (9 : Int)) (κ (decide (((v.2.1.2.2.2.2.2.2).length : Int) > (0 : Int)))) (κ false)))))
def Aw (v : bT) : Bool := rE v id
def NC (v : bT) : aP (Ex × St) := .done (B9 v (Aw v))
theorem Sz : aK Tryz.prog (aw (pb 3 1) (ae Tryz.f285)) nJ bR NC := aA (lt := .none) (sx := JN) (gx := bR) LC.ok aj (ag.no _) fun v => Eq.trans (b := rE v (sm (B9 v))) (by kernel_rfl) (show rE v (sm (B9 v)) = some (B9 v (rE v id)) from (tC (tC (tC rfl (tC (tC rfl (tC rfl (tC (tC rfl (tC (tC rfl (tC rfl rfl)) (tC rfl rfl))) (tC (tC rfl (tC rfl rfl)) (tC rfl rfl))))) (tC (tC rfl (tC (tC rfl (tC rfl rfl)) (tC rfl rfl))) (tC (tC rfl (tC rfl rfl)) (tC rfl rfl))))) (tC (tC rfl (tC rfl (tC (tC rfl (tC (tC rfl (tC rfl rfl)) (tC rfl rfl))) (tC (tC rfl (tC rfl rfl)) (tC rfl rfl))))) (tC (tC rfl (tC (tC rfl (tC rfl rfl)) (tC rfl rfl))) (tC (tC rfl (tC rfl rfl)) (tC rfl rfl))))) (tC (tC rfl (tC rfl (tC (tC rfl (tC (tC rfl (tC rfl rfl)) (tC rfl rfl))) (tC (tC rfl (tC rfl rfl)) (tC rfl rfl))))) (tC (tC rfl (tC (tC rfl (tC rfl rfl)) (tC rfl rfl))) (tC (tC rfl (tC rfl rfl)) (tC rfl rfl))))))
@[reducible] def ui : List SP := .und :: .one (.ptr 1 0) :: .one (.dat .bool true) :: U32 (U16 (U8 (U2 (.und :: oI :: .one (.dat .bool true) :: U32 (U16 (U2 (.und :: [])))))))
@[reducible] def lQ : Type := Bool × Int × Bool × (Ty.T bo) × Unit
def Dq (v : lQ) (r : Bool) : Ex × St := (.normal, ax ui bR (v.1, v.2.1, r, v.2.2.2.1, ()))
def ov (v : lQ) {Z : Type} (κ : Bool -> Z) : Z := cond v.2.2.1 (κ v.2.2.1) (cond (v.2.1 == (2 : Int)) (κ (v.2.1 == (2 : Int))) (cond (v.2.1 == (4 : Int)) (κ (v.2.1 == (4 : Int))) (κ (v.2.1 == (5 : Int)))))
def vG (v : lQ) : Bool := ov v id
def M9 (v : lQ) : aP (Ex × St) := .done (Dq v (vG v))
theorem S2 : aK Tryz.prog (aw (pb 6 43) (ae Tryz.f285)) ui bR M9 := aA (lt := .none) (sx := ui) (gx := bR) LC.ok aj (ag.no _) fun v => Eq.trans (b := ov v (sm (Dq v))) (by kernel_rfl) (show ov v (sm (Dq v)) = some (Dq v (ov v id)) from (tC rfl (tC rfl (tC rfl rfl))))
@[reducible] def uF : List SP := U2 (.one (.dat .bool true) :: U64 (U32 (U16 ([]))))
def CB (v : bT) (r : Bool) : Ex × St := (.normal, ax uF au (r, ()))
def ra (v : bT) {Z : Type} (κ : Bool -> Z) : Z := cond (nu v.2.1.2.2.1) (cond (v.2.1.2.2.2.1 == (-1 : Int)) (κ true) (cond (v.2.1.2.2.1 == (0 : Int)) (κ (v164 v.2.1.2.2.2.1)) (κ false))) (cond (v.2.1.2.2.1 == (0 : Int)) (κ (v164 v.2.1.2.2.2.1)) (κ false))
def Bd (v : bT) : Bool := ra v id
def PL (v : bT) : aP (Ex × St) := .done (CB v (Bd v))
theorem Uz : aK Tryz.prog (aw (pb 11 507) (ae Tryz.f285)) nJ bR PL := aA (lt := .none) (sx := uF) (gx := au) LC.ok aj (ag.no _) fun v => Eq.trans (b := ra v (sm (CB v))) (by kernel_rfl) (show ra v (sm (CB v)) = some (CB v (ra v id)) from (tC (tC rfl (tC rfl rfl)) (tC rfl rfl)))
def F8 (v : bT) (r : Bool) : Ex × St := (.normal, ax uF au (r, ()))
def mS (v : bT) {Z : Type} (κ : Bool -> Option Z) : Option Z := cond (cu ((v.2.1.2.2.2.2.2.2).length : Int) 1 3) (cond (xN v.2.1.2.2.2.2.2.2) (κ (!(xE v.2.1.2.2.2.2.2.2))) (none)) (κ false)
def wv (v : bT) : Bool := (mS v some).getD false
def uW (v : bT) : Bool := (mS v some).isSome
def MR (v : bT) : aP (Ex × St) := .br (uW v) (.done (F8 v (wv v))) .no
theorem Tq : aK Tryz.prog (aw (pb 17 32763) (ae Tryz.f285)) nJ bR MR := aA (lt := .none) (sx := uF) (gx := au) LC.ok aj (ag.no _) fun v => Eq.trans (b := mS v (sm (F8 v))) (by kernel_rfl) (al (show mS v (sm (F8 v)) = (mS v some).bind _ from (bC (bC rfl rfl) rfl)))
def ZR := LC.l (g := 285) (t := (aD (pb 17 32763) (ae Tryz.f285) (aD (pb 11 507) (ae Tryz.f285) (aD (pb 6 43) (ae Tryz.f285) (aD (pb 3 1) (ae Tryz.f285) .none (.sum nJ bR NC)) (.sum ui bR M9)) (.sum nJ bR PL)) (.sum nJ bR MR))) (aZ Tryz.func285 (ag.bP (az (by kernel_rfl)) (ag.bP (az (by kernel_rfl)) (ag.bP (az (by kernel_rfl)) (ag.bP (az (by kernel_rfl)) (ag.no _) Sz) S2) Uz) Tq))
def t285 (a0 : Ty.T bo) {Z : Type} (κ : Bool -> Option Z) : Option Z := cond (Aw (false, a0, ())) (κ false) (cond (vG (false, a0.1, (a0.1 == (1 : Int)), a0, ())) (κ true) (cond (a0.1 == (3 : Int)) (κ (cu a0.2.1 1 2147483647)) (cond (a0.1 == (6 : Int)) (κ (Bd (false, a0, ()))) (cond (a0.1 == (7 : Int)) (κ (tS a0.2.2.2.2.1)) (cond (a0.1 == (8 : Int)) (κ (cu a0.2.1 0 99)) (cond (a0.1 == (9 : Int)) (cond (uW (false, a0, ())) (κ (wv (false, a0, ()))) (none)) (κ false)))))))
def rH (a0 : Ty.T bo) : Bool := (t285 a0 some).getD false
def d285 (a0 : Ty.T bo) : Bool := (t285 a0 some).isSome
def afG : Prim := ⟨[.agg [.dat bo true]], fun v => .br (d285 v.1) (.done (f285 (rH v.1))) .no⟩
theorem Y9 : PO 285 afG := pK ZR fun v => Eq.trans (b := (t285 v.1 (sm f285))) (by kernel_rfl) (al (show t285 v.1 (sm f285) = (t285 v.1 some).bind _ from by unfold t285; simp only [bb]))
def f286 (r : Bool) : AV × Sig := (.one (.bool r), [])
def acT := (E0.p Sc)
def t286 (a0 : Ty.T bo) (a1 : Int) {Z : Type} (κ : Bool -> Z) : Z := cond (!(Le a1)) (κ false) (cond (a0.1 == (1 : Int)) (cond (a0.1 == (1 : Int)) (κ true) (cond (a0.1 == (2 : Int)) (cond (a0.1 == (2 : Int)) (κ (a1 == (1 : Int))) (cond (a0.1 == (3 : Int)) (cond (a0.1 == (3 : Int)) (κ (a1 != (2 : Int))) (cond (a0.1 == (7 : Int)) (cond (a0.1 == (7 : Int)) (κ (a1 == (2 : Int))) (κ false)) (cond (a0.1 == (8 : Int)) (κ (a1 == (2 : Int))) (κ false)))) (cond (a0.1 == (4 : Int)) (cond (a0.1 == (4 : Int)) (κ (a1 != (2 : Int))) (cond (a0.1 == (7 : Int)) (cond (a0.1 == (7 : Int)) (κ (a1 == (2 : Int))) (κ false)) (cond (a0.1 == (8 : Int)) (κ (a1 == (2 : Int))) (κ false)))) (cond (a0.1 == (5 : Int)) (κ (a1 != (2 : Int))) (cond (a0.1 == (7 : Int)) (cond (a0.1 == (7 : Int)) (κ (a1 == (2 : Int))) (κ false)) (cond (a0.1 == (8 : Int)) (κ (a1 == (2 : Int))) (κ false))))))) (cond (a0.1 == (6 : Int)) (κ (a1 == (1 : Int))) (cond (a0.1 == (3 : Int)) (cond (a0.1 == (3 : Int)) (κ (a1 != (2 : Int))) (cond (a0.1 == (7 : Int)) (cond (a0.1 == (7 : Int)) (κ (a1 == (2 : Int))) (κ false)) (cond (a0.1 == (8 : Int)) (κ (a1 == (2 : Int))) (κ false)))) (cond (a0.1 == (4 : Int)) (cond (a0.1 == (4 : Int)) (κ (a1 != (2 : Int))) (cond (a0.1 == (7 : Int)) (cond (a0.1 == (7 : Int)) (κ (a1 == (2 : Int))) (κ false)) (cond (a0.1 == (8 : Int)) (κ (a1 == (2 : Int))) (κ false)))) (cond (a0.1 == (5 : Int)) (κ (a1 != (2 : Int))) (cond (a0.1 == (7 : Int)) (cond (a0.1 == (7 : Int)) (κ (a1 == (2 : Int))) (κ false)) (cond (a0.1 == (8 : Int)) (κ (a1 == (2 : Int))) (κ false))))))))) (cond (a0.1 == (9 : Int)) (κ true) (cond (a0.1 == (2 : Int)) (cond (a0.1 == (2 : Int)) (κ (a1 == (1 : Int))) (cond (a0.1 == (3 : Int)) (cond (a0.1 == (3 : Int)) (κ (a1 != (2 : Int))) (cond (a0.1 == (7 : Int)) (cond (a0.1 == (7 : Int)) (κ (a1 == (2 : Int))) (κ false)) (cond (a0.1 == (8 : Int)) (κ (a1 == (2 : Int))) (κ false)))) (cond (a0.1 == (4 : Int)) (cond (a0.1 == (4 : Int)) (κ (a1 != (2 : Int))) (cond (a0.1 == (7 : Int)) (cond (a0.1 == (7 : Int)) (κ (a1 == (2 : Int))) (κ false)) (cond (a0.1 == (8 : Int)) (κ (a1 == (2 : Int))) (κ false)))) (cond (a0.1 == (5 : Int)) (κ (a1 != (2 : Int))) (cond (a0.1 == (7 : Int)) (cond (a0.1 == (7 : Int)) (κ (a1 == (2 : Int))) (κ false)) (cond (a0.1 == (8 : Int)) (κ (a1 == (2 : Int))) (κ false))))))) (cond (a0.1 == (6 : Int)) (κ (a1 == (1 : Int))) (cond (a0.1 == (3 : Int)) (cond (a0.1 == (3 : Int)) (κ (a1 != (2 : Int))) (cond (a0.1 == (7 : Int)) (cond (a0.1 == (7 : Int)) (κ (a1 == (2 : Int))) (κ false)) (cond (a0.1 == (8 : Int)) (κ (a1 == (2 : Int))) (κ false)))) (cond (a0.1 == (4 : Int)) (cond (a0.1 == (4 : Int)) (κ (a1 != (2 : Int))) (cond (a0.1 == (7 : Int)) (cond (a0.1 == (7 : Int)) (κ (a1 == (2 : Int))) (κ false)) (cond (a0.1 == (8 : Int)) (κ (a1 == (2 : Int))) (κ false)))) (cond (a0.1 == (5 : Int)) (κ (a1 != (2 : Int))) (cond (a0.1 == (7 : Int)) (cond (a0.1 == (7 : Int)) (κ (a1 == (2 : Int))) (κ false)) (cond (a0.1 == (8 : Int)) (κ (a1 == (2 : Int))) (κ false))))))))))
def Bg (a0 : Ty.T bo) (a1 : Int) : Bool := t286 a0 a1 fun r => r
def abL : Prim := ⟨[.agg [.dat bo true], oI], fun v => .done (f286 (Bg v.1 v.2.1))⟩
theorem RT : PO 286 abL := pK acT fun v => Eq.trans (b := (t286 v.1 v.2.1 (sm f286))) (by kernel_rfl) (show t286 v.1 v.2.1 (sm f286) = some (f286 (t286 v.1 v.2.1 fun r => r)) from (tC rfl (tC (tC rfl (tC (tC rfl (tC (tC rfl (tC (tC rfl rfl) (tC rfl rfl))) (tC (tC rfl (tC (tC rfl rfl) (tC rfl rfl))) (tC rfl (tC (tC rfl rfl) (tC rfl rfl)))))) (tC rfl (tC (tC rfl (tC (tC rfl rfl) (tC rfl rfl))) (tC (tC rfl (tC (tC rfl rfl) (tC rfl rfl))) (tC rfl (tC (tC rfl rfl) (tC rfl rfl)))))))) (tC rfl (tC (tC rfl (tC (tC rfl (tC (tC rfl rfl) (tC rfl rfl))) (tC (tC rfl (tC (tC rfl rfl) (tC rfl rfl))) (tC rfl (tC (tC rfl rfl) (tC rfl rfl)))))) (tC rfl (tC (tC rfl (tC (tC rfl rfl) (tC rfl rfl))) (tC (tC rfl (tC (tC rfl rfl) (tC rfl rfl))) (tC rfl (tC (tC rfl rfl) (tC rfl rfl)))))))))))
def f227 (r : Bool) : AV × Sig := (.one (.bool r), [])
def aaZ := (((((((E0.p FR).p IZ).p iV).p RH).p R1).p Y9).p RT)
def t227 (a0 : Ty.T aq) {Z : Type} (κ : Bool -> Option Z) : Option Z := cond (a0.2.2.2.2.2.2.1.1 == (2 : Int)) (cond (nu a0.1) (cond (v164 a0.2.1) (cond (cu a0.2.2.1 0 99) (cond (cu a0.2.2.2.1 0 4) (cond (a0.2.2.2.1 != (0 : Int)) (cond (yl a0.2.2.2.2.1) (cond (uV a0.2.2.2.2.2.1) (cond (d285 a0.2.2.2.2.2.2.1) (cond (rH a0.2.2.2.2.2.2.1) (cond (Bg a0.2.2.2.2.2.2.1 a0.2.2.2.2.1.1) (cond (cu a0.2.2.2.2.2.2.2.1 (-1) 9999) (κ (cu a0.2.2.2.2.2.2.2.2 0 2147483647)) (κ false)) (κ false)) (κ false)) (none)) (κ false)) (κ false)) (cond (a0.2.2.1 != (0 : Int)) (cond (yl a0.2.2.2.2.1) (cond (uV a0.2.2.2.2.2.1) (cond (d285 a0.2.2.2.2.2.2.1) (cond (rH a0.2.2.2.2.2.2.1) (cond (Bg a0.2.2.2.2.2.2.1 a0.2.2.2.2.1.1) (cond (cu a0.2.2.2.2.2.2.2.1 (-1) 9999) (κ (cu a0.2.2.2.2.2.2.2.2 0 2147483647)) (κ false)) (κ false)) (κ false)) (none)) (κ false)) (κ false)) (κ false))) (κ false)) (κ false)) (κ false)) (κ false)) (cond (nu a0.1) (cond (v164 a0.2.1) (cond (cu a0.2.2.1 0 99) (cond (cu a0.2.2.2.1 0 4) (cond (a0.2.2.2.1 != (0 : Int)) (cond (yl a0.2.2.2.2.1) (cond (uV a0.2.2.2.2.2.1) (cond (d285 a0.2.2.2.2.2.2.1) (cond (rH a0.2.2.2.2.2.2.1) (cond (Bg a0.2.2.2.2.2.2.1 a0.2.2.2.2.1.1) (cond (cu a0.2.2.2.2.2.2.2.1 (-1) 9999) (κ (cu a0.2.2.2.2.2.2.2.2 (-1) 2147483647)) (κ false)) (κ false)) (κ false)) (none)) (κ false)) (κ false)) (cond (a0.2.2.1 != (0 : Int)) (cond (yl a0.2.2.2.2.1) (cond (uV a0.2.2.2.2.2.1) (cond (d285 a0.2.2.2.2.2.2.1) (cond (rH a0.2.2.2.2.2.2.1) (cond (Bg a0.2.2.2.2.2.2.1 a0.2.2.2.2.1.1) (cond (cu a0.2.2.2.2.2.2.2.1 (-1) 9999) (κ (cu a0.2.2.2.2.2.2.2.2 (-1) 2147483647)) (κ false)) (κ false)) (κ false)) (none)) (κ false)) (κ false)) (κ false))) (κ false)) (κ false)) (κ false)) (κ false))
def yA (a0 : Ty.T aq) : Bool := (t227 a0 some).getD false
def d227 (a0 : Ty.T aq) : Bool := (t227 a0 some).isSome
def af1 : Prim := ⟨[.agg [.dat aq true]], fun v => .br (d227 v.1) (.done (f227 (yA v.1))) .no⟩
theorem Mq : PO 227 af1 := pK aaZ fun v => Eq.trans (b := (t227 v.1 (sm f227))) (by kernel_rfl) (al (show t227 v.1 (sm f227) = (t227 v.1 some).bind _ from by unfold t227; simp only [bb]))
def f253 (r : Bool) : AV × Sig := (.one (.bool r), [])
def aet := E0
def ZO (a0 : Ty.T aq) (a1 : Int) : Option (AV × Sig) := cond (a0.2.2.2.2.2.2.2.2 != (0 : Int)) (cond (a0.2.2.2.2.2.2.2.1 == (-1 : Int)) (some (.one (.bool true), [])) (some (.one (.bool (decide (a0.2.2.2.2.2.2.2.1 ≥ a1))), []))) (some (.one (.bool false), []))
def Ln (a0 : Ty.T aq) (a1 : Int) : Bool := cond (a0.2.2.2.2.2.2.2.2 != (0 : Int)) (cond (a0.2.2.2.2.2.2.2.1 == (-1 : Int)) (true) (decide (a0.2.2.2.2.2.2.2.1 ≥ a1))) (false)
theorem aej (a0 : Ty.T aq) (a1 : Int) : ZO a0 a1 = some (f253 (Ln a0 a1)) := (tC (tC rfl rfl) rfl)
def abj : Prim := ⟨[.agg [.dat aq true], oI], fun v => .done (f253 (Ln v.1 v.2.1))⟩
theorem XG : PO 253 abj := pK aet fun v => Eq.trans (b := ZO v.1 v.2.1) (by kernel_rfl) (aej v.1 v.2.1)
def f254 (r : Bool) : AV × Sig := (.one (.bool r), [])
def abo := E0
def YB (a0 : Ty.T aq) (a1 : Ty.T y27) : Option (AV × Sig) := cond (a0.2.2.2.1 != (0 : Int)) (some (.one (.bool true), [])) (cond (a0.2.2.1 == a1.2.1) (some (.one (.bool true), [])) (some (.one (.bool (a0.2.2.1 == a1.2.2.1)), [])))
def Kv (a0 : Ty.T aq) (a1 : Ty.T y27) : Bool := cond (a0.2.2.2.1 != (0 : Int)) (true) (cond (a0.2.2.1 == a1.2.1) (true) ((a0.2.2.1 == a1.2.2.1)))
theorem aeV (a0 : Ty.T aq) (a1 : Ty.T y27) : YB a0 a1 = some (f254 (Kv a0 a1)) := (tC rfl (tC rfl rfl))
def aa3 : Prim := ⟨[.agg [.dat aq true], .agg [.dat y27 true]], fun v => .done (f254 (Kv v.1 v.2.1))⟩
theorem Xp : PO 254 aa3 := pK abo fun v => Eq.trans (b := YB v.1 v.2.1) (by kernel_rfl) (aeV v.1 v.2.1)
def f168 (r : Bool) : AV × Sig := (.one (.bool r), [])
def abX := (E0.p iV)
def WG (a0 : Ty.T y36) (a1 : Int) : Option (AV × Sig) := some (.one (.bool (cu a1 0 (IntKind.wrap .i64 (((a0.2.1).length : Int) - (1 : Int))))), [])
def nZ (a0 : Ty.T y36) (a1 : Int) : Bool := (cu a1 0 (IntKind.wrap .i64 (((a0.2.1).length : Int) - (1 : Int))))
theorem adZ (a0 : Ty.T y36) (a1 : Int) : WG a0 a1 = some (f168 (nZ a0 a1)) := rfl
def aaO : Prim := ⟨[.agg [.dat y36 true], oI], fun v => .done (f168 (nZ v.1 v.2.1))⟩
theorem MW : PO 168 aaO := pK abX fun v => Eq.trans (b := WG v.1 v.2.1) (by kernel_rfl) (adZ v.1 v.2.1)
def f302 (r : (List (Ty.T (.int .i64)))) : AV × Sig := (.one (.sl 4096), [(4096, .arr 3 (.int .i64) r false)])
def Y3 := E0
@[reducible] def BI : List SP := .und :: oI :: U2 (.one (.dat (.sl 3 (.int .i64)) false) :: .one (.own 8) :: U4 (.one (.dat (.sl 64 y63) true) :: oI :: oI :: U16 (U4 (U2 (.und :: [])))))
@[reducible] def BC : List (Nat × GP) := [(8, .arr 3 (.int .i64) false)]
@[reducible] def o6 : Type := Int × (List (Ty.T (.int .i64))) × (List (Ty.T y63)) × Int × Int × (List (Ty.T (.int .i64))) × Unit
def rL (v : o6) {Z : Type} (κ : Nat × o6 -> Option Z) : Option Z := cond (decide (v.2.2.2.2.1 < v.2.2.2.1)) (if 0 <= v.2.2.2.2.1 then (bc ((v.2.2.1)[(v.2.2.2.2.1).toNat]?) (fun x1 => cond (x1.2.2.2.1 == (2 : Int)) (cond (v.1 == (-1 : Int)) (if (v.2.2.2.2.2.1 ++ [x1.1] : List (Ty.T (.int .i64))).length * 8 <= 140737488351232 then (κ (0, (v.1, v.2.1, v.2.2.1, v.2.2.2.1, IntKind.wrap .i64 (v.2.2.2.2.1 + (1 : Int)), v.2.2.2.2.2.1 ++ [x1.1], ()))) else none) (cond (x1.2.2.1 == v.1) (if (v.2.2.2.2.2.1 ++ [x1.1] : List (Ty.T (.int .i64))).length * 8 <= 140737488351232 then (κ (0, (v.1, v.2.1, v.2.2.1, v.2.2.2.1, IntKind.wrap .i64 (v.2.2.2.2.1 + (1 : Int)), v.2.2.2.2.2.1 ++ [x1.1], ()))) else none) (κ (0, (v.1, v.2.1, v.2.2.1, v.2.2.2.1, IntKind.wrap .i64 (v.2.2.2.2.1 + (1 : Int)), v.2.2.2.2.2.1, ()))))) (κ (0, (v.1, v.2.1, v.2.2.1, v.2.2.2.1, IntKind.wrap .i64 (v.2.2.2.2.1 + (1 : Int)), v.2.2.2.2.2.1, ()))))) else none) (κ (1, (v.1, v.2.1, v.2.2.1, v.2.2.2.1, v.2.2.2.2.1, v.2.2.2.2.2.1, ())))
def qZ (v : o6) : Option (Nat × o6) := rL v some
def wb (v : o6) : Nat := v.1.toNat + v.2.1.length + v.2.2.1.length + v.2.2.2.1.toNat + v.2.2.2.2.1.toNat + v.2.2.2.2.2.1.length + 100
def Dj (h0 : Int) (h1 : List (Ty.T (.int .i64))) (h2 : List (Ty.T y63)) (h3 : Int) (h4 : Int) (h5 : List (Ty.T (.int .i64))) (c : Nat) : Bool := iK qZ wb (h0, h1, h2, h3, h4, h5, ()) c
def HP (h0 : Int) (h1 : List (Ty.T (.int .i64))) (h2 : List (Ty.T y63)) (h3 : Int) (h4 : Int) (h5 : List (Ty.T (.int .i64))) : o6 := iW qZ wb (h0, h1, h2, h3, h4, h5, ())
def MG (v : o6) : aP (Ex × St) := bz qZ (wb v) v (ax BI BC) [.exit 0] 0
theorem T0 : bw Tryz.prog (aO (pb 4 11) (ae Tryz.f302)) BI BC MG := aE (lt := .none) Y3.ok aj (ag.no _) fun n v K => Eq.trans (b := rL v (dt _ _ _ _ _ K)) (by kernel_rfl) (show rL v _ = (rL v some).bind _ from (bC (bI (bO fun x1 => (bC (bC (bI rfl) (bC (bI rfl) rfl)) rfl))) rfl))
def Z0 := Y3.l (g := 302) (t := (cD (pb 4 11) (ae Tryz.f302) .none (.sum BI BC MG))) (aZ Tryz.func302 (ag.put (az (by kernel_rfl)) (ag.no _) T0))
def Yt (a0 : Ty.T y36) (a1 : Int) : Option (AV × Sig) := cond (Dj a1 [] a0.1 ((a0.1).length : Int) 0 [] 0) (some (.one (.sl 4096), [(4096, .arr 3 (.int .i64) (HP a1 [] a0.1 ((a0.1).length : Int) 0 []).2.2.2.2.2.1 false)])) (none)
def Kr (a0 : Ty.T y36) (a1 : Int) : (List (Ty.T (.int .i64))) := cond (Dj a1 [] a0.1 ((a0.1).length : Int) 0 [] 0) ((HP a1 [] a0.1 ((a0.1).length : Int) 0 []).2.2.2.2.2.1) ([])
def d302 (a0 : Ty.T y36) (a1 : Int) : Bool := cond (Dj a1 [] a0.1 ((a0.1).length : Int) 0 [] 0) (true) (false)
theorem acM (a0 : Ty.T y36) (a1 : Int) : Yt a0 a1 = cond (d302 a0 a1) (some (f302 (Kr a0 a1))) none := (pC (pS _) (pN _))
def abH : Prim := ⟨[.agg [.dat y36 true], oI], fun v => .br (d302 v.1 v.2.1) (.done (f302 (Kr v.1 v.2.1))) .no⟩
theorem YH : PO 302 abH := pK Z0 fun v => Eq.trans (b := Yt v.1 v.2.1) (by kernel_rfl) (acM v.1 v.2.1)
def f303 (r : Int) : AV × Sig := (.one (.int .i64 r), [])
def Y0 := E0
@[reducible] def AH : List SP := .und :: oI :: U2 (oI :: oI :: U2 (.und :: .one (.dat (.sl 64 y63) true) :: oI :: oI :: U16 (U4 ([]))))
@[reducible] def oP : Type := Int × Int × Int × (List (Ty.T y63)) × Int × Int × Unit
def rf (v : oP) {Z : Type} (κ : Nat × oP -> Option Z) : Option Z := cond (decide (v.2.2.2.2.2.1 < v.2.2.2.2.1)) (if 0 <= v.2.2.2.2.2.1 then (bc ((v.2.2.2.1)[(v.2.2.2.2.2.1).toNat]?) (fun x1 => cond (x1.2.2.2.1 == (2 : Int)) (cond (x1.2.2.1 == v.1) (cond x1.2.2.2.2.2.2.2.2.2.2.2.2 (κ (0, (v.1, v.2.1, IntKind.wrap .i64 (v.2.2.1 + (1 : Int)), v.2.2.2.1, v.2.2.2.2.1, IntKind.wrap .i64 (v.2.2.2.2.2.1 + (1 : Int)), ()))) (κ (0, (v.1, v.2.1, v.2.2.1, v.2.2.2.1, v.2.2.2.2.1, IntKind.wrap .i64 (v.2.2.2.2.2.1 + (1 : Int)), ())))) (κ (0, (v.1, v.2.1, v.2.2.1, v.2.2.2.1, v.2.2.2.2.1, IntKind.wrap .i64 (v.2.2.2.2.2.1 + (1 : Int)), ())))) (κ (0, (v.1, v.2.1, v.2.2.1, v.2.2.2.1, v.2.2.2.2.1, IntKind.wrap .i64 (v.2.2.2.2.2.1 + (1 : Int)), ()))))) else none) (κ (1, (v.1, v.2.1, v.2.2.1, v.2.2.2.1, v.2.2.2.2.1, v.2.2.2.2.2.1, ())))
def qY (v : oP) : Option (Nat × oP) := rf v some
def vX (v : oP) : Nat := v.1.toNat + v.2.1.toNat + v.2.2.1.toNat + v.2.2.2.1.length + v.2.2.2.2.1.toNat + v.2.2.2.2.2.1.toNat + 100
def BN (h0 : Int) (h1 : Int) (h2 : Int) (h3 : List (Ty.T y63)) (h4 : Int) (h5 : Int) (c : Nat) : Bool := iK qY vX (h0, h1, h2, h3, h4, h5, ()) c
def Gn (h0 : Int) (h1 : Int) (h2 : Int) (h3 : List (Ty.T y63)) (h4 : Int) (h5 : Int) : oP := iW qY vX (h0, h1, h2, h3, h4, h5, ())
def L0 (v : oP) : aP (Ex × St) := bz qY (vX v) v (ax AH au) [.exit 0] 0
theorem Un : bw Tryz.prog (aO (pb 4 11) (ae Tryz.f303)) AH au L0 := aE (lt := .none) Y0.ok aj (ag.no _) fun n v K => Eq.trans (b := rf v (dt _ _ _ _ _ K)) (by kernel_rfl) (show rf v _ = (rf v some).bind _ from (bC (bI (bO fun x1 => (bC (bC (bC rfl rfl) rfl) rfl))) rfl))
def ZP := Y0.l (g := 303) (t := (cD (pb 4 11) (ae Tryz.f303) .none (.sum AH au L0))) (aZ Tryz.func303 (ag.put (az (by kernel_rfl)) (ag.no _) Un))
def Vq (a0 : Ty.T y36) (a1 : Int) : Option (AV × Sig) := cond (BN a1 0 0 a0.1 ((a0.1).length : Int) 0 0) (some (.one (.int .i64 (Gn a1 0 0 a0.1 ((a0.1).length : Int) 0).2.2.1), [])) (none)
def Lb (a0 : Ty.T y36) (a1 : Int) : Int := cond (BN a1 0 0 a0.1 ((a0.1).length : Int) 0 0) ((Gn a1 0 0 a0.1 ((a0.1).length : Int) 0).2.2.1) (0)
def d303 (a0 : Ty.T y36) (a1 : Int) : Bool := cond (BN a1 0 0 a0.1 ((a0.1).length : Int) 0 0) (true) (false)
theorem ab2 (a0 : Ty.T y36) (a1 : Int) : Vq a0 a1 = cond (d303 a0 a1) (some (f303 (Lb a0 a1))) none := (pC (pS _) (pN _))
def afN : Prim := ⟨[.agg [.dat y36 true], oI], fun v => .br (d303 v.1 v.2.1) (.done (f303 (Lb v.1 v.2.1))) .no⟩
theorem X1 : PO 303 afN := pK ZP fun v => Eq.trans (b := Vq v.1 v.2.1) (by kernel_rfl) (ab2 v.1 v.2.1)
def f255 (r : Bool) : AV × Sig := (.one (.bool r), [])
def aeL := ((((E0.p MW).p R1).p YH).p X1)
def ZD (a0 : Ty.T y36) (a1 : Int) (a2 : Ty.T aB) : Option (AV × Sig) := cond (!(uV a2)) (some (.one (.bool false), [])) (cond (!(nZ a0 a1)) (some (.one (.bool false), [])) (cond (a2.1 == (1 : Int)) (if 0 <= a1 then (bc ((a0.2.1)[(a1).toNat]?) (fun x1 => some (.one (.bool (decide (x1.1 <= a2.2))), []))) else none) (cond (a2.1 == (2 : Int)) (cond (d302 a0 a1) (some (.one (.bool (decide ((((Kr a0 a1)).length : Int) ≥ a2.2))), [])) (none)) (cond (a2.1 == (3 : Int)) (some (.one (.bool (a0.2.2.1 == a1)), [])) (cond (a2.1 == (4 : Int)) (cond (d303 a0 a1) (some (.one (.bool (decide ((Lb a0 a1) ≥ a2.2))), [])) (none)) (some (.one (.bool true), [])))))))
def Gr (a0 : Ty.T y36) (a1 : Int) (a2 : Ty.T aB) : Bool := cond (!(uV a2)) (false) (cond (!(nZ a0 a1)) (false) (cond (a2.1 == (1 : Int)) (yF ((a0.2.1)[(a1).toNat]?) false (fun x1 => decide (x1.1 <= a2.2))) (cond (a2.1 == (2 : Int)) (cond (d302 a0 a1) (decide ((((Kr a0 a1)).length : Int) ≥ a2.2)) (false)) (cond (a2.1 == (3 : Int)) ((a0.2.2.1 == a1)) (cond (a2.1 == (4 : Int)) (cond (d303 a0 a1) (decide ((Lb a0 a1) ≥ a2.2)) (false)) (true))))))
def d255 (a0 : Ty.T y36) (a1 : Int) (a2 : Ty.T aB) : Bool := cond (!(uV a2)) (true) (cond (!(nZ a0 a1)) (true) (cond (a2.1 == (1 : Int)) (decide (0 <= a1) && (ua ((a0.2.1)[(a1).toNat]?) (fun x1 => true))) (cond (a2.1 == (2 : Int)) (cond (d302 a0 a1) (true) (false)) (cond (a2.1 == (3 : Int)) (true) (cond (a2.1 == (4 : Int)) (cond (d303 a0 a1) (true) (false)) (true))))))
theorem abc (a0 : Ty.T y36) (a1 : Int) (a2 : Ty.T aB) : ZD a0 a1 a2 = cond (d255 a0 a1 a2) (some (f255 (Gr a0 a1 a2))) none := (pC (pS _) (pC (pS _) (pC (pI (pO fun x1 => (pS _))) (pC (pC (pS _) (pN _)) (pC (pS _) (pC (pC (pS _) (pN _)) (pS _)))))))
def aeb : Prim := ⟨[.agg [.dat y36 true], oI, .agg [.dat aB true]], fun v => .br (d255 v.1 v.2.1 v.2.2.1) (.done (f255 (Gr v.1 v.2.1 v.2.2.1))) .no⟩
theorem V4 : PO 255 aeb := pK aeL fun v => Eq.trans (b := ZD v.1 v.2.1 v.2.2.1) (by kernel_rfl) (abc v.1 v.2.1 v.2.2.1)
def Nb (r : Bool) : AV × Sig := (.one (.bool r), [])
def TK := E0
def Ms (a0 : Ty.T y63) (a1 : Int) : Option (AV × Sig) := some (.one (.bool (a0.1 == a1)), [])
def B5 (a0 : Ty.T y63) (a1 : Int) : Bool := (a0.1 == a1)
theorem Tl (a0 : Ty.T y63) (a1 : Int) : Ms a0 a1 = some (Nb (B5 a0 a1)) := rfl
def Ua : Prim := ⟨[.agg [.dat y63 true], .one (.ept (.int .i64))], fun v => .done (Nb (B5 v.1 v.2.1))⟩
theorem Qm : PO 341 Ua := pK TK fun v => Eq.trans (b := Ms v.1 v.2.1) (by kernel_rfl) (Tl v.1 v.2.1)
def NI (r : Int) : AV × Sig := (.one (.int .i64 r), [])
def MK := (E0.p Qm)
@[reducible] def sj : List SP := .one (.dat (.sl 64 y63) true) :: .one (.fnc 341 [(.int .i64)]) :: U2 (oI :: U2 (oI :: oI :: U8 (U2 ([]))))
@[reducible] def ir : Type := (List (Ty.T y63)) × Int × Int × Int × Int × Unit
def jV (v : ir) {Z : Type} (κ : Nat × ir -> Option Z) : Option Z := cond (decide (v.2.2.2.2.1 < v.2.2.2.1)) (if 0 <= v.2.2.2.2.1 then (bc ((v.1)[(v.2.2.2.2.1).toNat]?) (fun x1 => cond (B5 x1 v.2.1) (κ (1, (v.1, v.2.1, v.2.2.2.2.1, v.2.2.2.1, v.2.2.2.2.1, ()))) (κ (0, (v.1, v.2.1, v.2.2.1, v.2.2.2.1, IntKind.wrap .i64 (v.2.2.2.2.1 + (1 : Int)), ()))))) else none) (κ (2, (v.1, v.2.1, v.2.2.1, v.2.2.2.1, v.2.2.2.2.1, ())))
def ko (v : ir) : Option (Nat × ir) := jV v some
def np (v : ir) : Nat := v.1.length + v.2.1.toNat + v.2.2.1.toNat + v.2.2.2.1.toNat + v.2.2.2.2.1.toNat + 100
def eY (h0 : List (Ty.T y63)) (h1 : Int) (h2 : Int) (h3 : Int) (h4 : Int) (c : Nat) : Bool := iK ko np (h0, h1, h2, h3, h4, ()) c
def vc (h0 : List (Ty.T y63)) (h1 : Int) (h2 : Int) (h3 : Int) (h4 : Int) : ir := iW ko np (h0, h1, h2, h3, h4, ())
def Fj (v : ir) : aP (Ex × St) := bz ko (np v) v (ax sj au) [.ret, .exit 0] 0
theorem Nr : bw Tryz.prog (aO (pb 3 5) (ae Tryz.f340)) sj au Fj := aE (lt := .none) MK.ok aj (ag.no _) fun n v K => Eq.trans (b := jV v (dt _ _ _ _ _ K)) (by kernel_rfl) (show jV v _ = (jV v some).bind _ from (bC (bI (bO fun x1 => (bC rfl rfl))) rfl))
def Ri := MK.l (g := 340) (t := (cD (pb 3 5) (ae Tryz.f340) .none (.sum sj au Fj))) (aZ Tryz.func340 (ag.put (az (by kernel_rfl)) (ag.no _) Nr))
def Mi (a0 : List (Ty.T y63)) (a1_0 : Int) : Option (AV × Sig) := cond (eY a0 a1_0 0 ((a0).length : Int) 0 0) (some (.one (.int .i64 (vc a0 a1_0 0 ((a0).length : Int) 0).2.2.1), [])) (cond (eY a0 a1_0 0 ((a0).length : Int) 0 1) (some (.one (.int .i64 (-1)), [])) (none))
def s9 (a0 : List (Ty.T y63)) (a1_0 : Int) : Int := cond (eY a0 a1_0 0 ((a0).length : Int) 0 0) ((vc a0 a1_0 0 ((a0).length : Int) 0).2.2.1) (cond (eY a0 a1_0 0 ((a0).length : Int) 0 1) ((-1)) (0))
def oN (a0 : List (Ty.T y63)) (a1_0 : Int) : Bool := cond (eY a0 a1_0 0 ((a0).length : Int) 0 0) (true) (cond (eY a0 a1_0 0 ((a0).length : Int) 0 1) (true) (false))
theorem Vi (a0 : List (Ty.T y63)) (a1_0 : Int) : Mi a0 a1_0 = cond (oN a0 a1_0) (some (NI (s9 a0 a1_0))) none := (pC (pS _) (pC (pS _) (pN _)))
def SU : Prim := ⟨[.one (.dat (.sl 64 y63) true), .one (.fnc 341 [(.int .i64)])], fun v => .br (oN v.1 v.2.1) (.done (NI (s9 v.1 v.2.1))) .no⟩
theorem Qz : PO 340 SU := pK Ri fun v => Eq.trans (b := Mi v.1 v.2.1) (by kernel_rfl) (Vi v.1 v.2.1)
def f326 (r : Int) : AV × Sig := (.one (.int .i64 r), [])
def ae7 := (E0.p Qz)
def YF (a0 : Ty.T y36) (a1 : Int) : Option (AV × Sig) := cond (oN a0.1 a1) (some (.one (.int .i64 (s9 a0.1 a1)), [])) (none)
def oy (a0 : Ty.T y36) (a1 : Int) : Int := cond (oN a0.1 a1) ((s9 a0.1 a1)) (0)
def d326 (a0 : Ty.T y36) (a1 : Int) : Bool := cond (oN a0.1 a1) (true) (false)
theorem aa4 (a0 : Ty.T y36) (a1 : Int) : YF a0 a1 = cond (d326 a0 a1) (some (f326 (oy a0 a1))) none := (pC (pS _) (pN _))
def afw : Prim := ⟨[.agg [.dat y36 true], oI], fun v => .br (d326 v.1 v.2.1) (.done (f326 (oy v.1 v.2.1))) .no⟩
theorem RJ : PO 326 afw := pK ae7 fun v => Eq.trans (b := YF v.1 v.2.1) (by kernel_rfl) (aa4 v.1 v.2.1)
def f292 (r : Int) : AV × Sig := (.one (.int .i64 r), [])
def aai := ((E0.p MW).p RJ)
def Yn (a0 : Ty.T y36) (a1 : Ty.T y27) : Option (AV × Sig) := cond (a1.2.2.1 == (0 : Int)) (cond (nZ a0 a1.2.2.2.1) (some (.one (.int .i64 a1.2.2.2.1), [])) (some (.one (.int .i64 (-1)), []))) (cond (d326 a0 a1.2.2.1) (cond (decide ((oy a0 a1.2.2.1) < (0 : Int))) (some (.one (.int .i64 (-1)), [])) (if 0 <= (oy a0 a1.2.2.1) then (bc ((a0.1)[(oy a0 a1.2.2.1).toNat]?) (fun x1 => some (.one (.int .i64 x1.2.2.1), []))) else none)) (none))
def sH (a0 : Ty.T y36) (a1 : Ty.T y27) : Int := cond (a1.2.2.1 == (0 : Int)) (cond (nZ a0 a1.2.2.2.1) (a1.2.2.2.1) ((-1))) (cond (d326 a0 a1.2.2.1) (cond (decide ((oy a0 a1.2.2.1) < (0 : Int))) ((-1)) (yF ((a0.1)[(oy a0 a1.2.2.1).toNat]?) 0 (fun x1 => x1.2.2.1))) (0))
def d292 (a0 : Ty.T y36) (a1 : Ty.T y27) : Bool := cond (a1.2.2.1 == (0 : Int)) (cond (nZ a0 a1.2.2.2.1) (true) (true)) (cond (d326 a0 a1.2.2.1) (cond (decide ((oy a0 a1.2.2.1) < (0 : Int))) (true) (decide (0 <= (oy a0 a1.2.2.1)) && (ua ((a0.1)[(oy a0 a1.2.2.1).toNat]?) (fun x1 => true)))) (false))
theorem afU (a0 : Ty.T y36) (a1 : Ty.T y27) : Yn a0 a1 = cond (d292 a0 a1) (some (f292 (sH a0 a1))) none := (pC (pC (pS _) (pS _)) (pC (pC (pS _) (pI (pO fun x1 => (pS _)))) (pN _)))
def afk : Prim := ⟨[.agg [.dat y36 true], .agg [.dat y27 true]], fun v => .br (d292 v.1 v.2.1) (.done (f292 (sH v.1 v.2.1))) .no⟩
theorem Sb : PO 292 afk := pK aai fun v => Eq.trans (b := Yn v.1 v.2.1) (by kernel_rfl) (afU v.1 v.2.1)
def f304 (r : Bool) : AV × Sig := (.one (.bool r), [])
def abg := (E0.p Sb)
def t304 (a0 : Ty.T y36) (a1 : Int) (a2 : Ty.T bS) (a3 : Ty.T y27) {Z : Type} (κ : Bool -> Option Z) : Option Z := cond (d292 a0 a3) (cond ((sH a0 a3) == (-1 : Int)) (κ false) (cond (a2.2.1 == (1 : Int)) (cond ((sH a0 a3) != a1) (κ false) (cond (a2.2.1 == (2 : Int)) (cond ((sH a0 a3) == a1) (κ false) (cond (a2.2.2.2.2.1 == (0 : Int)) (κ true) (κ (a2.2.2.2.2.1 == a3.2.2.1)))) (cond (a2.2.2.2.2.1 == (0 : Int)) (κ true) (κ (a2.2.2.2.2.1 == a3.2.2.1))))) (cond (a2.2.1 == (2 : Int)) (cond ((sH a0 a3) == a1) (κ false) (cond (a2.2.2.2.2.1 == (0 : Int)) (κ true) (κ (a2.2.2.2.2.1 == a3.2.2.1)))) (cond (a2.2.2.2.2.1 == (0 : Int)) (κ true) (κ (a2.2.2.2.2.1 == a3.2.2.1)))))) (none)
def KL (a0 : Ty.T y36) (a1 : Int) (a2 : Ty.T bS) (a3 : Ty.T y27) : Bool := (t304 a0 a1 a2 a3 some).getD false
def d304 (a0 : Ty.T y36) (a1 : Int) (a2 : Ty.T bS) (a3 : Ty.T y27) : Bool := (t304 a0 a1 a2 a3 some).isSome
def aew : Prim := ⟨[.agg [.dat y36 true], oI, .agg [.dat bS true], .agg [.dat y27 true]], fun v => .br (d304 v.1 v.2.1 v.2.2.1 v.2.2.2.1) (.done (f304 (KL v.1 v.2.1 v.2.2.1 v.2.2.2.1))) .no⟩
theorem WX : PO 304 aew := pK abg fun v => Eq.trans (b := (t304 v.1 v.2.1 v.2.2.1 v.2.2.2.1 (sm f304))) (by kernel_rfl) (al (show t304 v.1 v.2.1 v.2.2.1 v.2.2.2.1 (sm f304) = (t304 v.1 v.2.1 v.2.2.1 v.2.2.2.1 some).bind _ from by unfold t304; simp only [bb]))
def f329 (r : (Ty.T y63)) : AV × Sig := (.agg (y63.cells false r), [])
def aaF := (E0.p RJ)
def Gd (a0 : Ty.T y36) (a1 : Ty.T y27) {Z : Type} (κ : (Ty.T y63) -> Option Z) : Option Z := cond (d326 a0 a1.2.1) (cond (a1.1 != (1 : Int)) (κ (0, 0, 0, 0, 0, 0, 0, 0, 0, 0, 0, false, false)) (cond (decide ((oy a0 a1.2.1) < (0 : Int))) (κ (0, 0, 0, 0, 0, 0, 0, 0, 0, 0, 0, false, false)) (if 0 <= (oy a0 a1.2.1) then (bc ((a0.1)[(oy a0 a1.2.1).toNat]?) (fun x1 => κ x1)) else none))) (none)
def Gj (a0 : Ty.T y36) (a1 : Ty.T y27) : (Ty.T y63) := (Gd a0 a1 some).getD (Ty.zero y63)
def d329 (a0 : Ty.T y36) (a1 : Ty.T y27) : Bool := (Gd a0 a1 some).isSome
def adF : Prim := ⟨[.agg [.dat y36 true], .agg [.dat y27 true]], fun v => .br (d329 v.1 v.2.1) (.done (f329 (Gj v.1 v.2.1))) .no⟩
theorem YW : PO 329 adF := pK aaF fun v => Eq.trans (b := (Gd v.1 v.2.1 (sm f329))) (by kernel_rfl) (al (show Gd v.1 v.2.1 (sm f329) = (Gd v.1 v.2.1 some).bind _ from (bC (bC rfl (bC rfl (bI (bO fun x1 => rfl)))) rfl)))
def f305 (r : Bool) : AV × Sig := (.one (.bool r), [])
def adC := (E0.p YW)
def ZM (a0 : Ty.T y36) (a1 : Ty.T bS) (a2 : Ty.T y27) : Option (AV × Sig) := cond (a1.2.2.1 == (0 : Int)) (cond (d329 a0 a2) (some (.one (.bool ((IntKind.wrap .i64 ((BitVec.ofInt (IntKind.bits .i64) (Gj a0 a2).2.2.2.2.2.2.2.1 &&& BitVec.ofInt (IntKind.bits .i64) a1.2.2.2.1).toNat : Int)) == a1.2.2.2.1)), [])) (none)) (cond (a1.2.2.1 == a2.2.1) (cond (d329 a0 a2) (some (.one (.bool ((IntKind.wrap .i64 ((BitVec.ofInt (IntKind.bits .i64) (Gj a0 a2).2.2.2.2.2.2.2.1 &&& BitVec.ofInt (IntKind.bits .i64) a1.2.2.2.1).toNat : Int)) == a1.2.2.2.1)), [])) (none)) (some (.one (.bool false), [])))
def Gg (a0 : Ty.T y36) (a1 : Ty.T bS) (a2 : Ty.T y27) : Bool := cond (a1.2.2.1 == (0 : Int)) (cond (d329 a0 a2) (((IntKind.wrap .i64 ((BitVec.ofInt (IntKind.bits .i64) (Gj a0 a2).2.2.2.2.2.2.2.1 &&& BitVec.ofInt (IntKind.bits .i64) a1.2.2.2.1).toNat : Int)) == a1.2.2.2.1)) (false)) (cond (a1.2.2.1 == a2.2.1) (cond (d329 a0 a2) (((IntKind.wrap .i64 ((BitVec.ofInt (IntKind.bits .i64) (Gj a0 a2).2.2.2.2.2.2.2.1 &&& BitVec.ofInt (IntKind.bits .i64) a1.2.2.2.1).toNat : Int)) == a1.2.2.2.1)) (false)) (false))
def d305 (a0 : Ty.T y36) (a1 : Ty.T bS) (a2 : Ty.T y27) : Bool := cond (a1.2.2.1 == (0 : Int)) (cond (d329 a0 a2) (true) (false)) (cond (a1.2.2.1 == a2.2.1) (cond (d329 a0 a2) (true) (false)) (true))
theorem aaP (a0 : Ty.T y36) (a1 : Ty.T bS) (a2 : Ty.T y27) : ZM a0 a1 a2 = cond (d305 a0 a1 a2) (some (f305 (Gg a0 a1 a2))) none := (pC (pC (pS _) (pN _)) (pC (pC (pS _) (pN _)) (pS _)))
def aby : Prim := ⟨[.agg [.dat y36 true], .agg [.dat bS true], .agg [.dat y27 true]], fun v => .br (d305 v.1 v.2.1 v.2.2.1) (.done (f305 (Gg v.1 v.2.1 v.2.2.1))) .no⟩
theorem XA : PO 305 aby := pK adC fun v => Eq.trans (b := ZM v.1 v.2.1 v.2.2.1) (by kernel_rfl) (aaP v.1 v.2.1 v.2.2.1)
def f256 (r : Bool) : AV × Sig := (.one (.bool r), [])
def adb := ((((E0.p RH).p WX).p XA).p LI)
def ZF (a0 : Ty.T y36) (a1 : Int) (a2 : Ty.T bS) (a3 : Ty.T y27) : Option (AV × Sig) := cond (yl a2) (cond (v53 a3) (cond (a2.1 == a3.1) (cond (d304 a0 a1 a2 a3) (cond (KL a0 a1 a2 a3) (cond (d305 a0 a2 a3) (cond (Gg a0 a2 a3) (cond (decide (a3.2.2.2.2.1 ≥ a2.2.2.2.2.2.1)) (cond (a2.2.2.2.2.2.2 == (0 : Int)) (some (.one (.bool true), [])) (some (.one (.bool (a2.2.2.2.2.2.2 == a3.2.2.2.2.2.1)), []))) (some (.one (.bool false), []))) (some (.one (.bool false), []))) (none)) (some (.one (.bool false), []))) (none)) (some (.one (.bool false), []))) (some (.one (.bool false), []))) (some (.one (.bool false), []))
def K5 (a0 : Ty.T y36) (a1 : Int) (a2 : Ty.T bS) (a3 : Ty.T y27) : Bool := cond (yl a2) (cond (v53 a3) (cond (a2.1 == a3.1) (cond (d304 a0 a1 a2 a3) (cond (KL a0 a1 a2 a3) (cond (d305 a0 a2 a3) (cond (Gg a0 a2 a3) (cond (decide (a3.2.2.2.2.1 ≥ a2.2.2.2.2.2.1)) (cond (a2.2.2.2.2.2.2 == (0 : Int)) (true) ((a2.2.2.2.2.2.2 == a3.2.2.2.2.2.1))) (false)) (false)) (false)) (false)) (false)) (false)) (false)) (false)
def d256 (a0 : Ty.T y36) (a1 : Int) (a2 : Ty.T bS) (a3 : Ty.T y27) : Bool := cond (yl a2) (cond (v53 a3) (cond (a2.1 == a3.1) (cond (d304 a0 a1 a2 a3) (cond (KL a0 a1 a2 a3) (cond (d305 a0 a2 a3) (cond (Gg a0 a2 a3) (cond (decide (a3.2.2.2.2.1 ≥ a2.2.2.2.2.2.1)) (cond (a2.2.2.2.2.2.2 == (0 : Int)) (true) (true)) (true)) (true)) (false)) (true)) (false)) (true)) (true)) (true)
theorem afJ (a0 : Ty.T y36) (a1 : Int) (a2 : Ty.T bS) (a3 : Ty.T y27) : ZF a0 a1 a2 a3 = cond (d256 a0 a1 a2 a3) (some (f256 (K5 a0 a1 a2 a3))) none := (pC (pC (pC (pC (pC (pC (pC (pC (pC (pS _) (pS _)) (pS _)) (pS _)) (pN _)) (pS _)) (pN _)) (pS _)) (pS _)) (pS _))
def afP : Prim := ⟨[.agg [.dat y36 true], oI, .agg [.dat bS true], .agg [.dat y27 true]], fun v => .br (d256 v.1 v.2.1 v.2.2.1 v.2.2.2.1) (.done (f256 (K5 v.1 v.2.1 v.2.2.1 v.2.2.2.1))) .no⟩
theorem Yi : PO 256 afP := pK adb fun v => Eq.trans (b := ZF v.1 v.2.1 v.2.2.1 v.2.2.2.1) (by kernel_rfl) (afJ v.1 v.2.1 v.2.2.1 v.2.2.2.1)
def f182 (r : Bool) : AV × Sig := (.one (.bool r), [])
def aeq := (((((E0.p Mq).p XG).p Xp).p V4).p Yi)
def ZK (a0 : Ty.T y36) (a1 : Ty.T aq) (a2 : Ty.T y27) : Option (AV × Sig) := cond (d227 a1) (cond (yA a1) (cond (Ln a1 a0.2.2.2) (cond (Kv a1 a2) (cond (d255 a0 a1.2.1 a1.2.2.2.2.2.1) (cond (Gr a0 a1.2.1 a1.2.2.2.2.2.1) (cond (d256 a0 a1.2.1 a1.2.2.2.2.1 a2) (some (.one (.bool (K5 a0 a1.2.1 a1.2.2.2.2.1 a2)), [])) (none)) (some (.one (.bool false), []))) (none)) (some (.one (.bool false), []))) (some (.one (.bool false), []))) (some (.one (.bool false), []))) (none)
def Pj (a0 : Ty.T y36) (a1 : Ty.T aq) (a2 : Ty.T y27) : Bool := cond (d227 a1) (cond (yA a1) (cond (Ln a1 a0.2.2.2) (cond (Kv a1 a2) (cond (d255 a0 a1.2.1 a1.2.2.2.2.2.1) (cond (Gr a0 a1.2.1 a1.2.2.2.2.2.1) (cond (d256 a0 a1.2.1 a1.2.2.2.2.1 a2) ((K5 a0 a1.2.1 a1.2.2.2.2.1 a2)) (false)) (false)) (false)) (false)) (false)) (false)) (false)
def d182 (a0 : Ty.T y36) (a1 : Ty.T aq) (a2 : Ty.T y27) : Bool := cond (d227 a1) (cond (yA a1) (cond (Ln a1 a0.2.2.2) (cond (Kv a1 a2) (cond (d255 a0 a1.2.1 a1.2.2.2.2.2.1) (cond (Gr a0 a1.2.1 a1.2.2.2.2.2.1) (cond (d256 a0 a1.2.1 a1.2.2.2.2.1 a2) (true) (false)) (true)) (false)) (true)) (true)) (true)) (false)
theorem aeH (a0 : Ty.T y36) (a1 : Ty.T aq) (a2 : Ty.T y27) : ZK a0 a1 a2 = cond (d182 a0 a1 a2) (some (f182 (Pj a0 a1 a2))) none := (pC (pC (pC (pC (pC (pC (pC (pS _) (pN _)) (pS _)) (pN _)) (pS _)) (pS _)) (pS _)) (pN _))
def adt : Prim := ⟨[.agg [.dat y36 true], .agg [.dat aq true], .agg [.dat y27 true]], fun v => .br (d182 v.1 v.2.1 v.2.2.1) (.done (f182 (Pj v.1 v.2.1 v.2.2.1))) .no⟩
theorem VJ : PO 182 adt := pK aeq fun v => Eq.trans (b := ZK v.1 v.2.1 v.2.2.1) (by kernel_rfl) (aeH v.1 v.2.1 v.2.2.1)
def f177 (r : List (Ty.T y27)) : AV × Sig := (.one (.sl 4096), [(4096, .arr 41 y27 r false)])
def YM (a0 : List (Ty.T y27)) : List (Ty.T y27) := a0
def d177 (a0 : List (Ty.T y27)) : Bool := decide (List.length a0 * 56 <= 140737488351232)
def abx : Prim := ⟨[.one (.dat (.sl 41 y27) true)], fun v => .br (d177 v.1) (.done (f177 (YM v.1))) .no⟩
theorem YD : PO 177 abx := Rl (t := 55) (tb := 4) (e := 41) hEt Tryz.func177 (by kernel_rfl) (by kernel_rfl) (by kernel_rfl) (by kernel_rfl) rfl rfl (by decide) (by kernel_rfl)
def f226 (r : (Ty.T q0) × (Ty.T aB) × (List (Ty.T y27))) : AV × Sig := (.agg ((q0.cells false r.1) ++ [.sl 81920] ++ (aB.cells false r.2.1)), [(81920, .arr 41 y27 r.2.2 false)])
def adx := (E0.p YD)
def t226 (a0 : Ty.T aq) {Z : Type} (κ : (Ty.T q0) × (Ty.T aB) × (List (Ty.T y27)) -> Option Z) : Option Z := cond (d177 a0.2.2.2.2.2.2.1.2.2.2.2.2.2) (κ ((a0.1, a0.2.1, a0.2.2.1, a0.2.2.2.1, a0.2.2.2.2.1, a0.2.2.2.2.2.1, a0.2.2.2.2.2.2.1.1, a0.2.2.2.2.2.2.1.2.1, a0.2.2.2.2.2.2.1.2.2.1, a0.2.2.2.2.2.2.1.2.2.2.1, a0.2.2.2.2.2.2.1.2.2.2.2.1, a0.2.2.2.2.2.2.1.2.2.2.2.2.1), a0.2.2.2.2.2.2.2, (YM a0.2.2.2.2.2.2.1.2.2.2.2.2.2))) (none)
def cL (a0 : Ty.T aq) : (Ty.T q0) × (Ty.T aB) × (List (Ty.T y27)) := (t226 a0 some).getD ((Ty.zero q0), (Ty.zero aB), [])
def d226 (a0 : Ty.T aq) : Bool := (t226 a0 some).isSome
def ae2 : Prim := ⟨[.agg [.dat aq true]], fun v => .br (d226 v.1) (.done (f226 (cL v.1))) .no⟩
theorem M6 : PO 226 ae2 := pK adx fun v => Eq.trans (b := (t226 v.1 (sm f226))) (by kernel_rfl) (al (show t226 v.1 (sm f226) = (t226 v.1 some).bind _ from (bC rfl rfl)))
def f192 (r : Int) : AV × Sig := (.one (.int .i64 r), [])
def abO := E0
def Yh (a0 : Int) (a1 : Int) : Option (AV × Sig) := some (.one (.int .i64 (if (if a1 < a0 then a1 else a0) > (0 : Int) then if a1 < a0 then a1 else a0 else 0)), [])
def jU (a0 : Int) (a1 : Int) : Int := if (if a1 < a0 then a1 else a0) > (0 : Int) then if a1 < a0 then a1 else a0 else 0
theorem adj (a0 : Int) (a1 : Int) : Yh a0 a1 = some (f192 (jU a0 a1)) := rfl
def adO : Prim := ⟨[oI, oI], fun v => .done (f192 (jU v.1 v.2.1))⟩
theorem DR : PO 192 adO := pK abO fun v => Eq.trans (b := Yh v.1 v.2.1) (by kernel_rfl) (adj v.1 v.2.1)
def f323 (r : (Ty.T y27)) : AV × Sig := (.agg (y27.cells false r), [])
def adP := (E0.p DR)
def Zm (a0 : Ty.T y27) (a1 : Int) : Option (AV × Sig) := some (.agg [.int .i64 a0.1, .int .i64 a0.2.1, .int .i64 a0.2.2.1, .int .i64 a0.2.2.2.1, .int .i64 (jU a1 2147483647), .int .i64 a0.2.2.2.2.2.1, .bool a0.2.2.2.2.2.2], [])
def Fu (a0 : Ty.T y27) (a1 : Int) : (Ty.T y27) := (a0.1, a0.2.1, a0.2.2.1, a0.2.2.2.1, (jU a1 2147483647), a0.2.2.2.2.2)
theorem acZ (a0 : Ty.T y27) (a1 : Int) : Zm a0 a1 = some (f323 (Fu a0 a1)) := rfl
def af3 : Prim := ⟨[.agg [.dat y27 true], oI], fun v => .done (f323 (Fu v.1 v.2.1))⟩
theorem Xq : PO 323 af3 := pK adP fun v => Eq.trans (b := Zm v.1 v.2.1) (by kernel_rfl) (acZ v.1 v.2.1)
def f220 (r : Int) : AV × Sig := (.one (.int .i64 r), [])
def aav := (E0.p zJ)
def ZY (a0 : Int) (a1 : Int) : Option (AV × Sig) := some (.one (.int .i64 (dZ (IntKind.wrap .i64 ((dZ a0) + (dZ a1))))), [])
def yI (a0 : Int) (a1 : Int) : Int := (dZ (IntKind.wrap .i64 ((dZ a0) + (dZ a1))))
theorem afu (a0 : Int) (a1 : Int) : ZY a0 a1 = some (f220 (yI a0 a1)) := rfl
def ac7 : Prim := ⟨[oI, oI], fun v => .done (f220 (yI v.1 v.2.1))⟩
theorem Nq : PO 220 ac7 := pK aav fun v => Eq.trans (b := ZY v.1 v.2.1) (by kernel_rfl) (afu v.1 v.2.1)
def f338 (r : Int) : AV × Sig := (.one (.int .i64 r), [])
def afW := (E0.p zJ)
def V2 (a0 : Int) : Option (AV × Sig) := some (.one (.int .i64 (dZ (IntKind.wrap .i64 ((2 : Int) * (dZ a0))))), [])
def KV (a0 : Int) : Int := (dZ (IntKind.wrap .i64 ((2 : Int) * (dZ a0))))
theorem abm (a0 : Int) : V2 a0 = some (f338 (KV a0)) := rfl
def aaX : Prim := ⟨[oI], fun v => .done (f338 (KV v.1))⟩
theorem YS : PO 338 aaX := pK afW fun v => Eq.trans (b := V2 v.1) (by kernel_rfl) (abm v.1)
def f339 (r : Int) : AV × Sig := (.one (.int .i64 r), [])
def aeD := (E0.p zJ)
def Yl (a0 : Int) : Option (AV × Sig) := some (.one (.int .i64 (IntKind.wrap .i64 ((dZ a0).tdiv (2 : Int)))), [])
def Kz (a0 : Int) : Int := IntKind.wrap .i64 ((dZ a0).tdiv (2 : Int))
theorem aeh (a0 : Int) : Yl a0 = some (f339 (Kz a0)) := rfl
def acf : Prim := ⟨[oI], fun v => .done (f339 (Kz v.1))⟩
theorem XB : PO 339 acf := pK aeD fun v => Eq.trans (b := Yl v.1) (by kernel_rfl) (aeh v.1)
def f324 (r : Int) : AV × Sig := (.one (.int .i64 r), [])
def adQ := ((((E0.p DR).p Nq).p YS).p XB)
def Wd (a0 : Ty.T bo) (a1 : Int) : Option (AV × Sig) := cond (a0.1 == (1 : Int)) (some (.one (.int .i64 0), [])) (cond (a0.1 == (3 : Int)) (some (.one (.int .i64 (yI (jU a1 2147483647) a0.2.1)), [])) (cond (a0.1 == (4 : Int)) (some (.one (.int .i64 (KV (jU a1 2147483647))), [])) (cond (a0.1 == (5 : Int)) (some (.one (.int .i64 (Kz (jU a1 2147483647))), [])) (some (.one (.int .i64 (jU a1 2147483647)), [])))))
def GQ (a0 : Ty.T bo) (a1 : Int) : Int := cond (a0.1 == (1 : Int)) (0) (cond (a0.1 == (3 : Int)) ((yI (jU a1 2147483647) a0.2.1)) (cond (a0.1 == (4 : Int)) ((KV (jU a1 2147483647))) (cond (a0.1 == (5 : Int)) ((Kz (jU a1 2147483647))) ((jU a1 2147483647)))))
theorem aac (a0 : Ty.T bo) (a1 : Int) : Wd a0 a1 = some (f324 (GQ a0 a1)) := (tC rfl (tC rfl (tC rfl (tC rfl rfl))))
def adM : Prim := ⟨[.agg [.dat bo true], oI], fun v => .done (f324 (GQ v.1 v.2.1))⟩
theorem Zc : PO 324 adM := pK adQ fun v => Eq.trans (b := Wd v.1 v.2.1) (by kernel_rfl) (aac v.1 v.2.1)
def f325 (r : (List (Ty.T y27))) : AV × Sig := (.one (.sl 4096), [(4096, .arr 41 y27 r false)])
def XW := (E0.p DR)
@[reducible] def Dn : List SP := U2 (.und :: .one (.ptr 3 0) :: .one (.dat (.sl 41 y27) false) :: .one (.own 8) :: U8 (.one (.dat (.sl 41 y27) true) :: oI :: oI :: U16 ([])))
@[reducible] def B1 : List (Nat × GP) := [(3, .box 41 [.dat y27 false]), (8, .arr 41 y27 false)]
@[reducible] def oz : Type := (List (Ty.T y27)) × (List (Ty.T y27)) × Int × Int × (Ty.T y27) × (List (Ty.T y27)) × Unit
def sY (v : oz) {Z : Type} (κ : Nat × oz -> Option Z) : Option Z := cond (decide (v.2.2.2.1 < v.2.2.1)) (if 0 <= v.2.2.2.1 then (bc ((v.2.1)[(v.2.2.2.1).toNat]?) (fun x1 => cond (x1.2.2.2.2.1 == (-1 : Int)) (if (v.2.2.2.2.2.1 ++ [(x1.1, x1.2.1, x1.2.2.1, x1.2.2.2.1, (jU v.2.2.2.2.1.2.2.2.2.1 2147483647), x1.2.2.2.2.2)] : List (Ty.T y27)).length * 56 <= 140737488351232 then (κ (0, (v.1, v.2.1, v.2.2.1, IntKind.wrap .i64 (v.2.2.2.1 + (1 : Int)), v.2.2.2.2.1, v.2.2.2.2.2.1 ++ [(x1.1, x1.2.1, x1.2.2.1, x1.2.2.2.1, (jU v.2.2.2.2.1.2.2.2.2.1 2147483647), x1.2.2.2.2.2)], ()))) else none) (if (v.2.2.2.2.2.1 ++ [x1] : List (Ty.T y27)).length * 56 <= 140737488351232 then (κ (0, (v.1, v.2.1, v.2.2.1, IntKind.wrap .i64 (v.2.2.2.1 + (1 : Int)), v.2.2.2.2.1, v.2.2.2.2.2.1 ++ [x1], ()))) else none))) else none) (κ (1, (v.1, v.2.1, v.2.2.1, v.2.2.2.1, v.2.2.2.2.1, v.2.2.2.2.2.1, ())))
def rB (v : oz) : Option (Nat × oz) := sY v some
def vr (v : oz) : Nat := v.1.length + v.2.1.length + v.2.2.1.toNat + v.2.2.2.1.toNat + v.2.2.2.2.2.1.length + 100
def Ay (h0 : List (Ty.T y27)) (h1 : List (Ty.T y27)) (h2 : Int) (h3 : Int) (h4 : Ty.T y27) (h5 : List (Ty.T y27)) (c : Nat) : Bool := iK rB vr (h0, h1, h2, h3, h4, h5, ()) c
def GR (h0 : List (Ty.T y27)) (h1 : List (Ty.T y27)) (h2 : Int) (h3 : Int) (h4 : Ty.T y27) (h5 : List (Ty.T y27)) : oz := iW rB vr (h0, h1, h2, h3, h4, h5, ())
def O6 (v : oz) : aP (Ex × St) := bz rB (vr v) v (ax Dn B1) [.exit 0] 0
theorem Uv : bw Tryz.prog (aO (pb 5 23) (ae Tryz.f325)) Dn B1 O6 := aE (lt := .none) XW.ok aj (ag.no _) fun n v K => Eq.trans (b := sY v (dt _ _ _ _ _ K)) (by kernel_rfl) (show sY v _ = (sY v some).bind _ from (bC (bI (bO fun x1 => (bC (bI rfl) (bI rfl)))) rfl))
def WJ := XW.l (g := 325) (t := (cD (pb 5 23) (ae Tryz.f325) .none (.sum Dn B1 O6))) (aZ Tryz.func325 (ag.put (az (by kernel_rfl)) (ag.no _) Uv))
def WB (a0 : Ty.T bo) (a1 : Ty.T y27) : Option (AV × Sig) := cond (a0.1 != (9 : Int)) (some (.one (.sl 4096), [(4096, .arr 41 y27 [] false)])) (cond (Ay [] a0.2.2.2.2.2.2 ((a0.2.2.2.2.2.2).length : Int) 0 a1 [] 0) (some (.one (.sl 4096), [(4096, .arr 41 y27 (GR [] a0.2.2.2.2.2.2 ((a0.2.2.2.2.2.2).length : Int) 0 a1 []).2.2.2.2.2.1 false)])) (none))
def yE (a0 : Ty.T bo) (a1 : Ty.T y27) : (List (Ty.T y27)) := cond (a0.1 != (9 : Int)) ([]) (cond (Ay [] a0.2.2.2.2.2.2 ((a0.2.2.2.2.2.2).length : Int) 0 a1 [] 0) ((GR [] a0.2.2.2.2.2.2 ((a0.2.2.2.2.2.2).length : Int) 0 a1 []).2.2.2.2.2.1) ([]))
def d325 (a0 : Ty.T bo) (a1 : Ty.T y27) : Bool := cond (a0.1 != (9 : Int)) (true) (cond (Ay [] a0.2.2.2.2.2.2 ((a0.2.2.2.2.2.2).length : Int) 0 a1 [] 0) (true) (false))
theorem ae5 (a0 : Ty.T bo) (a1 : Ty.T y27) : WB a0 a1 = cond (d325 a0 a1) (some (f325 (yE a0 a1))) none := (pC (pS _) (pC (pS _) (pN _)))
def afV : Prim := ⟨[.agg [.dat bo true], .agg [.dat y27 true]], fun v => .br (d325 v.1 v.2.1) (.done (f325 (yE v.1 v.2.1))) .no⟩
theorem VT : PO 325 afV := pK WJ fun v => Eq.trans (b := WB v.1 v.2.1) (by kernel_rfl) (ae5 v.1 v.2.1)
def f287 (r : Int × (List (Ty.T y27))) : AV × Sig := (.tup [(false, ([.sl 4096])), (false, ([.int .i64 r.1]))], [(4096, .arr 41 y27 r.2 false)])
def XC := ((((E0.p DR).p Xq).p Zc).p VT)
@[reducible] def Iy : List SP := U2 (.und :: .one (.ptr 3 0) :: .one (.dat (.sl 41 y27) false) :: oI :: .one (.ptr 6 0) :: U64 (U16 (U2 ([]))))
@[reducible] def Je : List (Nat × GP) := [(3, .box 41 [.dat y27 false]), (6, .box 107 [.dat bo true])]
@[reducible] def AJ : Type := (List (Ty.T y27)) × Int × (Ty.T y27) × (Ty.T bo) × Unit
@[reducible] def J8 : List SP := U2 (.und :: .one (.ptr 3 0) :: .one (.dat (.sl 41 y27) false) :: oI :: U64 (U16 (U2 (.und :: []))))
@[reducible] def JD : List (Nat × GP) := [(3, .box 41 [.dat y27 false])]
def Bt (v : AJ) (r : Unit) : Ex × St := (.normal, ax J8 JD (v.1, v.2.1, (v.2.2.1.1, v.2.2.1.2.1, v.2.2.2.1.2.2.1, v.2.2.2.1.2.2.2.1, v.2.2.1.2.2.2.2), ()))
def A7 (v : AJ) {Z : Type} (κ : Unit -> Z) : Z := κ ()
def Uo (v : AJ) : Unit := A7 v id
def Mz (v : AJ) : aP (Ex × St) := .done (Bt v (Uo v))
theorem S9 : aK Tryz.prog (aw (pb 12 2043) (ae Tryz.f287)) Iy Je Mz := bA (by kernel_rfl) (sx := J8) (gx := JD) XC.ok aj (by kernel_rfl) 2 fun v => Eq.trans (b := List.replicate 2 (A7 v (sm (Bt v)))) (by kernel_rfl) (congrArg (List.replicate 2) (show A7 v (sm (Bt v)) = some (Bt v (A7 v id)) from rfl))
def WE := XC.l (g := 287) (t := (aD (pb 12 2043) (ae Tryz.f287) .none (.sum Iy Je Mz))) (aZ Tryz.func287 (ag.bP (az (by kernel_rfl)) (ag.no _) S9))
def ef (a0 : Ty.T aq) (a1 : Ty.T y27) := (jU (IntKind.wrap .i64 (a1.2.2.2.2.1 + a0.2.2.2.2.2.2.1.2.1)) 99)
def t287 (a0 : Ty.T aq) (a1 : Ty.T y27) {Z : Type} (κ : Int × (List (Ty.T y27)) -> Option Z) : Option Z := cond (a0.2.2.2.2.2.2.1.1 == (1 : Int)) (cond (a1.1 == (1 : Int)) (κ (a1.2.2.2.2.1, [])) (κ (0, []))) (cond (a0.2.2.2.2.2.2.1.1 == (2 : Int)) (κ ((jU a1.2.2.2.2.1 a0.2.2.2.2.2.2.2.2), [(Fu a1 (IntKind.wrap .i64 (a1.2.2.2.2.1 - (jU a1.2.2.2.2.1 a0.2.2.2.2.2.2.2.2))))])) (cond (a0.2.2.2.2.2.2.1.1 == (3 : Int)) (cond (a0.2.2.2.2.2.2.1.1 == (3 : Int)) (κ (0, [(Fu a1 (GQ a0.2.2.2.2.2.2.1 a1.2.2.2.2.1))])) (cond (a0.2.2.2.2.2.2.1.1 == (6 : Int)) (κ (0, [(a1.1, a1.2.1, a0.2.2.2.2.2.2.1.2.2.1, a0.2.2.2.2.2.2.1.2.2.2.1, a1.2.2.2.2)])) (cond (a0.2.2.2.2.2.2.1.1 == (7 : Int)) (cond (a0.2.2.2.2.2.2.1.2.2.2.2.1 != (2 : Int)) (κ (0, [(a1.1, a1.2.1, a1.2.2.1, a1.2.2.2.1, 0, a0.2.2.2.2.2.2.1.2.2.2.2.1, false)])) (κ (0, [(a1.1, a1.2.1, a1.2.2.1, a1.2.2.2.1, a1.2.2.2.2.1, a0.2.2.2.2.2.2.1.2.2.2.2.1, a1.2.2.2.2.2.2)]))) (cond (a0.2.2.2.2.2.2.1.1 == (8 : Int)) (cond (a1.2.2.2.2.2.1 == (2 : Int)) (cond a1.2.2.2.2.2.2 (κ (0, [(a1.1, a1.2.1, a1.2.2.1, a1.2.2.2.1, (ef a0 a1), a1.2.2.2.2.2.1, true)])) (κ (0, [(a1.1, a1.2.1, a1.2.2.1, a1.2.2.2.1, (ef a0 a1), a1.2.2.2.2.2.1, a0.2.2.2.2.2.2.1.2.2.2.2.2.1)]))) (κ (0, [a1]))) (cond (a0.2.2.2.2.2.2.1.1 == (9 : Int)) (cond (d325 a0.2.2.2.2.2.2.1 a1) (κ (0, (yE a0.2.2.2.2.2.2.1 a1))) (none)) (κ (0, [a1]))))))) (cond (a0.2.2.2.2.2.2.1.1 == (4 : Int)) (cond (a0.2.2.2.2.2.2.1.1 == (4 : Int)) (κ (0, [(Fu a1 (GQ a0.2.2.2.2.2.2.1 a1.2.2.2.2.1))])) (cond (a0.2.2.2.2.2.2.1.1 == (6 : Int)) (κ (0, [(a1.1, a1.2.1, a0.2.2.2.2.2.2.1.2.2.1, a0.2.2.2.2.2.2.1.2.2.2.1, a1.2.2.2.2)])) (cond (a0.2.2.2.2.2.2.1.1 == (7 : Int)) (cond (a0.2.2.2.2.2.2.1.2.2.2.2.1 != (2 : Int)) (κ (0, [(a1.1, a1.2.1, a1.2.2.1, a1.2.2.2.1, 0, a0.2.2.2.2.2.2.1.2.2.2.2.1, false)])) (κ (0, [(a1.1, a1.2.1, a1.2.2.1, a1.2.2.2.1, a1.2.2.2.2.1, a0.2.2.2.2.2.2.1.2.2.2.2.1, a1.2.2.2.2.2.2)]))) (cond (a0.2.2.2.2.2.2.1.1 == (8 : Int)) (cond (a1.2.2.2.2.2.1 == (2 : Int)) (cond a1.2.2.2.2.2.2 (κ (0, [(a1.1, a1.2.1, a1.2.2.1, a1.2.2.2.1, (ef a0 a1), a1.2.2.2.2.2.1, true)])) (κ (0, [(a1.1, a1.2.1, a1.2.2.1, a1.2.2.2.1, (ef a0 a1), a1.2.2.2.2.2.1, a0.2.2.2.2.2.2.1.2.2.2.2.2.1)]))) (κ (0, [a1]))) (cond (a0.2.2.2.2.2.2.1.1 == (9 : Int)) (cond (d325 a0.2.2.2.2.2.2.1 a1) (κ (0, (yE a0.2.2.2.2.2.2.1 a1))) (none)) (κ (0, [a1]))))))) (cond (a0.2.2.2.2.2.2.1.1 == (5 : Int)) (κ (0, [(Fu a1 (GQ a0.2.2.2.2.2.2.1 a1.2.2.2.2.1))])) (cond (a0.2.2.2.2.2.2.1.1 == (6 : Int)) (κ (0, [(a1.1, a1.2.1, a0.2.2.2.2.2.2.1.2.2.1, a0.2.2.2.2.2.2.1.2.2.2.1, a1.2.2.2.2)])) (cond (a0.2.2.2.2.2.2.1.1 == (7 : Int)) (cond (a0.2.2.2.2.2.2.1.2.2.2.2.1 != (2 : Int)) (κ (0, [(a1.1, a1.2.1, a1.2.2.1, a1.2.2.2.1, 0, a0.2.2.2.2.2.2.1.2.2.2.2.1, false)])) (κ (0, [(a1.1, a1.2.1, a1.2.2.1, a1.2.2.2.1, a1.2.2.2.2.1, a0.2.2.2.2.2.2.1.2.2.2.2.1, a1.2.2.2.2.2.2)]))) (cond (a0.2.2.2.2.2.2.1.1 == (8 : Int)) (cond (a1.2.2.2.2.2.1 == (2 : Int)) (cond a1.2.2.2.2.2.2 (κ (0, [(a1.1, a1.2.1, a1.2.2.1, a1.2.2.2.1, (ef a0 a1), a1.2.2.2.2.2.1, true)])) (κ (0, [(a1.1, a1.2.1, a1.2.2.1, a1.2.2.2.1, (ef a0 a1), a1.2.2.2.2.2.1, a0.2.2.2.2.2.2.1.2.2.2.2.2.1)]))) (κ (0, [a1]))) (cond (a0.2.2.2.2.2.2.1.1 == (9 : Int)) (cond (d325 a0.2.2.2.2.2.2.1 a1) (κ (0, (yE a0.2.2.2.2.2.2.1 a1))) (none)) (κ (0, [a1]))))))))))
def fm (a0 : Ty.T aq) (a1 : Ty.T y27) : Int × (List (Ty.T y27)) := (t287 a0 a1 some).getD (0, [])
def d287 (a0 : Ty.T aq) (a1 : Ty.T y27) : Bool := (t287 a0 a1 some).isSome
def abC : Prim := ⟨[.agg [.dat aq true], .agg [.dat y27 true]], fun v => .br (d287 v.1 v.2.1) (.done (f287 (fm v.1 v.2.1))) .no⟩
theorem Zq : PO 287 abC := pK WE fun v => Eq.trans (b := (t287 v.1 v.2.1 (sm f287))) (by kernel_rfl) (al (show t287 v.1 v.2.1 (sm f287) = (t287 v.1 v.2.1 some).bind _ from by unfold t287; simp only [bb]))
def f219 (r : Int) : AV × Sig := (.one (.int .i64 r), [])
def adu := (E0.p zJ)
def Y5 (a0 : Int) (a1 : Int) : Option (AV × Sig) := some (.one (.int .i64 (dZ (IntKind.wrap .i64 ((dZ a0) - (dZ a1))))), [])
def vo (a0 : Int) (a1 : Int) : Int := (dZ (IntKind.wrap .i64 ((dZ a0) - (dZ a1))))
theorem adq (a0 : Int) (a1 : Int) : Y5 a0 a1 = some (f219 (vo a0 a1)) := rfl
def abQ : Prim := ⟨[oI, oI], fun v => .done (f219 (vo v.1 v.2.1))⟩
theorem Mw : PO 219 abQ := pK adu fun v => Eq.trans (b := Y5 v.1 v.2.1) (by kernel_rfl) (adq v.1 v.2.1)
def f289 (r : (Ty.T q0) × (Ty.T aB) × (List (Ty.T y27))) : AV × Sig := (.agg ((q0.cells false r.1) ++ [.sl 81920] ++ (aB.cells false r.2.1)), [(81920, .arr 41 y27 r.2.2 false)])
def aaL := (((E0.p DR).p Mw).p M6)
def t289 (a0 : Ty.T aq) (a1 : Int) {Z : Type} (κ : (Ty.T q0) × (Ty.T aB) × (List (Ty.T y27)) -> Option Z) : Option Z := cond (d226 a0) (cond ((cL a0).1.2.2.2.2.2.2.1 == (2 : Int)) (κ ((cL a0).1, ((cL a0).2.1.1, (jU (vo (cL a0).2.1.2 a1) 2147483647)), (cL a0).2.2)) (cond (decide ((cL a0).2.1.2 > (0 : Int))) (κ ((cL a0).1, ((cL a0).2.1.1, IntKind.wrap .i64 ((cL a0).2.1.2 - (1 : Int))), (cL a0).2.2)) (κ ((cL a0).1, (cL a0).2.1, (cL a0).2.2)))) (none)
def Ky (a0 : Ty.T aq) (a1 : Int) : (Ty.T q0) × (Ty.T aB) × (List (Ty.T y27)) := (t289 a0 a1 some).getD ((Ty.zero q0), (Ty.zero aB), [])
def d289 (a0 : Ty.T aq) (a1 : Int) : Bool := (t289 a0 a1 some).isSome
def adY : Prim := ⟨[.agg [.dat aq true], oI], fun v => .br (d289 v.1 v.2.1) (.done (f289 (Ky v.1 v.2.1))) .no⟩
theorem Wm : PO 289 adY := pK aaL fun v => Eq.trans (b := (t289 v.1 v.2.1 (sm f289))) (by kernel_rfl) (al (show t289 v.1 v.2.1 (sm f289) = (t289 v.1 v.2.1 some).bind _ from (bC (bC rfl (bC rfl rfl)) rfl)))
def f54 (r : Bool) : AV × Sig := (.one (.bool r), [])
def E54 := E0
def u54 (a0 : Ty.T y27) : Option (AV × Sig) := cond (a0.2.2.2.2.1 == (0 : Int)) (some (.one (.bool (a0.1 != (2 : Int))), [])) (some (.one (.bool false), []))
def v54 (a0 : Ty.T y27) : Bool := cond (a0.2.2.2.2.1 == (0 : Int)) ((a0.1 != (2 : Int))) (false)
theorem o54 (a0 : Ty.T y27) : u54 a0 = some (f54 (v54 a0)) := (tC rfl rfl)
def p54 : Prim := ⟨[.agg [.dat y27 true]], fun v => .done (f54 (v54 v.1))⟩
theorem acu : PO 54 p54 := pK E54 fun v => Eq.trans (b := u54 v.1) (by kernel_rfl) (o54 v.1)
def f288 (r : Bool) : AV × Sig := (.one (.bool r), [])
def aaH := ((E0.p LI).p acu)
def Vt (a0 : Ty.T y27) : Option (AV × Sig) := cond (!(v53 a0)) (some (.one (.bool true), [])) (some (.one (.bool (v54 a0)), []))
def gl (a0 : Ty.T y27) : Bool := cond (!(v53 a0)) (true) ((v54 a0))
theorem acC (a0 : Ty.T y27) : Vt a0 = some (f288 (gl a0)) := (tC rfl rfl)
def aez : Prim := ⟨[.agg [.dat y27 true]], fun v => .done (f288 (gl v.1))⟩
theorem Si : PO 288 aez := pK aaH fun v => Eq.trans (b := Vt v.1) (by kernel_rfl) (acC v.1)
def Mp (r : Int) : AV × Sig := (.one (.int .i64 r), [])
def PJ := (E0.p Si)
@[reducible] def q8 : List SP := .one (.dat (.sl 41 y27) true) :: .one (.fnc 288 []) :: U2 (oI :: U2 (oI :: oI :: U8 (U2 ([]))))
def kc (v : dq) {Z : Type} (κ : Nat × dq -> Option Z) : Option Z := cond (decide (v.2.2.2.1 < v.2.2.1)) (if 0 <= v.2.2.2.1 then (bc ((v.1)[(v.2.2.2.1).toNat]?) (fun x1 => cond (gl x1) (κ (1, (v.1, v.2.2.2.1, v.2.2.1, v.2.2.2.1, ()))) (κ (0, (v.1, v.2.1, v.2.2.1, IntKind.wrap .i64 (v.2.2.2.1 + (1 : Int)), ()))))) else none) (κ (2, (v.1, v.2.1, v.2.2.1, v.2.2.2.1, ())))
def kb (v : dq) : Option (Nat × dq) := kc v some
def mJ (v : dq) : Nat := v.1.length + v.2.1.toNat + v.2.2.1.toNat + v.2.2.2.1.toNat + 100
def e6 (h0 : List (Ty.T y27)) (h1 : Int) (h2 : Int) (h3 : Int) (c : Nat) : Bool := iK kb mJ (h0, h1, h2, h3, ()) c
def uY (h0 : List (Ty.T y27)) (h1 : Int) (h2 : Int) (h3 : Int) : dq := iW kb mJ (h0, h1, h2, h3, ())
def Fs (v : dq) : aP (Ex × St) := bz kb (mJ v) v (ax q8 au) [.ret, .exit 0] 0
theorem Nu : bw Tryz.prog (aO (pb 3 5) (ae Tryz.f249)) q8 au Fs := aE (lt := .none) PJ.ok aj (ag.no _) fun n v K => Eq.trans (b := kc v (dt _ _ _ _ _ K)) (by kernel_rfl) (show kc v _ = (kc v some).bind _ from (bC (bI (bO fun x1 => (bC rfl rfl))) rfl))
def Qs := PJ.l (g := 249) (t := (cD (pb 3 5) (ae Tryz.f249) .none (.sum q8 au Fs))) (aZ Tryz.func249 (ag.put (az (by kernel_rfl)) (ag.no _) Nu))
def Pm (a0 : List (Ty.T y27)) : Option (AV × Sig) := cond (e6 a0 0 ((a0).length : Int) 0 0) (some (.one (.int .i64 (uY a0 0 ((a0).length : Int) 0).2.1), [])) (cond (e6 a0 0 ((a0).length : Int) 0 1) (some (.one (.int .i64 (-1)), [])) (none))
def bh (a0 : List (Ty.T y27)) : Int := cond (e6 a0 0 ((a0).length : Int) 0 0) ((uY a0 0 ((a0).length : Int) 0).2.1) (cond (e6 a0 0 ((a0).length : Int) 0 1) ((-1)) (0))
def xX (a0 : List (Ty.T y27)) : Bool := cond (e6 a0 0 ((a0).length : Int) 0 0) (true) (cond (e6 a0 0 ((a0).length : Int) 0 1) (true) (false))
theorem TV (a0 : List (Ty.T y27)) : Pm a0 = cond (xX a0) (some (Mp (bh a0))) none := (pC (pS _) (pC (pS _) (pN _)))
def Tn : Prim := ⟨[.one (.dat (.sl 41 y27) true), .one (.fnc 288 [])], fun v => .br (xX v.1) (.done (Mp (bh v.1))) .no⟩
theorem Q0 : PO 249 Tn := pK Qs fun v => Eq.trans (b := Pm v.1) (by kernel_rfl) (TV v.1)
def Im (r : (List (Ty.T y27))) : AV × Sig := (.one (.sl 33554432), [(33554432, .arr 41 y27 r false)])
def NN := ((E0.p Q0).p Si)
@[reducible] def rN : List SP := .one (.own 41943040) :: .one (.fnc 288 []) :: U2 (.one (.dat (.sl 41 y27) false) :: oI :: oI :: U32 (U2 (.und :: [])))
@[reducible] def sR : List (Nat × GP) := [(41943040, .arr 41 y27 false)]
@[reducible] def gT : Type := (List (Ty.T y27)) × Int × Int × (List (Ty.T y27)) × Unit
def ij (v : gT) {Z : Type} (κ : Nat × gT -> Option Z) : Option Z := cond (decide (v.2.2.1 < ((v.2.2.2.1).length : Int))) (if 0 <= v.2.2.1 then (if v.2.2.1 < ((v.2.2.2.1).length : Int) then (bc ((v.2.2.2.1)[(v.2.2.1).toNat]?) (fun x1 => cond (!(gl x1)) (if 0 <= v.2.1 then (if v.2.1 < ((v.2.2.2.1).length : Int) then (bc ((v.2.2.2.1)[(v.2.1).toNat]?) (fun x2 => κ (0, (v.1, IntKind.wrap .i64 (v.2.1 + (1 : Int)), IntKind.wrap .i64 (v.2.2.1 + (1 : Int)), v.2.2.2.1.set ((v.2.1).toNat) x1, ())))) else none) else none) (κ (0, (v.1, v.2.1, IntKind.wrap .i64 (v.2.2.1 + (1 : Int)), v.2.2.2.1, ()))))) else none) else none) (κ (1, (v.1, v.2.1, v.2.2.1, v.2.2.2.1, ())))
def ic (v : gT) : Option (Nat × gT) := ij v some
def mW (v : gT) : Nat := v.1.length + v.2.1.toNat + v.2.2.1.toNat + v.2.2.2.1.length + 100
def FA (h0 : List (Ty.T y27)) (h1 : Int) (h2 : Int) (h3 : List (Ty.T y27)) (c : Nat) : Bool := iK ic mW (h0, h1, h2, h3, ()) c
def bY (h0 : List (Ty.T y27)) (h1 : Int) (h2 : Int) (h3 : List (Ty.T y27)) : gT := iW ic mW (h0, h1, h2, h3, ())
def DT (v : gT) : aP (Ex × St) := bz ic (mW v) v (ax rN sR) [.exit 0] 0
theorem L9 : bw Tryz.prog (aO (pb 5 23) (ae Tryz.f176)) rN sR DT := aE (lt := .none) NN.ok aj (ag.no _) fun n v K => Eq.trans (b := ij v (dt _ _ _ _ _ K)) (by kernel_rfl) (show ij v _ = (ij v some).bind _ from (bC (bI (bI (bO fun x1 => (bC (bI (bI (bO fun x2 => rfl))) rfl)))) rfl))
def QO := NN.l (g := 176) (t := (cD (pb 5 23) (ae Tryz.f176) .none (.sum rN sR DT))) (aZ Tryz.func176 (ag.put (az (by kernel_rfl)) (ag.no _) L9))
def oT (a0 : List (Ty.T y27)) {Z : Type} (κ : (List (Ty.T y27)) -> Option Z) : Option Z := cond (xX a0) (cond ((bh a0) == (-1 : Int)) (κ a0) (cond (FA [] (bh a0) (IntKind.wrap .i64 ((bh a0) + (1 : Int))) a0 0) (if 0 <= (bY [] (bh a0) (IntKind.wrap .i64 ((bh a0) + (1 : Int))) a0).2.1 then (if (bY [] (bh a0) (IntKind.wrap .i64 ((bh a0) + (1 : Int))) a0).2.1 <= (((bY [] (bh a0) (IntKind.wrap .i64 ((bh a0) + (1 : Int))) a0).2.2.2.1).length : Int) then (if 0 <= (bY [] (bh a0) (IntKind.wrap .i64 ((bh a0) + (1 : Int))) a0).2.1 then (if (bY [] (bh a0) (IntKind.wrap .i64 ((bh a0) + (1 : Int))) a0).2.1 <= (((bY [] (bh a0) (IntKind.wrap .i64 ((bh a0) + (1 : Int))) a0).2.2.2.1.take (((bY [] (bh a0) (IntKind.wrap .i64 ((bh a0) + (1 : Int))) a0).2.1).toNat) ++ List.replicate (((bY [] (bh a0) (IntKind.wrap .i64 ((bh a0) + (1 : Int))) a0).2.2.2.1).length - ((bY [] (bh a0) (IntKind.wrap .i64 ((bh a0) + (1 : Int))) a0).2.1).toNat) ((0, 0, 0, 0, 0, 0, false) : Ty.T y27) ++ (bY [] (bh a0) (IntKind.wrap .i64 ((bh a0) + (1 : Int))) a0).2.2.2.1.drop (((bY [] (bh a0) (IntKind.wrap .i64 ((bh a0) + (1 : Int))) a0).2.1).toNat + (((bY [] (bh a0) (IntKind.wrap .i64 ((bh a0) + (1 : Int))) a0).2.2.2.1).length - ((bY [] (bh a0) (IntKind.wrap .i64 ((bh a0) + (1 : Int))) a0).2.1).toNat))).length : Int) then (κ (((bY [] (bh a0) (IntKind.wrap .i64 ((bh a0) + (1 : Int))) a0).2.2.2.1.take (((bY [] (bh a0) (IntKind.wrap .i64 ((bh a0) + (1 : Int))) a0).2.1).toNat) ++ List.replicate (((bY [] (bh a0) (IntKind.wrap .i64 ((bh a0) + (1 : Int))) a0).2.2.2.1).length - ((bY [] (bh a0) (IntKind.wrap .i64 ((bh a0) + (1 : Int))) a0).2.1).toNat) ((0, 0, 0, 0, 0, 0, false) : Ty.T y27) ++ (bY [] (bh a0) (IntKind.wrap .i64 ((bh a0) + (1 : Int))) a0).2.2.2.1.drop (((bY [] (bh a0) (IntKind.wrap .i64 ((bh a0) + (1 : Int))) a0).2.1).toNat + (((bY [] (bh a0) (IntKind.wrap .i64 ((bh a0) + (1 : Int))) a0).2.2.2.1).length - ((bY [] (bh a0) (IntKind.wrap .i64 ((bh a0) + (1 : Int))) a0).2.1).toNat))).take (((bY [] (bh a0) (IntKind.wrap .i64 ((bh a0) + (1 : Int))) a0).2.1).toNat))) else none) else none) else none) else none) (none))) (none)
def xf (a0 : List (Ty.T y27)) : (List (Ty.T y27)) := (oT a0 some).getD []
def wI (a0 : List (Ty.T y27)) : Bool := (oT a0 some).isSome
def Tz : Gen := ⟨[true, false], [.one (.own 41943040), .one (.fnc 288 [])], [(41943040, .arr 41 y27 false)], fun v => .br (wI v.1) (.done (Im (xf v.1))) .no⟩
theorem QI : dp Tryz.prog 176 Tz := b9 QO.ok aj (az (by kernel_rfl)) ⟨Tryz.f176, ae Tryz.f176, by kernel_rfl, by kernel_rfl⟩ fun v => Eq.trans (b := (oT v.1 (sm Im))) (by kernel_rfl) (al (show oT v.1 (sm Im) = (oT v.1 some).bind _ from (bC (bC rfl (bC (bI (bI (bI (bI rfl)))) rfl)) rfl)))
def f228 (r : Int × (Ty.T q0) × (Ty.T aB) × (List (Ty.T y27)) × (List (Ty.T y27))) : AV × Sig := (.tup [(false, ([.sl 4096])), (false, ([.int .i64 r.1])), (true, ((q0.cells false r.2.1) ++ [.sl 90112] ++ (aB.cells false r.2.2.1)))], [(4096, .arr 41 y27 r.2.2.2.1 false), (90112, .arr 41 y27 r.2.2.2.2 false)])
def ads := (((((((E0.g QI).p M6).p Mq).p RT).p Zq).p Wm).p LI)
def t228 (a0 : Ty.T aq) (a1 : Ty.T y27) {Z : Type} (κ : Int × (Ty.T q0) × (Ty.T aB) × (List (Ty.T y27)) × (List (Ty.T y27)) -> Option Z) : Option Z := cond (d227 a0) (cond (!(yA a0)) (cond (d226 a0) (κ (0, (cL a0).1, (cL a0).2.1, [a1], (cL a0).2.2)) (none)) (cond (!(v53 a1)) (cond (d226 a0) (κ (0, (cL a0).1, (cL a0).2.1, [a1], (cL a0).2.2)) (none)) (cond (!(Bg a0.2.2.2.2.2.2.1 a1.1)) (cond (d226 a0) (κ (0, (cL a0).1, (cL a0).2.1, [a1], (cL a0).2.2)) (none)) (cond (d287 a0 a1) (cond (wI (fm a0 a1).2) (cond (d289 a0 (fm a0 a1).1) (κ ((fm a0 a1).1, (Ky a0 (fm a0 a1).1).1, (Ky a0 (fm a0 a1).1).2.1, (xf (fm a0 a1).2), (Ky a0 (fm a0 a1).1).2.2)) (none)) (none)) (none))))) (none)
def Vl (a0 : Ty.T aq) (a1 : Ty.T y27) : Int × (Ty.T q0) × (Ty.T aB) × (List (Ty.T y27)) × (List (Ty.T y27)) := (t228 a0 a1 some).getD (0, (Ty.zero q0), (Ty.zero aB), [], [])
def d228 (a0 : Ty.T aq) (a1 : Ty.T y27) : Bool := (t228 a0 a1 some).isSome
def afI : Prim := ⟨[.agg [.dat aq true], .agg [.dat y27 true]], fun v => .br (d228 v.1 v.2.1) (.done (f228 (Vl v.1 v.2.1))) .no⟩
theorem agc : PO 228 afI := pK ads fun v => Eq.trans (b := (t228 v.1 v.2.1 (sm f228))) (by kernel_rfl) (al (show t228 v.1 v.2.1 (sm f228) = (t228 v.1 v.2.1 some).bind _ from by unfold t228; simp only [bb]))
def f169 (r : Bool) : AV × Sig := (.one (.bool r), [])
def ad5 := (E0.p iV)
def XF (a0 : Int) : Option (AV × Sig) := some (.one (.bool (cu a0 0 9999)), [])
def Kj (a0 : Int) : Bool := (cu a0 0 9999)
theorem afq (a0 : Int) : XF a0 = some (f169 (Kj a0)) := rfl
def ab6 : Prim := ⟨[oI], fun v => .done (f169 (Kj v.1))⟩
theorem R0 : PO 169 ab6 := pK ad5 fun v => Eq.trans (b := XF v.1) (by kernel_rfl) (afq v.1)
def f170 (r : Bool) : AV × Sig := (.one (.bool r), [])
def acU := (((((((E0.p Jd).p FR).p Po).p IZ).p iV).p R0).p RU)
def t170 (a0 : Ty.T y63) {Z : Type} (κ : Bool -> Z) : Z := cond (!(nu a0.1)) (κ false) (cond (!(v164 a0.2.1)) (κ false) (cond (!(v164 a0.2.2.1)) (κ false) (cond (!(tS a0.2.2.2.1)) (κ false) (cond (!(Kj a0.2.2.2.2.1)) (κ false) (cond (!(cu a0.2.2.2.2.2.1 0 999)) (κ false) (cond (!(cu a0.2.2.2.2.2.2.1 0 999)) (κ false) (cond (!(Lt a0.2.2.2.2.2.2.2.1)) (κ false) (cond (a0.2.2.2.1 != (2 : Int)) (cond (a0.2.2.1 == a0.2.1) (cond (a0.2.2.2.2.2.2.2.2.1 == (0 : Int)) (cond (a0.2.2.2.2.2.2.2.2.2.1 == (0 : Int)) (cond (a0.2.2.2.2.2.2.2.2.2.2.1 == (0 : Int)) (cond (!a0.2.2.2.2.2.2.2.2.2.2.2.1) (κ (!a0.2.2.2.2.2.2.2.2.2.2.2.2)) (κ false)) (κ false)) (κ false)) (κ false)) (κ false)) (cond (sa a0.2.2.2.2.2.2.2.2.1) (cond (sa a0.2.2.2.2.2.2.2.2.2.1) (κ (sa a0.2.2.2.2.2.2.2.2.2.2.1)) (κ false)) (κ false))))))))))
def MU (a0 : Ty.T y63) : Bool := t170 a0 fun r => r
def aei : Prim := ⟨[.agg [.dat y63 true]], fun v => .done (f170 (MU v.1))⟩
theorem Wl : PO 170 aei := pK acU fun v => Eq.trans (b := (t170 v.1 (sm f170))) (by kernel_rfl) (show t170 v.1 (sm f170) = some (f170 (t170 v.1 fun r => r)) from (tC rfl (tC rfl (tC rfl (tC rfl (tC rfl (tC rfl (tC rfl (tC rfl (tC (tC (tC (tC (tC (tC rfl rfl) rfl) rfl) rfl) rfl) (tC (tC rfl rfl) rfl)))))))))))
def f172 (r : Bool) : AV × Sig := (.one (.bool r), [])
def aeu := ((E0.p Jd).p zJ)
def ZA (a0 : Ty.T aM) : Option (AV × Sig) := cond ((dZ a0.1) != a0.1) (some (.one (.bool true), [])) (some (.one (.bool (!(sa a0.2.1))), []))
def Lk (a0 : Ty.T aM) : Bool := cond ((dZ a0.1) != a0.1) (true) (!(sa a0.2.1))
theorem adr (a0 : Ty.T aM) : ZA a0 = some (f172 (Lk a0)) := (tC rfl rfl)
def aaT : Prim := ⟨[.agg [.dat aM true]], fun v => .done (f172 (Lk v.1))⟩
theorem XK : PO 172 aaT := pK aeu fun v => Eq.trans (b := ZA v.1) (by kernel_rfl) (adr v.1)
end
end Go.Proofs.YtahlaccdpmddbaaGreat.Vm
