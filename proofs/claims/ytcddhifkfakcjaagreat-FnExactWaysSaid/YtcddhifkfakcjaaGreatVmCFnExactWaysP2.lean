/- Contracts. No condition. -/
import Derived.Test.YtcddhifkfakcjaaGreatVmCFnExactWaysP1
import Derived.Test.YtcddhifkfakcjaaGreatVmLibFour
namespace Go.Proofs.YtcddhifkfakcjaaGreat.Vm
open Go Go.Proofs.YtcddhifkfakcjaaGreat.Lib
noncomputable section
set_option maxRecDepth 100000
set_option linter.unusedVariables false
def f19 (r : (List (Ty.T (.sl 3 (.int .i64))))) : AV × Sig := (.one (.sl 4096),[(4096,.arr 28 (.sl 3 (.int .i64)) r false)])
def E19 := (((E0.p ZB).p V0).p acM)
@[reducible] def yI : List SP := .und :: .one (.dat (.sl 103 aa) true) :: .und :: .one (.ptr 3 0) :: .und :: .one (.ptr 5 0) :: .one (.dat (.sl 28 (.sl 3 (.int .i64))) false) :: .one (.own 13) :: .one (.own 14) :: .one (.ptr 9 0) :: .one (.own 4121) :: .one (.own 26) :: oI :: U2 (.one (.own 13) :: oI :: .one (.dat .bool true) :: .agg [.dat y36 true] :: .one (.dat (.sl 103 aa) true) :: .agg [.dat y48 false] :: .one (.own 14) :: .agg [.own 4118,.own 8214,.own 12310,.own 16406] :: .one (.ptr 9 3) :: .one (.own 16406) :: .one (.own 4121) :: .und :: oI :: .one (.ptr 9 3) :: .one (.own 16406) :: oI :: .one (.dat .bool true) :: U2 (.one (.ptr 9 3) :: .one (.own 16406) :: oI :: U2 (oI :: .one (.dat .bool true) :: U16 (U4 ([])))))
@[reducible] def lZ : List (Nat × GP) := [(3,.box 37 [.dat y36 true]),(5,.box 56 [.dat y48 false]),(9,.box 70 [.own 4118,.own 8214,.own 12310,.own 16406]),(13,.arr 28 (.sl 3 (.int .i64)) false),(14,.arr 3 (.int .i64) false),(26,.arr 3 (.int .i64) false),(4118,.arr 56 y48 false),(4121,.arr 3 (.int .i64) false),(8214,.arr 103 aa false),(12310,.arr 3 (.int .i64) false),(16406,.arr 126 an false)]
@[reducible] def Bq : Type := (List (Ty.T aa)) × (List (Ty.T (.sl 3 (.int .i64)))) × Int × Int × Bool × (Ty.T y36) × (List (Ty.T aa)) × (Ty.T y48) × Int × Int × Bool × Int × Int × Bool × (Ty.T y36) × (Ty.T y48) × (List (Ty.T (.sl 3 (.int .i64)))) × (List (Ty.T (.int .i64))) × (List (Ty.T (.int .i64))) × (List (Ty.T y48)) × (List (Ty.T (.int .i64))) × (List (Ty.T aa)) × (List (Ty.T (.int .i64))) × (List (Ty.T an)) × Unit
def Hg (v : Bq) (r : (List (Ty.T (.int .i64)))) : Ex × St := (.normal,ar yI lZ (v.1,v.2.1,v.2.2.1,v.2.2.2.1,v.2.2.2.2.1,v.2.2.2.2.2.1,v.2.2.2.2.2.2.1,v.2.2.2.2.2.2.2.1,v.2.2.2.2.2.2.2.2.1,v.2.2.2.2.2.2.2.2.2.1,v.2.2.2.2.2.2.2.2.2.2.1,v.2.2.2.2.2.2.2.2.2.2.2.1,v.2.2.2.2.2.2.2.2.2.2.2.2.1,v.2.2.2.2.2.2.2.2.2.2.2.2.2.1,v.2.2.2.2.2.2.2.2.2.2.2.2.2.2.1,v.2.2.2.2.2.2.2.2.2.2.2.2.2.2.2.1,v.2.2.2.2.2.2.2.2.2.2.2.2.2.2.2.2.1,v.2.2.2.2.2.2.2.2.2.2.2.2.2.2.2.2.2.1,r,v.2.2.2.2.2.2.2.2.2.2.2.2.2.2.2.2.2.2.2.1,v.2.2.2.2.2.2.2.2.2.2.2.2.2.2.2.2.2.2.2.2.1,v.2.2.2.2.2.2.2.2.2.2.2.2.2.2.2.2.2.2.2.2.2.1,v.2.2.2.2.2.2.2.2.2.2.2.2.2.2.2.2.2.2.2.2.2.2.1,v.2.2.2.2.2.2.2.2.2.2.2.2.2.2.2.2.2.2.2.2.2.2.2.1,()))
def sK (v : Bq) {Z : Type} (κ : (List (Ty.T (.int .i64))) -> Option Z) : Option Z := cond v.2.2.2.2.2.2.2.2.2.2.2.2.2.1 (if 0 <= v.2.2.1 then (if v.2.2.1 < ((v.2.2.2.2.2.2.2.2.2.2.2.2.2.2.2.2.2.2.2.2.2.2.2.1).length : Int) then (ay ((v.2.2.2.2.2.2.2.2.2.2.2.2.2.2.2.2.2.2.2.2.2.2.2.1)[(v.2.2.1).toNat]?) (fun x2 => if (v.2.2.2.2.2.2.2.2.2.2.2.2.2.2.2.2.2.2.1 ++ [x2.2.2.2.1] : List (Ty.T (.int .i64))).length * 8 <= 140737488351232 then (κ (v.2.2.2.2.2.2.2.2.2.2.2.2.2.2.2.2.2.2.1 ++ [x2.2.2.2.1])) else none)) else none) else none) (κ v.2.2.2.2.2.2.2.2.2.2.2.2.2.2.2.2.2.2.1)
def El (v : Bq) : (List (Ty.T (.int .i64))) := (sK v some).getD []
def Ed (v : Bq) : Bool := (sK v some).isSome
def MU (v : Bq) : aL (Ex × St) := .br (Ed v) (.done (Hg v (El v))) .no
theorem Ur : bo Tryz.prog (aO [true,false,true] (aw [true,true,true,true,false,true] (aw (pb 4 7) (ab Tryz.f19)))) yI lZ MU := bf (lt := .none) (sx := yI) (gx := lZ) E19.ok ak (af.no _) fun v => et (sK v (sm (Hg v))) (by kernel_rfl) (aN (show sK v (sm (Hg v)) = (sK v some).bind _ from (bC (bI (bI (bO fun x2 => (bI rfl)))) rfl)))
@[reducible] def C2 : List SP := .und :: .one (.dat (.sl 103 aa) true) :: .und :: .one (.ptr 3 0) :: .und :: .one (.ptr 5 0) :: .one (.dat (.sl 28 (.sl 3 (.int .i64))) false) :: .one (.own 13) :: .one (.own 14) :: .one (.ptr 9 0) :: .one (.own 4121) :: .one (.own 26) :: oI :: U2 (.one (.own 13) :: oI :: .one (.dat .bool true) :: .agg [.dat y36 true] :: .one (.dat (.sl 103 aa) true) :: .agg [.dat y48 false] :: .one (.own 14) :: .agg [.own 4118,.own 8214,.own 12310,.own 16406] :: .one (.ptr 9 3) :: .one (.own 16406) :: .one (.own 4121) :: U32 (U2 (.und :: [])))
@[reducible] def tQ : Type := (List (Ty.T aa)) × (List (Ty.T (.sl 3 (.int .i64)))) × Int × Int × Bool × (Ty.T y36) × (List (Ty.T aa)) × (Ty.T y48) × (Ty.T y36) × (Ty.T y48) × (List (Ty.T (.sl 3 (.int .i64)))) × (List (Ty.T (.int .i64))) × (List (Ty.T (.int .i64))) × (List (Ty.T y48)) × (List (Ty.T (.int .i64))) × (List (Ty.T aa)) × (List (Ty.T (.int .i64))) × (List (Ty.T an)) × Unit
def sE (v : tQ) {Z : Type} (κ : Nat × tQ -> Option Z) : Option Z := cond (decide (v.2.2.1 < ((v.2.2.2.2.2.2.2.2.2.2.2.2.2.2.2.2.2.1).length : Int))) (if 0 <= v.2.2.1 then (if v.2.2.1 < ((v.2.2.2.2.2.2.2.2.2.2.2.2.2.2.2.2.2.1).length : Int) then (ay ((v.2.2.2.2.2.2.2.2.2.2.2.2.2.2.2.2.2.1)[(v.2.2.1).toNat]?) (fun x1 => cond (Ed (v.1,v.2.1,v.2.2.1,v.2.2.2.1,v.2.2.2.2.1,v.2.2.2.2.2.1,v.2.2.2.2.2.2.1,v.2.2.2.2.2.2.2.1,v.2.2.1,((v.2.2.2.2.2.2.2.2.2.2.2.2.2.2.2.2.2.1).length : Int),decide (v.2.2.1 < ((v.2.2.2.2.2.2.2.2.2.2.2.2.2.2.2.2.2.1).length : Int)),v.2.2.1,x1.2.2.2.1,decide (x1.2.2.2.1 ≥ (2 : Int)),v.2.2.2.2.2.2.2.2.1,v.2.2.2.2.2.2.2.2.2.1,v.2.2.2.2.2.2.2.2.2.2.1,v.2.2.2.2.2.2.2.2.2.2.2.1,v.2.2.2.2.2.2.2.2.2.2.2.2.1,v.2.2.2.2.2.2.2.2.2.2.2.2.2.1,v.2.2.2.2.2.2.2.2.2.2.2.2.2.2.1,v.2.2.2.2.2.2.2.2.2.2.2.2.2.2.2.1,v.2.2.2.2.2.2.2.2.2.2.2.2.2.2.2.2.1,v.2.2.2.2.2.2.2.2.2.2.2.2.2.2.2.2.2.1,())) (κ (0,(v.1,v.2.1,IntKind.wrap .i64 (v.2.2.1 + (1 : Int)),v.2.2.2.1,v.2.2.2.2.1,v.2.2.2.2.2.1,v.2.2.2.2.2.2.1,v.2.2.2.2.2.2.2.1,v.2.2.2.2.2.2.2.2.1,v.2.2.2.2.2.2.2.2.2.1,v.2.2.2.2.2.2.2.2.2.2.1,v.2.2.2.2.2.2.2.2.2.2.2.1,(El (v.1,v.2.1,v.2.2.1,v.2.2.2.1,v.2.2.2.2.1,v.2.2.2.2.2.1,v.2.2.2.2.2.2.1,v.2.2.2.2.2.2.2.1,v.2.2.1,((v.2.2.2.2.2.2.2.2.2.2.2.2.2.2.2.2.2.1).length : Int),decide (v.2.2.1 < ((v.2.2.2.2.2.2.2.2.2.2.2.2.2.2.2.2.2.1).length : Int)),v.2.2.1,x1.2.2.2.1,decide (x1.2.2.2.1 ≥ (2 : Int)),v.2.2.2.2.2.2.2.2.1,v.2.2.2.2.2.2.2.2.2.1,v.2.2.2.2.2.2.2.2.2.2.1,v.2.2.2.2.2.2.2.2.2.2.2.1,v.2.2.2.2.2.2.2.2.2.2.2.2.1,v.2.2.2.2.2.2.2.2.2.2.2.2.2.1,v.2.2.2.2.2.2.2.2.2.2.2.2.2.2.1,v.2.2.2.2.2.2.2.2.2.2.2.2.2.2.2.1,v.2.2.2.2.2.2.2.2.2.2.2.2.2.2.2.2.1,v.2.2.2.2.2.2.2.2.2.2.2.2.2.2.2.2.2.1,())),v.2.2.2.2.2.2.2.2.2.2.2.2.2.1,v.2.2.2.2.2.2.2.2.2.2.2.2.2.2.1,v.2.2.2.2.2.2.2.2.2.2.2.2.2.2.2.1,v.2.2.2.2.2.2.2.2.2.2.2.2.2.2.2.2.1,v.2.2.2.2.2.2.2.2.2.2.2.2.2.2.2.2.2.1,()))) (none))) else none) else none) (κ (1,(v.1,v.2.1,v.2.2.1,v.2.2.2.1,v.2.2.2.2.1,v.2.2.2.2.2.1,v.2.2.2.2.2.2.1,v.2.2.2.2.2.2.2.1,v.2.2.2.2.2.2.2.2.1,v.2.2.2.2.2.2.2.2.2.1,v.2.2.2.2.2.2.2.2.2.2.1,v.2.2.2.2.2.2.2.2.2.2.2.1,v.2.2.2.2.2.2.2.2.2.2.2.2.1,v.2.2.2.2.2.2.2.2.2.2.2.2.2.1,v.2.2.2.2.2.2.2.2.2.2.2.2.2.2.1,v.2.2.2.2.2.2.2.2.2.2.2.2.2.2.2.1,v.2.2.2.2.2.2.2.2.2.2.2.2.2.2.2.2.1,v.2.2.2.2.2.2.2.2.2.2.2.2.2.2.2.2.2.1,())))
def rq (v : tQ) : Option (Nat × tQ) := sE v some
def zw (v : tQ) : Nat := v.1.length + v.2.1.length + v.2.2.1.toNat + v.2.2.2.1.toNat + v.2.2.2.2.2.1.1.length + v.2.2.2.2.2.1.2.1.length + v.2.2.2.2.2.2.1.length + v.2.2.2.2.2.2.2.2.1.1.length + v.2.2.2.2.2.2.2.2.1.2.1.length + v.2.2.2.2.2.2.2.2.2.2.1.length + v.2.2.2.2.2.2.2.2.2.2.2.1.length + v.2.2.2.2.2.2.2.2.2.2.2.2.1.length + v.2.2.2.2.2.2.2.2.2.2.2.2.2.1.length + v.2.2.2.2.2.2.2.2.2.2.2.2.2.2.1.length + v.2.2.2.2.2.2.2.2.2.2.2.2.2.2.2.1.length + v.2.2.2.2.2.2.2.2.2.2.2.2.2.2.2.2.1.length + v.2.2.2.2.2.2.2.2.2.2.2.2.2.2.2.2.2.1.length + 100
def Mv (h0 : List (Ty.T aa)) (h1 : List (Ty.T (.sl 3 (.int .i64)))) (h2 : Int) (h3 : Int) (h4 : Bool) (h5 : Ty.T y36) (h6 : List (Ty.T aa)) (h7 : Ty.T y48) (h8 : Ty.T y36) (h9 : Ty.T y48) (h10 : List (Ty.T (.sl 3 (.int .i64)))) (h11 : List (Ty.T (.int .i64))) (h12 : List (Ty.T (.int .i64))) (h13 : List (Ty.T y48)) (h14 : List (Ty.T (.int .i64))) (h15 : List (Ty.T aa)) (h16 : List (Ty.T (.int .i64))) (h17 : List (Ty.T an)) (c : Nat) : Bool := iK rq zw (h0,h1,h2,h3,h4,h5,h6,h7,h8,h9,h10,h11,h12,h13,h14,h15,h16,h17,()) c
def MG (h0 : List (Ty.T aa)) (h1 : List (Ty.T (.sl 3 (.int .i64)))) (h2 : Int) (h3 : Int) (h4 : Bool) (h5 : Ty.T y36) (h6 : List (Ty.T aa)) (h7 : Ty.T y48) (h8 : Ty.T y36) (h9 : Ty.T y48) (h10 : List (Ty.T (.sl 3 (.int .i64)))) (h11 : List (Ty.T (.int .i64))) (h12 : List (Ty.T (.int .i64))) (h13 : List (Ty.T y48)) (h14 : List (Ty.T (.int .i64))) (h15 : List (Ty.T aa)) (h16 : List (Ty.T (.int .i64))) (h17 : List (Ty.T an)) : tQ := iW rq zw (h0,h1,h2,h3,h4,h5,h6,h7,h8,h9,h10,h11,h12,h13,h14,h15,h16,h17,())
def MX (v : tQ) : aL (Ex × St) := aM rq (zw v) v (ar C2 lZ) [.exit 2] 0
theorem Sn : aH Tryz.prog (aw [true,true,true,true,false,true] (aw (pb 4 7) (ab Tryz.f19))) C2 lZ MX := ag (lt := (aX [true,false,true] (aw [true,true,true,true,false,true] (aw (pb 4 7) (ab Tryz.f19))) .none (.sum yI lZ MU))) E19.ok ak (af.cX (aA (by kernel_rfl)) (af.no _) Ur) fun n v K => et (sE v (bL _ _ _ _ _ K)) (by kernel_rfl) (show sE v _ = (sE v some).bind _ from (bC (bI (bI (bO fun x1 => (bC rfl rfl)))) rfl))
@[reducible] def Dh : List SP := .und :: .one (.dat (.sl 103 aa) true) :: .und :: .one (.ptr 3 0) :: .und :: .one (.ptr 5 0) :: .one (.dat (.sl 28 (.sl 3 (.int .i64))) false) :: .one (.own 13) :: .one (.own 14) :: U32 (U16 (U4 ([])))
@[reducible] def B7 : List (Nat × GP) := [(3,.box 37 [.dat y36 true]),(5,.box 56 [.dat y48 false]),(13,.arr 28 (.sl 3 (.int .i64)) false),(14,.arr 3 (.int .i64) false)]
@[reducible] def ns : Type := (List (Ty.T aa)) × (List (Ty.T (.sl 3 (.int .i64)))) × (Ty.T y36) × (Ty.T y48) × (List (Ty.T (.sl 3 (.int .i64)))) × (List (Ty.T (.int .i64))) × Unit
def dW (v : ns) := (MG v.1 v.2.1 0 ((v.2.2.2.2.1).length : Int) (decide (((v.2.2.2.2.1).length : Int) < (40 : Int))) v.2.2.1 v.1 v.2.2.2.1 v.2.2.1 v.2.2.2.1 v.2.2.2.2.1 v.2.2.2.2.2.1 [] (v76 v.2.2.1 v.1 v.2.2.2.1 v.2.2.2.2.2.1).1 (v77 (v76 v.2.2.1 v.1 v.2.2.2.1 v.2.2.2.2.2.1).2.2.2) (v76 v.2.2.1 v.1 v.2.2.2.1 v.2.2.2.2.2.1).2.1 (v76 v.2.2.1 v.1 v.2.2.2.1 v.2.2.2.2.2.1).2.2.1 (v76 v.2.2.1 v.1 v.2.2.2.1 v.2.2.2.2.2.1).2.2.2)
def Eo (v : ns) := (v78 (dW v).2.2.2.2.2.2.2.2.2.2.2.2.2.2.1 (dW v).2.2.2.2.2.2.2.2.2.2.2.2.1)
def uv (v : ns) {Z : Type} (κ : Nat × ns -> Option Z) : Option Z := cond (decide (((v.2.2.2.2.1).length : Int) < (40 : Int))) (cond (d76 v.2.2.1 v.1 v.2.2.2.1 v.2.2.2.2.2.1) (cond (d77 (v76 v.2.2.1 v.1 v.2.2.2.1 v.2.2.2.2.2.1).2.2.2) (cond (Mv v.1 v.2.1 0 ((v.2.2.2.2.1).length : Int) (decide (((v.2.2.2.2.1).length : Int) < (40 : Int))) v.2.2.1 v.1 v.2.2.2.1 v.2.2.1 v.2.2.2.1 v.2.2.2.2.1 v.2.2.2.2.2.1 [] (v76 v.2.2.1 v.1 v.2.2.2.1 v.2.2.2.2.2.1).1 (v77 (v76 v.2.2.1 v.1 v.2.2.2.1 v.2.2.2.2.2.1).2.2.2) (v76 v.2.2.1 v.1 v.2.2.2.1 v.2.2.2.2.2.1).2.1 (v76 v.2.2.1 v.1 v.2.2.2.1 v.2.2.2.2.2.1).2.2.1 (v76 v.2.2.1 v.1 v.2.2.2.1 v.2.2.2.2.2.1).2.2.2 0) (if ((dW v).2.2.2.2.2.2.2.2.2.2.1 ++ [(dW v).2.2.2.2.2.2.2.2.2.2.2.2.2.2.1] : List (Ty.T (.sl 3 (.int .i64)))).length * 24 <= 140737488351232 then (cond (d78 (dW v).2.2.2.2.2.2.2.2.2.2.2.2.2.2.1 (dW v).2.2.2.2.2.2.2.2.2.2.2.2.1) (cond ((((Eo v)).length : Int) == (0 : Int)) (κ (1,((dW v).1,(dW v).2.1,(dW v).2.2.2.2.2.2.2.2.1,(dW v).2.2.2.2.2.2.2.2.2.1,(dW v).2.2.2.2.2.2.2.2.2.2.1 ++ [(dW v).2.2.2.2.2.2.2.2.2.2.2.2.2.2.1],(Eo v),()))) (κ (0,((dW v).1,(dW v).2.1,(dW v).2.2.2.2.2.2.2.2.1,(dW v).2.2.2.2.2.2.2.2.2.1,(dW v).2.2.2.2.2.2.2.2.2.2.1 ++ [(dW v).2.2.2.2.2.2.2.2.2.2.2.2.2.2.1],(Eo v),())))) (none)) else none) (none)) (none)) (none)) (κ (1,(v.1,v.2.1,v.2.2.1,v.2.2.2.1,v.2.2.2.2.1,v.2.2.2.2.2.1,())))
def qp (v : ns) : Option (Nat × ns) := uv v some
def Bi (v : ns) : Nat := v.1.length + v.2.1.length + v.2.2.1.1.length + v.2.2.1.2.1.length + v.2.2.2.2.1.length + v.2.2.2.2.2.1.length + 100
def MN (h0 : List (Ty.T aa)) (h1 : List (Ty.T (.sl 3 (.int .i64)))) (h2 : Ty.T y36) (h3 : Ty.T y48) (h4 : List (Ty.T (.sl 3 (.int .i64)))) (h5 : List (Ty.T (.int .i64))) (c : Nat) : Bool := iK qp Bi (h0,h1,h2,h3,h4,h5,()) c
def Np (h0 : List (Ty.T aa)) (h1 : List (Ty.T (.sl 3 (.int .i64)))) (h2 : Ty.T y36) (h3 : Ty.T y48) (h4 : List (Ty.T (.sl 3 (.int .i64)))) (h5 : List (Ty.T (.int .i64))) : ns := iW qp Bi (h0,h1,h2,h3,h4,h5,())
def Mw (v : ns) : aL (Ex × St) := aM qp (Bi v) v (ar Dh B7) [.exit 0] 0
theorem S0 : aH Tryz.prog (aw (pb 4 7) (ab Tryz.f19)) Dh B7 Mw := ag (lt := (aX [true,true,true,true,false,true] (aw (pb 4 7) (ab Tryz.f19)) .none (.sum C2 lZ MX))) E19.ok ak (af.zZ (by kernel_rfl) (aA (by kernel_rfl)) (af.no _) Sn) fun n v K => et (uv v (bL _ _ _ _ _ K)) (by kernel_rfl) (show uv v _ = (uv v some).bind _ from (bC (bC (bC (bC (bI (bC (bC rfl rfl) rfl)) rfl) rfl) rfl) rfl))
def abP := E19.l (g := 19) (t := (aX (pb 4 7) (ab Tryz.f19) .none (.sum Dh B7 Mw))) (aC Tryz.func19 (af.zZ (by kernel_rfl) (aA (by kernel_rfl)) (af.no _) S0))
def t19 (a0 : Ty.T y36) (a1 : List (Ty.T aa)) (a2 : Ty.T y48) {Z : Type} (κ : (List (Ty.T (.sl 3 (.int .i64)))) -> Option Z) : Option Z := cond (MN a1 [] a0 a2 [] [] 0) (κ (Np a1 [] a0 a2 [] []).2.2.2.2.1) (none)
def v19 (a0 : Ty.T y36) (a1 : List (Ty.T aa)) (a2 : Ty.T y48) : (List (Ty.T (.sl 3 (.int .i64)))) := (t19 a0 a1 a2 some).getD []
def d19 (a0 : Ty.T y36) (a1 : List (Ty.T aa)) (a2 : Ty.T y48) : Bool := (t19 a0 a1 a2 some).isSome
def p19 : Prim := ⟨[.agg [.dat y36 true],.one (.dat (.sl 103 aa) true),.agg [.dat y48 true]],fun v => .br (d19 v.1 v.2.1 v.2.2.1) (.done (f19 (v19 v.1 v.2.1 v.2.2.1))) .no⟩
theorem YR : PO 19 p19 := pK abP fun v => et ((t19 v.1 v.2.1 v.2.2.1 (sm f19))) (by kernel_rfl) (aN (show t19 v.1 v.2.1 v.2.2.1 (sm f19) = (t19 v.1 v.2.1 v.2.2.1 some).bind _ from (bC rfl rfl)))
def f150 (r : (Ty.T ah)) : AV × Sig := (.agg (ah.cells false r),[])
def Xw := (E0).n
def Ug (a0 : Ty.T ah) : Option (AV × Sig) := some (.agg [.int .i64 a0.1,.int .i64 a0.2.1,.int .i64 a0.2.2.1,.int .i64 a0.2.2.2.1,.int .i64 a0.2.2.2.2.1,.int .i64 a0.2.2.2.2.2.1,.int .i64 a0.2.2.2.2.2.2.1,.int .i64 a0.2.2.2.2.2.2.2.1,.int .i64 a0.2.2.2.2.2.2.2.2.1,.int .i64 a0.2.2.2.2.2.2.2.2.2.1,.int .i64 a0.2.2.2.2.2.2.2.2.2.2.1,.bool a0.2.2.2.2.2.2.2.2.2.2.2.1,.bool a0.2.2.2.2.2.2.2.2.2.2.2.2],[])
def Lm (a0 : Ty.T ah) : (Ty.T ah) := a0
theorem Zv (a0 : Ty.T ah) : Ug a0 = some (f150 (Lm a0)) := rfl
def abH : Prim := ⟨[.agg [.dat ah true]],fun v => .done (f150 (Lm v.1))⟩
theorem UA : PO 150 abH := pK Xw fun v => et (Ug v.1) (by kernel_rfl) (Zv v.1)
def f79 (r : (List (Ty.T ah))) : AV × Sig := (.one (.sl 4096),[(4096,.arr 180 ah r false)])
def E79 := ((E0.p UA)).n
@[reducible] def DV : List SP := .one (.dat (.sl 200 ah) true) :: .und :: .one (.dat (.sl 180 ah) false) :: .one (.own 7) :: oI :: U16 (U2 ([]))
@[reducible] def BV : List (Nat × GP) := [(7,.arr 180 ah false)]
@[reducible] def su : Type := (List (Ty.T ah)) × (List (Ty.T ah)) × Int × (List (Ty.T ah)) × Unit
def wb (v : su) {Z : Type} (κ : Nat × su -> Option Z) : Option Z := cond (decide (v.2.2.1 < ((v.1).length : Int))) (if 0 <= v.2.2.1 then (ay ((v.1)[(v.2.2.1).toNat]?) (fun x1 => if 0 <= v.2.2.1 then (if v.2.2.1 < ((v.2.2.2.1).length : Int) then (ay ((v.2.2.2.1)[(v.2.2.1).toNat]?) (fun x2 => κ (0,(v.1,v.2.1,IntKind.wrap .i64 (v.2.2.1 + (1 : Int)),v.2.2.2.1.set ((v.2.2.1).toNat) (Lm x1),())))) else none) else none)) else none) (κ (1,(v.1,v.2.1,v.2.2.1,v.2.2.2.1,())))
def sf (v : su) : Option (Nat × su) := wb v some
def As (v : su) : Nat := v.1.length + v.2.1.length + v.2.2.1.toNat + v.2.2.2.1.length + 100
def vW (h0 : List (Ty.T ah)) (h1 : List (Ty.T ah)) (h2 : Int) (h3 : List (Ty.T ah)) (c : Nat) : Bool := iK sf As (h0,h1,h2,h3,()) c
def D7 (h0 : List (Ty.T ah)) (h1 : List (Ty.T ah)) (h2 : Int) (h3 : List (Ty.T ah)) : su := iW sf As (h0,h1,h2,h3,())
def Nl (v : su) : aL (Ex × St) := aM sf (As v) v (ar DV BV) [.exit 0] 0
theorem Se : aH Tryz.prog (aw (pb 4 11) (ab Tryz.f79)) DV BV Nl := ag (lt := .none) E79.ok ak (af.no _) fun n v K => et (wb v (bL _ _ _ _ _ K)) (by kernel_rfl) (show wb v _ = (wb v some).bind _ from (bC (bI (bO fun x1 => (bI (bI (bO fun x2 => rfl))))) rfl))
def acJ := E79.l (g := 79) (t := (a9 (pb 4 11) (ab Tryz.f79) .none (.sum DV BV Nl))) (aC Tryz.func79 (af.put (aA (by kernel_rfl)) (af.no _) Se))
def u79 (a0 : List (Ty.T ah)) : Option (AV × Sig) := if ((a0).length : Int) = ((a0).length : Int) then (if ((a0).length : Int).toNat * 96 <= 140737488351232 then (cond (vW a0 [] 0 (List.replicate ((a0).length : Int).toNat ((0,0,0,0,0,0,0,0,0,0,0,false,false) : Ty.T ah)) 0) (some (.one (.sl 4096),[(4096,.arr 180 ah (D7 a0 [] 0 (List.replicate ((a0).length : Int).toNat ((0,0,0,0,0,0,0,0,0,0,0,false,false) : Ty.T ah))).2.2.2.1 false)])) (none)) else none) else none
def v79 (a0 : List (Ty.T ah)) : (List (Ty.T ah)) := cond (vW a0 [] 0 (List.replicate ((a0).length : Int).toNat ((0,0,0,0,0,0,0,0,0,0,0,false,false) : Ty.T ah)) 0) ((D7 a0 [] 0 (List.replicate ((a0).length : Int).toNat ((0,0,0,0,0,0,0,0,0,0,0,false,false) : Ty.T ah))).2.2.2.1) ([])
def d79 (a0 : List (Ty.T ah)) : Bool := decide (((a0).length : Int) = ((a0).length : Int)) && (decide (((a0).length : Int).toNat * 96 <= 140737488351232) && (cond (vW a0 [] 0 (List.replicate ((a0).length : Int).toNat ((0,0,0,0,0,0,0,0,0,0,0,false,false) : Ty.T ah)) 0) (true) (false)))
theorem o79 (a0 : List (Ty.T ah)) : u79 a0 = cond (d79 a0) (some (f79 (v79 a0))) none := (pI (pI (pC (pS _) (pN _))))
def p79 : Prim := ⟨[.one (.dat (.sl 200 ah) true)],fun v => .br (d79 v.1) (.done (f79 (v79 v.1))) .no⟩
theorem Xt : PO 79 p79 := pK acJ fun v => et (u79 v.1) (by kernel_rfl) (o79 v.1)
def f151 (r : (Ty.T aD)) : AV × Sig := (.agg (aD.cells false r),[])
def Zd := (E0).n
def Tt (a0 : Ty.T aD) : Option (AV × Sig) := some (.agg [.int .i64 a0.1,.int .i64 a0.2.1,.bool a0.2.2],[])
def Mp (a0 : Ty.T aD) : (Ty.T aD) := a0
theorem WS (a0 : Ty.T aD) : Tt a0 = some (f151 (Mp a0)) := rfl
def Xb : Prim := ⟨[.agg [.dat aD true]],fun v => .done (f151 (Mp v.1))⟩
theorem U5 : PO 151 Xb := pK Zd fun v => et (Tt v.1) (by kernel_rfl) (WS v.1)
def f80 (r : (List (Ty.T aD))) : AV × Sig := (.one (.sl 4096),[(4096,.arr 182 aD r false)])
def E80 := ((E0.p U5)).n
@[reducible] def DS : List SP := .one (.dat (.sl 202 aD) true) :: .und :: .one (.dat (.sl 182 aD) false) :: .one (.own 7) :: oI :: U16 (U2 ([]))
@[reducible] def C9 : List (Nat × GP) := [(7,.arr 182 aD false)]
@[reducible] def tu : Type := (List (Ty.T aD)) × (List (Ty.T aD)) × Int × (List (Ty.T aD)) × Unit
def vc (v : tu) {Z : Type} (κ : Nat × tu -> Option Z) : Option Z := cond (decide (v.2.2.1 < ((v.1).length : Int))) (if 0 <= v.2.2.1 then (ay ((v.1)[(v.2.2.1).toNat]?) (fun x1 => if 0 <= v.2.2.1 then (if v.2.2.1 < ((v.2.2.2.1).length : Int) then (ay ((v.2.2.2.1)[(v.2.2.1).toNat]?) (fun x2 => κ (0,(v.1,v.2.1,IntKind.wrap .i64 (v.2.2.1 + (1 : Int)),v.2.2.2.1.set ((v.2.2.1).toNat) (Mp x1),())))) else none) else none)) else none) (κ (1,(v.1,v.2.1,v.2.2.1,v.2.2.2.1,())))
def sV (v : tu) : Option (Nat × tu) := vc v some
def Ba (v : tu) : Nat := v.1.length + v.2.1.length + v.2.2.1.toNat + v.2.2.2.1.length + 100
def uU (h0 : List (Ty.T aD)) (h1 : List (Ty.T aD)) (h2 : Int) (h3 : List (Ty.T aD)) (c : Nat) : Bool := iK sV Ba (h0,h1,h2,h3,()) c
def E8 (h0 : List (Ty.T aD)) (h1 : List (Ty.T aD)) (h2 : Int) (h3 : List (Ty.T aD)) : tu := iW sV Ba (h0,h1,h2,h3,())
def NH (v : tu) : aL (Ex × St) := aM sV (Ba v) v (ar DS C9) [.exit 0] 0
theorem Vo : aH Tryz.prog (aw (pb 4 11) (ab Tryz.f80)) DS C9 NH := ag (lt := .none) E80.ok ak (af.no _) fun n v K => et (vc v (bL _ _ _ _ _ K)) (by kernel_rfl) (show vc v _ = (vc v some).bind _ from (bC (bI (bO fun x1 => (bI (bI (bO fun x2 => rfl))))) rfl))
def aam := E80.l (g := 80) (t := (a9 (pb 4 11) (ab Tryz.f80) .none (.sum DS C9 NH))) (aC Tryz.func80 (af.put (aA (by kernel_rfl)) (af.no _) Vo))
def u80 (a0 : List (Ty.T aD)) : Option (AV × Sig) := if ((a0).length : Int) = ((a0).length : Int) then (if ((a0).length : Int).toNat * 24 <= 140737488351232 then (cond (uU a0 [] 0 (List.replicate ((a0).length : Int).toNat ((0,0,false) : Ty.T aD)) 0) (some (.one (.sl 4096),[(4096,.arr 182 aD (E8 a0 [] 0 (List.replicate ((a0).length : Int).toNat ((0,0,false) : Ty.T aD))).2.2.2.1 false)])) (none)) else none) else none
def v80 (a0 : List (Ty.T aD)) : (List (Ty.T aD)) := cond (uU a0 [] 0 (List.replicate ((a0).length : Int).toNat ((0,0,false) : Ty.T aD)) 0) ((E8 a0 [] 0 (List.replicate ((a0).length : Int).toNat ((0,0,false) : Ty.T aD))).2.2.2.1) ([])
def d80 (a0 : List (Ty.T aD)) : Bool := decide (((a0).length : Int) = ((a0).length : Int)) && (decide (((a0).length : Int).toNat * 24 <= 140737488351232) && (cond (uU a0 [] 0 (List.replicate ((a0).length : Int).toNat ((0,0,false) : Ty.T aD)) 0) (true) (false)))
theorem o80 (a0 : List (Ty.T aD)) : u80 a0 = cond (d80 a0) (some (f80 (v80 a0))) none := (pI (pI (pC (pS _) (pN _))))
def p80 : Prim := ⟨[.one (.dat (.sl 202 aD) true)],fun v => .br (d80 v.1) (.done (f80 (v80 v.1))) .no⟩
theorem aci : PO 80 p80 := pK aam fun v => et (u80 v.1) (by kernel_rfl) (o80 v.1)
def f20 (r : Int × Int × (List (Ty.T ah)) × (List (Ty.T aD))) : AV × Sig := (.agg ([.sl 4096] ++ [.sl 8192] ++ [.int .i64 r.1] ++ [.int .i64 r.2.1]),[(4096,.arr 180 ah r.2.2.1 false),(8192,.arr 182 aD r.2.2.2 false)])
def E20 := (((E0.p Xt).p aci)).n
def u20 (a0 : Ty.T y24) : Option (AV × Sig) := cond (d79 a0.1) (cond (d80 a0.2.1) (some (.agg [.sl 4096,.sl 8192,.int .i64 a0.2.2.1,.int .i64 a0.2.2.2],[(4096,.arr 180 ah (v79 a0.1) false),(8192,.arr 182 aD (v80 a0.2.1) false)])) (none)) (none)
def v20 (a0 : Ty.T y24) : Int × Int × (List (Ty.T ah)) × (List (Ty.T aD)) := cond (d79 a0.1) (cond (d80 a0.2.1) ((a0.2.2.1,a0.2.2.2,(v79 a0.1),(v80 a0.2.1))) ((0,0,[],[]))) ((0,0,[],[]))
def d20 (a0 : Ty.T y24) : Bool := cond (d79 a0.1) (cond (d80 a0.2.1) (true) (false)) (false)
theorem o20 (a0 : Ty.T y24) : u20 a0 = cond (d20 a0) (some (f20 (v20 a0))) none := (pC (pC (pS _) (pN _)) (pN _))
def p20 : Prim := ⟨[.agg [.dat y24 true]],fun v => .br (d20 v.1) (.done (f20 (v20 v.1))) .no⟩
theorem VP : PO 20 p20 := pK E20 fun v => et (u20 v.1) (by kernel_rfl) (o20 v.1)
def f152 (r : (Ty.T y96)) : AV × Sig := (.agg (y96.cells false r),[])
def XR := (E0).n
def UH (a0 : Ty.T y96) : Option (AV × Sig) := some (.agg [.int .i64 a0.1,.int .i64 a0.2.1,.int .i64 a0.2.2.1,.int .i64 a0.2.2.2.1,.int .i64 a0.2.2.2.2.1,.int .i64 a0.2.2.2.2.2.1,.int .i64 a0.2.2.2.2.2.2],[])
def qx (a0 : Ty.T y96) : (Ty.T y96) := a0
theorem aaG (a0 : Ty.T y96) : UH a0 = some (f152 (qx a0)) := rfl
def WA : Prim := ⟨[.agg [.dat y96 true]],fun v => .done (f152 (qx v.1))⟩
theorem UM : PO 152 WA := pK XR fun v => et (UH v.1) (by kernel_rfl) (aaG v.1)
def f153 (r : (Ty.T y98)) : AV × Sig := (.agg (y98.cells false r),[])
def YJ := (E0).n
def Vs (a0 : Ty.T y98) : Option (AV × Sig) := some (.agg [.int .i64 a0.1,.int .i64 a0.2],[])
def Cl (a0 : Ty.T y98) : (Ty.T y98) := a0
theorem Xu (a0 : Ty.T y98) : Vs a0 = some (f153 (Cl a0)) := rfl
def aaC : Prim := ⟨[.agg [.dat y98 true]],fun v => .done (f153 (Cl v.1))⟩
theorem SI : PO 153 aaC := pK YJ fun v => et (Vs v.1) (by kernel_rfl) (Xu v.1)
def f22 (r : (Ty.T y48)) : AV × Sig := (.agg (y48.cells false r),[])
def E22 := (E0).n
def u22 (a0 : Ty.T y48) : Option (AV × Sig) := some (.agg [.int .i64 a0.1,.int .i64 a0.2.1,.int .i64 a0.2.2.1,.int .i64 a0.2.2.2.1,.int .i64 a0.2.2.2.2.1,.int .i64 a0.2.2.2.2.2.1,.bool a0.2.2.2.2.2.2],[])
def v22 (a0 : Ty.T y48) : (Ty.T y48) := a0
theorem o22 (a0 : Ty.T y48) : u22 a0 = some (f22 (v22 a0)) := rfl
def p22 : Prim := ⟨[.agg [.dat y48 true]],fun v => .done (f22 (v22 v.1))⟩
theorem Q6 : PO 22 p22 := pK E22 fun v => et (u22 v.1) (by kernel_rfl) (o22 v.1)
def f164 (r : (List (Ty.T y48))) : AV × Sig := (.one (.sl 4096),[(4096,.arr 56 y48 r false)])
def Qv := ((E0.p Q6)).n
@[reducible] def xU : List SP := .one (.dat (.sl 49 y48) true) :: .und :: .one (.dat (.sl 56 y48) false) :: .one (.own 7) :: oI :: U16 (U2 ([]))
@[reducible] def ze : List (Nat × GP) := [(7,.arr 56 y48 false)]
@[reducible] def mh : Type := (List (Ty.T y48)) × (List (Ty.T y48)) × Int × (List (Ty.T y48)) × Unit
def ou (v : mh) {Z : Type} (κ : Nat × mh -> Option Z) : Option Z := cond (decide (v.2.2.1 < ((v.1).length : Int))) (if 0 <= v.2.2.1 then (ay ((v.1)[(v.2.2.1).toNat]?) (fun x1 => if 0 <= v.2.2.1 then (if v.2.2.1 < ((v.2.2.2.1).length : Int) then (ay ((v.2.2.2.1)[(v.2.2.1).toNat]?) (fun x2 => κ (0,(v.1,v.2.1,IntKind.wrap .i64 (v.2.2.1 + (1 : Int)),v.2.2.2.1.set ((v.2.2.1).toNat) (v22 x1),())))) else none) else none)) else none) (κ (1,(v.1,v.2.1,v.2.2.1,v.2.2.2.1,())))
def l9 (v : mh) : Option (Nat × mh) := ou v some
def r8 (v : mh) : Nat := v.1.length + v.2.1.length + v.2.2.1.toNat + v.2.2.2.1.length + 100
def n9 (h0 : List (Ty.T y48)) (h1 : List (Ty.T y48)) (h2 : Int) (h3 : List (Ty.T y48)) (c : Nat) : Bool := iK l9 r8 (h0,h1,h2,h3,()) c
def yM (h0 : List (Ty.T y48)) (h1 : List (Ty.T y48)) (h2 : Int) (h3 : List (Ty.T y48)) : mh := iW l9 r8 (h0,h1,h2,h3,())
def G5 (v : mh) : aL (Ex × St) := aM l9 (r8 v) v (ar xU ze) [.exit 0] 0
theorem O1 : aH Tryz.prog (aw (pb 4 11) (ab Tryz.f164)) xU ze G5 := ag (lt := .none) Qv.ok ak (af.no _) fun n v K => et (ou v (bL _ _ _ _ _ K)) (by kernel_rfl) (show ou v _ = (ou v some).bind _ from (bC (bI (bO fun x1 => (bI (bI (bO fun x2 => rfl))))) rfl))
def SB := Qv.l (g := 164) (t := (a9 (pb 4 11) (ab Tryz.f164) .none (.sum xU ze G5))) (aC Tryz.func164 (af.put (aA (by kernel_rfl)) (af.no _) O1))
def Sj (a0 : List (Ty.T y48)) : Option (AV × Sig) := if ((a0).length : Int) = ((a0).length : Int) then (if ((a0).length : Int).toNat * 56 <= 140737488351232 then (cond (n9 a0 [] 0 (List.replicate ((a0).length : Int).toNat ((0,0,0,0,0,0,false) : Ty.T y48)) 0) (some (.one (.sl 4096),[(4096,.arr 56 y48 (yM a0 [] 0 (List.replicate ((a0).length : Int).toNat ((0,0,0,0,0,0,false) : Ty.T y48))).2.2.2.1 false)])) (none)) else none) else none
def Hf (a0 : List (Ty.T y48)) : (List (Ty.T y48)) := cond (n9 a0 [] 0 (List.replicate ((a0).length : Int).toNat ((0,0,0,0,0,0,false) : Ty.T y48)) 0) ((yM a0 [] 0 (List.replicate ((a0).length : Int).toNat ((0,0,0,0,0,0,false) : Ty.T y48))).2.2.2.1) ([])
def d164 (a0 : List (Ty.T y48)) : Bool := decide (((a0).length : Int) = ((a0).length : Int)) && (decide (((a0).length : Int).toNat * 56 <= 140737488351232) && (cond (n9 a0 [] 0 (List.replicate ((a0).length : Int).toNat ((0,0,0,0,0,0,false) : Ty.T y48)) 0) (true) (false)))
theorem aaJ (a0 : List (Ty.T y48)) : Sj a0 = cond (d164 a0) (some (f164 (Hf a0))) none := (pI (pI (pC (pS _) (pN _))))
def Y0 : Prim := ⟨[.one (.dat (.sl 49 y48) true)],fun v => .br (d164 v.1) (.done (f164 (Hf v.1))) .no⟩
theorem RR : PO 164 Y0 := pK SB fun v => et (Sj v.1) (by kernel_rfl) (aaJ v.1)
def f154 (r : Int × Int × Int × Int × Int × Bool × (List (Ty.T y48))) : AV × Sig := (.agg ([.int .i64 r.1] ++ [.int .i64 r.2.1] ++ [.int .i64 r.2.2.1] ++ [.int .i64 r.2.2.2.1] ++ [.int .i64 r.2.2.2.2.1] ++ [.bool r.2.2.2.2.2.1] ++ [.sl 28672]),[(28672,.arr 56 y48 r.2.2.2.2.2.2 false)])
def ZX := ((E0.p RR)).n
def SX (a0 : Ty.T jx) : Option (AV × Sig) := cond (d164 a0.2.2.2.2.2.2) (some (.agg [.int .i64 a0.1,.int .i64 a0.2.1,.int .i64 a0.2.2.1,.int .i64 a0.2.2.2.1,.int .i64 a0.2.2.2.2.1,.bool a0.2.2.2.2.2.1,.sl 28672],[(28672,.arr 56 y48 (Hf a0.2.2.2.2.2.2) false)])) (none)
def jz (a0 : Ty.T jx) : Int × Int × Int × Int × Int × Bool × (List (Ty.T y48)) := cond (d164 a0.2.2.2.2.2.2) ((a0.1,a0.2.1,a0.2.2.1,a0.2.2.2.1,a0.2.2.2.2.1,a0.2.2.2.2.2.1,(Hf a0.2.2.2.2.2.2))) ((0,0,0,0,0,false,[]))
def d154 (a0 : Ty.T jx) : Bool := cond (d164 a0.2.2.2.2.2.2) (true) (false)
theorem W0 (a0 : Ty.T jx) : SX a0 = cond (d154 a0) (some (f154 (jz a0))) none := (pC (pS _) (pN _))
def Y3 : Prim := ⟨[.agg [.dat jx true]],fun v => .br (d154 v.1) (.done (f154 (jz v.1))) .no⟩
theorem Tn : PO 154 Y3 := pK ZX fun v => et (SX v.1) (by kernel_rfl) (W0 v.1)
def f81 (r : Int × Int × Int × Int × (Ty.T y96) × (Ty.T y98) × Int × Int × Int × Int × Int × Bool × Int × Int × (List (Ty.T y48))) : AV × Sig := (.agg ([.int .i64 r.1] ++ [.int .i64 r.2.1] ++ [.int .i64 r.2.2.1] ++ [.int .i64 r.2.2.2.1] ++ (y96.cells false r.2.2.2.2.1) ++ (y98.cells false r.2.2.2.2.2.1) ++ [.int .i64 r.2.2.2.2.2.2.1] ++ [.int .i64 r.2.2.2.2.2.2.2.1] ++ [.int .i64 r.2.2.2.2.2.2.2.2.1] ++ [.int .i64 r.2.2.2.2.2.2.2.2.2.1] ++ [.int .i64 r.2.2.2.2.2.2.2.2.2.2.1] ++ [.bool r.2.2.2.2.2.2.2.2.2.2.2.1] ++ [.sl 81920] ++ [.int .i64 r.2.2.2.2.2.2.2.2.2.2.2.2.1] ++ [.int .i64 r.2.2.2.2.2.2.2.2.2.2.2.2.2.1]),[(81920,.arr 56 y48 r.2.2.2.2.2.2.2.2.2.2.2.2.2.2 false)])
def E81 := ((((E0.p UM).p SI).p Tn)).n
def u81 (a0 : Ty.T bF) : Option (AV × Sig) := cond (d154 a0.2.2.2.2.2.2.1) (some (.agg [.int .i64 a0.1,.int .i64 a0.2.1,.int .i64 a0.2.2.1,.int .i64 a0.2.2.2.1,.int .i64 (qx a0.2.2.2.2.1).1,.int .i64 (qx a0.2.2.2.2.1).2.1,.int .i64 (qx a0.2.2.2.2.1).2.2.1,.int .i64 (qx a0.2.2.2.2.1).2.2.2.1,.int .i64 (qx a0.2.2.2.2.1).2.2.2.2.1,.int .i64 (qx a0.2.2.2.2.1).2.2.2.2.2.1,.int .i64 (qx a0.2.2.2.2.1).2.2.2.2.2.2,.int .i64 (Cl a0.2.2.2.2.2.1).1,.int .i64 (Cl a0.2.2.2.2.2.1).2,.int .i64 (jz a0.2.2.2.2.2.2.1).1,.int .i64 (jz a0.2.2.2.2.2.2.1).2.1,.int .i64 (jz a0.2.2.2.2.2.2.1).2.2.1,.int .i64 (jz a0.2.2.2.2.2.2.1).2.2.2.1,.int .i64 (jz a0.2.2.2.2.2.2.1).2.2.2.2.1,.bool (jz a0.2.2.2.2.2.2.1).2.2.2.2.2.1,.sl 81920,.int .i64 a0.2.2.2.2.2.2.2.1,.int .i64 a0.2.2.2.2.2.2.2.2],[(81920,.arr 56 y48 (jz a0.2.2.2.2.2.2.1).2.2.2.2.2.2 false)])) (none)
def v81 (a0 : Ty.T bF) : Int × Int × Int × Int × (Ty.T y96) × (Ty.T y98) × Int × Int × Int × Int × Int × Bool × Int × Int × (List (Ty.T y48)) := cond (d154 a0.2.2.2.2.2.2.1) ((a0.1,a0.2.1,a0.2.2.1,a0.2.2.2.1,(qx a0.2.2.2.2.1),(Cl a0.2.2.2.2.2.1),(jz a0.2.2.2.2.2.2.1).1,(jz a0.2.2.2.2.2.2.1).2.1,(jz a0.2.2.2.2.2.2.1).2.2.1,(jz a0.2.2.2.2.2.2.1).2.2.2.1,(jz a0.2.2.2.2.2.2.1).2.2.2.2.1,(jz a0.2.2.2.2.2.2.1).2.2.2.2.2.1,a0.2.2.2.2.2.2.2.1,a0.2.2.2.2.2.2.2.2,(jz a0.2.2.2.2.2.2.1).2.2.2.2.2.2)) ((0,0,0,0,(0,0,0,0,0,0,0),(0,0),0,0,0,0,0,false,0,0,[]))
def d81 (a0 : Ty.T bF) : Bool := cond (d154 a0.2.2.2.2.2.2.1) (true) (false)
theorem o81 (a0 : Ty.T bF) : u81 a0 = cond (d81 a0) (some (f81 (v81 a0))) none := (pC (by kernel_rfl) (pN _))
def p81 : Prim := ⟨[.agg [.dat bF true]],fun v => .br (d81 v.1) (.done (f81 (v81 v.1))) .no⟩
theorem aa7 : PO 81 p81 := pK E81 fun v => et (u81 v.1) (by kernel_rfl) (o81 v.1)
def f21 (r : (List (Ty.T aa))) : AV × Sig := (.one (.nl 4096),[(4096,.nst 103 aa r)])
def E21 := ((E0.p aa7)).n
@[reducible] def DX : List SP := .one (.dat (.sl 122 bF) true) :: .und :: .one (.dat (.sl 103 aa) false) :: .one (.nest 7) :: oI :: U16 (U2 ([]))
@[reducible] def BH : List (Nat × GP) := [(7,.nst 103 aa)]
@[reducible] def s8 : Type := (List (Ty.T bF)) × (List (Ty.T aa)) × Int × (List (Ty.T aa)) × Unit
def vn (v : s8) {Z : Type} (κ : Nat × s8 -> Option Z) : Option Z := cond (decide (v.2.2.1 < ((v.1).length : Int))) (if 0 <= v.2.2.1 then (ay ((v.1)[(v.2.2.1).toNat]?) (fun x1 => cond (d81 x1) (if 0 <= v.2.2.1 then (if v.2.2.1 < ((v.2.2.2.1).length : Int) then (ay ((v.2.2.2.1)[(v.2.2.1).toNat]?) (fun x2 => κ (0,(v.1,v.2.1,IntKind.wrap .i64 (v.2.2.1 + (1 : Int)),v.2.2.2.1.set ((v.2.2.1).toNat) ((v81 x1).1,(v81 x1).2.1,(v81 x1).2.2.1,(v81 x1).2.2.2.1,(v81 x1).2.2.2.2.1,(v81 x1).2.2.2.2.2.1,((v81 x1).2.2.2.2.2.2.1,(v81 x1).2.2.2.2.2.2.2.1,(v81 x1).2.2.2.2.2.2.2.2.1,(v81 x1).2.2.2.2.2.2.2.2.2.1,(v81 x1).2.2.2.2.2.2.2.2.2.2.1,(v81 x1).2.2.2.2.2.2.2.2.2.2.2.1,(v81 x1).2.2.2.2.2.2.2.2.2.2.2.2.2.2),(v81 x1).2.2.2.2.2.2.2.2.2.2.2.2.1,(v81 x1).2.2.2.2.2.2.2.2.2.2.2.2.2.1),())))) else none) else none) (none))) else none) (κ (1,(v.1,v.2.1,v.2.2.1,v.2.2.2.1,())))
def qU (v : s8) : Option (Nat × s8) := vn v some
def AZ (v : s8) : Nat := v.1.length + v.2.1.length + v.2.2.1.toNat + v.2.2.2.1.length + 100
def uA (h0 : List (Ty.T bF)) (h1 : List (Ty.T aa)) (h2 : Int) (h3 : List (Ty.T aa)) (c : Nat) : Bool := iK qU AZ (h0,h1,h2,h3,()) c
def ER (h0 : List (Ty.T bF)) (h1 : List (Ty.T aa)) (h2 : Int) (h3 : List (Ty.T aa)) : s8 := iW qU AZ (h0,h1,h2,h3,())
def ML (v : s8) : aL (Ex × St) := aM qU (AZ v) v (ar DX BH) [.exit 0] 0
theorem Q5 : aH Tryz.prog (aw (pb 4 11) (ab Tryz.f21)) DX BH ML := ag (lt := .none) E21.ok ak (af.no _) fun n v K => et (vn v (bL _ _ _ _ _ K)) (by kernel_rfl) (show vn v _ = (vn v some).bind _ from (bC (bI (bO fun x1 => (bC (bI (bI (bO fun x2 => rfl))) rfl))) rfl))
def aaf := E21.l (g := 21) (t := (a9 (pb 4 11) (ab Tryz.f21) .none (.sum DX BH ML))) (aC Tryz.func21 (af.put (aA (by kernel_rfl)) (af.no _) Q5))
def u21 (a0 : List (Ty.T bF)) : Option (AV × Sig) := if ((a0).length : Int) = ((a0).length : Int) then (if ((a0).length : Int).toNat * 192 <= 140737488351232 then (cond (uA a0 [] 0 (List.replicate ((a0).length : Int).toNat ((0,0,0,0,(0,0,0,0,0,0,0),(0,0),(0,0,0,0,0,false,[]),0,0) : Ty.T aa)) 0) (some (.one (.nl 4096),[(4096,.nst 103 aa (ER a0 [] 0 (List.replicate ((a0).length : Int).toNat ((0,0,0,0,(0,0,0,0,0,0,0),(0,0),(0,0,0,0,0,false,[]),0,0) : Ty.T aa))).2.2.2.1)])) (none)) else none) else none
def v21 (a0 : List (Ty.T bF)) : (List (Ty.T aa)) := cond (uA a0 [] 0 (List.replicate ((a0).length : Int).toNat ((0,0,0,0,(0,0,0,0,0,0,0),(0,0),(0,0,0,0,0,false,[]),0,0) : Ty.T aa)) 0) ((ER a0 [] 0 (List.replicate ((a0).length : Int).toNat ((0,0,0,0,(0,0,0,0,0,0,0),(0,0),(0,0,0,0,0,false,[]),0,0) : Ty.T aa))).2.2.2.1) ([])
def d21 (a0 : List (Ty.T bF)) : Bool := decide (((a0).length : Int) = ((a0).length : Int)) && (decide (((a0).length : Int).toNat * 192 <= 140737488351232) && (cond (uA a0 [] 0 (List.replicate ((a0).length : Int).toNat ((0,0,0,0,(0,0,0,0,0,0,0),(0,0),(0,0,0,0,0,false,[]),0,0) : Ty.T aa)) 0) (true) (false)))
theorem o21 (a0 : List (Ty.T bF)) : u21 a0 = cond (d21 a0) (some (f21 (v21 a0))) none := (pI (pI (pC (pS _) (pN _))))
def p21 : Prim := ⟨[.one (.dat (.sl 122 bF) true)],fun v => .br (d21 v.1) (.done (f21 (v21 v.1))) .no⟩
theorem abq : PO 21 p21 := pK aaf fun v => et (u21 v.1) (by kernel_rfl) (o21 v.1)
def f185 (r : List (Ty.T y48)) : AV × Sig := (.one (.sl 4096),[(4096,.arr 56 y48 r false)])
def J3 (a0 : List (Ty.T y48)) : List (Ty.T y48) := a0
def d185 (a0 : List (Ty.T y48)) : Bool := decide (List.length a0 * 56 <= 140737488351232)
def Wv : Prim := ⟨[.one (.dat (.sl 56 y48) true)],fun v => .br (d185 v.1) (.done (f185 (J3 v.1))) .no⟩
theorem My : PO 185 Wv := EL (t := 67) (tb := 4) (e := 56) hEt Tryz.func185 (by kernel_rfl) (by kernel_rfl) (by kernel_rfl) (by kernel_rfl) rfl rfl (by decide) (by kernel_rfl)
def f165 (r : (Ty.T q1) × (Ty.T y98) × (List (Ty.T y48))) : AV × Sig := (.agg ((q1.cells false r.1) ++ [.sl 81920] ++ (y98.cells false r.2.1)),[(81920,.arr 56 y48 r.2.2 false)])
def ZQ := (E0.p My)
def t165 (a0 : Ty.T aa) {Z : Type} (κ : (Ty.T q1) × (Ty.T y98) × (List (Ty.T y48)) -> Option Z) : Option Z := cond (d185 a0.2.2.2.2.2.2.1.2.2.2.2.2.2) (κ ((a0.1,a0.2.1,a0.2.2.1,a0.2.2.2.1,a0.2.2.2.2.1,a0.2.2.2.2.2.1,a0.2.2.2.2.2.2.1.1,a0.2.2.2.2.2.2.1.2.1,a0.2.2.2.2.2.2.1.2.2.1,a0.2.2.2.2.2.2.1.2.2.2.1,a0.2.2.2.2.2.2.1.2.2.2.2.1,a0.2.2.2.2.2.2.1.2.2.2.2.2.1),a0.2.2.2.2.2.2.2,(J3 a0.2.2.2.2.2.2.1.2.2.2.2.2.2))) (none)
def bA (a0 : Ty.T aa) : (Ty.T q1) × (Ty.T y98) × (List (Ty.T y48)) := (t165 a0 some).getD ((Ty.zero q1),(Ty.zero y98),[])
def d165 (a0 : Ty.T aa) : Bool := (t165 a0 some).isSome
def Wk : Prim := ⟨[.agg [.dat aa true]],fun v => .br (d165 v.1) (.done (f165 (bA v.1))) .no⟩
theorem EV : PO 165 Wk := pK ZQ fun v => et ((t165 v.1 (sm f165))) (by kernel_rfl) (aN (show t165 v.1 (sm f165) = (t165 v.1 some).bind _ from (bC rfl rfl)))
def f94 (r : (List (Ty.T aa))) : AV × Sig := (.one (.sl 4096),[(4096,.arr 103 aa r false)])
def E94 := (E0.p EV)
@[reducible] def C1 : List SP := U2 (.one (.dat (.sl 103 aa) false) :: .one (.own 6) :: U2 (.und :: .one (.dat (.sl 103 aa) true) :: oI :: oI :: U8 (U2 ([]))))
@[reducible] def Ci : List (Nat × GP) := [(6,.arr 103 aa false)]
@[reducible] def tO : Type := (List (Ty.T aa)) × (List (Ty.T aa)) × Int × Int × (List (Ty.T aa)) × Unit
def uE (v : tO) {Z : Type} (κ : Nat × tO -> Option Z) : Option Z := cond (decide (v.2.2.2.1 < v.2.2.1)) (if 0 <= v.2.2.2.1 then (ay ((v.2.1)[(v.2.2.2.1).toNat]?) (fun x1 => cond (d165 x1) (if (v.2.2.2.2.1 ++ [((bA x1).1.1,(bA x1).1.2.1,(bA x1).1.2.2.1,(bA x1).1.2.2.2.1,(bA x1).1.2.2.2.2.1,(bA x1).1.2.2.2.2.2.1,((bA x1).1.2.2.2.2.2.2.1,(bA x1).1.2.2.2.2.2.2.2.1,(bA x1).1.2.2.2.2.2.2.2.2.1,(bA x1).1.2.2.2.2.2.2.2.2.2.1,(bA x1).1.2.2.2.2.2.2.2.2.2.2.1,(bA x1).1.2.2.2.2.2.2.2.2.2.2.2,(bA x1).2.2),(bA x1).2.1)] : List (Ty.T aa)).length * 192 <= 140737488351232 then (κ (0,(v.1,v.2.1,v.2.2.1,IntKind.wrap .i64 (v.2.2.2.1 + (1 : Int)),v.2.2.2.2.1 ++ [((bA x1).1.1,(bA x1).1.2.1,(bA x1).1.2.2.1,(bA x1).1.2.2.2.1,(bA x1).1.2.2.2.2.1,(bA x1).1.2.2.2.2.2.1,((bA x1).1.2.2.2.2.2.2.1,(bA x1).1.2.2.2.2.2.2.2.1,(bA x1).1.2.2.2.2.2.2.2.2.1,(bA x1).1.2.2.2.2.2.2.2.2.2.1,(bA x1).1.2.2.2.2.2.2.2.2.2.2.1,(bA x1).1.2.2.2.2.2.2.2.2.2.2.2,(bA x1).2.2),(bA x1).2.1)],()))) else none) (none))) else none) (κ (1,(v.1,v.2.1,v.2.2.1,v.2.2.2.1,v.2.2.2.2.1,())))
def vS (v : tO) : Option (Nat × tO) := uE v some
def A4 (v : tO) : Nat := v.1.length + v.2.1.length + v.2.2.1.toNat + v.2.2.2.1.toNat + v.2.2.2.2.1.length + 100
def Fw (h0 : List (Ty.T aa)) (h1 : List (Ty.T aa)) (h2 : Int) (h3 : Int) (h4 : List (Ty.T aa)) (c : Nat) : Bool := iK vS A4 (h0,h1,h2,h3,h4,()) c
def KR (h0 : List (Ty.T aa)) (h1 : List (Ty.T aa)) (h2 : Int) (h3 : Int) (h4 : List (Ty.T aa)) : tO := iW vS A4 (h0,h1,h2,h3,h4,())
def Nd (v : tO) : aL (Ex × St) := aM vS (A4 v) v (ar C1 Ci) [.exit 0] 0
theorem TY : aH Tryz.prog (aw (pb 4 11) (ab Tryz.f94)) C1 Ci Nd := ag (lt := .none) E94.ok ak (af.no _) fun n v K => et (uE v (bL _ _ _ _ _ K)) (by kernel_rfl) (show uE v _ = (uE v some).bind _ from (bC (bI (bO fun x1 => (bC (bI rfl) rfl))) rfl))
def aaI := E94.l (g := 94) (t := (a9 (pb 4 11) (ab Tryz.f94) .none (.sum C1 Ci Nd))) (aC Tryz.func94 (af.put (aA (by kernel_rfl)) (af.no _) TY))
def u94 (a0 : List (Ty.T aa)) : Option (AV × Sig) := cond (Fw [] a0 ((a0).length : Int) 0 [] 0) (some (.one (.sl 4096),[(4096,.arr 103 aa (KR [] a0 ((a0).length : Int) 0 []).2.2.2.2.1 false)])) (none)
def v94 (a0 : List (Ty.T aa)) : (List (Ty.T aa)) := cond (Fw [] a0 ((a0).length : Int) 0 [] 0) ((KR [] a0 ((a0).length : Int) 0 []).2.2.2.2.1) ([])
def d94 (a0 : List (Ty.T aa)) : Bool := cond (Fw [] a0 ((a0).length : Int) 0 [] 0) (true) (false)
theorem o94 (a0 : List (Ty.T aa)) : u94 a0 = cond (d94 a0) (some (f94 (v94 a0))) none := (pC (pS _) (pN _))
def p94 : Prim := ⟨[.one (.dat (.sl 103 aa) true)],fun v => .br (d94 v.1) (.done (f94 (v94 v.1))) .no⟩
theorem S9 : PO 94 p94 := pK aaI fun v => et (u94 v.1) (by kernel_rfl) (o94 v.1)
def f99 (r : Bool) : AV × Sig := (.one (.bool r),[])
def E99 := E0
def u99 (a0 : Int) (a1 : Int) (a2 : Int) : Option (AV × Sig) := cond (decide (a0 ≥ a1)) (some (.one (.bool (decide (a0 <= a2))),[])) (some (.one (.bool false),[]))
def v99 (a0 : Int) (a1 : Int) (a2 : Int) : Bool := cond (decide (a0 ≥ a1)) (decide (a0 <= a2)) (false)
theorem o99 (a0 : Int) (a1 : Int) (a2 : Int) : u99 a0 a1 a2 = some (f99 (v99 a0 a1 a2)) := (tC rfl rfl)
def p99 : Prim := ⟨[oI,oI,oI],fun v => .done (f99 (v99 v.1 v.2.1 v.2.2.1))⟩
theorem nj : PO 99 p99 := pK E99 fun v => et (u99 v.1 v.2.1 v.2.2.1) (by kernel_rfl) (o99 v.1 v.2.1 v.2.2.1)
def f166 (r : Bool) : AV × Sig := (.one (.bool r),[])
def aac := (E0.p nj)
def S8 (a0 : Ty.T y36) (a1 : Int) : Option (AV × Sig) := some (.one (.bool (v99 a1 0 (IntKind.wrap .i64 (((a0.2.1).length : Int) - (1 : Int))))),[])
def kX (a0 : Ty.T y36) (a1 : Int) : Bool := (v99 a1 0 (IntKind.wrap .i64 (((a0.2.1).length : Int) - (1 : Int))))
theorem XH (a0 : Ty.T y36) (a1 : Int) : S8 a0 a1 = some (f166 (kX a0 a1)) := rfl
def ZU : Prim := ⟨[.agg [.dat y36 true],oI],fun v => .done (f166 (kX v.1 v.2.1))⟩
theorem H9 : PO 166 ZU := pK aac fun v => et (S8 v.1 v.2.1) (by kernel_rfl) (XH v.1 v.2.1)
def f167 (r : Bool) : AV × Sig := (.one (.bool r),[])
def WJ := (E0.p nj)
def T9 (a0 : Int) : Option (AV × Sig) := some (.one (.bool (v99 a0 0 9999)),[])
def F8 (a0 : Int) : Bool := (v99 a0 0 9999)
theorem aat (a0 : Int) : T9 a0 = some (f167 (F8 a0)) := rfl
def aaN : Prim := ⟨[oI],fun v => .done (f167 (F8 v.1))⟩
theorem MM : PO 167 aaN := pK WJ fun v => et (T9 v.1) (by kernel_rfl) (aat v.1)
def f171 (r : Bool) : AV × Sig := (.one (.bool r),[])
def aaD := (E0.p nj)
def U3 (a0 : Int) : Option (AV × Sig) := some (.one (.bool (v99 a0 0 2147483647)),[])
def oe (a0 : Int) : Bool := (v99 a0 0 2147483647)
theorem abm (a0 : Int) : U3 a0 = some (f171 (oe a0)) := rfl
def abM : Prim := ⟨[oI],fun v => .done (f171 (oe v.1))⟩
theorem Ei : PO 171 abM := pK aaD fun v => et (U3 v.1) (by kernel_rfl) (abm v.1)
def f172 (r : Bool) : AV × Sig := (.one (.bool r),[])
def aaa := (E0.p nj)
def Tv (a0 : Int) : Option (AV × Sig) := some (.one (.bool (v99 a0 1 99)),[])
def kf (a0 : Int) : Bool := (v99 a0 1 99)
theorem aa1 (a0 : Int) : Tv a0 = some (f172 (kf a0)) := rfl
def acE : Prim := ⟨[oI],fun v => .done (f172 (kf v.1))⟩
theorem Al : PO 172 acE := pK aaa fun v => et (Tv v.1) (by kernel_rfl) (aa1 v.1)
def f175 (r : Bool) : AV × Sig := (.one (.bool r),[])
def Xe := (E0.p nj)
def Tq (a0 : Int) : Option (AV × Sig) := some (.one (.bool (v99 a0 1 4)),[])
def qv (a0 : Int) : Bool := (v99 a0 1 4)
theorem Zq (a0 : Int) : Tq a0 = some (f175 (qv a0)) := rfl
def VX : Prim := ⟨[oI],fun v => .done (f175 (qv v.1))⟩
theorem Ig : PO 175 VX := pK Xe fun v => et (Tq v.1) (by kernel_rfl) (Zq v.1)
def f220 (r : Bool) : AV × Sig := (.one (.bool r),[])
def abg := (E0.p nj)
def PV (a0 : Int) : Option (AV × Sig) := some (.one (.bool (v99 a0 0 2)),[])
def l1 (a0 : Int) : Bool := (v99 a0 0 2)
theorem Wp (a0 : Int) : PV a0 = some (f220 (l1 a0)) := rfl
def aaw : Prim := ⟨[oI],fun v => .done (f220 (l1 v.1))⟩
theorem FB : PO 220 aaw := pK abg fun v => et (PV v.1) (by kernel_rfl) (Wp v.1)
def f221 (r : Bool) : AV × Sig := (.one (.bool r),[])
def abS := (E0.p nj)
def R4 (a0 : Int) : Option (AV × Sig) := some (.one (.bool (v99 a0 0 63)),[])
def F5 (a0 : Int) : Bool := (v99 a0 0 63)
theorem W3 (a0 : Int) : R4 a0 = some (f221 (F5 a0)) := rfl
def V5 : Prim := ⟨[oI],fun v => .done (f221 (F5 v.1))⟩
theorem ND : PO 221 V5 := pK abS fun v => et (R4 v.1) (by kernel_rfl) (W3 v.1)
def f168 (r : Bool) : AV × Sig := (.one (.bool r),[])
def abC := (((((((E0.p MM).p Ei).p Al).p Ig).p FB).p ND).p nj)
def t168 (a0 : Ty.T ah) {Z : Type} (κ : Bool -> Z) : Z := cond (!(kf a0.1)) (κ false) (cond (!(l1 a0.2.1)) (κ false) (cond (!(l1 a0.2.2.1)) (κ false) (cond (!(qv a0.2.2.2.1)) (κ false) (cond (!(F8 a0.2.2.2.2.1)) (κ false) (cond (!(v99 a0.2.2.2.2.2.1 0 999)) (κ false) (cond (!(v99 a0.2.2.2.2.2.2.1 0 999)) (κ false) (cond (!(F5 a0.2.2.2.2.2.2.2.1)) (κ false) (cond (a0.2.2.2.1 != (2 : Int)) (cond (a0.2.2.1 == a0.2.1) (cond (a0.2.2.2.2.2.2.2.2.1 == (0 : Int)) (cond (a0.2.2.2.2.2.2.2.2.2.1 == (0 : Int)) (cond (a0.2.2.2.2.2.2.2.2.2.2.1 == (0 : Int)) (cond (!a0.2.2.2.2.2.2.2.2.2.2.2.1) (κ (!a0.2.2.2.2.2.2.2.2.2.2.2.2)) (κ false)) (κ false)) (κ false)) (κ false)) (κ false)) (cond (oe a0.2.2.2.2.2.2.2.2.1) (cond (oe a0.2.2.2.2.2.2.2.2.2.1) (κ (oe a0.2.2.2.2.2.2.2.2.2.2.1)) (κ false)) (κ false))))))))))
def HA (a0 : Ty.T ah) : Bool := t168 a0 fun r => r
def Y8 : Prim := ⟨[.agg [.dat ah true]],fun v => .done (f168 (HA v.1))⟩
theorem TB : PO 168 Y8 := pK abC fun v => et ((t168 v.1 (sm f168))) (by kernel_rfl) (show t168 v.1 (sm f168) = some (f168 (t168 v.1 fun r => r)) from (tC rfl (tC rfl (tC rfl (tC rfl (tC rfl (tC rfl (tC rfl (tC rfl (tC (tC (tC (tC (tC (tC rfl rfl) rfl) rfl) rfl) rfl) (tC (tC rfl rfl) rfl)))))))))))
def f139 (r : Int) : AV × Sig := (.one (.int .i64 r),[])
def Xm := E0
def RL (a0 : Int) : Option (AV × Sig) := some (.one (.int .i64 (if (if (2147483647 : Int) < a0 then 2147483647 else a0) > (-2147483647 : Int) then if (2147483647 : Int) < a0 then 2147483647 else a0 else (-2147483647))),[])
def eu (a0 : Int) : Int := if (if (2147483647 : Int) < a0 then 2147483647 else a0) > (-2147483647 : Int) then if (2147483647 : Int) < a0 then 2147483647 else a0 else (-2147483647)
theorem abA (a0 : Int) : RL a0 = some (f139 (eu a0)) := rfl
def YU : Prim := ⟨[oI],fun v => .done (f139 (eu v.1))⟩
theorem vk : PO 139 YU := pK Xm fun v => et (RL v.1) (by kernel_rfl) (abA v.1)
def f170 (r : Bool) : AV × Sig := (.one (.bool r),[])
def Z2 := ((E0.p vk).p Ei)
def UX (a0 : Ty.T aD) : Option (AV × Sig) := cond ((eu a0.1) != a0.1) (some (.one (.bool true),[])) (some (.one (.bool (!(oe a0.2.1))),[]))
def Gd (a0 : Ty.T aD) : Bool := cond ((eu a0.1) != a0.1) (true) (!(oe a0.2.1))
theorem Xq (a0 : Ty.T aD) : UX a0 = some (f170 (Gd a0)) := (tC rfl rfl)
def aaL : Prim := ⟨[.agg [.dat aD true]],fun v => .done (f170 (Gd v.1))⟩
theorem Rd : PO 170 aaL := pK Z2 fun v => et (UX v.1) (by kernel_rfl) (Xq v.1)
def II (r : Int) : AV × Sig := (.one (.int .i64 r),[])
def Jn := (E0.p Rd)
@[reducible] def oG : List SP := .one (.dat (.sl 182 aD) true) :: .one (.fnc 170 []) :: U2 (oI :: U2 (oI :: oI :: U8 (U2 ([]))))
@[reducible] def fA : Type := (List (Ty.T aD)) × Int × Int × Int × Unit
def hY (v : fA) {Z : Type} (κ : Nat × fA -> Option Z) : Option Z := cond (decide (v.2.2.2.1 < v.2.2.1)) (if 0 <= v.2.2.2.1 then (ay ((v.1)[(v.2.2.2.1).toNat]?) (fun x1 => cond (Gd x1) (κ (1,(v.1,v.2.2.2.1,v.2.2.1,v.2.2.2.1,()))) (κ (0,(v.1,v.2.1,v.2.2.1,IntKind.wrap .i64 (v.2.2.2.1 + (1 : Int)),()))))) else none) (κ (2,(v.1,v.2.1,v.2.2.1,v.2.2.2.1,())))
def gR (v : fA) : Option (Nat × fA) := hY v some
def jD (v : fA) : Nat := v.1.length + v.2.1.toNat + v.2.2.1.toNat + v.2.2.2.1.toNat + 100
def er (h0 : List (Ty.T aD)) (h1 : Int) (h2 : Int) (h3 : Int) (c : Nat) : Bool := iK gR jD (h0,h1,h2,h3,()) c
def mS (h0 : List (Ty.T aD)) (h1 : Int) (h2 : Int) (h3 : Int) : fA := iW gR jD (h0,h1,h2,h3,())
def AA (v : fA) : aL (Ex × St) := aM gR (jD v) v (ar oG aB) [.ret,.exit 0] 0
theorem KH : aH Tryz.prog (aw (pb 3 5) (ab Tryz.f222)) oG aB AA := ag (lt := .none) Jn.ok ak (af.no _) fun n v K => et (hY v (bL _ _ _ _ _ K)) (by kernel_rfl) (show hY v _ = (hY v some).bind _ from (bC (bI (bO fun x1 => (bC rfl rfl))) rfl))
def Mm := Jn.l (g := 222) (t := (a9 (pb 3 5) (ab Tryz.f222) .none (.sum oG aB AA))) (aC Tryz.func222 (af.put (aA (by kernel_rfl)) (af.no _) KH))
def IP (a0 : List (Ty.T aD)) : Option (AV × Sig) := cond (er a0 0 ((a0).length : Int) 0 0) (some (.one (.int .i64 (mS a0 0 ((a0).length : Int) 0).2.1),[])) (cond (er a0 0 ((a0).length : Int) 0 1) (some (.one (.int .i64 (-1)),[])) (none))
def rN (a0 : List (Ty.T aD)) : Int := cond (er a0 0 ((a0).length : Int) 0 0) ((mS a0 0 ((a0).length : Int) 0).2.1) (cond (er a0 0 ((a0).length : Int) 0 1) ((-1)) (0))
def oC (a0 : List (Ty.T aD)) : Bool := cond (er a0 0 ((a0).length : Int) 0 0) (true) (cond (er a0 0 ((a0).length : Int) 0 1) (true) (false))
theorem Oa (a0 : List (Ty.T aD)) : IP a0 = cond (oC a0) (some (II (rN a0))) none := (pC (pS _) (pC (pS _) (pN _)))
def PR : Prim := ⟨[.one (.dat (.sl 182 aD) true),.one (.fnc 170 [])],fun v => .br (oC v.1) (.done (II (rN v.1))) .no⟩
theorem LI : PO 222 PR := pK Mm fun v => et (IP v.1) (by kernel_rfl) (Oa v.1)
def Ht (r : Bool) : AV × Sig := (.one (.bool r),[])
def PK := (E0.p LI)
def Kw (a0 : List (Ty.T aD)) : Option (AV × Sig) := cond (oC a0) (some (.one (.bool (decide ((rN a0) ≥ (0 : Int)))),[])) (none)
def tT (a0 : List (Ty.T aD)) : Bool := cond (oC a0) (decide ((rN a0) ≥ (0 : Int))) (false)
def sI (a0 : List (Ty.T aD)) : Bool := cond (oC a0) (true) (false)
theorem Ox (a0 : List (Ty.T aD)) : Kw a0 = cond (sI a0) (some (Ht (tT a0))) none := (pC (pS _) (pN _))
def Oz : Prim := ⟨[.one (.dat (.sl 182 aD) true),.one (.fnc 170 [])],fun v => .br (sI v.1) (.done (Ht (tT v.1))) .no⟩
theorem Ml : PO 169 Oz := pK PK fun v => et (Kw v.1) (by kernel_rfl) (Ox v.1)
def f95 (r : Bool) : AV × Sig := (.one (.bool r),[])
def E95 := (((((E0.p Ml).p H9).p MM).p TB).p nj)
@[reducible] def Bt : List SP := .und :: .one (.ptr 1 0) :: .one (.dat .bool true) :: U16 (U8 (U2 (.und :: .one (.dat (.sl 180 ah) true) :: oI :: oI :: U32 (U16 (.und :: [])))))
@[reducible] def tM : Type := Bool × (List (Ty.T ah)) × Int × Int × (Ty.T y36) × Unit
def ql (v : tM) {Z : Type} (κ : Nat × tM -> Option Z) : Option Z := cond (decide (v.2.2.2.1 < v.2.2.1)) (if 0 <= v.2.2.2.1 then (ay ((v.2.1)[(v.2.2.2.1).toNat]?) (fun x1 => cond (!(HA x1)) (κ (1,(false,v.2.1,v.2.2.1,v.2.2.2.1,v.2.2.2.2.1,()))) (cond (!(kX v.2.2.2.2.1 x1.2.1)) (κ (1,(false,v.2.1,v.2.2.1,v.2.2.2.1,v.2.2.2.2.1,()))) (cond (!(kX v.2.2.2.2.1 x1.2.2.1)) (κ (1,(false,v.2.1,v.2.2.1,v.2.2.2.1,v.2.2.2.2.1,()))) (cond (decide (x1.2.2.2.2.1 > v.2.2.2.2.1.2.2.2)) (κ (1,(false,v.2.1,v.2.2.1,v.2.2.2.1,v.2.2.2.2.1,()))) (cond (decide (v.2.2.2.1 > (0 : Int))) (if 0 <= (IntKind.wrap .i64 (v.2.2.2.1 - (1 : Int))) then (ay ((v.2.2.2.2.1.1)[(IntKind.wrap .i64 (v.2.2.2.1 - (1 : Int))).toNat]?) (fun x2 => cond (decide (x2.1 ≥ x1.1)) (κ (1,(false,v.2.1,v.2.2.1,v.2.2.2.1,v.2.2.2.2.1,()))) (κ (0,(v.1,v.2.1,v.2.2.1,IntKind.wrap .i64 (v.2.2.2.1 + (1 : Int)),v.2.2.2.2.1,()))))) else none) (κ (0,(v.1,v.2.1,v.2.2.1,IntKind.wrap .i64 (v.2.2.2.1 + (1 : Int)),v.2.2.2.2.1,()))))))))) else none) (κ (2,(v.1,v.2.1,v.2.2.1,v.2.2.2.1,v.2.2.2.2.1,())))
def lb (v : tM) : Option (Nat × tM) := ql v some
def vA (v : tM) : Nat := v.2.1.length + v.2.2.1.toNat + v.2.2.2.1.toNat + v.2.2.2.2.1.1.length + v.2.2.2.2.1.2.1.length + 100
def A1 (h0 : Bool) (h1 : List (Ty.T ah)) (h2 : Int) (h3 : Int) (h4 : Ty.T y36) (c : Nat) : Bool := iK lb vA (h0,h1,h2,h3,h4,()) c
def AY (h0 : Bool) (h1 : List (Ty.T ah)) (h2 : Int) (h3 : Int) (h4 : Ty.T y36) : tM := iW lb vA (h0,h1,h2,h3,h4,())
def MH (v : tM) : aL (Ex × St) := aM lb (vA v) v (ar Bt fc) [.ret,.exit 0] 0
theorem SY : aH Tryz.prog (aw (pb 4 11) (ab Tryz.f95)) Bt fc MH := ag (lt := .none) E95.ok ak (af.no _) fun n v K => et (ql v (bL _ _ _ _ _ K)) (by kernel_rfl) (show ql v _ = (ql v some).bind _ from (bC (bI (bO fun x1 => (bC rfl (bC rfl (bC rfl (bC rfl (bC (bI (bO fun x2 => (bC rfl rfl))) rfl))))))) rfl))
def WT := E95.l (g := 95) (t := (a9 (pb 4 11) (ab Tryz.f95) .none (.sum Bt fc MH))) (aC Tryz.func95 (af.put (aA (by kernel_rfl)) (af.no _) SY))
def t95 (a0 : Ty.T y36) {Z : Type} (κ : Bool -> Option Z) : Option Z := cond (decide (((a0.1).length : Int) > (8 : Int))) (κ false) (cond (!(v99 ((a0.2.1).length : Int) 2 3)) (κ false) (cond (!(kX a0 a0.2.2.1)) (κ false) (cond (!(F8 a0.2.2.2)) (κ false) (cond (A1 false a0.1 ((a0.1).length : Int) 0 a0 0) (κ (AY false a0.1 ((a0.1).length : Int) 0 a0).1) (cond (A1 false a0.1 ((a0.1).length : Int) 0 a0 1) (cond (sI (AY false a0.1 ((a0.1).length : Int) 0 a0).2.2.2.2.1.2.1) (κ (!(tT (AY false a0.1 ((a0.1).length : Int) 0 a0).2.2.2.2.1.2.1))) (none)) (none))))))
def v95 (a0 : Ty.T y36) : Bool := (t95 a0 some).getD false
def d95 (a0 : Ty.T y36) : Bool := (t95 a0 some).isSome
def p95 : Prim := ⟨[.agg [.dat y36 true]],fun v => .br (d95 v.1) (.done (f95 (v95 v.1))) .no⟩
theorem Wa : PO 95 p95 := pK WT fun v => et ((t95 v.1 (sm f95))) (by kernel_rfl) (aN (show t95 v.1 (sm f95) = (t95 v.1 some).bind _ from by unfold t95; simp only [bb]))
def f173 (r : Bool) : AV × Sig := (.one (.bool r),[])
def abo := (E0.p Al)
def Tk (a0 : Ty.T y48) : Option (AV × Sig) := cond (kf a0.2.2.1) (some (.one (.bool (a0.2.2.2.1 == (-1 : Int))),[])) (some (.one (.bool false),[]))
def dy (a0 : Ty.T y48) : Bool := cond (kf a0.2.2.1) ((a0.2.2.2.1 == (-1 : Int))) (false)
theorem ZM (a0 : Ty.T y48) : Tk a0 = some (f173 (dy a0)) := (tC rfl rfl)
def abn : Prim := ⟨[.agg [.dat y48 true]],fun v => .done (f173 (dy v.1))⟩
theorem TQ : PO 173 abn := pK abo fun v => et (Tk v.1) (by kernel_rfl) (ZM v.1)
def f174 (r : Bool) : AV × Sig := (.one (.bool r),[])
def Z1 := (E0.p FB)
def Tw (a0 : Ty.T y48) : Option (AV × Sig) := cond (a0.2.2.1 == (0 : Int)) (some (.one (.bool (l1 a0.2.2.2.1)),[])) (some (.one (.bool false),[]))
def lW (a0 : Ty.T y48) : Bool := cond (a0.2.2.1 == (0 : Int)) ((l1 a0.2.2.2.1)) (false)
theorem acH (a0 : Ty.T y48) : Tw a0 = some (f174 (lW a0)) := (tC rfl rfl)
def Y9 : Prim := ⟨[.agg [.dat y48 true]],fun v => .done (f174 (lW v.1))⟩
theorem QK : PO 174 Y9 := pK Z1 fun v => et (Tw v.1) (by kernel_rfl) (acH v.1)
def f96 (r : Bool) : AV × Sig := (.one (.bool r),[])
def E96 := (((((E0.p Ei).p Al).p TQ).p QK).p Ig)
def t96 (a0 : Ty.T y48) {Z : Type} (κ : Bool -> Z) : Z := cond (!(oe a0.2.2.2.2.1)) (κ false) (cond (a0.1 != (1 : Int)) (cond (a0.2.1 != (0 : Int)) (κ false) (cond (a0.1 != (2 : Int)) (cond (a0.2.2.2.2.2.1 != (0 : Int)) (κ false) (cond a0.2.2.2.2.2.2 (κ false) (cond (a0.1 == (1 : Int)) (cond (kf a0.2.1) (cond (dy a0) (κ true) (κ (lW a0))) (κ false)) (cond (a0.1 == (2 : Int)) (cond (a0.2.2.2.2.2.1 == (2 : Int)) (cond (dy a0) (κ (decide (a0.2.2.2.2.1 <= (99 : Int)))) (κ false)) (cond (dy a0) (cond (qv a0.2.2.2.2.2.1) (cond (a0.2.2.2.2.1 == (0 : Int)) (κ (!a0.2.2.2.2.2.2)) (κ false)) (κ false)) (κ false))) (cond (a0.1 == (3 : Int)) (cond (a0.1 == (3 : Int)) (κ (lW a0)) (cond (a0.1 == (5 : Int)) (cond (a0.1 == (5 : Int)) (κ (dy a0)) (κ false)) (cond (a0.1 == (6 : Int)) (κ (dy a0)) (κ false)))) (cond (a0.1 == (4 : Int)) (κ (lW a0)) (cond (a0.1 == (5 : Int)) (cond (a0.1 == (5 : Int)) (κ (dy a0)) (κ false)) (cond (a0.1 == (6 : Int)) (κ (dy a0)) (κ false))))))))) (cond (a0.1 == (1 : Int)) (cond (kf a0.2.1) (cond (dy a0) (κ true) (κ (lW a0))) (κ false)) (cond (a0.1 == (2 : Int)) (cond (a0.2.2.2.2.2.1 == (2 : Int)) (cond (dy a0) (κ (decide (a0.2.2.2.2.1 <= (99 : Int)))) (κ false)) (cond (dy a0) (cond (qv a0.2.2.2.2.2.1) (cond (a0.2.2.2.2.1 == (0 : Int)) (κ (!a0.2.2.2.2.2.2)) (κ false)) (κ false)) (κ false))) (cond (a0.1 == (3 : Int)) (cond (a0.1 == (3 : Int)) (κ (lW a0)) (cond (a0.1 == (5 : Int)) (cond (a0.1 == (5 : Int)) (κ (dy a0)) (κ false)) (cond (a0.1 == (6 : Int)) (κ (dy a0)) (κ false)))) (cond (a0.1 == (4 : Int)) (κ (lW a0)) (cond (a0.1 == (5 : Int)) (cond (a0.1 == (5 : Int)) (κ (dy a0)) (κ false)) (cond (a0.1 == (6 : Int)) (κ (dy a0)) (κ false))))))))) (cond (a0.1 != (2 : Int)) (cond (a0.2.2.2.2.2.1 != (0 : Int)) (κ false) (cond a0.2.2.2.2.2.2 (κ false) (cond (a0.1 == (1 : Int)) (cond (kf a0.2.1) (cond (dy a0) (κ true) (κ (lW a0))) (κ false)) (cond (a0.1 == (2 : Int)) (cond (a0.2.2.2.2.2.1 == (2 : Int)) (cond (dy a0) (κ (decide (a0.2.2.2.2.1 <= (99 : Int)))) (κ false)) (cond (dy a0) (cond (qv a0.2.2.2.2.2.1) (cond (a0.2.2.2.2.1 == (0 : Int)) (κ (!a0.2.2.2.2.2.2)) (κ false)) (κ false)) (κ false))) (cond (a0.1 == (3 : Int)) (cond (a0.1 == (3 : Int)) (κ (lW a0)) (cond (a0.1 == (5 : Int)) (cond (a0.1 == (5 : Int)) (κ (dy a0)) (κ false)) (cond (a0.1 == (6 : Int)) (κ (dy a0)) (κ false)))) (cond (a0.1 == (4 : Int)) (κ (lW a0)) (cond (a0.1 == (5 : Int)) (cond (a0.1 == (5 : Int)) (κ (dy a0)) (κ false)) (cond (a0.1 == (6 : Int)) (κ (dy a0)) (κ false))))))))) (cond (a0.1 == (1 : Int)) (cond (kf a0.2.1) (cond (dy a0) (κ true) (κ (lW a0))) (κ false)) (cond (a0.1 == (2 : Int)) (cond (a0.2.2.2.2.2.1 == (2 : Int)) (cond (dy a0) (κ (decide (a0.2.2.2.2.1 <= (99 : Int)))) (κ false)) (cond (dy a0) (cond (qv a0.2.2.2.2.2.1) (cond (a0.2.2.2.2.1 == (0 : Int)) (κ (!a0.2.2.2.2.2.2)) (κ false)) (κ false)) (κ false))) (cond (a0.1 == (3 : Int)) (cond (a0.1 == (3 : Int)) (κ (lW a0)) (cond (a0.1 == (5 : Int)) (cond (a0.1 == (5 : Int)) (κ (dy a0)) (κ false)) (cond (a0.1 == (6 : Int)) (κ (dy a0)) (κ false)))) (cond (a0.1 == (4 : Int)) (κ (lW a0)) (cond (a0.1 == (5 : Int)) (cond (a0.1 == (5 : Int)) (κ (dy a0)) (κ false)) (cond (a0.1 == (6 : Int)) (κ (dy a0)) (κ false)))))))))
def v96 (a0 : Ty.T y48) : Bool := t96 a0 fun r => r
def p96 : Prim := ⟨[.agg [.dat y48 true]],fun v => .done (f96 (v96 v.1))⟩
theorem I1 : PO 96 p96 := pK E96 fun v => et ((t96 v.1 (sm f96))) (by kernel_rfl) (show t96 v.1 (sm f96) = some (f96 (t96 v.1 fun r => r)) from (tC rfl (tC (tC rfl (tC (tC rfl (tC rfl (tC (tC (tC rfl rfl) rfl) (tC (tC (tC rfl rfl) (tC (tC (tC rfl rfl) rfl) rfl)) (tC (tC rfl (tC (tC rfl rfl) (tC rfl rfl))) (tC rfl (tC (tC rfl rfl) (tC rfl rfl)))))))) (tC (tC (tC rfl rfl) rfl) (tC (tC (tC rfl rfl) (tC (tC (tC rfl rfl) rfl) rfl)) (tC (tC rfl (tC (tC rfl rfl) (tC rfl rfl))) (tC rfl (tC (tC rfl rfl) (tC rfl rfl)))))))) (tC (tC rfl (tC rfl (tC (tC (tC rfl rfl) rfl) (tC (tC (tC rfl rfl) (tC (tC (tC rfl rfl) rfl) rfl)) (tC (tC rfl (tC (tC rfl rfl) (tC rfl rfl))) (tC rfl (tC (tC rfl rfl) (tC rfl rfl)))))))) (tC (tC (tC rfl rfl) rfl) (tC (tC (tC rfl rfl) (tC (tC (tC rfl rfl) rfl) rfl)) (tC (tC rfl (tC (tC rfl rfl) (tC rfl rfl))) (tC rfl (tC (tC rfl rfl) (tC rfl rfl))))))))))
def f259 (r : Bool) : AV × Sig := (.one (.bool r),[])
def acm := (E0.p nj)
def QS (a0 : Int) : Option (AV × Sig) := some (.one (.bool (v99 a0 1 6)),[])
def Gq (a0 : Int) : Bool := (v99 a0 1 6)
theorem WO (a0 : Int) : QS a0 = some (f259 (Gq a0)) := rfl
def aaV : Prim := ⟨[oI],fun v => .done (f259 (Gq v.1))⟩
theorem Ni : PO 259 aaV := pK acm fun v => et (QS v.1) (by kernel_rfl) (WO v.1)
def f223 (r : Bool) : AV × Sig := (.one (.bool r),[])
def YX := ((((E0.p Ei).p ND).p Ni).p nj)
def t223 (a0 : Ty.T y96) {Z : Type} (κ : Bool -> Z) : Z := cond (!(Gq a0.1)) (κ false) (cond (!(v99 a0.2.1 0 2)) (κ false) (cond (!(v99 a0.2.2.1 0 99)) (κ false) (cond (!(F5 a0.2.2.2.1)) (κ false) (cond (!(v99 a0.2.2.2.2.1 0 99)) (κ false) (cond (!(oe a0.2.2.2.2.2.1)) (κ false) (cond (!(v99 a0.2.2.2.2.2.2 0 4)) (κ false) (cond (a0.1 != (1 : Int)) (cond (a0.2.2.1 != (0 : Int)) (κ false) (cond (a0.2.2.2.1 != (0 : Int)) (κ false) (cond (a0.1 != (2 : Int)) (cond (a0.2.2.2.2.2.2 != (0 : Int)) (κ false) (cond (a0.2.2.2.2.1 == (0 : Int)) (κ true) (cond (a0.1 != (3 : Int)) (κ (a0.1 != (4 : Int))) (κ false)))) (cond (a0.2.2.2.2.1 == (0 : Int)) (κ true) (cond (a0.1 != (3 : Int)) (κ (a0.1 != (4 : Int))) (κ false)))))) (cond (a0.1 != (2 : Int)) (cond (a0.2.2.2.2.2.2 != (0 : Int)) (κ false) (cond (a0.2.2.2.2.1 == (0 : Int)) (κ true) (cond (a0.1 != (3 : Int)) (κ (a0.1 != (4 : Int))) (κ false)))) (cond (a0.2.2.2.2.1 == (0 : Int)) (κ true) (cond (a0.1 != (3 : Int)) (κ (a0.1 != (4 : Int))) (κ false)))))))))))
def qM (a0 : Ty.T y96) : Bool := t223 a0 fun r => r
def Xn : Prim := ⟨[.agg [.dat y96 true]],fun v => .done (f223 (qM v.1))⟩
theorem M5 : PO 223 Xn := pK YX fun v => et ((t223 v.1 (sm f223))) (by kernel_rfl) (show t223 v.1 (sm f223) = some (f223 (t223 v.1 fun r => r)) from (tC rfl (tC rfl (tC rfl (tC rfl (tC rfl (tC rfl (tC rfl (tC (tC rfl (tC rfl (tC (tC rfl (tC rfl (tC rfl rfl))) (tC rfl (tC rfl rfl))))) (tC (tC rfl (tC rfl (tC rfl rfl))) (tC rfl (tC rfl rfl))))))))))))
def f224 (r : Bool) : AV × Sig := (.one (.bool r),[])
def Ze := ((E0.p vk).p nj)
def t224 (a0 : Ty.T y98) {Z : Type} (κ : Bool -> Z) : Z := cond (a0.1 == (0 : Int)) (cond (a0.1 == (0 : Int)) (κ (a0.2 == (0 : Int))) (cond (a0.1 == (1 : Int)) (κ ((eu a0.2) == a0.2)) (cond (a0.1 == (2 : Int)) (cond (a0.1 == (2 : Int)) (κ (v99 a0.2 0 8)) (κ false)) (cond (a0.1 == (4 : Int)) (κ (v99 a0.2 0 8)) (κ false))))) (cond (a0.1 == (3 : Int)) (κ (a0.2 == (0 : Int))) (cond (a0.1 == (1 : Int)) (κ ((eu a0.2) == a0.2)) (cond (a0.1 == (2 : Int)) (cond (a0.1 == (2 : Int)) (κ (v99 a0.2 0 8)) (κ false)) (cond (a0.1 == (4 : Int)) (κ (v99 a0.2 0 8)) (κ false)))))
def se (a0 : Ty.T y98) : Bool := t224 a0 fun r => r
def X1 : Prim := ⟨[.agg [.dat y98 true]],fun v => .done (f224 (se v.1))⟩
theorem NF : PO 224 X1 := pK Ze fun v => et ((t224 v.1 (sm f224))) (by kernel_rfl) (show t224 v.1 (sm f224) = some (f224 (t224 v.1 fun r => r)) from (tC (tC rfl (tC rfl (tC (tC rfl rfl) (tC rfl rfl)))) (tC rfl (tC rfl (tC (tC rfl rfl) (tC rfl rfl))))))
def f261 (r : Bool) : AV × Sig := (.one (.bool r),[])
def YE := (E0.p I1)
def R8 (a0 : Ty.T y48) : Option (AV × Sig) := cond (v96 a0) (some (.one (.bool true),[])) (cond (a0.1 != (2 : Int)) (cond (a0.2.2.2.2.1 == (-1 : Int)) (some (.one (.bool (v96 (a0.1,a0.2.1,a0.2.2.1,a0.2.2.2.1,0,a0.2.2.2.2.2))),[])) (some (.one (.bool false),[]))) (some (.one (.bool false),[])))
def FJ (a0 : Ty.T y48) : Bool := cond (v96 a0) (true) (cond (a0.1 != (2 : Int)) (cond (a0.2.2.2.2.1 == (-1 : Int)) ((v96 (a0.1,a0.2.1,a0.2.2.1,a0.2.2.2.1,0,a0.2.2.2.2.2))) (false)) (false))
theorem XX (a0 : Ty.T y48) : R8 a0 = some (f261 (FJ a0)) := (tC rfl (tC (tC rfl rfl) rfl))
def abQ : Prim := ⟨[.agg [.dat y48 true]],fun v => .done (f261 (FJ v.1))⟩
theorem Sa : PO 261 abQ := pK YE fun v => et (R8 v.1) (by kernel_rfl) (XX v.1)
def f260 (r : Bool) : AV × Sig := (.one (.bool r),[])
def Yi := (E0.p Sa)
def Qe (a0 : Ty.T y48) : Option (AV × Sig) := some (.one (.bool (!(FJ a0))),[])
def LD (a0 : Ty.T y48) : Bool := !(FJ a0)
theorem acz (a0 : Ty.T y48) : Qe a0 = some (f260 (LD a0)) := rfl
def Wr : Prim := ⟨[.agg [.dat y48 true]],fun v => .done (f260 (LD v.1))⟩
theorem QD : PO 260 Wr := pK Yi fun v => et (Qe v.1) (by kernel_rfl) (acz v.1)
def J1 (r : Int) : AV × Sig := (.one (.int .i64 r),[])
def IA := (E0.p QD)
@[reducible] def oz : List SP := .one (.dat (.sl 56 y48) true) :: .one (.fnc 260 []) :: U2 (oI :: U2 (oI :: oI :: U8 (U2 ([]))))
@[reducible] def cz : Type := (List (Ty.T y48)) × Int × Int × Int × Unit
def ig (v : cz) {Z : Type} (κ : Nat × cz -> Option Z) : Option Z := cond (decide (v.2.2.2.1 < v.2.2.1)) (if 0 <= v.2.2.2.1 then (ay ((v.1)[(v.2.2.2.1).toNat]?) (fun x1 => cond (LD x1) (κ (1,(v.1,v.2.2.2.1,v.2.2.1,v.2.2.2.1,()))) (κ (0,(v.1,v.2.1,v.2.2.1,IntKind.wrap .i64 (v.2.2.2.1 + (1 : Int)),()))))) else none) (κ (2,(v.1,v.2.1,v.2.2.1,v.2.2.2.1,())))
def ir (v : cz) : Option (Nat × cz) := ig v some
def kg (v : cz) : Nat := v.1.length + v.2.1.toNat + v.2.2.1.toNat + v.2.2.2.1.toNat + 100
def dZ (h0 : List (Ty.T y48)) (h1 : Int) (h2 : Int) (h3 : Int) (c : Nat) : Bool := iK ir kg (h0,h1,h2,h3,()) c
def ny (h0 : List (Ty.T y48)) (h1 : Int) (h2 : Int) (h3 : Int) : cz := iW ir kg (h0,h1,h2,h3,())
def Bk (v : cz) : aL (Ex × St) := aM ir (kg v) v (ar oz aB) [.ret,.exit 0] 0
theorem Hq : aH Tryz.prog (aw (pb 3 5) (ab Tryz.f271)) oz aB Bk := ag (lt := .none) IA.ok ak (af.no _) fun n v K => et (ig v (bL _ _ _ _ _ K)) (by kernel_rfl) (show ig v _ = (ig v some).bind _ from (bC (bI (bO fun x1 => (bC rfl rfl))) rfl))
def Le := IA.l (g := 271) (t := (a9 (pb 3 5) (ab Tryz.f271) .none (.sum oz aB Bk))) (aC Tryz.func271 (af.put (aA (by kernel_rfl)) (af.no _) Hq))
def H7 (a0 : List (Ty.T y48)) : Option (AV × Sig) := cond (dZ a0 0 ((a0).length : Int) 0 0) (some (.one (.int .i64 (ny a0 0 ((a0).length : Int) 0).2.1),[])) (cond (dZ a0 0 ((a0).length : Int) 0 1) (some (.one (.int .i64 (-1)),[])) (none))
def rR (a0 : List (Ty.T y48)) : Int := cond (dZ a0 0 ((a0).length : Int) 0 0) ((ny a0 0 ((a0).length : Int) 0).2.1) (cond (dZ a0 0 ((a0).length : Int) 0 1) ((-1)) (0))
def nY (a0 : List (Ty.T y48)) : Bool := cond (dZ a0 0 ((a0).length : Int) 0 0) (true) (cond (dZ a0 0 ((a0).length : Int) 0 1) (true) (false))
theorem O8 (a0 : List (Ty.T y48)) : H7 a0 = cond (nY a0) (some (J1 (rR a0))) none := (pC (pS _) (pC (pS _) (pN _)))
def NY : Prim := ⟨[.one (.dat (.sl 56 y48) true),.one (.fnc 260 [])],fun v => .br (nY v.1) (.done (J1 (rR v.1))) .no⟩
theorem La : PO 271 NY := pK Le fun v => et (H7 v.1) (by kernel_rfl) (O8 v.1)
def H5 (r : Bool) : AV × Sig := (.one (.bool r),[])
def Ps := (E0.p La)
def G3 (a0 : List (Ty.T y48)) : Option (AV × Sig) := cond (nY a0) (some (.one (.bool (decide ((rR a0) ≥ (0 : Int)))),[])) (none)
def tG (a0 : List (Ty.T y48)) : Bool := cond (nY a0) (decide ((rR a0) ≥ (0 : Int))) (false)
def q4 (a0 : List (Ty.T y48)) : Bool := cond (nY a0) (true) (false)
theorem Oe (a0 : List (Ty.T y48)) : G3 a0 = cond (q4 a0) (some (H5 (tG a0))) none := (pC (pS _) (pN _))
def Pt : Prim := ⟨[.one (.dat (.sl 56 y48) true),.one (.fnc 260 [])],fun v => .br (q4 v.1) (.done (H5 (tG v.1))) .no⟩
theorem Ls : PO 247 Pt := pK Ps fun v => et (G3 v.1) (by kernel_rfl) (Oe v.1)
def f225 (r : Bool) : AV × Sig := (.one (.bool r),[])
def JU := (((((E0.p Ls).p Al).p Ig).p FB).p nj)
@[reducible] def kT : List SP := .und :: .one (.ptr 1 0) :: .one (.dat .bool true) :: U64 (U32 (U16 ([])))
@[reducible] def EE : List SP := .und :: .one (.ptr 1 0) :: .one (.dat .bool true) :: U32 (U16 (U8 (.und :: .one (.dat .bool true) :: U32 (U16 (U4 (U2 ([])))))))
def xo (v : bm) (r : Bool) : Ex × St := (.normal,ar EE bh (v.1,r,v.2.1,()))
def py (v : bm) {Z : Type} (κ : Bool -> Z) : Z := cond (v.2.1.1 != (3 : Int)) (cond (v.2.1.1 != (8 : Int)) (cond (v.2.1.2.1 != (0 : Int)) (κ true) (cond (v.2.1.1 != (6 : Int)) (cond (v.2.1.2.2.1 != (0 : Int)) (κ true) (cond (v.2.1.2.2.2.1 != (-1 : Int)) (κ true) (cond (v.2.1.1 != (7 : Int)) (cond (v.2.1.2.2.2.2.1 != (0 : Int)) (κ true) (cond (v.2.1.1 != (8 : Int)) (cond v.2.1.2.2.2.2.2.1 (κ true) (cond (v.2.1.1 != (9 : Int)) (κ (decide (((v.2.1.2.2.2.2.2.2).length : Int) > (0 : Int)))) (κ false))) (cond (v.2.1.1 != (9 : Int)) (κ (decide (((v.2.1.2.2.2.2.2.2).length : Int) > (0 : Int)))) (κ false)))) (cond (v.2.1.1 != (8 : Int)) (cond v.2.1.2.2.2.2.2.1 (κ true) (cond (v.2.1.1 != (9 : Int)) (κ (decide (((v.2.1.2.2.2.2.2.2).length : Int) > (0 : Int)))) (κ false))) (cond (v.2.1.1 != (9 : Int)) (κ (decide (((v.2.1.2.2.2.2.2.2).length : Int) > (0 : Int)))) (κ false)))))) (cond (v.2.1.1 != (7 : Int)) (cond (v.2.1.2.2.2.2.1 != (0 : Int)) (κ true) (cond (v.2.1.1 != (8 : Int)) (cond v.2.1.2.2.2.2.2.1 (κ true) (cond (v.2.1.1 != (9 : Int)) (κ (decide (((v.2.1.2.2.2.2.2.2).length : Int) > (0 : Int)))) (κ false))) (cond (v.2.1.1 != (9 : Int)) (κ (decide (((v.2.1.2.2.2.2.2.2).length : Int) > (0 : Int)))) (κ false)))) (cond (v.2.1.1 != (8 : Int)) (cond v.2.1.2.2.2.2.2.1 (κ true) (cond (v.2.1.1 != (9 : Int)) (κ (decide (((v.2.1.2.2.2.2.2.2).length : Int) > (0 : Int)))) (κ false))) (cond (v.2.1.1 != (9 : Int)) (κ (decide (((v.2.1.2.2.2.2.2.2).length : Int) > (0 : Int)))) (κ false)))))) (cond (v.2.1.1 != (6 : Int)) (cond (v.2.1.2.2.1 != (0 : Int)) (κ true) (cond (v.2.1.2.2.2.1 != (-1 : Int)) (κ true) (cond (v.2.1.1 != (7 : Int)) (cond (v.2.1.2.2.2.2.1 != (0 : Int)) (κ true) (cond (v.2.1.1 != (8 : Int)) (cond v.2.1.2.2.2.2.2.1 (κ true) (cond (v.2.1.1 != (9 : Int)) (κ (decide (((v.2.1.2.2.2.2.2.2).length : Int) > (0 : Int)))) (κ false))) (cond (v.2.1.1 != (9 : Int)) (κ (decide (((v.2.1.2.2.2.2.2.2).length : Int) > (0 : Int)))) (κ false)))) (cond (v.2.1.1 != (8 : Int)) (cond v.2.1.2.2.2.2.2.1 (κ true) (cond (v.2.1.1 != (9 : Int)) (κ (decide (((v.2.1.2.2.2.2.2.2).length : Int) > (0 : Int)))) (κ false))) (cond (v.2.1.1 != (9 : Int)) (κ (decide (((v.2.1.2.2.2.2.2.2).length : Int) > (0 : Int)))) (κ false)))))) (cond (v.2.1.1 != (7 : Int)) (cond (v.2.1.2.2.2.2.1 != (0 : Int)) (κ true) (cond (v.2.1.1 != (8 : Int)) (cond v.2.1.2.2.2.2.2.1 (κ true) (cond (v.2.1.1 != (9 : Int)) (κ (decide (((v.2.1.2.2.2.2.2.2).length : Int) > (0 : Int)))) (κ false))) (cond (v.2.1.1 != (9 : Int)) (κ (decide (((v.2.1.2.2.2.2.2.2).length : Int) > (0 : Int)))) (κ false)))) (cond (v.2.1.1 != (8 : Int)) (cond v.2.1.2.2.2.2.2.1 (κ true) (cond (v.2.1.1 != (9 : Int)) (κ (decide (((v.2.1.2.2.2.2.2.2).length : Int) > (0 : Int)))) (κ false))) (cond (v.2.1.1 != (9 : Int)) (κ (decide (((v.2.1.2.2.2.2.2.2).length : Int) > (0 : Int)))) (κ false)))))) (cond (v.2.1.1 != (6 : Int)) (cond (v.2.1.2.2.1 != (0 : Int)) (κ true) (cond (v.2.1.2.2.2.1 != (-1 : Int)) (κ true) (cond (v.2.1.1 != (7 : Int)) (cond (v.2.1.2.2.2.2.1 != (0 : Int)) (κ true) (cond (v.2.1.1 != (8 : Int)) (cond v.2.1.2.2.2.2.2.1 (κ true) (cond (v.2.1.1 != (9 : Int)) (κ (decide (((v.2.1.2.2.2.2.2.2).length : Int) > (0 : Int)))) (κ false))) (cond (v.2.1.1 != (9 : Int)) (κ (decide (((v.2.1.2.2.2.2.2.2).length : Int) > (0 : Int)))) (κ false)))) (cond (v.2.1.1 != (8 : Int)) (cond v.2.1.2.2.2.2.2.1 (κ true) (cond (v.2.1.1 != (9 : Int)) (κ (decide (((v.2.1.2.2.2.2.2.2).length : Int) > (0 : Int)))) (κ false))) (cond (v.2.1.1 != (9 : Int)) (κ (decide (((v.2.1.2.2.2.2.2.2).length : Int) > (0 : Int)))) (κ false)))))) (cond (v.2.1.1 != (7 : Int)) (cond (v.2.1.2.2.2.2.1 != (0 : Int)) (κ true) (cond (v.2.1.1 != (8 : Int)) (cond v.2.1.2.2.2.2.2.1 (κ true) (cond (v.2.1.1 != (9 : Int)) (κ (decide (((v.2.1.2.2.2.2.2.2).length : Int) > (0 : Int)))) (κ false))) (cond (v.2.1.1 != (9 : Int)) (κ (decide (((v.2.1.2.2.2.2.2.2).length : Int) > (0 : Int)))) (κ false)))) (cond (v.2.1.1 != (8 : Int)) (cond v.2.1.2.2.2.2.2.1 (κ true) (cond (v.2.1.1 != (9 : Int)) (κ (decide (((v.2.1.2.2.2.2.2.2).length : Int) > (0 : Int)))) (κ false))) (cond (v.2.1.1 != (9 : Int)) (κ (decide (((v.2.1.2.2.2.2.2.2).length : Int) > (0 : Int)))) (κ false)))))
def wS (v : bm) : Bool := py v id
def HT (v : bm) : aL (Ex × St) := .done (xo v (wS v))
theorem NX : bo Tryz.prog (aO (pb 3 1) (ab Tryz.f225)) kT bh HT := bf (lt := .none) (sx := EE) (gx := bh) JU.ok ak (af.no _) fun v => et (py v (sm (xo v))) (by kernel_rfl) (show py v (sm (xo v)) = some (xo v (py v id)) from (tC (tC (tC rfl (tC (tC rfl (tC rfl (tC (tC rfl (tC (tC rfl (tC rfl rfl)) (tC rfl rfl))) (tC (tC rfl (tC rfl rfl)) (tC rfl rfl))))) (tC (tC rfl (tC (tC rfl (tC rfl rfl)) (tC rfl rfl))) (tC (tC rfl (tC rfl rfl)) (tC rfl rfl))))) (tC (tC rfl (tC rfl (tC (tC rfl (tC (tC rfl (tC rfl rfl)) (tC rfl rfl))) (tC (tC rfl (tC rfl rfl)) (tC rfl rfl))))) (tC (tC rfl (tC (tC rfl (tC rfl rfl)) (tC rfl rfl))) (tC (tC rfl (tC rfl rfl)) (tC rfl rfl))))) (tC (tC rfl (tC rfl (tC (tC rfl (tC (tC rfl (tC rfl rfl)) (tC rfl rfl))) (tC (tC rfl (tC rfl rfl)) (tC rfl rfl))))) (tC (tC rfl (tC (tC rfl (tC rfl rfl)) (tC rfl rfl))) (tC (tC rfl (tC rfl rfl)) (tC rfl rfl))))))
@[reducible] def qz : List SP := .und :: .one (.ptr 1 0) :: .one (.dat .bool true) :: U32 (U16 (U8 (U2 (.und :: oI :: .one (.dat .bool true) :: U32 (U16 (U2 (.und :: [])))))))
def xX (v : kh) (r : Bool) : Ex × St := (.normal,ar qz bh (v.1,v.2.1,r,v.2.2.2.1,()))
def mu (v : kh) {Z : Type} (κ : Bool -> Z) : Z := cond v.2.2.1 (κ v.2.2.1) (cond (v.2.1 == (2 : Int)) (κ (v.2.1 == (2 : Int))) (cond (v.2.1 == (4 : Int)) (κ (v.2.1 == (4 : Int))) (κ (v.2.1 == (5 : Int)))))
def sT (v : kh) : Bool := mu v id
def Kx (v : kh) : aL (Ex × St) := .done (xX v (sT v))
theorem O6 : bo Tryz.prog (aO (pb 6 43) (ab Tryz.f225)) qz bh Kx := bf (lt := .none) (sx := qz) (gx := bh) JU.ok ak (af.no _) fun v => et (mu v (sm (xX v))) (by kernel_rfl) (show mu v (sm (xX v)) = some (xX v (mu v id)) from (tC rfl (tC rfl (tC rfl rfl))))
@[reducible] def qH : List SP := U2 (.one (.dat .bool true) :: U64 (U32 (U16 ([]))))
def wW (v : bm) (r : Bool) : Ex × St := (.normal,ar qH aB (r,()))
def oB (v : bm) {Z : Type} (κ : Bool -> Z) : Z := cond (kf v.2.1.2.2.1) (cond (v.2.1.2.2.2.1 == (-1 : Int)) (κ true) (cond (v.2.1.2.2.1 == (0 : Int)) (κ (l1 v.2.1.2.2.2.1)) (κ false))) (cond (v.2.1.2.2.1 == (0 : Int)) (κ (l1 v.2.1.2.2.2.1)) (κ false))
def wy (v : bm) : Bool := oB v id
def Hu (v : bm) : aL (Ex × St) := .done (wW v (wy v))
theorem N3 : bo Tryz.prog (aO (pb 11 507) (ab Tryz.f225)) kT bh Hu := bf (lt := .none) (sx := qH) (gx := aB) JU.ok ak (af.no _) fun v => et (oB v (sm (wW v))) (by kernel_rfl) (show oB v (sm (wW v)) = some (wW v (oB v id)) from (tC (tC rfl (tC rfl rfl)) (tC rfl rfl)))
def CI (v : bm) (r : Bool) : Ex × St := (.normal,ar qH aB (r,()))
def ka (v : bm) {Z : Type} (κ : Bool -> Option Z) : Option Z := cond (v99 ((v.2.1.2.2.2.2.2.2).length : Int) 1 3) (cond (q4 v.2.1.2.2.2.2.2.2) (κ (!(tG v.2.1.2.2.2.2.2.2))) (none)) (κ false)
def sn (v : bm) : Bool := (ka v some).getD false
def sh (v : bm) : Bool := (ka v some).isSome
def Jr (v : bm) : aL (Ex × St) := .br (sh v) (.done (CI v (sn v))) .no
theorem Ph : bo Tryz.prog (aO (pb 17 32763) (ab Tryz.f225)) kT bh Jr := bf (lt := .none) (sx := qH) (gx := aB) JU.ok ak (af.no _) fun v => et (ka v (sm (CI v))) (by kernel_rfl) (aN (show ka v (sm (CI v)) = (ka v some).bind _ from (bC (bC rfl rfl) rfl)))
def Qx := JU.l (g := 225) (t := (aX (pb 17 32763) (ab Tryz.f225) (aX (pb 11 507) (ab Tryz.f225) (aX (pb 6 43) (ab Tryz.f225) (aX (pb 3 1) (ab Tryz.f225) .none (.sum kT bh HT)) (.sum qz bh Kx)) (.sum kT bh Hu)) (.sum kT bh Jr))) (aC Tryz.func225 (af.cX (aA (by kernel_rfl)) (af.cX (aA (by kernel_rfl)) (af.cX (aA (by kernel_rfl)) (af.cX (aA (by kernel_rfl)) (af.no _) NX) O6) N3) Ph))
def t225 (a0 : Ty.T aZ) {Z : Type} (κ : Bool -> Option Z) : Option Z := cond (wS (false,a0,())) (κ false) (cond (sT (false,a0.1,(a0.1 == (1 : Int)),a0,())) (κ true) (cond (a0.1 == (3 : Int)) (κ (v99 a0.2.1 1 2147483647)) (cond (a0.1 == (6 : Int)) (κ (wy (false,a0,()))) (cond (a0.1 == (7 : Int)) (κ (qv a0.2.2.2.2.1)) (cond (a0.1 == (8 : Int)) (κ (v99 a0.2.1 0 99)) (cond (a0.1 == (9 : Int)) (cond (sh (false,a0,())) (κ (sn (false,a0,()))) (none)) (κ false)))))))
def oL (a0 : Ty.T aZ) : Bool := (t225 a0 some).getD false
def d225 (a0 : Ty.T aZ) : Bool := (t225 a0 some).isSome
def X9 : Prim := ⟨[.agg [.dat aZ true]],fun v => .br (d225 v.1) (.done (f225 (oL v.1))) .no⟩
theorem Va : PO 225 X9 := pK Qx fun v => et ((t225 v.1 (sm f225))) (by kernel_rfl) (aN (show t225 v.1 (sm f225) = (t225 v.1 some).bind _ from by unfold t225; simp only [bb]))
def f226 (r : Bool) : AV × Sig := (.one (.bool r),[])
def abD := (E0.p Ni)
def t226 (a0 : Ty.T aZ) (a1 : Int) {Z : Type} (κ : Bool -> Z) : Z := cond (!(Gq a1)) (κ false) (cond (a0.1 == (1 : Int)) (cond (a0.1 == (1 : Int)) (κ true) (cond (a0.1 == (2 : Int)) (cond (a0.1 == (2 : Int)) (κ (a1 == (1 : Int))) (cond (a0.1 == (3 : Int)) (cond (a0.1 == (3 : Int)) (κ (a1 != (2 : Int))) (cond (a0.1 == (7 : Int)) (cond (a0.1 == (7 : Int)) (κ (a1 == (2 : Int))) (κ false)) (cond (a0.1 == (8 : Int)) (κ (a1 == (2 : Int))) (κ false)))) (cond (a0.1 == (4 : Int)) (cond (a0.1 == (4 : Int)) (κ (a1 != (2 : Int))) (cond (a0.1 == (7 : Int)) (cond (a0.1 == (7 : Int)) (κ (a1 == (2 : Int))) (κ false)) (cond (a0.1 == (8 : Int)) (κ (a1 == (2 : Int))) (κ false)))) (cond (a0.1 == (5 : Int)) (κ (a1 != (2 : Int))) (cond (a0.1 == (7 : Int)) (cond (a0.1 == (7 : Int)) (κ (a1 == (2 : Int))) (κ false)) (cond (a0.1 == (8 : Int)) (κ (a1 == (2 : Int))) (κ false))))))) (cond (a0.1 == (6 : Int)) (κ (a1 == (1 : Int))) (cond (a0.1 == (3 : Int)) (cond (a0.1 == (3 : Int)) (κ (a1 != (2 : Int))) (cond (a0.1 == (7 : Int)) (cond (a0.1 == (7 : Int)) (κ (a1 == (2 : Int))) (κ false)) (cond (a0.1 == (8 : Int)) (κ (a1 == (2 : Int))) (κ false)))) (cond (a0.1 == (4 : Int)) (cond (a0.1 == (4 : Int)) (κ (a1 != (2 : Int))) (cond (a0.1 == (7 : Int)) (cond (a0.1 == (7 : Int)) (κ (a1 == (2 : Int))) (κ false)) (cond (a0.1 == (8 : Int)) (κ (a1 == (2 : Int))) (κ false)))) (cond (a0.1 == (5 : Int)) (κ (a1 != (2 : Int))) (cond (a0.1 == (7 : Int)) (cond (a0.1 == (7 : Int)) (κ (a1 == (2 : Int))) (κ false)) (cond (a0.1 == (8 : Int)) (κ (a1 == (2 : Int))) (κ false))))))))) (cond (a0.1 == (9 : Int)) (κ true) (cond (a0.1 == (2 : Int)) (cond (a0.1 == (2 : Int)) (κ (a1 == (1 : Int))) (cond (a0.1 == (3 : Int)) (cond (a0.1 == (3 : Int)) (κ (a1 != (2 : Int))) (cond (a0.1 == (7 : Int)) (cond (a0.1 == (7 : Int)) (κ (a1 == (2 : Int))) (κ false)) (cond (a0.1 == (8 : Int)) (κ (a1 == (2 : Int))) (κ false)))) (cond (a0.1 == (4 : Int)) (cond (a0.1 == (4 : Int)) (κ (a1 != (2 : Int))) (cond (a0.1 == (7 : Int)) (cond (a0.1 == (7 : Int)) (κ (a1 == (2 : Int))) (κ false)) (cond (a0.1 == (8 : Int)) (κ (a1 == (2 : Int))) (κ false)))) (cond (a0.1 == (5 : Int)) (κ (a1 != (2 : Int))) (cond (a0.1 == (7 : Int)) (cond (a0.1 == (7 : Int)) (κ (a1 == (2 : Int))) (κ false)) (cond (a0.1 == (8 : Int)) (κ (a1 == (2 : Int))) (κ false))))))) (cond (a0.1 == (6 : Int)) (κ (a1 == (1 : Int))) (cond (a0.1 == (3 : Int)) (cond (a0.1 == (3 : Int)) (κ (a1 != (2 : Int))) (cond (a0.1 == (7 : Int)) (cond (a0.1 == (7 : Int)) (κ (a1 == (2 : Int))) (κ false)) (cond (a0.1 == (8 : Int)) (κ (a1 == (2 : Int))) (κ false)))) (cond (a0.1 == (4 : Int)) (cond (a0.1 == (4 : Int)) (κ (a1 != (2 : Int))) (cond (a0.1 == (7 : Int)) (cond (a0.1 == (7 : Int)) (κ (a1 == (2 : Int))) (κ false)) (cond (a0.1 == (8 : Int)) (κ (a1 == (2 : Int))) (κ false)))) (cond (a0.1 == (5 : Int)) (κ (a1 != (2 : Int))) (cond (a0.1 == (7 : Int)) (cond (a0.1 == (7 : Int)) (κ (a1 == (2 : Int))) (κ false)) (cond (a0.1 == (8 : Int)) (κ (a1 == (2 : Int))) (κ false))))))))))
def yY (a0 : Ty.T aZ) (a1 : Int) : Bool := t226 a0 a1 fun r => r
def aad : Prim := ⟨[.agg [.dat aZ true],oI],fun v => .done (f226 (yY v.1 v.2.1))⟩
theorem M0 : PO 226 aad := pK abD fun v => et ((t226 v.1 v.2.1 (sm f226))) (by kernel_rfl) (show t226 v.1 v.2.1 (sm f226) = some (f226 (t226 v.1 v.2.1 fun r => r)) from (tC rfl (tC (tC rfl (tC (tC rfl (tC (tC rfl (tC (tC rfl rfl) (tC rfl rfl))) (tC (tC rfl (tC (tC rfl rfl) (tC rfl rfl))) (tC rfl (tC (tC rfl rfl) (tC rfl rfl)))))) (tC rfl (tC (tC rfl (tC (tC rfl rfl) (tC rfl rfl))) (tC (tC rfl (tC (tC rfl rfl) (tC rfl rfl))) (tC rfl (tC (tC rfl rfl) (tC rfl rfl)))))))) (tC rfl (tC (tC rfl (tC (tC rfl (tC (tC rfl rfl) (tC rfl rfl))) (tC (tC rfl (tC (tC rfl rfl) (tC rfl rfl))) (tC rfl (tC (tC rfl rfl) (tC rfl rfl)))))) (tC rfl (tC (tC rfl (tC (tC rfl rfl) (tC rfl rfl))) (tC (tC rfl (tC (tC rfl rfl) (tC rfl rfl))) (tC rfl (tC (tC rfl rfl) (tC rfl rfl)))))))))))
def f176 (r : Bool) : AV × Sig := (.one (.bool r),[])
def aaj := (((((((E0.p Al).p FB).p M5).p NF).p Va).p M0).p nj)
def t176 (a0 : Ty.T aa) {Z : Type} (κ : Bool -> Option Z) : Option Z := cond (a0.2.2.2.2.2.2.1.1 == (2 : Int)) (cond (kf a0.1) (cond (l1 a0.2.1) (cond (v99 a0.2.2.1 0 99) (cond (v99 a0.2.2.2.1 0 4) (cond (a0.2.2.2.1 != (0 : Int)) (cond (qM a0.2.2.2.2.1) (cond (se a0.2.2.2.2.2.1) (cond (d225 a0.2.2.2.2.2.2.1) (cond (oL a0.2.2.2.2.2.2.1) (cond (yY a0.2.2.2.2.2.2.1 a0.2.2.2.2.1.1) (cond (v99 a0.2.2.2.2.2.2.2.1 (-1) 9999) (κ (v99 a0.2.2.2.2.2.2.2.2 0 2147483647)) (κ false)) (κ false)) (κ false)) (none)) (κ false)) (κ false)) (cond (a0.2.2.1 != (0 : Int)) (cond (qM a0.2.2.2.2.1) (cond (se a0.2.2.2.2.2.1) (cond (d225 a0.2.2.2.2.2.2.1) (cond (oL a0.2.2.2.2.2.2.1) (cond (yY a0.2.2.2.2.2.2.1 a0.2.2.2.2.1.1) (cond (v99 a0.2.2.2.2.2.2.2.1 (-1) 9999) (κ (v99 a0.2.2.2.2.2.2.2.2 0 2147483647)) (κ false)) (κ false)) (κ false)) (none)) (κ false)) (κ false)) (κ false))) (κ false)) (κ false)) (κ false)) (κ false)) (cond (kf a0.1) (cond (l1 a0.2.1) (cond (v99 a0.2.2.1 0 99) (cond (v99 a0.2.2.2.1 0 4) (cond (a0.2.2.2.1 != (0 : Int)) (cond (qM a0.2.2.2.2.1) (cond (se a0.2.2.2.2.2.1) (cond (d225 a0.2.2.2.2.2.2.1) (cond (oL a0.2.2.2.2.2.2.1) (cond (yY a0.2.2.2.2.2.2.1 a0.2.2.2.2.1.1) (cond (v99 a0.2.2.2.2.2.2.2.1 (-1) 9999) (κ (v99 a0.2.2.2.2.2.2.2.2 (-1) 2147483647)) (κ false)) (κ false)) (κ false)) (none)) (κ false)) (κ false)) (cond (a0.2.2.1 != (0 : Int)) (cond (qM a0.2.2.2.2.1) (cond (se a0.2.2.2.2.2.1) (cond (d225 a0.2.2.2.2.2.2.1) (cond (oL a0.2.2.2.2.2.2.1) (cond (yY a0.2.2.2.2.2.2.1 a0.2.2.2.2.1.1) (cond (v99 a0.2.2.2.2.2.2.2.1 (-1) 9999) (κ (v99 a0.2.2.2.2.2.2.2.2 (-1) 2147483647)) (κ false)) (κ false)) (κ false)) (none)) (κ false)) (κ false)) (κ false))) (κ false)) (κ false)) (κ false)) (κ false))
def um (a0 : Ty.T aa) : Bool := (t176 a0 some).getD false
def d176 (a0 : Ty.T aa) : Bool := (t176 a0 some).isSome
def WX : Prim := ⟨[.agg [.dat aa true]],fun v => .br (d176 v.1) (.done (f176 (um v.1))) .no⟩
theorem Iq : PO 176 WX := pK aaj fun v => et ((t176 v.1 (sm f176))) (by kernel_rfl) (aN (show t176 v.1 (sm f176) = (t176 v.1 some).bind _ from by unfold t176; simp only [bb]))
def f97 (r : Bool) : AV × Sig := (.one (.bool r),[])
def E97 := (E0.p Iq)
@[reducible] def B2 : List SP := .one (.dat (.sl 103 aa) true) :: .und :: .one (.dat .bool true) :: U2 (.one (.dat (.sl 103 aa) true) :: oI :: oI :: U16 (U8 (U2 ([]))))
@[reducible] def s7 : Type := (List (Ty.T aa)) × Bool × (List (Ty.T aa)) × Int × Int × Unit
def rF (v : s7) {Z : Type} (κ : Nat × s7 -> Option Z) : Option Z := cond (decide (v.2.2.2.2.1 < v.2.2.2.1)) (if 0 <= v.2.2.2.2.1 then (ay ((v.2.2.1)[(v.2.2.2.2.1).toNat]?) (fun x1 => cond (d176 x1) (cond (!(um x1)) (κ (1,(v.1,false,v.2.2.1,v.2.2.2.1,v.2.2.2.2.1,()))) (cond (decide (v.2.2.2.2.1 > (0 : Int))) (if 0 <= (IntKind.wrap .i64 (v.2.2.2.2.1 - (1 : Int))) then (ay ((v.1)[(IntKind.wrap .i64 (v.2.2.2.2.1 - (1 : Int))).toNat]?) (fun x2 => cond (decide (x2.1 ≥ x1.1)) (κ (1,(v.1,false,v.2.2.1,v.2.2.2.1,v.2.2.2.2.1,()))) (κ (0,(v.1,v.2.1,v.2.2.1,v.2.2.2.1,IntKind.wrap .i64 (v.2.2.2.2.1 + (1 : Int)),()))))) else none) (κ (0,(v.1,v.2.1,v.2.2.1,v.2.2.2.1,IntKind.wrap .i64 (v.2.2.2.2.1 + (1 : Int)),()))))) (none))) else none) (κ (2,(v.1,v.2.1,v.2.2.1,v.2.2.2.1,v.2.2.2.2.1,())))
def mU (v : s7) : Option (Nat × s7) := rF v some
def vM (v : s7) : Nat := v.1.length + v.2.2.1.length + v.2.2.2.1.toNat + v.2.2.2.2.1.toNat + 100
def mN (h0 : List (Ty.T aa)) (h1 : Bool) (h2 : List (Ty.T aa)) (h3 : Int) (h4 : Int) (c : Nat) : Bool := iK mU vM (h0,h1,h2,h3,h4,()) c
def vf (h0 : List (Ty.T aa)) (h1 : Bool) (h2 : List (Ty.T aa)) (h3 : Int) (h4 : Int) : s7 := iW mU vM (h0,h1,h2,h3,h4,())
def NT (v : s7) : aL (Ex × St) := aM mU (vM v) v (ar B2 aB) [.ret,.exit 0] 0
theorem R9 : aH Tryz.prog (aw (pb 3 5) (ab Tryz.f97)) B2 aB NT := ag (lt := .none) E97.ok ak (af.no _) fun n v K => et (rF v (bL _ _ _ _ _ K)) (by kernel_rfl) (show rF v _ = (rF v some).bind _ from (bC (bI (bO fun x1 => (bC (bC rfl (bC (bI (bO fun x2 => (bC rfl rfl))) rfl)) rfl))) rfl))
def Yj := E97.l (g := 97) (t := (a9 (pb 3 5) (ab Tryz.f97) .none (.sum B2 aB NT))) (aC Tryz.func97 (af.put (aA (by kernel_rfl)) (af.no _) R9))
def u97 (a0 : List (Ty.T aa)) : Option (AV × Sig) := cond (mN a0 false a0 ((a0).length : Int) 0 0) (some (.one (.bool (vf a0 false a0 ((a0).length : Int) 0).2.1),[])) (cond (mN a0 false a0 ((a0).length : Int) 0 1) (some (.one (.bool (decide ((((vf a0 false a0 ((a0).length : Int) 0).1).length : Int) <= (5 : Int)))),[])) (none))
def v97 (a0 : List (Ty.T aa)) : Bool := cond (mN a0 false a0 ((a0).length : Int) 0 0) ((vf a0 false a0 ((a0).length : Int) 0).2.1) (cond (mN a0 false a0 ((a0).length : Int) 0 1) (decide ((((vf a0 false a0 ((a0).length : Int) 0).1).length : Int) <= (5 : Int))) (false))
def d97 (a0 : List (Ty.T aa)) : Bool := cond (mN a0 false a0 ((a0).length : Int) 0 0) (true) (cond (mN a0 false a0 ((a0).length : Int) 0 1) (true) (false))
theorem o97 (a0 : List (Ty.T aa)) : u97 a0 = cond (d97 a0) (some (f97 (v97 a0))) none := (pC (pS _) (pC (pS _) (pN _)))
def p97 : Prim := ⟨[.one (.dat (.sl 103 aa) true)],fun v => .br (d97 v.1) (.done (f97 (v97 v.1))) .no⟩
theorem abl : PO 97 p97 := pK Yj fun v => et (u97 v.1) (by kernel_rfl) (o97 v.1)
def f103 (r : (List (Ty.T an))) : AV × Sig := (.one (.sl 4096),[(4096,.arr 126 an r false)])
def Vv := (E0.p My)
@[reducible] def wO : List SP := U2 (.one (.dat (.sl 126 an) false) :: .one (.own 6) :: U2 (.und :: .one (.dat (.sl 126 an) true) :: oI :: oI :: U8 (U4 (.und :: []))))
@[reducible] def wH : List (Nat × GP) := [(6,.arr 126 an false)]
@[reducible] def ml : Type := (List (Ty.T an)) × (List (Ty.T an)) × Int × Int × (List (Ty.T an)) × Unit
def ph (v : ml) {Z : Type} (κ : Nat × ml -> Option Z) : Option Z := cond (decide (v.2.2.2.1 < v.2.2.1)) (if 0 <= v.2.2.2.1 then (ay ((v.2.1)[(v.2.2.2.1).toNat]?) (fun x1 => cond (d185 x1.2.2.2.2.2.1) (if (v.2.2.2.2.1 ++ [(x1.1,x1.2.1,x1.2.2.1,x1.2.2.2.1,x1.2.2.2.2.1,(J3 x1.2.2.2.2.2.1),x1.2.2.2.2.2.2)] : List (Ty.T an)).length * 128 <= 140737488351232 then (κ (0,(v.1,v.2.1,v.2.2.1,IntKind.wrap .i64 (v.2.2.2.1 + (1 : Int)),v.2.2.2.2.1 ++ [(x1.1,x1.2.1,x1.2.2.1,x1.2.2.2.1,x1.2.2.2.2.1,(J3 x1.2.2.2.2.2.1),x1.2.2.2.2.2.2)],()))) else none) (none))) else none) (κ (1,(v.1,v.2.1,v.2.2.1,v.2.2.2.1,v.2.2.2.2.1,())))
def pL (v : ml) : Option (Nat × ml) := ph v some
def rW (v : ml) : Nat := v.1.length + v.2.1.length + v.2.2.1.toNat + v.2.2.2.1.toNat + v.2.2.2.2.1.length + 100
def yG (h0 : List (Ty.T an)) (h1 : List (Ty.T an)) (h2 : Int) (h3 : Int) (h4 : List (Ty.T an)) (c : Nat) : Bool := iK pL rW (h0,h1,h2,h3,h4,()) c
def DC (h0 : List (Ty.T an)) (h1 : List (Ty.T an)) (h2 : Int) (h3 : Int) (h4 : List (Ty.T an)) : ml := iW pL rW (h0,h1,h2,h3,h4,())
def IY (v : ml) : aL (Ex × St) := aM pL (rW v) v (ar wO wH) [.exit 0] 0
theorem OJ : aH Tryz.prog (aw (pb 4 11) (ab Tryz.f103)) wO wH IY := ag (lt := .none) Vv.ok ak (af.no _) fun n v K => et (ph v (bL _ _ _ _ _ K)) (by kernel_rfl) (show ph v _ = (ph v some).bind _ from (bC (bI (bO fun x1 => (bC (bI rfl) rfl))) rfl))
def Qm := Vv.l (g := 103) (t := (a9 (pb 4 11) (ab Tryz.f103) .none (.sum wO wH IY))) (aC Tryz.func103 (af.put (aA (by kernel_rfl)) (af.no _) OJ))
def RE (a0 : List (Ty.T an)) : Option (AV × Sig) := cond (yG [] a0 ((a0).length : Int) 0 [] 0) (some (.one (.sl 4096),[(4096,.arr 126 an (DC [] a0 ((a0).length : Int) 0 []).2.2.2.2.1 false)])) (none)
def Ik (a0 : List (Ty.T an)) : (List (Ty.T an)) := cond (yG [] a0 ((a0).length : Int) 0 [] 0) ((DC [] a0 ((a0).length : Int) 0 []).2.2.2.2.1) ([])
def d103 (a0 : List (Ty.T an)) : Bool := cond (yG [] a0 ((a0).length : Int) 0 [] 0) (true) (false)
theorem Xj (a0 : List (Ty.T an)) : RE a0 = cond (d103 a0) (some (f103 (Ik a0))) none := (pC (pS _) (pN _))
def YF : Prim := ⟨[.one (.dat (.sl 126 an) true)],fun v => .br (d103 v.1) (.done (f103 (Ik v.1))) .no⟩
theorem Ua : PO 103 YF := pK Qm fun v => et (RE v.1) (by kernel_rfl) (Xj v.1)
def f184 (r : List (Ty.T (.int .i64))) : AV × Sig := (.one (.sl 4096),[(4096,.arr 3 (.int .i64) r false)])
def eB (a0 : List (Ty.T (.int .i64))) : List (Ty.T (.int .i64)) := a0
def d184 (a0 : List (Ty.T (.int .i64))) : Bool := decide (List.length a0 * 8 <= 140737488351232)
def Wi : Prim := ⟨[.one (.dat (.sl 3 (.int .i64)) true)],fun v => .br (d184 v.1) (.done (f184 (eB v.1))) .no⟩
theorem JL : PO 184 Wi := EL (t := 28) (tb := 4) (e := 3) hEt Tryz.func184 (by kernel_rfl) (by kernel_rfl) (by kernel_rfl) (by kernel_rfl) rfl rfl (by decide) (by kernel_rfl)
end
end Go.Proofs.YtcddhifkfakcjaaGreat.Vm
