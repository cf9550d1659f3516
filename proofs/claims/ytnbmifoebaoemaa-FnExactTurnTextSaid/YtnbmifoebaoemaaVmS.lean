/- strings.Join at this program: the contract of the shelf, as the interpreter asks for it. No condition. -/
import Derived.Shelf.Strings.OnBuilder
import Derived.Test.YtnbmifoebaoemaaVmT
import Derived.Test.YtnbmifoebaoemaaVmLibThree
namespace Go.Proofs.Ytnbmifoebaoemaa.Vm
open Go Go.Proofs.Ytnbmifoebaoemaa.Lib
section
open Go.Shelf Go.RowKit
def joinRen : Go.Shelf.Ren := ⟨fun | 156 => 109 | 165 => 129 | 166 => 130 | 169 => 131 | 240 => 142 | 241 => 143 | 276 => 146 | 277 => 147 | n => n, fun | 31 => 154 | 9 => 9 | 3 => 3 | 4 => 4 | 0 => 0 | 20 => 20 | 72 => 171 | 76 => 175 | 70 => 169 | 37 => 159 | 75 => 174 | 127 => 183 | 164 => 184 | 5 => 5 | 80 => 177 | n => n, fun | n => n⟩
theorem joinLays : Go.Proofs.Lays.n156 Try.prog joinRen := {
  mixed := by kernel_rfl
  f156 := Try.func109.trans (congrArg some (by kernel_rfl))
  f165 := Try.func129.trans (congrArg some (by kernel_rfl))
  f166 := Try.func130.trans (congrArg some (by kernel_rfl))
  f169 := Try.func131.trans (congrArg some (by kernel_rfl))
  f240 := Try.func142.trans (congrArg some (by kernel_rfl))
  f241 := Try.func143.trans (congrArg some (by kernel_rfl))
  f276 := Try.func146.trans (congrArg some (by kernel_rfl))
  f277 := Try.func147.trans (congrArg some (by kernel_rfl))
  t0 := Try.underlying0
  a0 := Try.isAgg0
  z0 := Try.sizeOf0
  v0 := Try.zeroValue0
  t3 := Try.underlying3
  a3 := Try.isAgg3
  z3 := Try.sizeOf3
  v3 := Try.zeroValue3
  t4 := Try.underlying4
  a4 := Try.isAgg4
  z4 := Try.sizeOf4
  v4 := Try.zeroValue4
  t9 := Try.underlying9
  a9 := Try.isAgg9
  z9 := Try.sizeOf9
  v9 := Try.zeroValue9
  t20 := Try.underlying20
  a20 := Try.isAgg20
  z20 := Try.sizeOf20
  v20 := Try.zeroValue20
  t31 := Try.underlying154
  a31 := Try.isAgg154
  z31 := Try.sizeOf154
  v31 := Try.zeroValue154
  t37 := Try.underlying159
  a37 := Try.isAgg159
  z37 := Try.sizeOf159
  v37 := Try.zeroValue159
  t70 := Try.underlying169
  a70 := Try.isAgg169
  z70 := Try.sizeOf169
  v70 := Try.zeroValue169
  t72 := Try.underlying171
  a72 := Try.isAgg171
  z72 := Try.sizeOf171
  v72 := Try.zeroValue171
  t75 := Try.underlying174
  a75 := Try.isAgg174
  z75 := Try.sizeOf174
  v75 := Try.zeroValue174
  t76 := Try.underlying175
  a76 := Try.isAgg175
  z76 := Try.sizeOf175
  v76 := Try.zeroValue175
  t127 := Try.underlying183
  a127 := Try.isAgg183
  z127 := Try.sizeOf183
  v127 := Try.zeroValue183
  t164 := Try.underlying184
  a164 := Try.isAgg184
  z164 := Try.sizeOf184
  v164 := Try.zeroValue184 }
theorem joinExtra : Builder.Extra Try.prog joinRen := {
  sizeBuilder := by kernel_rfl
  liesBuilder := by kernel_rfl
  t5 := Try.underlying5
  a5 := Try.isAgg5
  z5 := Try.sizeOf5
  v5 := Try.zeroValue5
  infoByte := by kernel_rfl
  cellsByte := by kernel_rfl
  sizeByte := by kernel_rfl
  neB5 := by decide }
theorem joinNone (a : Option Addr) (c : Nat) (sep : ByteArray) (w : World) :
    Calls Try.prog 109 #[.slice a 0 c, .string sep] w fun e w' => e = .returned (.string ⟨#[]⟩) ∧ w' = w := Any.strings_Join_none joinLays joinExtra a c sep w
theorem joinSome (bk o c : Nat) (xs : List ByteArray) (sep : ByteArray) (w : World) (hcells : ∀ (j : Nat) x, xs[j]? = some x → w.cell? ⟨bk, o + j, none⟩ = some (.string x)) (hbk : bk < w.heap.size) (hN : xs.length ≤ 140737488355328) (hcap : xs.length ≤ c) (hlen : (Lib.join (xs.map (·.data.toList)) sep.data.toList).length ≤ 140737488355328) :
    Calls Try.prog 109 #[.slice (some ⟨bk, o, none⟩) xs.length c, .string sep] w fun e w' => e = .returned (.string ⟨(Lib.join (xs.map (·.data.toList)) sep.data.toList).toArray⟩) ∧ Below w.heap.size w w' := Any.strings_Join joinLays joinExtra bk o c xs sep w hcells hbk hN hcap hlen
end
theorem okJoin : PrimOk Try.prog 109 (joinP 9) := joinOk ⟨Try.f109, Try.func109, by kernel_rfl, by kernel_rfl⟩ joinNone joinSome
end Go.Proofs.Ytnbmifoebaoemaa.Vm
