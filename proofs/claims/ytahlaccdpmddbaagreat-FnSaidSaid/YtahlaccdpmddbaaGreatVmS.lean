/- strings.Join, strings.Split at this program: the contracts of the shelf, as the interpreter asks for them. No condition. -/
import Derived.Shelf.Strings.OnBuilder
import Derived.Test.YtahlaccdpmddbaaGreatVmT
import Derived.Test.YtahlaccdpmddbaaGreatVmLibThree
namespace Go.Proofs.YtahlaccdpmddbaaGreat.Vm
open Go Go.Proofs.YtahlaccdpmddbaaGreat.Lib
section
open Go.Shelf Go.RowKit
def IA : Go.Shelf.Ren := ⟨fun | 156 => 131 | 165 => 223 | 166 => 224 | 169 => 225 | 240 => 281 | 241 => 282 | 276 => 318 | 277 => 319 | n => n, fun | 31 => 161 | 9 => 9 | 3 => 3 | 4 => 4 | 0 => 0 | 20 => 20 | 72 => 235 | 76 => 239 | 70 => 233 | 37 => 61 | 75 => 238 | 127 => 274 | 164 => 294 | 5 => 5 | 80 => 241 | n => n, fun | n => n⟩
theorem FO : Go.Proofs.Lays.n156 Tryz.prog IA := {
  mixed := by kernel_rfl
  f156 := Tryz.func131.trans (congrArg some (by kernel_rfl))
  f165 := Tryz.func223.trans (congrArg some (by kernel_rfl))
  f166 := Tryz.func224.trans (congrArg some (by kernel_rfl))
  f169 := Tryz.func225.trans (congrArg some (by kernel_rfl))
  f240 := Tryz.func281.trans (congrArg some (by kernel_rfl))
  f241 := Tryz.func282.trans (congrArg some (by kernel_rfl))
  f276 := Tryz.func318.trans (congrArg some (by kernel_rfl))
  f277 := Tryz.func319.trans (congrArg some (by kernel_rfl))
  t0 := Tryz.underlying0
  a0 := Tryz.isAgg0
  z0 := Tryz.sizeOf0
  v0 := Tryz.zeroValue0
  t3 := Tryz.underlying3
  a3 := Tryz.isAgg3
  z3 := Tryz.sizeOf3
  v3 := Tryz.zeroValue3
  t4 := Tryz.underlying4
  a4 := Tryz.isAgg4
  z4 := Tryz.sizeOf4
  v4 := Tryz.zeroValue4
  t9 := Tryz.underlying9
  a9 := Tryz.isAgg9
  z9 := Tryz.sizeOf9
  v9 := Tryz.zeroValue9
  t20 := Tryz.underlying20
  a20 := Tryz.isAgg20
  z20 := Tryz.sizeOf20
  v20 := Tryz.zeroValue20
  t31 := Tryz.underlying161
  a31 := Tryz.isAgg161
  z31 := Tryz.sizeOf161
  v31 := Tryz.zeroValue161
  t37 := Tryz.underlying61
  a37 := Tryz.isAgg61
  z37 := Tryz.sizeOf61
  v37 := Tryz.zeroValue61
  t70 := Tryz.underlying233
  a70 := Tryz.isAgg233
  z70 := Tryz.sizeOf233
  v70 := Tryz.zeroValue233
  t72 := Tryz.underlying235
  a72 := Tryz.isAgg235
  z72 := Tryz.sizeOf235
  v72 := Tryz.zeroValue235
  t75 := Tryz.underlying238
  a75 := Tryz.isAgg238
  z75 := Tryz.sizeOf238
  v75 := Tryz.zeroValue238
  t76 := Tryz.underlying239
  a76 := Tryz.isAgg239
  z76 := Tryz.sizeOf239
  v76 := Tryz.zeroValue239
  t127 := Tryz.underlying274
  a127 := Tryz.isAgg274
  z127 := Tryz.sizeOf274
  v127 := Tryz.zeroValue274
  t164 := Tryz.underlying294
  a164 := Tryz.isAgg294
  z164 := Tryz.sizeOf294
  v164 := Tryz.zeroValue294 }
theorem zQ : Builder.Extra Tryz.prog IA := {
  sizeBuilder := by kernel_rfl
  liesBuilder := by kernel_rfl
  t5 := Tryz.underlying5
  a5 := Tryz.isAgg5
  z5 := Tryz.sizeOf5
  v5 := Tryz.zeroValue5
  infoByte := by kernel_rfl
  cellsByte := by kernel_rfl
  sizeByte := by kernel_rfl
  neB5 := by decide }
theorem Mo (a : Option Addr) (c : Nat) (sep : ByteArray) (w : World) :
    Calls Tryz.prog 131 #[.slice a 0 c, .string sep] w fun e w' => e = .returned (.string ⟨#[]⟩) /\ w' = w := Any.strings_Join_none FO zQ a c sep w
theorem Mb (bk o c : Nat) (xs : List ByteArray) (sep : ByteArray) (w : World) (hcells : ∀ (j : Nat) x, xs[j]? = some x -> w.cell? ⟨bk, o + j, none⟩ = some (.string x)) (hbk : bk < w.heap.size) (hN : xs.length <= 140737488355328) (hcap : xs.length <= c) (hlen : (Lib.join (xs.map (·.data.toList)) sep.data.toList).length <= 140737488355328) :
    Calls Tryz.prog 131 #[.slice (some ⟨bk, o, none⟩) xs.length c, .string sep] w fun e w' => e = .returned (.string ⟨(Lib.join (xs.map (·.data.toList)) sep.data.toList).toArray⟩) /\ Below w.heap.size w w' := Any.strings_Join FO zQ bk o c xs sep w hcells hbk hN hcap hlen
end
theorem Tc : gj Tryz.prog 131 (Jg 9) := SS ⟨Tryz.f131, Tryz.func131, by kernel_rfl, by kernel_rfl⟩ Mo Mb
end Go.Proofs.YtahlaccdpmddbaaGreat.Vm
