/- strings.Join, strings.Split at this program: the contracts of the shelf, as the interpreter asks for them. No condition. -/
import Derived.Shelf.Sort.Plain
import Derived.Shelf.Slices.Clone
import Derived.Shelf.Slices.CompactI
import Derived.Shelf.Slices.In.SortNone
import Derived.WalkSpells
import Derived.Tactics
import Derived.Tactics2
import Derived.StillTactics
import Derived.Test.YtakmjjikiefheaaVmLibThree
import Derived.Test.YtakmjjikiefheaaVmT
namespace Go.Proofs.Ytakmjjikiefheaa.Vm
open Go Go.Proofs.Ytakmjjikiefheaa.Lib
section
open Go.Shelf Go.RowKit Go.Lib Go.Sort Go.Proofs
def setlays189_ren : Go.Shelf.Ren := ⟨fun | 189 => 40 | 125 => 48 | 257 => 47 | 128 => 58 | 129 => 59 | 294 => 49 | 295 => 50 | 296 => 51 | 297 => 52 | 298 => 53 | 299 => 54 | 216 => 55 | 300 => 56 | 301 => 57 | 328 => 60 | 329 => 61 | 330 => 62 | 331 => 63 | 332 => 64 | 215 => 65 | 343 => 66 | n => n, fun | 28 => 29 | 3 => 3 | 46 => 83 | 0 => 0 | 51 => 94 | 53 => 96 | 4 => 4 | 183 => 86 | 182 => 85 | 131 => 91 | 5 => 5 | 9 => 9 | 218 => 97 | 222 => 101 | 228 => 104 | 229 => 105 | n => n, fun | n => n⟩
theorem setlays189 : Go.Proofs.Lays.n189 Try.prog setlays189_ren := {
  mixed := by kernel_rfl
  f125 := Try.func48.trans (congrArg some (by kernel_rfl))
  f128 := Try.func58.trans (congrArg some (by kernel_rfl))
  f129 := Try.func59.trans (congrArg some (by kernel_rfl))
  f189 := Try.func40.trans (congrArg some (by kernel_rfl))
  f215 := Try.func65.trans (congrArg some (by kernel_rfl))
  f216 := Try.func55.trans (congrArg some (by kernel_rfl))
  f257 := Try.func47.trans (congrArg some (by kernel_rfl))
  f294 := Try.func49.trans (congrArg some (by kernel_rfl))
  f295 := Try.func50.trans (congrArg some (by kernel_rfl))
  f296 := Try.func51.trans (congrArg some (by kernel_rfl))
  f297 := Try.func52.trans (congrArg some (by kernel_rfl))
  f298 := Try.func53.trans (congrArg some (by kernel_rfl))
  f299 := Try.func54.trans (congrArg some (by kernel_rfl))
  f300 := Try.func56.trans (congrArg some (by kernel_rfl))
  f301 := Try.func57.trans (congrArg some (by kernel_rfl))
  f328 := Try.func60.trans (congrArg some (by kernel_rfl))
  f329 := Try.func61.trans (congrArg some (by kernel_rfl))
  f330 := Try.func62.trans (congrArg some (by kernel_rfl))
  f331 := Try.func63.trans (congrArg some (by kernel_rfl))
  f332 := Try.func64.trans (congrArg some (by kernel_rfl))
  f343 := Try.func66.trans (congrArg some (by kernel_rfl))
  t0 := Try.underlying0
  a0 := Try.isAgg0
  z0 := Try.sizeOf0
  v0 := Try.zeroValue0
  t3 := Try.underlying3
  a3 := Try.isAgg3
  z3 := Try.sizeOf3
  v3 := Try.zeroValue3
  t4 := Try.underlying4
  a4 := Try.isAgg4
  z4 := Try.sizeOf4
  v4 := Try.zeroValue4
  t5 := Try.underlying5
  a5 := Try.isAgg5
  z5 := Try.sizeOf5
  v5 := Try.zeroValue5
  t9 := Try.underlying9
  a9 := Try.isAgg9
  z9 := Try.sizeOf9
  v9 := Try.zeroValue9
  t28 := Try.underlying29
  a28 := Try.isAgg29
  z28 := Try.sizeOf29
  v28 := Try.zeroValue29
  t46 := Try.underlying83
  a46 := Try.isAgg83
  z46 := Try.sizeOf83
  v46 := Try.zeroValue83
  t51 := Try.underlying94
  a51 := Try.isAgg94
  z51 := Try.sizeOf94
  v51 := Try.zeroValue94
  t53 := Try.underlying96
  a53 := Try.isAgg96
  z53 := Try.sizeOf96
  v53 := Try.zeroValue96
  t131 := Try.underlying91
  a131 := Try.isAgg91
  z131 := Try.sizeOf91
  v131 := Try.zeroValue91
  t182 := Try.underlying85
  a182 := Try.isAgg85
  z182 := Try.sizeOf85
  v182 := Try.zeroValue85
  t183 := Try.underlying86
  a183 := Try.isAgg86
  z183 := Try.sizeOf86
  v183 := Try.zeroValue86
  t218 := Try.underlying97
  a218 := Try.isAgg97
  z218 := Try.sizeOf97
  v218 := Try.zeroValue97
  t222 := Try.underlying101
  a222 := Try.isAgg101
  z222 := Try.sizeOf101
  v222 := Try.zeroValue101
  t228 := Try.underlying104
  a228 := Try.isAgg104
  z228 := Try.sizeOf104
  v228 := Try.zeroValue104
  t229 := Try.underlying105
  a229 := Try.isAgg105
  z229 := Try.sizeOf105
  v229 := Try.zeroValue105 }
theorem setSort (blk off cap : Nat) (zs : List Int) (w : World) (hH : Holds (Value.int .i64) w blk off zs.toArray) (hblk : blk < w.heap.size) (hsz : zs.length < 4611686018427387904) :
    Calls Try.prog 40 #[.slice (some ⟨blk, off, none⟩) zs.length cap] w fun e w' =>
      e = .returned (.tuple #[]) ∧ ∃ n os, w' = grow (putRow (Value.int .i64) (Sort.ahead w n) blk off (zs.mergeSort fun x y => decide (x ≤ y)).toArray) os := Any.slices_Sort_int setlays189 blk off cap zs w hH hblk hsz
theorem setSortNone (p : Option Addr) (cap : Nat) (w : World) :
    Calls Try.prog 40 #[.slice p 0 cap] w fun e w' => e = .returned (.tuple #[]) ∧ w' = w := Any.slices_Sort_int_none setlays189 p cap w
def setlaysNm220_ren : Go.Shelf.Ren := ⟨fun | 20 => 41 | n => n, fun | 22 => 29 | 3 => 3 | 4 => 4 | 0 => 0 | n => n, fun | n => n⟩
theorem setlaysNm220 : Go.Proofs.Lays2.n20 Try.prog setlaysNm220_ren := {
  mixed := by kernel_rfl
  f20 := Try.func41.trans (congrArg some (by kernel_rfl))
  t0 := Try.underlying0
  a0 := Try.isAgg0
  z0 := Try.sizeOf0
  v0 := Try.zeroValue0
  t3 := Try.underlying3
  a3 := Try.isAgg3
  z3 := Try.sizeOf3
  v3 := Try.zeroValue3
  t4 := Try.underlying4
  a4 := Try.isAgg4
  z4 := Try.sizeOf4
  v4 := Try.zeroValue4
  t22 := Try.underlying29
  a22 := Try.isAgg29
  z22 := Try.sizeOf29
  v22 := Try.zeroValue29
  i3 := by kernel_rfl }
theorem setCompact (blk off cap : Nat) (zs : List Int) (w : World) (hH : Holds (Value.int .i64) w blk off zs.toArray) (hsz : zs.length ≤ 9223372036854775807) (hcap : zs.length ≤ cap) :
    Calls Try.prog 41 #[.slice (some ⟨blk, off, none⟩) zs.length cap] w fun e w' => e = .returned (.slice (some ⟨blk, off, none⟩) (Lib.compact zs).length cap) ∧ ∃ q, w' = putRow (Value.int .i64) (Sort.ahead w q) blk off (Lib.compact zs ++ List.replicate (zs.length - (Lib.compact zs).length) 0).toArray := Any.slices_Compact_int setlaysNm220 blk off cap zs w hH hsz hcap
theorem setCompactNone (a : Option Addr) (cap : Nat) (w : World) :
    Calls Try.prog 41 #[.slice a 0 cap] w fun e w' => e = .returned (.slice a 0 cap) ∧ w' = w := Any.slices_Compact_int_empty setlaysNm220 a cap w
def setlaysNm215_ren : Go.Shelf.Ren := ⟨fun | 15 => 39 | n => n, fun | 22 => 29 | 3 => 3 | 4 => 4 | n => n, fun | n => n⟩
theorem setlaysNm215 : Go.Proofs.Lays2.n15 Try.prog setlaysNm215_ren := {
  mixed := by kernel_rfl
  f15 := Try.func39.trans (congrArg some (by kernel_rfl))
  t3 := Try.underlying3
  a3 := Try.isAgg3
  z3 := Try.sizeOf3
  v3 := Try.zeroValue3
  t4 := Try.underlying4
  a4 := Try.isAgg4
  z4 := Try.sizeOf4
  v4 := Try.zeroValue4
  t22 := Try.underlying29
  a22 := Try.isAgg29
  z22 := Try.sizeOf29
  v22 := Try.zeroValue29
  i3 := by kernel_rfl }
theorem setClone (b off n c : Nat) (zs : List Int) (w : World) (hz : n ≤ zs.length) (hbig : n * 8 ≤ 140737488355328) (hc : ∀ j, j < zs.length → w.cell? ⟨b, off + j, none⟩ = some (.int .i64 (zs.getD j 0))) :
    Calls Try.prog 39 #[.slice (some ⟨b, off, none⟩) n c] w fun e w' => ∃ v', e = .returned v' ∧ w'.ownsRow w.heap.size 3 1 v' n ((zs.take n).map (Value.int .i64)) ∧ v' ≠ .slice none 0 0 ∧ Below w.heap.size w w' := Any.slices_Clone_int setlaysNm215 b off n c zs w hz hbig hc
theorem setCloneNil (n c : Nat) (w : World) :
    Calls Try.prog 39 #[.slice none n c] w fun e w' => e = .returned (.slice none 0 0) ∧ w' = w := Any.slices_Clone_int_nil setlaysNm215 n c w
theorem setCloneZero (a : Addr) (c : Nat) (w : World) :
    Calls Try.prog 39 #[.slice (some a) 0 c] w fun e w' => ∃ v', e = .returned v' ∧ w'.ownsRow w.heap.size 3 1 v' 0 [] ∧ v' ≠ .slice none 0 0 ∧ Below w.heap.size w w' := Any.slices_Clone_int_zero setlaysNm215 a c w
theorem setNil (c : Nat) (w : World) : Calls Try.prog 27 #[.slice none 0 c] w fun e w' => e = .returned (.slice none 0 0) ∧ w' = w := by
  go_enter Try.func27, Try.ntmps27
  go_wp2_with fail
  go_call setCloneNil 0 c w as e w' ⟨he, hw⟩
  subst he; subst hw
  go_wp2_with fail
  go_call setSortNone none 0 w' as e w2 ⟨he, hw⟩
  subst he; subst hw
  go_wp2_with fail
  go_call setCompactNone none 0 w2 as e w3 ⟨he, hw⟩
  subst he; subst hw
  go_wp2_with fail
  go_ret
  exact ⟨rfl, rfl⟩
theorem setZero (v : Value) (w0 : World) (hclone : Calls Try.prog 39 #[v] w0 fun e w' => ∃ v', e = .returned v' ∧ w'.ownsRow w0.heap.size 3 1 v' 0 [] ∧ v' ≠ .slice none 0 0 ∧ Below w0.heap.size w0 w') :
    Calls Try.prog 27 #[v] w0 fun e w' => ∃ v', e = .returned v' ∧ w'.ownsRow w0.heap.size 3 1 v' 0 [] ∧ Below w0.heap.size w0 w' := by
  go_enter Try.func27, Try.ntmps27
  go_wp2_with fail
  go_call hclone as e w1 ⟨v', he, hr, hne, hb⟩
  subst he
  obtain ⟨g, cap, cur, rfl, H⟩ := own_open hr hne hb
  clear hr hne hb
  go_wp2_with fail
  go_call setSortNone (some ⟨g, 0, none⟩) cap w1 as e w2 ⟨he, hw⟩
  subst he; subst hw
  go_wp2_with fail
  go_call setCompactNone (some ⟨g, 0, none⟩) cap w2 as e w3 ⟨he, hw⟩
  subst he; subst hw
  go_wp2_with fail
  go_ret
  obtain ⟨hx, hg, hh, hle, hm, hsz, htk, hb⟩ := H.out
  exact ⟨_, rfl, ⟨rfl, .inr ⟨g, cap, cur, rfl, hg, hh, Nat.zero_le _, hm, by simpa using hsz, rfl⟩⟩, hb⟩
theorem setSome (v : Value) (w0 : World) (zs : List Int) (hl : zs.length ≤ 17592186044416) (hclone : Calls Try.prog 39 #[v] w0 fun e w' => ∃ v', e = .returned v' ∧ w'.ownsRow w0.heap.size 3 1 v' zs.length (zs.map (Value.int .i64)) ∧ v' ≠ .slice none 0 0 ∧ Below w0.heap.size w0 w') :
    Calls Try.prog 27 #[v] w0 fun e w' => ∃ v', e = .returned v' ∧ w'.ownsRow w0.heap.size 3 1 v' (setI zs).length ((setI zs).map (Value.int .i64)) ∧ Below w0.heap.size w0 w' := by
  have K : Hid (zs.length ≤ 17592186044416 ∧ (setI zs).length ≤ zs.length ∧ (zs.mergeSort fun x y => decide (x ≤ y)).length = zs.length) := ⟨hl, setI_len zs, List.length_mergeSort _⟩
  clear hl
  go_enter Try.func27, Try.ntmps27
  go_wp2_with fail
  go_call hclone as e w1 ⟨v', he, hr, hne, hb⟩
  subst he
  obtain ⟨g, cap, cur, rfl, H⟩ := own_open hr hne hb
  clear hr hne hb hclone
  have hS := setSort g 0 cap zs w1 (holds_of_blockI H.out.2.2.1 H.out.2.2.2.2.2.2.1) (Array.getElem?_eq_some_iff.1 H.out.2.2.1).1 (by have := K.out.1; omega)
  go_wp2_with fail
  go_call hS as e w2 ⟨he, q, os, hw⟩
  subst he
  clear hS
  have B : Hid (w2.heap[g]? = some (.cells (putCells (Value.int .i64) 0 (zs.mergeSort fun x y => decide (x ≤ y)).toArray cur) 3 (0, 0)) ∧ w1.grownBy w2 (some g)) := by
    subst hw
    exact ⟨heap_sortedI _ H.out.2.2.1, grownBy_sortedI _⟩
  clear hw
  have htk : (putCells (Value.int .i64) 0 (zs.mergeSort fun x y => decide (x ≤ y)).toArray cur).toList.take (zs.mergeSort fun x y => decide (x ≤ y)).length = (zs.mergeSort fun x y => decide (x ≤ y)).map (Value.int .i64) := take_putCellsI _ _ (by have := H.out.2.2.2.1; have := H.out.2.2.2.2.2.1; have := K.out.2.2; omega)
  have hC := setCompact g 0 cap _ w2 (holds_of_blockI B.out.1 htk) (by have := K.out; omega) (by have := K.out; have := H.out; omega)
  rw [K.out.2.2] at hC
  clear htk
  go_wp2_with fail
  go_call hC as e w3 ⟨he, q2, hw⟩
  subst he
  clear hC
  have C : Hid (w3.heap[g]? = some (.cells (putCells (Value.int .i64) 0 (setI zs ++ List.replicate (zs.length - (setI zs).length) 0).toArray (putCells (Value.int .i64) 0 (zs.mergeSort fun x y => decide (x ≤ y)).toArray cur)) 3 (0, 0)) ∧ w2.grownBy w3 (some g)) := by
    have e : w3 = grow (putRow (Value.int .i64) (Sort.ahead w2 q2) g 0 (setI zs ++ List.replicate (zs.length - (setI zs).length) 0).toArray) #[] := by rw [grow_empty]; exact hw
    rw [e]
    exact ⟨heap_sortedI _ B.out.1, grownBy_sortedI _⟩
  clear hw
  go_wp2_with fail
  go_ret
  exact ⟨_, rfl, set_end H B.out.2 C⟩
theorem okSet : PrimOk Try.prog 27 (setP 3) := setOk ⟨Try.f27, Try.func27, by kernel_rfl, by kernel_rfl⟩ setNil (fun a c w => setZero _ w (setCloneZero a c w)) (fun b o c zs w hl hc => setSome _ w zs hl (by
  have h := setClone b o zs.length c zs w (Nat.le_refl _) (by omega) hc
  rw [List.take_length] at h
  exact h))
end
end Go.Proofs.Ytakmjjikiefheaa.Vm
