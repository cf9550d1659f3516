-- Written by wip/fix.py (a program of this session) out of the print of this claim.
import Derived.Test.YtljnfcmcjhggfaaPFnExactPieceTextx0
import Derived.Test.YtljnfcmcjhggfaaPFnExactPieceTextx3
namespace Go.Proofs.Ytljnfcmcjhggfaa.PFnExactPieceText
open Go.RowKit Go.Proofs.YtljnfcmcjhggfaaW.PrintWords Go.Proofs.YtljnfcmcjhggfaaW.PrintLast Go.Proofs.YtljnfcmcjhggfaaW.PrintMore
attribute [local go_sem] max2_int min2_int max_two min_two max_three min_three max_four min_four   -- for this text's walks alone
set_option linter.unusedVariables false
set_option linter.unusedSimpArgs false

/-! ### impl_PieceText: function 30 -/
def impl_PieceText.j0 : Nat → ByteArray → Int → Int → Int → Int → Int → Int → Int → Int → Int → Int → Int → Bool → Bool → Option (ByteArray)
  | 0, _, _, _, _, _, _, _, _, _, _, _, _, _, _ => none
  | k + 1, x3, x149000, x149001, x149002, x149003, x149004, x149005, x149006, x149007, x149008, x149009, x149010, x149011, x149012 => if x149011 = true then (if x3.size + 7 ≤ 9223372036854775807 then (if x149012 = true then (if (x3 ++ (⟨#[32, 100, 101, 97, 100, 108, 121]⟩ : ByteArray)).size + 5 ≤ 9223372036854775807 then (some ((x3 ++ (⟨#[32, 100, 101, 97, 100, 108, 121]⟩ : ByteArray)) ++ (⟨#[32, 98, 101, 110, 116]⟩ : ByteArray))) else (none)) else (some (x3 ++ (⟨#[32, 100, 101, 97, 100, 108, 121]⟩ : ByteArray)))) else (none)) else (if x149012 = true then (if x3.size + 5 ≤ 9223372036854775807 then (some (x3 ++ (⟨#[32, 98, 101, 110, 116]⟩ : ByteArray))) else (none)) else (some x3))
def impl_PieceText.f (k : Nat) (a0_0 : Int) (a0_1 : Int) (a0_2 : Int) (a0_3 : Int) (a0_4 : Int) (a0_5 : Int) (a0_6 : Int) (a0_7 : Int) (a0_8 : Int) (a0_9 : Int) (a0_10 : Int) (a0_11 : Bool) (a0_12 : Bool) : Option (ByteArray) := (impl_NumText.f k a0_0).bind fun t149 => (if 6 + t149.size ≤ 9223372036854775807 then (if ((⟨#[112, 105, 101, 99, 101, 32]⟩ : ByteArray) ++ t149).size + 4 ≤ 9223372036854775807 then ((impl_NumText.f k a0_1).bind fun t150 => (if (((⟨#[112, 105, 101, 99, 101, 32]⟩ : ByteArray) ++ t149) ++ (⟨#[32, 111, 102, 32]⟩ : ByteArray)).size + t150.size ≤ 9223372036854775807 then (if ((((⟨#[112, 105, 101, 99, 101, 32]⟩ : ByteArray) ++ t149) ++ (⟨#[32, 111, 102, 32]⟩ : ByteArray)) ++ t150).size + 6 ≤ 9223372036854775807 then ((impl_NumText.f k a0_2).bind fun t151 => (if (((((⟨#[112, 105, 101, 99, 101, 32]⟩ : ByteArray) ++ t149) ++ (⟨#[32, 111, 102, 32]⟩ : ByteArray)) ++ t150) ++ (⟨#[32, 119, 105, 116, 104, 32]⟩ : ByteArray)).size + t151.size ≤ 9223372036854775807 then (if ((((((⟨#[112, 105, 101, 99, 101, 32]⟩ : ByteArray) ++ t149) ++ (⟨#[32, 111, 102, 32]⟩ : ByteArray)) ++ t150) ++ (⟨#[32, 119, 105, 116, 104, 32]⟩ : ByteArray)) ++ t151).size + 4 ≤ 9223372036854775807 then ((impl_NumText.f k a0_3).bind fun t152 => (if (((((((⟨#[112, 105, 101, 99, 101, 32]⟩ : ByteArray) ++ t149) ++ (⟨#[32, 111, 102, 32]⟩ : ByteArray)) ++ t150) ++ (⟨#[32, 119, 105, 116, 104, 32]⟩ : ByteArray)) ++ t151) ++ (⟨#[32, 105, 110, 32]⟩ : ByteArray)).size + t152.size ≤ 9223372036854775807 then (if ((((((((⟨#[112, 105, 101, 99, 101, 32]⟩ : ByteArray) ++ t149) ++ (⟨#[32, 111, 102, 32]⟩ : ByteArray)) ++ t150) ++ (⟨#[32, 119, 105, 116, 104, 32]⟩ : ByteArray)) ++ t151) ++ (⟨#[32, 105, 110, 32]⟩ : ByteArray)) ++ t152).size + 1 ≤ 9223372036854775807 then ((impl_PowerOf.f a0_0 a0_1 a0_2 a0_3 a0_4 a0_5 a0_6 a0_7 a0_8 a0_9 a0_10 a0_11 a0_12).bind fun t153 => ((impl_NumText.f k t153).bind fun t154 => (if (((((((((⟨#[112, 105, 101, 99, 101, 32]⟩ : ByteArray) ++ t149) ++ (⟨#[32, 111, 102, 32]⟩ : ByteArray)) ++ t150) ++ (⟨#[32, 119, 105, 116, 104, 32]⟩ : ByteArray)) ++ t151) ++ (⟨#[32, 105, 110, 32]⟩ : ByteArray)) ++ t152) ++ (⟨#[32]⟩ : ByteArray)).size + t154.size ≤ 9223372036854775807 then (if ((((((((((⟨#[112, 105, 101, 99, 101, 32]⟩ : ByteArray) ++ t149) ++ (⟨#[32, 111, 102, 32]⟩ : ByteArray)) ++ t150) ++ (⟨#[32, 119, 105, 116, 104, 32]⟩ : ByteArray)) ++ t151) ++ (⟨#[32, 105, 110, 32]⟩ : ByteArray)) ++ t152) ++ (⟨#[32]⟩ : ByteArray)) ++ t154).size + 1 ≤ 9223372036854775807 then ((impl_ToughOf.f a0_0 a0_1 a0_2 a0_3 a0_4 a0_5 a0_6 a0_7 a0_8 a0_9 a0_10 a0_11 a0_12).bind fun t155 => ((impl_NumText.f k t155).bind fun t156 => (if (((((((((((⟨#[112, 105, 101, 99, 101, 32]⟩ : ByteArray) ++ t149) ++ (⟨#[32, 111, 102, 32]⟩ : ByteArray)) ++ t150) ++ (⟨#[32, 119, 105, 116, 104, 32]⟩ : ByteArray)) ++ t151) ++ (⟨#[32, 105, 110, 32]⟩ : ByteArray)) ++ t152) ++ (⟨#[32]⟩ : ByteArray)) ++ t154) ++ (⟨#[47]⟩ : ByteArray)).size + t156.size ≤ 9223372036854775807 then (if a0_10 > 0 then ((impl_NumText.f k a0_10).bind fun t157 => (if 7 + t157.size ≤ 9223372036854775807 then (if ((((((((((((⟨#[112, 105, 101, 99, 101, 32]⟩ : ByteArray) ++ t149) ++ (⟨#[32, 111, 102, 32]⟩ : ByteArray)) ++ t150) ++ (⟨#[32, 119, 105, 116, 104, 32]⟩ : ByteArray)) ++ t151) ++ (⟨#[32, 105, 110, 32]⟩ : ByteArray)) ++ t152) ++ (⟨#[32]⟩ : ByteArray)) ++ t154) ++ (⟨#[47]⟩ : ByteArray)) ++ t156).size + ((⟨#[32, 109, 97, 114, 107, 115, 32]⟩ : ByteArray) ++ t157).size ≤ 9223372036854775807 then (impl_PieceText.j0 k (((((((((((((⟨#[112, 105, 101, 99, 101, 32]⟩ : ByteArray) ++ t149) ++ (⟨#[32, 111, 102, 32]⟩ : ByteArray)) ++ t150) ++ (⟨#[32, 119, 105, 116, 104, 32]⟩ : ByteArray)) ++ t151) ++ (⟨#[32, 105, 110, 32]⟩ : ByteArray)) ++ t152) ++ (⟨#[32]⟩ : ByteArray)) ++ t154) ++ (⟨#[47]⟩ : ByteArray)) ++ t156) ++ ((⟨#[32, 109, 97, 114, 107, 115, 32]⟩ : ByteArray) ++ t157)) a0_0 a0_1 a0_2 a0_3 a0_4 a0_5 a0_6 a0_7 a0_8 a0_9 a0_10 a0_11 a0_12) else (none)) else (none))) else (impl_PieceText.j0 k ((((((((((((⟨#[112, 105, 101, 99, 101, 32]⟩ : ByteArray) ++ t149) ++ (⟨#[32, 111, 102, 32]⟩ : ByteArray)) ++ t150) ++ (⟨#[32, 119, 105, 116, 104, 32]⟩ : ByteArray)) ++ t151) ++ (⟨#[32, 105, 110, 32]⟩ : ByteArray)) ++ t152) ++ (⟨#[32]⟩ : ByteArray)) ++ t154) ++ (⟨#[47]⟩ : ByteArray)) ++ t156) a0_0 a0_1 a0_2 a0_3 a0_4 a0_5 a0_6 a0_7 a0_8 a0_9 a0_10 a0_11 a0_12)) else (none)))) else (none)) else (none)))) else (none)) else (none))) else (none)) else (none))) else (none)) else (none))) else (none)) else (none))
theorem impl_PieceText.mono_l : ∀ k, (∀ y0 y1 y2 y3 y4 y5 y6 y7 y8 y9 y10 y11 y12 y13, LeO (impl_PieceText.j0 k y0 y1 y2 y3 y4 y5 y6 y7 y8 y9 y10 y11 y12 y13) (impl_PieceText.j0 (k + 1) y0 y1 y2 y3 y4 y5 y6 y7 y8 y9 y10 y11 y12 y13))
  | 0 => fun _ _ _ _ _ _ _ _ _ _ _ _ _ _ r h => by simp [impl_PieceText.j0] at h
  | k + 1 => by
    have ih0 := impl_PieceText.mono_l k
    · intro y0 y1 y2 y3 y4 y5 y6 y7 y8 y9 y10 y11 y12 y13
      unfold impl_PieceText.j0
      repeat' first
      | (with_reducible exact ih0 _ _ _ _ _ _ _ _ _ _ _ _ _ _)
      | (with_reducible exact impl_NumText.mono _ _)
      | (with_reducible exact LeO.refl _)
      | (with_reducible exact LeO.none _)
      | (with_reducible refine LeO.ite ?_ ?_)
      | (with_reducible refine LeO.bind ?_ (fun _ => ?_))
      | exact ih0 _ _ _ _ _ _ _ _ _ _ _ _ _ _
      | exact impl_NumText.mono _ _
      | exact LeO.none _
      | refine LeO.ite ?_ ?_
      | refine LeO.bind ?_ (fun _ => ?_)
theorem impl_PieceText.mono : ∀ a0 a1 a2 a3 a4 a5 a6 a7 a8 a9 a10 a11 a12 k, LeO (impl_PieceText.f k a0 a1 a2 a3 a4 a5 a6 a7 a8 a9 a10 a11 a12) (impl_PieceText.f (k + 1) a0 a1 a2 a3 a4 a5 a6 a7 a8 a9 a10 a11 a12) := by
  intro a0 a1 a2 a3 a4 a5 a6 a7 a8 a9 a10 a11 a12 k
  have ih0 := impl_PieceText.mono_l k
  unfold impl_PieceText.f
  repeat' first
      | (with_reducible exact ih0 _ _ _ _ _ _ _ _ _ _ _ _ _ _)
      | (with_reducible exact impl_NumText.mono _ _)
      | (with_reducible exact LeO.refl _)
      | (with_reducible exact LeO.none _)
      | (with_reducible refine LeO.ite ?_ ?_)
      | (with_reducible refine LeO.bind ?_ (fun _ => ?_))
      | exact ih0 _ _ _ _ _ _ _ _ _ _ _ _ _ _
      | exact impl_NumText.mono _ _
      | exact LeO.none _
      | refine LeO.ite ?_ ?_
      | refine LeO.bind ?_ (fun _ => ?_)
def impl_PieceText.T1 : Bool × List (List Nat × List Nat) := (true, [([], []), ([0], [0]), ([1], [1]), ([2], [2]), ([3], [3]), ([], []), ([5], [5]), ([6, 2], [6]), ([4, 7], [4, 7]), ([8], [8]), ([], []), ([10], [10]), ([11, 7], [11]), ([9, 12], [9, 12]), ([13], [13]), ([], []), ([15], [15]), ([16, 12], [16]), ([14, 17], [14, 17]), ([18], [18]), ([], []), ([20, 17], [20]), ([21, 21], [21]), ([19, 22], [19, 22]), ([23], [23]), ([], []), ([25, 22], [25]), ([26, 26], [26]), ([24, 27], [24, 27]), ([28, 27, 0, 1, 2, 3, 4, 5, 6, 7, 8, 9, 10, 11, 12, 13, 14, 15, 16, 17, 18, 19, 20, 21, 22, 23, 24, 25, 26, 27, 28], [28])])
def impl_PieceText.B1 : List Nat := [0, 1, 3, 7, 15, 0, 32, 103, 255, 511, 0, 1024, 3303, 8191, 16383, 0, 32768, 105703, 262143, 524287, 0, 1285351, 3382503, 8388607, 16777215, 0, 41131239, 108240103, 268435455, 536870911]
theorem impl_PieceText.tab1 : rtab .any (opsOf Try.f30 1) = impl_PieceText.T1 := by kernel_rfl
theorem impl_PieceText.bits1 : waitsOk impl_PieceText.T1.2 impl_PieceText.B1 = true := by kernel_rfl
set_option maxHeartbeats 8000000 in
set_option maxRecDepth 100000 in
theorem impl_PieceText.calls (k : Nat) (a0_0 : Int) (a0_1 : Int) (a0_2 : Int) (a0_3 : Int) (a0_4 : Int) (a0_5 : Int) (a0_6 : Int) (a0_7 : Int) (a0_8 : Int) (a0_9 : Int) (a0_10 : Int) (a0_11 : Bool) (a0_12 : Bool) (r : ByteArray) (w : World) (h : impl_PieceText.f k a0_0 a0_1 a0_2 a0_3 a0_4 a0_5 a0_6 a0_7 a0_8 a0_9 a0_10 a0_11 a0_12 = some r) :
    Calls Try.prog 30 #[.agg #[.int .i64 a0_0, .int .i64 a0_1, .int .i64 a0_2, .int .i64 a0_3, .int .i64 a0_4, .int .i64 a0_5, .int .i64 a0_6, .int .i64 a0_7, .int .i64 a0_8, .int .i64 a0_9, .int .i64 a0_10, .bool a0_11, .bool a0_12]] w fun e w' => e = .returned (.string r) ∧ Below w.heap.size w w' := by
  have hu38 := Try.underlying38
  have HB := Aside0.mk (Below.refl w.heap.size w)
  have H : ((impl_NumText.f k a0_0).bind fun t149 => (if 6 + t149.size ≤ 9223372036854775807 then (if ((⟨#[112, 105, 101, 99, 101, 32]⟩ : ByteArray) ++ t149).size + 4 ≤ 9223372036854775807 then ((impl_NumText.f k a0_1).bind fun t150 => (if (((⟨#[112, 105, 101, 99, 101, 32]⟩ : ByteArray) ++ t149) ++ (⟨#[32, 111, 102, 32]⟩ : ByteArray)).size + t150.size ≤ 9223372036854775807 then (if ((((⟨#[112, 105, 101, 99, 101, 32]⟩ : ByteArray) ++ t149) ++ (⟨#[32, 111, 102, 32]⟩ : ByteArray)) ++ t150).size + 6 ≤ 9223372036854775807 then ((impl_NumText.f k a0_2).bind fun t151 => (if (((((⟨#[112, 105, 101, 99, 101, 32]⟩ : ByteArray) ++ t149) ++ (⟨#[32, 111, 102, 32]⟩ : ByteArray)) ++ t150) ++ (⟨#[32, 119, 105, 116, 104, 32]⟩ : ByteArray)).size + t151.size ≤ 9223372036854775807 then (if ((((((⟨#[112, 105, 101, 99, 101, 32]⟩ : ByteArray) ++ t149) ++ (⟨#[32, 111, 102, 32]⟩ : ByteArray)) ++ t150) ++ (⟨#[32, 119, 105, 116, 104, 32]⟩ : ByteArray)) ++ t151).size + 4 ≤ 9223372036854775807 then ((impl_NumText.f k a0_3).bind fun t152 => (if (((((((⟨#[112, 105, 101, 99, 101, 32]⟩ : ByteArray) ++ t149) ++ (⟨#[32, 111, 102, 32]⟩ : ByteArray)) ++ t150) ++ (⟨#[32, 119, 105, 116, 104, 32]⟩ : ByteArray)) ++ t151) ++ (⟨#[32, 105, 110, 32]⟩ : ByteArray)).size + t152.size ≤ 9223372036854775807 then (if ((((((((⟨#[112, 105, 101, 99, 101, 32]⟩ : ByteArray) ++ t149) ++ (⟨#[32, 111, 102, 32]⟩ : ByteArray)) ++ t150) ++ (⟨#[32, 119, 105, 116, 104, 32]⟩ : ByteArray)) ++ t151) ++ (⟨#[32, 105, 110, 32]⟩ : ByteArray)) ++ t152).size + 1 ≤ 9223372036854775807 then ((impl_PowerOf.f a0_0 a0_1 a0_2 a0_3 a0_4 a0_5 a0_6 a0_7 a0_8 a0_9 a0_10 a0_11 a0_12).bind fun t153 => ((impl_NumText.f k t153).bind fun t154 => (if (((((((((⟨#[112, 105, 101, 99, 101, 32]⟩ : ByteArray) ++ t149) ++ (⟨#[32, 111, 102, 32]⟩ : ByteArray)) ++ t150) ++ (⟨#[32, 119, 105, 116, 104, 32]⟩ : ByteArray)) ++ t151) ++ (⟨#[32, 105, 110, 32]⟩ : ByteArray)) ++ t152) ++ (⟨#[32]⟩ : ByteArray)).size + t154.size ≤ 9223372036854775807 then (if ((((((((((⟨#[112, 105, 101, 99, 101, 32]⟩ : ByteArray) ++ t149) ++ (⟨#[32, 111, 102, 32]⟩ : ByteArray)) ++ t150) ++ (⟨#[32, 119, 105, 116, 104, 32]⟩ : ByteArray)) ++ t151) ++ (⟨#[32, 105, 110, 32]⟩ : ByteArray)) ++ t152) ++ (⟨#[32]⟩ : ByteArray)) ++ t154).size + 1 ≤ 9223372036854775807 then ((impl_ToughOf.f a0_0 a0_1 a0_2 a0_3 a0_4 a0_5 a0_6 a0_7 a0_8 a0_9 a0_10 a0_11 a0_12).bind fun t155 => ((impl_NumText.f k t155).bind fun t156 => (if (((((((((((⟨#[112, 105, 101, 99, 101, 32]⟩ : ByteArray) ++ t149) ++ (⟨#[32, 111, 102, 32]⟩ : ByteArray)) ++ t150) ++ (⟨#[32, 119, 105, 116, 104, 32]⟩ : ByteArray)) ++ t151) ++ (⟨#[32, 105, 110, 32]⟩ : ByteArray)) ++ t152) ++ (⟨#[32]⟩ : ByteArray)) ++ t154) ++ (⟨#[47]⟩ : ByteArray)).size + t156.size ≤ 9223372036854775807 then (if a0_10 > 0 then ((impl_NumText.f k a0_10).bind fun t157 => (if 7 + t157.size ≤ 9223372036854775807 then (if ((((((((((((⟨#[112, 105, 101, 99, 101, 32]⟩ : ByteArray) ++ t149) ++ (⟨#[32, 111, 102, 32]⟩ : ByteArray)) ++ t150) ++ (⟨#[32, 119, 105, 116, 104, 32]⟩ : ByteArray)) ++ t151) ++ (⟨#[32, 105, 110, 32]⟩ : ByteArray)) ++ t152) ++ (⟨#[32]⟩ : ByteArray)) ++ t154) ++ (⟨#[47]⟩ : ByteArray)) ++ t156).size + ((⟨#[32, 109, 97, 114, 107, 115, 32]⟩ : ByteArray) ++ t157).size ≤ 9223372036854775807 then (impl_PieceText.j0 k (((((((((((((⟨#[112, 105, 101, 99, 101, 32]⟩ : ByteArray) ++ t149) ++ (⟨#[32, 111, 102, 32]⟩ : ByteArray)) ++ t150) ++ (⟨#[32, 119, 105, 116, 104, 32]⟩ : ByteArray)) ++ t151) ++ (⟨#[32, 105, 110, 32]⟩ : ByteArray)) ++ t152) ++ (⟨#[32]⟩ : ByteArray)) ++ t154) ++ (⟨#[47]⟩ : ByteArray)) ++ t156) ++ ((⟨#[32, 109, 97, 114, 107, 115, 32]⟩ : ByteArray) ++ t157)) a0_0 a0_1 a0_2 a0_3 a0_4 a0_5 a0_6 a0_7 a0_8 a0_9 a0_10 a0_11 a0_12) else (none)) else (none))) else (impl_PieceText.j0 k ((((((((((((⟨#[112, 105, 101, 99, 101, 32]⟩ : ByteArray) ++ t149) ++ (⟨#[32, 111, 102, 32]⟩ : ByteArray)) ++ t150) ++ (⟨#[32, 119, 105, 116, 104, 32]⟩ : ByteArray)) ++ t151) ++ (⟨#[32, 105, 110, 32]⟩ : ByteArray)) ++ t152) ++ (⟨#[32]⟩ : ByteArray)) ++ t154) ++ (⟨#[47]⟩ : ByteArray)) ++ t156) a0_0 a0_1 a0_2 a0_3 a0_4 a0_5 a0_6 a0_7 a0_8 a0_9 a0_10 a0_11 a0_12)) else (none)))) else (none)) else (none)))) else (none)) else (none))) else (none)) else (none))) else (none)) else (none))) else (none)) else (none))) = some r := h
  clear h
  replace H := Option.bind_eq_some_iff.mp H
  obtain ⟨t149, A20, H⟩ := H
  replace H : (if 6 + t149.size ≤ 9223372036854775807 then (if ((⟨#[112, 105, 101, 99, 101, 32]⟩ : ByteArray) ++ t149).size + 4 ≤ 9223372036854775807 then ((impl_NumText.f k a0_1).bind fun t150 => (if (((⟨#[112, 105, 101, 99, 101, 32]⟩ : ByteArray) ++ t149) ++ (⟨#[32, 111, 102, 32]⟩ : ByteArray)).size + t150.size ≤ 9223372036854775807 then (if ((((⟨#[112, 105, 101, 99, 101, 32]⟩ : ByteArray) ++ t149) ++ (⟨#[32, 111, 102, 32]⟩ : ByteArray)) ++ t150).size + 6 ≤ 9223372036854775807 then ((impl_NumText.f k a0_2).bind fun t151 => (if (((((⟨#[112, 105, 101, 99, 101, 32]⟩ : ByteArray) ++ t149) ++ (⟨#[32, 111, 102, 32]⟩ : ByteArray)) ++ t150) ++ (⟨#[32, 119, 105, 116, 104, 32]⟩ : ByteArray)).size + t151.size ≤ 9223372036854775807 then (if ((((((⟨#[112, 105, 101, 99, 101, 32]⟩ : ByteArray) ++ t149) ++ (⟨#[32, 111, 102, 32]⟩ : ByteArray)) ++ t150) ++ (⟨#[32, 119, 105, 116, 104, 32]⟩ : ByteArray)) ++ t151).size + 4 ≤ 9223372036854775807 then ((impl_NumText.f k a0_3).bind fun t152 => (if (((((((⟨#[112, 105, 101, 99, 101, 32]⟩ : ByteArray) ++ t149) ++ (⟨#[32, 111, 102, 32]⟩ : ByteArray)) ++ t150) ++ (⟨#[32, 119, 105, 116, 104, 32]⟩ : ByteArray)) ++ t151) ++ (⟨#[32, 105, 110, 32]⟩ : ByteArray)).size + t152.size ≤ 9223372036854775807 then (if ((((((((⟨#[112, 105, 101, 99, 101, 32]⟩ : ByteArray) ++ t149) ++ (⟨#[32, 111, 102, 32]⟩ : ByteArray)) ++ t150) ++ (⟨#[32, 119, 105, 116, 104, 32]⟩ : ByteArray)) ++ t151) ++ (⟨#[32, 105, 110, 32]⟩ : ByteArray)) ++ t152).size + 1 ≤ 9223372036854775807 then ((impl_PowerOf.f a0_0 a0_1 a0_2 a0_3 a0_4 a0_5 a0_6 a0_7 a0_8 a0_9 a0_10 a0_11 a0_12).bind fun t153 => ((impl_NumText.f k t153).bind fun t154 => (if (((((((((⟨#[112, 105, 101, 99, 101, 32]⟩ : ByteArray) ++ t149) ++ (⟨#[32, 111, 102, 32]⟩ : ByteArray)) ++ t150) ++ (⟨#[32, 119, 105, 116, 104, 32]⟩ : ByteArray)) ++ t151) ++ (⟨#[32, 105, 110, 32]⟩ : ByteArray)) ++ t152) ++ (⟨#[32]⟩ : ByteArray)).size + t154.size ≤ 9223372036854775807 then (if ((((((((((⟨#[112, 105, 101, 99, 101, 32]⟩ : ByteArray) ++ t149) ++ (⟨#[32, 111, 102, 32]⟩ : ByteArray)) ++ t150) ++ (⟨#[32, 119, 105, 116, 104, 32]⟩ : ByteArray)) ++ t151) ++ (⟨#[32, 105, 110, 32]⟩ : ByteArray)) ++ t152) ++ (⟨#[32]⟩ : ByteArray)) ++ t154).size + 1 ≤ 9223372036854775807 then ((impl_ToughOf.f a0_0 a0_1 a0_2 a0_3 a0_4 a0_5 a0_6 a0_7 a0_8 a0_9 a0_10 a0_11 a0_12).bind fun t155 => ((impl_NumText.f k t155).bind fun t156 => (if (((((((((((⟨#[112, 105, 101, 99, 101, 32]⟩ : ByteArray) ++ t149) ++ (⟨#[32, 111, 102, 32]⟩ : ByteArray)) ++ t150) ++ (⟨#[32, 119, 105, 116, 104, 32]⟩ : ByteArray)) ++ t151) ++ (⟨#[32, 105, 110, 32]⟩ : ByteArray)) ++ t152) ++ (⟨#[32]⟩ : ByteArray)) ++ t154) ++ (⟨#[47]⟩ : ByteArray)).size + t156.size ≤ 9223372036854775807 then (if a0_10 > 0 then ((impl_NumText.f k a0_10).bind fun t157 => (if 7 + t157.size ≤ 9223372036854775807 then (if ((((((((((((⟨#[112, 105, 101, 99, 101, 32]⟩ : ByteArray) ++ t149) ++ (⟨#[32, 111, 102, 32]⟩ : ByteArray)) ++ t150) ++ (⟨#[32, 119, 105, 116, 104, 32]⟩ : ByteArray)) ++ t151) ++ (⟨#[32, 105, 110, 32]⟩ : ByteArray)) ++ t152) ++ (⟨#[32]⟩ : ByteArray)) ++ t154) ++ (⟨#[47]⟩ : ByteArray)) ++ t156).size + ((⟨#[32, 109, 97, 114, 107, 115, 32]⟩ : ByteArray) ++ t157).size ≤ 9223372036854775807 then (impl_PieceText.j0 k (((((((((((((⟨#[112, 105, 101, 99, 101, 32]⟩ : ByteArray) ++ t149) ++ (⟨#[32, 111, 102, 32]⟩ : ByteArray)) ++ t150) ++ (⟨#[32, 119, 105, 116, 104, 32]⟩ : ByteArray)) ++ t151) ++ (⟨#[32, 105, 110, 32]⟩ : ByteArray)) ++ t152) ++ (⟨#[32]⟩ : ByteArray)) ++ t154) ++ (⟨#[47]⟩ : ByteArray)) ++ t156) ++ ((⟨#[32, 109, 97, 114, 107, 115, 32]⟩ : ByteArray) ++ t157)) a0_0 a0_1 a0_2 a0_3 a0_4 a0_5 a0_6 a0_7 a0_8 a0_9 a0_10 a0_11 a0_12) else (none)) else (none))) else (impl_PieceText.j0 k ((((((((((((⟨#[112, 105, 101, 99, 101, 32]⟩ : ByteArray) ++ t149) ++ (⟨#[32, 111, 102, 32]⟩ : ByteArray)) ++ t150) ++ (⟨#[32, 119, 105, 116, 104, 32]⟩ : ByteArray)) ++ t151) ++ (⟨#[32, 105, 110, 32]⟩ : ByteArray)) ++ t152) ++ (⟨#[32]⟩ : ByteArray)) ++ t154) ++ (⟨#[47]⟩ : ByteArray)) ++ t156) a0_0 a0_1 a0_2 a0_3 a0_4 a0_5 a0_6 a0_7 a0_8 a0_9 a0_10 a0_11 a0_12)) else (none)))) else (none)) else (none)))) else (none)) else (none))) else (none)) else (none))) else (none)) else (none))) else (none)) else (none)) = some r := H
  have A2 := Aside0.mk A20
  clear A20
  by_cases c3 : 6 + t149.size ≤ 9223372036854775807
  · rw [if_pos c3] at H
    have c3b0 := eq_true c3
    have c3b1 : decide (6 + t149.size ≤ 9223372036854775807) = true := decide_eq_true c3
    try have c3b2 : (9223372036854775807 < 6 + t149.size) = False := eq_false (Nat.not_lt.2 c3)
    by_cases c4 : ((⟨#[112, 105, 101, 99, 101, 32]⟩ : ByteArray) ++ t149).size + 4 ≤ 9223372036854775807
    · rw [if_pos c4] at H
      have c4b0 := eq_true c4
      have c4b1 : decide (((⟨#[112, 105, 101, 99, 101, 32]⟩ : ByteArray) ++ t149).size + 4 ≤ 9223372036854775807) = true := decide_eq_true c4
      try have c4b2 : (9223372036854775807 < ((⟨#[112, 105, 101, 99, 101, 32]⟩ : ByteArray) ++ t149).size + 4) = False := eq_false (Nat.not_lt.2 c4)
      try have c4b4 : (9223372036854775807 < 6 + t149.size + 4) = False := eq_false (Nat.not_lt.2 (by have h_ := c4; simp only [ByteArray.size_append, show (⟨#[112, 105, 101, 99, 101, 32]⟩ : ByteArray).size = 6 from rfl] at h_; omega))
      replace H := Option.bind_eq_some_iff.mp H
      obtain ⟨t150, A50, H⟩ := H
      replace H : (if (((⟨#[112, 105, 101, 99, 101, 32]⟩ : ByteArray) ++ t149) ++ (⟨#[32, 111, 102, 32]⟩ : ByteArray)).size + t150.size ≤ 9223372036854775807 then (if ((((⟨#[112, 105, 101, 99, 101, 32]⟩ : ByteArray) ++ t149) ++ (⟨#[32, 111, 102, 32]⟩ : ByteArray)) ++ t150).size + 6 ≤ 9223372036854775807 then ((impl_NumText.f k a0_2).bind fun t151 => (if (((((⟨#[112, 105, 101, 99, 101, 32]⟩ : ByteArray) ++ t149) ++ (⟨#[32, 111, 102, 32]⟩ : ByteArray)) ++ t150) ++ (⟨#[32, 119, 105, 116, 104, 32]⟩ : ByteArray)).size + t151.size ≤ 9223372036854775807 then (if ((((((⟨#[112, 105, 101, 99, 101, 32]⟩ : ByteArray) ++ t149) ++ (⟨#[32, 111, 102, 32]⟩ : ByteArray)) ++ t150) ++ (⟨#[32, 119, 105, 116, 104, 32]⟩ : ByteArray)) ++ t151).size + 4 ≤ 9223372036854775807 then ((impl_NumText.f k a0_3).bind fun t152 => (if (((((((⟨#[112, 105, 101, 99, 101, 32]⟩ : ByteArray) ++ t149) ++ (⟨#[32, 111, 102, 32]⟩ : ByteArray)) ++ t150) ++ (⟨#[32, 119, 105, 116, 104, 32]⟩ : ByteArray)) ++ t151) ++ (⟨#[32, 105, 110, 32]⟩ : ByteArray)).size + t152.size ≤ 9223372036854775807 then (if ((((((((⟨#[112, 105, 101, 99, 101, 32]⟩ : ByteArray) ++ t149) ++ (⟨#[32, 111, 102, 32]⟩ : ByteArray)) ++ t150) ++ (⟨#[32, 119, 105, 116, 104, 32]⟩ : ByteArray)) ++ t151) ++ (⟨#[32, 105, 110, 32]⟩ : ByteArray)) ++ t152).size + 1 ≤ 9223372036854775807 then ((impl_PowerOf.f a0_0 a0_1 a0_2 a0_3 a0_4 a0_5 a0_6 a0_7 a0_8 a0_9 a0_10 a0_11 a0_12).bind fun t153 => ((impl_NumText.f k t153).bind fun t154 => (if (((((((((⟨#[112, 105, 101, 99, 101, 32]⟩ : ByteArray) ++ t149) ++ (⟨#[32, 111, 102, 32]⟩ : ByteArray)) ++ t150) ++ (⟨#[32, 119, 105, 116, 104, 32]⟩ : ByteArray)) ++ t151) ++ (⟨#[32, 105, 110, 32]⟩ : ByteArray)) ++ t152) ++ (⟨#[32]⟩ : ByteArray)).size + t154.size ≤ 9223372036854775807 then (if ((((((((((⟨#[112, 105, 101, 99, 101, 32]⟩ : ByteArray) ++ t149) ++ (⟨#[32, 111, 102, 32]⟩ : ByteArray)) ++ t150) ++ (⟨#[32, 119, 105, 116, 104, 32]⟩ : ByteArray)) ++ t151) ++ (⟨#[32, 105, 110, 32]⟩ : ByteArray)) ++ t152) ++ (⟨#[32]⟩ : ByteArray)) ++ t154).size + 1 ≤ 9223372036854775807 then ((impl_ToughOf.f a0_0 a0_1 a0_2 a0_3 a0_4 a0_5 a0_6 a0_7 a0_8 a0_9 a0_10 a0_11 a0_12).bind fun t155 => ((impl_NumText.f k t155).bind fun t156 => (if (((((((((((⟨#[112, 105, 101, 99, 101, 32]⟩ : ByteArray) ++ t149) ++ (⟨#[32, 111, 102, 32]⟩ : ByteArray)) ++ t150) ++ (⟨#[32, 119, 105, 116, 104, 32]⟩ : ByteArray)) ++ t151) ++ (⟨#[32, 105, 110, 32]⟩ : ByteArray)) ++ t152) ++ (⟨#[32]⟩ : ByteArray)) ++ t154) ++ (⟨#[47]⟩ : ByteArray)).size + t156.size ≤ 9223372036854775807 then (if a0_10 > 0 then ((impl_NumText.f k a0_10).bind fun t157 => (if 7 + t157.size ≤ 9223372036854775807 then (if ((((((((((((⟨#[112, 105, 101, 99, 101, 32]⟩ : ByteArray) ++ t149) ++ (⟨#[32, 111, 102, 32]⟩ : ByteArray)) ++ t150) ++ (⟨#[32, 119, 105, 116, 104, 32]⟩ : ByteArray)) ++ t151) ++ (⟨#[32, 105, 110, 32]⟩ : ByteArray)) ++ t152) ++ (⟨#[32]⟩ : ByteArray)) ++ t154) ++ (⟨#[47]⟩ : ByteArray)) ++ t156).size + ((⟨#[32, 109, 97, 114, 107, 115, 32]⟩ : ByteArray) ++ t157).size ≤ 9223372036854775807 then (impl_PieceText.j0 k (((((((((((((⟨#[112, 105, 101, 99, 101, 32]⟩ : ByteArray) ++ t149) ++ (⟨#[32, 111, 102, 32]⟩ : ByteArray)) ++ t150) ++ (⟨#[32, 119, 105, 116, 104, 32]⟩ : ByteArray)) ++ t151) ++ (⟨#[32, 105, 110, 32]⟩ : ByteArray)) ++ t152) ++ (⟨#[32]⟩ : ByteArray)) ++ t154) ++ (⟨#[47]⟩ : ByteArray)) ++ t156) ++ ((⟨#[32, 109, 97, 114, 107, 115, 32]⟩ : ByteArray) ++ t157)) a0_0 a0_1 a0_2 a0_3 a0_4 a0_5 a0_6 a0_7 a0_8 a0_9 a0_10 a0_11 a0_12) else (none)) else (none))) else (impl_PieceText.j0 k ((((((((((((⟨#[112, 105, 101, 99, 101, 32]⟩ : ByteArray) ++ t149) ++ (⟨#[32, 111, 102, 32]⟩ : ByteArray)) ++ t150) ++ (⟨#[32, 119, 105, 116, 104, 32]⟩ : ByteArray)) ++ t151) ++ (⟨#[32, 105, 110, 32]⟩ : ByteArray)) ++ t152) ++ (⟨#[32]⟩ : ByteArray)) ++ t154) ++ (⟨#[47]⟩ : ByteArray)) ++ t156) a0_0 a0_1 a0_2 a0_3 a0_4 a0_5 a0_6 a0_7 a0_8 a0_9 a0_10 a0_11 a0_12)) else (none)))) else (none)) else (none)))) else (none)) else (none))) else (none)) else (none))) else (none)) else (none)) = some r := H
      have A5 := Aside0.mk A50
      clear A50
      by_cases c6 : (((⟨#[112, 105, 101, 99, 101, 32]⟩ : ByteArray) ++ t149) ++ (⟨#[32, 111, 102, 32]⟩ : ByteArray)).size + t150.size ≤ 9223372036854775807
      · rw [if_pos c6] at H
        have c6b0 := eq_true c6
        have c6b1 : decide ((((⟨#[112, 105, 101, 99, 101, 32]⟩ : ByteArray) ++ t149) ++ (⟨#[32, 111, 102, 32]⟩ : ByteArray)).size + t150.size ≤ 9223372036854775807) = true := decide_eq_true c6
        try have c6b2 : (9223372036854775807 < (((⟨#[112, 105, 101, 99, 101, 32]⟩ : ByteArray) ++ t149) ++ (⟨#[32, 111, 102, 32]⟩ : ByteArray)).size + t150.size) = False := eq_false (Nat.not_lt.2 c6)
        try have c6b4 : (9223372036854775807 < 6 + t149.size + 4 + t150.size) = False := eq_false (Nat.not_lt.2 (by have h_ := c6; simp only [ByteArray.size_append, show (⟨#[112, 105, 101, 99, 101, 32]⟩ : ByteArray).size = 6 from rfl, show (⟨#[32, 111, 102, 32]⟩ : ByteArray).size = 4 from rfl] at h_; omega))
        by_cases c7 : ((((⟨#[112, 105, 101, 99, 101, 32]⟩ : ByteArray) ++ t149) ++ (⟨#[32, 111, 102, 32]⟩ : ByteArray)) ++ t150).size + 6 ≤ 9223372036854775807
        · rw [if_pos c7] at H
          have c7b0 := eq_true c7
          have c7b1 : decide (((((⟨#[112, 105, 101, 99, 101, 32]⟩ : ByteArray) ++ t149) ++ (⟨#[32, 111, 102, 32]⟩ : ByteArray)) ++ t150).size + 6 ≤ 9223372036854775807) = true := decide_eq_true c7
          try have c7b2 : (9223372036854775807 < ((((⟨#[112, 105, 101, 99, 101, 32]⟩ : ByteArray) ++ t149) ++ (⟨#[32, 111, 102, 32]⟩ : ByteArray)) ++ t150).size + 6) = False := eq_false (Nat.not_lt.2 c7)
          try have c7b4 : (9223372036854775807 < 6 + t149.size + 4 + t150.size + 6) = False := eq_false (Nat.not_lt.2 (by have h_ := c7; simp only [ByteArray.size_append, show (⟨#[112, 105, 101, 99, 101, 32]⟩ : ByteArray).size = 6 from rfl, show (⟨#[32, 111, 102, 32]⟩ : ByteArray).size = 4 from rfl] at h_; omega))
          replace H := Option.bind_eq_some_iff.mp H
          obtain ⟨t151, A80, H⟩ := H
          replace H : (if (((((⟨#[112, 105, 101, 99, 101, 32]⟩ : ByteArray) ++ t149) ++ (⟨#[32, 111, 102, 32]⟩ : ByteArray)) ++ t150) ++ (⟨#[32, 119, 105, 116, 104, 32]⟩ : ByteArray)).size + t151.size ≤ 9223372036854775807 then (if ((((((⟨#[112, 105, 101, 99, 101, 32]⟩ : ByteArray) ++ t149) ++ (⟨#[32, 111, 102, 32]⟩ : ByteArray)) ++ t150) ++ (⟨#[32, 119, 105, 116, 104, 32]⟩ : ByteArray)) ++ t151).size + 4 ≤ 9223372036854775807 then ((impl_NumText.f k a0_3).bind fun t152 => (if (((((((⟨#[112, 105, 101, 99, 101, 32]⟩ : ByteArray) ++ t149) ++ (⟨#[32, 111, 102, 32]⟩ : ByteArray)) ++ t150) ++ (⟨#[32, 119, 105, 116, 104, 32]⟩ : ByteArray)) ++ t151) ++ (⟨#[32, 105, 110, 32]⟩ : ByteArray)).size + t152.size ≤ 9223372036854775807 then (if ((((((((⟨#[112, 105, 101, 99, 101, 32]⟩ : ByteArray) ++ t149) ++ (⟨#[32, 111, 102, 32]⟩ : ByteArray)) ++ t150) ++ (⟨#[32, 119, 105, 116, 104, 32]⟩ : ByteArray)) ++ t151) ++ (⟨#[32, 105, 110, 32]⟩ : ByteArray)) ++ t152).size + 1 ≤ 9223372036854775807 then ((impl_PowerOf.f a0_0 a0_1 a0_2 a0_3 a0_4 a0_5 a0_6 a0_7 a0_8 a0_9 a0_10 a0_11 a0_12).bind fun t153 => ((impl_NumText.f k t153).bind fun t154 => (if (((((((((⟨#[112, 105, 101, 99, 101, 32]⟩ : ByteArray) ++ t149) ++ (⟨#[32, 111, 102, 32]⟩ : ByteArray)) ++ t150) ++ (⟨#[32, 119, 105, 116, 104, 32]⟩ : ByteArray)) ++ t151) ++ (⟨#[32, 105, 110, 32]⟩ : ByteArray)) ++ t152) ++ (⟨#[32]⟩ : ByteArray)).size + t154.size ≤ 9223372036854775807 then (if ((((((((((⟨#[112, 105, 101, 99, 101, 32]⟩ : ByteArray) ++ t149) ++ (⟨#[32, 111, 102, 32]⟩ : ByteArray)) ++ t150) ++ (⟨#[32, 119, 105, 116, 104, 32]⟩ : ByteArray)) ++ t151) ++ (⟨#[32, 105, 110, 32]⟩ : ByteArray)) ++ t152) ++ (⟨#[32]⟩ : ByteArray)) ++ t154).size + 1 ≤ 9223372036854775807 then ((impl_ToughOf.f a0_0 a0_1 a0_2 a0_3 a0_4 a0_5 a0_6 a0_7 a0_8 a0_9 a0_10 a0_11 a0_12).bind fun t155 => ((impl_NumText.f k t155).bind fun t156 => (if (((((((((((⟨#[112, 105, 101, 99, 101, 32]⟩ : ByteArray) ++ t149) ++ (⟨#[32, 111, 102, 32]⟩ : ByteArray)) ++ t150) ++ (⟨#[32, 119, 105, 116, 104, 32]⟩ : ByteArray)) ++ t151) ++ (⟨#[32, 105, 110, 32]⟩ : ByteArray)) ++ t152) ++ (⟨#[32]⟩ : ByteArray)) ++ t154) ++ (⟨#[47]⟩ : ByteArray)).size + t156.size ≤ 9223372036854775807 then (if a0_10 > 0 then ((impl_NumText.f k a0_10).bind fun t157 => (if 7 + t157.size ≤ 9223372036854775807 then (if ((((((((((((⟨#[112, 105, 101, 99, 101, 32]⟩ : ByteArray) ++ t149) ++ (⟨#[32, 111, 102, 32]⟩ : ByteArray)) ++ t150) ++ (⟨#[32, 119, 105, 116, 104, 32]⟩ : ByteArray)) ++ t151) ++ (⟨#[32, 105, 110, 32]⟩ : ByteArray)) ++ t152) ++ (⟨#[32]⟩ : ByteArray)) ++ t154) ++ (⟨#[47]⟩ : ByteArray)) ++ t156).size + ((⟨#[32, 109, 97, 114, 107, 115, 32]⟩ : ByteArray) ++ t157).size ≤ 9223372036854775807 then (impl_PieceText.j0 k (((((((((((((⟨#[112, 105, 101, 99, 101, 32]⟩ : ByteArray) ++ t149) ++ (⟨#[32, 111, 102, 32]⟩ : ByteArray)) ++ t150) ++ (⟨#[32, 119, 105, 116, 104, 32]⟩ : ByteArray)) ++ t151) ++ (⟨#[32, 105, 110, 32]⟩ : ByteArray)) ++ t152) ++ (⟨#[32]⟩ : ByteArray)) ++ t154) ++ (⟨#[47]⟩ : ByteArray)) ++ t156) ++ ((⟨#[32, 109, 97, 114, 107, 115, 32]⟩ : ByteArray) ++ t157)) a0_0 a0_1 a0_2 a0_3 a0_4 a0_5 a0_6 a0_7 a0_8 a0_9 a0_10 a0_11 a0_12) else (none)) else (none))) else (impl_PieceText.j0 k ((((((((((((⟨#[112, 105, 101, 99, 101, 32]⟩ : ByteArray) ++ t149) ++ (⟨#[32, 111, 102, 32]⟩ : ByteArray)) ++ t150) ++ (⟨#[32, 119, 105, 116, 104, 32]⟩ : ByteArray)) ++ t151) ++ (⟨#[32, 105, 110, 32]⟩ : ByteArray)) ++ t152) ++ (⟨#[32]⟩ : ByteArray)) ++ t154) ++ (⟨#[47]⟩ : ByteArray)) ++ t156) a0_0 a0_1 a0_2 a0_3 a0_4 a0_5 a0_6 a0_7 a0_8 a0_9 a0_10 a0_11 a0_12)) else (none)))) else (none)) else (none)))) else (none)) else (none))) else (none)) else (none)) = some r := H
          have A8 := Aside0.mk A80
          clear A80
          by_cases c9 : (((((⟨#[112, 105, 101, 99, 101, 32]⟩ : ByteArray) ++ t149) ++ (⟨#[32, 111, 102, 32]⟩ : ByteArray)) ++ t150) ++ (⟨#[32, 119, 105, 116, 104, 32]⟩ : ByteArray)).size + t151.size ≤ 9223372036854775807
          · rw [if_pos c9] at H
            have c9b0 := eq_true c9
            have c9b1 : decide ((((((⟨#[112, 105, 101, 99, 101, 32]⟩ : ByteArray) ++ t149) ++ (⟨#[32, 111, 102, 32]⟩ : ByteArray)) ++ t150) ++ (⟨#[32, 119, 105, 116, 104, 32]⟩ : ByteArray)).size + t151.size ≤ 9223372036854775807) = true := decide_eq_true c9
            try have c9b2 : (9223372036854775807 < (((((⟨#[112, 105, 101, 99, 101, 32]⟩ : ByteArray) ++ t149) ++ (⟨#[32, 111, 102, 32]⟩ : ByteArray)) ++ t150) ++ (⟨#[32, 119, 105, 116, 104, 32]⟩ : ByteArray)).size + t151.size) = False := eq_false (Nat.not_lt.2 c9)
            try have c9b4 : (9223372036854775807 < 6 + t149.size + 4 + t150.size + 6 + t151.size) = False := eq_false (Nat.not_lt.2 (by have h_ := c9; simp only [ByteArray.size_append, show (⟨#[112, 105, 101, 99, 101, 32]⟩ : ByteArray).size = 6 from rfl, show (⟨#[32, 111, 102, 32]⟩ : ByteArray).size = 4 from rfl, show (⟨#[32, 119, 105, 116, 104, 32]⟩ : ByteArray).size = 6 from rfl] at h_; omega))
            by_cases c10 : ((((((⟨#[112, 105, 101, 99, 101, 32]⟩ : ByteArray) ++ t149) ++ (⟨#[32, 111, 102, 32]⟩ : ByteArray)) ++ t150) ++ (⟨#[32, 119, 105, 116, 104, 32]⟩ : ByteArray)) ++ t151).size + 4 ≤ 9223372036854775807
            · rw [if_pos c10] at H
              have c10b0 := eq_true c10
              have c10b1 : decide (((((((⟨#[112, 105, 101, 99, 101, 32]⟩ : ByteArray) ++ t149) ++ (⟨#[32, 111, 102, 32]⟩ : ByteArray)) ++ t150) ++ (⟨#[32, 119, 105, 116, 104, 32]⟩ : ByteArray)) ++ t151).size + 4 ≤ 9223372036854775807) = true := decide_eq_true c10
              try have c10b2 : (9223372036854775807 < ((((((⟨#[112, 105, 101, 99, 101, 32]⟩ : ByteArray) ++ t149) ++ (⟨#[32, 111, 102, 32]⟩ : ByteArray)) ++ t150) ++ (⟨#[32, 119, 105, 116, 104, 32]⟩ : ByteArray)) ++ t151).size + 4) = False := eq_false (Nat.not_lt.2 c10)
              try have c10b4 : (9223372036854775807 < 6 + t149.size + 4 + t150.size + 6 + t151.size + 4) = False := eq_false (Nat.not_lt.2 (by have h_ := c10; simp only [ByteArray.size_append, show (⟨#[112, 105, 101, 99, 101, 32]⟩ : ByteArray).size = 6 from rfl, show (⟨#[32, 111, 102, 32]⟩ : ByteArray).size = 4 from rfl, show (⟨#[32, 119, 105, 116, 104, 32]⟩ : ByteArray).size = 6 from rfl] at h_; omega))
              replace H := Option.bind_eq_some_iff.mp H
              obtain ⟨t152, A110, H⟩ := H
              replace H : (if (((((((⟨#[112, 105, 101, 99, 101, 32]⟩ : ByteArray) ++ t149) ++ (⟨#[32, 111, 102, 32]⟩ : ByteArray)) ++ t150) ++ (⟨#[32, 119, 105, 116, 104, 32]⟩ : ByteArray)) ++ t151) ++ (⟨#[32, 105, 110, 32]⟩ : ByteArray)).size + t152.size ≤ 9223372036854775807 then (if ((((((((⟨#[112, 105, 101, 99, 101, 32]⟩ : ByteArray) ++ t149) ++ (⟨#[32, 111, 102, 32]⟩ : ByteArray)) ++ t150) ++ (⟨#[32, 119, 105, 116, 104, 32]⟩ : ByteArray)) ++ t151) ++ (⟨#[32, 105, 110, 32]⟩ : ByteArray)) ++ t152).size + 1 ≤ 9223372036854775807 then ((impl_PowerOf.f a0_0 a0_1 a0_2 a0_3 a0_4 a0_5 a0_6 a0_7 a0_8 a0_9 a0_10 a0_11 a0_12).bind fun t153 => ((impl_NumText.f k t153).bind fun t154 => (if (((((((((⟨#[112, 105, 101, 99, 101, 32]⟩ : ByteArray) ++ t149) ++ (⟨#[32, 111, 102, 32]⟩ : ByteArray)) ++ t150) ++ (⟨#[32, 119, 105, 116, 104, 32]⟩ : ByteArray)) ++ t151) ++ (⟨#[32, 105, 110, 32]⟩ : ByteArray)) ++ t152) ++ (⟨#[32]⟩ : ByteArray)).size + t154.size ≤ 9223372036854775807 then (if ((((((((((⟨#[112, 105, 101, 99, 101, 32]⟩ : ByteArray) ++ t149) ++ (⟨#[32, 111, 102, 32]⟩ : ByteArray)) ++ t150) ++ (⟨#[32, 119, 105, 116, 104, 32]⟩ : ByteArray)) ++ t151) ++ (⟨#[32, 105, 110, 32]⟩ : ByteArray)) ++ t152) ++ (⟨#[32]⟩ : ByteArray)) ++ t154).size + 1 ≤ 9223372036854775807 then ((impl_ToughOf.f a0_0 a0_1 a0_2 a0_3 a0_4 a0_5 a0_6 a0_7 a0_8 a0_9 a0_10 a0_11 a0_12).bind fun t155 => ((impl_NumText.f k t155).bind fun t156 => (if (((((((((((⟨#[112, 105, 101, 99, 101, 32]⟩ : ByteArray) ++ t149) ++ (⟨#[32, 111, 102, 32]⟩ : ByteArray)) ++ t150) ++ (⟨#[32, 119, 105, 116, 104, 32]⟩ : ByteArray)) ++ t151) ++ (⟨#[32, 105, 110, 32]⟩ : ByteArray)) ++ t152) ++ (⟨#[32]⟩ : ByteArray)) ++ t154) ++ (⟨#[47]⟩ : ByteArray)).size + t156.size ≤ 9223372036854775807 then (if a0_10 > 0 then ((impl_NumText.f k a0_10).bind fun t157 => (if 7 + t157.size ≤ 9223372036854775807 then (if ((((((((((((⟨#[112, 105, 101, 99, 101, 32]⟩ : ByteArray) ++ t149) ++ (⟨#[32, 111, 102, 32]⟩ : ByteArray)) ++ t150) ++ (⟨#[32, 119, 105, 116, 104, 32]⟩ : ByteArray)) ++ t151) ++ (⟨#[32, 105, 110, 32]⟩ : ByteArray)) ++ t152) ++ (⟨#[32]⟩ : ByteArray)) ++ t154) ++ (⟨#[47]⟩ : ByteArray)) ++ t156).size + ((⟨#[32, 109, 97, 114, 107, 115, 32]⟩ : ByteArray) ++ t157).size ≤ 9223372036854775807 then (impl_PieceText.j0 k (((((((((((((⟨#[112, 105, 101, 99, 101, 32]⟩ : ByteArray) ++ t149) ++ (⟨#[32, 111, 102, 32]⟩ : ByteArray)) ++ t150) ++ (⟨#[32, 119, 105, 116, 104, 32]⟩ : ByteArray)) ++ t151) ++ (⟨#[32, 105, 110, 32]⟩ : ByteArray)) ++ t152) ++ (⟨#[32]⟩ : ByteArray)) ++ t154) ++ (⟨#[47]⟩ : ByteArray)) ++ t156) ++ ((⟨#[32, 109, 97, 114, 107, 115, 32]⟩ : ByteArray) ++ t157)) a0_0 a0_1 a0_2 a0_3 a0_4 a0_5 a0_6 a0_7 a0_8 a0_9 a0_10 a0_11 a0_12) else (none)) else (none))) else (impl_PieceText.j0 k ((((((((((((⟨#[112, 105, 101, 99, 101, 32]⟩ : ByteArray) ++ t149) ++ (⟨#[32, 111, 102, 32]⟩ : ByteArray)) ++ t150) ++ (⟨#[32, 119, 105, 116, 104, 32]⟩ : ByteArray)) ++ t151) ++ (⟨#[32, 105, 110, 32]⟩ : ByteArray)) ++ t152) ++ (⟨#[32]⟩ : ByteArray)) ++ t154) ++ (⟨#[47]⟩ : ByteArray)) ++ t156) a0_0 a0_1 a0_2 a0_3 a0_4 a0_5 a0_6 a0_7 a0_8 a0_9 a0_10 a0_11 a0_12)) else (none)))) else (none)) else (none)))) else (none)) else (none)) = some r := H
              have A11 := Aside0.mk A110
              clear A110
              by_cases c12 : (((((((⟨#[112, 105, 101, 99, 101, 32]⟩ : ByteArray) ++ t149) ++ (⟨#[32, 111, 102, 32]⟩ : ByteArray)) ++ t150) ++ (⟨#[32, 119, 105, 116, 104, 32]⟩ : ByteArray)) ++ t151) ++ (⟨#[32, 105, 110, 32]⟩ : ByteArray)).size + t152.size ≤ 9223372036854775807
              · rw [if_pos c12] at H
                have c12b0 := eq_true c12
                have c12b1 : decide ((((((((⟨#[112, 105, 101, 99, 101, 32]⟩ : ByteArray) ++ t149) ++ (⟨#[32, 111, 102, 32]⟩ : ByteArray)) ++ t150) ++ (⟨#[32, 119, 105, 116, 104, 32]⟩ : ByteArray)) ++ t151) ++ (⟨#[32, 105, 110, 32]⟩ : ByteArray)).size + t152.size ≤ 9223372036854775807) = true := decide_eq_true c12
                try have c12b2 : (9223372036854775807 < (((((((⟨#[112, 105, 101, 99, 101, 32]⟩ : ByteArray) ++ t149) ++ (⟨#[32, 111, 102, 32]⟩ : ByteArray)) ++ t150) ++ (⟨#[32, 119, 105, 116, 104, 32]⟩ : ByteArray)) ++ t151) ++ (⟨#[32, 105, 110, 32]⟩ : ByteArray)).size + t152.size) = False := eq_false (Nat.not_lt.2 c12)
                try have c12b4 : (9223372036854775807 < 6 + t149.size + 4 + t150.size + 6 + t151.size + 4 + t152.size) = False := eq_false (Nat.not_lt.2 (by have h_ := c12; simp only [ByteArray.size_append, show (⟨#[112, 105, 101, 99, 101, 32]⟩ : ByteArray).size = 6 from rfl, show (⟨#[32, 111, 102, 32]⟩ : ByteArray).size = 4 from rfl, show (⟨#[32, 119, 105, 116, 104, 32]⟩ : ByteArray).size = 6 from rfl, show (⟨#[32, 105, 110, 32]⟩ : ByteArray).size = 4 from rfl] at h_; omega))
                by_cases c13 : ((((((((⟨#[112, 105, 101, 99, 101, 32]⟩ : ByteArray) ++ t149) ++ (⟨#[32, 111, 102, 32]⟩ : ByteArray)) ++ t150) ++ (⟨#[32, 119, 105, 116, 104, 32]⟩ : ByteArray)) ++ t151) ++ (⟨#[32, 105, 110, 32]⟩ : ByteArray)) ++ t152).size + 1 ≤ 9223372036854775807
                · rw [if_pos c13] at H
                  have c13b0 := eq_true c13
                  have c13b1 : decide (((((((((⟨#[112, 105, 101, 99, 101, 32]⟩ : ByteArray) ++ t149) ++ (⟨#[32, 111, 102, 32]⟩ : ByteArray)) ++ t150) ++ (⟨#[32, 119, 105, 116, 104, 32]⟩ : ByteArray)) ++ t151) ++ (⟨#[32, 105, 110, 32]⟩ : ByteArray)) ++ t152).size + 1 ≤ 9223372036854775807) = true := decide_eq_true c13
                  try have c13b2 : (9223372036854775807 < ((((((((⟨#[112, 105, 101, 99, 101, 32]⟩ : ByteArray) ++ t149) ++ (⟨#[32, 111, 102, 32]⟩ : ByteArray)) ++ t150) ++ (⟨#[32, 119, 105, 116, 104, 32]⟩ : ByteArray)) ++ t151) ++ (⟨#[32, 105, 110, 32]⟩ : ByteArray)) ++ t152).size + 1) = False := eq_false (Nat.not_lt.2 c13)
                  try have c13b4 : (9223372036854775807 < 6 + t149.size + 4 + t150.size + 6 + t151.size + 4 + t152.size + 1) = False := eq_false (Nat.not_lt.2 (by have h_ := c13; simp only [ByteArray.size_append, show (⟨#[112, 105, 101, 99, 101, 32]⟩ : ByteArray).size = 6 from rfl, show (⟨#[32, 111, 102, 32]⟩ : ByteArray).size = 4 from rfl, show (⟨#[32, 119, 105, 116, 104, 32]⟩ : ByteArray).size = 6 from rfl, show (⟨#[32, 105, 110, 32]⟩ : ByteArray).size = 4 from rfl] at h_; omega))
                  replace H := Option.bind_eq_some_iff.mp H
                  obtain ⟨t153, A140, H⟩ := H
                  replace H : ((impl_NumText.f k t153).bind fun t154 => (if (((((((((⟨#[112, 105, 101, 99, 101, 32]⟩ : ByteArray) ++ t149) ++ (⟨#[32, 111, 102, 32]⟩ : ByteArray)) ++ t150) ++ (⟨#[32, 119, 105, 116, 104, 32]⟩ : ByteArray)) ++ t151) ++ (⟨#[32, 105, 110, 32]⟩ : ByteArray)) ++ t152) ++ (⟨#[32]⟩ : ByteArray)).size + t154.size ≤ 9223372036854775807 then (if ((((((((((⟨#[112, 105, 101, 99, 101, 32]⟩ : ByteArray) ++ t149) ++ (⟨#[32, 111, 102, 32]⟩ : ByteArray)) ++ t150) ++ (⟨#[32, 119, 105, 116, 104, 32]⟩ : ByteArray)) ++ t151) ++ (⟨#[32, 105, 110, 32]⟩ : ByteArray)) ++ t152) ++ (⟨#[32]⟩ : ByteArray)) ++ t154).size + 1 ≤ 9223372036854775807 then ((impl_ToughOf.f a0_0 a0_1 a0_2 a0_3 a0_4 a0_5 a0_6 a0_7 a0_8 a0_9 a0_10 a0_11 a0_12).bind fun t155 => ((impl_NumText.f k t155).bind fun t156 => (if (((((((((((⟨#[112, 105, 101, 99, 101, 32]⟩ : ByteArray) ++ t149) ++ (⟨#[32, 111, 102, 32]⟩ : ByteArray)) ++ t150) ++ (⟨#[32, 119, 105, 116, 104, 32]⟩ : ByteArray)) ++ t151) ++ (⟨#[32, 105, 110, 32]⟩ : ByteArray)) ++ t152) ++ (⟨#[32]⟩ : ByteArray)) ++ t154) ++ (⟨#[47]⟩ : ByteArray)).size + t156.size ≤ 9223372036854775807 then (if a0_10 > 0 then ((impl_NumText.f k a0_10).bind fun t157 => (if 7 + t157.size ≤ 9223372036854775807 then (if ((((((((((((⟨#[112, 105, 101, 99, 101, 32]⟩ : ByteArray) ++ t149) ++ (⟨#[32, 111, 102, 32]⟩ : ByteArray)) ++ t150) ++ (⟨#[32, 119, 105, 116, 104, 32]⟩ : ByteArray)) ++ t151) ++ (⟨#[32, 105, 110, 32]⟩ : ByteArray)) ++ t152) ++ (⟨#[32]⟩ : ByteArray)) ++ t154) ++ (⟨#[47]⟩ : ByteArray)) ++ t156).size + ((⟨#[32, 109, 97, 114, 107, 115, 32]⟩ : ByteArray) ++ t157).size ≤ 9223372036854775807 then (impl_PieceText.j0 k (((((((((((((⟨#[112, 105, 101, 99, 101, 32]⟩ : ByteArray) ++ t149) ++ (⟨#[32, 111, 102, 32]⟩ : ByteArray)) ++ t150) ++ (⟨#[32, 119, 105, 116, 104, 32]⟩ : ByteArray)) ++ t151) ++ (⟨#[32, 105, 110, 32]⟩ : ByteArray)) ++ t152) ++ (⟨#[32]⟩ : ByteArray)) ++ t154) ++ (⟨#[47]⟩ : ByteArray)) ++ t156) ++ ((⟨#[32, 109, 97, 114, 107, 115, 32]⟩ : ByteArray) ++ t157)) a0_0 a0_1 a0_2 a0_3 a0_4 a0_5 a0_6 a0_7 a0_8 a0_9 a0_10 a0_11 a0_12) else (none)) else (none))) else (impl_PieceText.j0 k ((((((((((((⟨#[112, 105, 101, 99, 101, 32]⟩ : ByteArray) ++ t149) ++ (⟨#[32, 111, 102, 32]⟩ : ByteArray)) ++ t150) ++ (⟨#[32, 119, 105, 116, 104, 32]⟩ : ByteArray)) ++ t151) ++ (⟨#[32, 105, 110, 32]⟩ : ByteArray)) ++ t152) ++ (⟨#[32]⟩ : ByteArray)) ++ t154) ++ (⟨#[47]⟩ : ByteArray)) ++ t156) a0_0 a0_1 a0_2 a0_3 a0_4 a0_5 a0_6 a0_7 a0_8 a0_9 a0_10 a0_11 a0_12)) else (none)))) else (none)) else (none))) = some r := H
                  have A14 := Aside0.mk A140
                  clear A140
                  replace H := Option.bind_eq_some_iff.mp H
                  obtain ⟨t154, A150, H⟩ := H
                  replace H : (if (((((((((⟨#[112, 105, 101, 99, 101, 32]⟩ : ByteArray) ++ t149) ++ (⟨#[32, 111, 102, 32]⟩ : ByteArray)) ++ t150) ++ (⟨#[32, 119, 105, 116, 104, 32]⟩ : ByteArray)) ++ t151) ++ (⟨#[32, 105, 110, 32]⟩ : ByteArray)) ++ t152) ++ (⟨#[32]⟩ : ByteArray)).size + t154.size ≤ 9223372036854775807 then (if ((((((((((⟨#[112, 105, 101, 99, 101, 32]⟩ : ByteArray) ++ t149) ++ (⟨#[32, 111, 102, 32]⟩ : ByteArray)) ++ t150) ++ (⟨#[32, 119, 105, 116, 104, 32]⟩ : ByteArray)) ++ t151) ++ (⟨#[32, 105, 110, 32]⟩ : ByteArray)) ++ t152) ++ (⟨#[32]⟩ : ByteArray)) ++ t154).size + 1 ≤ 9223372036854775807 then ((impl_ToughOf.f a0_0 a0_1 a0_2 a0_3 a0_4 a0_5 a0_6 a0_7 a0_8 a0_9 a0_10 a0_11 a0_12).bind fun t155 => ((impl_NumText.f k t155).bind fun t156 => (if (((((((((((⟨#[112, 105, 101, 99, 101, 32]⟩ : ByteArray) ++ t149) ++ (⟨#[32, 111, 102, 32]⟩ : ByteArray)) ++ t150) ++ (⟨#[32, 119, 105, 116, 104, 32]⟩ : ByteArray)) ++ t151) ++ (⟨#[32, 105, 110, 32]⟩ : ByteArray)) ++ t152) ++ (⟨#[32]⟩ : ByteArray)) ++ t154) ++ (⟨#[47]⟩ : ByteArray)).size + t156.size ≤ 9223372036854775807 then (if a0_10 > 0 then ((impl_NumText.f k a0_10).bind fun t157 => (if 7 + t157.size ≤ 9223372036854775807 then (if ((((((((((((⟨#[112, 105, 101, 99, 101, 32]⟩ : ByteArray) ++ t149) ++ (⟨#[32, 111, 102, 32]⟩ : ByteArray)) ++ t150) ++ (⟨#[32, 119, 105, 116, 104, 32]⟩ : ByteArray)) ++ t151) ++ (⟨#[32, 105, 110, 32]⟩ : ByteArray)) ++ t152) ++ (⟨#[32]⟩ : ByteArray)) ++ t154) ++ (⟨#[47]⟩ : ByteArray)) ++ t156).size + ((⟨#[32, 109, 97, 114, 107, 115, 32]⟩ : ByteArray) ++ t157).size ≤ 9223372036854775807 then (impl_PieceText.j0 k (((((((((((((⟨#[112, 105, 101, 99, 101, 32]⟩ : ByteArray) ++ t149) ++ (⟨#[32, 111, 102, 32]⟩ : ByteArray)) ++ t150) ++ (⟨#[32, 119, 105, 116, 104, 32]⟩ : ByteArray)) ++ t151) ++ (⟨#[32, 105, 110, 32]⟩ : ByteArray)) ++ t152) ++ (⟨#[32]⟩ : ByteArray)) ++ t154) ++ (⟨#[47]⟩ : ByteArray)) ++ t156) ++ ((⟨#[32, 109, 97, 114, 107, 115, 32]⟩ : ByteArray) ++ t157)) a0_0 a0_1 a0_2 a0_3 a0_4 a0_5 a0_6 a0_7 a0_8 a0_9 a0_10 a0_11 a0_12) else (none)) else (none))) else (impl_PieceText.j0 k ((((((((((((⟨#[112, 105, 101, 99, 101, 32]⟩ : ByteArray) ++ t149) ++ (⟨#[32, 111, 102, 32]⟩ : ByteArray)) ++ t150) ++ (⟨#[32, 119, 105, 116, 104, 32]⟩ : ByteArray)) ++ t151) ++ (⟨#[32, 105, 110, 32]⟩ : ByteArray)) ++ t152) ++ (⟨#[32]⟩ : ByteArray)) ++ t154) ++ (⟨#[47]⟩ : ByteArray)) ++ t156) a0_0 a0_1 a0_2 a0_3 a0_4 a0_5 a0_6 a0_7 a0_8 a0_9 a0_10 a0_11 a0_12)) else (none)))) else (none)) else (none)) = some r := H
                  have A15 := Aside0.mk A150
                  clear A150
                  by_cases c16 : (((((((((⟨#[112, 105, 101, 99, 101, 32]⟩ : ByteArray) ++ t149) ++ (⟨#[32, 111, 102, 32]⟩ : ByteArray)) ++ t150) ++ (⟨#[32, 119, 105, 116, 104, 32]⟩ : ByteArray)) ++ t151) ++ (⟨#[32, 105, 110, 32]⟩ : ByteArray)) ++ t152) ++ (⟨#[32]⟩ : ByteArray)).size + t154.size ≤ 9223372036854775807
                  · rw [if_pos c16] at H
                    have c16b0 := eq_true c16
                    have c16b1 : decide ((((((((((⟨#[112, 105, 101, 99, 101, 32]⟩ : ByteArray) ++ t149) ++ (⟨#[32, 111, 102, 32]⟩ : ByteArray)) ++ t150) ++ (⟨#[32, 119, 105, 116, 104, 32]⟩ : ByteArray)) ++ t151) ++ (⟨#[32, 105, 110, 32]⟩ : ByteArray)) ++ t152) ++ (⟨#[32]⟩ : ByteArray)).size + t154.size ≤ 9223372036854775807) = true := decide_eq_true c16
                    try have c16b2 : (9223372036854775807 < (((((((((⟨#[112, 105, 101, 99, 101, 32]⟩ : ByteArray) ++ t149) ++ (⟨#[32, 111, 102, 32]⟩ : ByteArray)) ++ t150) ++ (⟨#[32, 119, 105, 116, 104, 32]⟩ : ByteArray)) ++ t151) ++ (⟨#[32, 105, 110, 32]⟩ : ByteArray)) ++ t152) ++ (⟨#[32]⟩ : ByteArray)).size + t154.size) = False := eq_false (Nat.not_lt.2 c16)
                    try have c16b4 : (9223372036854775807 < 6 + t149.size + 4 + t150.size + 6 + t151.size + 4 + t152.size + 1 + t154.size) = False := eq_false (Nat.not_lt.2 (by have h_ := c16; simp only [ByteArray.size_append, show (⟨#[112, 105, 101, 99, 101, 32]⟩ : ByteArray).size = 6 from rfl, show (⟨#[32, 111, 102, 32]⟩ : ByteArray).size = 4 from rfl, show (⟨#[32, 119, 105, 116, 104, 32]⟩ : ByteArray).size = 6 from rfl, show (⟨#[32, 105, 110, 32]⟩ : ByteArray).size = 4 from rfl, show (⟨#[32]⟩ : ByteArray).size = 1 from rfl] at h_; omega))
                    by_cases c17 : ((((((((((⟨#[112, 105, 101, 99, 101, 32]⟩ : ByteArray) ++ t149) ++ (⟨#[32, 111, 102, 32]⟩ : ByteArray)) ++ t150) ++ (⟨#[32, 119, 105, 116, 104, 32]⟩ : ByteArray)) ++ t151) ++ (⟨#[32, 105, 110, 32]⟩ : ByteArray)) ++ t152) ++ (⟨#[32]⟩ : ByteArray)) ++ t154).size + 1 ≤ 9223372036854775807
                    · rw [if_pos c17] at H
                      have c17b0 := eq_true c17
                      have c17b1 : decide (((((((((((⟨#[112, 105, 101, 99, 101, 32]⟩ : ByteArray) ++ t149) ++ (⟨#[32, 111, 102, 32]⟩ : ByteArray)) ++ t150) ++ (⟨#[32, 119, 105, 116, 104, 32]⟩ : ByteArray)) ++ t151) ++ (⟨#[32, 105, 110, 32]⟩ : ByteArray)) ++ t152) ++ (⟨#[32]⟩ : ByteArray)) ++ t154).size + 1 ≤ 9223372036854775807) = true := decide_eq_true c17
                      try have c17b2 : (9223372036854775807 < ((((((((((⟨#[112, 105, 101, 99, 101, 32]⟩ : ByteArray) ++ t149) ++ (⟨#[32, 111, 102, 32]⟩ : ByteArray)) ++ t150) ++ (⟨#[32, 119, 105, 116, 104, 32]⟩ : ByteArray)) ++ t151) ++ (⟨#[32, 105, 110, 32]⟩ : ByteArray)) ++ t152) ++ (⟨#[32]⟩ : ByteArray)) ++ t154).size + 1) = False := eq_false (Nat.not_lt.2 c17)
                      try have c17b4 : (9223372036854775807 < 6 + t149.size + 4 + t150.size + 6 + t151.size + 4 + t152.size + 1 + t154.size + 1) = False := eq_false (Nat.not_lt.2 (by have h_ := c17; simp only [ByteArray.size_append, show (⟨#[112, 105, 101, 99, 101, 32]⟩ : ByteArray).size = 6 from rfl, show (⟨#[32, 111, 102, 32]⟩ : ByteArray).size = 4 from rfl, show (⟨#[32, 119, 105, 116, 104, 32]⟩ : ByteArray).size = 6 from rfl, show (⟨#[32, 105, 110, 32]⟩ : ByteArray).size = 4 from rfl, show (⟨#[32]⟩ : ByteArray).size = 1 from rfl] at h_; omega))
                      replace H := Option.bind_eq_some_iff.mp H
                      obtain ⟨t155, A180, H⟩ := H
                      replace H : ((impl_NumText.f k t155).bind fun t156 => (if (((((((((((⟨#[112, 105, 101, 99, 101, 32]⟩ : ByteArray) ++ t149) ++ (⟨#[32, 111, 102, 32]⟩ : ByteArray)) ++ t150) ++ (⟨#[32, 119, 105, 116, 104, 32]⟩ : ByteArray)) ++ t151) ++ (⟨#[32, 105, 110, 32]⟩ : ByteArray)) ++ t152) ++ (⟨#[32]⟩ : ByteArray)) ++ t154) ++ (⟨#[47]⟩ : ByteArray)).size + t156.size ≤ 9223372036854775807 then (if a0_10 > 0 then ((impl_NumText.f k a0_10).bind fun t157 => (if 7 + t157.size ≤ 9223372036854775807 then (if ((((((((((((⟨#[112, 105, 101, 99, 101, 32]⟩ : ByteArray) ++ t149) ++ (⟨#[32, 111, 102, 32]⟩ : ByteArray)) ++ t150) ++ (⟨#[32, 119, 105, 116, 104, 32]⟩ : ByteArray)) ++ t151) ++ (⟨#[32, 105, 110, 32]⟩ : ByteArray)) ++ t152) ++ (⟨#[32]⟩ : ByteArray)) ++ t154) ++ (⟨#[47]⟩ : ByteArray)) ++ t156).size + ((⟨#[32, 109, 97, 114, 107, 115, 32]⟩ : ByteArray) ++ t157).size ≤ 9223372036854775807 then (impl_PieceText.j0 k (((((((((((((⟨#[112, 105, 101, 99, 101, 32]⟩ : ByteArray) ++ t149) ++ (⟨#[32, 111, 102, 32]⟩ : ByteArray)) ++ t150) ++ (⟨#[32, 119, 105, 116, 104, 32]⟩ : ByteArray)) ++ t151) ++ (⟨#[32, 105, 110, 32]⟩ : ByteArray)) ++ t152) ++ (⟨#[32]⟩ : ByteArray)) ++ t154) ++ (⟨#[47]⟩ : ByteArray)) ++ t156) ++ ((⟨#[32, 109, 97, 114, 107, 115, 32]⟩ : ByteArray) ++ t157)) a0_0 a0_1 a0_2 a0_3 a0_4 a0_5 a0_6 a0_7 a0_8 a0_9 a0_10 a0_11 a0_12) else (none)) else (none))) else (impl_PieceText.j0 k ((((((((((((⟨#[112, 105, 101, 99, 101, 32]⟩ : ByteArray) ++ t149) ++ (⟨#[32, 111, 102, 32]⟩ : ByteArray)) ++ t150) ++ (⟨#[32, 119, 105, 116, 104, 32]⟩ : ByteArray)) ++ t151) ++ (⟨#[32, 105, 110, 32]⟩ : ByteArray)) ++ t152) ++ (⟨#[32]⟩ : ByteArray)) ++ t154) ++ (⟨#[47]⟩ : ByteArray)) ++ t156) a0_0 a0_1 a0_2 a0_3 a0_4 a0_5 a0_6 a0_7 a0_8 a0_9 a0_10 a0_11 a0_12)) else (none))) = some r := H
                      have A18 := Aside0.mk A180
                      clear A180
                      replace H := Option.bind_eq_some_iff.mp H
                      obtain ⟨t156, A190, H⟩ := H
                      replace H : (if (((((((((((⟨#[112, 105, 101, 99, 101, 32]⟩ : ByteArray) ++ t149) ++ (⟨#[32, 111, 102, 32]⟩ : ByteArray)) ++ t150) ++ (⟨#[32, 119, 105, 116, 104, 32]⟩ : ByteArray)) ++ t151) ++ (⟨#[32, 105, 110, 32]⟩ : ByteArray)) ++ t152) ++ (⟨#[32]⟩ : ByteArray)) ++ t154) ++ (⟨#[47]⟩ : ByteArray)).size + t156.size ≤ 9223372036854775807 then (if a0_10 > 0 then ((impl_NumText.f k a0_10).bind fun t157 => (if 7 + t157.size ≤ 9223372036854775807 then (if ((((((((((((⟨#[112, 105, 101, 99, 101, 32]⟩ : ByteArray) ++ t149) ++ (⟨#[32, 111, 102, 32]⟩ : ByteArray)) ++ t150) ++ (⟨#[32, 119, 105, 116, 104, 32]⟩ : ByteArray)) ++ t151) ++ (⟨#[32, 105, 110, 32]⟩ : ByteArray)) ++ t152) ++ (⟨#[32]⟩ : ByteArray)) ++ t154) ++ (⟨#[47]⟩ : ByteArray)) ++ t156).size + ((⟨#[32, 109, 97, 114, 107, 115, 32]⟩ : ByteArray) ++ t157).size ≤ 9223372036854775807 then (impl_PieceText.j0 k (((((((((((((⟨#[112, 105, 101, 99, 101, 32]⟩ : ByteArray) ++ t149) ++ (⟨#[32, 111, 102, 32]⟩ : ByteArray)) ++ t150) ++ (⟨#[32, 119, 105, 116, 104, 32]⟩ : ByteArray)) ++ t151) ++ (⟨#[32, 105, 110, 32]⟩ : ByteArray)) ++ t152) ++ (⟨#[32]⟩ : ByteArray)) ++ t154) ++ (⟨#[47]⟩ : ByteArray)) ++ t156) ++ ((⟨#[32, 109, 97, 114, 107, 115, 32]⟩ : ByteArray) ++ t157)) a0_0 a0_1 a0_2 a0_3 a0_4 a0_5 a0_6 a0_7 a0_8 a0_9 a0_10 a0_11 a0_12) else (none)) else (none))) else (impl_PieceText.j0 k ((((((((((((⟨#[112, 105, 101, 99, 101, 32]⟩ : ByteArray) ++ t149) ++ (⟨#[32, 111, 102, 32]⟩ : ByteArray)) ++ t150) ++ (⟨#[32, 119, 105, 116, 104, 32]⟩ : ByteArray)) ++ t151) ++ (⟨#[32, 105, 110, 32]⟩ : ByteArray)) ++ t152) ++ (⟨#[32]⟩ : ByteArray)) ++ t154) ++ (⟨#[47]⟩ : ByteArray)) ++ t156) a0_0 a0_1 a0_2 a0_3 a0_4 a0_5 a0_6 a0_7 a0_8 a0_9 a0_10 a0_11 a0_12)) else (none)) = some r := H
                      have A19 := Aside0.mk A190
                      clear A190
                      by_cases c20 : (((((((((((⟨#[112, 105, 101, 99, 101, 32]⟩ : ByteArray) ++ t149) ++ (⟨#[32, 111, 102, 32]⟩ : ByteArray)) ++ t150) ++ (⟨#[32, 119, 105, 116, 104, 32]⟩ : ByteArray)) ++ t151) ++ (⟨#[32, 105, 110, 32]⟩ : ByteArray)) ++ t152) ++ (⟨#[32]⟩ : ByteArray)) ++ t154) ++ (⟨#[47]⟩ : ByteArray)).size + t156.size ≤ 9223372036854775807
                      · rw [if_pos c20] at H
                        have c20b0 := eq_true c20
                        have c20b1 : decide ((((((((((((⟨#[112, 105, 101, 99, 101, 32]⟩ : ByteArray) ++ t149) ++ (⟨#[32, 111, 102, 32]⟩ : ByteArray)) ++ t150) ++ (⟨#[32, 119, 105, 116, 104, 32]⟩ : ByteArray)) ++ t151) ++ (⟨#[32, 105, 110, 32]⟩ : ByteArray)) ++ t152) ++ (⟨#[32]⟩ : ByteArray)) ++ t154) ++ (⟨#[47]⟩ : ByteArray)).size + t156.size ≤ 9223372036854775807) = true := decide_eq_true c20
                        try have c20b2 : (9223372036854775807 < (((((((((((⟨#[112, 105, 101, 99, 101, 32]⟩ : ByteArray) ++ t149) ++ (⟨#[32, 111, 102, 32]⟩ : ByteArray)) ++ t150) ++ (⟨#[32, 119, 105, 116, 104, 32]⟩ : ByteArray)) ++ t151) ++ (⟨#[32, 105, 110, 32]⟩ : ByteArray)) ++ t152) ++ (⟨#[32]⟩ : ByteArray)) ++ t154) ++ (⟨#[47]⟩ : ByteArray)).size + t156.size) = False := eq_false (Nat.not_lt.2 c20)
                        try have c20b4 : (9223372036854775807 < 6 + t149.size + 4 + t150.size + 6 + t151.size + 4 + t152.size + 1 + t154.size + 1 + t156.size) = False := eq_false (Nat.not_lt.2 (by have h_ := c20; simp only [ByteArray.size_append, show (⟨#[112, 105, 101, 99, 101, 32]⟩ : ByteArray).size = 6 from rfl, show (⟨#[32, 111, 102, 32]⟩ : ByteArray).size = 4 from rfl, show (⟨#[32, 119, 105, 116, 104, 32]⟩ : ByteArray).size = 6 from rfl, show (⟨#[32, 105, 110, 32]⟩ : ByteArray).size = 4 from rfl, show (⟨#[32]⟩ : ByteArray).size = 1 from rfl, show (⟨#[47]⟩ : ByteArray).size = 1 from rfl] at h_; omega))
                        have HC21 := Aside0.mk H
                        clear H
                        go_enter Try.func30, Try.ntmps30
                        try go_wp2_with (first | ((with_reducible refine gate_dst (N := 1) rfl ?_); refine box_event ?hg (N := 1) ?hd (cs := #[.int .i64 a0_0, .int .i64 a0_1, .int .i64 a0_2, .int .i64 a0_3, .int .i64 a0_4, .int .i64 a0_5, .int .i64 a0_6, .int .i64 a0_7, .int .i64 a0_8, .int .i64 a0_9, .int .i64 a0_10, .bool a0_11, .bool a0_12]) (t := 38) ?hr ?_; (case hd => rfl); (case hg => rfl); (case hr => first | (go_simp; done) | (go_simp; rfl)); intro gb148 hg w22 hbox hb; have n0_ := Aside0.mk (below_step (by repeat (first | (with_reducible first | exact HB.out | apply below_alloc | apply pw_below_drewN | apply below_drew1) | exact HB.out)) hb); have n1_ := Aside0.mk (hbox); have n2_ := Aside0.mk ((by rw [hg]; exact (below_size (by repeat (first | (with_reducible first | exact HB.out | apply below_alloc | apply pw_below_drewN | apply below_drew1) | exact HB.out))) : w.heap.size ≤ gb148)); have n3_ := Aside0.mk ((by rw [hg]; exact (below_size (by repeat (first | (with_reducible first | exact HB.out | apply below_alloc | apply pw_below_drewN | apply below_drew1) | exact HB.out))) : w.heap.size ≤ gb148)); clear HB; have HB := n0_; have BK148 := n1_; have GW148 := n2_; have GE148 := n3_; clear n0_ n1_ n2_ n3_; clear hb hbox hg))
                        have n0_ := Aside0.mk (blk_drew BK148.out)
                        have n1_ := Aside0.mk (below_drew1 HB.out)
                        clear BK148
                        clear HB
                        have BK148 := n0_
                        have HB := n1_
                        clear n0_ n1_
                        refine start_ (n := 30) (S := fun w' => w'.cell? ⟨gb148, 0, none⟩ = some (.int .i64 a0_0) ∧ w'.cell? ⟨gb148, 1, none⟩ = some (.int .i64 a0_1) ∧ w'.cell? ⟨gb148, 2, none⟩ = some (.int .i64 a0_2) ∧ w'.cell? ⟨gb148, 3, none⟩ = some (.int .i64 a0_3) ∧ w'.cell? ⟨gb148, 4, none⟩ = some (.int .i64 a0_4) ∧ w'.cell? ⟨gb148, 5, none⟩ = some (.int .i64 a0_5) ∧ w'.cell? ⟨gb148, 6, none⟩ = some (.int .i64 a0_6) ∧ w'.cell? ⟨gb148, 7, none⟩ = some (.int .i64 a0_7) ∧ w'.cell? ⟨gb148, 8, none⟩ = some (.int .i64 a0_8) ∧ w'.cell? ⟨gb148, 9, none⟩ = some (.int .i64 a0_9) ∧ w'.cell? ⟨gb148, 10, none⟩ = some (.int .i64 a0_10) ∧ w'.cell? ⟨gb148, 11, none⟩ = some (.bool a0_11) ∧ w'.cell? ⟨gb148, 12, none⟩ = some (.bool a0_12)) (ds := []) #[false, false, false, false, false, false, false, false, false, false, false, false, false, false, false, false, false, false, false, false, false, false, false, false, false, false, false, false, false, false] (by kernel_rfl) rfl rfl ⟨(blk_cell BK148.out 0).trans rfl, (blk_cell BK148.out 1).trans rfl, (blk_cell BK148.out 2).trans rfl, (blk_cell BK148.out 3).trans rfl, (blk_cell BK148.out 4).trans rfl, (blk_cell BK148.out 5).trans rfl, (blk_cell BK148.out 6).trans rfl, (blk_cell BK148.out 7).trans rfl, (blk_cell BK148.out 8).trans rfl, (blk_cell BK148.out 9).trans rfl, (blk_cell BK148.out 10).trans rfl, (blk_cell BK148.out 11).trans rfl, (blk_cell BK148.out 12).trans rfl⟩ (fun hHeld => ?_); refine with_tabW impl_PieceText.tab1 impl_PieceText.bits1 (fun HT_ HW_ => ?_)
                        generalize w22.drew = w23 at BK148 HB hHeld ⊢
                        refine pure_ (i := 0) (N := some 4) (v := ?_) (a' := ?_) #[true, false, false, false, false, false, false, false, false, false, false, false, false, false, false, false, false, false, false, false, false, false, false, false, false, false, false, false, false, false] rfl rfl (any_of HT_.out (by kernel_rfl)) (fun _ _ _ h => h) (Or.inl ⟨by rfl, ?_⟩) ?_ ?_
                        rotate_left
                        · intro w'
                          go_simp
                          with_reducible rfl
                        rotate_left
                        · simp only [Act.put, List.setIfInBounds_toArray, List.set_cons_zero, List.set_cons_succ, i64_w, i32_w]
                          rfl
                        refine pure_ (i := 5) (N := some 9) (v := ?_) (a' := ?_) #[true, false, false, false, false, true, false, false, false, false, false, false, false, false, false, false, false, false, false, false, false, false, false, false, false, false, false, false, false, false] rfl rfl (any_of HT_.out (by kernel_rfl)) (fun _ _ _ h => h) (Or.inl ⟨by rfl, ?_⟩) ?_ ?_
                        rotate_left
                        · intro w'
                          go_simp
                          with_reducible rfl
                        rotate_left
                        · simp only [Act.put, List.setIfInBounds_toArray, List.set_cons_zero, List.set_cons_succ, i64_w, i32_w]
                          rfl
                        refine pure_ (i := 10) (N := some 14) (v := ?_) (a' := ?_) #[true, false, false, false, false, true, false, false, false, false, true, false, false, false, false, false, false, false, false, false, false, false, false, false, false, false, false, false, false, false] rfl rfl (any_of HT_.out (by kernel_rfl)) (fun _ _ _ h => h) (Or.inl ⟨by rfl, ?_⟩) ?_ ?_
                        rotate_left
                        · intro w'
                          go_simp
                          with_reducible rfl
                        rotate_left
                        · simp only [Act.put, List.setIfInBounds_toArray, List.set_cons_zero, List.set_cons_succ, i64_w, i32_w]
                          rfl
                        refine pure_ (i := 15) (N := some 19) (v := ?_) (a' := ?_) #[true, false, false, false, false, true, false, false, false, false, true, false, false, false, false, true, false, false, false, false, false, false, false, false, false, false, false, false, false, false] rfl rfl (any_of HT_.out (by kernel_rfl)) (fun _ _ _ h => h) (Or.inl ⟨by rfl, ?_⟩) ?_ ?_
                        rotate_left
                        · intro w'
                          go_simp
                          with_reducible rfl
                        rotate_left
                        · simp only [Act.put, List.setIfInBounds_toArray, List.set_cons_zero, List.set_cons_succ, i64_w, i32_w]
                          rfl
                        refine take_ (i := 1) (N := some 5) (v := ?_) (a' := ?_) #[true, true, false, false, false, true, false, false, false, false, true, false, false, false, false, true, false, false, false, false, false, false, false, false, false, false, false, false, false, false] rfl rfl (take_ofW HT_.out HW_.out (by kernel_rfl)) (fun _ _ _ h => h) (Or.inl ⟨by rfl, ?_⟩) hHeld ?_ ?_
                        rotate_left
                        · rintro w' ⟨s0, s1, s2, s3, s4, s5, s6, s7, s8, s9, s10, s11, s12⟩
                          go_simp
                          with_reducible rfl
                        rotate_left
                        · simp only [Act.put, List.setIfInBounds_toArray, List.set_cons_zero, List.set_cons_succ, i64_w, i32_w]
                          rfl
                        refine take_ (i := 6) (N := some 10) (v := ?_) (a' := ?_) #[true, true, false, false, false, true, true, false, false, false, true, false, false, false, false, true, false, false, false, false, false, false, false, false, false, false, false, false, false, false] rfl rfl (take_ofW HT_.out HW_.out (by kernel_rfl)) (fun _ _ _ h => h) (Or.inl ⟨by rfl, ?_⟩) hHeld ?_ ?_
                        rotate_left
                        · rintro w' ⟨s0, s1, s2, s3, s4, s5, s6, s7, s8, s9, s10, s11, s12⟩
                          go_simp
                          with_reducible rfl
                        rotate_left
                        · simp only [Act.put, List.setIfInBounds_toArray, List.set_cons_zero, List.set_cons_succ, i64_w, i32_w]
                          rfl
                        refine take_ (i := 11) (N := some 15) (v := ?_) (a' := ?_) #[true, true, false, false, false, true, true, false, false, false, true, true, false, false, false, true, false, false, false, false, false, false, false, false, false, false, false, false, false, false] rfl rfl (take_ofW HT_.out HW_.out (by kernel_rfl)) (fun _ _ _ h => h) (Or.inl ⟨by rfl, ?_⟩) hHeld ?_ ?_
                        rotate_left
                        · rintro w' ⟨s0, s1, s2, s3, s4, s5, s6, s7, s8, s9, s10, s11, s12⟩
                          go_simp
                          with_reducible rfl
                        rotate_left
                        · simp only [Act.put, List.setIfInBounds_toArray, List.set_cons_zero, List.set_cons_succ, i64_w, i32_w]
                          rfl
                        refine take_ (i := 16) (N := some 20) (v := ?_) (a' := ?_) #[true, true, false, false, false, true, true, false, false, false, true, true, false, false, false, true, true, false, false, false, false, false, false, false, false, false, false, false, false, false] rfl rfl (take_ofW HT_.out HW_.out (by kernel_rfl)) (fun _ _ _ h => h) (Or.inl ⟨by rfl, ?_⟩) hHeld ?_ ?_
                        rotate_left
                        · rintro w' ⟨s0, s1, s2, s3, s4, s5, s6, s7, s8, s9, s10, s11, s12⟩
                          go_simp
                          with_reducible rfl
                        rotate_left
                        · simp only [Act.put, List.setIfInBounds_toArray, List.set_cons_zero, List.set_cons_succ, i64_w, i32_w]
                          rfl
                        refine take_ (i := 20) (N := some 24) (v := ?_) (a' := ?_) #[true, true, false, false, false, true, true, false, false, false, true, true, false, false, false, true, true, false, false, false, true, false, false, false, false, false, false, false, false, false] rfl rfl (take_ofW HT_.out HW_.out (by kernel_rfl)) (fun _ _ _ h => h) (Or.inl ⟨by rfl, ?_⟩) hHeld ?_ ?_
                        rotate_left
                        · rintro w' ⟨s0, s1, s2, s3, s4, s5, s6, s7, s8, s9, s10, s11, s12⟩
                          go_simp
                          with_reducible rfl
                        rotate_left
                        · simp only [Act.put, List.setIfInBounds_toArray, List.set_cons_zero, List.set_cons_succ, i64_w, i32_w]
                          rfl
                        refine take_ (i := 25) (N := some 29) (v := ?_) (a' := ?_) #[true, true, false, false, false, true, true, false, false, false, true, true, false, false, false, true, true, false, false, false, true, false, false, false, false, true, false, false, false, false] rfl rfl (take_ofW HT_.out HW_.out (by kernel_rfl)) (fun _ _ _ h => h) (Or.inl ⟨by rfl, ?_⟩) hHeld ?_ ?_
                        rotate_left
                        · rintro w' ⟨s0, s1, s2, s3, s4, s5, s6, s7, s8, s9, s10, s11, s12⟩
                          go_simp
                          with_reducible rfl
                        rotate_left
                        · simp only [Act.put, List.setIfInBounds_toArray, List.set_cons_zero, List.set_cons_succ, i64_w, i32_w]
                          rfl
                        refine one_ (i := 2) (N := some 6) #[true, true, true, false, false, true, true, false, false, false, true, true, false, false, false, true, true, false, false, false, true, false, false, false, false, true, false, false, false, false] rfl rfl (one_of HT_.out (by kernel_rfl)) (by decide) (fun K hK => ?_)
                        refine goes_ Try.func68 (by kernel_rfl) rfl #[.int .i64 a0_0] (by rfl) rfl rfl (by (try simp only [List.map_toArray, List.map_cons, List.map_nil]); first | done | rfl | (simp only [List.length_drop, List.length_take]; rfl)) ?_
                        with_reducible refine (impl_NumText.calls k a0_0 t149 _ A2.out).mono ?_
                        rintro e w' ⟨rfl, ⟨nd, rfl⟩⟩
                        refine ⟨_, rfl, ?_⟩
                        refine hK.out _ _ ⟨(blk_cell BK148.out 0).trans rfl, (blk_cell BK148.out 1).trans rfl, (blk_cell BK148.out 2).trans rfl, (blk_cell BK148.out 3).trans rfl, (blk_cell BK148.out 4).trans rfl, (blk_cell BK148.out 5).trans rfl, (blk_cell BK148.out 6).trans rfl, (blk_cell BK148.out 7).trans rfl, (blk_cell BK148.out 8).trans rfl, (blk_cell BK148.out 9).trans rfl, (blk_cell BK148.out 10).trans rfl, (blk_cell BK148.out 11).trans rfl, (blk_cell BK148.out 12).trans rfl⟩ (fun hHeld => ?_)
                        clear hK K
                        refine norm_ (a' := ?_) ?_ ?_
                        rotate_left
                        · show Act.put _ (some 6) _ = _
                          simp only [Act.put, List.setIfInBounds_toArray, List.set_cons_zero, List.set_cons_succ, i64_w, i32_w]
                          rfl
                        refine pure_ (i := 3) (N := some 7) (v := ?_) (a' := ?_) #[true, true, true, true, false, true, true, false, false, false, true, true, false, false, false, true, true, false, false, false, true, false, false, false, false, true, false, false, false, false] rfl rfl (any_of HT_.out (by kernel_rfl)) (fun _ _ _ h => h) (Or.inl ⟨by rfl, ?_⟩) ?_ ?_
                        rotate_left
                        · intro w'
                          go_simp
                          with_reducible rfl
                        rotate_left
                        · simp only [Act.put, List.setIfInBounds_toArray, List.set_cons_zero, List.set_cons_succ, i64_w, i32_w]
                          rfl
                        refine pure_ (i := 4) (N := some 8) (v := ?_) (a' := ?_) #[true, true, true, true, true, true, true, false, false, false, true, true, false, false, false, true, true, false, false, false, true, false, false, false, false, true, false, false, false, false] rfl rfl (any_of HT_.out (by kernel_rfl)) (fun _ _ _ h => h) (Or.inl ⟨by rfl, ?_⟩) ?_ ?_
                        rotate_left
                        · intro w'
                          go_simp
                          with_reducible rfl
                        rotate_left
                        · simp only [Act.put, List.setIfInBounds_toArray, List.set_cons_zero, List.set_cons_succ, i64_w, i32_w]
                          rfl
                        refine one_ (i := 7) (N := some 11) #[true, true, true, true, true, true, true, true, false, false, true, true, false, false, false, true, true, false, false, false, true, false, false, false, false, true, false, false, false, false] rfl rfl (one_of HT_.out (by kernel_rfl)) (by decide) (fun K hK => ?_)
                        refine goes_ Try.func68 (by kernel_rfl) rfl #[.int .i64 a0_1] (by rfl) rfl rfl (by (try simp only [List.map_toArray, List.map_cons, List.map_nil]); first | done | rfl | (simp only [List.length_drop, List.length_take]; rfl)) ?_
                        with_reducible refine (impl_NumText.calls k a0_1 t150 _ A5.out).mono ?_
                        rintro e w' ⟨rfl, ⟨nd, rfl⟩⟩
                        refine ⟨_, rfl, ?_⟩
                        refine hK.out _ _ ⟨(blk_cell BK148.out 0).trans rfl, (blk_cell BK148.out 1).trans rfl, (blk_cell BK148.out 2).trans rfl, (blk_cell BK148.out 3).trans rfl, (blk_cell BK148.out 4).trans rfl, (blk_cell BK148.out 5).trans rfl, (blk_cell BK148.out 6).trans rfl, (blk_cell BK148.out 7).trans rfl, (blk_cell BK148.out 8).trans rfl, (blk_cell BK148.out 9).trans rfl, (blk_cell BK148.out 10).trans rfl, (blk_cell BK148.out 11).trans rfl, (blk_cell BK148.out 12).trans rfl⟩ (fun hHeld => ?_)
                        clear hK K
                        refine norm_ (a' := ?_) ?_ ?_
                        rotate_left
                        · show Act.put _ (some 11) _ = _
                          simp only [Act.put, List.setIfInBounds_toArray, List.set_cons_zero, List.set_cons_succ, i64_w, i32_w]
                          rfl
                        refine pure_ (i := 8) (N := some 12) (v := ?_) (a' := ?_) #[true, true, true, true, true, true, true, true, true, false, true, true, false, false, false, true, true, false, false, false, true, false, false, false, false, true, false, false, false, false] rfl rfl (any_of HT_.out (by kernel_rfl)) (fun _ _ _ h => h) (Or.inl ⟨by rfl, ?_⟩) ?_ ?_
                        rotate_left
                        · intro w'
                          go_simp
                          with_reducible rfl
                        rotate_left
                        · simp only [Act.put, List.setIfInBounds_toArray, List.set_cons_zero, List.set_cons_succ, i64_w, i32_w]
                          rfl
                        refine pure_ (i := 9) (N := some 13) (v := ?_) (a' := ?_) #[true, true, true, true, true, true, true, true, true, true, true, true, false, false, false, true, true, false, false, false, true, false, false, false, false, true, false, false, false, false] rfl rfl (any_of HT_.out (by kernel_rfl)) (fun _ _ _ h => h) (Or.inl ⟨by rfl, ?_⟩) ?_ ?_
                        rotate_left
                        · intro w'
                          go_simp
                          with_reducible rfl
                        rotate_left
                        · simp only [Act.put, List.setIfInBounds_toArray, List.set_cons_zero, List.set_cons_succ, i64_w, i32_w]
                          rfl
                        refine one_ (i := 12) (N := some 16) #[true, true, true, true, true, true, true, true, true, true, true, true, true, false, false, true, true, false, false, false, true, false, false, false, false, true, false, false, false, false] rfl rfl (one_of HT_.out (by kernel_rfl)) (by decide) (fun K hK => ?_)
                        refine goes_ Try.func68 (by kernel_rfl) rfl #[.int .i64 a0_2] (by rfl) rfl rfl (by (try simp only [List.map_toArray, List.map_cons, List.map_nil]); first | done | rfl | (simp only [List.length_drop, List.length_take]; rfl)) ?_
                        with_reducible refine (impl_NumText.calls k a0_2 t151 _ A8.out).mono ?_
                        rintro e w' ⟨rfl, ⟨nd, rfl⟩⟩
                        refine ⟨_, rfl, ?_⟩
                        refine hK.out _ _ ⟨(blk_cell BK148.out 0).trans rfl, (blk_cell BK148.out 1).trans rfl, (blk_cell BK148.out 2).trans rfl, (blk_cell BK148.out 3).trans rfl, (blk_cell BK148.out 4).trans rfl, (blk_cell BK148.out 5).trans rfl, (blk_cell BK148.out 6).trans rfl, (blk_cell BK148.out 7).trans rfl, (blk_cell BK148.out 8).trans rfl, (blk_cell BK148.out 9).trans rfl, (blk_cell BK148.out 10).trans rfl, (blk_cell BK148.out 11).trans rfl, (blk_cell BK148.out 12).trans rfl⟩ (fun hHeld => ?_)
                        clear hK K
                        refine norm_ (a' := ?_) ?_ ?_
                        rotate_left
                        · show Act.put _ (some 16) _ = _
                          simp only [Act.put, List.setIfInBounds_toArray, List.set_cons_zero, List.set_cons_succ, i64_w, i32_w]
                          rfl
                        refine pure_ (i := 13) (N := some 17) (v := ?_) (a' := ?_) #[true, true, true, true, true, true, true, true, true, true, true, true, true, true, false, true, true, false, false, false, true, false, false, false, false, true, false, false, false, false] rfl rfl (any_of HT_.out (by kernel_rfl)) (fun _ _ _ h => h) (Or.inl ⟨by rfl, ?_⟩) ?_ ?_
                        rotate_left
                        · intro w'
                          go_simp
                          with_reducible rfl
                        rotate_left
                        · simp only [Act.put, List.setIfInBounds_toArray, List.set_cons_zero, List.set_cons_succ, i64_w, i32_w]
                          rfl
                        refine pure_ (i := 14) (N := some 18) (v := ?_) (a' := ?_) #[true, true, true, true, true, true, true, true, true, true, true, true, true, true, true, true, true, false, false, false, true, false, false, false, false, true, false, false, false, false] rfl rfl (any_of HT_.out (by kernel_rfl)) (fun _ _ _ h => h) (Or.inl ⟨by rfl, ?_⟩) ?_ ?_
                        rotate_left
                        · intro w'
                          go_simp
                          with_reducible rfl
                        rotate_left
                        · simp only [Act.put, List.setIfInBounds_toArray, List.set_cons_zero, List.set_cons_succ, i64_w, i32_w]
                          rfl
                        refine one_ (i := 17) (N := some 21) #[true, true, true, true, true, true, true, true, true, true, true, true, true, true, true, true, true, true, false, false, true, false, false, false, false, true, false, false, false, false] rfl rfl (one_of HT_.out (by kernel_rfl)) (by decide) (fun K hK => ?_)
                        refine goes_ Try.func68 (by kernel_rfl) rfl #[.int .i64 a0_3] (by rfl) rfl rfl (by (try simp only [List.map_toArray, List.map_cons, List.map_nil]); first | done | rfl | (simp only [List.length_drop, List.length_take]; rfl)) ?_
                        with_reducible refine (impl_NumText.calls k a0_3 t152 _ A11.out).mono ?_
                        rintro e w' ⟨rfl, ⟨nd, rfl⟩⟩
                        refine ⟨_, rfl, ?_⟩
                        refine hK.out _ _ ⟨(blk_cell BK148.out 0).trans rfl, (blk_cell BK148.out 1).trans rfl, (blk_cell BK148.out 2).trans rfl, (blk_cell BK148.out 3).trans rfl, (blk_cell BK148.out 4).trans rfl, (blk_cell BK148.out 5).trans rfl, (blk_cell BK148.out 6).trans rfl, (blk_cell BK148.out 7).trans rfl, (blk_cell BK148.out 8).trans rfl, (blk_cell BK148.out 9).trans rfl, (blk_cell BK148.out 10).trans rfl, (blk_cell BK148.out 11).trans rfl, (blk_cell BK148.out 12).trans rfl⟩ (fun hHeld => ?_)
                        clear hK K
                        refine norm_ (a' := ?_) ?_ ?_
                        rotate_left
                        · show Act.put _ (some 21) _ = _
                          simp only [Act.put, List.setIfInBounds_toArray, List.set_cons_zero, List.set_cons_succ, i64_w, i32_w]
                          rfl
                        refine pure_ (i := 18) (N := some 22) (v := ?_) (a' := ?_) #[true, true, true, true, true, true, true, true, true, true, true, true, true, true, true, true, true, true, true, false, true, false, false, false, false, true, false, false, false, false] rfl rfl (any_of HT_.out (by kernel_rfl)) (fun _ _ _ h => h) (Or.inl ⟨by rfl, ?_⟩) ?_ ?_
                        rotate_left
                        · intro w'
                          go_simp
                          with_reducible rfl
                        rotate_left
                        · simp only [Act.put, List.setIfInBounds_toArray, List.set_cons_zero, List.set_cons_succ, i64_w, i32_w]
                          rfl
                        refine pure_ (i := 19) (N := some 23) (v := ?_) (a' := ?_) #[true, true, true, true, true, true, true, true, true, true, true, true, true, true, true, true, true, true, true, true, true, false, false, false, false, true, false, false, false, false] rfl rfl (any_of HT_.out (by kernel_rfl)) (fun _ _ _ h => h) (Or.inl ⟨by rfl, ?_⟩) ?_ ?_
                        rotate_left
                        · intro w'
                          go_simp
                          with_reducible rfl
                        rotate_left
                        · simp only [Act.put, List.setIfInBounds_toArray, List.set_cons_zero, List.set_cons_succ, i64_w, i32_w]
                          rfl
                        refine one_ (i := 21) (N := some 25) #[true, true, true, true, true, true, true, true, true, true, true, true, true, true, true, true, true, true, true, true, true, true, false, false, false, true, false, false, false, false] rfl rfl (one_of HT_.out (by kernel_rfl)) (by decide) (fun K hK => ?_)
                        refine goes_ Try.func71 (by kernel_rfl) rfl #[.agg #[.int .i64 a0_0, .int .i64 a0_1, .int .i64 a0_2, .int .i64 a0_3, .int .i64 a0_4, .int .i64 a0_5, .int .i64 a0_6, .int .i64 a0_7, .int .i64 a0_8, .int .i64 a0_9, .int .i64 a0_10, .bool a0_11, .bool a0_12]] (by rfl) rfl rfl (by (try simp only [List.map_toArray, List.map_cons, List.map_nil]); first | done | rfl | (simp only [List.length_drop, List.length_take]; rfl)) ?_
                        with_reducible refine (impl_PowerOf.calls a0_0 a0_1 a0_2 a0_3 a0_4 a0_5 a0_6 a0_7 a0_8 a0_9 a0_10 a0_11 a0_12 t153 _ A14.out).mono ?_
                        rintro e w24 ⟨rfl, hb⟩
                        refine ⟨_, rfl, ?_⟩
                        have n0_ := Aside0.mk (blk_below (g := gb148) (o := .cells #[.int .i64 a0_0, .int .i64 a0_1, .int .i64 a0_2, .int .i64 a0_3, .int .i64 a0_4, .int .i64 a0_5, .int .i64 a0_6, .int .i64 a0_7, .int .i64 a0_8, .int .i64 a0_9, .int .i64 a0_10, .bool a0_11, .bool a0_12] 38 (0, 0)) (by (with_reducible repeat (first | refine blk_drewN ?_ _ | refine blk_drew ?_ | refine blk_alloc ?_ _)); exact BK148.out) hb)
                        have n1_ := Aside0.mk (below_step (by repeat (first | (with_reducible first | exact HB.out | apply below_alloc | apply pw_below_drewN | apply below_drew1 | refine below_set ?_ GE148.out) | exact HB.out)) hb)
                        clear BK148
                        clear HB
                        have BK148 := n0_
                        have HB := n1_
                        clear n0_ n1_
                        (try clear hb)
                        (try clear hb2)
                        (try clear hk)
                        (try clear hi)
                        refine hK.out _ _ ⟨(blk_cell BK148.out 0).trans rfl, (blk_cell BK148.out 1).trans rfl, (blk_cell BK148.out 2).trans rfl, (blk_cell BK148.out 3).trans rfl, (blk_cell BK148.out 4).trans rfl, (blk_cell BK148.out 5).trans rfl, (blk_cell BK148.out 6).trans rfl, (blk_cell BK148.out 7).trans rfl, (blk_cell BK148.out 8).trans rfl, (blk_cell BK148.out 9).trans rfl, (blk_cell BK148.out 10).trans rfl, (blk_cell BK148.out 11).trans rfl, (blk_cell BK148.out 12).trans rfl⟩ (fun hHeld => ?_)
                        clear hK K
                        refine norm_ (a' := ?_) ?_ ?_
                        rotate_left
                        · show Act.put _ (some 25) _ = _
                          simp only [Act.put, List.setIfInBounds_toArray, List.set_cons_zero, List.set_cons_succ, i64_w, i32_w]
                          rfl
                        refine one_ (i := 22) (N := some 26) #[true, true, true, true, true, true, true, true, true, true, true, true, true, true, true, true, true, true, true, true, true, true, true, false, false, true, false, false, false, false] rfl rfl (one_of HT_.out (by kernel_rfl)) (by decide) (fun K hK => ?_)
                        refine goes_ Try.func68 (by kernel_rfl) rfl #[.int .i64 t153] (by rfl) rfl rfl (by (try simp only [List.map_toArray, List.map_cons, List.map_nil]); first | done | rfl | (simp only [List.length_drop, List.length_take]; rfl)) ?_
                        with_reducible refine (impl_NumText.calls k t153 t154 _ A15.out).mono ?_
                        rintro e w' ⟨rfl, ⟨nd, rfl⟩⟩
                        refine ⟨_, rfl, ?_⟩
                        refine hK.out _ _ ⟨(blk_cell BK148.out 0).trans rfl, (blk_cell BK148.out 1).trans rfl, (blk_cell BK148.out 2).trans rfl, (blk_cell BK148.out 3).trans rfl, (blk_cell BK148.out 4).trans rfl, (blk_cell BK148.out 5).trans rfl, (blk_cell BK148.out 6).trans rfl, (blk_cell BK148.out 7).trans rfl, (blk_cell BK148.out 8).trans rfl, (blk_cell BK148.out 9).trans rfl, (blk_cell BK148.out 10).trans rfl, (blk_cell BK148.out 11).trans rfl, (blk_cell BK148.out 12).trans rfl⟩ (fun hHeld => ?_)
                        clear hK K
                        refine norm_ (a' := ?_) ?_ ?_
                        rotate_left
                        · show Act.put _ (some 26) _ = _
                          simp only [Act.put, List.setIfInBounds_toArray, List.set_cons_zero, List.set_cons_succ, i64_w, i32_w]
                          rfl
                        refine pure_ (i := 23) (N := some 27) (v := ?_) (a' := ?_) #[true, true, true, true, true, true, true, true, true, true, true, true, true, true, true, true, true, true, true, true, true, true, true, true, false, true, false, false, false, false] rfl rfl (any_of HT_.out (by kernel_rfl)) (fun _ _ _ h => h) (Or.inl ⟨by rfl, ?_⟩) ?_ ?_
                        rotate_left
                        · intro w'
                          go_simp
                          with_reducible rfl
                        rotate_left
                        · simp only [Act.put, List.setIfInBounds_toArray, List.set_cons_zero, List.set_cons_succ, i64_w, i32_w]
                          rfl
                        refine pure_ (i := 24) (N := some 28) (v := ?_) (a' := ?_) #[true, true, true, true, true, true, true, true, true, true, true, true, true, true, true, true, true, true, true, true, true, true, true, true, true, true, false, false, false, false] rfl rfl (any_of HT_.out (by kernel_rfl)) (fun _ _ _ h => h) (Or.inl ⟨by rfl, ?_⟩) ?_ ?_
                        rotate_left
                        · intro w'
                          go_simp
                          with_reducible rfl
                        rotate_left
                        · simp only [Act.put, List.setIfInBounds_toArray, List.set_cons_zero, List.set_cons_succ, i64_w, i32_w]
                          rfl
                        refine one_ (i := 26) (N := some 30) #[true, true, true, true, true, true, true, true, true, true, true, true, true, true, true, true, true, true, true, true, true, true, true, true, true, true, true, false, false, false] rfl rfl (one_of HT_.out (by kernel_rfl)) (by decide) (fun K hK => ?_)
                        refine goes_ Try.func72 (by kernel_rfl) rfl #[.agg #[.int .i64 a0_0, .int .i64 a0_1, .int .i64 a0_2, .int .i64 a0_3, .int .i64 a0_4, .int .i64 a0_5, .int .i64 a0_6, .int .i64 a0_7, .int .i64 a0_8, .int .i64 a0_9, .int .i64 a0_10, .bool a0_11, .bool a0_12]] (by rfl) rfl rfl (by (try simp only [List.map_toArray, List.map_cons, List.map_nil]); first | done | rfl | (simp only [List.length_drop, List.length_take]; rfl)) ?_
                        with_reducible refine (impl_ToughOf.calls a0_0 a0_1 a0_2 a0_3 a0_4 a0_5 a0_6 a0_7 a0_8 a0_9 a0_10 a0_11 a0_12 t155 _ A18.out).mono ?_
                        rintro e w25 ⟨rfl, hb⟩
                        refine ⟨_, rfl, ?_⟩
                        have n0_ := Aside0.mk (blk_below (g := gb148) (o := .cells #[.int .i64 a0_0, .int .i64 a0_1, .int .i64 a0_2, .int .i64 a0_3, .int .i64 a0_4, .int .i64 a0_5, .int .i64 a0_6, .int .i64 a0_7, .int .i64 a0_8, .int .i64 a0_9, .int .i64 a0_10, .bool a0_11, .bool a0_12] 38 (0, 0)) (by (with_reducible repeat (first | refine blk_drewN ?_ _ | refine blk_drew ?_ | refine blk_alloc ?_ _)); exact BK148.out) hb)
                        have n1_ := Aside0.mk (below_step (by repeat (first | (with_reducible first | exact HB.out | apply below_alloc | apply pw_below_drewN | apply below_drew1 | refine below_set ?_ GE148.out) | exact HB.out)) hb)
                        clear BK148
                        clear HB
                        have BK148 := n0_
                        have HB := n1_
                        clear n0_ n1_
                        (try clear hb)
                        (try clear hb2)
                        (try clear hk)
                        (try clear hi)
                        refine hK.out _ _ ⟨(blk_cell BK148.out 0).trans rfl, (blk_cell BK148.out 1).trans rfl, (blk_cell BK148.out 2).trans rfl, (blk_cell BK148.out 3).trans rfl, (blk_cell BK148.out 4).trans rfl, (blk_cell BK148.out 5).trans rfl, (blk_cell BK148.out 6).trans rfl, (blk_cell BK148.out 7).trans rfl, (blk_cell BK148.out 8).trans rfl, (blk_cell BK148.out 9).trans rfl, (blk_cell BK148.out 10).trans rfl, (blk_cell BK148.out 11).trans rfl, (blk_cell BK148.out 12).trans rfl⟩ (fun hHeld => ?_)
                        clear hK K
                        refine norm_ (a' := ?_) ?_ ?_
                        rotate_left
                        · show Act.put _ (some 30) _ = _
                          simp only [Act.put, List.setIfInBounds_toArray, List.set_cons_zero, List.set_cons_succ, i64_w, i32_w]
                          rfl
                        refine one_ (i := 27) (N := some 31) #[true, true, true, true, true, true, true, true, true, true, true, true, true, true, true, true, true, true, true, true, true, true, true, true, true, true, true, true, false, false] rfl rfl (one_of HT_.out (by kernel_rfl)) (by decide) (fun K hK => ?_)
                        refine goes_ Try.func68 (by kernel_rfl) rfl #[.int .i64 t155] (by rfl) rfl rfl (by (try simp only [List.map_toArray, List.map_cons, List.map_nil]); first | done | rfl | (simp only [List.length_drop, List.length_take]; rfl)) ?_
                        with_reducible refine (impl_NumText.calls k t155 t156 _ A19.out).mono ?_
                        rintro e w' ⟨rfl, ⟨nd, rfl⟩⟩
                        refine ⟨_, rfl, ?_⟩
                        refine hK.out _ _ ⟨(blk_cell BK148.out 0).trans rfl, (blk_cell BK148.out 1).trans rfl, (blk_cell BK148.out 2).trans rfl, (blk_cell BK148.out 3).trans rfl, (blk_cell BK148.out 4).trans rfl, (blk_cell BK148.out 5).trans rfl, (blk_cell BK148.out 6).trans rfl, (blk_cell BK148.out 7).trans rfl, (blk_cell BK148.out 8).trans rfl, (blk_cell BK148.out 9).trans rfl, (blk_cell BK148.out 10).trans rfl, (blk_cell BK148.out 11).trans rfl, (blk_cell BK148.out 12).trans rfl⟩ (fun hHeld => ?_)
                        clear hK K
                        refine norm_ (a' := ?_) ?_ ?_
                        rotate_left
                        · show Act.put _ (some 31) _ = _
                          simp only [Act.put, List.setIfInBounds_toArray, List.set_cons_zero, List.set_cons_succ, i64_w, i32_w]
                          rfl
                        refine pure_ (i := 28) (N := some 32) (v := ?_) (a' := ?_) #[true, true, true, true, true, true, true, true, true, true, true, true, true, true, true, true, true, true, true, true, true, true, true, true, true, true, true, true, true, false] rfl rfl (any_of HT_.out (by kernel_rfl)) (fun _ _ _ h => h) (Or.inl ⟨by rfl, ?_⟩) ?_ ?_
                        rotate_left
                        · intro w'
                          go_simp
                          with_reducible rfl
                        rotate_left
                        · simp only [Act.put, List.setIfInBounds_toArray, List.set_cons_zero, List.set_cons_succ, i64_w, i32_w]
                          rfl
                        refine pure_ (i := 29) (N := some 3) (v := ?_) (a' := ?_) #[true, true, true, true, true, true, true, true, true, true, true, true, true, true, true, true, true, true, true, true, true, true, true, true, true, true, true, true, true, true] rfl rfl (any_of HT_.out (by kernel_rfl)) (fun _ _ _ h => h) (Or.inl ⟨by rfl, ?_⟩) ?_ ?_
                        rotate_left
                        · intro w'
                          go_simp
                          with_reducible rfl
                        rotate_left
                        · simp only [Act.put, List.setIfInBounds_toArray, List.set_cons_zero, List.set_cons_succ, i64_w, i32_w]
                          rfl
                        refine done_ (done_of HT_.out (by kernel_rfl)) ?_
                        have hcz26_0 : w25.cell? ⟨gb148, 0, none⟩ = some (.int .i64 a0_0) := (blk_cell BK148.out 0).trans rfl
                        have hcz26_1 : w25.cell? ⟨gb148, 1, none⟩ = some (.int .i64 a0_1) := (blk_cell BK148.out 1).trans rfl
                        have hcz26_2 : w25.cell? ⟨gb148, 2, none⟩ = some (.int .i64 a0_2) := (blk_cell BK148.out 2).trans rfl
                        have hcz26_3 : w25.cell? ⟨gb148, 3, none⟩ = some (.int .i64 a0_3) := (blk_cell BK148.out 3).trans rfl
                        have hcz26_4 : w25.cell? ⟨gb148, 4, none⟩ = some (.int .i64 a0_4) := (blk_cell BK148.out 4).trans rfl
                        have hcz26_5 : w25.cell? ⟨gb148, 5, none⟩ = some (.int .i64 a0_5) := (blk_cell BK148.out 5).trans rfl
                        have hcz26_6 : w25.cell? ⟨gb148, 6, none⟩ = some (.int .i64 a0_6) := (blk_cell BK148.out 6).trans rfl
                        have hcz26_7 : w25.cell? ⟨gb148, 7, none⟩ = some (.int .i64 a0_7) := (blk_cell BK148.out 7).trans rfl
                        have hcz26_8 : w25.cell? ⟨gb148, 8, none⟩ = some (.int .i64 a0_8) := (blk_cell BK148.out 8).trans rfl
                        have hcz26_9 : w25.cell? ⟨gb148, 9, none⟩ = some (.int .i64 a0_9) := (blk_cell BK148.out 9).trans rfl
                        have hcz26_10 : w25.cell? ⟨gb148, 10, none⟩ = some (.int .i64 a0_10) := (blk_cell BK148.out 10).trans rfl
                        have hcz26_11 : w25.cell? ⟨gb148, 11, none⟩ = some (.bool a0_11) := (blk_cell BK148.out 11).trans rfl
                        have hcz26_12 : w25.cell? ⟨gb148, 12, none⟩ = some (.bool a0_12) := (blk_cell BK148.out 12).trans rfl
                        have hfz26_0 := blk_frozen BK148.out 0
                        have hfz26_1 := blk_frozen BK148.out 1
                        have hfz26_2 := blk_frozen BK148.out 2
                        have hfz26_3 := blk_frozen BK148.out 3
                        have hfz26_4 := blk_frozen BK148.out 4
                        have hfz26_5 := blk_frozen BK148.out 5
                        have hfz26_6 := blk_frozen BK148.out 6
                        have hfz26_7 := blk_frozen BK148.out 7
                        have hfz26_8 := blk_frozen BK148.out 8
                        have hfz26_9 := blk_frozen BK148.out 9
                        have hfz26_10 := blk_frozen BK148.out 10
                        have hfz26_11 := blk_frozen BK148.out 11
                        have hfz26_12 := blk_frozen BK148.out 12
                        go_upto_if 35 with (fail)
                        go_cut [3] (fun v3 wc => ∃ (kq : Nat) (x3_20 : ByteArray), v3 = .string x3_20 ∧ Aside0 (impl_PieceText.j0 kq x3_20 a0_0 a0_1 a0_2 a0_3 a0_4 a0_5 a0_6 a0_7 a0_8 a0_9 a0_10 a0_11 a0_12 = some r) ∧ Aside0 (kq ≤ k) ∧ Aside0 (wc.heap[gb148]? = some (.cells #[.int .i64 a0_0, .int .i64 a0_1, .int .i64 a0_2, .int .i64 a0_3, .int .i64 a0_4, .int .i64 a0_5, .int .i64 a0_6, .int .i64 a0_7, .int .i64 a0_8, .int .i64 a0_9, .int .i64 a0_10, .bool a0_11, .bool a0_12] 38 (0, 0))) ∧ Aside0 (Below w.heap.size w wc))
                        case first =>
                          have H := HC21.out
                          clear HC21
                          by_cases c27 : a0_10 > 0
                          · rw [if_pos c27] at H
                            have c27b0 : decide (0 < a0_10) = true := decide_eq_true c27
                            clear c27
                            (first | rw [c27b0] | (simp only [i64_w, i32_w]; rw [c27b0]) | skip)
                            replace H := Option.bind_eq_some_iff.mp H
                            obtain ⟨t157, A280, H⟩ := H
                            replace H : (if 7 + t157.size ≤ 9223372036854775807 then (if ((((((((((((⟨#[112, 105, 101, 99, 101, 32]⟩ : ByteArray) ++ t149) ++ (⟨#[32, 111, 102, 32]⟩ : ByteArray)) ++ t150) ++ (⟨#[32, 119, 105, 116, 104, 32]⟩ : ByteArray)) ++ t151) ++ (⟨#[32, 105, 110, 32]⟩ : ByteArray)) ++ t152) ++ (⟨#[32]⟩ : ByteArray)) ++ t154) ++ (⟨#[47]⟩ : ByteArray)) ++ t156).size + ((⟨#[32, 109, 97, 114, 107, 115, 32]⟩ : ByteArray) ++ t157).size ≤ 9223372036854775807 then (impl_PieceText.j0 k (((((((((((((⟨#[112, 105, 101, 99, 101, 32]⟩ : ByteArray) ++ t149) ++ (⟨#[32, 111, 102, 32]⟩ : ByteArray)) ++ t150) ++ (⟨#[32, 119, 105, 116, 104, 32]⟩ : ByteArray)) ++ t151) ++ (⟨#[32, 105, 110, 32]⟩ : ByteArray)) ++ t152) ++ (⟨#[32]⟩ : ByteArray)) ++ t154) ++ (⟨#[47]⟩ : ByteArray)) ++ t156) ++ ((⟨#[32, 109, 97, 114, 107, 115, 32]⟩ : ByteArray) ++ t157)) a0_0 a0_1 a0_2 a0_3 a0_4 a0_5 a0_6 a0_7 a0_8 a0_9 a0_10 a0_11 a0_12) else (none)) else (none)) = some r := H
                            have A28 := Aside0.mk A280
                            clear A280
                            by_cases c29 : 7 + t157.size ≤ 9223372036854775807
                            · rw [if_pos c29] at H
                              have c29b0 := eq_true c29
                              have c29b1 : decide (7 + t157.size ≤ 9223372036854775807) = true := decide_eq_true c29
                              try have c29b2 : (9223372036854775807 < 7 + t157.size) = False := eq_false (Nat.not_lt.2 c29)
                              by_cases c30 : ((((((((((((⟨#[112, 105, 101, 99, 101, 32]⟩ : ByteArray) ++ t149) ++ (⟨#[32, 111, 102, 32]⟩ : ByteArray)) ++ t150) ++ (⟨#[32, 119, 105, 116, 104, 32]⟩ : ByteArray)) ++ t151) ++ (⟨#[32, 105, 110, 32]⟩ : ByteArray)) ++ t152) ++ (⟨#[32]⟩ : ByteArray)) ++ t154) ++ (⟨#[47]⟩ : ByteArray)) ++ t156).size + ((⟨#[32, 109, 97, 114, 107, 115, 32]⟩ : ByteArray) ++ t157).size ≤ 9223372036854775807
                              · rw [if_pos c30] at H
                                have c30b0 := eq_true c30
                                have c30b1 : decide (((((((((((((⟨#[112, 105, 101, 99, 101, 32]⟩ : ByteArray) ++ t149) ++ (⟨#[32, 111, 102, 32]⟩ : ByteArray)) ++ t150) ++ (⟨#[32, 119, 105, 116, 104, 32]⟩ : ByteArray)) ++ t151) ++ (⟨#[32, 105, 110, 32]⟩ : ByteArray)) ++ t152) ++ (⟨#[32]⟩ : ByteArray)) ++ t154) ++ (⟨#[47]⟩ : ByteArray)) ++ t156).size + ((⟨#[32, 109, 97, 114, 107, 115, 32]⟩ : ByteArray) ++ t157).size ≤ 9223372036854775807) = true := decide_eq_true c30
                                try have c30b2 : (9223372036854775807 < ((((((((((((⟨#[112, 105, 101, 99, 101, 32]⟩ : ByteArray) ++ t149) ++ (⟨#[32, 111, 102, 32]⟩ : ByteArray)) ++ t150) ++ (⟨#[32, 119, 105, 116, 104, 32]⟩ : ByteArray)) ++ t151) ++ (⟨#[32, 105, 110, 32]⟩ : ByteArray)) ++ t152) ++ (⟨#[32]⟩ : ByteArray)) ++ t154) ++ (⟨#[47]⟩ : ByteArray)) ++ t156).size + ((⟨#[32, 109, 97, 114, 107, 115, 32]⟩ : ByteArray) ++ t157).size) = False := eq_false (Nat.not_lt.2 c30)
                                try have c30b4 : (9223372036854775807 < 6 + t149.size + 4 + t150.size + 6 + t151.size + 4 + t152.size + 1 + t154.size + 1 + t156.size + (7 + t157.size)) = False := eq_false (Nat.not_lt.2 (by have h_ := c30; simp only [ByteArray.size_append, show (⟨#[112, 105, 101, 99, 101, 32]⟩ : ByteArray).size = 6 from rfl, show (⟨#[32, 111, 102, 32]⟩ : ByteArray).size = 4 from rfl, show (⟨#[32, 119, 105, 116, 104, 32]⟩ : ByteArray).size = 6 from rfl, show (⟨#[32, 105, 110, 32]⟩ : ByteArray).size = 4 from rfl, show (⟨#[32]⟩ : ByteArray).size = 1 from rfl, show (⟨#[47]⟩ : ByteArray).size = 1 from rfl, show (⟨#[32, 109, 97, 114, 107, 115, 32]⟩ : ByteArray).size = 7 from rfl] at h_; omega))
                                have H' := Aside0.mk H
                                clear H
                                have hcz31_0 : w25.cell? ⟨gb148, 0, none⟩ = some (.int .i64 a0_0) := (blk_cell BK148.out 0).trans rfl
                                have hcz31_1 : w25.cell? ⟨gb148, 1, none⟩ = some (.int .i64 a0_1) := (blk_cell BK148.out 1).trans rfl
                                have hcz31_2 : w25.cell? ⟨gb148, 2, none⟩ = some (.int .i64 a0_2) := (blk_cell BK148.out 2).trans rfl
                                have hcz31_3 : w25.cell? ⟨gb148, 3, none⟩ = some (.int .i64 a0_3) := (blk_cell BK148.out 3).trans rfl
                                have hcz31_4 : w25.cell? ⟨gb148, 4, none⟩ = some (.int .i64 a0_4) := (blk_cell BK148.out 4).trans rfl
                                have hcz31_5 : w25.cell? ⟨gb148, 5, none⟩ = some (.int .i64 a0_5) := (blk_cell BK148.out 5).trans rfl
                                have hcz31_6 : w25.cell? ⟨gb148, 6, none⟩ = some (.int .i64 a0_6) := (blk_cell BK148.out 6).trans rfl
                                have hcz31_7 : w25.cell? ⟨gb148, 7, none⟩ = some (.int .i64 a0_7) := (blk_cell BK148.out 7).trans rfl
                                have hcz31_8 : w25.cell? ⟨gb148, 8, none⟩ = some (.int .i64 a0_8) := (blk_cell BK148.out 8).trans rfl
                                have hcz31_9 : w25.cell? ⟨gb148, 9, none⟩ = some (.int .i64 a0_9) := (blk_cell BK148.out 9).trans rfl
                                have hcz31_10 : w25.cell? ⟨gb148, 10, none⟩ = some (.int .i64 a0_10) := (blk_cell BK148.out 10).trans rfl
                                have hcz31_11 : w25.cell? ⟨gb148, 11, none⟩ = some (.bool a0_11) := (blk_cell BK148.out 11).trans rfl
                                have hcz31_12 : w25.cell? ⟨gb148, 12, none⟩ = some (.bool a0_12) := (blk_cell BK148.out 12).trans rfl
                                have hfz31_0 := blk_frozen BK148.out 0
                                have hfz31_1 := blk_frozen BK148.out 1
                                have hfz31_2 := blk_frozen BK148.out 2
                                have hfz31_3 := blk_frozen BK148.out 3
                                have hfz31_4 := blk_frozen BK148.out 4
                                have hfz31_5 := blk_frozen BK148.out 5
                                have hfz31_6 := blk_frozen BK148.out 6
                                have hfz31_7 := blk_frozen BK148.out 7
                                have hfz31_8 := blk_frozen BK148.out 8
                                have hfz31_9 := blk_frozen BK148.out 9
                                have hfz31_10 := blk_frozen BK148.out 10
                                have hfz31_11 := blk_frozen BK148.out 11
                                have hfz31_12 := blk_frozen BK148.out 12
                                go_wp2_with (first | ((with_reducible refine gate_callee (f := 68) rfl ?_); refine goesL_ (some 39) rfl rfl Try.func68 (by kernel_rfl) rfl #[.int .i64 a0_10] rfl (by (try simp only [List.map_toArray, List.map_cons, List.map_nil]); first | done | rfl | (simp only [List.length_drop, List.length_take]; rfl)) ?_; (with_reducible refine (impl_NumText.calls k a0_10 t157 _ A28.out).mono ?_); rintro e w' ⟨rfl, ⟨nd, rfl⟩⟩; refine ⟨_, rfl, ?_⟩))
                                go_meet
                                case rel => exact ⟨_, (((((((((((((⟨#[112, 105, 101, 99, 101, 32]⟩ : ByteArray) ++ t149) ++ (⟨#[32, 111, 102, 32]⟩ : ByteArray)) ++ t150) ++ (⟨#[32, 119, 105, 116, 104, 32]⟩ : ByteArray)) ++ t151) ++ (⟨#[32, 105, 110, 32]⟩ : ByteArray)) ++ t152) ++ (⟨#[32]⟩ : ByteArray)) ++ t154) ++ (⟨#[47]⟩ : ByteArray)) ++ t156) ++ ((⟨#[32, 109, 97, 114, 107, 115, 32]⟩ : ByteArray) ++ t157)), (by first | rfl | (simp; done) | (simp [*]; done)), H', ⟨by first | omega | exact Nat.le_refl _⟩, ⟨by (with_reducible repeat (first | refine blk_drewN ?_ _ | refine blk_drew ?_ | refine blk_alloc ?_ _)); exact BK148.out⟩, ⟨by repeat (first | (with_reducible first | exact HB.out | apply below_alloc | apply pw_below_drewN | apply below_drew1 | refine below_set ?_ GE148.out) | exact HB.out)⟩⟩
                              · rw [if_neg c30] at H
                                exact absurd H (by simp)
                            · rw [if_neg c29] at H
                              exact absurd H (by simp)
                          · rw [if_neg c27] at H
                            have c27b0 : decide (0 < a0_10) = false := decide_eq_false c27
                            clear c27
                            (first | rw [c27b0] | (simp only [i64_w, i32_w]; rw [c27b0]) | skip)
                            have H' := Aside0.mk H
                            clear H
                            go_wp2
                            go_meet
                            case rel => exact ⟨_, ((((((((((((⟨#[112, 105, 101, 99, 101, 32]⟩ : ByteArray) ++ t149) ++ (⟨#[32, 111, 102, 32]⟩ : ByteArray)) ++ t150) ++ (⟨#[32, 119, 105, 116, 104, 32]⟩ : ByteArray)) ++ t151) ++ (⟨#[32, 105, 110, 32]⟩ : ByteArray)) ++ t152) ++ (⟨#[32]⟩ : ByteArray)) ++ t154) ++ (⟨#[47]⟩ : ByteArray)) ++ t156), (by first | rfl | (simp; done) | (simp [*]; done)), H', ⟨by first | omega | exact Nat.le_refl _⟩, ⟨by (with_reducible repeat (first | refine blk_drewN ?_ _ | refine blk_drew ?_ | refine blk_alloc ?_ _)); exact BK148.out⟩, ⟨by repeat (first | (with_reducible first | exact HB.out | apply below_alloc | apply pw_below_drewN | apply below_drew1 | refine below_set ?_ GE148.out) | exact HB.out)⟩⟩
                        case rest =>
                          clear HC21
                          try clear c1
                          try clear c2
                          try clear p2
                          try clear c3
                          try clear c3b0
                          try clear c3b1
                          try clear c3b2
                          try clear c4
                          try clear c4b0
                          try clear c4b1
                          try clear c4b2
                          try clear c6
                          try clear c6b0
                          try clear c6b1
                          try clear c6b2
                          try clear c7
                          try clear c7b0
                          try clear c7b1
                          try clear c7b2
                          try clear c9
                          try clear c9b0
                          try clear c9b1
                          try clear c9b2
                          try clear c10
                          try clear c10b0
                          try clear c10b1
                          try clear c10b2
                          try clear c12
                          try clear c12b0
                          try clear c12b1
                          try clear c12b2
                          try clear c13
                          try clear c13b0
                          try clear c13b1
                          try clear c13b2
                          try clear c16
                          try clear c16b0
                          try clear c16b1
                          try clear c16b2
                          try clear c17
                          try clear c17b0
                          try clear c17b1
                          try clear c17b2
                          try clear c20
                          try clear c20b0
                          try clear c20b1
                          try clear c20b2
                          try clear c27
                          try clear c27b0
                          try clear c29
                          try clear c29b0
                          try clear c29b1
                          try clear c29b2
                          try clear c30
                          try clear c30b0
                          try clear c30b1
                          try clear c30b2
                          try clear hcz26_0
                          try clear hcz26_1
                          try clear hcz26_10
                          try clear hcz26_11
                          try clear hcz26_12
                          try clear hcz26_2
                          try clear hcz26_3
                          try clear hcz26_4
                          try clear hcz26_5
                          try clear hcz26_6
                          try clear hcz26_7
                          try clear hcz26_8
                          try clear hcz26_9
                          try clear hcz31_0
                          try clear hcz31_1
                          try clear hcz31_10
                          try clear hcz31_11
                          try clear hcz31_12
                          try clear hcz31_2
                          try clear hcz31_3
                          try clear hcz31_4
                          try clear hcz31_5
                          try clear hcz31_6
                          try clear hcz31_7
                          try clear hcz31_8
                          try clear hcz31_9
                          try clear hfz26_0
                          try clear hfz26_1
                          try clear hfz26_10
                          try clear hfz26_11
                          try clear hfz26_12
                          try clear hfz26_2
                          try clear hfz26_3
                          try clear hfz26_4
                          try clear hfz26_5
                          try clear hfz26_6
                          try clear hfz26_7
                          try clear hfz26_8
                          try clear hfz26_9
                          try clear hfz31_0
                          try clear hfz31_1
                          try clear hfz31_10
                          try clear hfz31_11
                          try clear hfz31_12
                          try clear hfz31_2
                          try clear hfz31_3
                          try clear hfz31_4
                          try clear hfz31_5
                          try clear hfz31_6
                          try clear hfz31_7
                          try clear hfz31_8
                          try clear hfz31_9
                          obtain ⟨kq, x3_20, rfl, HA, HJ20, BK148, HB⟩ := hcut
                          cases kq with
                          | zero => exact absurd HA.out (by simp [impl_PieceText.j0])
                          | succ kj20 =>
                            have H := HA.out
                            clear HA
                            simp only [impl_PieceText.j0] at H
                            by_cases c32 : a0_11 = true
                            · subst c32
                              have H1 : (if x3_20.size + 7 ≤ 9223372036854775807 then (if a0_12 = true then (if (x3_20 ++ (⟨#[32, 100, 101, 97, 100, 108, 121]⟩ : ByteArray)).size + 5 ≤ 9223372036854775807 then (some ((x3_20 ++ (⟨#[32, 100, 101, 97, 100, 108, 121]⟩ : ByteArray)) ++ (⟨#[32, 98, 101, 110, 116]⟩ : ByteArray))) else (none)) else (some (x3_20 ++ (⟨#[32, 100, 101, 97, 100, 108, 121]⟩ : ByteArray)))) else (none)) = some r := by rw [if_pos rfl] at H; exact H
                              clear H
                              have H := H1
                              clear H1
                              by_cases c33 : x3_20.size + 7 ≤ 9223372036854775807
                              · rw [if_pos c33] at H
                                have c33b0 := eq_true c33
                                have c33b1 : decide (x3_20.size + 7 ≤ 9223372036854775807) = true := decide_eq_true c33
                                try have c33b2 : (9223372036854775807 < x3_20.size + 7) = False := eq_false (Nat.not_lt.2 c33)
                                by_cases c34 : a0_12 = true
                                · subst c34
                                  have H1 : (if (x3_20 ++ (⟨#[32, 100, 101, 97, 100, 108, 121]⟩ : ByteArray)).size + 5 ≤ 9223372036854775807 then (some ((x3_20 ++ (⟨#[32, 100, 101, 97, 100, 108, 121]⟩ : ByteArray)) ++ (⟨#[32, 98, 101, 110, 116]⟩ : ByteArray))) else (none)) = some r := by rw [if_pos rfl] at H; exact H
                                  clear H
                                  have H := H1
                                  clear H1
                                  by_cases c35 : (x3_20 ++ (⟨#[32, 100, 101, 97, 100, 108, 121]⟩ : ByteArray)).size + 5 ≤ 9223372036854775807
                                  · rw [if_pos c35] at H
                                    have c35b0 := eq_true c35
                                    have c35b1 : decide ((x3_20 ++ (⟨#[32, 100, 101, 97, 100, 108, 121]⟩ : ByteArray)).size + 5 ≤ 9223372036854775807) = true := decide_eq_true c35
                                    try have c35b2 : (9223372036854775807 < (x3_20 ++ (⟨#[32, 100, 101, 97, 100, 108, 121]⟩ : ByteArray)).size + 5) = False := eq_false (Nat.not_lt.2 c35)
                                    try have c35b4 : (9223372036854775807 < x3_20.size + 7 + 5) = False := eq_false (Nat.not_lt.2 (by have h_ := c35; simp only [ByteArray.size_append, show (⟨#[32, 100, 101, 97, 100, 108, 121]⟩ : ByteArray).size = 7 from rfl] at h_; omega))
                                    obtain rfl := Option.some.inj H
                                    have hcz36_0 : wc.cell? ⟨gb148, 0, none⟩ = some (.int .i64 a0_0) := (blk_cell BK148.out 0).trans rfl
                                    have hcz36_1 : wc.cell? ⟨gb148, 1, none⟩ = some (.int .i64 a0_1) := (blk_cell BK148.out 1).trans rfl
                                    have hcz36_2 : wc.cell? ⟨gb148, 2, none⟩ = some (.int .i64 a0_2) := (blk_cell BK148.out 2).trans rfl
                                    have hcz36_3 : wc.cell? ⟨gb148, 3, none⟩ = some (.int .i64 a0_3) := (blk_cell BK148.out 3).trans rfl
                                    have hcz36_4 : wc.cell? ⟨gb148, 4, none⟩ = some (.int .i64 a0_4) := (blk_cell BK148.out 4).trans rfl
                                    have hcz36_5 : wc.cell? ⟨gb148, 5, none⟩ = some (.int .i64 a0_5) := (blk_cell BK148.out 5).trans rfl
                                    have hcz36_6 : wc.cell? ⟨gb148, 6, none⟩ = some (.int .i64 a0_6) := (blk_cell BK148.out 6).trans rfl
                                    have hcz36_7 : wc.cell? ⟨gb148, 7, none⟩ = some (.int .i64 a0_7) := (blk_cell BK148.out 7).trans rfl
                                    have hcz36_8 : wc.cell? ⟨gb148, 8, none⟩ = some (.int .i64 a0_8) := (blk_cell BK148.out 8).trans rfl
                                    have hcz36_9 : wc.cell? ⟨gb148, 9, none⟩ = some (.int .i64 a0_9) := (blk_cell BK148.out 9).trans rfl
                                    have hcz36_10 : wc.cell? ⟨gb148, 10, none⟩ = some (.int .i64 a0_10) := (blk_cell BK148.out 10).trans rfl
                                    have hcz36_11 : wc.cell? ⟨gb148, 11, none⟩ = some (.bool true) := (blk_cell BK148.out 11).trans rfl
                                    have hcz36_12 : wc.cell? ⟨gb148, 12, none⟩ = some (.bool true) := (blk_cell BK148.out 12).trans rfl
                                    have hfz36_0 := blk_frozen BK148.out 0
                                    have hfz36_1 := blk_frozen BK148.out 1
                                    have hfz36_2 := blk_frozen BK148.out 2
                                    have hfz36_3 := blk_frozen BK148.out 3
                                    have hfz36_4 := blk_frozen BK148.out 4
                                    have hfz36_5 := blk_frozen BK148.out 5
                                    have hfz36_6 := blk_frozen BK148.out 6
                                    have hfz36_7 := blk_frozen BK148.out 7
                                    have hfz36_8 := blk_frozen BK148.out 8
                                    have hfz36_9 := blk_frozen BK148.out 9
                                    have hfz36_10 := blk_frozen BK148.out 10
                                    have hfz36_11 := blk_frozen BK148.out 11
                                    have hfz36_12 := blk_frozen BK148.out 12
                                    go_wp2
                                    go_ret
                                    exact ⟨by first | rfl | (simp [errW_none, errW_some] <;> rfl) | (simp [*, errW_none, errW_some] <;> rfl), by repeat (first | (with_reducible first | exact HB.out | apply below_alloc | apply pw_below_drewN | apply below_drew1 | refine below_set ?_ GE148.out) | exact HB.out)⟩
                                  · rw [if_neg c35] at H
                                    exact absurd H (by simp)
                                · replace c34 := Bool.eq_false_iff.mpr c34
                                  subst c34
                                  have H1 : (some (x3_20 ++ (⟨#[32, 100, 101, 97, 100, 108, 121]⟩ : ByteArray))) = some r := by rw [if_neg (show ¬ (false = true) by decide)] at H; exact H
                                  clear H
                                  have H := H1
                                  clear H1
                                  obtain rfl := Option.some.inj H
                                  have hcz37_0 : wc.cell? ⟨gb148, 0, none⟩ = some (.int .i64 a0_0) := (blk_cell BK148.out 0).trans rfl
                                  have hcz37_1 : wc.cell? ⟨gb148, 1, none⟩ = some (.int .i64 a0_1) := (blk_cell BK148.out 1).trans rfl
                                  have hcz37_2 : wc.cell? ⟨gb148, 2, none⟩ = some (.int .i64 a0_2) := (blk_cell BK148.out 2).trans rfl
                                  have hcz37_3 : wc.cell? ⟨gb148, 3, none⟩ = some (.int .i64 a0_3) := (blk_cell BK148.out 3).trans rfl
                                  have hcz37_4 : wc.cell? ⟨gb148, 4, none⟩ = some (.int .i64 a0_4) := (blk_cell BK148.out 4).trans rfl
                                  have hcz37_5 : wc.cell? ⟨gb148, 5, none⟩ = some (.int .i64 a0_5) := (blk_cell BK148.out 5).trans rfl
                                  have hcz37_6 : wc.cell? ⟨gb148, 6, none⟩ = some (.int .i64 a0_6) := (blk_cell BK148.out 6).trans rfl
                                  have hcz37_7 : wc.cell? ⟨gb148, 7, none⟩ = some (.int .i64 a0_7) := (blk_cell BK148.out 7).trans rfl
                                  have hcz37_8 : wc.cell? ⟨gb148, 8, none⟩ = some (.int .i64 a0_8) := (blk_cell BK148.out 8).trans rfl
                                  have hcz37_9 : wc.cell? ⟨gb148, 9, none⟩ = some (.int .i64 a0_9) := (blk_cell BK148.out 9).trans rfl
                                  have hcz37_10 : wc.cell? ⟨gb148, 10, none⟩ = some (.int .i64 a0_10) := (blk_cell BK148.out 10).trans rfl
                                  have hcz37_11 : wc.cell? ⟨gb148, 11, none⟩ = some (.bool true) := (blk_cell BK148.out 11).trans rfl
                                  have hcz37_12 : wc.cell? ⟨gb148, 12, none⟩ = some (.bool false) := (blk_cell BK148.out 12).trans rfl
                                  have hfz37_0 := blk_frozen BK148.out 0
                                  have hfz37_1 := blk_frozen BK148.out 1
                                  have hfz37_2 := blk_frozen BK148.out 2
                                  have hfz37_3 := blk_frozen BK148.out 3
                                  have hfz37_4 := blk_frozen BK148.out 4
                                  have hfz37_5 := blk_frozen BK148.out 5
                                  have hfz37_6 := blk_frozen BK148.out 6
                                  have hfz37_7 := blk_frozen BK148.out 7
                                  have hfz37_8 := blk_frozen BK148.out 8
                                  have hfz37_9 := blk_frozen BK148.out 9
                                  have hfz37_10 := blk_frozen BK148.out 10
                                  have hfz37_11 := blk_frozen BK148.out 11
                                  have hfz37_12 := blk_frozen BK148.out 12
                                  go_wp2
                                  go_ret
                                  exact ⟨by first | rfl | (simp [errW_none, errW_some] <;> rfl) | (simp [*, errW_none, errW_some] <;> rfl), by repeat (first | (with_reducible first | exact HB.out | apply below_alloc | apply pw_below_drewN | apply below_drew1 | refine below_set ?_ GE148.out) | exact HB.out)⟩
                              · rw [if_neg c33] at H
                                exact absurd H (by simp)
                            · replace c32 := Bool.eq_false_iff.mpr c32
                              subst c32
                              have H1 : (if a0_12 = true then (if x3_20.size + 5 ≤ 9223372036854775807 then (some (x3_20 ++ (⟨#[32, 98, 101, 110, 116]⟩ : ByteArray))) else (none)) else (some x3_20)) = some r := by rw [if_neg (show ¬ (false = true) by decide)] at H; exact H
                              clear H
                              have H := H1
                              clear H1
                              by_cases c38 : a0_12 = true
                              · subst c38
                                have H1 : (if x3_20.size + 5 ≤ 9223372036854775807 then (some (x3_20 ++ (⟨#[32, 98, 101, 110, 116]⟩ : ByteArray))) else (none)) = some r := by rw [if_pos rfl] at H; exact H
                                clear H
                                have H := H1
                                clear H1
                                by_cases c39 : x3_20.size + 5 ≤ 9223372036854775807
                                · rw [if_pos c39] at H
                                  have c39b0 := eq_true c39
                                  have c39b1 : decide (x3_20.size + 5 ≤ 9223372036854775807) = true := decide_eq_true c39
                                  try have c39b2 : (9223372036854775807 < x3_20.size + 5) = False := eq_false (Nat.not_lt.2 c39)
                                  obtain rfl := Option.some.inj H
                                  have hcz40_0 : wc.cell? ⟨gb148, 0, none⟩ = some (.int .i64 a0_0) := (blk_cell BK148.out 0).trans rfl
                                  have hcz40_1 : wc.cell? ⟨gb148, 1, none⟩ = some (.int .i64 a0_1) := (blk_cell BK148.out 1).trans rfl
                                  have hcz40_2 : wc.cell? ⟨gb148, 2, none⟩ = some (.int .i64 a0_2) := (blk_cell BK148.out 2).trans rfl
                                  have hcz40_3 : wc.cell? ⟨gb148, 3, none⟩ = some (.int .i64 a0_3) := (blk_cell BK148.out 3).trans rfl
                                  have hcz40_4 : wc.cell? ⟨gb148, 4, none⟩ = some (.int .i64 a0_4) := (blk_cell BK148.out 4).trans rfl
                                  have hcz40_5 : wc.cell? ⟨gb148, 5, none⟩ = some (.int .i64 a0_5) := (blk_cell BK148.out 5).trans rfl
                                  have hcz40_6 : wc.cell? ⟨gb148, 6, none⟩ = some (.int .i64 a0_6) := (blk_cell BK148.out 6).trans rfl
                                  have hcz40_7 : wc.cell? ⟨gb148, 7, none⟩ = some (.int .i64 a0_7) := (blk_cell BK148.out 7).trans rfl
                                  have hcz40_8 : wc.cell? ⟨gb148, 8, none⟩ = some (.int .i64 a0_8) := (blk_cell BK148.out 8).trans rfl
                                  have hcz40_9 : wc.cell? ⟨gb148, 9, none⟩ = some (.int .i64 a0_9) := (blk_cell BK148.out 9).trans rfl
                                  have hcz40_10 : wc.cell? ⟨gb148, 10, none⟩ = some (.int .i64 a0_10) := (blk_cell BK148.out 10).trans rfl
                                  have hcz40_11 : wc.cell? ⟨gb148, 11, none⟩ = some (.bool false) := (blk_cell BK148.out 11).trans rfl
                                  have hcz40_12 : wc.cell? ⟨gb148, 12, none⟩ = some (.bool true) := (blk_cell BK148.out 12).trans rfl
                                  have hfz40_0 := blk_frozen BK148.out 0
                                  have hfz40_1 := blk_frozen BK148.out 1
                                  have hfz40_2 := blk_frozen BK148.out 2
                                  have hfz40_3 := blk_frozen BK148.out 3
                                  have hfz40_4 := blk_frozen BK148.out 4
                                  have hfz40_5 := blk_frozen BK148.out 5
                                  have hfz40_6 := blk_frozen BK148.out 6
                                  have hfz40_7 := blk_frozen BK148.out 7
                                  have hfz40_8 := blk_frozen BK148.out 8
                                  have hfz40_9 := blk_frozen BK148.out 9
                                  have hfz40_10 := blk_frozen BK148.out 10
                                  have hfz40_11 := blk_frozen BK148.out 11
                                  have hfz40_12 := blk_frozen BK148.out 12
                                  go_wp2
                                  go_ret
                                  exact ⟨by first | rfl | (simp [errW_none, errW_some] <;> rfl) | (simp [*, errW_none, errW_some] <;> rfl), by repeat (first | (with_reducible first | exact HB.out | apply below_alloc | apply pw_below_drewN | apply below_drew1 | refine below_set ?_ GE148.out) | exact HB.out)⟩
                                · rw [if_neg c39] at H
                                  exact absurd H (by simp)
                              · replace c38 := Bool.eq_false_iff.mpr c38
                                subst c38
                                have H1 : (some x3_20) = some r := by rw [if_neg (show ¬ (false = true) by decide)] at H; exact H
                                clear H
                                have H := H1
                                clear H1
                                obtain rfl := Option.some.inj H
                                have hcz41_0 : wc.cell? ⟨gb148, 0, none⟩ = some (.int .i64 a0_0) := (blk_cell BK148.out 0).trans rfl
                                have hcz41_1 : wc.cell? ⟨gb148, 1, none⟩ = some (.int .i64 a0_1) := (blk_cell BK148.out 1).trans rfl
                                have hcz41_2 : wc.cell? ⟨gb148, 2, none⟩ = some (.int .i64 a0_2) := (blk_cell BK148.out 2).trans rfl
                                have hcz41_3 : wc.cell? ⟨gb148, 3, none⟩ = some (.int .i64 a0_3) := (blk_cell BK148.out 3).trans rfl
                                have hcz41_4 : wc.cell? ⟨gb148, 4, none⟩ = some (.int .i64 a0_4) := (blk_cell BK148.out 4).trans rfl
                                have hcz41_5 : wc.cell? ⟨gb148, 5, none⟩ = some (.int .i64 a0_5) := (blk_cell BK148.out 5).trans rfl
                                have hcz41_6 : wc.cell? ⟨gb148, 6, none⟩ = some (.int .i64 a0_6) := (blk_cell BK148.out 6).trans rfl
                                have hcz41_7 : wc.cell? ⟨gb148, 7, none⟩ = some (.int .i64 a0_7) := (blk_cell BK148.out 7).trans rfl
                                have hcz41_8 : wc.cell? ⟨gb148, 8, none⟩ = some (.int .i64 a0_8) := (blk_cell BK148.out 8).trans rfl
                                have hcz41_9 : wc.cell? ⟨gb148, 9, none⟩ = some (.int .i64 a0_9) := (blk_cell BK148.out 9).trans rfl
                                have hcz41_10 : wc.cell? ⟨gb148, 10, none⟩ = some (.int .i64 a0_10) := (blk_cell BK148.out 10).trans rfl
                                have hcz41_11 : wc.cell? ⟨gb148, 11, none⟩ = some (.bool false) := (blk_cell BK148.out 11).trans rfl
                                have hcz41_12 : wc.cell? ⟨gb148, 12, none⟩ = some (.bool false) := (blk_cell BK148.out 12).trans rfl
                                have hfz41_0 := blk_frozen BK148.out 0
                                have hfz41_1 := blk_frozen BK148.out 1
                                have hfz41_2 := blk_frozen BK148.out 2
                                have hfz41_3 := blk_frozen BK148.out 3
                                have hfz41_4 := blk_frozen BK148.out 4
                                have hfz41_5 := blk_frozen BK148.out 5
                                have hfz41_6 := blk_frozen BK148.out 6
                                have hfz41_7 := blk_frozen BK148.out 7
                                have hfz41_8 := blk_frozen BK148.out 8
                                have hfz41_9 := blk_frozen BK148.out 9
                                have hfz41_10 := blk_frozen BK148.out 10
                                have hfz41_11 := blk_frozen BK148.out 11
                                have hfz41_12 := blk_frozen BK148.out 12
                                go_wp2
                                go_ret
                                exact ⟨by first | rfl | (simp [errW_none, errW_some] <;> rfl) | (simp [*, errW_none, errW_some] <;> rfl), by repeat (first | (with_reducible first | exact HB.out | apply below_alloc | apply pw_below_drewN | apply below_drew1 | refine below_set ?_ GE148.out) | exact HB.out)⟩
                      · rw [if_neg c20] at H
                        exact absurd H (by simp)
                    · rw [if_neg c17] at H
                      exact absurd H (by simp)
                  · rw [if_neg c16] at H
                    exact absurd H (by simp)
                · rw [if_neg c13] at H
                  exact absurd H (by simp)
              · rw [if_neg c12] at H
                exact absurd H (by simp)
            · rw [if_neg c10] at H
              exact absurd H (by simp)
          · rw [if_neg c9] at H
            exact absurd H (by simp)
        · rw [if_neg c7] at H
          exact absurd H (by simp)
      · rw [if_neg c6] at H
        exact absurd H (by simp)
    · rw [if_neg c4] at H
      exact absurd H (by simp)
  · rw [if_neg c3] at H
    exact absurd H (by simp)

end Go.Proofs.Ytljnfcmcjhggfaa.PFnExactPieceText
