-- Written by wip/fix.py (a program of this session) out of the print of this claim.
import Derived.Test.YtljnfcmcjhggfaaPFnExactPieceTextx0
import Derived.Test.YtljnfcmcjhggfaaPFnExactPieceTextx1
namespace Go.Proofs.Ytljnfcmcjhggfaa.PFnExactPieceText
open Go.RowKit Go.Proofs.YtljnfcmcjhggfaaW.PrintWords Go.Proofs.YtljnfcmcjhggfaaW.PrintLast Go.Proofs.YtljnfcmcjhggfaaW.PrintMore
attribute [local go_sem] max2_int min2_int max_two min_two max_three min_three max_four min_four   -- for this text's walks alone
set_option linter.unusedVariables false
set_option linter.unusedSimpArgs false

/-! ### spec_PieceText: function 28 -/
def spec_PieceText.j0 : Nat → ByteArray → Int → Int → Int → Int → Int → Int → Int → Int → Int → Int → Int → Bool → Bool → Option (ByteArray)
  | 0, _, _, _, _, _, _, _, _, _, _, _, _, _, _ => none
  | k + 1, x3, x120000, x120001, x120002, x120003, x120004, x120005, x120006, x120007, x120008, x120009, x120010, x120011, x120012 => if x120011 = true then (if x3.size + 7 ≤ 9223372036854775807 then (if x120012 = true then (if (x3 ++ (⟨#[32, 100, 101, 97, 100, 108, 121]⟩ : ByteArray)).size + 5 ≤ 9223372036854775807 then (some ((x3 ++ (⟨#[32, 100, 101, 97, 100, 108, 121]⟩ : ByteArray)) ++ (⟨#[32, 98, 101, 110, 116]⟩ : ByteArray))) else (none)) else (some (x3 ++ (⟨#[32, 100, 101, 97, 100, 108, 121]⟩ : ByteArray)))) else (none)) else (if x120012 = true then (if x3.size + 5 ≤ 9223372036854775807 then (some (x3 ++ (⟨#[32, 98, 101, 110, 116]⟩ : ByteArray))) else (none)) else (some x3))
def spec_PieceText.f (k : Nat) (a0_0 : Int) (a0_1 : Int) (a0_2 : Int) (a0_3 : Int) (a0_4 : Int) (a0_5 : Int) (a0_6 : Int) (a0_7 : Int) (a0_8 : Int) (a0_9 : Int) (a0_10 : Int) (a0_11 : Bool) (a0_12 : Bool) : Option (ByteArray) := (spec_NumText.f k a0_0).bind fun t120 => (if 6 + t120.size ≤ 9223372036854775807 then (if ((⟨#[112, 105, 101, 99, 101, 32]⟩ : ByteArray) ++ t120).size + 4 ≤ 9223372036854775807 then ((spec_NumText.f k a0_1).bind fun t121 => (if (((⟨#[112, 105, 101, 99, 101, 32]⟩ : ByteArray) ++ t120) ++ (⟨#[32, 111, 102, 32]⟩ : ByteArray)).size + t121.size ≤ 9223372036854775807 then (if ((((⟨#[112, 105, 101, 99, 101, 32]⟩ : ByteArray) ++ t120) ++ (⟨#[32, 111, 102, 32]⟩ : ByteArray)) ++ t121).size + 6 ≤ 9223372036854775807 then ((spec_NumText.f k a0_2).bind fun t122 => (if (((((⟨#[112, 105, 101, 99, 101, 32]⟩ : ByteArray) ++ t120) ++ (⟨#[32, 111, 102, 32]⟩ : ByteArray)) ++ t121) ++ (⟨#[32, 119, 105, 116, 104, 32]⟩ : ByteArray)).size + t122.size ≤ 9223372036854775807 then (if ((((((⟨#[112, 105, 101, 99, 101, 32]⟩ : ByteArray) ++ t120) ++ (⟨#[32, 111, 102, 32]⟩ : ByteArray)) ++ t121) ++ (⟨#[32, 119, 105, 116, 104, 32]⟩ : ByteArray)) ++ t122).size + 4 ≤ 9223372036854775807 then ((spec_NumText.f k a0_3).bind fun t123 => (if (((((((⟨#[112, 105, 101, 99, 101, 32]⟩ : ByteArray) ++ t120) ++ (⟨#[32, 111, 102, 32]⟩ : ByteArray)) ++ t121) ++ (⟨#[32, 119, 105, 116, 104, 32]⟩ : ByteArray)) ++ t122) ++ (⟨#[32, 105, 110, 32]⟩ : ByteArray)).size + t123.size ≤ 9223372036854775807 then (if ((((((((⟨#[112, 105, 101, 99, 101, 32]⟩ : ByteArray) ++ t120) ++ (⟨#[32, 111, 102, 32]⟩ : ByteArray)) ++ t121) ++ (⟨#[32, 119, 105, 116, 104, 32]⟩ : ByteArray)) ++ t122) ++ (⟨#[32, 105, 110, 32]⟩ : ByteArray)) ++ t123).size + 1 ≤ 9223372036854775807 then ((spec_PowerOf.f a0_0 a0_1 a0_2 a0_3 a0_4 a0_5 a0_6 a0_7 a0_8 a0_9 a0_10 a0_11 a0_12).bind fun t124 => ((spec_NumText.f k t124).bind fun t125 => (if (((((((((⟨#[112, 105, 101, 99, 101, 32]⟩ : ByteArray) ++ t120) ++ (⟨#[32, 111, 102, 32]⟩ : ByteArray)) ++ t121) ++ (⟨#[32, 119, 105, 116, 104, 32]⟩ : ByteArray)) ++ t122) ++ (⟨#[32, 105, 110, 32]⟩ : ByteArray)) ++ t123) ++ (⟨#[32]⟩ : ByteArray)).size + t125.size ≤ 9223372036854775807 then (if ((((((((((⟨#[112, 105, 101, 99, 101, 32]⟩ : ByteArray) ++ t120) ++ (⟨#[32, 111, 102, 32]⟩ : ByteArray)) ++ t121) ++ (⟨#[32, 119, 105, 116, 104, 32]⟩ : ByteArray)) ++ t122) ++ (⟨#[32, 105, 110, 32]⟩ : ByteArray)) ++ t123) ++ (⟨#[32]⟩ : ByteArray)) ++ t125).size + 1 ≤ 9223372036854775807 then ((spec_ToughOf.f a0_0 a0_1 a0_2 a0_3 a0_4 a0_5 a0_6 a0_7 a0_8 a0_9 a0_10 a0_11 a0_12).bind fun t126 => ((spec_NumText.f k t126).bind fun t127 => (if (((((((((((⟨#[112, 105, 101, 99, 101, 32]⟩ : ByteArray) ++ t120) ++ (⟨#[32, 111, 102, 32]⟩ : ByteArray)) ++ t121) ++ (⟨#[32, 119, 105, 116, 104, 32]⟩ : ByteArray)) ++ t122) ++ (⟨#[32, 105, 110, 32]⟩ : ByteArray)) ++ t123) ++ (⟨#[32]⟩ : ByteArray)) ++ t125) ++ (⟨#[47]⟩ : ByteArray)).size + t127.size ≤ 9223372036854775807 then (if a0_10 > 0 then (if ((((((((((((⟨#[112, 105, 101, 99, 101, 32]⟩ : ByteArray) ++ t120) ++ (⟨#[32, 111, 102, 32]⟩ : ByteArray)) ++ t121) ++ (⟨#[32, 119, 105, 116, 104, 32]⟩ : ByteArray)) ++ t122) ++ (⟨#[32, 105, 110, 32]⟩ : ByteArray)) ++ t123) ++ (⟨#[32]⟩ : ByteArray)) ++ t125) ++ (⟨#[47]⟩ : ByteArray)) ++ t127).size + 7 ≤ 9223372036854775807 then ((spec_NumText.f k a0_10).bind fun t128 => (if (((((((((((((⟨#[112, 105, 101, 99, 101, 32]⟩ : ByteArray) ++ t120) ++ (⟨#[32, 111, 102, 32]⟩ : ByteArray)) ++ t121) ++ (⟨#[32, 119, 105, 116, 104, 32]⟩ : ByteArray)) ++ t122) ++ (⟨#[32, 105, 110, 32]⟩ : ByteArray)) ++ t123) ++ (⟨#[32]⟩ : ByteArray)) ++ t125) ++ (⟨#[47]⟩ : ByteArray)) ++ t127) ++ (⟨#[32, 109, 97, 114, 107, 115, 32]⟩ : ByteArray)).size + t128.size ≤ 9223372036854775807 then (spec_PieceText.j0 k ((((((((((((((⟨#[112, 105, 101, 99, 101, 32]⟩ : ByteArray) ++ t120) ++ (⟨#[32, 111, 102, 32]⟩ : ByteArray)) ++ t121) ++ (⟨#[32, 119, 105, 116, 104, 32]⟩ : ByteArray)) ++ t122) ++ (⟨#[32, 105, 110, 32]⟩ : ByteArray)) ++ t123) ++ (⟨#[32]⟩ : ByteArray)) ++ t125) ++ (⟨#[47]⟩ : ByteArray)) ++ t127) ++ (⟨#[32, 109, 97, 114, 107, 115, 32]⟩ : ByteArray)) ++ t128) a0_0 a0_1 a0_2 a0_3 a0_4 a0_5 a0_6 a0_7 a0_8 a0_9 a0_10 a0_11 a0_12) else (none))) else (none)) else (spec_PieceText.j0 k ((((((((((((⟨#[112, 105, 101, 99, 101, 32]⟩ : ByteArray) ++ t120) ++ (⟨#[32, 111, 102, 32]⟩ : ByteArray)) ++ t121) ++ (⟨#[32, 119, 105, 116, 104, 32]⟩ : ByteArray)) ++ t122) ++ (⟨#[32, 105, 110, 32]⟩ : ByteArray)) ++ t123) ++ (⟨#[32]⟩ : ByteArray)) ++ t125) ++ (⟨#[47]⟩ : ByteArray)) ++ t127) a0_0 a0_1 a0_2 a0_3 a0_4 a0_5 a0_6 a0_7 a0_8 a0_9 a0_10 a0_11 a0_12)) else (none)))) else (none)) else (none)))) else (none)) else (none))) else (none)) else (none))) else (none)) else (none))) else (none)) else (none))
theorem spec_PieceText.mono_l : ∀ k, (∀ y0 y1 y2 y3 y4 y5 y6 y7 y8 y9 y10 y11 y12 y13, LeO (spec_PieceText.j0 k y0 y1 y2 y3 y4 y5 y6 y7 y8 y9 y10 y11 y12 y13) (spec_PieceText.j0 (k + 1) y0 y1 y2 y3 y4 y5 y6 y7 y8 y9 y10 y11 y12 y13))
  | 0 => fun _ _ _ _ _ _ _ _ _ _ _ _ _ _ r h => by simp [spec_PieceText.j0] at h
  | k + 1 => by
    have ih0 := spec_PieceText.mono_l k
    · intro y0 y1 y2 y3 y4 y5 y6 y7 y8 y9 y10 y11 y12 y13
      unfold spec_PieceText.j0
      repeat' first
      | (with_reducible exact ih0 _ _ _ _ _ _ _ _ _ _ _ _ _ _)
      | (with_reducible exact spec_NumText.mono _ _)
      | (with_reducible exact LeO.refl _)
      | (with_reducible exact LeO.none _)
      | (with_reducible refine LeO.ite ?_ ?_)
      | (with_reducible refine LeO.bind ?_ (fun _ => ?_))
      | exact ih0 _ _ _ _ _ _ _ _ _ _ _ _ _ _
      | exact spec_NumText.mono _ _
      | exact LeO.none _
      | refine LeO.ite ?_ ?_
      | refine LeO.bind ?_ (fun _ => ?_)
theorem spec_PieceText.mono : ∀ a0 a1 a2 a3 a4 a5 a6 a7 a8 a9 a10 a11 a12 k, LeO (spec_PieceText.f k a0 a1 a2 a3 a4 a5 a6 a7 a8 a9 a10 a11 a12) (spec_PieceText.f (k + 1) a0 a1 a2 a3 a4 a5 a6 a7 a8 a9 a10 a11 a12) := by
  intro a0 a1 a2 a3 a4 a5 a6 a7 a8 a9 a10 a11 a12 k
  have ih0 := spec_PieceText.mono_l k
  unfold spec_PieceText.f
  repeat' first
      | (with_reducible exact ih0 _ _ _ _ _ _ _ _ _ _ _ _ _ _)
      | (with_reducible exact spec_NumText.mono _ _)
      | (with_reducible exact LeO.refl _)
      | (with_reducible exact LeO.none _)
      | (with_reducible refine LeO.ite ?_ ?_)
      | (with_reducible refine LeO.bind ?_ (fun _ => ?_))
      | exact ih0 _ _ _ _ _ _ _ _ _ _ _ _ _ _
      | exact spec_NumText.mono _ _
      | exact LeO.none _
      | refine LeO.ite ?_ ?_
      | refine LeO.bind ?_ (fun _ => ?_)
def spec_PieceText.T1 : Bool × List (List Nat × List Nat) := (true, [([], []), ([0], [0]), ([1], [1]), ([2], [2]), ([3], [3]), ([], []), ([5], [5]), ([6, 2], [6]), ([4, 7], [4, 7]), ([8], [8]), ([], []), ([10], [10]), ([11, 7], [11]), ([9, 12], [9, 12]), ([13], [13]), ([], []), ([15], [15]), ([16, 12], [16]), ([14, 17], [14, 17]), ([18], [18]), ([], []), ([20, 17], [20]), ([21, 21], [21]), ([19, 22], [19, 22]), ([23], [23]), ([], []), ([25, 22], [25]), ([26, 26], [26]), ([24, 27], [24, 27]), ([28, 27, 0, 1, 2, 3, 4, 5, 6, 7, 8, 9, 10, 11, 12, 13, 14, 15, 16, 17, 18, 19, 20, 21, 22, 23, 24, 25, 26, 27, 28], [28])])
def spec_PieceText.B1 : List Nat := [0, 1, 3, 7, 15, 0, 32, 103, 255, 511, 0, 1024, 3303, 8191, 16383, 0, 32768, 105703, 262143, 524287, 0, 1285351, 3382503, 8388607, 16777215, 0, 41131239, 108240103, 268435455, 536870911]
theorem spec_PieceText.tab1 : rtab .any (opsOf Try.f28 1) = spec_PieceText.T1 := by kernel_rfl
theorem spec_PieceText.bits1 : waitsOk spec_PieceText.T1.2 spec_PieceText.B1 = true := by kernel_rfl
set_option maxHeartbeats 8000000 in
set_option maxRecDepth 100000 in
theorem spec_PieceText.calls (k : Nat) (a0_0 : Int) (a0_1 : Int) (a0_2 : Int) (a0_3 : Int) (a0_4 : Int) (a0_5 : Int) (a0_6 : Int) (a0_7 : Int) (a0_8 : Int) (a0_9 : Int) (a0_10 : Int) (a0_11 : Bool) (a0_12 : Bool) (r : ByteArray) (w : World) (h : spec_PieceText.f k a0_0 a0_1 a0_2 a0_3 a0_4 a0_5 a0_6 a0_7 a0_8 a0_9 a0_10 a0_11 a0_12 = some r) :
    Calls Try.prog 28 #[.agg #[.int .i64 a0_0, .int .i64 a0_1, .int .i64 a0_2, .int .i64 a0_3, .int .i64 a0_4, .int .i64 a0_5, .int .i64 a0_6, .int .i64 a0_7, .int .i64 a0_8, .int .i64 a0_9, .int .i64 a0_10, .bool a0_11, .bool a0_12]] w fun e w' => e = .returned (.string r) ∧ Below w.heap.size w w' := by
  have hu38 := Try.underlying38
  have HB := Aside0.mk (Below.refl w.heap.size w)
  have H : ((spec_NumText.f k a0_0).bind fun t120 => (if 6 + t120.size ≤ 9223372036854775807 then (if ((⟨#[112, 105, 101, 99, 101, 32]⟩ : ByteArray) ++ t120).size + 4 ≤ 9223372036854775807 then ((spec_NumText.f k a0_1).bind fun t121 => (if (((⟨#[112, 105, 101, 99, 101, 32]⟩ : ByteArray) ++ t120) ++ (⟨#[32, 111, 102, 32]⟩ : ByteArray)).size + t121.size ≤ 9223372036854775807 then (if ((((⟨#[112, 105, 101, 99, 101, 32]⟩ : ByteArray) ++ t120) ++ (⟨#[32, 111, 102, 32]⟩ : ByteArray)) ++ t121).size + 6 ≤ 9223372036854775807 then ((spec_NumText.f k a0_2).bind fun t122 => (if (((((⟨#[112, 105, 101, 99, 101, 32]⟩ : ByteArray) ++ t120) ++ (⟨#[32, 111, 102, 32]⟩ : ByteArray)) ++ t121) ++ (⟨#[32, 119, 105, 116, 104, 32]⟩ : ByteArray)).size + t122.size ≤ 9223372036854775807 then (if ((((((⟨#[112, 105, 101, 99, 101, 32]⟩ : ByteArray) ++ t120) ++ (⟨#[32, 111, 102, 32]⟩ : ByteArray)) ++ t121) ++ (⟨#[32, 119, 105, 116, 104, 32]⟩ : ByteArray)) ++ t122).size + 4 ≤ 9223372036854775807 then ((spec_NumText.f k a0_3).bind fun t123 => (if (((((((⟨#[112, 105, 101, 99, 101, 32]⟩ : ByteArray) ++ t120) ++ (⟨#[32, 111, 102, 32]⟩ : ByteArray)) ++ t121) ++ (⟨#[32, 119, 105, 116, 104, 32]⟩ : ByteArray)) ++ t122) ++ (⟨#[32, 105, 110, 32]⟩ : ByteArray)).size + t123.size ≤ 9223372036854775807 then (if ((((((((⟨#[112, 105, 101, 99, 101, 32]⟩ : ByteArray) ++ t120) ++ (⟨#[32, 111, 102, 32]⟩ : ByteArray)) ++ t121) ++ (⟨#[32, 119, 105, 116, 104, 32]⟩ : ByteArray)) ++ t122) ++ (⟨#[32, 105, 110, 32]⟩ : ByteArray)) ++ t123).size + 1 ≤ 9223372036854775807 then ((spec_PowerOf.f a0_0 a0_1 a0_2 a0_3 a0_4 a0_5 a0_6 a0_7 a0_8 a0_9 a0_10 a0_11 a0_12).bind fun t124 => ((spec_NumText.f k t124).bind fun t125 => (if (((((((((⟨#[112, 105, 101, 99, 101, 32]⟩ : ByteArray) ++ t120) ++ (⟨#[32, 111, 102, 32]⟩ : ByteArray)) ++ t121) ++ (⟨#[32, 119, 105, 116, 104, 32]⟩ : ByteArray)) ++ t122) ++ (⟨#[32, 105, 110, 32]⟩ : ByteArray)) ++ t123) ++ (⟨#[32]⟩ : ByteArray)).size + t125.size ≤ 9223372036854775807 then (if ((((((((((⟨#[112, 105, 101, 99, 101, 32]⟩ : ByteArray) ++ t120) ++ (⟨#[32, 111, 102, 32]⟩ : ByteArray)) ++ t121) ++ (⟨#[32, 119, 105, 116, 104, 32]⟩ : ByteArray)) ++ t122) ++ (⟨#[32, 105, 110, 32]⟩ : ByteArray)) ++ t123) ++ (⟨#[32]⟩ : ByteArray)) ++ t125).size + 1 ≤ 9223372036854775807 then ((spec_ToughOf.f a0_0 a0_1 a0_2 a0_3 a0_4 a0_5 a0_6 a0_7 a0_8 a0_9 a0_10 a0_11 a0_12).bind fun t126 => ((spec_NumText.f k t126).bind fun t127 => (if (((((((((((⟨#[112, 105, 101, 99, 101, 32]⟩ : ByteArray) ++ t120) ++ (⟨#[32, 111, 102, 32]⟩ : ByteArray)) ++ t121) ++ (⟨#[32, 119, 105, 116, 104, 32]⟩ : ByteArray)) ++ t122) ++ (⟨#[32, 105, 110, 32]⟩ : ByteArray)) ++ t123) ++ (⟨#[32]⟩ : ByteArray)) ++ t125) ++ (⟨#[47]⟩ : ByteArray)).size + t127.size ≤ 9223372036854775807 then (if a0_10 > 0 then (if ((((((((((((⟨#[112, 105, 101, 99, 101, 32]⟩ : ByteArray) ++ t120) ++ (⟨#[32, 111, 102, 32]⟩ : ByteArray)) ++ t121) ++ (⟨#[32, 119, 105, 116, 104, 32]⟩ : ByteArray)) ++ t122) ++ (⟨#[32, 105, 110, 32]⟩ : ByteArray)) ++ t123) ++ (⟨#[32]⟩ : ByteArray)) ++ t125) ++ (⟨#[47]⟩ : ByteArray)) ++ t127).size + 7 ≤ 9223372036854775807 then ((spec_NumText.f k a0_10).bind fun t128 => (if (((((((((((((⟨#[112, 105, 101, 99, 101, 32]⟩ : ByteArray) ++ t120) ++ (⟨#[32, 111, 102, 32]⟩ : ByteArray)) ++ t121) ++ (⟨#[32, 119, 105, 116, 104, 32]⟩ : ByteArray)) ++ t122) ++ (⟨#[32, 105, 110, 32]⟩ : ByteArray)) ++ t123) ++ (⟨#[32]⟩ : ByteArray)) ++ t125) ++ (⟨#[47]⟩ : ByteArray)) ++ t127) ++ (⟨#[32, 109, 97, 114, 107, 115, 32]⟩ : ByteArray)).size + t128.size ≤ 9223372036854775807 then (spec_PieceText.j0 k ((((((((((((((⟨#[112, 105, 101, 99, 101, 32]⟩ : ByteArray) ++ t120) ++ (⟨#[32, 111, 102, 32]⟩ : ByteArray)) ++ t121) ++ (⟨#[32, 119, 105, 116, 104, 32]⟩ : ByteArray)) ++ t122) ++ (⟨#[32, 105, 110, 32]⟩ : ByteArray)) ++ t123) ++ (⟨#[32]⟩ : ByteArray)) ++ t125) ++ (⟨#[47]⟩ : ByteArray)) ++ t127) ++ (⟨#[32, 109, 97, 114, 107, 115, 32]⟩ : ByteArray)) ++ t128) a0_0 a0_1 a0_2 a0_3 a0_4 a0_5 a0_6 a0_7 a0_8 a0_9 a0_10 a0_11 a0_12) else (none))) else (none)) else (spec_PieceText.j0 k ((((((((((((⟨#[112, 105, 101, 99, 101, 32]⟩ : ByteArray) ++ t120) ++ (⟨#[32, 111, 102, 32]⟩ : ByteArray)) ++ t121) ++ (⟨#[32, 119, 105, 116, 104, 32]⟩ : ByteArray)) ++ t122) ++ (⟨#[32, 105, 110, 32]⟩ : ByteArray)) ++ t123) ++ (⟨#[32]⟩ : ByteArray)) ++ t125) ++ (⟨#[47]⟩ : ByteArray)) ++ t127) a0_0 a0_1 a0_2 a0_3 a0_4 a0_5 a0_6 a0_7 a0_8 a0_9 a0_10 a0_11 a0_12)) else (none)))) else (none)) else (none)))) else (none)) else (none))) else (none)) else (none))) else (none)) else (none))) else (none)) else (none))) = some r := h
  clear h
  replace H := Option.bind_eq_some_iff.mp H
  obtain ⟨t120, A20, H⟩ := H
  replace H : (if 6 + t120.size ≤ 9223372036854775807 then (if ((⟨#[112, 105, 101, 99, 101, 32]⟩ : ByteArray) ++ t120).size + 4 ≤ 9223372036854775807 then ((spec_NumText.f k a0_1).bind fun t121 => (if (((⟨#[112, 105, 101, 99, 101, 32]⟩ : ByteArray) ++ t120) ++ (⟨#[32, 111, 102, 32]⟩ : ByteArray)).size + t121.size ≤ 9223372036854775807 then (if ((((⟨#[112, 105, 101, 99, 101, 32]⟩ : ByteArray) ++ t120) ++ (⟨#[32, 111, 102, 32]⟩ : ByteArray)) ++ t121).size + 6 ≤ 9223372036854775807 then ((spec_NumText.f k a0_2).bind fun t122 => (if (((((⟨#[112, 105, 101, 99, 101, 32]⟩ : ByteArray) ++ t120) ++ (⟨#[32, 111, 102, 32]⟩ : ByteArray)) ++ t121) ++ (⟨#[32, 119, 105, 116, 104, 32]⟩ : ByteArray)).size + t122.size ≤ 9223372036854775807 then (if ((((((⟨#[112, 105, 101, 99, 101, 32]⟩ : ByteArray) ++ t120) ++ (⟨#[32, 111, 102, 32]⟩ : ByteArray)) ++ t121) ++ (⟨#[32, 119, 105, 116, 104, 32]⟩ : ByteArray)) ++ t122).size + 4 ≤ 9223372036854775807 then ((spec_NumText.f k a0_3).bind fun t123 => (if (((((((⟨#[112, 105, 101, 99, 101, 32]⟩ : ByteArray) ++ t120) ++ (⟨#[32, 111, 102, 32]⟩ : ByteArray)) ++ t121) ++ (⟨#[32, 119, 105, 116, 104, 32]⟩ : ByteArray)) ++ t122) ++ (⟨#[32, 105, 110, 32]⟩ : ByteArray)).size + t123.size ≤ 9223372036854775807 then (if ((((((((⟨#[112, 105, 101, 99, 101, 32]⟩ : ByteArray) ++ t120) ++ (⟨#[32, 111, 102, 32]⟩ : ByteArray)) ++ t121) ++ (⟨#[32, 119, 105, 116, 104, 32]⟩ : ByteArray)) ++ t122) ++ (⟨#[32, 105, 110, 32]⟩ : ByteArray)) ++ t123).size + 1 ≤ 9223372036854775807 then ((spec_PowerOf.f a0_0 a0_1 a0_2 a0_3 a0_4 a0_5 a0_6 a0_7 a0_8 a0_9 a0_10 a0_11 a0_12).bind fun t124 => ((spec_NumText.f k t124).bind fun t125 => (if (((((((((⟨#[112, 105, 101, 99, 101, 32]⟩ : ByteArray) ++ t120) ++ (⟨#[32, 111, 102, 32]⟩ : ByteArray)) ++ t121) ++ (⟨#[32, 119, 105, 116, 104, 32]⟩ : ByteArray)) ++ t122) ++ (⟨#[32, 105, 110, 32]⟩ : ByteArray)) ++ t123) ++ (⟨#[32]⟩ : ByteArray)).size + t125.size ≤ 9223372036854775807 then (if ((((((((((⟨#[112, 105, 101, 99, 101, 32]⟩ : ByteArray) ++ t120) ++ (⟨#[32, 111, 102, 32]⟩ : ByteArray)) ++ t121) ++ (⟨#[32, 119, 105, 116, 104, 32]⟩ : ByteArray)) ++ t122) ++ (⟨#[32, 105, 110, 32]⟩ : ByteArray)) ++ t123) ++ (⟨#[32]⟩ : ByteArray)) ++ t125).size + 1 ≤ 9223372036854775807 then ((spec_ToughOf.f a0_0 a0_1 a0_2 a0_3 a0_4 a0_5 a0_6 a0_7 a0_8 a0_9 a0_10 a0_11 a0_12).bind fun t126 => ((spec_NumText.f k t126).bind fun t127 => (if (((((((((((⟨#[112, 105, 101, 99, 101, 32]⟩ : ByteArray) ++ t120) ++ (⟨#[32, 111, 102, 32]⟩ : ByteArray)) ++ t121) ++ (⟨#[32, 119, 105, 116, 104, 32]⟩ : ByteArray)) ++ t122) ++ (⟨#[32, 105, 110, 32]⟩ : ByteArray)) ++ t123) ++ (⟨#[32]⟩ : ByteArray)) ++ t125) ++ (⟨#[47]⟩ : ByteArray)).size + t127.size ≤ 9223372036854775807 then (if a0_10 > 0 then (if ((((((((((((⟨#[112, 105, 101, 99, 101, 32]⟩ : ByteArray) ++ t120) ++ (⟨#[32, 111, 102, 32]⟩ : ByteArray)) ++ t121) ++ (⟨#[32, 119, 105, 116, 104, 32]⟩ : ByteArray)) ++ t122) ++ (⟨#[32, 105, 110, 32]⟩ : ByteArray)) ++ t123) ++ (⟨#[32]⟩ : ByteArray)) ++ t125) ++ (⟨#[47]⟩ : ByteArray)) ++ t127).size + 7 ≤ 9223372036854775807 then ((spec_NumText.f k a0_10).bind fun t128 => (if (((((((((((((⟨#[112, 105, 101, 99, 101, 32]⟩ : ByteArray) ++ t120) ++ (⟨#[32, 111, 102, 32]⟩ : ByteArray)) ++ t121) ++ (⟨#[32, 119, 105, 116, 104, 32]⟩ : ByteArray)) ++ t122) ++ (⟨#[32, 105, 110, 32]⟩ : ByteArray)) ++ t123) ++ (⟨#[32]⟩ : ByteArray)) ++ t125) ++ (⟨#[47]⟩ : ByteArray)) ++ t127) ++ (⟨#[32, 109, 97, 114, 107, 115, 32]⟩ : ByteArray)).size + t128.size ≤ 9223372036854775807 then (spec_PieceText.j0 k ((((((((((((((⟨#[112, 105, 101, 99, 101, 32]⟩ : ByteArray) ++ t120) ++ (⟨#[32, 111, 102, 32]⟩ : ByteArray)) ++ t121) ++ (⟨#[32, 119, 105, 116, 104, 32]⟩ : ByteArray)) ++ t122) ++ (⟨#[32, 105, 110, 32]⟩ : ByteArray)) ++ t123) ++ (⟨#[32]⟩ : ByteArray)) ++ t125) ++ (⟨#[47]⟩ : ByteArray)) ++ t127) ++ (⟨#[32, 109, 97, 114, 107, 115, 32]⟩ : ByteArray)) ++ t128) a0_0 a0_1 a0_2 a0_3 a0_4 a0_5 a0_6 a0_7 a0_8 a0_9 a0_10 a0_11 a0_12) else (none))) else (none)) else (spec_PieceText.j0 k ((((((((((((⟨#[112, 105, 101, 99, 101, 32]⟩ : ByteArray) ++ t120) ++ (⟨#[32, 111, 102, 32]⟩ : ByteArray)) ++ t121) ++ (⟨#[32, 119, 105, 116, 104, 32]⟩ : ByteArray)) ++ t122) ++ (⟨#[32, 105, 110, 32]⟩ : ByteArray)) ++ t123) ++ (⟨#[32]⟩ : ByteArray)) ++ t125) ++ (⟨#[47]⟩ : ByteArray)) ++ t127) a0_0 a0_1 a0_2 a0_3 a0_4 a0_5 a0_6 a0_7 a0_8 a0_9 a0_10 a0_11 a0_12)) else (none)))) else (none)) else (none)))) else (none)) else (none))) else (none)) else (none))) else (none)) else (none))) else (none)) else (none)) = some r := H
  have A2 := Aside0.mk A20
  clear A20
  by_cases c3 : 6 + t120.size ≤ 9223372036854775807
  · rw [if_pos c3] at H
    have c3b0 := eq_true c3
    have c3b1 : decide (6 + t120.size ≤ 9223372036854775807) = true := decide_eq_true c3
    try have c3b2 : (9223372036854775807 < 6 + t120.size) = False := eq_false (Nat.not_lt.2 c3)
    by_cases c4 : ((⟨#[112, 105, 101, 99, 101, 32]⟩ : ByteArray) ++ t120).size + 4 ≤ 9223372036854775807
    · rw [if_pos c4] at H
      have c4b0 := eq_true c4
      have c4b1 : decide (((⟨#[112, 105, 101, 99, 101, 32]⟩ : ByteArray) ++ t120).size + 4 ≤ 9223372036854775807) = true := decide_eq_true c4
      try have c4b2 : (9223372036854775807 < ((⟨#[112, 105, 101, 99, 101, 32]⟩ : ByteArray) ++ t120).size + 4) = False := eq_false (Nat.not_lt.2 c4)
      try have c4b4 : (9223372036854775807 < 6 + t120.size + 4) = False := eq_false (Nat.not_lt.2 (by have h_ := c4; simp only [ByteArray.size_append, show (⟨#[112, 105, 101, 99, 101, 32]⟩ : ByteArray).size = 6 from rfl] at h_; omega))
      replace H := Option.bind_eq_some_iff.mp H
      obtain ⟨t121, A50, H⟩ := H
      replace H : (if (((⟨#[112, 105, 101, 99, 101, 32]⟩ : ByteArray) ++ t120) ++ (⟨#[32, 111, 102, 32]⟩ : ByteArray)).size + t121.size ≤ 9223372036854775807 then (if ((((⟨#[112, 105, 101, 99, 101, 32]⟩ : ByteArray) ++ t120) ++ (⟨#[32, 111, 102, 32]⟩ : ByteArray)) ++ t121).size + 6 ≤ 9223372036854775807 then ((spec_NumText.f k a0_2).bind fun t122 => (if (((((⟨#[112, 105, 101, 99, 101, 32]⟩ : ByteArray) ++ t120) ++ (⟨#[32, 111, 102, 32]⟩ : ByteArray)) ++ t121) ++ (⟨#[32, 119, 105, 116, 104, 32]⟩ : ByteArray)).size + t122.size ≤ 9223372036854775807 then (if ((((((⟨#[112, 105, 101, 99, 101, 32]⟩ : ByteArray) ++ t120) ++ (⟨#[32, 111, 102, 32]⟩ : ByteArray)) ++ t121) ++ (⟨#[32, 119, 105, 116, 104, 32]⟩ : ByteArray)) ++ t122).size + 4 ≤ 9223372036854775807 then ((spec_NumText.f k a0_3).bind fun t123 => (if (((((((⟨#[112, 105, 101, 99, 101, 32]⟩ : ByteArray) ++ t120) ++ (⟨#[32, 111, 102, 32]⟩ : ByteArray)) ++ t121) ++ (⟨#[32, 119, 105, 116, 104, 32]⟩ : ByteArray)) ++ t122) ++ (⟨#[32, 105, 110, 32]⟩ : ByteArray)).size + t123.size ≤ 9223372036854775807 then (if ((((((((⟨#[112, 105, 101, 99, 101, 32]⟩ : ByteArray) ++ t120) ++ (⟨#[32, 111, 102, 32]⟩ : ByteArray)) ++ t121) ++ (⟨#[32, 119, 105, 116, 104, 32]⟩ : ByteArray)) ++ t122) ++ (⟨#[32, 105, 110, 32]⟩ : ByteArray)) ++ t123).size + 1 ≤ 9223372036854775807 then ((spec_PowerOf.f a0_0 a0_1 a0_2 a0_3 a0_4 a0_5 a0_6 a0_7 a0_8 a0_9 a0_10 a0_11 a0_12).bind fun t124 => ((spec_NumText.f k t124).bind fun t125 => (if (((((((((⟨#[112, 105, 101, 99, 101, 32]⟩ : ByteArray) ++ t120) ++ (⟨#[32, 111, 102, 32]⟩ : ByteArray)) ++ t121) ++ (⟨#[32, 119, 105, 116, 104, 32]⟩ : ByteArray)) ++ t122) ++ (⟨#[32, 105, 110, 32]⟩ : ByteArray)) ++ t123) ++ (⟨#[32]⟩ : ByteArray)).size + t125.size ≤ 9223372036854775807 then (if ((((((((((⟨#[112, 105, 101, 99, 101, 32]⟩ : ByteArray) ++ t120) ++ (⟨#[32, 111, 102, 32]⟩ : ByteArray)) ++ t121) ++ (⟨#[32, 119, 105, 116, 104, 32]⟩ : ByteArray)) ++ t122) ++ (⟨#[32, 105, 110, 32]⟩ : ByteArray)) ++ t123) ++ (⟨#[32]⟩ : ByteArray)) ++ t125).size + 1 ≤ 9223372036854775807 then ((spec_ToughOf.f a0_0 a0_1 a0_2 a0_3 a0_4 a0_5 a0_6 a0_7 a0_8 a0_9 a0_10 a0_11 a0_12).bind fun t126 => ((spec_NumText.f k t126).bind fun t127 => (if (((((((((((⟨#[112, 105, 101, 99, 101, 32]⟩ : ByteArray) ++ t120) ++ (⟨#[32, 111, 102, 32]⟩ : ByteArray)) ++ t121) ++ (⟨#[32, 119, 105, 116, 104, 32]⟩ : ByteArray)) ++ t122) ++ (⟨#[32, 105, 110, 32]⟩ : ByteArray)) ++ t123) ++ (⟨#[32]⟩ : ByteArray)) ++ t125) ++ (⟨#[47]⟩ : ByteArray)).size + t127.size ≤ 9223372036854775807 then (if a0_10 > 0 then (if ((((((((((((⟨#[112, 105, 101, 99, 101, 32]⟩ : ByteArray) ++ t120) ++ (⟨#[32, 111, 102, 32]⟩ : ByteArray)) ++ t121) ++ (⟨#[32, 119, 105, 116, 104, 32]⟩ : ByteArray)) ++ t122) ++ (⟨#[32, 105, 110, 32]⟩ : ByteArray)) ++ t123) ++ (⟨#[32]⟩ : ByteArray)) ++ t125) ++ (⟨#[47]⟩ : ByteArray)) ++ t127).size + 7 ≤ 9223372036854775807 then ((spec_NumText.f k a0_10).bind fun t128 => (if (((((((((((((⟨#[112, 105, 101, 99, 101, 32]⟩ : ByteArray) ++ t120) ++ (⟨#[32, 111, 102, 32]⟩ : ByteArray)) ++ t121) ++ (⟨#[32, 119, 105, 116, 104, 32]⟩ : ByteArray)) ++ t122) ++ (⟨#[32, 105, 110, 32]⟩ : ByteArray)) ++ t123) ++ (⟨#[32]⟩ : ByteArray)) ++ t125) ++ (⟨#[47]⟩ : ByteArray)) ++ t127) ++ (⟨#[32, 109, 97, 114, 107, 115, 32]⟩ : ByteArray)).size + t128.size ≤ 9223372036854775807 then (spec_PieceText.j0 k ((((((((((((((⟨#[112, 105, 101, 99, 101, 32]⟩ : ByteArray) ++ t120) ++ (⟨#[32, 111, 102, 32]⟩ : ByteArray)) ++ t121) ++ (⟨#[32, 119, 105, 116, 104, 32]⟩ : ByteArray)) ++ t122) ++ (⟨#[32, 105, 110, 32]⟩ : ByteArray)) ++ t123) ++ (⟨#[32]⟩ : ByteArray)) ++ t125) ++ (⟨#[47]⟩ : ByteArray)) ++ t127) ++ (⟨#[32, 109, 97, 114, 107, 115, 32]⟩ : ByteArray)) ++ t128) a0_0 a0_1 a0_2 a0_3 a0_4 a0_5 a0_6 a0_7 a0_8 a0_9 a0_10 a0_11 a0_12) else (none))) else (none)) else (spec_PieceText.j0 k ((((((((((((⟨#[112, 105, 101, 99, 101, 32]⟩ : ByteArray) ++ t120) ++ (⟨#[32, 111, 102, 32]⟩ : ByteArray)) ++ t121) ++ (⟨#[32, 119, 105, 116, 104, 32]⟩ : ByteArray)) ++ t122) ++ (⟨#[32, 105, 110, 32]⟩ : ByteArray)) ++ t123) ++ (⟨#[32]⟩ : ByteArray)) ++ t125) ++ (⟨#[47]⟩ : ByteArray)) ++ t127) a0_0 a0_1 a0_2 a0_3 a0_4 a0_5 a0_6 a0_7 a0_8 a0_9 a0_10 a0_11 a0_12)) else (none)))) else (none)) else (none)))) else (none)) else (none))) else (none)) else (none))) else (none)) else (none)) = some r := H
      have A5 := Aside0.mk A50
      clear A50
      by_cases c6 : (((⟨#[112, 105, 101, 99, 101, 32]⟩ : ByteArray) ++ t120) ++ (⟨#[32, 111, 102, 32]⟩ : ByteArray)).size + t121.size ≤ 9223372036854775807
      · rw [if_pos c6] at H
        have c6b0 := eq_true c6
        have c6b1 : decide ((((⟨#[112, 105, 101, 99, 101, 32]⟩ : ByteArray) ++ t120) ++ (⟨#[32, 111, 102, 32]⟩ : ByteArray)).size + t121.size ≤ 9223372036854775807) = true := decide_eq_true c6
        try have c6b2 : (9223372036854775807 < (((⟨#[112, 105, 101, 99, 101, 32]⟩ : ByteArray) ++ t120) ++ (⟨#[32, 111, 102, 32]⟩ : ByteArray)).size + t121.size) = False := eq_false (Nat.not_lt.2 c6)
        try have c6b4 : (9223372036854775807 < 6 + t120.size + 4 + t121.size) = False := eq_false (Nat.not_lt.2 (by have h_ := c6; simp only [ByteArray.size_append, show (⟨#[112, 105, 101, 99, 101, 32]⟩ : ByteArray).size = 6 from rfl, show (⟨#[32, 111, 102, 32]⟩ : ByteArray).size = 4 from rfl] at h_; omega))
        by_cases c7 : ((((⟨#[112, 105, 101, 99, 101, 32]⟩ : ByteArray) ++ t120) ++ (⟨#[32, 111, 102, 32]⟩ : ByteArray)) ++ t121).size + 6 ≤ 9223372036854775807
        · rw [if_pos c7] at H
          have c7b0 := eq_true c7
          have c7b1 : decide (((((⟨#[112, 105, 101, 99, 101, 32]⟩ : ByteArray) ++ t120) ++ (⟨#[32, 111, 102, 32]⟩ : ByteArray)) ++ t121).size + 6 ≤ 9223372036854775807) = true := decide_eq_true c7
          try have c7b2 : (9223372036854775807 < ((((⟨#[112, 105, 101, 99, 101, 32]⟩ : ByteArray) ++ t120) ++ (⟨#[32, 111, 102, 32]⟩ : ByteArray)) ++ t121).size + 6) = False := eq_false (Nat.not_lt.2 c7)
          try have c7b4 : (9223372036854775807 < 6 + t120.size + 4 + t121.size + 6) = False := eq_false (Nat.not_lt.2 (by have h_ := c7; simp only [ByteArray.size_append, show (⟨#[112, 105, 101, 99, 101, 32]⟩ : ByteArray).size = 6 from rfl, show (⟨#[32, 111, 102, 32]⟩ : ByteArray).size = 4 from rfl] at h_; omega))
          replace H := Option.bind_eq_some_iff.mp H
          obtain ⟨t122, A80, H⟩ := H
          replace H : (if (((((⟨#[112, 105, 101, 99, 101, 32]⟩ : ByteArray) ++ t120) ++ (⟨#[32, 111, 102, 32]⟩ : ByteArray)) ++ t121) ++ (⟨#[32, 119, 105, 116, 104, 32]⟩ : ByteArray)).size + t122.size ≤ 9223372036854775807 then (if ((((((⟨#[112, 105, 101, 99, 101, 32]⟩ : ByteArray) ++ t120) ++ (⟨#[32, 111, 102, 32]⟩ : ByteArray)) ++ t121) ++ (⟨#[32, 119, 105, 116, 104, 32]⟩ : ByteArray)) ++ t122).size + 4 ≤ 9223372036854775807 then ((spec_NumText.f k a0_3).bind fun t123 => (if (((((((⟨#[112, 105, 101, 99, 101, 32]⟩ : ByteArray) ++ t120) ++ (⟨#[32, 111, 102, 32]⟩ : ByteArray)) ++ t121) ++ (⟨#[32, 119, 105, 116, 104, 32]⟩ : ByteArray)) ++ t122) ++ (⟨#[32, 105, 110, 32]⟩ : ByteArray)).size + t123.size ≤ 9223372036854775807 then (if ((((((((⟨#[112, 105, 101, 99, 101, 32]⟩ : ByteArray) ++ t120) ++ (⟨#[32, 111, 102, 32]⟩ : ByteArray)) ++ t121) ++ (⟨#[32, 119, 105, 116, 104, 32]⟩ : ByteArray)) ++ t122) ++ (⟨#[32, 105, 110, 32]⟩ : ByteArray)) ++ t123).size + 1 ≤ 9223372036854775807 then ((spec_PowerOf.f a0_0 a0_1 a0_2 a0_3 a0_4 a0_5 a0_6 a0_7 a0_8 a0_9 a0_10 a0_11 a0_12).bind fun t124 => ((spec_NumText.f k t124).bind fun t125 => (if (((((((((⟨#[112, 105, 101, 99, 101, 32]⟩ : ByteArray) ++ t120) ++ (⟨#[32, 111, 102, 32]⟩ : ByteArray)) ++ t121) ++ (⟨#[32, 119, 105, 116, 104, 32]⟩ : ByteArray)) ++ t122) ++ (⟨#[32, 105, 110, 32]⟩ : ByteArray)) ++ t123) ++ (⟨#[32]⟩ : ByteArray)).size + t125.size ≤ 9223372036854775807 then (if ((((((((((⟨#[112, 105, 101, 99, 101, 32]⟩ : ByteArray) ++ t120) ++ (⟨#[32, 111, 102, 32]⟩ : ByteArray)) ++ t121) ++ (⟨#[32, 119, 105, 116, 104, 32]⟩ : ByteArray)) ++ t122) ++ (⟨#[32, 105, 110, 32]⟩ : ByteArray)) ++ t123) ++ (⟨#[32]⟩ : ByteArray)) ++ t125).size + 1 ≤ 9223372036854775807 then ((spec_ToughOf.f a0_0 a0_1 a0_2 a0_3 a0_4 a0_5 a0_6 a0_7 a0_8 a0_9 a0_10 a0_11 a0_12).bind fun t126 => ((spec_NumText.f k t126).bind fun t127 => (if (((((((((((⟨#[112, 105, 101, 99, 101, 32]⟩ : ByteArray) ++ t120) ++ (⟨#[32, 111, 102, 32]⟩ : ByteArray)) ++ t121) ++ (⟨#[32, 119, 105, 116, 104, 32]⟩ : ByteArray)) ++ t122) ++ (⟨#[32, 105, 110, 32]⟩ : ByteArray)) ++ t123) ++ (⟨#[32]⟩ : ByteArray)) ++ t125) ++ (⟨#[47]⟩ : ByteArray)).size + t127.size ≤ 9223372036854775807 then (if a0_10 > 0 then (if ((((((((((((⟨#[112, 105, 101, 99, 101, 32]⟩ : ByteArray) ++ t120) ++ (⟨#[32, 111, 102, 32]⟩ : ByteArray)) ++ t121) ++ (⟨#[32, 119, 105, 116, 104, 32]⟩ : ByteArray)) ++ t122) ++ (⟨#[32, 105, 110, 32]⟩ : ByteArray)) ++ t123) ++ (⟨#[32]⟩ : ByteArray)) ++ t125) ++ (⟨#[47]⟩ : ByteArray)) ++ t127).size + 7 ≤ 9223372036854775807 then ((spec_NumText.f k a0_10).bind fun t128 => (if (((((((((((((⟨#[112, 105, 101, 99, 101, 32]⟩ : ByteArray) ++ t120) ++ (⟨#[32, 111, 102, 32]⟩ : ByteArray)) ++ t121) ++ (⟨#[32, 119, 105, 116, 104, 32]⟩ : ByteArray)) ++ t122) ++ (⟨#[32, 105, 110, 32]⟩ : ByteArray)) ++ t123) ++ (⟨#[32]⟩ : ByteArray)) ++ t125) ++ (⟨#[47]⟩ : ByteArray)) ++ t127) ++ (⟨#[32, 109, 97, 114, 107, 115, 32]⟩ : ByteArray)).size + t128.size ≤ 9223372036854775807 then (spec_PieceText.j0 k ((((((((((((((⟨#[112, 105, 101, 99, 101, 32]⟩ : ByteArray) ++ t120) ++ (⟨#[32, 111, 102, 32]⟩ : ByteArray)) ++ t121) ++ (⟨#[32, 119, 105, 116, 104, 32]⟩ : ByteArray)) ++ t122) ++ (⟨#[32, 105, 110, 32]⟩ : ByteArray)) ++ t123) ++ (⟨#[32]⟩ : ByteArray)) ++ t125) ++ (⟨#[47]⟩ : ByteArray)) ++ t127) ++ (⟨#[32, 109, 97, 114, 107, 115, 32]⟩ : ByteArray)) ++ t128) a0_0 a0_1 a0_2 a0_3 a0_4 a0_5 a0_6 a0_7 a0_8 a0_9 a0_10 a0_11 a0_12) else (none))) else (none)) else (spec_PieceText.j0 k ((((((((((((⟨#[112, 105, 101, 99, 101, 32]⟩ : ByteArray) ++ t120) ++ (⟨#[32, 111, 102, 32]⟩ : ByteArray)) ++ t121) ++ (⟨#[32, 119, 105, 116, 104, 32]⟩ : ByteArray)) ++ t122) ++ (⟨#[32, 105, 110, 32]⟩ : ByteArray)) ++ t123) ++ (⟨#[32]⟩ : ByteArray)) ++ t125) ++ (⟨#[47]⟩ : ByteArray)) ++ t127) a0_0 a0_1 a0_2 a0_3 a0_4 a0_5 a0_6 a0_7 a0_8 a0_9 a0_10 a0_11 a0_12)) else (none)))) else (none)) else (none)))) else (none)) else (none))) else (none)) else (none)) = some r := H
          have A8 := Aside0.mk A80
          clear A80
          by_cases c9 : (((((⟨#[112, 105, 101, 99, 101, 32]⟩ : ByteArray) ++ t120) ++ (⟨#[32, 111, 102, 32]⟩ : ByteArray)) ++ t121) ++ (⟨#[32, 119, 105, 116, 104, 32]⟩ : ByteArray)).size + t122.size ≤ 9223372036854775807
          · rw [if_pos c9] at H
            have c9b0 := eq_true c9
            have c9b1 : decide ((((((⟨#[112, 105, 101, 99, 101, 32]⟩ : ByteArray) ++ t120) ++ (⟨#[32, 111, 102, 32]⟩ : ByteArray)) ++ t121) ++ (⟨#[32, 119, 105, 116, 104, 32]⟩ : ByteArray)).size + t122.size ≤ 9223372036854775807) = true := decide_eq_true c9
            try have c9b2 : (9223372036854775807 < (((((⟨#[112, 105, 101, 99, 101, 32]⟩ : ByteArray) ++ t120) ++ (⟨#[32, 111, 102, 32]⟩ : ByteArray)) ++ t121) ++ (⟨#[32, 119, 105, 116, 104, 32]⟩ : ByteArray)).size + t122.size) = False := eq_false (Nat.not_lt.2 c9)
            try have c9b4 : (9223372036854775807 < 6 + t120.size + 4 + t121.size + 6 + t122.size) = False := eq_false (Nat.not_lt.2 (by have h_ := c9; simp only [ByteArray.size_append, show (⟨#[112, 105, 101, 99, 101, 32]⟩ : ByteArray).size = 6 from rfl, show (⟨#[32, 111, 102, 32]⟩ : ByteArray).size = 4 from rfl, show (⟨#[32, 119, 105, 116, 104, 32]⟩ : ByteArray).size = 6 from rfl] at h_; omega))
            by_cases c10 : ((((((⟨#[112, 105, 101, 99, 101, 32]⟩ : ByteArray) ++ t120) ++ (⟨#[32, 111, 102, 32]⟩ : ByteArray)) ++ t121) ++ (⟨#[32, 119, 105, 116, 104, 32]⟩ : ByteArray)) ++ t122).size + 4 ≤ 9223372036854775807
            · rw [if_pos c10] at H
              have c10b0 := eq_true c10
              have c10b1 : decide (((((((⟨#[112, 105, 101, 99, 101, 32]⟩ : ByteArray) ++ t120) ++ (⟨#[32, 111, 102, 32]⟩ : ByteArray)) ++ t121) ++ (⟨#[32, 119, 105, 116, 104, 32]⟩ : ByteArray)) ++ t122).size + 4 ≤ 9223372036854775807) = true := decide_eq_true c10
              try have c10b2 : (9223372036854775807 < ((((((⟨#[112, 105, 101, 99, 101, 32]⟩ : ByteArray) ++ t120) ++ (⟨#[32, 111, 102, 32]⟩ : ByteArray)) ++ t121) ++ (⟨#[32, 119, 105, 116, 104, 32]⟩ : ByteArray)) ++ t122).size + 4) = False := eq_false (Nat.not_lt.2 c10)
              try have c10b4 : (9223372036854775807 < 6 + t120.size + 4 + t121.size + 6 + t122.size + 4) = False := eq_false (Nat.not_lt.2 (by have h_ := c10; simp only [ByteArray.size_append, show (⟨#[112, 105, 101, 99, 101, 32]⟩ : ByteArray).size = 6 from rfl, show (⟨#[32, 111, 102, 32]⟩ : ByteArray).size = 4 from rfl, show (⟨#[32, 119, 105, 116, 104, 32]⟩ : ByteArray).size = 6 from rfl] at h_; omega))
              replace H := Option.bind_eq_some_iff.mp H
              obtain ⟨t123, A110, H⟩ := H
              replace H : (if (((((((⟨#[112, 105, 101, 99, 101, 32]⟩ : ByteArray) ++ t120) ++ (⟨#[32, 111, 102, 32]⟩ : ByteArray)) ++ t121) ++ (⟨#[32, 119, 105, 116, 104, 32]⟩ : ByteArray)) ++ t122) ++ (⟨#[32, 105, 110, 32]⟩ : ByteArray)).size + t123.size ≤ 9223372036854775807 then (if ((((((((⟨#[112, 105, 101, 99, 101, 32]⟩ : ByteArray) ++ t120) ++ (⟨#[32, 111, 102, 32]⟩ : ByteArray)) ++ t121) ++ (⟨#[32, 119, 105, 116, 104, 32]⟩ : ByteArray)) ++ t122) ++ (⟨#[32, 105, 110, 32]⟩ : ByteArray)) ++ t123).size + 1 ≤ 9223372036854775807 then ((spec_PowerOf.f a0_0 a0_1 a0_2 a0_3 a0_4 a0_5 a0_6 a0_7 a0_8 a0_9 a0_10 a0_11 a0_12).bind fun t124 => ((spec_NumText.f k t124).bind fun t125 => (if (((((((((⟨#[112, 105, 101, 99, 101, 32]⟩ : ByteArray) ++ t120) ++ (⟨#[32, 111, 102, 32]⟩ : ByteArray)) ++ t121) ++ (⟨#[32, 119, 105, 116, 104, 32]⟩ : ByteArray)) ++ t122) ++ (⟨#[32, 105, 110, 32]⟩ : ByteArray)) ++ t123) ++ (⟨#[32]⟩ : ByteArray)).size + t125.size ≤ 9223372036854775807 then (if ((((((((((⟨#[112, 105, 101, 99, 101, 32]⟩ : ByteArray) ++ t120) ++ (⟨#[32, 111, 102, 32]⟩ : ByteArray)) ++ t121) ++ (⟨#[32, 119, 105, 116, 104, 32]⟩ : ByteArray)) ++ t122) ++ (⟨#[32, 105, 110, 32]⟩ : ByteArray)) ++ t123) ++ (⟨#[32]⟩ : ByteArray)) ++ t125).size + 1 ≤ 9223372036854775807 then ((spec_ToughOf.f a0_0 a0_1 a0_2 a0_3 a0_4 a0_5 a0_6 a0_7 a0_8 a0_9 a0_10 a0_11 a0_12).bind fun t126 => ((spec_NumText.f k t126).bind fun t127 => (if (((((((((((⟨#[112, 105, 101, 99, 101, 32]⟩ : ByteArray) ++ t120) ++ (⟨#[32, 111, 102, 32]⟩ : ByteArray)) ++ t121) ++ (⟨#[32, 119, 105, 116, 104, 32]⟩ : ByteArray)) ++ t122) ++ (⟨#[32, 105, 110, 32]⟩ : ByteArray)) ++ t123) ++ (⟨#[32]⟩ : ByteArray)) ++ t125) ++ (⟨#[47]⟩ : ByteArray)).size + t127.size ≤ 9223372036854775807 then (if a0_10 > 0 then (if ((((((((((((⟨#[112, 105, 101, 99, 101, 32]⟩ : ByteArray) ++ t120) ++ (⟨#[32, 111, 102, 32]⟩ : ByteArray)) ++ t121) ++ (⟨#[32, 119, 105, 116, 104, 32]⟩ : ByteArray)) ++ t122) ++ (⟨#[32, 105, 110, 32]⟩ : ByteArray)) ++ t123) ++ (⟨#[32]⟩ : ByteArray)) ++ t125) ++ (⟨#[47]⟩ : ByteArray)) ++ t127).size + 7 ≤ 9223372036854775807 then ((spec_NumText.f k a0_10).bind fun t128 => (if (((((((((((((⟨#[112, 105, 101, 99, 101, 32]⟩ : ByteArray) ++ t120) ++ (⟨#[32, 111, 102, 32]⟩ : ByteArray)) ++ t121) ++ (⟨#[32, 119, 105, 116, 104, 32]⟩ : ByteArray)) ++ t122) ++ (⟨#[32, 105, 110, 32]⟩ : ByteArray)) ++ t123) ++ (⟨#[32]⟩ : ByteArray)) ++ t125) ++ (⟨#[47]⟩ : ByteArray)) ++ t127) ++ (⟨#[32, 109, 97, 114, 107, 115, 32]⟩ : ByteArray)).size + t128.size ≤ 9223372036854775807 then (spec_PieceText.j0 k ((((((((((((((⟨#[112, 105, 101, 99, 101, 32]⟩ : ByteArray) ++ t120) ++ (⟨#[32, 111, 102, 32]⟩ : ByteArray)) ++ t121) ++ (⟨#[32, 119, 105, 116, 104, 32]⟩ : ByteArray)) ++ t122) ++ (⟨#[32, 105, 110, 32]⟩ : ByteArray)) ++ t123) ++ (⟨#[32]⟩ : ByteArray)) ++ t125) ++ (⟨#[47]⟩ : ByteArray)) ++ t127) ++ (⟨#[32, 109, 97, 114, 107, 115, 32]⟩ : ByteArray)) ++ t128) a0_0 a0_1 a0_2 a0_3 a0_4 a0_5 a0_6 a0_7 a0_8 a0_9 a0_10 a0_11 a0_12) else (none))) else (none)) else (spec_PieceText.j0 k ((((((((((((⟨#[112, 105, 101, 99, 101, 32]⟩ : ByteArray) ++ t120) ++ (⟨#[32, 111, 102, 32]⟩ : ByteArray)) ++ t121) ++ (⟨#[32, 119, 105, 116, 104, 32]⟩ : ByteArray)) ++ t122) ++ (⟨#[32, 105, 110, 32]⟩ : ByteArray)) ++ t123) ++ (⟨#[32]⟩ : ByteArray)) ++ t125) ++ (⟨#[47]⟩ : ByteArray)) ++ t127) a0_0 a0_1 a0_2 a0_3 a0_4 a0_5 a0_6 a0_7 a0_8 a0_9 a0_10 a0_11 a0_12)) else (none)))) else (none)) else (none)))) else (none)) else (none)) = some r := H
              have A11 := Aside0.mk A110
              clear A110
              by_cases c12 : (((((((⟨#[112, 105, 101, 99, 101, 32]⟩ : ByteArray) ++ t120) ++ (⟨#[32, 111, 102, 32]⟩ : ByteArray)) ++ t121) ++ (⟨#[32, 119, 105, 116, 104, 32]⟩ : ByteArray)) ++ t122) ++ (⟨#[32, 105, 110, 32]⟩ : ByteArray)).size + t123.size ≤ 9223372036854775807
              · rw [if_pos c12] at H
                have c12b0 := eq_true c12
                have c12b1 : decide ((((((((⟨#[112, 105, 101, 99, 101, 32]⟩ : ByteArray) ++ t120) ++ (⟨#[32, 111, 102, 32]⟩ : ByteArray)) ++ t121) ++ (⟨#[32, 119, 105, 116, 104, 32]⟩ : ByteArray)) ++ t122) ++ (⟨#[32, 105, 110, 32]⟩ : ByteArray)).size + t123.size ≤ 9223372036854775807) = true := decide_eq_true c12
                try have c12b2 : (9223372036854775807 < (((((((⟨#[112, 105, 101, 99, 101, 32]⟩ : ByteArray) ++ t120) ++ (⟨#[32, 111, 102, 32]⟩ : ByteArray)) ++ t121) ++ (⟨#[32, 119, 105, 116, 104, 32]⟩ : ByteArray)) ++ t122) ++ (⟨#[32, 105, 110, 32]⟩ : ByteArray)).size + t123.size) = False := eq_false (Nat.not_lt.2 c12)
                try have c12b4 : (9223372036854775807 < 6 + t120.size + 4 + t121.size + 6 + t122.size + 4 + t123.size) = False := eq_false (Nat.not_lt.2 (by have h_ := c12; simp only [ByteArray.size_append, show (⟨#[112, 105, 101, 99, 101, 32]⟩ : ByteArray).size = 6 from rfl, show (⟨#[32, 111, 102, 32]⟩ : ByteArray).size = 4 from rfl, show (⟨#[32, 119, 105, 116, 104, 32]⟩ : ByteArray).size = 6 from rfl, show (⟨#[32, 105, 110, 32]⟩ : ByteArray).size = 4 from rfl] at h_; omega))
                by_cases c13 : ((((((((⟨#[112, 105, 101, 99, 101, 32]⟩ : ByteArray) ++ t120) ++ (⟨#[32, 111, 102, 32]⟩ : ByteArray)) ++ t121) ++ (⟨#[32, 119, 105, 116, 104, 32]⟩ : ByteArray)) ++ t122) ++ (⟨#[32, 105, 110, 32]⟩ : ByteArray)) ++ t123).size + 1 ≤ 9223372036854775807
                · rw [if_pos c13] at H
                  have c13b0 := eq_true c13
                  have c13b1 : decide (((((((((⟨#[112, 105, 101, 99, 101, 32]⟩ : ByteArray) ++ t120) ++ (⟨#[32, 111, 102, 32]⟩ : ByteArray)) ++ t121) ++ (⟨#[32, 119, 105, 116, 104, 32]⟩ : ByteArray)) ++ t122) ++ (⟨#[32, 105, 110, 32]⟩ : ByteArray)) ++ t123).size + 1 ≤ 9223372036854775807) = true := decide_eq_true c13
                  try have c13b2 : (9223372036854775807 < ((((((((⟨#[112, 105, 101, 99, 101, 32]⟩ : ByteArray) ++ t120) ++ (⟨#[32, 111, 102, 32]⟩ : ByteArray)) ++ t121) ++ (⟨#[32, 119, 105, 116, 104, 32]⟩ : ByteArray)) ++ t122) ++ (⟨#[32, 105, 110, 32]⟩ : ByteArray)) ++ t123).size + 1) = False := eq_false (Nat.not_lt.2 c13)
                  try have c13b4 : (9223372036854775807 < 6 + t120.size + 4 + t121.size + 6 + t122.size + 4 + t123.size + 1) = False := eq_false (Nat.not_lt.2 (by have h_ := c13; simp only [ByteArray.size_append, show (⟨#[112, 105, 101, 99, 101, 32]⟩ : ByteArray).size = 6 from rfl, show (⟨#[32, 111, 102, 32]⟩ : ByteArray).size = 4 from rfl, show (⟨#[32, 119, 105, 116, 104, 32]⟩ : ByteArray).size = 6 from rfl, show (⟨#[32, 105, 110, 32]⟩ : ByteArray).size = 4 from rfl] at h_; omega))
                  replace H := Option.bind_eq_some_iff.mp H
                  obtain ⟨t124, A140, H⟩ := H
                  replace H : ((spec_NumText.f k t124).bind fun t125 => (if (((((((((⟨#[112, 105, 101, 99, 101, 32]⟩ : ByteArray) ++ t120) ++ (⟨#[32, 111, 102, 32]⟩ : ByteArray)) ++ t121) ++ (⟨#[32, 119, 105, 116, 104, 32]⟩ : ByteArray)) ++ t122) ++ (⟨#[32, 105, 110, 32]⟩ : ByteArray)) ++ t123) ++ (⟨#[32]⟩ : ByteArray)).size + t125.size ≤ 9223372036854775807 then (if ((((((((((⟨#[112, 105, 101, 99, 101, 32]⟩ : ByteArray) ++ t120) ++ (⟨#[32, 111, 102, 32]⟩ : ByteArray)) ++ t121) ++ (⟨#[32, 119, 105, 116, 104, 32]⟩ : ByteArray)) ++ t122) ++ (⟨#[32, 105, 110, 32]⟩ : ByteArray)) ++ t123) ++ (⟨#[32]⟩ : ByteArray)) ++ t125).size + 1 ≤ 9223372036854775807 then ((spec_ToughOf.f a0_0 a0_1 a0_2 a0_3 a0_4 a0_5 a0_6 a0_7 a0_8 a0_9 a0_10 a0_11 a0_12).bind fun t126 => ((spec_NumText.f k t126).bind fun t127 => (if (((((((((((⟨#[112, 105, 101, 99, 101, 32]⟩ : ByteArray) ++ t120) ++ (⟨#[32, 111, 102, 32]⟩ : ByteArray)) ++ t121) ++ (⟨#[32, 119, 105, 116, 104, 32]⟩ : ByteArray)) ++ t122) ++ (⟨#[32, 105, 110, 32]⟩ : ByteArray)) ++ t123) ++ (⟨#[32]⟩ : ByteArray)) ++ t125) ++ (⟨#[47]⟩ : ByteArray)).size + t127.size ≤ 9223372036854775807 then (if a0_10 > 0 then (if ((((((((((((⟨#[112, 105, 101, 99, 101, 32]⟩ : ByteArray) ++ t120) ++ (⟨#[32, 111, 102, 32]⟩ : ByteArray)) ++ t121) ++ (⟨#[32, 119, 105, 116, 104, 32]⟩ : ByteArray)) ++ t122) ++ (⟨#[32, 105, 110, 32]⟩ : ByteArray)) ++ t123) ++ (⟨#[32]⟩ : ByteArray)) ++ t125) ++ (⟨#[47]⟩ : ByteArray)) ++ t127).size + 7 ≤ 9223372036854775807 then ((spec_NumText.f k a0_10).bind fun t128 => (if (((((((((((((⟨#[112, 105, 101, 99, 101, 32]⟩ : ByteArray) ++ t120) ++ (⟨#[32, 111, 102, 32]⟩ : ByteArray)) ++ t121) ++ (⟨#[32, 119, 105, 116, 104, 32]⟩ : ByteArray)) ++ t122) ++ (⟨#[32, 105, 110, 32]⟩ : ByteArray)) ++ t123) ++ (⟨#[32]⟩ : ByteArray)) ++ t125) ++ (⟨#[47]⟩ : ByteArray)) ++ t127) ++ (⟨#[32, 109, 97, 114, 107, 115, 32]⟩ : ByteArray)).size + t128.size ≤ 9223372036854775807 then (spec_PieceText.j0 k ((((((((((((((⟨#[112, 105, 101, 99, 101, 32]⟩ : ByteArray) ++ t120) ++ (⟨#[32, 111, 102, 32]⟩ : ByteArray)) ++ t121) ++ (⟨#[32, 119, 105, 116, 104, 32]⟩ : ByteArray)) ++ t122) ++ (⟨#[32, 105, 110, 32]⟩ : ByteArray)) ++ t123) ++ (⟨#[32]⟩ : ByteArray)) ++ t125) ++ (⟨#[47]⟩ : ByteArray)) ++ t127) ++ (⟨#[32, 109, 97, 114, 107, 115, 32]⟩ : ByteArray)) ++ t128) a0_0 a0_1 a0_2 a0_3 a0_4 a0_5 a0_6 a0_7 a0_8 a0_9 a0_10 a0_11 a0_12) else (none))) else (none)) else (spec_PieceText.j0 k ((((((((((((⟨#[112, 105, 101, 99, 101, 32]⟩ : ByteArray) ++ t120) ++ (⟨#[32, 111, 102, 32]⟩ : ByteArray)) ++ t121) ++ (⟨#[32, 119, 105, 116, 104, 32]⟩ : ByteArray)) ++ t122) ++ (⟨#[32, 105, 110, 32]⟩ : ByteArray)) ++ t123) ++ (⟨#[32]⟩ : ByteArray)) ++ t125) ++ (⟨#[47]⟩ : ByteArray)) ++ t127) a0_0 a0_1 a0_2 a0_3 a0_4 a0_5 a0_6 a0_7 a0_8 a0_9 a0_10 a0_11 a0_12)) else (none)))) else (none)) else (none))) = some r := H
                  have A14 := Aside0.mk A140
                  clear A140
                  replace H := Option.bind_eq_some_iff.mp H
                  obtain ⟨t125, A150, H⟩ := H
                  replace H : (if (((((((((⟨#[112, 105, 101, 99, 101, 32]⟩ : ByteArray) ++ t120) ++ (⟨#[32, 111, 102, 32]⟩ : ByteArray)) ++ t121) ++ (⟨#[32, 119, 105, 116, 104, 32]⟩ : ByteArray)) ++ t122) ++ (⟨#[32, 105, 110, 32]⟩ : ByteArray)) ++ t123) ++ (⟨#[32]⟩ : ByteArray)).size + t125.size ≤ 9223372036854775807 then (if ((((((((((⟨#[112, 105, 101, 99, 101, 32]⟩ : ByteArray) ++ t120) ++ (⟨#[32, 111, 102, 32]⟩ : ByteArray)) ++ t121) ++ (⟨#[32, 119, 105, 116, 104, 32]⟩ : ByteArray)) ++ t122) ++ (⟨#[32, 105, 110, 32]⟩ : ByteArray)) ++ t123) ++ (⟨#[32]⟩ : ByteArray)) ++ t125).size + 1 ≤ 9223372036854775807 then ((spec_ToughOf.f a0_0 a0_1 a0_2 a0_3 a0_4 a0_5 a0_6 a0_7 a0_8 a0_9 a0_10 a0_11 a0_12).bind fun t126 => ((spec_NumText.f k t126).bind fun t127 => (if (((((((((((⟨#[112, 105, 101, 99, 101, 32]⟩ : ByteArray) ++ t120) ++ (⟨#[32, 111, 102, 32]⟩ : ByteArray)) ++ t121) ++ (⟨#[32, 119, 105, 116, 104, 32]⟩ : ByteArray)) ++ t122) ++ (⟨#[32, 105, 110, 32]⟩ : ByteArray)) ++ t123) ++ (⟨#[32]⟩ : ByteArray)) ++ t125) ++ (⟨#[47]⟩ : ByteArray)).size + t127.size ≤ 9223372036854775807 then (if a0_10 > 0 then (if ((((((((((((⟨#[112, 105, 101, 99, 101, 32]⟩ : ByteArray) ++ t120) ++ (⟨#[32, 111, 102, 32]⟩ : ByteArray)) ++ t121) ++ (⟨#[32, 119, 105, 116, 104, 32]⟩ : ByteArray)) ++ t122) ++ (⟨#[32, 105, 110, 32]⟩ : ByteArray)) ++ t123) ++ (⟨#[32]⟩ : ByteArray)) ++ t125) ++ (⟨#[47]⟩ : ByteArray)) ++ t127).size + 7 ≤ 9223372036854775807 then ((spec_NumText.f k a0_10).bind fun t128 => (if (((((((((((((⟨#[112, 105, 101, 99, 101, 32]⟩ : ByteArray) ++ t120) ++ (⟨#[32, 111, 102, 32]⟩ : ByteArray)) ++ t121) ++ (⟨#[32, 119, 105, 116, 104, 32]⟩ : ByteArray)) ++ t122) ++ (⟨#[32, 105, 110, 32]⟩ : ByteArray)) ++ t123) ++ (⟨#[32]⟩ : ByteArray)) ++ t125) ++ (⟨#[47]⟩ : ByteArray)) ++ t127) ++ (⟨#[32, 109, 97, 114, 107, 115, 32]⟩ : ByteArray)).size + t128.size ≤ 9223372036854775807 then (spec_PieceText.j0 k ((((((((((((((⟨#[112, 105, 101, 99, 101, 32]⟩ : ByteArray) ++ t120) ++ (⟨#[32, 111, 102, 32]⟩ : ByteArray)) ++ t121) ++ (⟨#[32, 119, 105, 116, 104, 32]⟩ : ByteArray)) ++ t122) ++ (⟨#[32, 105, 110, 32]⟩ : ByteArray)) ++ t123) ++ (⟨#[32]⟩ : ByteArray)) ++ t125) ++ (⟨#[47]⟩ : ByteArray)) ++ t127) ++ (⟨#[32, 109, 97, 114, 107, 115, 32]⟩ : ByteArray)) ++ t128) a0_0 a0_1 a0_2 a0_3 a0_4 a0_5 a0_6 a0_7 a0_8 a0_9 a0_10 a0_11 a0_12) else (none))) else (none)) else (spec_PieceText.j0 k ((((((((((((⟨#[112, 105, 101, 99, 101, 32]⟩ : ByteArray) ++ t120) ++ (⟨#[32, 111, 102, 32]⟩ : ByteArray)) ++ t121) ++ (⟨#[32, 119, 105, 116, 104, 32]⟩ : ByteArray)) ++ t122) ++ (⟨#[32, 105, 110, 32]⟩ : ByteArray)) ++ t123) ++ (⟨#[32]⟩ : ByteArray)) ++ t125) ++ (⟨#[47]⟩ : ByteArray)) ++ t127) a0_0 a0_1 a0_2 a0_3 a0_4 a0_5 a0_6 a0_7 a0_8 a0_9 a0_10 a0_11 a0_12)) else (none)))) else (none)) else (none)) = some r := H
                  have A15 := Aside0.mk A150
                  clear A150
                  by_cases c16 : (((((((((⟨#[112, 105, 101, 99, 101, 32]⟩ : ByteArray) ++ t120) ++ (⟨#[32, 111, 102, 32]⟩ : ByteArray)) ++ t121) ++ (⟨#[32, 119, 105, 116, 104, 32]⟩ : ByteArray)) ++ t122) ++ (⟨#[32, 105, 110, 32]⟩ : ByteArray)) ++ t123) ++ (⟨#[32]⟩ : ByteArray)).size + t125.size ≤ 9223372036854775807
                  · rw [if_pos c16] at H
                    have c16b0 := eq_true c16
                    have c16b1 : decide ((((((((((⟨#[112, 105, 101, 99, 101, 32]⟩ : ByteArray) ++ t120) ++ (⟨#[32, 111, 102, 32]⟩ : ByteArray)) ++ t121) ++ (⟨#[32, 119, 105, 116, 104, 32]⟩ : ByteArray)) ++ t122) ++ (⟨#[32, 105, 110, 32]⟩ : ByteArray)) ++ t123) ++ (⟨#[32]⟩ : ByteArray)).size + t125.size ≤ 9223372036854775807) = true := decide_eq_true c16
                    try have c16b2 : (9223372036854775807 < (((((((((⟨#[112, 105, 101, 99, 101, 32]⟩ : ByteArray) ++ t120) ++ (⟨#[32, 111, 102, 32]⟩ : ByteArray)) ++ t121) ++ (⟨#[32, 119, 105, 116, 104, 32]⟩ : ByteArray)) ++ t122) ++ (⟨#[32, 105, 110, 32]⟩ : ByteArray)) ++ t123) ++ (⟨#[32]⟩ : ByteArray)).size + t125.size) = False := eq_false (Nat.not_lt.2 c16)
                    try have c16b4 : (9223372036854775807 < 6 + t120.size + 4 + t121.size + 6 + t122.size + 4 + t123.size + 1 + t125.size) = False := eq_false (Nat.not_lt.2 (by have h_ := c16; simp only [ByteArray.size_append, show (⟨#[112, 105, 101, 99, 101, 32]⟩ : ByteArray).size = 6 from rfl, show (⟨#[32, 111, 102, 32]⟩ : ByteArray).size = 4 from rfl, show (⟨#[32, 119, 105, 116, 104, 32]⟩ : ByteArray).size = 6 from rfl, show (⟨#[32, 105, 110, 32]⟩ : ByteArray).size = 4 from rfl, show (⟨#[32]⟩ : ByteArray).size = 1 from rfl] at h_; omega))
                    by_cases c17 : ((((((((((⟨#[112, 105, 101, 99, 101, 32]⟩ : ByteArray) ++ t120) ++ (⟨#[32, 111, 102, 32]⟩ : ByteArray)) ++ t121) ++ (⟨#[32, 119, 105, 116, 104, 32]⟩ : ByteArray)) ++ t122) ++ (⟨#[32, 105, 110, 32]⟩ : ByteArray)) ++ t123) ++ (⟨#[32]⟩ : ByteArray)) ++ t125).size + 1 ≤ 9223372036854775807
                    · rw [if_pos c17] at H
                      have c17b0 := eq_true c17
                      have c17b1 : decide (((((((((((⟨#[112, 105, 101, 99, 101, 32]⟩ : ByteArray) ++ t120) ++ (⟨#[32, 111, 102, 32]⟩ : ByteArray)) ++ t121) ++ (⟨#[32, 119, 105, 116, 104, 32]⟩ : ByteArray)) ++ t122) ++ (⟨#[32, 105, 110, 32]⟩ : ByteArray)) ++ t123) ++ (⟨#[32]⟩ : ByteArray)) ++ t125).size + 1 ≤ 9223372036854775807) = true := decide_eq_true c17
                      try have c17b2 : (9223372036854775807 < ((((((((((⟨#[112, 105, 101, 99, 101, 32]⟩ : ByteArray) ++ t120) ++ (⟨#[32, 111, 102, 32]⟩ : ByteArray)) ++ t121) ++ (⟨#[32, 119, 105, 116, 104, 32]⟩ : ByteArray)) ++ t122) ++ (⟨#[32, 105, 110, 32]⟩ : ByteArray)) ++ t123) ++ (⟨#[32]⟩ : ByteArray)) ++ t125).size + 1) = False := eq_false (Nat.not_lt.2 c17)
                      try have c17b4 : (9223372036854775807 < 6 + t120.size + 4 + t121.size + 6 + t122.size + 4 + t123.size + 1 + t125.size + 1) = False := eq_false (Nat.not_lt.2 (by have h_ := c17; simp only [ByteArray.size_append, show (⟨#[112, 105, 101, 99, 101, 32]⟩ : ByteArray).size = 6 from rfl, show (⟨#[32, 111, 102, 32]⟩ : ByteArray).size = 4 from rfl, show (⟨#[32, 119, 105, 116, 104, 32]⟩ : ByteArray).size = 6 from rfl, show (⟨#[32, 105, 110, 32]⟩ : ByteArray).size = 4 from rfl, show (⟨#[32]⟩ : ByteArray).size = 1 from rfl] at h_; omega))
                      replace H := Option.bind_eq_some_iff.mp H
                      obtain ⟨t126, A180, H⟩ := H
                      replace H : ((spec_NumText.f k t126).bind fun t127 => (if (((((((((((⟨#[112, 105, 101, 99, 101, 32]⟩ : ByteArray) ++ t120) ++ (⟨#[32, 111, 102, 32]⟩ : ByteArray)) ++ t121) ++ (⟨#[32, 119, 105, 116, 104, 32]⟩ : ByteArray)) ++ t122) ++ (⟨#[32, 105, 110, 32]⟩ : ByteArray)) ++ t123) ++ (⟨#[32]⟩ : ByteArray)) ++ t125) ++ (⟨#[47]⟩ : ByteArray)).size + t127.size ≤ 9223372036854775807 then (if a0_10 > 0 then (if ((((((((((((⟨#[112, 105, 101, 99, 101, 32]⟩ : ByteArray) ++ t120) ++ (⟨#[32, 111, 102, 32]⟩ : ByteArray)) ++ t121) ++ (⟨#[32, 119, 105, 116, 104, 32]⟩ : ByteArray)) ++ t122) ++ (⟨#[32, 105, 110, 32]⟩ : ByteArray)) ++ t123) ++ (⟨#[32]⟩ : ByteArray)) ++ t125) ++ (⟨#[47]⟩ : ByteArray)) ++ t127).size + 7 ≤ 9223372036854775807 then ((spec_NumText.f k a0_10).bind fun t128 => (if (((((((((((((⟨#[112, 105, 101, 99, 101, 32]⟩ : ByteArray) ++ t120) ++ (⟨#[32, 111, 102, 32]⟩ : ByteArray)) ++ t121) ++ (⟨#[32, 119, 105, 116, 104, 32]⟩ : ByteArray)) ++ t122) ++ (⟨#[32, 105, 110, 32]⟩ : ByteArray)) ++ t123) ++ (⟨#[32]⟩ : ByteArray)) ++ t125) ++ (⟨#[47]⟩ : ByteArray)) ++ t127) ++ (⟨#[32, 109, 97, 114, 107, 115, 32]⟩ : ByteArray)).size + t128.size ≤ 9223372036854775807 then (spec_PieceText.j0 k ((((((((((((((⟨#[112, 105, 101, 99, 101, 32]⟩ : ByteArray) ++ t120) ++ (⟨#[32, 111, 102, 32]⟩ : ByteArray)) ++ t121) ++ (⟨#[32, 119, 105, 116, 104, 32]⟩ : ByteArray)) ++ t122) ++ (⟨#[32, 105, 110, 32]⟩ : ByteArray)) ++ t123) ++ (⟨#[32]⟩ : ByteArray)) ++ t125) ++ (⟨#[47]⟩ : ByteArray)) ++ t127) ++ (⟨#[32, 109, 97, 114, 107, 115, 32]⟩ : ByteArray)) ++ t128) a0_0 a0_1 a0_2 a0_3 a0_4 a0_5 a0_6 a0_7 a0_8 a0_9 a0_10 a0_11 a0_12) else (none))) else (none)) else (spec_PieceText.j0 k ((((((((((((⟨#[112, 105, 101, 99, 101, 32]⟩ : ByteArray) ++ t120) ++ (⟨#[32, 111, 102, 32]⟩ : ByteArray)) ++ t121) ++ (⟨#[32, 119, 105, 116, 104, 32]⟩ : ByteArray)) ++ t122) ++ (⟨#[32, 105, 110, 32]⟩ : ByteArray)) ++ t123) ++ (⟨#[32]⟩ : ByteArray)) ++ t125) ++ (⟨#[47]⟩ : ByteArray)) ++ t127) a0_0 a0_1 a0_2 a0_3 a0_4 a0_5 a0_6 a0_7 a0_8 a0_9 a0_10 a0_11 a0_12)) else (none))) = some r := H
                      have A18 := Aside0.mk A180
                      clear A180
                      replace H := Option.bind_eq_some_iff.mp H
                      obtain ⟨t127, A190, H⟩ := H
                      replace H : (if (((((((((((⟨#[112, 105, 101, 99, 101, 32]⟩ : ByteArray) ++ t120) ++ (⟨#[32, 111, 102, 32]⟩ : ByteArray)) ++ t121) ++ (⟨#[32, 119, 105, 116, 104, 32]⟩ : ByteArray)) ++ t122) ++ (⟨#[32, 105, 110, 32]⟩ : ByteArray)) ++ t123) ++ (⟨#[32]⟩ : ByteArray)) ++ t125) ++ (⟨#[47]⟩ : ByteArray)).size + t127.size ≤ 9223372036854775807 then (if a0_10 > 0 then (if ((((((((((((⟨#[112, 105, 101, 99, 101, 32]⟩ : ByteArray) ++ t120) ++ (⟨#[32, 111, 102, 32]⟩ : ByteArray)) ++ t121) ++ (⟨#[32, 119, 105, 116, 104, 32]⟩ : ByteArray)) ++ t122) ++ (⟨#[32, 105, 110, 32]⟩ : ByteArray)) ++ t123) ++ (⟨#[32]⟩ : ByteArray)) ++ t125) ++ (⟨#[47]⟩ : ByteArray)) ++ t127).size + 7 ≤ 9223372036854775807 then ((spec_NumText.f k a0_10).bind fun t128 => (if (((((((((((((⟨#[112, 105, 101, 99, 101, 32]⟩ : ByteArray) ++ t120) ++ (⟨#[32, 111, 102, 32]⟩ : ByteArray)) ++ t121) ++ (⟨#[32, 119, 105, 116, 104, 32]⟩ : ByteArray)) ++ t122) ++ (⟨#[32, 105, 110, 32]⟩ : ByteArray)) ++ t123) ++ (⟨#[32]⟩ : ByteArray)) ++ t125) ++ (⟨#[47]⟩ : ByteArray)) ++ t127) ++ (⟨#[32, 109, 97, 114, 107, 115, 32]⟩ : ByteArray)).size + t128.size ≤ 9223372036854775807 then (spec_PieceText.j0 k ((((((((((((((⟨#[112, 105, 101, 99, 101, 32]⟩ : ByteArray) ++ t120) ++ (⟨#[32, 111, 102, 32]⟩ : ByteArray)) ++ t121) ++ (⟨#[32, 119, 105, 116, 104, 32]⟩ : ByteArray)) ++ t122) ++ (⟨#[32, 105, 110, 32]⟩ : ByteArray)) ++ t123) ++ (⟨#[32]⟩ : ByteArray)) ++ t125) ++ (⟨#[47]⟩ : ByteArray)) ++ t127) ++ (⟨#[32, 109, 97, 114, 107, 115, 32]⟩ : ByteArray)) ++ t128) a0_0 a0_1 a0_2 a0_3 a0_4 a0_5 a0_6 a0_7 a0_8 a0_9 a0_10 a0_11 a0_12) else (none))) else (none)) else (spec_PieceText.j0 k ((((((((((((⟨#[112, 105, 101, 99, 101, 32]⟩ : ByteArray) ++ t120) ++ (⟨#[32, 111, 102, 32]⟩ : ByteArray)) ++ t121) ++ (⟨#[32, 119, 105, 116, 104, 32]⟩ : ByteArray)) ++ t122) ++ (⟨#[32, 105, 110, 32]⟩ : ByteArray)) ++ t123) ++ (⟨#[32]⟩ : ByteArray)) ++ t125) ++ (⟨#[47]⟩ : ByteArray)) ++ t127) a0_0 a0_1 a0_2 a0_3 a0_4 a0_5 a0_6 a0_7 a0_8 a0_9 a0_10 a0_11 a0_12)) else (none)) = some r := H
                      have A19 := Aside0.mk A190
                      clear A190
                      by_cases c20 : (((((((((((⟨#[112, 105, 101, 99, 101, 32]⟩ : ByteArray) ++ t120) ++ (⟨#[32, 111, 102, 32]⟩ : ByteArray)) ++ t121) ++ (⟨#[32, 119, 105, 116, 104, 32]⟩ : ByteArray)) ++ t122) ++ (⟨#[32, 105, 110, 32]⟩ : ByteArray)) ++ t123) ++ (⟨#[32]⟩ : ByteArray)) ++ t125) ++ (⟨#[47]⟩ : ByteArray)).size + t127.size ≤ 9223372036854775807
                      · rw [if_pos c20] at H
                        have c20b0 := eq_true c20
                        have c20b1 : decide ((((((((((((⟨#[112, 105, 101, 99, 101, 32]⟩ : ByteArray) ++ t120) ++ (⟨#[32, 111, 102, 32]⟩ : ByteArray)) ++ t121) ++ (⟨#[32, 119, 105, 116, 104, 32]⟩ : ByteArray)) ++ t122) ++ (⟨#[32, 105, 110, 32]⟩ : ByteArray)) ++ t123) ++ (⟨#[32]⟩ : ByteArray)) ++ t125) ++ (⟨#[47]⟩ : ByteArray)).size + t127.size ≤ 9223372036854775807) = true := decide_eq_true c20
                        try have c20b2 : (9223372036854775807 < (((((((((((⟨#[112, 105, 101, 99, 101, 32]⟩ : ByteArray) ++ t120) ++ (⟨#[32, 111, 102, 32]⟩ : ByteArray)) ++ t121) ++ (⟨#[32, 119, 105, 116, 104, 32]⟩ : ByteArray)) ++ t122) ++ (⟨#[32, 105, 110, 32]⟩ : ByteArray)) ++ t123) ++ (⟨#[32]⟩ : ByteArray)) ++ t125) ++ (⟨#[47]⟩ : ByteArray)).size + t127.size) = False := eq_false (Nat.not_lt.2 c20)
                        try have c20b4 : (9223372036854775807 < 6 + t120.size + 4 + t121.size + 6 + t122.size + 4 + t123.size + 1 + t125.size + 1 + t127.size) = False := eq_false (Nat.not_lt.2 (by have h_ := c20; simp only [ByteArray.size_append, show (⟨#[112, 105, 101, 99, 101, 32]⟩ : ByteArray).size = 6 from rfl, show (⟨#[32, 111, 102, 32]⟩ : ByteArray).size = 4 from rfl, show (⟨#[32, 119, 105, 116, 104, 32]⟩ : ByteArray).size = 6 from rfl, show (⟨#[32, 105, 110, 32]⟩ : ByteArray).size = 4 from rfl, show (⟨#[32]⟩ : ByteArray).size = 1 from rfl, show (⟨#[47]⟩ : ByteArray).size = 1 from rfl] at h_; omega))
                        have HC21 := Aside0.mk H
                        clear H
                        go_enter Try.func28, Try.ntmps28
                        try go_wp2_with (first | ((with_reducible refine gate_dst (N := 1) rfl ?_); refine box_event ?hg (N := 1) ?hd (cs := #[.int .i64 a0_0, .int .i64 a0_1, .int .i64 a0_2, .int .i64 a0_3, .int .i64 a0_4, .int .i64 a0_5, .int .i64 a0_6, .int .i64 a0_7, .int .i64 a0_8, .int .i64 a0_9, .int .i64 a0_10, .bool a0_11, .bool a0_12]) (t := 38) ?hr ?_; (case hd => rfl); (case hg => rfl); (case hr => first | (go_simp; done) | (go_simp; rfl)); intro gb119 hg w22 hbox hb; have n0_ := Aside0.mk (below_step (by repeat (first | (with_reducible first | exact HB.out | apply below_alloc | apply pw_below_drewN | apply below_drew1) | exact HB.out)) hb); have n1_ := Aside0.mk (hbox); have n2_ := Aside0.mk ((by rw [hg]; exact (below_size (by repeat (first | (with_reducible first | exact HB.out | apply below_alloc | apply pw_below_drewN | apply below_drew1) | exact HB.out))) : w.heap.size ≤ gb119)); have n3_ := Aside0.mk ((by rw [hg]; exact (below_size (by repeat (first | (with_reducible first | exact HB.out | apply below_alloc | apply pw_below_drewN | apply below_drew1) | exact HB.out))) : w.heap.size ≤ gb119)); clear HB; have HB := n0_; have BK119 := n1_; have GW119 := n2_; have GE119 := n3_; clear n0_ n1_ n2_ n3_; clear hb hbox hg))
                        have n0_ := Aside0.mk (blk_drew BK119.out)
                        have n1_ := Aside0.mk (below_drew1 HB.out)
                        clear BK119
                        clear HB
                        have BK119 := n0_
                        have HB := n1_
                        clear n0_ n1_
                        refine start_ (n := 30) (S := fun w' => w'.cell? ⟨gb119, 0, none⟩ = some (.int .i64 a0_0) ∧ w'.cell? ⟨gb119, 1, none⟩ = some (.int .i64 a0_1) ∧ w'.cell? ⟨gb119, 2, none⟩ = some (.int .i64 a0_2) ∧ w'.cell? ⟨gb119, 3, none⟩ = some (.int .i64 a0_3) ∧ w'.cell? ⟨gb119, 4, none⟩ = some (.int .i64 a0_4) ∧ w'.cell? ⟨gb119, 5, none⟩ = some (.int .i64 a0_5) ∧ w'.cell? ⟨gb119, 6, none⟩ = some (.int .i64 a0_6) ∧ w'.cell? ⟨gb119, 7, none⟩ = some (.int .i64 a0_7) ∧ w'.cell? ⟨gb119, 8, none⟩ = some (.int .i64 a0_8) ∧ w'.cell? ⟨gb119, 9, none⟩ = some (.int .i64 a0_9) ∧ w'.cell? ⟨gb119, 10, none⟩ = some (.int .i64 a0_10) ∧ w'.cell? ⟨gb119, 11, none⟩ = some (.bool a0_11) ∧ w'.cell? ⟨gb119, 12, none⟩ = some (.bool a0_12)) (ds := []) #[false, false, false, false, false, false, false, false, false, false, false, false, false, false, false, false, false, false, false, false, false, false, false, false, false, false, false, false, false, false] (by kernel_rfl) rfl rfl ⟨(blk_cell BK119.out 0).trans rfl, (blk_cell BK119.out 1).trans rfl, (blk_cell BK119.out 2).trans rfl, (blk_cell BK119.out 3).trans rfl, (blk_cell BK119.out 4).trans rfl, (blk_cell BK119.out 5).trans rfl, (blk_cell BK119.out 6).trans rfl, (blk_cell BK119.out 7).trans rfl, (blk_cell BK119.out 8).trans rfl, (blk_cell BK119.out 9).trans rfl, (blk_cell BK119.out 10).trans rfl, (blk_cell BK119.out 11).trans rfl, (blk_cell BK119.out 12).trans rfl⟩ (fun hHeld => ?_); refine with_tabW spec_PieceText.tab1 spec_PieceText.bits1 (fun HT_ HW_ => ?_)
                        generalize w22.drew = w23 at BK119 HB hHeld ⊢
                        refine pure_ (i := 0) (N := some 4) (v := ?_) (a' := ?_) #[true, false, false, false, false, false, false, false, false, false, false, false, false, false, false, false, false, false, false, false, false, false, false, false, false, false, false, false, false, false] rfl rfl (any_of HT_.out (by kernel_rfl)) (fun _ _ _ h => h) (Or.inl ⟨by rfl, ?_⟩) ?_ ?_
                        rotate_left
                        · intro w'
                          go_simp
                          with_reducible rfl
                        rotate_left
                        · simp only [Act.put, List.setIfInBounds_toArray, List.set_cons_zero, List.set_cons_succ, i64_w, i32_w]
                          rfl
                        refine pure_ (i := 5) (N := some 9) (v := ?_) (a' := ?_) #[true, false, false, false, false, true, false, false, false, false, false, false, false, false, false, false, false, false, false, false, false, false, false, false, false, false, false, false, false, false] rfl rfl (any_of HT_.out (by kernel_rfl)) (fun _ _ _ h => h) (Or.inl ⟨by rfl, ?_⟩) ?_ ?_
                        rotate_left
                        · intro w'
                          go_simp
                          with_reducible rfl
                        rotate_left
                        · simp only [Act.put, List.setIfInBounds_toArray, List.set_cons_zero, List.set_cons_succ, i64_w, i32_w]
                          rfl
                        refine pure_ (i := 10) (N := some 14) (v := ?_) (a' := ?_) #[true, false, false, false, false, true, false, false, false, false, true, false, false, false, false, false, false, false, false, false, false, false, false, false, false, false, false, false, false, false] rfl rfl (any_of HT_.out (by kernel_rfl)) (fun _ _ _ h => h) (Or.inl ⟨by rfl, ?_⟩) ?_ ?_
                        rotate_left
                        · intro w'
                          go_simp
                          with_reducible rfl
                        rotate_left
                        · simp only [Act.put, List.setIfInBounds_toArray, List.set_cons_zero, List.set_cons_succ, i64_w, i32_w]
                          rfl
                        refine pure_ (i := 15) (N := some 19) (v := ?_) (a' := ?_) #[true, false, false, false, false, true, false, false, false, false, true, false, false, false, false, true, false, false, false, false, false, false, false, false, false, false, false, false, false, false] rfl rfl (any_of HT_.out (by kernel_rfl)) (fun _ _ _ h => h) (Or.inl ⟨by rfl, ?_⟩) ?_ ?_
                        rotate_left
                        · intro w'
                          go_simp
                          with_reducible rfl
                        rotate_left
                        · simp only [Act.put, List.setIfInBounds_toArray, List.set_cons_zero, List.set_cons_succ, i64_w, i32_w]
                          rfl
                        refine take_ (i := 1) (N := some 5) (v := ?_) (a' := ?_) #[true, true, false, false, false, true, false, false, false, false, true, false, false, false, false, true, false, false, false, false, false, false, false, false, false, false, false, false, false, false] rfl rfl (take_ofW HT_.out HW_.out (by kernel_rfl)) (fun _ _ _ h => h) (Or.inl ⟨by rfl, ?_⟩) hHeld ?_ ?_
                        rotate_left
                        · rintro w' ⟨s0, s1, s2, s3, s4, s5, s6, s7, s8, s9, s10, s11, s12⟩
                          go_simp
                          with_reducible rfl
                        rotate_left
                        · simp only [Act.put, List.setIfInBounds_toArray, List.set_cons_zero, List.set_cons_succ, i64_w, i32_w]
                          rfl
                        refine take_ (i := 6) (N := some 10) (v := ?_) (a' := ?_) #[true, true, false, false, false, true, true, false, false, false, true, false, false, false, false, true, false, false, false, false, false, false, false, false, false, false, false, false, false, false] rfl rfl (take_ofW HT_.out HW_.out (by kernel_rfl)) (fun _ _ _ h => h) (Or.inl ⟨by rfl, ?_⟩) hHeld ?_ ?_
                        rotate_left
                        · rintro w' ⟨s0, s1, s2, s3, s4, s5, s6, s7, s8, s9, s10, s11, s12⟩
                          go_simp
                          with_reducible rfl
                        rotate_left
                        · simp only [Act.put, List.setIfInBounds_toArray, List.set_cons_zero, List.set_cons_succ, i64_w, i32_w]
                          rfl
                        refine take_ (i := 11) (N := some 15) (v := ?_) (a' := ?_) #[true, true, false, false, false, true, true, false, false, false, true, true, false, false, false, true, false, false, false, false, false, false, false, false, false, false, false, false, false, false] rfl rfl (take_ofW HT_.out HW_.out (by kernel_rfl)) (fun _ _ _ h => h) (Or.inl ⟨by rfl, ?_⟩) hHeld ?_ ?_
                        rotate_left
                        · rintro w' ⟨s0, s1, s2, s3, s4, s5, s6, s7, s8, s9, s10, s11, s12⟩
                          go_simp
                          with_reducible rfl
                        rotate_left
                        · simp only [Act.put, List.setIfInBounds_toArray, List.set_cons_zero, List.set_cons_succ, i64_w, i32_w]
                          rfl
                        refine take_ (i := 16) (N := some 20) (v := ?_) (a' := ?_) #[true, true, false, false, false, true, true, false, false, false, true, true, false, false, false, true, true, false, false, false, false, false, false, false, false, false, false, false, false, false] rfl rfl (take_ofW HT_.out HW_.out (by kernel_rfl)) (fun _ _ _ h => h) (Or.inl ⟨by rfl, ?_⟩) hHeld ?_ ?_
                        rotate_left
                        · rintro w' ⟨s0, s1, s2, s3, s4, s5, s6, s7, s8, s9, s10, s11, s12⟩
                          go_simp
                          with_reducible rfl
                        rotate_left
                        · simp only [Act.put, List.setIfInBounds_toArray, List.set_cons_zero, List.set_cons_succ, i64_w, i32_w]
                          rfl
                        refine take_ (i := 20) (N := some 24) (v := ?_) (a' := ?_) #[true, true, false, false, false, true, true, false, false, false, true, true, false, false, false, true, true, false, false, false, true, false, false, false, false, false, false, false, false, false] rfl rfl (take_ofW HT_.out HW_.out (by kernel_rfl)) (fun _ _ _ h => h) (Or.inl ⟨by rfl, ?_⟩) hHeld ?_ ?_
                        rotate_left
                        · rintro w' ⟨s0, s1, s2, s3, s4, s5, s6, s7, s8, s9, s10, s11, s12⟩
                          go_simp
                          with_reducible rfl
                        rotate_left
                        · simp only [Act.put, List.setIfInBounds_toArray, List.set_cons_zero, List.set_cons_succ, i64_w, i32_w]
                          rfl
                        refine take_ (i := 25) (N := some 29) (v := ?_) (a' := ?_) #[true, true, false, false, false, true, true, false, false, false, true, true, false, false, false, true, true, false, false, false, true, false, false, false, false, true, false, false, false, false] rfl rfl (take_ofW HT_.out HW_.out (by kernel_rfl)) (fun _ _ _ h => h) (Or.inl ⟨by rfl, ?_⟩) hHeld ?_ ?_
                        rotate_left
                        · rintro w' ⟨s0, s1, s2, s3, s4, s5, s6, s7, s8, s9, s10, s11, s12⟩
                          go_simp
                          with_reducible rfl
                        rotate_left
                        · simp only [Act.put, List.setIfInBounds_toArray, List.set_cons_zero, List.set_cons_succ, i64_w, i32_w]
                          rfl
                        refine one_ (i := 2) (N := some 6) #[true, true, true, false, false, true, true, false, false, false, true, true, false, false, false, true, true, false, false, false, true, false, false, false, false, true, false, false, false, false] rfl rfl (one_of HT_.out (by kernel_rfl)) (by decide) (fun K hK => ?_)
                        refine goes_ Try.func67 (by kernel_rfl) rfl #[.int .i64 a0_0] (by rfl) rfl rfl (by (try simp only [List.map_toArray, List.map_cons, List.map_nil]); first | done | rfl | (simp only [List.length_drop, List.length_take]; rfl)) ?_
                        with_reducible refine (spec_NumText.calls k a0_0 t120 _ A2.out).mono ?_
                        rintro e w24 ⟨rfl, hb⟩
                        refine ⟨_, rfl, ?_⟩
                        have n0_ := Aside0.mk (blk_below (g := gb119) (o := .cells #[.int .i64 a0_0, .int .i64 a0_1, .int .i64 a0_2, .int .i64 a0_3, .int .i64 a0_4, .int .i64 a0_5, .int .i64 a0_6, .int .i64 a0_7, .int .i64 a0_8, .int .i64 a0_9, .int .i64 a0_10, .bool a0_11, .bool a0_12] 38 (0, 0)) (by (with_reducible repeat (first | refine blk_drewN ?_ _ | refine blk_drew ?_ | refine blk_alloc ?_ _)); exact BK119.out) hb)
                        have n1_ := Aside0.mk (below_step (by repeat (first | (with_reducible first | exact HB.out | apply below_alloc | apply pw_below_drewN | apply below_drew1 | refine below_set ?_ GE119.out) | exact HB.out)) hb)
                        clear BK119
                        clear HB
                        have BK119 := n0_
                        have HB := n1_
                        clear n0_ n1_
                        (try clear hb)
                        (try clear hb2)
                        (try clear hk)
                        (try clear hi)
                        refine hK.out _ _ ⟨(blk_cell BK119.out 0).trans rfl, (blk_cell BK119.out 1).trans rfl, (blk_cell BK119.out 2).trans rfl, (blk_cell BK119.out 3).trans rfl, (blk_cell BK119.out 4).trans rfl, (blk_cell BK119.out 5).trans rfl, (blk_cell BK119.out 6).trans rfl, (blk_cell BK119.out 7).trans rfl, (blk_cell BK119.out 8).trans rfl, (blk_cell BK119.out 9).trans rfl, (blk_cell BK119.out 10).trans rfl, (blk_cell BK119.out 11).trans rfl, (blk_cell BK119.out 12).trans rfl⟩ (fun hHeld => ?_)
                        clear hK K
                        refine norm_ (a' := ?_) ?_ ?_
                        rotate_left
                        · show Act.put _ (some 6) _ = _
                          simp only [Act.put, List.setIfInBounds_toArray, List.set_cons_zero, List.set_cons_succ, i64_w, i32_w]
                          rfl
                        refine pure_ (i := 3) (N := some 7) (v := ?_) (a' := ?_) #[true, true, true, true, false, true, true, false, false, false, true, true, false, false, false, true, true, false, false, false, true, false, false, false, false, true, false, false, false, false] rfl rfl (any_of HT_.out (by kernel_rfl)) (fun _ _ _ h => h) (Or.inl ⟨by rfl, ?_⟩) ?_ ?_
                        rotate_left
                        · intro w'
                          go_simp
                          with_reducible rfl
                        rotate_left
                        · simp only [Act.put, List.setIfInBounds_toArray, List.set_cons_zero, List.set_cons_succ, i64_w, i32_w]
                          rfl
                        refine pure_ (i := 4) (N := some 8) (v := ?_) (a' := ?_) #[true, true, true, true, true, true, true, false, false, false, true, true, false, false, false, true, true, false, false, false, true, false, false, false, false, true, false, false, false, false] rfl rfl (any_of HT_.out (by kernel_rfl)) (fun _ _ _ h => h) (Or.inl ⟨by rfl, ?_⟩) ?_ ?_
                        rotate_left
                        · intro w'
                          go_simp
                          with_reducible rfl
                        rotate_left
                        · simp only [Act.put, List.setIfInBounds_toArray, List.set_cons_zero, List.set_cons_succ, i64_w, i32_w]
                          rfl
                        refine one_ (i := 7) (N := some 11) #[true, true, true, true, true, true, true, true, false, false, true, true, false, false, false, true, true, false, false, false, true, false, false, false, false, true, false, false, false, false] rfl rfl (one_of HT_.out (by kernel_rfl)) (by decide) (fun K hK => ?_)
                        refine goes_ Try.func67 (by kernel_rfl) rfl #[.int .i64 a0_1] (by rfl) rfl rfl (by (try simp only [List.map_toArray, List.map_cons, List.map_nil]); first | done | rfl | (simp only [List.length_drop, List.length_take]; rfl)) ?_
                        with_reducible refine (spec_NumText.calls k a0_1 t121 _ A5.out).mono ?_
                        rintro e w25 ⟨rfl, hb⟩
                        refine ⟨_, rfl, ?_⟩
                        have n0_ := Aside0.mk (blk_below (g := gb119) (o := .cells #[.int .i64 a0_0, .int .i64 a0_1, .int .i64 a0_2, .int .i64 a0_3, .int .i64 a0_4, .int .i64 a0_5, .int .i64 a0_6, .int .i64 a0_7, .int .i64 a0_8, .int .i64 a0_9, .int .i64 a0_10, .bool a0_11, .bool a0_12] 38 (0, 0)) (by (with_reducible repeat (first | refine blk_drewN ?_ _ | refine blk_drew ?_ | refine blk_alloc ?_ _)); exact BK119.out) hb)
                        have n1_ := Aside0.mk (below_step (by repeat (first | (with_reducible first | exact HB.out | apply below_alloc | apply pw_below_drewN | apply below_drew1 | refine below_set ?_ GE119.out) | exact HB.out)) hb)
                        clear BK119
                        clear HB
                        have BK119 := n0_
                        have HB := n1_
                        clear n0_ n1_
                        (try clear hb)
                        (try clear hb2)
                        (try clear hk)
                        (try clear hi)
                        refine hK.out _ _ ⟨(blk_cell BK119.out 0).trans rfl, (blk_cell BK119.out 1).trans rfl, (blk_cell BK119.out 2).trans rfl, (blk_cell BK119.out 3).trans rfl, (blk_cell BK119.out 4).trans rfl, (blk_cell BK119.out 5).trans rfl, (blk_cell BK119.out 6).trans rfl, (blk_cell BK119.out 7).trans rfl, (blk_cell BK119.out 8).trans rfl, (blk_cell BK119.out 9).trans rfl, (blk_cell BK119.out 10).trans rfl, (blk_cell BK119.out 11).trans rfl, (blk_cell BK119.out 12).trans rfl⟩ (fun hHeld => ?_)
                        clear hK K
                        refine norm_ (a' := ?_) ?_ ?_
                        rotate_left
                        · show Act.put _ (some 11) _ = _
                          simp only [Act.put, List.setIfInBounds_toArray, List.set_cons_zero, List.set_cons_succ, i64_w, i32_w]
                          rfl
                        refine pure_ (i := 8) (N := some 12) (v := ?_) (a' := ?_) #[true, true, true, true, true, true, true, true, true, false, true, true, false, false, false, true, true, false, false, false, true, false, false, false, false, true, false, false, false, false] rfl rfl (any_of HT_.out (by kernel_rfl)) (fun _ _ _ h => h) (Or.inl ⟨by rfl, ?_⟩) ?_ ?_
                        rotate_left
                        · intro w'
                          go_simp
                          with_reducible rfl
                        rotate_left
                        · simp only [Act.put, List.setIfInBounds_toArray, List.set_cons_zero, List.set_cons_succ, i64_w, i32_w]
                          rfl
                        refine pure_ (i := 9) (N := some 13) (v := ?_) (a' := ?_) #[true, true, true, true, true, true, true, true, true, true, true, true, false, false, false, true, true, false, false, false, true, false, false, false, false, true, false, false, false, false] rfl rfl (any_of HT_.out (by kernel_rfl)) (fun _ _ _ h => h) (Or.inl ⟨by rfl, ?_⟩) ?_ ?_
                        rotate_left
                        · intro w'
                          go_simp
                          with_reducible rfl
                        rotate_left
                        · simp only [Act.put, List.setIfInBounds_toArray, List.set_cons_zero, List.set_cons_succ, i64_w, i32_w]
                          rfl
                        refine one_ (i := 12) (N := some 16) #[true, true, true, true, true, true, true, true, true, true, true, true, true, false, false, true, true, false, false, false, true, false, false, false, false, true, false, false, false, false] rfl rfl (one_of HT_.out (by kernel_rfl)) (by decide) (fun K hK => ?_)
                        refine goes_ Try.func67 (by kernel_rfl) rfl #[.int .i64 a0_2] (by rfl) rfl rfl (by (try simp only [List.map_toArray, List.map_cons, List.map_nil]); first | done | rfl | (simp only [List.length_drop, List.length_take]; rfl)) ?_
                        with_reducible refine (spec_NumText.calls k a0_2 t122 _ A8.out).mono ?_
                        rintro e w26 ⟨rfl, hb⟩
                        refine ⟨_, rfl, ?_⟩
                        have n0_ := Aside0.mk (blk_below (g := gb119) (o := .cells #[.int .i64 a0_0, .int .i64 a0_1, .int .i64 a0_2, .int .i64 a0_3, .int .i64 a0_4, .int .i64 a0_5, .int .i64 a0_6, .int .i64 a0_7, .int .i64 a0_8, .int .i64 a0_9, .int .i64 a0_10, .bool a0_11, .bool a0_12] 38 (0, 0)) (by (with_reducible repeat (first | refine blk_drewN ?_ _ | refine blk_drew ?_ | refine blk_alloc ?_ _)); exact BK119.out) hb)
                        have n1_ := Aside0.mk (below_step (by repeat (first | (with_reducible first | exact HB.out | apply below_alloc | apply pw_below_drewN | apply below_drew1 | refine below_set ?_ GE119.out) | exact HB.out)) hb)
                        clear BK119
                        clear HB
                        have BK119 := n0_
                        have HB := n1_
                        clear n0_ n1_
                        (try clear hb)
                        (try clear hb2)
                        (try clear hk)
                        (try clear hi)
                        refine hK.out _ _ ⟨(blk_cell BK119.out 0).trans rfl, (blk_cell BK119.out 1).trans rfl, (blk_cell BK119.out 2).trans rfl, (blk_cell BK119.out 3).trans rfl, (blk_cell BK119.out 4).trans rfl, (blk_cell BK119.out 5).trans rfl, (blk_cell BK119.out 6).trans rfl, (blk_cell BK119.out 7).trans rfl, (blk_cell BK119.out 8).trans rfl, (blk_cell BK119.out 9).trans rfl, (blk_cell BK119.out 10).trans rfl, (blk_cell BK119.out 11).trans rfl, (blk_cell BK119.out 12).trans rfl⟩ (fun hHeld => ?_)
                        clear hK K
                        refine norm_ (a' := ?_) ?_ ?_
                        rotate_left
                        · show Act.put _ (some 16) _ = _
                          simp only [Act.put, List.setIfInBounds_toArray, List.set_cons_zero, List.set_cons_succ, i64_w, i32_w]
                          rfl
                        refine pure_ (i := 13) (N := some 17) (v := ?_) (a' := ?_) #[true, true, true, true, true, true, true, true, true, true, true, true, true, true, false, true, true, false, false, false, true, false, false, false, false, true, false, false, false, false] rfl rfl (any_of HT_.out (by kernel_rfl)) (fun _ _ _ h => h) (Or.inl ⟨by rfl, ?_⟩) ?_ ?_
                        rotate_left
                        · intro w'
                          go_simp
                          with_reducible rfl
                        rotate_left
                        · simp only [Act.put, List.setIfInBounds_toArray, List.set_cons_zero, List.set_cons_succ, i64_w, i32_w]
                          rfl
                        refine pure_ (i := 14) (N := some 18) (v := ?_) (a' := ?_) #[true, true, true, true, true, true, true, true, true, true, true, true, true, true, true, true, true, false, false, false, true, false, false, false, false, true, false, false, false, false] rfl rfl (any_of HT_.out (by kernel_rfl)) (fun _ _ _ h => h) (Or.inl ⟨by rfl, ?_⟩) ?_ ?_
                        rotate_left
                        · intro w'
                          go_simp
                          with_reducible rfl
                        rotate_left
                        · simp only [Act.put, List.setIfInBounds_toArray, List.set_cons_zero, List.set_cons_succ, i64_w, i32_w]
                          rfl
                        refine one_ (i := 17) (N := some 21) #[true, true, true, true, true, true, true, true, true, true, true, true, true, true, true, true, true, true, false, false, true, false, false, false, false, true, false, false, false, false] rfl rfl (one_of HT_.out (by kernel_rfl)) (by decide) (fun K hK => ?_)
                        refine goes_ Try.func67 (by kernel_rfl) rfl #[.int .i64 a0_3] (by rfl) rfl rfl (by (try simp only [List.map_toArray, List.map_cons, List.map_nil]); first | done | rfl | (simp only [List.length_drop, List.length_take]; rfl)) ?_
                        with_reducible refine (spec_NumText.calls k a0_3 t123 _ A11.out).mono ?_
                        rintro e w27 ⟨rfl, hb⟩
                        refine ⟨_, rfl, ?_⟩
                        have n0_ := Aside0.mk (blk_below (g := gb119) (o := .cells #[.int .i64 a0_0, .int .i64 a0_1, .int .i64 a0_2, .int .i64 a0_3, .int .i64 a0_4, .int .i64 a0_5, .int .i64 a0_6, .int .i64 a0_7, .int .i64 a0_8, .int .i64 a0_9, .int .i64 a0_10, .bool a0_11, .bool a0_12] 38 (0, 0)) (by (with_reducible repeat (first | refine blk_drewN ?_ _ | refine blk_drew ?_ | refine blk_alloc ?_ _)); exact BK119.out) hb)
                        have n1_ := Aside0.mk (below_step (by repeat (first | (with_reducible first | exact HB.out | apply below_alloc | apply pw_below_drewN | apply below_drew1 | refine below_set ?_ GE119.out) | exact HB.out)) hb)
                        clear BK119
                        clear HB
                        have BK119 := n0_
                        have HB := n1_
                        clear n0_ n1_
                        (try clear hb)
                        (try clear hb2)
                        (try clear hk)
                        (try clear hi)
                        refine hK.out _ _ ⟨(blk_cell BK119.out 0).trans rfl, (blk_cell BK119.out 1).trans rfl, (blk_cell BK119.out 2).trans rfl, (blk_cell BK119.out 3).trans rfl, (blk_cell BK119.out 4).trans rfl, (blk_cell BK119.out 5).trans rfl, (blk_cell BK119.out 6).trans rfl, (blk_cell BK119.out 7).trans rfl, (blk_cell BK119.out 8).trans rfl, (blk_cell BK119.out 9).trans rfl, (blk_cell BK119.out 10).trans rfl, (blk_cell BK119.out 11).trans rfl, (blk_cell BK119.out 12).trans rfl⟩ (fun hHeld => ?_)
                        clear hK K
                        refine norm_ (a' := ?_) ?_ ?_
                        rotate_left
                        · show Act.put _ (some 21) _ = _
                          simp only [Act.put, List.setIfInBounds_toArray, List.set_cons_zero, List.set_cons_succ, i64_w, i32_w]
                          rfl
                        refine pure_ (i := 18) (N := some 22) (v := ?_) (a' := ?_) #[true, true, true, true, true, true, true, true, true, true, true, true, true, true, true, true, true, true, true, false, true, false, false, false, false, true, false, false, false, false] rfl rfl (any_of HT_.out (by kernel_rfl)) (fun _ _ _ h => h) (Or.inl ⟨by rfl, ?_⟩) ?_ ?_
                        rotate_left
                        · intro w'
                          go_simp
                          with_reducible rfl
                        rotate_left
                        · simp only [Act.put, List.setIfInBounds_toArray, List.set_cons_zero, List.set_cons_succ, i64_w, i32_w]
                          rfl
                        refine pure_ (i := 19) (N := some 23) (v := ?_) (a' := ?_) #[true, true, true, true, true, true, true, true, true, true, true, true, true, true, true, true, true, true, true, true, true, false, false, false, false, true, false, false, false, false] rfl rfl (any_of HT_.out (by kernel_rfl)) (fun _ _ _ h => h) (Or.inl ⟨by rfl, ?_⟩) ?_ ?_
                        rotate_left
                        · intro w'
                          go_simp
                          with_reducible rfl
                        rotate_left
                        · simp only [Act.put, List.setIfInBounds_toArray, List.set_cons_zero, List.set_cons_succ, i64_w, i32_w]
                          rfl
                        refine one_ (i := 21) (N := some 25) #[true, true, true, true, true, true, true, true, true, true, true, true, true, true, true, true, true, true, true, true, true, true, false, false, false, true, false, false, false, false] rfl rfl (one_of HT_.out (by kernel_rfl)) (by decide) (fun K hK => ?_)
                        refine goes_ Try.func69 (by kernel_rfl) rfl #[.agg #[.int .i64 a0_0, .int .i64 a0_1, .int .i64 a0_2, .int .i64 a0_3, .int .i64 a0_4, .int .i64 a0_5, .int .i64 a0_6, .int .i64 a0_7, .int .i64 a0_8, .int .i64 a0_9, .int .i64 a0_10, .bool a0_11, .bool a0_12]] (by rfl) rfl rfl (by (try simp only [List.map_toArray, List.map_cons, List.map_nil]); first | done | rfl | (simp only [List.length_drop, List.length_take]; rfl)) ?_
                        with_reducible refine (spec_PowerOf.calls a0_0 a0_1 a0_2 a0_3 a0_4 a0_5 a0_6 a0_7 a0_8 a0_9 a0_10 a0_11 a0_12 t124 _ A14.out).mono ?_
                        rintro e w28 ⟨rfl, hb⟩
                        refine ⟨_, rfl, ?_⟩
                        have n0_ := Aside0.mk (blk_below (g := gb119) (o := .cells #[.int .i64 a0_0, .int .i64 a0_1, .int .i64 a0_2, .int .i64 a0_3, .int .i64 a0_4, .int .i64 a0_5, .int .i64 a0_6, .int .i64 a0_7, .int .i64 a0_8, .int .i64 a0_9, .int .i64 a0_10, .bool a0_11, .bool a0_12] 38 (0, 0)) (by (with_reducible repeat (first | refine blk_drewN ?_ _ | refine blk_drew ?_ | refine blk_alloc ?_ _)); exact BK119.out) hb)
                        have n1_ := Aside0.mk (below_step (by repeat (first | (with_reducible first | exact HB.out | apply below_alloc | apply pw_below_drewN | apply below_drew1 | refine below_set ?_ GE119.out) | exact HB.out)) hb)
                        clear BK119
                        clear HB
                        have BK119 := n0_
                        have HB := n1_
                        clear n0_ n1_
                        (try clear hb)
                        (try clear hb2)
                        (try clear hk)
                        (try clear hi)
                        refine hK.out _ _ ⟨(blk_cell BK119.out 0).trans rfl, (blk_cell BK119.out 1).trans rfl, (blk_cell BK119.out 2).trans rfl, (blk_cell BK119.out 3).trans rfl, (blk_cell BK119.out 4).trans rfl, (blk_cell BK119.out 5).trans rfl, (blk_cell BK119.out 6).trans rfl, (blk_cell BK119.out 7).trans rfl, (blk_cell BK119.out 8).trans rfl, (blk_cell BK119.out 9).trans rfl, (blk_cell BK119.out 10).trans rfl, (blk_cell BK119.out 11).trans rfl, (blk_cell BK119.out 12).trans rfl⟩ (fun hHeld => ?_)
                        clear hK K
                        refine norm_ (a' := ?_) ?_ ?_
                        rotate_left
                        · show Act.put _ (some 25) _ = _
                          simp only [Act.put, List.setIfInBounds_toArray, List.set_cons_zero, List.set_cons_succ, i64_w, i32_w]
                          rfl
                        refine one_ (i := 22) (N := some 26) #[true, true, true, true, true, true, true, true, true, true, true, true, true, true, true, true, true, true, true, true, true, true, true, false, false, true, false, false, false, false] rfl rfl (one_of HT_.out (by kernel_rfl)) (by decide) (fun K hK => ?_)
                        refine goes_ Try.func67 (by kernel_rfl) rfl #[.int .i64 t124] (by rfl) rfl rfl (by (try simp only [List.map_toArray, List.map_cons, List.map_nil]); first | done | rfl | (simp only [List.length_drop, List.length_take]; rfl)) ?_
                        with_reducible refine (spec_NumText.calls k t124 t125 _ A15.out).mono ?_
                        rintro e w29 ⟨rfl, hb⟩
                        refine ⟨_, rfl, ?_⟩
                        have n0_ := Aside0.mk (blk_below (g := gb119) (o := .cells #[.int .i64 a0_0, .int .i64 a0_1, .int .i64 a0_2, .int .i64 a0_3, .int .i64 a0_4, .int .i64 a0_5, .int .i64 a0_6, .int .i64 a0_7, .int .i64 a0_8, .int .i64 a0_9, .int .i64 a0_10, .bool a0_11, .bool a0_12] 38 (0, 0)) (by (with_reducible repeat (first | refine blk_drewN ?_ _ | refine blk_drew ?_ | refine blk_alloc ?_ _)); exact BK119.out) hb)
                        have n1_ := Aside0.mk (below_step (by repeat (first | (with_reducible first | exact HB.out | apply below_alloc | apply pw_below_drewN | apply below_drew1 | refine below_set ?_ GE119.out) | exact HB.out)) hb)
                        clear BK119
                        clear HB
                        have BK119 := n0_
                        have HB := n1_
                        clear n0_ n1_
                        (try clear hb)
                        (try clear hb2)
                        (try clear hk)
                        (try clear hi)
                        refine hK.out _ _ ⟨(blk_cell BK119.out 0).trans rfl, (blk_cell BK119.out 1).trans rfl, (blk_cell BK119.out 2).trans rfl, (blk_cell BK119.out 3).trans rfl, (blk_cell BK119.out 4).trans rfl, (blk_cell BK119.out 5).trans rfl, (blk_cell BK119.out 6).trans rfl, (blk_cell BK119.out 7).trans rfl, (blk_cell BK119.out 8).trans rfl, (blk_cell BK119.out 9).trans rfl, (blk_cell BK119.out 10).trans rfl, (blk_cell BK119.out 11).trans rfl, (blk_cell BK119.out 12).trans rfl⟩ (fun hHeld => ?_)
                        clear hK K
                        refine norm_ (a' := ?_) ?_ ?_
                        rotate_left
                        · show Act.put _ (some 26) _ = _
                          simp only [Act.put, List.setIfInBounds_toArray, List.set_cons_zero, List.set_cons_succ, i64_w, i32_w]
                          rfl
                        refine pure_ (i := 23) (N := some 27) (v := ?_) (a' := ?_) #[true, true, true, true, true, true, true, true, true, true, true, true, true, true, true, true, true, true, true, true, true, true, true, true, false, true, false, false, false, false] rfl rfl (any_of HT_.out (by kernel_rfl)) (fun _ _ _ h => h) (Or.inl ⟨by rfl, ?_⟩) ?_ ?_
                        rotate_left
                        · intro w'
                          go_simp
                          with_reducible rfl
                        rotate_left
                        · simp only [Act.put, List.setIfInBounds_toArray, List.set_cons_zero, List.set_cons_succ, i64_w, i32_w]
                          rfl
                        refine pure_ (i := 24) (N := some 28) (v := ?_) (a' := ?_) #[true, true, true, true, true, true, true, true, true, true, true, true, true, true, true, true, true, true, true, true, true, true, true, true, true, true, false, false, false, false] rfl rfl (any_of HT_.out (by kernel_rfl)) (fun _ _ _ h => h) (Or.inl ⟨by rfl, ?_⟩) ?_ ?_
                        rotate_left
                        · intro w'
                          go_simp
                          with_reducible rfl
                        rotate_left
                        · simp only [Act.put, List.setIfInBounds_toArray, List.set_cons_zero, List.set_cons_succ, i64_w, i32_w]
                          rfl
                        refine one_ (i := 26) (N := some 30) #[true, true, true, true, true, true, true, true, true, true, true, true, true, true, true, true, true, true, true, true, true, true, true, true, true, true, true, false, false, false] rfl rfl (one_of HT_.out (by kernel_rfl)) (by decide) (fun K hK => ?_)
                        refine goes_ Try.func70 (by kernel_rfl) rfl #[.agg #[.int .i64 a0_0, .int .i64 a0_1, .int .i64 a0_2, .int .i64 a0_3, .int .i64 a0_4, .int .i64 a0_5, .int .i64 a0_6, .int .i64 a0_7, .int .i64 a0_8, .int .i64 a0_9, .int .i64 a0_10, .bool a0_11, .bool a0_12]] (by rfl) rfl rfl (by (try simp only [List.map_toArray, List.map_cons, List.map_nil]); first | done | rfl | (simp only [List.length_drop, List.length_take]; rfl)) ?_
                        with_reducible refine (spec_ToughOf.calls a0_0 a0_1 a0_2 a0_3 a0_4 a0_5 a0_6 a0_7 a0_8 a0_9 a0_10 a0_11 a0_12 t126 _ A18.out).mono ?_
                        rintro e w30 ⟨rfl, hb⟩
                        refine ⟨_, rfl, ?_⟩
                        have n0_ := Aside0.mk (blk_below (g := gb119) (o := .cells #[.int .i64 a0_0, .int .i64 a0_1, .int .i64 a0_2, .int .i64 a0_3, .int .i64 a0_4, .int .i64 a0_5, .int .i64 a0_6, .int .i64 a0_7, .int .i64 a0_8, .int .i64 a0_9, .int .i64 a0_10, .bool a0_11, .bool a0_12] 38 (0, 0)) (by (with_reducible repeat (first | refine blk_drewN ?_ _ | refine blk_drew ?_ | refine blk_alloc ?_ _)); exact BK119.out) hb)
                        have n1_ := Aside0.mk (below_step (by repeat (first | (with_reducible first | exact HB.out | apply below_alloc | apply pw_below_drewN | apply below_drew1 | refine below_set ?_ GE119.out) | exact HB.out)) hb)
                        clear BK119
                        clear HB
                        have BK119 := n0_
                        have HB := n1_
                        clear n0_ n1_
                        (try clear hb)
                        (try clear hb2)
                        (try clear hk)
                        (try clear hi)
                        refine hK.out _ _ ⟨(blk_cell BK119.out 0).trans rfl, (blk_cell BK119.out 1).trans rfl, (blk_cell BK119.out 2).trans rfl, (blk_cell BK119.out 3).trans rfl, (blk_cell BK119.out 4).trans rfl, (blk_cell BK119.out 5).trans rfl, (blk_cell BK119.out 6).trans rfl, (blk_cell BK119.out 7).trans rfl, (blk_cell BK119.out 8).trans rfl, (blk_cell BK119.out 9).trans rfl, (blk_cell BK119.out 10).trans rfl, (blk_cell BK119.out 11).trans rfl, (blk_cell BK119.out 12).trans rfl⟩ (fun hHeld => ?_)
                        clear hK K
                        refine norm_ (a' := ?_) ?_ ?_
                        rotate_left
                        · show Act.put _ (some 30) _ = _
                          simp only [Act.put, List.setIfInBounds_toArray, List.set_cons_zero, List.set_cons_succ, i64_w, i32_w]
                          rfl
                        refine one_ (i := 27) (N := some 31) #[true, true, true, true, true, true, true, true, true, true, true, true, true, true, true, true, true, true, true, true, true, true, true, true, true, true, true, true, false, false] rfl rfl (one_of HT_.out (by kernel_rfl)) (by decide) (fun K hK => ?_)
                        refine goes_ Try.func67 (by kernel_rfl) rfl #[.int .i64 t126] (by rfl) rfl rfl (by (try simp only [List.map_toArray, List.map_cons, List.map_nil]); first | done | rfl | (simp only [List.length_drop, List.length_take]; rfl)) ?_
                        with_reducible refine (spec_NumText.calls k t126 t127 _ A19.out).mono ?_
                        rintro e w31 ⟨rfl, hb⟩
                        refine ⟨_, rfl, ?_⟩
                        have n0_ := Aside0.mk (blk_below (g := gb119) (o := .cells #[.int .i64 a0_0, .int .i64 a0_1, .int .i64 a0_2, .int .i64 a0_3, .int .i64 a0_4, .int .i64 a0_5, .int .i64 a0_6, .int .i64 a0_7, .int .i64 a0_8, .int .i64 a0_9, .int .i64 a0_10, .bool a0_11, .bool a0_12] 38 (0, 0)) (by (with_reducible repeat (first | refine blk_drewN ?_ _ | refine blk_drew ?_ | refine blk_alloc ?_ _)); exact BK119.out) hb)
                        have n1_ := Aside0.mk (below_step (by repeat (first | (with_reducible first | exact HB.out | apply below_alloc | apply pw_below_drewN | apply below_drew1 | refine below_set ?_ GE119.out) | exact HB.out)) hb)
                        clear BK119
                        clear HB
                        have BK119 := n0_
                        have HB := n1_
                        clear n0_ n1_
                        (try clear hb)
                        (try clear hb2)
                        (try clear hk)
                        (try clear hi)
                        refine hK.out _ _ ⟨(blk_cell BK119.out 0).trans rfl, (blk_cell BK119.out 1).trans rfl, (blk_cell BK119.out 2).trans rfl, (blk_cell BK119.out 3).trans rfl, (blk_cell BK119.out 4).trans rfl, (blk_cell BK119.out 5).trans rfl, (blk_cell BK119.out 6).trans rfl, (blk_cell BK119.out 7).trans rfl, (blk_cell BK119.out 8).trans rfl, (blk_cell BK119.out 9).trans rfl, (blk_cell BK119.out 10).trans rfl, (blk_cell BK119.out 11).trans rfl, (blk_cell BK119.out 12).trans rfl⟩ (fun hHeld => ?_)
                        clear hK K
                        refine norm_ (a' := ?_) ?_ ?_
                        rotate_left
                        · show Act.put _ (some 31) _ = _
                          simp only [Act.put, List.setIfInBounds_toArray, List.set_cons_zero, List.set_cons_succ, i64_w, i32_w]
                          rfl
                        refine pure_ (i := 28) (N := some 32) (v := ?_) (a' := ?_) #[true, true, true, true, true, true, true, true, true, true, true, true, true, true, true, true, true, true, true, true, true, true, true, true, true, true, true, true, true, false] rfl rfl (any_of HT_.out (by kernel_rfl)) (fun _ _ _ h => h) (Or.inl ⟨by rfl, ?_⟩) ?_ ?_
                        rotate_left
                        · intro w'
                          go_simp
                          with_reducible rfl
                        rotate_left
                        · simp only [Act.put, List.setIfInBounds_toArray, List.set_cons_zero, List.set_cons_succ, i64_w, i32_w]
                          rfl
                        refine pure_ (i := 29) (N := some 3) (v := ?_) (a' := ?_) #[true, true, true, true, true, true, true, true, true, true, true, true, true, true, true, true, true, true, true, true, true, true, true, true, true, true, true, true, true, true] rfl rfl (any_of HT_.out (by kernel_rfl)) (fun _ _ _ h => h) (Or.inl ⟨by rfl, ?_⟩) ?_ ?_
                        rotate_left
                        · intro w'
                          go_simp
                          with_reducible rfl
                        rotate_left
                        · simp only [Act.put, List.setIfInBounds_toArray, List.set_cons_zero, List.set_cons_succ, i64_w, i32_w]
                          rfl
                        refine done_ (done_of HT_.out (by kernel_rfl)) ?_
                        have hcz32_0 : w31.cell? ⟨gb119, 0, none⟩ = some (.int .i64 a0_0) := (blk_cell BK119.out 0).trans rfl
                        have hcz32_1 : w31.cell? ⟨gb119, 1, none⟩ = some (.int .i64 a0_1) := (blk_cell BK119.out 1).trans rfl
                        have hcz32_2 : w31.cell? ⟨gb119, 2, none⟩ = some (.int .i64 a0_2) := (blk_cell BK119.out 2).trans rfl
                        have hcz32_3 : w31.cell? ⟨gb119, 3, none⟩ = some (.int .i64 a0_3) := (blk_cell BK119.out 3).trans rfl
                        have hcz32_4 : w31.cell? ⟨gb119, 4, none⟩ = some (.int .i64 a0_4) := (blk_cell BK119.out 4).trans rfl
                        have hcz32_5 : w31.cell? ⟨gb119, 5, none⟩ = some (.int .i64 a0_5) := (blk_cell BK119.out 5).trans rfl
                        have hcz32_6 : w31.cell? ⟨gb119, 6, none⟩ = some (.int .i64 a0_6) := (blk_cell BK119.out 6).trans rfl
                        have hcz32_7 : w31.cell? ⟨gb119, 7, none⟩ = some (.int .i64 a0_7) := (blk_cell BK119.out 7).trans rfl
                        have hcz32_8 : w31.cell? ⟨gb119, 8, none⟩ = some (.int .i64 a0_8) := (blk_cell BK119.out 8).trans rfl
                        have hcz32_9 : w31.cell? ⟨gb119, 9, none⟩ = some (.int .i64 a0_9) := (blk_cell BK119.out 9).trans rfl
                        have hcz32_10 : w31.cell? ⟨gb119, 10, none⟩ = some (.int .i64 a0_10) := (blk_cell BK119.out 10).trans rfl
                        have hcz32_11 : w31.cell? ⟨gb119, 11, none⟩ = some (.bool a0_11) := (blk_cell BK119.out 11).trans rfl
                        have hcz32_12 : w31.cell? ⟨gb119, 12, none⟩ = some (.bool a0_12) := (blk_cell BK119.out 12).trans rfl
                        have hfz32_0 := blk_frozen BK119.out 0
                        have hfz32_1 := blk_frozen BK119.out 1
                        have hfz32_2 := blk_frozen BK119.out 2
                        have hfz32_3 := blk_frozen BK119.out 3
                        have hfz32_4 := blk_frozen BK119.out 4
                        have hfz32_5 := blk_frozen BK119.out 5
                        have hfz32_6 := blk_frozen BK119.out 6
                        have hfz32_7 := blk_frozen BK119.out 7
                        have hfz32_8 := blk_frozen BK119.out 8
                        have hfz32_9 := blk_frozen BK119.out 9
                        have hfz32_10 := blk_frozen BK119.out 10
                        have hfz32_11 := blk_frozen BK119.out 11
                        have hfz32_12 := blk_frozen BK119.out 12
                        go_upto_if 35 with (fail)
                        go_cut [3] (fun v3 wc => ∃ (kq : Nat) (x3_20 : ByteArray), v3 = .string x3_20 ∧ Aside0 (spec_PieceText.j0 kq x3_20 a0_0 a0_1 a0_2 a0_3 a0_4 a0_5 a0_6 a0_7 a0_8 a0_9 a0_10 a0_11 a0_12 = some r) ∧ Aside0 (kq ≤ k) ∧ Aside0 (wc.heap[gb119]? = some (.cells #[.int .i64 a0_0, .int .i64 a0_1, .int .i64 a0_2, .int .i64 a0_3, .int .i64 a0_4, .int .i64 a0_5, .int .i64 a0_6, .int .i64 a0_7, .int .i64 a0_8, .int .i64 a0_9, .int .i64 a0_10, .bool a0_11, .bool a0_12] 38 (0, 0))) ∧ Aside0 (Below w.heap.size w wc))
                        case first =>
                          have H := HC21.out
                          clear HC21
                          by_cases c33 : a0_10 > 0
                          · rw [if_pos c33] at H
                            have c33b0 : decide (0 < a0_10) = true := decide_eq_true c33
                            clear c33
                            (first | rw [c33b0] | (simp only [i64_w, i32_w]; rw [c33b0]) | skip)
                            by_cases c34 : ((((((((((((⟨#[112, 105, 101, 99, 101, 32]⟩ : ByteArray) ++ t120) ++ (⟨#[32, 111, 102, 32]⟩ : ByteArray)) ++ t121) ++ (⟨#[32, 119, 105, 116, 104, 32]⟩ : ByteArray)) ++ t122) ++ (⟨#[32, 105, 110, 32]⟩ : ByteArray)) ++ t123) ++ (⟨#[32]⟩ : ByteArray)) ++ t125) ++ (⟨#[47]⟩ : ByteArray)) ++ t127).size + 7 ≤ 9223372036854775807
                            · rw [if_pos c34] at H
                              have c34b0 := eq_true c34
                              have c34b1 : decide (((((((((((((⟨#[112, 105, 101, 99, 101, 32]⟩ : ByteArray) ++ t120) ++ (⟨#[32, 111, 102, 32]⟩ : ByteArray)) ++ t121) ++ (⟨#[32, 119, 105, 116, 104, 32]⟩ : ByteArray)) ++ t122) ++ (⟨#[32, 105, 110, 32]⟩ : ByteArray)) ++ t123) ++ (⟨#[32]⟩ : ByteArray)) ++ t125) ++ (⟨#[47]⟩ : ByteArray)) ++ t127).size + 7 ≤ 9223372036854775807) = true := decide_eq_true c34
                              try have c34b2 : (9223372036854775807 < ((((((((((((⟨#[112, 105, 101, 99, 101, 32]⟩ : ByteArray) ++ t120) ++ (⟨#[32, 111, 102, 32]⟩ : ByteArray)) ++ t121) ++ (⟨#[32, 119, 105, 116, 104, 32]⟩ : ByteArray)) ++ t122) ++ (⟨#[32, 105, 110, 32]⟩ : ByteArray)) ++ t123) ++ (⟨#[32]⟩ : ByteArray)) ++ t125) ++ (⟨#[47]⟩ : ByteArray)) ++ t127).size + 7) = False := eq_false (Nat.not_lt.2 c34)
                              try have c34b4 : (9223372036854775807 < 6 + t120.size + 4 + t121.size + 6 + t122.size + 4 + t123.size + 1 + t125.size + 1 + t127.size + 7) = False := eq_false (Nat.not_lt.2 (by have h_ := c34; simp only [ByteArray.size_append, show (⟨#[112, 105, 101, 99, 101, 32]⟩ : ByteArray).size = 6 from rfl, show (⟨#[32, 111, 102, 32]⟩ : ByteArray).size = 4 from rfl, show (⟨#[32, 119, 105, 116, 104, 32]⟩ : ByteArray).size = 6 from rfl, show (⟨#[32, 105, 110, 32]⟩ : ByteArray).size = 4 from rfl, show (⟨#[32]⟩ : ByteArray).size = 1 from rfl, show (⟨#[47]⟩ : ByteArray).size = 1 from rfl] at h_; omega))
                              replace H := Option.bind_eq_some_iff.mp H
                              obtain ⟨t128, A350, H⟩ := H
                              replace H : (if (((((((((((((⟨#[112, 105, 101, 99, 101, 32]⟩ : ByteArray) ++ t120) ++ (⟨#[32, 111, 102, 32]⟩ : ByteArray)) ++ t121) ++ (⟨#[32, 119, 105, 116, 104, 32]⟩ : ByteArray)) ++ t122) ++ (⟨#[32, 105, 110, 32]⟩ : ByteArray)) ++ t123) ++ (⟨#[32]⟩ : ByteArray)) ++ t125) ++ (⟨#[47]⟩ : ByteArray)) ++ t127) ++ (⟨#[32, 109, 97, 114, 107, 115, 32]⟩ : ByteArray)).size + t128.size ≤ 9223372036854775807 then (spec_PieceText.j0 k ((((((((((((((⟨#[112, 105, 101, 99, 101, 32]⟩ : ByteArray) ++ t120) ++ (⟨#[32, 111, 102, 32]⟩ : ByteArray)) ++ t121) ++ (⟨#[32, 119, 105, 116, 104, 32]⟩ : ByteArray)) ++ t122) ++ (⟨#[32, 105, 110, 32]⟩ : ByteArray)) ++ t123) ++ (⟨#[32]⟩ : ByteArray)) ++ t125) ++ (⟨#[47]⟩ : ByteArray)) ++ t127) ++ (⟨#[32, 109, 97, 114, 107, 115, 32]⟩ : ByteArray)) ++ t128) a0_0 a0_1 a0_2 a0_3 a0_4 a0_5 a0_6 a0_7 a0_8 a0_9 a0_10 a0_11 a0_12) else (none)) = some r := H
                              have A35 := Aside0.mk A350
                              clear A350
                              by_cases c36 : (((((((((((((⟨#[112, 105, 101, 99, 101, 32]⟩ : ByteArray) ++ t120) ++ (⟨#[32, 111, 102, 32]⟩ : ByteArray)) ++ t121) ++ (⟨#[32, 119, 105, 116, 104, 32]⟩ : ByteArray)) ++ t122) ++ (⟨#[32, 105, 110, 32]⟩ : ByteArray)) ++ t123) ++ (⟨#[32]⟩ : ByteArray)) ++ t125) ++ (⟨#[47]⟩ : ByteArray)) ++ t127) ++ (⟨#[32, 109, 97, 114, 107, 115, 32]⟩ : ByteArray)).size + t128.size ≤ 9223372036854775807
                              · rw [if_pos c36] at H
                                have c36b0 := eq_true c36
                                have c36b1 : decide ((((((((((((((⟨#[112, 105, 101, 99, 101, 32]⟩ : ByteArray) ++ t120) ++ (⟨#[32, 111, 102, 32]⟩ : ByteArray)) ++ t121) ++ (⟨#[32, 119, 105, 116, 104, 32]⟩ : ByteArray)) ++ t122) ++ (⟨#[32, 105, 110, 32]⟩ : ByteArray)) ++ t123) ++ (⟨#[32]⟩ : ByteArray)) ++ t125) ++ (⟨#[47]⟩ : ByteArray)) ++ t127) ++ (⟨#[32, 109, 97, 114, 107, 115, 32]⟩ : ByteArray)).size + t128.size ≤ 9223372036854775807) = true := decide_eq_true c36
                                try have c36b2 : (9223372036854775807 < (((((((((((((⟨#[112, 105, 101, 99, 101, 32]⟩ : ByteArray) ++ t120) ++ (⟨#[32, 111, 102, 32]⟩ : ByteArray)) ++ t121) ++ (⟨#[32, 119, 105, 116, 104, 32]⟩ : ByteArray)) ++ t122) ++ (⟨#[32, 105, 110, 32]⟩ : ByteArray)) ++ t123) ++ (⟨#[32]⟩ : ByteArray)) ++ t125) ++ (⟨#[47]⟩ : ByteArray)) ++ t127) ++ (⟨#[32, 109, 97, 114, 107, 115, 32]⟩ : ByteArray)).size + t128.size) = False := eq_false (Nat.not_lt.2 c36)
                                try have c36b4 : (9223372036854775807 < 6 + t120.size + 4 + t121.size + 6 + t122.size + 4 + t123.size + 1 + t125.size + 1 + t127.size + 7 + t128.size) = False := eq_false (Nat.not_lt.2 (by have h_ := c36; simp only [ByteArray.size_append, show (⟨#[112, 105, 101, 99, 101, 32]⟩ : ByteArray).size = 6 from rfl, show (⟨#[32, 111, 102, 32]⟩ : ByteArray).size = 4 from rfl, show (⟨#[32, 119, 105, 116, 104, 32]⟩ : ByteArray).size = 6 from rfl, show (⟨#[32, 105, 110, 32]⟩ : ByteArray).size = 4 from rfl, show (⟨#[32]⟩ : ByteArray).size = 1 from rfl, show (⟨#[47]⟩ : ByteArray).size = 1 from rfl, show (⟨#[32, 109, 97, 114, 107, 115, 32]⟩ : ByteArray).size = 7 from rfl] at h_; omega))
                                have H' := Aside0.mk H
                                clear H
                                have hcz37_0 : w31.cell? ⟨gb119, 0, none⟩ = some (.int .i64 a0_0) := (blk_cell BK119.out 0).trans rfl
                                have hcz37_1 : w31.cell? ⟨gb119, 1, none⟩ = some (.int .i64 a0_1) := (blk_cell BK119.out 1).trans rfl
                                have hcz37_2 : w31.cell? ⟨gb119, 2, none⟩ = some (.int .i64 a0_2) := (blk_cell BK119.out 2).trans rfl
                                have hcz37_3 : w31.cell? ⟨gb119, 3, none⟩ = some (.int .i64 a0_3) := (blk_cell BK119.out 3).trans rfl
                                have hcz37_4 : w31.cell? ⟨gb119, 4, none⟩ = some (.int .i64 a0_4) := (blk_cell BK119.out 4).trans rfl
                                have hcz37_5 : w31.cell? ⟨gb119, 5, none⟩ = some (.int .i64 a0_5) := (blk_cell BK119.out 5).trans rfl
                                have hcz37_6 : w31.cell? ⟨gb119, 6, none⟩ = some (.int .i64 a0_6) := (blk_cell BK119.out 6).trans rfl
                                have hcz37_7 : w31.cell? ⟨gb119, 7, none⟩ = some (.int .i64 a0_7) := (blk_cell BK119.out 7).trans rfl
                                have hcz37_8 : w31.cell? ⟨gb119, 8, none⟩ = some (.int .i64 a0_8) := (blk_cell BK119.out 8).trans rfl
                                have hcz37_9 : w31.cell? ⟨gb119, 9, none⟩ = some (.int .i64 a0_9) := (blk_cell BK119.out 9).trans rfl
                                have hcz37_10 : w31.cell? ⟨gb119, 10, none⟩ = some (.int .i64 a0_10) := (blk_cell BK119.out 10).trans rfl
                                have hcz37_11 : w31.cell? ⟨gb119, 11, none⟩ = some (.bool a0_11) := (blk_cell BK119.out 11).trans rfl
                                have hcz37_12 : w31.cell? ⟨gb119, 12, none⟩ = some (.bool a0_12) := (blk_cell BK119.out 12).trans rfl
                                have hfz37_0 := blk_frozen BK119.out 0
                                have hfz37_1 := blk_frozen BK119.out 1
                                have hfz37_2 := blk_frozen BK119.out 2
                                have hfz37_3 := blk_frozen BK119.out 3
                                have hfz37_4 := blk_frozen BK119.out 4
                                have hfz37_5 := blk_frozen BK119.out 5
                                have hfz37_6 := blk_frozen BK119.out 6
                                have hfz37_7 := blk_frozen BK119.out 7
                                have hfz37_8 := blk_frozen BK119.out 8
                                have hfz37_9 := blk_frozen BK119.out 9
                                have hfz37_10 := blk_frozen BK119.out 10
                                have hfz37_11 := blk_frozen BK119.out 11
                                have hfz37_12 := blk_frozen BK119.out 12
                                go_wp2_with (first | ((with_reducible refine gate_callee (f := 67) rfl ?_); refine goesL_ (some 40) rfl rfl Try.func67 (by kernel_rfl) rfl #[.int .i64 a0_10] rfl (by (try simp only [List.map_toArray, List.map_cons, List.map_nil]); first | done | rfl | (simp only [List.length_drop, List.length_take]; rfl)) ?_; (with_reducible refine (spec_NumText.calls k a0_10 t128 _ A35.out).mono ?_); rintro e w38 ⟨rfl, hb⟩; refine ⟨_, rfl, ?_⟩; have n0_ := Aside0.mk (blk_below (g := gb119) (o := .cells #[.int .i64 a0_0, .int .i64 a0_1, .int .i64 a0_2, .int .i64 a0_3, .int .i64 a0_4, .int .i64 a0_5, .int .i64 a0_6, .int .i64 a0_7, .int .i64 a0_8, .int .i64 a0_9, .int .i64 a0_10, .bool a0_11, .bool a0_12] 38 (0, 0)) (by (with_reducible repeat (first | refine blk_drewN ?_ _ | refine blk_drew ?_ | refine blk_alloc ?_ _)); exact BK119.out) hb); have n1_ := Aside0.mk (below_step (by repeat (first | (with_reducible first | exact HB.out | apply below_alloc | apply pw_below_drewN | apply below_drew1 | refine below_set ?_ GE119.out) | exact HB.out)) hb); clear BK119; clear HB; have BK119 := n0_; have HB := n1_; clear n0_ n1_; (try clear hb); (try clear hb2); (try clear hk); (try clear hi)))
                                go_meet
                                case rel => exact ⟨_, ((((((((((((((⟨#[112, 105, 101, 99, 101, 32]⟩ : ByteArray) ++ t120) ++ (⟨#[32, 111, 102, 32]⟩ : ByteArray)) ++ t121) ++ (⟨#[32, 119, 105, 116, 104, 32]⟩ : ByteArray)) ++ t122) ++ (⟨#[32, 105, 110, 32]⟩ : ByteArray)) ++ t123) ++ (⟨#[32]⟩ : ByteArray)) ++ t125) ++ (⟨#[47]⟩ : ByteArray)) ++ t127) ++ (⟨#[32, 109, 97, 114, 107, 115, 32]⟩ : ByteArray)) ++ t128), (by first | rfl | (simp; done) | (simp [*]; done)), H', ⟨by first | omega | exact Nat.le_refl _⟩, ⟨by (with_reducible repeat (first | refine blk_drewN ?_ _ | refine blk_drew ?_ | refine blk_alloc ?_ _)); exact BK119.out⟩, ⟨by repeat (first | (with_reducible first | exact HB.out | apply below_alloc | apply pw_below_drewN | apply below_drew1 | refine below_set ?_ GE119.out) | exact HB.out)⟩⟩
                              · rw [if_neg c36] at H
                                exact absurd H (by simp)
                            · rw [if_neg c34] at H
                              exact absurd H (by simp)
                          · rw [if_neg c33] at H
                            have c33b0 : decide (0 < a0_10) = false := decide_eq_false c33
                            clear c33
                            (first | rw [c33b0] | (simp only [i64_w, i32_w]; rw [c33b0]) | skip)
                            have H' := Aside0.mk H
                            clear H
                            go_wp2
                            go_meet
                            case rel => exact ⟨_, ((((((((((((⟨#[112, 105, 101, 99, 101, 32]⟩ : ByteArray) ++ t120) ++ (⟨#[32, 111, 102, 32]⟩ : ByteArray)) ++ t121) ++ (⟨#[32, 119, 105, 116, 104, 32]⟩ : ByteArray)) ++ t122) ++ (⟨#[32, 105, 110, 32]⟩ : ByteArray)) ++ t123) ++ (⟨#[32]⟩ : ByteArray)) ++ t125) ++ (⟨#[47]⟩ : ByteArray)) ++ t127), (by first | rfl | (simp; done) | (simp [*]; done)), H', ⟨by first | omega | exact Nat.le_refl _⟩, ⟨by (with_reducible repeat (first | refine blk_drewN ?_ _ | refine blk_drew ?_ | refine blk_alloc ?_ _)); exact BK119.out⟩, ⟨by repeat (first | (with_reducible first | exact HB.out | apply below_alloc | apply pw_below_drewN | apply below_drew1 | refine below_set ?_ GE119.out) | exact HB.out)⟩⟩
                        case rest =>
                          clear HC21
                          try clear c1
                          try clear c2
                          try clear p2
                          try clear c3
                          try clear c3b0
                          try clear c3b1
                          try clear c3b2
                          try clear c4
                          try clear c4b0
                          try clear c4b1
                          try clear c4b2
                          try clear c6
                          try clear c6b0
                          try clear c6b1
                          try clear c6b2
                          try clear c7
                          try clear c7b0
                          try clear c7b1
                          try clear c7b2
                          try clear c9
                          try clear c9b0
                          try clear c9b1
                          try clear c9b2
                          try clear c10
                          try clear c10b0
                          try clear c10b1
                          try clear c10b2
                          try clear c12
                          try clear c12b0
                          try clear c12b1
                          try clear c12b2
                          try clear c13
                          try clear c13b0
                          try clear c13b1
                          try clear c13b2
                          try clear c16
                          try clear c16b0
                          try clear c16b1
                          try clear c16b2
                          try clear c17
                          try clear c17b0
                          try clear c17b1
                          try clear c17b2
                          try clear c20
                          try clear c20b0
                          try clear c20b1
                          try clear c20b2
                          try clear c28
                          try clear c33
                          try clear c33b0
                          try clear c34
                          try clear c34b0
                          try clear c34b1
                          try clear c34b2
                          try clear c36
                          try clear c36b0
                          try clear c36b1
                          try clear c36b2
                          try clear hcz32_0
                          try clear hcz32_1
                          try clear hcz32_10
                          try clear hcz32_11
                          try clear hcz32_12
                          try clear hcz32_2
                          try clear hcz32_3
                          try clear hcz32_4
                          try clear hcz32_5
                          try clear hcz32_6
                          try clear hcz32_7
                          try clear hcz32_8
                          try clear hcz32_9
                          try clear hcz37_0
                          try clear hcz37_1
                          try clear hcz37_10
                          try clear hcz37_11
                          try clear hcz37_12
                          try clear hcz37_2
                          try clear hcz37_3
                          try clear hcz37_4
                          try clear hcz37_5
                          try clear hcz37_6
                          try clear hcz37_7
                          try clear hcz37_8
                          try clear hcz37_9
                          try clear hfz32_0
                          try clear hfz32_1
                          try clear hfz32_10
                          try clear hfz32_11
                          try clear hfz32_12
                          try clear hfz32_2
                          try clear hfz32_3
                          try clear hfz32_4
                          try clear hfz32_5
                          try clear hfz32_6
                          try clear hfz32_7
                          try clear hfz32_8
                          try clear hfz32_9
                          try clear hfz37_0
                          try clear hfz37_1
                          try clear hfz37_10
                          try clear hfz37_11
                          try clear hfz37_12
                          try clear hfz37_2
                          try clear hfz37_3
                          try clear hfz37_4
                          try clear hfz37_5
                          try clear hfz37_6
                          try clear hfz37_7
                          try clear hfz37_8
                          try clear hfz37_9
                          obtain ⟨kq, x3_20, rfl, HA, HJ20, BK119, HB⟩ := hcut
                          cases kq with
                          | zero => exact absurd HA.out (by simp [spec_PieceText.j0])
                          | succ kj20 =>
                            have H := HA.out
                            clear HA
                            simp only [spec_PieceText.j0] at H
                            by_cases c39 : a0_11 = true
                            · subst c39
                              have H1 : (if x3_20.size + 7 ≤ 9223372036854775807 then (if a0_12 = true then (if (x3_20 ++ (⟨#[32, 100, 101, 97, 100, 108, 121]⟩ : ByteArray)).size + 5 ≤ 9223372036854775807 then (some ((x3_20 ++ (⟨#[32, 100, 101, 97, 100, 108, 121]⟩ : ByteArray)) ++ (⟨#[32, 98, 101, 110, 116]⟩ : ByteArray))) else (none)) else (some (x3_20 ++ (⟨#[32, 100, 101, 97, 100, 108, 121]⟩ : ByteArray)))) else (none)) = some r := by rw [if_pos rfl] at H; exact H
                              clear H
                              have H := H1
                              clear H1
                              by_cases c40 : x3_20.size + 7 ≤ 9223372036854775807
                              · rw [if_pos c40] at H
                                have c40b0 := eq_true c40
                                have c40b1 : decide (x3_20.size + 7 ≤ 9223372036854775807) = true := decide_eq_true c40
                                try have c40b2 : (9223372036854775807 < x3_20.size + 7) = False := eq_false (Nat.not_lt.2 c40)
                                by_cases c41 : a0_12 = true
                                · subst c41
                                  have H1 : (if (x3_20 ++ (⟨#[32, 100, 101, 97, 100, 108, 121]⟩ : ByteArray)).size + 5 ≤ 9223372036854775807 then (some ((x3_20 ++ (⟨#[32, 100, 101, 97, 100, 108, 121]⟩ : ByteArray)) ++ (⟨#[32, 98, 101, 110, 116]⟩ : ByteArray))) else (none)) = some r := by rw [if_pos rfl] at H; exact H
                                  clear H
                                  have H := H1
                                  clear H1
                                  by_cases c42 : (x3_20 ++ (⟨#[32, 100, 101, 97, 100, 108, 121]⟩ : ByteArray)).size + 5 ≤ 9223372036854775807
                                  · rw [if_pos c42] at H
                                    have c42b0 := eq_true c42
                                    have c42b1 : decide ((x3_20 ++ (⟨#[32, 100, 101, 97, 100, 108, 121]⟩ : ByteArray)).size + 5 ≤ 9223372036854775807) = true := decide_eq_true c42
                                    try have c42b2 : (9223372036854775807 < (x3_20 ++ (⟨#[32, 100, 101, 97, 100, 108, 121]⟩ : ByteArray)).size + 5) = False := eq_false (Nat.not_lt.2 c42)
                                    try have c42b4 : (9223372036854775807 < x3_20.size + 7 + 5) = False := eq_false (Nat.not_lt.2 (by have h_ := c42; simp only [ByteArray.size_append, show (⟨#[32, 100, 101, 97, 100, 108, 121]⟩ : ByteArray).size = 7 from rfl] at h_; omega))
                                    obtain rfl := Option.some.inj H
                                    have hcz43_0 : wc.cell? ⟨gb119, 0, none⟩ = some (.int .i64 a0_0) := (blk_cell BK119.out 0).trans rfl
                                    have hcz43_1 : wc.cell? ⟨gb119, 1, none⟩ = some (.int .i64 a0_1) := (blk_cell BK119.out 1).trans rfl
                                    have hcz43_2 : wc.cell? ⟨gb119, 2, none⟩ = some (.int .i64 a0_2) := (blk_cell BK119.out 2).trans rfl
                                    have hcz43_3 : wc.cell? ⟨gb119, 3, none⟩ = some (.int .i64 a0_3) := (blk_cell BK119.out 3).trans rfl
                                    have hcz43_4 : wc.cell? ⟨gb119, 4, none⟩ = some (.int .i64 a0_4) := (blk_cell BK119.out 4).trans rfl
                                    have hcz43_5 : wc.cell? ⟨gb119, 5, none⟩ = some (.int .i64 a0_5) := (blk_cell BK119.out 5).trans rfl
                                    have hcz43_6 : wc.cell? ⟨gb119, 6, none⟩ = some (.int .i64 a0_6) := (blk_cell BK119.out 6).trans rfl
                                    have hcz43_7 : wc.cell? ⟨gb119, 7, none⟩ = some (.int .i64 a0_7) := (blk_cell BK119.out 7).trans rfl
                                    have hcz43_8 : wc.cell? ⟨gb119, 8, none⟩ = some (.int .i64 a0_8) := (blk_cell BK119.out 8).trans rfl
                                    have hcz43_9 : wc.cell? ⟨gb119, 9, none⟩ = some (.int .i64 a0_9) := (blk_cell BK119.out 9).trans rfl
                                    have hcz43_10 : wc.cell? ⟨gb119, 10, none⟩ = some (.int .i64 a0_10) := (blk_cell BK119.out 10).trans rfl
                                    have hcz43_11 : wc.cell? ⟨gb119, 11, none⟩ = some (.bool true) := (blk_cell BK119.out 11).trans rfl
                                    have hcz43_12 : wc.cell? ⟨gb119, 12, none⟩ = some (.bool true) := (blk_cell BK119.out 12).trans rfl
                                    have hfz43_0 := blk_frozen BK119.out 0
                                    have hfz43_1 := blk_frozen BK119.out 1
                                    have hfz43_2 := blk_frozen BK119.out 2
                                    have hfz43_3 := blk_frozen BK119.out 3
                                    have hfz43_4 := blk_frozen BK119.out 4
                                    have hfz43_5 := blk_frozen BK119.out 5
                                    have hfz43_6 := blk_frozen BK119.out 6
                                    have hfz43_7 := blk_frozen BK119.out 7
                                    have hfz43_8 := blk_frozen BK119.out 8
                                    have hfz43_9 := blk_frozen BK119.out 9
                                    have hfz43_10 := blk_frozen BK119.out 10
                                    have hfz43_11 := blk_frozen BK119.out 11
                                    have hfz43_12 := blk_frozen BK119.out 12
                                    go_wp2
                                    go_ret
                                    exact ⟨by first | rfl | (simp [errW_none, errW_some] <;> rfl) | (simp [*, errW_none, errW_some] <;> rfl), by repeat (first | (with_reducible first | exact HB.out | apply below_alloc | apply pw_below_drewN | apply below_drew1 | refine below_set ?_ GE119.out) | exact HB.out)⟩
                                  · rw [if_neg c42] at H
                                    exact absurd H (by simp)
                                · replace c41 := Bool.eq_false_iff.mpr c41
                                  subst c41
                                  have H1 : (some (x3_20 ++ (⟨#[32, 100, 101, 97, 100, 108, 121]⟩ : ByteArray))) = some r := by rw [if_neg (show ¬ (false = true) by decide)] at H; exact H
                                  clear H
                                  have H := H1
                                  clear H1
                                  obtain rfl := Option.some.inj H
                                  have hcz44_0 : wc.cell? ⟨gb119, 0, none⟩ = some (.int .i64 a0_0) := (blk_cell BK119.out 0).trans rfl
                                  have hcz44_1 : wc.cell? ⟨gb119, 1, none⟩ = some (.int .i64 a0_1) := (blk_cell BK119.out 1).trans rfl
                                  have hcz44_2 : wc.cell? ⟨gb119, 2, none⟩ = some (.int .i64 a0_2) := (blk_cell BK119.out 2).trans rfl
                                  have hcz44_3 : wc.cell? ⟨gb119, 3, none⟩ = some (.int .i64 a0_3) := (blk_cell BK119.out 3).trans rfl
                                  have hcz44_4 : wc.cell? ⟨gb119, 4, none⟩ = some (.int .i64 a0_4) := (blk_cell BK119.out 4).trans rfl
                                  have hcz44_5 : wc.cell? ⟨gb119, 5, none⟩ = some (.int .i64 a0_5) := (blk_cell BK119.out 5).trans rfl
                                  have hcz44_6 : wc.cell? ⟨gb119, 6, none⟩ = some (.int .i64 a0_6) := (blk_cell BK119.out 6).trans rfl
                                  have hcz44_7 : wc.cell? ⟨gb119, 7, none⟩ = some (.int .i64 a0_7) := (blk_cell BK119.out 7).trans rfl
                                  have hcz44_8 : wc.cell? ⟨gb119, 8, none⟩ = some (.int .i64 a0_8) := (blk_cell BK119.out 8).trans rfl
                                  have hcz44_9 : wc.cell? ⟨gb119, 9, none⟩ = some (.int .i64 a0_9) := (blk_cell BK119.out 9).trans rfl
                                  have hcz44_10 : wc.cell? ⟨gb119, 10, none⟩ = some (.int .i64 a0_10) := (blk_cell BK119.out 10).trans rfl
                                  have hcz44_11 : wc.cell? ⟨gb119, 11, none⟩ = some (.bool true) := (blk_cell BK119.out 11).trans rfl
                                  have hcz44_12 : wc.cell? ⟨gb119, 12, none⟩ = some (.bool false) := (blk_cell BK119.out 12).trans rfl
                                  have hfz44_0 := blk_frozen BK119.out 0
                                  have hfz44_1 := blk_frozen BK119.out 1
                                  have hfz44_2 := blk_frozen BK119.out 2
                                  have hfz44_3 := blk_frozen BK119.out 3
                                  have hfz44_4 := blk_frozen BK119.out 4
                                  have hfz44_5 := blk_frozen BK119.out 5
                                  have hfz44_6 := blk_frozen BK119.out 6
                                  have hfz44_7 := blk_frozen BK119.out 7
                                  have hfz44_8 := blk_frozen BK119.out 8
                                  have hfz44_9 := blk_frozen BK119.out 9
                                  have hfz44_10 := blk_frozen BK119.out 10
                                  have hfz44_11 := blk_frozen BK119.out 11
                                  have hfz44_12 := blk_frozen BK119.out 12
                                  go_wp2
                                  go_ret
                                  exact ⟨by first | rfl | (simp [errW_none, errW_some] <;> rfl) | (simp [*, errW_none, errW_some] <;> rfl), by repeat (first | (with_reducible first | exact HB.out | apply below_alloc | apply pw_below_drewN | apply below_drew1 | refine below_set ?_ GE119.out) | exact HB.out)⟩
                              · rw [if_neg c40] at H
                                exact absurd H (by simp)
                            · replace c39 := Bool.eq_false_iff.mpr c39
                              subst c39
                              have H1 : (if a0_12 = true then (if x3_20.size + 5 ≤ 9223372036854775807 then (some (x3_20 ++ (⟨#[32, 98, 101, 110, 116]⟩ : ByteArray))) else (none)) else (some x3_20)) = some r := by rw [if_neg (show ¬ (false = true) by decide)] at H; exact H
                              clear H
                              have H := H1
                              clear H1
                              by_cases c45 : a0_12 = true
                              · subst c45
                                have H1 : (if x3_20.size + 5 ≤ 9223372036854775807 then (some (x3_20 ++ (⟨#[32, 98, 101, 110, 116]⟩ : ByteArray))) else (none)) = some r := by rw [if_pos rfl] at H; exact H
                                clear H
                                have H := H1
                                clear H1
                                by_cases c46 : x3_20.size + 5 ≤ 9223372036854775807
                                · rw [if_pos c46] at H
                                  have c46b0 := eq_true c46
                                  have c46b1 : decide (x3_20.size + 5 ≤ 9223372036854775807) = true := decide_eq_true c46
                                  try have c46b2 : (9223372036854775807 < x3_20.size + 5) = False := eq_false (Nat.not_lt.2 c46)
                                  obtain rfl := Option.some.inj H
                                  have hcz47_0 : wc.cell? ⟨gb119, 0, none⟩ = some (.int .i64 a0_0) := (blk_cell BK119.out 0).trans rfl
                                  have hcz47_1 : wc.cell? ⟨gb119, 1, none⟩ = some (.int .i64 a0_1) := (blk_cell BK119.out 1).trans rfl
                                  have hcz47_2 : wc.cell? ⟨gb119, 2, none⟩ = some (.int .i64 a0_2) := (blk_cell BK119.out 2).trans rfl
                                  have hcz47_3 : wc.cell? ⟨gb119, 3, none⟩ = some (.int .i64 a0_3) := (blk_cell BK119.out 3).trans rfl
                                  have hcz47_4 : wc.cell? ⟨gb119, 4, none⟩ = some (.int .i64 a0_4) := (blk_cell BK119.out 4).trans rfl
                                  have hcz47_5 : wc.cell? ⟨gb119, 5, none⟩ = some (.int .i64 a0_5) := (blk_cell BK119.out 5).trans rfl
                                  have hcz47_6 : wc.cell? ⟨gb119, 6, none⟩ = some (.int .i64 a0_6) := (blk_cell BK119.out 6).trans rfl
                                  have hcz47_7 : wc.cell? ⟨gb119, 7, none⟩ = some (.int .i64 a0_7) := (blk_cell BK119.out 7).trans rfl
                                  have hcz47_8 : wc.cell? ⟨gb119, 8, none⟩ = some (.int .i64 a0_8) := (blk_cell BK119.out 8).trans rfl
                                  have hcz47_9 : wc.cell? ⟨gb119, 9, none⟩ = some (.int .i64 a0_9) := (blk_cell BK119.out 9).trans rfl
                                  have hcz47_10 : wc.cell? ⟨gb119, 10, none⟩ = some (.int .i64 a0_10) := (blk_cell BK119.out 10).trans rfl
                                  have hcz47_11 : wc.cell? ⟨gb119, 11, none⟩ = some (.bool false) := (blk_cell BK119.out 11).trans rfl
                                  have hcz47_12 : wc.cell? ⟨gb119, 12, none⟩ = some (.bool true) := (blk_cell BK119.out 12).trans rfl
                                  have hfz47_0 := blk_frozen BK119.out 0
                                  have hfz47_1 := blk_frozen BK119.out 1
                                  have hfz47_2 := blk_frozen BK119.out 2
                                  have hfz47_3 := blk_frozen BK119.out 3
                                  have hfz47_4 := blk_frozen BK119.out 4
                                  have hfz47_5 := blk_frozen BK119.out 5
                                  have hfz47_6 := blk_frozen BK119.out 6
                                  have hfz47_7 := blk_frozen BK119.out 7
                                  have hfz47_8 := blk_frozen BK119.out 8
                                  have hfz47_9 := blk_frozen BK119.out 9
                                  have hfz47_10 := blk_frozen BK119.out 10
                                  have hfz47_11 := blk_frozen BK119.out 11
                                  have hfz47_12 := blk_frozen BK119.out 12
                                  go_wp2
                                  go_ret
                                  exact ⟨by first | rfl | (simp [errW_none, errW_some] <;> rfl) | (simp [*, errW_none, errW_some] <;> rfl), by repeat (first | (with_reducible first | exact HB.out | apply below_alloc | apply pw_below_drewN | apply below_drew1 | refine below_set ?_ GE119.out) | exact HB.out)⟩
                                · rw [if_neg c46] at H
                                  exact absurd H (by simp)
                              · replace c45 := Bool.eq_false_iff.mpr c45
                                subst c45
                                have H1 : (some x3_20) = some r := by rw [if_neg (show ¬ (false = true) by decide)] at H; exact H
                                clear H
                                have H := H1
                                clear H1
                                obtain rfl := Option.some.inj H
                                have hcz48_0 : wc.cell? ⟨gb119, 0, none⟩ = some (.int .i64 a0_0) := (blk_cell BK119.out 0).trans rfl
                                have hcz48_1 : wc.cell? ⟨gb119, 1, none⟩ = some (.int .i64 a0_1) := (blk_cell BK119.out 1).trans rfl
                                have hcz48_2 : wc.cell? ⟨gb119, 2, none⟩ = some (.int .i64 a0_2) := (blk_cell BK119.out 2).trans rfl
                                have hcz48_3 : wc.cell? ⟨gb119, 3, none⟩ = some (.int .i64 a0_3) := (blk_cell BK119.out 3).trans rfl
                                have hcz48_4 : wc.cell? ⟨gb119, 4, none⟩ = some (.int .i64 a0_4) := (blk_cell BK119.out 4).trans rfl
                                have hcz48_5 : wc.cell? ⟨gb119, 5, none⟩ = some (.int .i64 a0_5) := (blk_cell BK119.out 5).trans rfl
                                have hcz48_6 : wc.cell? ⟨gb119, 6, none⟩ = some (.int .i64 a0_6) := (blk_cell BK119.out 6).trans rfl
                                have hcz48_7 : wc.cell? ⟨gb119, 7, none⟩ = some (.int .i64 a0_7) := (blk_cell BK119.out 7).trans rfl
                                have hcz48_8 : wc.cell? ⟨gb119, 8, none⟩ = some (.int .i64 a0_8) := (blk_cell BK119.out 8).trans rfl
                                have hcz48_9 : wc.cell? ⟨gb119, 9, none⟩ = some (.int .i64 a0_9) := (blk_cell BK119.out 9).trans rfl
                                have hcz48_10 : wc.cell? ⟨gb119, 10, none⟩ = some (.int .i64 a0_10) := (blk_cell BK119.out 10).trans rfl
                                have hcz48_11 : wc.cell? ⟨gb119, 11, none⟩ = some (.bool false) := (blk_cell BK119.out 11).trans rfl
                                have hcz48_12 : wc.cell? ⟨gb119, 12, none⟩ = some (.bool false) := (blk_cell BK119.out 12).trans rfl
                                have hfz48_0 := blk_frozen BK119.out 0
                                have hfz48_1 := blk_frozen BK119.out 1
                                have hfz48_2 := blk_frozen BK119.out 2
                                have hfz48_3 := blk_frozen BK119.out 3
                                have hfz48_4 := blk_frozen BK119.out 4
                                have hfz48_5 := blk_frozen BK119.out 5
                                have hfz48_6 := blk_frozen BK119.out 6
                                have hfz48_7 := blk_frozen BK119.out 7
                                have hfz48_8 := blk_frozen BK119.out 8
                                have hfz48_9 := blk_frozen BK119.out 9
                                have hfz48_10 := blk_frozen BK119.out 10
                                have hfz48_11 := blk_frozen BK119.out 11
                                have hfz48_12 := blk_frozen BK119.out 12
                                go_wp2
                                go_ret
                                exact ⟨by first | rfl | (simp [errW_none, errW_some] <;> rfl) | (simp [*, errW_none, errW_some] <;> rfl), by repeat (first | (with_reducible first | exact HB.out | apply below_alloc | apply pw_below_drewN | apply below_drew1 | refine below_set ?_ GE119.out) | exact HB.out)⟩
                      · rw [if_neg c20] at H
                        exact absurd H (by simp)
                    · rw [if_neg c17] at H
                      exact absurd H (by simp)
                  · rw [if_neg c16] at H
                    exact absurd H (by simp)
                · rw [if_neg c13] at H
                  exact absurd H (by simp)
              · rw [if_neg c12] at H
                exact absurd H (by simp)
            · rw [if_neg c10] at H
              exact absurd H (by simp)
          · rw [if_neg c9] at H
            exact absurd H (by simp)
        · rw [if_neg c7] at H
          exact absurd H (by simp)
      · rw [if_neg c6] at H
        exact absurd H (by simp)
    · rw [if_neg c4] at H
      exact absurd H (by simp)
  · rw [if_neg c3] at H
    exact absurd H (by simp)

end Go.Proofs.Ytljnfcmcjhggfaa.PFnExactPieceText
