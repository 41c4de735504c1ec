/-
  Kinds of cards, by the kernel. No condition.
-/
import Derived.Test.YthdhilmjjdnlcaaGreatDoorC0
set_option linter.unusedSimpArgs false
set_option linter.unusedVariables false

/- The kinds of the cards of the table. -/
namespace Go.Abs.S22
open Go Go.Abs Go.Proofs

theorem tc_0 : isCard 0 isNil (readW (callW Tryz.prog (exec Tryz.prog cfg 400)) 160 [I 0] []) = true := by kernel_rfl
theorem tc_1 : isCard 0 isNil (readW (callW Tryz.prog (exec Tryz.prog cfg 400)) 160 [I 1] []) = true := by kernel_rfl
theorem tc_2 : isCard 0 isNil (readW (callW Tryz.prog (exec Tryz.prog cfg 400)) 160 [I 2] []) = true := by kernel_rfl
theorem tc_3 : isCard 0 isNil (readW (callW Tryz.prog (exec Tryz.prog cfg 400)) 160 [I 3] []) = true := by kernel_rfl
theorem tc_4 : isCard 0 isNil (readW (callW Tryz.prog (exec Tryz.prog cfg 400)) 160 [I 4] []) = true := by kernel_rfl
theorem tc_5 : isCard 0 isNil (readW (callW Tryz.prog (exec Tryz.prog cfg 400)) 160 [I 5] []) = true := by kernel_rfl
theorem tc_6 : isCard 0 isNil (readW (callW Tryz.prog (exec Tryz.prog cfg 400)) 160 [I 6] []) = true := by kernel_rfl
theorem tc_7 : isCard 0 isNil (readW (callW Tryz.prog (exec Tryz.prog cfg 400)) 160 [I 7] []) = true := by kernel_rfl
theorem tc_8 : isCard 0 isNil (readW (callW Tryz.prog (exec Tryz.prog cfg 400)) 160 [I 8] []) = true := by kernel_rfl
theorem tc_9 : isCard 0 isNil (readW (callW Tryz.prog (exec Tryz.prog cfg 400)) 160 [I 9] []) = true := by kernel_rfl
theorem tc_10 : isCard 1 isNil (readW (callW Tryz.prog (exec Tryz.prog cfg 400)) 160 [I 10] []) = true := by kernel_rfl
theorem tc_11 : isCard 1 isNil (readW (callW Tryz.prog (exec Tryz.prog cfg 400)) 160 [I 11] []) = true := by kernel_rfl
theorem tc_12 : isCard 1 isNil (readW (callW Tryz.prog (exec Tryz.prog cfg 400)) 160 [I 12] []) = true := by kernel_rfl
theorem tc_13 : isCard 1 isNil (readW (callW Tryz.prog (exec Tryz.prog cfg 400)) 160 [I 13] []) = true := by kernel_rfl
theorem tc_14 : isCard 1 isNil (readW (callW Tryz.prog (exec Tryz.prog cfg 400)) 160 [I 14] []) = true := by kernel_rfl
theorem tc_15 : isCard 1 isNil (readW (callW Tryz.prog (exec Tryz.prog cfg 400)) 160 [I 15] []) = true := by kernel_rfl
theorem tc_16 : isCard 1 isNil (readW (callW Tryz.prog (exec Tryz.prog cfg 400)) 160 [I 16] []) = true := by kernel_rfl
theorem tc_17 : isCard 1 isNil (readW (callW Tryz.prog (exec Tryz.prog cfg 400)) 160 [I 17] []) = true := by kernel_rfl
theorem tc_18 : isCard 1 isNil (readW (callW Tryz.prog (exec Tryz.prog cfg 400)) 160 [I 18] []) = true := by kernel_rfl
theorem tc_19 : isCard 1 isNil (readW (callW Tryz.prog (exec Tryz.prog cfg 400)) 160 [I 19] []) = true := by kernel_rfl
theorem tc_20 : isCard 1 isNil (readW (callW Tryz.prog (exec Tryz.prog cfg 400)) 160 [I 20] []) = true := by kernel_rfl
theorem tc_21 : isCard 1 isNil (readW (callW Tryz.prog (exec Tryz.prog cfg 400)) 160 [I 21] []) = true := by kernel_rfl
theorem tc_22 : isCard 1 isNil (readW (callW Tryz.prog (exec Tryz.prog cfg 400)) 160 [I 22] []) = true := by kernel_rfl
theorem tc_23 : isCard 1 isNil (readW (callW Tryz.prog (exec Tryz.prog cfg 400)) 160 [I 23] []) = true := by kernel_rfl
theorem tc_24 : isCard 1 isNil (readW (callW Tryz.prog (exec Tryz.prog cfg 400)) 160 [I 24] []) = true := by kernel_rfl
theorem tc_25 : isCard 1 isNil (readW (callW Tryz.prog (exec Tryz.prog cfg 400)) 160 [I 25] []) = true := by kernel_rfl
theorem tc_26 : isCard 1 isNil (readW (callW Tryz.prog (exec Tryz.prog cfg 400)) 160 [I 26] []) = true := by kernel_rfl
theorem tc_27 : isCard 1 isNil (readW (callW Tryz.prog (exec Tryz.prog cfg 400)) 160 [I 27] []) = true := by kernel_rfl
theorem tc_28 : isCard 1 isNil (readW (callW Tryz.prog (exec Tryz.prog cfg 400)) 160 [I 28] []) = true := by kernel_rfl
theorem tc_29 : isCard 1 isNil (readW (callW Tryz.prog (exec Tryz.prog cfg 400)) 160 [I 29] []) = true := by kernel_rfl
end Go.Abs.S22
