/-
  Kinds of cards, by the kernel. No condition.
-/
import Derived.Test.YthdhilmjjdnlcaaGreatDoorC0
set_option linter.unusedSimpArgs false
set_option linter.unusedVariables false

/- The kinds of the cards in the document. -/
namespace Go.Abs.S22
open Go Go.Abs Go.Proofs

theorem rc_0 : isCard 0 isTru (readW (callW Tryz.prog (exec Tryz.prog cfg 400)) 103 [I 0] []) = true := by kernel_rfl
theorem rc_1 : isCard 0 isTru (readW (callW Tryz.prog (exec Tryz.prog cfg 400)) 103 [I 1] []) = true := by kernel_rfl
theorem rc_2 : isCard 0 isTru (readW (callW Tryz.prog (exec Tryz.prog cfg 400)) 103 [I 2] []) = true := by kernel_rfl
theorem rc_3 : isCard 0 isTru (readW (callW Tryz.prog (exec Tryz.prog cfg 400)) 103 [I 3] []) = true := by kernel_rfl
theorem rc_4 : isCard 0 isTru (readW (callW Tryz.prog (exec Tryz.prog cfg 400)) 103 [I 4] []) = true := by kernel_rfl
theorem rc_5 : isCard 0 isTru (readW (callW Tryz.prog (exec Tryz.prog cfg 400)) 103 [I 5] []) = true := by kernel_rfl
theorem rc_6 : isCard 0 isTru (readW (callW Tryz.prog (exec Tryz.prog cfg 400)) 103 [I 6] []) = true := by kernel_rfl
theorem rc_7 : isCard 0 isTru (readW (callW Tryz.prog (exec Tryz.prog cfg 400)) 103 [I 7] []) = true := by kernel_rfl
theorem rc_8 : isCard 0 isTru (readW (callW Tryz.prog (exec Tryz.prog cfg 400)) 103 [I 8] []) = true := by kernel_rfl
theorem rc_9 : isCard 0 isTru (readW (callW Tryz.prog (exec Tryz.prog cfg 400)) 103 [I 9] []) = true := by kernel_rfl
theorem rc_10 : isCard 1 isTru (readW (callW Tryz.prog (exec Tryz.prog cfg 400)) 103 [I 10] []) = true := by kernel_rfl
theorem rc_11 : isCard 1 isTru (readW (callW Tryz.prog (exec Tryz.prog cfg 400)) 103 [I 11] []) = true := by kernel_rfl
theorem rc_12 : isCard 1 isTru (readW (callW Tryz.prog (exec Tryz.prog cfg 400)) 103 [I 12] []) = true := by kernel_rfl
theorem rc_13 : isCard 1 isTru (readW (callW Tryz.prog (exec Tryz.prog cfg 400)) 103 [I 13] []) = true := by kernel_rfl
theorem rc_14 : isCard 1 isTru (readW (callW Tryz.prog (exec Tryz.prog cfg 400)) 103 [I 14] []) = true := by kernel_rfl
theorem rc_15 : isCard 1 isTru (readW (callW Tryz.prog (exec Tryz.prog cfg 400)) 103 [I 15] []) = true := by kernel_rfl
theorem rc_16 : isCard 1 isTru (readW (callW Tryz.prog (exec Tryz.prog cfg 400)) 103 [I 16] []) = true := by kernel_rfl
theorem rc_17 : isCard 1 isTru (readW (callW Tryz.prog (exec Tryz.prog cfg 400)) 103 [I 17] []) = true := by kernel_rfl
theorem rc_18 : isCard 1 isTru (readW (callW Tryz.prog (exec Tryz.prog cfg 400)) 103 [I 18] []) = true := by kernel_rfl
theorem rc_19 : isCard 1 isTru (readW (callW Tryz.prog (exec Tryz.prog cfg 400)) 103 [I 19] []) = true := by kernel_rfl
theorem rc_20 : isCard 1 isTru (readW (callW Tryz.prog (exec Tryz.prog cfg 400)) 103 [I 20] []) = true := by kernel_rfl
theorem rc_21 : isCard 1 isTru (readW (callW Tryz.prog (exec Tryz.prog cfg 400)) 103 [I 21] []) = true := by kernel_rfl
theorem rc_22 : isCard 1 isTru (readW (callW Tryz.prog (exec Tryz.prog cfg 400)) 103 [I 22] []) = true := by kernel_rfl
theorem rc_23 : isCard 1 isTru (readW (callW Tryz.prog (exec Tryz.prog cfg 400)) 103 [I 23] []) = true := by kernel_rfl
theorem rc_24 : isCard 1 isTru (readW (callW Tryz.prog (exec Tryz.prog cfg 400)) 103 [I 24] []) = true := by kernel_rfl
theorem rc_25 : isCard 1 isTru (readW (callW Tryz.prog (exec Tryz.prog cfg 400)) 103 [I 25] []) = true := by kernel_rfl
theorem rc_26 : isCard 1 isTru (readW (callW Tryz.prog (exec Tryz.prog cfg 400)) 103 [I 26] []) = true := by kernel_rfl
theorem rc_27 : isCard 1 isTru (readW (callW Tryz.prog (exec Tryz.prog cfg 400)) 103 [I 27] []) = true := by kernel_rfl
theorem rc_28 : isCard 1 isTru (readW (callW Tryz.prog (exec Tryz.prog cfg 400)) 103 [I 28] []) = true := by kernel_rfl
theorem rc_29 : isCard 1 isTru (readW (callW Tryz.prog (exec Tryz.prog cfg 400)) 103 [I 29] []) = true := by kernel_rfl
end Go.Abs.S22
