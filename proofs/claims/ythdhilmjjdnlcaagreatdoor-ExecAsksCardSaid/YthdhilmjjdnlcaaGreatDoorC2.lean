/-
  Kinds of cards, by the kernel. No condition.
-/
import Derived.Test.YthdhilmjjdnlcaaGreatDoorC0
set_option linter.unusedSimpArgs false
set_option linter.unusedVariables false

/- The kinds of the cards of the table. -/
namespace Go.Abs.S22
open Go Go.Abs Go.Proofs

theorem tc_30 : isCard 1 isNil (readW (callW Tryz.prog (exec Tryz.prog cfg 400)) 160 [I 30] []) = true := by kernel_rfl
theorem tc_31 : isCard 1 isNil (readW (callW Tryz.prog (exec Tryz.prog cfg 400)) 160 [I 31] []) = true := by kernel_rfl
theorem tc_32 : isCard 1 isNil (readW (callW Tryz.prog (exec Tryz.prog cfg 400)) 160 [I 32] []) = true := by kernel_rfl
theorem tc_33 : isCard 1 isNil (readW (callW Tryz.prog (exec Tryz.prog cfg 400)) 160 [I 33] []) = true := by kernel_rfl
theorem tc_34 : isCard 1 isNil (readW (callW Tryz.prog (exec Tryz.prog cfg 400)) 160 [I 34] []) = true := by kernel_rfl
theorem tc_35 : isCard 1 isNil (readW (callW Tryz.prog (exec Tryz.prog cfg 400)) 160 [I 35] []) = true := by kernel_rfl
theorem tc_36 : isCard 1 isNil (readW (callW Tryz.prog (exec Tryz.prog cfg 400)) 160 [I 36] []) = true := by kernel_rfl
theorem tc_37 : isCard 1 isNil (readW (callW Tryz.prog (exec Tryz.prog cfg 400)) 160 [I 37] []) = true := by kernel_rfl
theorem tc_38 : isCard 1 isNil (readW (callW Tryz.prog (exec Tryz.prog cfg 400)) 160 [I 38] []) = true := by kernel_rfl
theorem tc_39 : isCard 1 isNil (readW (callW Tryz.prog (exec Tryz.prog cfg 400)) 160 [I 39] []) = true := by kernel_rfl
theorem tc_40 : isCard 1 isNil (readW (callW Tryz.prog (exec Tryz.prog cfg 400)) 160 [I 40] []) = true := by kernel_rfl
theorem tc_41 : isCard 1 isNil (readW (callW Tryz.prog (exec Tryz.prog cfg 400)) 160 [I 41] []) = true := by kernel_rfl
theorem tc_42 : isCard 1 isNil (readW (callW Tryz.prog (exec Tryz.prog cfg 400)) 160 [I 42] []) = true := by kernel_rfl
theorem tc_43 : isCard 1 isNil (readW (callW Tryz.prog (exec Tryz.prog cfg 400)) 160 [I 43] []) = true := by kernel_rfl
theorem tc_44 : isCard 1 isNil (readW (callW Tryz.prog (exec Tryz.prog cfg 400)) 160 [I 44] []) = true := by kernel_rfl
theorem tc_45 : isCard 1 isNil (readW (callW Tryz.prog (exec Tryz.prog cfg 400)) 160 [I 45] []) = true := by kernel_rfl
theorem tc_46 : isCard 1 isNil (readW (callW Tryz.prog (exec Tryz.prog cfg 400)) 160 [I 46] []) = true := by kernel_rfl
theorem tc_47 : isCard 1 isNil (readW (callW Tryz.prog (exec Tryz.prog cfg 400)) 160 [I 47] []) = true := by kernel_rfl
theorem tc_48 : isCard 1 isNil (readW (callW Tryz.prog (exec Tryz.prog cfg 400)) 160 [I 48] []) = true := by kernel_rfl
theorem tc_49 : isCard 1 isNil (readW (callW Tryz.prog (exec Tryz.prog cfg 400)) 160 [I 49] []) = true := by kernel_rfl
theorem tc_50 : isCard 2 isNil (readW (callW Tryz.prog (exec Tryz.prog cfg 400)) 160 [I 50] []) = true := by kernel_rfl
theorem tc_51 : isCard 2 isNil (readW (callW Tryz.prog (exec Tryz.prog cfg 400)) 160 [I 51] []) = true := by kernel_rfl
theorem tc_52 : isCard 2 isNil (readW (callW Tryz.prog (exec Tryz.prog cfg 400)) 160 [I 52] []) = true := by kernel_rfl
theorem tc_53 : isCard 2 isNil (readW (callW Tryz.prog (exec Tryz.prog cfg 400)) 160 [I 53] []) = true := by kernel_rfl
theorem tc_54 : isCard 2 isNil (readW (callW Tryz.prog (exec Tryz.prog cfg 400)) 160 [I 54] []) = true := by kernel_rfl
theorem tc_55 : isCard 2 isNil (readW (callW Tryz.prog (exec Tryz.prog cfg 400)) 160 [I 55] []) = true := by kernel_rfl
theorem tc_56 : isCard 2 isNil (readW (callW Tryz.prog (exec Tryz.prog cfg 400)) 160 [I 56] []) = true := by kernel_rfl
theorem tc_57 : isCard 2 isNil (readW (callW Tryz.prog (exec Tryz.prog cfg 400)) 160 [I 57] []) = true := by kernel_rfl
theorem tc_58 : isCard 2 isNil (readW (callW Tryz.prog (exec Tryz.prog cfg 400)) 160 [I 58] []) = true := by kernel_rfl
theorem tc_59 : isCard 2 isNil (readW (callW Tryz.prog (exec Tryz.prog cfg 400)) 160 [I 59] []) = true := by kernel_rfl
end Go.Abs.S22
