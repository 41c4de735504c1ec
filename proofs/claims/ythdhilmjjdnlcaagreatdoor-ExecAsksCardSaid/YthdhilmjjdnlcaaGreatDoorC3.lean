/-
  Kinds of cards, by the kernel. No condition.
-/
import Derived.Test.YthdhilmjjdnlcaaGreatDoorC0
set_option linter.unusedSimpArgs false
set_option linter.unusedVariables false

/- The kinds of the cards of the table. -/
namespace Go.Abs.S22
open Go Go.Abs Go.Proofs

theorem tc_60 : isCard 2 isNil (readW (callW Tryz.prog (exec Tryz.prog cfg 400)) 160 [I 60] []) = true := by kernel_rfl
theorem tc_61 : isCard 2 isNil (readW (callW Tryz.prog (exec Tryz.prog cfg 400)) 160 [I 61] []) = true := by kernel_rfl
theorem tc_62 : isCard 2 isNil (readW (callW Tryz.prog (exec Tryz.prog cfg 400)) 160 [I 62] []) = true := by kernel_rfl
theorem tc_63 : isCard 2 isNil (readW (callW Tryz.prog (exec Tryz.prog cfg 400)) 160 [I 63] []) = true := by kernel_rfl
theorem tc_64 : isCard 2 isNil (readW (callW Tryz.prog (exec Tryz.prog cfg 400)) 160 [I 64] []) = true := by kernel_rfl
theorem tc_65 : isCard 2 isNil (readW (callW Tryz.prog (exec Tryz.prog cfg 400)) 160 [I 65] []) = true := by kernel_rfl
theorem tc_66 : isCard 2 isNil (readW (callW Tryz.prog (exec Tryz.prog cfg 400)) 160 [I 66] []) = true := by kernel_rfl
theorem tc_67 : isCard 2 isNil (readW (callW Tryz.prog (exec Tryz.prog cfg 400)) 160 [I 67] []) = true := by kernel_rfl
theorem tc_68 : isCard 2 isNil (readW (callW Tryz.prog (exec Tryz.prog cfg 400)) 160 [I 68] []) = true := by kernel_rfl
theorem tc_69 : isCard 2 isNil (readW (callW Tryz.prog (exec Tryz.prog cfg 400)) 160 [I 69] []) = true := by kernel_rfl
theorem tc_70 : isCard 2 isNil (readW (callW Tryz.prog (exec Tryz.prog cfg 400)) 160 [I 70] []) = true := by kernel_rfl
theorem tc_71 : isCard 2 isNil (readW (callW Tryz.prog (exec Tryz.prog cfg 400)) 160 [I 71] []) = true := by kernel_rfl
theorem tc_72 : isCard 2 isNil (readW (callW Tryz.prog (exec Tryz.prog cfg 400)) 160 [I 72] []) = true := by kernel_rfl
theorem tc_73 : isCard 2 isNil (readW (callW Tryz.prog (exec Tryz.prog cfg 400)) 160 [I 73] []) = true := by kernel_rfl
theorem tc_74 : isCard 2 isNil (readW (callW Tryz.prog (exec Tryz.prog cfg 400)) 160 [I 74] []) = true := by kernel_rfl
theorem tc_75 : isCard 2 isNil (readW (callW Tryz.prog (exec Tryz.prog cfg 400)) 160 [I 75] []) = true := by kernel_rfl
theorem tc_76 : isCard 2 isNil (readW (callW Tryz.prog (exec Tryz.prog cfg 400)) 160 [I 76] []) = true := by kernel_rfl
theorem tc_77 : isCard 2 isNil (readW (callW Tryz.prog (exec Tryz.prog cfg 400)) 160 [I 77] []) = true := by kernel_rfl
theorem tc_78 : isCard 2 isNil (readW (callW Tryz.prog (exec Tryz.prog cfg 400)) 160 [I 78] []) = true := by kernel_rfl
theorem tc_79 : isCard 2 isNil (readW (callW Tryz.prog (exec Tryz.prog cfg 400)) 160 [I 79] []) = true := by kernel_rfl
theorem tc_80 : isCard 3 isNil (readW (callW Tryz.prog (exec Tryz.prog cfg 400)) 160 [I 80] []) = true := by kernel_rfl
theorem tc_81 : isCard 3 isNil (readW (callW Tryz.prog (exec Tryz.prog cfg 400)) 160 [I 81] []) = true := by kernel_rfl
theorem tc_82 : isCard 3 isNil (readW (callW Tryz.prog (exec Tryz.prog cfg 400)) 160 [I 82] []) = true := by kernel_rfl
theorem tc_83 : isCard 3 isNil (readW (callW Tryz.prog (exec Tryz.prog cfg 400)) 160 [I 83] []) = true := by kernel_rfl
theorem tc_84 : isCard 3 isNil (readW (callW Tryz.prog (exec Tryz.prog cfg 400)) 160 [I 84] []) = true := by kernel_rfl
theorem tc_85 : isCard 3 isNil (readW (callW Tryz.prog (exec Tryz.prog cfg 400)) 160 [I 85] []) = true := by kernel_rfl
theorem tc_86 : isCard 3 isNil (readW (callW Tryz.prog (exec Tryz.prog cfg 400)) 160 [I 86] []) = true := by kernel_rfl
theorem tc_87 : isCard 3 isNil (readW (callW Tryz.prog (exec Tryz.prog cfg 400)) 160 [I 87] []) = true := by kernel_rfl
theorem tc_88 : isCard 3 isNil (readW (callW Tryz.prog (exec Tryz.prog cfg 400)) 160 [I 88] []) = true := by kernel_rfl
theorem tc_89 : isCard 3 isNil (readW (callW Tryz.prog (exec Tryz.prog cfg 400)) 160 [I 89] []) = true := by kernel_rfl
end Go.Abs.S22
