/-
  Kinds of cards, by the kernel. No condition.
-/
import Derived.Test.YthdhilmjjdnlcaaGreatDoorC0
set_option linter.unusedSimpArgs false
set_option linter.unusedVariables false

/- The kinds of the cards of the table. -/
namespace Go.Abs.S22
open Go Go.Abs Go.Proofs

theorem tc_90 : isCard 3 isNil (readW (callW Tryz.prog (exec Tryz.prog cfg 400)) 160 [I 90] []) = true := by kernel_rfl
theorem tc_91 : isCard 3 isNil (readW (callW Tryz.prog (exec Tryz.prog cfg 400)) 160 [I 91] []) = true := by kernel_rfl
theorem tc_92 : isCard 3 isNil (readW (callW Tryz.prog (exec Tryz.prog cfg 400)) 160 [I 92] []) = true := by kernel_rfl
theorem tc_93 : isCard 3 isNil (readW (callW Tryz.prog (exec Tryz.prog cfg 400)) 160 [I 93] []) = true := by kernel_rfl
theorem tc_94 : isCard 3 isNil (readW (callW Tryz.prog (exec Tryz.prog cfg 400)) 160 [I 94] []) = true := by kernel_rfl
theorem tc_95 : isCard 3 isNil (readW (callW Tryz.prog (exec Tryz.prog cfg 400)) 160 [I 95] []) = true := by kernel_rfl
theorem tc_96 : isCard 3 isNil (readW (callW Tryz.prog (exec Tryz.prog cfg 400)) 160 [I 96] []) = true := by kernel_rfl
theorem tc_97 : isCard 3 isNil (readW (callW Tryz.prog (exec Tryz.prog cfg 400)) 160 [I 97] []) = true := by kernel_rfl
theorem tc_98 : isCard 3 isNil (readW (callW Tryz.prog (exec Tryz.prog cfg 400)) 160 [I 98] []) = true := by kernel_rfl
theorem tc_99 : isCard 3 isNil (readW (callW Tryz.prog (exec Tryz.prog cfg 400)) 160 [I 99] []) = true := by kernel_rfl
theorem tc_100 : isCard 2 isNil (readW (callW Tryz.prog (exec Tryz.prog cfg 400)) 160 [I 100] []) = true := by kernel_rfl
theorem tc_101 : isCard 2 isNil (readW (callW Tryz.prog (exec Tryz.prog cfg 400)) 160 [I 101] []) = true := by kernel_rfl
theorem tc_102 : isCard 2 isNil (readW (callW Tryz.prog (exec Tryz.prog cfg 400)) 160 [I 102] []) = true := by kernel_rfl
theorem tc_103 : isCard 2 isNil (readW (callW Tryz.prog (exec Tryz.prog cfg 400)) 160 [I 103] []) = true := by kernel_rfl
theorem tc_104 : isCard 2 isNil (readW (callW Tryz.prog (exec Tryz.prog cfg 400)) 160 [I 104] []) = true := by kernel_rfl
theorem tc_105 : isCard 2 isNil (readW (callW Tryz.prog (exec Tryz.prog cfg 400)) 160 [I 105] []) = true := by kernel_rfl
theorem tc_106 : isCard 2 isNil (readW (callW Tryz.prog (exec Tryz.prog cfg 400)) 160 [I 106] []) = true := by kernel_rfl
theorem tc_107 : isCard 3 isNil (readW (callW Tryz.prog (exec Tryz.prog cfg 400)) 160 [I 107] []) = true := by kernel_rfl
theorem tc_108 : isCard 1 isNil (readW (callW Tryz.prog (exec Tryz.prog cfg 400)) 160 [I 108] []) = true := by kernel_rfl
theorem tc_109 : isCard 2 isNil (readW (callW Tryz.prog (exec Tryz.prog cfg 400)) 160 [I 109] []) = true := by kernel_rfl
theorem tc_110 : isCard 2 isNil (readW (callW Tryz.prog (exec Tryz.prog cfg 400)) 160 [I 110] []) = true := by kernel_rfl
theorem tc_111 : isCard 1 isNil (readW (callW Tryz.prog (exec Tryz.prog cfg 400)) 160 [I 111] []) = true := by kernel_rfl
theorem tc_112 : isCard 1 isNil (readW (callW Tryz.prog (exec Tryz.prog cfg 400)) 160 [I 112] []) = true := by kernel_rfl
theorem tc_113 : isCard 1 isNil (readW (callW Tryz.prog (exec Tryz.prog cfg 400)) 160 [I 113] []) = true := by kernel_rfl
theorem tc_114 : isCard 1 isNil (readW (callW Tryz.prog (exec Tryz.prog cfg 400)) 160 [I 114] []) = true := by kernel_rfl
theorem tc_115 : isCard 1 isNil (readW (callW Tryz.prog (exec Tryz.prog cfg 400)) 160 [I 115] []) = true := by kernel_rfl
theorem tc_116 : isCard 1 isNil (readW (callW Tryz.prog (exec Tryz.prog cfg 400)) 160 [I 116] []) = true := by kernel_rfl
theorem tc_117 : isCard 1 isNil (readW (callW Tryz.prog (exec Tryz.prog cfg 400)) 160 [I 117] []) = true := by kernel_rfl
theorem tc_118 : isCard 1 isNil (readW (callW Tryz.prog (exec Tryz.prog cfg 400)) 160 [I 118] []) = true := by kernel_rfl
theorem tc_119 : isCard 1 isNil (readW (callW Tryz.prog (exec Tryz.prog cfg 400)) 160 [I 119] []) = true := by kernel_rfl
end Go.Abs.S22
