/-
  Kinds of cards, by the kernel. No condition.
-/
import Derived.Test.YthdhilmjjdnlcaaGreatDoorC0
set_option linter.unusedSimpArgs false
set_option linter.unusedVariables false

/- The kinds of the cards in the document. -/
namespace Go.Abs.S22
open Go Go.Abs Go.Proofs

theorem rc_90 : isCard 3 isTru (readW (callW Tryz.prog (exec Tryz.prog cfg 400)) 103 [I 90] []) = true := by kernel_rfl
theorem rc_91 : isCard 3 isTru (readW (callW Tryz.prog (exec Tryz.prog cfg 400)) 103 [I 91] []) = true := by kernel_rfl
theorem rc_92 : isCard 3 isTru (readW (callW Tryz.prog (exec Tryz.prog cfg 400)) 103 [I 92] []) = true := by kernel_rfl
theorem rc_93 : isCard 3 isTru (readW (callW Tryz.prog (exec Tryz.prog cfg 400)) 103 [I 93] []) = true := by kernel_rfl
theorem rc_94 : isCard 3 isTru (readW (callW Tryz.prog (exec Tryz.prog cfg 400)) 103 [I 94] []) = true := by kernel_rfl
theorem rc_95 : isCard 3 isTru (readW (callW Tryz.prog (exec Tryz.prog cfg 400)) 103 [I 95] []) = true := by kernel_rfl
theorem rc_96 : isCard 3 isTru (readW (callW Tryz.prog (exec Tryz.prog cfg 400)) 103 [I 96] []) = true := by kernel_rfl
theorem rc_97 : isCard 3 isTru (readW (callW Tryz.prog (exec Tryz.prog cfg 400)) 103 [I 97] []) = true := by kernel_rfl
theorem rc_98 : isCard 3 isTru (readW (callW Tryz.prog (exec Tryz.prog cfg 400)) 103 [I 98] []) = true := by kernel_rfl
theorem rc_99 : isCard 3 isTru (readW (callW Tryz.prog (exec Tryz.prog cfg 400)) 103 [I 99] []) = true := by kernel_rfl
theorem rc_100 : isCard 2 isTru (readW (callW Tryz.prog (exec Tryz.prog cfg 400)) 103 [I 100] []) = true := by kernel_rfl
theorem rc_101 : isCard 2 isTru (readW (callW Tryz.prog (exec Tryz.prog cfg 400)) 103 [I 101] []) = true := by kernel_rfl
theorem rc_102 : isCard 2 isTru (readW (callW Tryz.prog (exec Tryz.prog cfg 400)) 103 [I 102] []) = true := by kernel_rfl
theorem rc_103 : isCard 2 isTru (readW (callW Tryz.prog (exec Tryz.prog cfg 400)) 103 [I 103] []) = true := by kernel_rfl
theorem rc_104 : isCard 2 isTru (readW (callW Tryz.prog (exec Tryz.prog cfg 400)) 103 [I 104] []) = true := by kernel_rfl
theorem rc_105 : isCard 2 isTru (readW (callW Tryz.prog (exec Tryz.prog cfg 400)) 103 [I 105] []) = true := by kernel_rfl
theorem rc_106 : isCard 2 isTru (readW (callW Tryz.prog (exec Tryz.prog cfg 400)) 103 [I 106] []) = true := by kernel_rfl
theorem rc_107 : isCard 3 isTru (readW (callW Tryz.prog (exec Tryz.prog cfg 400)) 103 [I 107] []) = true := by kernel_rfl
theorem rc_108 : isCard 1 isTru (readW (callW Tryz.prog (exec Tryz.prog cfg 400)) 103 [I 108] []) = true := by kernel_rfl
theorem rc_109 : isCard 2 isTru (readW (callW Tryz.prog (exec Tryz.prog cfg 400)) 103 [I 109] []) = true := by kernel_rfl
theorem rc_110 : isCard 2 isTru (readW (callW Tryz.prog (exec Tryz.prog cfg 400)) 103 [I 110] []) = true := by kernel_rfl
theorem rc_111 : isCard 1 isTru (readW (callW Tryz.prog (exec Tryz.prog cfg 400)) 103 [I 111] []) = true := by kernel_rfl
theorem rc_112 : isCard 1 isTru (readW (callW Tryz.prog (exec Tryz.prog cfg 400)) 103 [I 112] []) = true := by kernel_rfl
theorem rc_113 : isCard 1 isTru (readW (callW Tryz.prog (exec Tryz.prog cfg 400)) 103 [I 113] []) = true := by kernel_rfl
theorem rc_114 : isCard 1 isTru (readW (callW Tryz.prog (exec Tryz.prog cfg 400)) 103 [I 114] []) = true := by kernel_rfl
theorem rc_115 : isCard 1 isTru (readW (callW Tryz.prog (exec Tryz.prog cfg 400)) 103 [I 115] []) = true := by kernel_rfl
theorem rc_116 : isCard 1 isTru (readW (callW Tryz.prog (exec Tryz.prog cfg 400)) 103 [I 116] []) = true := by kernel_rfl
theorem rc_117 : isCard 1 isTru (readW (callW Tryz.prog (exec Tryz.prog cfg 400)) 103 [I 117] []) = true := by kernel_rfl
theorem rc_118 : isCard 1 isTru (readW (callW Tryz.prog (exec Tryz.prog cfg 400)) 103 [I 118] []) = true := by kernel_rfl
theorem rc_119 : isCard 1 isTru (readW (callW Tryz.prog (exec Tryz.prog cfg 400)) 103 [I 119] []) = true := by kernel_rfl
end Go.Abs.S22
