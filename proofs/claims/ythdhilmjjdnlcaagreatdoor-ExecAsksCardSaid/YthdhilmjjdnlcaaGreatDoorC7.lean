/-
  Kinds of cards, by the kernel. No condition.
-/
import Derived.Test.YthdhilmjjdnlcaaGreatDoorC0
set_option linter.unusedSimpArgs false
set_option linter.unusedVariables false

/- The kinds of the cards in the document. -/
namespace Go.Abs.S22
open Go Go.Abs Go.Proofs

theorem rc_60 : isCard 2 isTru (readW (callW Tryz.prog (exec Tryz.prog cfg 400)) 103 [I 60] []) = true := by kernel_rfl
theorem rc_61 : isCard 2 isTru (readW (callW Tryz.prog (exec Tryz.prog cfg 400)) 103 [I 61] []) = true := by kernel_rfl
theorem rc_62 : isCard 2 isTru (readW (callW Tryz.prog (exec Tryz.prog cfg 400)) 103 [I 62] []) = true := by kernel_rfl
theorem rc_63 : isCard 2 isTru (readW (callW Tryz.prog (exec Tryz.prog cfg 400)) 103 [I 63] []) = true := by kernel_rfl
theorem rc_64 : isCard 2 isTru (readW (callW Tryz.prog (exec Tryz.prog cfg 400)) 103 [I 64] []) = true := by kernel_rfl
theorem rc_65 : isCard 2 isTru (readW (callW Tryz.prog (exec Tryz.prog cfg 400)) 103 [I 65] []) = true := by kernel_rfl
theorem rc_66 : isCard 2 isTru (readW (callW Tryz.prog (exec Tryz.prog cfg 400)) 103 [I 66] []) = true := by kernel_rfl
theorem rc_67 : isCard 2 isTru (readW (callW Tryz.prog (exec Tryz.prog cfg 400)) 103 [I 67] []) = true := by kernel_rfl
theorem rc_68 : isCard 2 isTru (readW (callW Tryz.prog (exec Tryz.prog cfg 400)) 103 [I 68] []) = true := by kernel_rfl
theorem rc_69 : isCard 2 isTru (readW (callW Tryz.prog (exec Tryz.prog cfg 400)) 103 [I 69] []) = true := by kernel_rfl
theorem rc_70 : isCard 2 isTru (readW (callW Tryz.prog (exec Tryz.prog cfg 400)) 103 [I 70] []) = true := by kernel_rfl
theorem rc_71 : isCard 2 isTru (readW (callW Tryz.prog (exec Tryz.prog cfg 400)) 103 [I 71] []) = true := by kernel_rfl
theorem rc_72 : isCard 2 isTru (readW (callW Tryz.prog (exec Tryz.prog cfg 400)) 103 [I 72] []) = true := by kernel_rfl
theorem rc_73 : isCard 2 isTru (readW (callW Tryz.prog (exec Tryz.prog cfg 400)) 103 [I 73] []) = true := by kernel_rfl
theorem rc_74 : isCard 2 isTru (readW (callW Tryz.prog (exec Tryz.prog cfg 400)) 103 [I 74] []) = true := by kernel_rfl
theorem rc_75 : isCard 2 isTru (readW (callW Tryz.prog (exec Tryz.prog cfg 400)) 103 [I 75] []) = true := by kernel_rfl
theorem rc_76 : isCard 2 isTru (readW (callW Tryz.prog (exec Tryz.prog cfg 400)) 103 [I 76] []) = true := by kernel_rfl
theorem rc_77 : isCard 2 isTru (readW (callW Tryz.prog (exec Tryz.prog cfg 400)) 103 [I 77] []) = true := by kernel_rfl
theorem rc_78 : isCard 2 isTru (readW (callW Tryz.prog (exec Tryz.prog cfg 400)) 103 [I 78] []) = true := by kernel_rfl
theorem rc_79 : isCard 2 isTru (readW (callW Tryz.prog (exec Tryz.prog cfg 400)) 103 [I 79] []) = true := by kernel_rfl
theorem rc_80 : isCard 3 isTru (readW (callW Tryz.prog (exec Tryz.prog cfg 400)) 103 [I 80] []) = true := by kernel_rfl
theorem rc_81 : isCard 3 isTru (readW (callW Tryz.prog (exec Tryz.prog cfg 400)) 103 [I 81] []) = true := by kernel_rfl
theorem rc_82 : isCard 3 isTru (readW (callW Tryz.prog (exec Tryz.prog cfg 400)) 103 [I 82] []) = true := by kernel_rfl
theorem rc_83 : isCard 3 isTru (readW (callW Tryz.prog (exec Tryz.prog cfg 400)) 103 [I 83] []) = true := by kernel_rfl
theorem rc_84 : isCard 3 isTru (readW (callW Tryz.prog (exec Tryz.prog cfg 400)) 103 [I 84] []) = true := by kernel_rfl
theorem rc_85 : isCard 3 isTru (readW (callW Tryz.prog (exec Tryz.prog cfg 400)) 103 [I 85] []) = true := by kernel_rfl
theorem rc_86 : isCard 3 isTru (readW (callW Tryz.prog (exec Tryz.prog cfg 400)) 103 [I 86] []) = true := by kernel_rfl
theorem rc_87 : isCard 3 isTru (readW (callW Tryz.prog (exec Tryz.prog cfg 400)) 103 [I 87] []) = true := by kernel_rfl
theorem rc_88 : isCard 3 isTru (readW (callW Tryz.prog (exec Tryz.prog cfg 400)) 103 [I 88] []) = true := by kernel_rfl
theorem rc_89 : isCard 3 isTru (readW (callW Tryz.prog (exec Tryz.prog cfg 400)) 103 [I 89] []) = true := by kernel_rfl
end Go.Abs.S22
