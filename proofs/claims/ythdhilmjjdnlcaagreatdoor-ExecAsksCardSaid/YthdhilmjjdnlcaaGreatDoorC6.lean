/-
  Kinds of cards, by the kernel. No condition.
-/
import Derived.Test.YthdhilmjjdnlcaaGreatDoorC0
set_option linter.unusedSimpArgs false
set_option linter.unusedVariables false

/- The kinds of the cards in the document. -/
namespace Go.Abs.S22
open Go Go.Abs Go.Proofs

theorem rc_30 : isCard 1 isTru (readW (callW Tryz.prog (exec Tryz.prog cfg 400)) 103 [I 30] []) = true := by kernel_rfl
theorem rc_31 : isCard 1 isTru (readW (callW Tryz.prog (exec Tryz.prog cfg 400)) 103 [I 31] []) = true := by kernel_rfl
theorem rc_32 : isCard 1 isTru (readW (callW Tryz.prog (exec Tryz.prog cfg 400)) 103 [I 32] []) = true := by kernel_rfl
theorem rc_33 : isCard 1 isTru (readW (callW Tryz.prog (exec Tryz.prog cfg 400)) 103 [I 33] []) = true := by kernel_rfl
theorem rc_34 : isCard 1 isTru (readW (callW Tryz.prog (exec Tryz.prog cfg 400)) 103 [I 34] []) = true := by kernel_rfl
theorem rc_35 : isCard 1 isTru (readW (callW Tryz.prog (exec Tryz.prog cfg 400)) 103 [I 35] []) = true := by kernel_rfl
theorem rc_36 : isCard 1 isTru (readW (callW Tryz.prog (exec Tryz.prog cfg 400)) 103 [I 36] []) = true := by kernel_rfl
theorem rc_37 : isCard 1 isTru (readW (callW Tryz.prog (exec Tryz.prog cfg 400)) 103 [I 37] []) = true := by kernel_rfl
theorem rc_38 : isCard 1 isTru (readW (callW Tryz.prog (exec Tryz.prog cfg 400)) 103 [I 38] []) = true := by kernel_rfl
theorem rc_39 : isCard 1 isTru (readW (callW Tryz.prog (exec Tryz.prog cfg 400)) 103 [I 39] []) = true := by kernel_rfl
theorem rc_40 : isCard 1 isTru (readW (callW Tryz.prog (exec Tryz.prog cfg 400)) 103 [I 40] []) = true := by kernel_rfl
theorem rc_41 : isCard 1 isTru (readW (callW Tryz.prog (exec Tryz.prog cfg 400)) 103 [I 41] []) = true := by kernel_rfl
theorem rc_42 : isCard 1 isTru (readW (callW Tryz.prog (exec Tryz.prog cfg 400)) 103 [I 42] []) = true := by kernel_rfl
theorem rc_43 : isCard 1 isTru (readW (callW Tryz.prog (exec Tryz.prog cfg 400)) 103 [I 43] []) = true := by kernel_rfl
theorem rc_44 : isCard 1 isTru (readW (callW Tryz.prog (exec Tryz.prog cfg 400)) 103 [I 44] []) = true := by kernel_rfl
theorem rc_45 : isCard 1 isTru (readW (callW Tryz.prog (exec Tryz.prog cfg 400)) 103 [I 45] []) = true := by kernel_rfl
theorem rc_46 : isCard 1 isTru (readW (callW Tryz.prog (exec Tryz.prog cfg 400)) 103 [I 46] []) = true := by kernel_rfl
theorem rc_47 : isCard 1 isTru (readW (callW Tryz.prog (exec Tryz.prog cfg 400)) 103 [I 47] []) = true := by kernel_rfl
theorem rc_48 : isCard 1 isTru (readW (callW Tryz.prog (exec Tryz.prog cfg 400)) 103 [I 48] []) = true := by kernel_rfl
theorem rc_49 : isCard 1 isTru (readW (callW Tryz.prog (exec Tryz.prog cfg 400)) 103 [I 49] []) = true := by kernel_rfl
theorem rc_50 : isCard 2 isTru (readW (callW Tryz.prog (exec Tryz.prog cfg 400)) 103 [I 50] []) = true := by kernel_rfl
theorem rc_51 : isCard 2 isTru (readW (callW Tryz.prog (exec Tryz.prog cfg 400)) 103 [I 51] []) = true := by kernel_rfl
theorem rc_52 : isCard 2 isTru (readW (callW Tryz.prog (exec Tryz.prog cfg 400)) 103 [I 52] []) = true := by kernel_rfl
theorem rc_53 : isCard 2 isTru (readW (callW Tryz.prog (exec Tryz.prog cfg 400)) 103 [I 53] []) = true := by kernel_rfl
theorem rc_54 : isCard 2 isTru (readW (callW Tryz.prog (exec Tryz.prog cfg 400)) 103 [I 54] []) = true := by kernel_rfl
theorem rc_55 : isCard 2 isTru (readW (callW Tryz.prog (exec Tryz.prog cfg 400)) 103 [I 55] []) = true := by kernel_rfl
theorem rc_56 : isCard 2 isTru (readW (callW Tryz.prog (exec Tryz.prog cfg 400)) 103 [I 56] []) = true := by kernel_rfl
theorem rc_57 : isCard 2 isTru (readW (callW Tryz.prog (exec Tryz.prog cfg 400)) 103 [I 57] []) = true := by kernel_rfl
theorem rc_58 : isCard 2 isTru (readW (callW Tryz.prog (exec Tryz.prog cfg 400)) 103 [I 58] []) = true := by kernel_rfl
theorem rc_59 : isCard 2 isTru (readW (callW Tryz.prog (exec Tryz.prog cfg 400)) 103 [I 59] []) = true := by kernel_rfl
end Go.Abs.S22
