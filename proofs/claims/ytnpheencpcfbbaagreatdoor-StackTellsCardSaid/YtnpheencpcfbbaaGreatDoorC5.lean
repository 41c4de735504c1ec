/-
  Cards, by the kernel. No condition.
-/
import Derived.Test.YtnpheencpcfbbaaGreatDoorC0
set_option linter.unusedSimpArgs false
set_option linter.unusedVariables false
namespace Go.Abs.Z
open Go Go.Abs Go.Proofs
theorem rc_0 : readW (callW Tryz.prog (exec Tryz.prog cfg 400)) 118 [I 0] [] = some (.tuple [.agg (cD (cdN 0)), .bool true], []) := by kernel_rfl
theorem rc_1 : readW (callW Tryz.prog (exec Tryz.prog cfg 400)) 118 [I 1] [] = some (.tuple [.agg (cD (cdN 1)), .bool true], []) := by kernel_rfl
theorem rc_2 : readW (callW Tryz.prog (exec Tryz.prog cfg 400)) 118 [I 2] [] = some (.tuple [.agg (cD (cdN 2)), .bool true], []) := by kernel_rfl
theorem rc_3 : readW (callW Tryz.prog (exec Tryz.prog cfg 400)) 118 [I 3] [] = some (.tuple [.agg (cD (cdN 3)), .bool true], []) := by kernel_rfl
theorem rc_4 : readW (callW Tryz.prog (exec Tryz.prog cfg 400)) 118 [I 4] [] = some (.tuple [.agg (cD (cdN 4)), .bool true], []) := by kernel_rfl
theorem rc_5 : readW (callW Tryz.prog (exec Tryz.prog cfg 400)) 118 [I 5] [] = some (.tuple [.agg (cD (cdN 5)), .bool true], []) := by kernel_rfl
theorem rc_6 : readW (callW Tryz.prog (exec Tryz.prog cfg 400)) 118 [I 6] [] = some (.tuple [.agg (cD (cdN 6)), .bool true], []) := by kernel_rfl
theorem rc_7 : readW (callW Tryz.prog (exec Tryz.prog cfg 400)) 118 [I 7] [] = some (.tuple [.agg (cD (cdN 7)), .bool true], []) := by kernel_rfl
theorem rc_8 : readW (callW Tryz.prog (exec Tryz.prog cfg 400)) 118 [I 8] [] = some (.tuple [.agg (cD (cdN 8)), .bool true], []) := by kernel_rfl
theorem rc_9 : readW (callW Tryz.prog (exec Tryz.prog cfg 400)) 118 [I 9] [] = some (.tuple [.agg (cD (cdN 9)), .bool true], []) := by kernel_rfl
theorem rc_10 : readW (callW Tryz.prog (exec Tryz.prog cfg 400)) 118 [I 10] [] = some (.tuple [.agg (cD (cdN 10)), .bool true], []) := by kernel_rfl
theorem rc_11 : readW (callW Tryz.prog (exec Tryz.prog cfg 400)) 118 [I 11] [] = some (.tuple [.agg (cD (cdN 11)), .bool true], []) := by kernel_rfl
theorem rc_12 : readW (callW Tryz.prog (exec Tryz.prog cfg 400)) 118 [I 12] [] = some (.tuple [.agg (cD (cdN 12)), .bool true], []) := by kernel_rfl
theorem rc_13 : readW (callW Tryz.prog (exec Tryz.prog cfg 400)) 118 [I 13] [] = some (.tuple [.agg (cD (cdN 13)), .bool true], []) := by kernel_rfl
theorem rc_14 : readW (callW Tryz.prog (exec Tryz.prog cfg 400)) 118 [I 14] [] = some (.tuple [.agg (cD (cdN 14)), .bool true], []) := by kernel_rfl
theorem rc_15 : readW (callW Tryz.prog (exec Tryz.prog cfg 400)) 118 [I 15] [] = some (.tuple [.agg (cD (cdN 15)), .bool true], []) := by kernel_rfl
theorem rc_16 : readW (callW Tryz.prog (exec Tryz.prog cfg 400)) 118 [I 16] [] = some (.tuple [.agg (cD (cdN 16)), .bool true], []) := by kernel_rfl
theorem rc_17 : readW (callW Tryz.prog (exec Tryz.prog cfg 400)) 118 [I 17] [] = some (.tuple [.agg (cD (cdN 17)), .bool true], []) := by kernel_rfl
theorem rc_18 : readW (callW Tryz.prog (exec Tryz.prog cfg 400)) 118 [I 18] [] = some (.tuple [.agg (cD (cdN 18)), .bool true], []) := by kernel_rfl
theorem rc_19 : readW (callW Tryz.prog (exec Tryz.prog cfg 400)) 118 [I 19] [] = some (.tuple [.agg (cD (cdN 19)), .bool true], []) := by kernel_rfl
theorem rc_20 : readW (callW Tryz.prog (exec Tryz.prog cfg 400)) 118 [I 20] [] = some (.tuple [.agg (cD (cdN 20)), .bool true], []) := by kernel_rfl
theorem rc_21 : readW (callW Tryz.prog (exec Tryz.prog cfg 400)) 118 [I 21] [] = some (.tuple [.agg (cD (cdN 21)), .bool true], []) := by kernel_rfl
theorem rc_22 : readW (callW Tryz.prog (exec Tryz.prog cfg 400)) 118 [I 22] [] = some (.tuple [.agg (cD (cdN 22)), .bool true], []) := by kernel_rfl
theorem rc_23 : readW (callW Tryz.prog (exec Tryz.prog cfg 400)) 118 [I 23] [] = some (.tuple [.agg (cD (cdN 23)), .bool true], []) := by kernel_rfl
theorem rc_24 : readW (callW Tryz.prog (exec Tryz.prog cfg 400)) 118 [I 24] [] = some (.tuple [.agg (cD (cdN 24)), .bool true], []) := by kernel_rfl
theorem rc_25 : readW (callW Tryz.prog (exec Tryz.prog cfg 400)) 118 [I 25] [] = some (.tuple [.agg (cD (cdN 25)), .bool true], []) := by kernel_rfl
theorem rc_26 : readW (callW Tryz.prog (exec Tryz.prog cfg 400)) 118 [I 26] [] = some (.tuple [.agg (cD (cdN 26)), .bool true], []) := by kernel_rfl
theorem rc_27 : readW (callW Tryz.prog (exec Tryz.prog cfg 400)) 118 [I 27] [] = some (.tuple [.agg (cD (cdN 27)), .bool true], []) := by kernel_rfl
theorem rc_28 : readW (callW Tryz.prog (exec Tryz.prog cfg 400)) 118 [I 28] [] = some (.tuple [.agg (cD (cdN 28)), .bool true], []) := by kernel_rfl
theorem rc_29 : readW (callW Tryz.prog (exec Tryz.prog cfg 400)) 118 [I 29] [] = some (.tuple [.agg (cD (cdN 29)), .bool true], []) := by kernel_rfl
end Go.Abs.Z
