/-
  Cards, by the kernel. No condition.
-/
import Derived.Test.YtnpheencpcfbbaaGreatDoorC0
set_option linter.unusedSimpArgs false
set_option linter.unusedVariables false
namespace Go.Abs.Z
open Go Go.Abs Go.Proofs
theorem tc_0 : readW (callW Tryz.prog (exec Tryz.prog cfg 400)) 179 [I 0] [] = some (.tuple [.agg (cC (cdN 0)), .nilIface], []) := by kernel_rfl
theorem tc_1 : readW (callW Tryz.prog (exec Tryz.prog cfg 400)) 179 [I 1] [] = some (.tuple [.agg (cC (cdN 1)), .nilIface], []) := by kernel_rfl
theorem tc_2 : readW (callW Tryz.prog (exec Tryz.prog cfg 400)) 179 [I 2] [] = some (.tuple [.agg (cC (cdN 2)), .nilIface], []) := by kernel_rfl
theorem tc_3 : readW (callW Tryz.prog (exec Tryz.prog cfg 400)) 179 [I 3] [] = some (.tuple [.agg (cC (cdN 3)), .nilIface], []) := by kernel_rfl
theorem tc_4 : readW (callW Tryz.prog (exec Tryz.prog cfg 400)) 179 [I 4] [] = some (.tuple [.agg (cC (cdN 4)), .nilIface], []) := by kernel_rfl
theorem tc_5 : readW (callW Tryz.prog (exec Tryz.prog cfg 400)) 179 [I 5] [] = some (.tuple [.agg (cC (cdN 5)), .nilIface], []) := by kernel_rfl
theorem tc_6 : readW (callW Tryz.prog (exec Tryz.prog cfg 400)) 179 [I 6] [] = some (.tuple [.agg (cC (cdN 6)), .nilIface], []) := by kernel_rfl
theorem tc_7 : readW (callW Tryz.prog (exec Tryz.prog cfg 400)) 179 [I 7] [] = some (.tuple [.agg (cC (cdN 7)), .nilIface], []) := by kernel_rfl
theorem tc_8 : readW (callW Tryz.prog (exec Tryz.prog cfg 400)) 179 [I 8] [] = some (.tuple [.agg (cC (cdN 8)), .nilIface], []) := by kernel_rfl
theorem tc_9 : readW (callW Tryz.prog (exec Tryz.prog cfg 400)) 179 [I 9] [] = some (.tuple [.agg (cC (cdN 9)), .nilIface], []) := by kernel_rfl
theorem tc_10 : readW (callW Tryz.prog (exec Tryz.prog cfg 400)) 179 [I 10] [] = some (.tuple [.agg (cC (cdN 10)), .nilIface], []) := by kernel_rfl
theorem tc_11 : readW (callW Tryz.prog (exec Tryz.prog cfg 400)) 179 [I 11] [] = some (.tuple [.agg (cC (cdN 11)), .nilIface], []) := by kernel_rfl
theorem tc_12 : readW (callW Tryz.prog (exec Tryz.prog cfg 400)) 179 [I 12] [] = some (.tuple [.agg (cC (cdN 12)), .nilIface], []) := by kernel_rfl
theorem tc_13 : readW (callW Tryz.prog (exec Tryz.prog cfg 400)) 179 [I 13] [] = some (.tuple [.agg (cC (cdN 13)), .nilIface], []) := by kernel_rfl
theorem tc_14 : readW (callW Tryz.prog (exec Tryz.prog cfg 400)) 179 [I 14] [] = some (.tuple [.agg (cC (cdN 14)), .nilIface], []) := by kernel_rfl
theorem tc_15 : readW (callW Tryz.prog (exec Tryz.prog cfg 400)) 179 [I 15] [] = some (.tuple [.agg (cC (cdN 15)), .nilIface], []) := by kernel_rfl
theorem tc_16 : readW (callW Tryz.prog (exec Tryz.prog cfg 400)) 179 [I 16] [] = some (.tuple [.agg (cC (cdN 16)), .nilIface], []) := by kernel_rfl
theorem tc_17 : readW (callW Tryz.prog (exec Tryz.prog cfg 400)) 179 [I 17] [] = some (.tuple [.agg (cC (cdN 17)), .nilIface], []) := by kernel_rfl
theorem tc_18 : readW (callW Tryz.prog (exec Tryz.prog cfg 400)) 179 [I 18] [] = some (.tuple [.agg (cC (cdN 18)), .nilIface], []) := by kernel_rfl
theorem tc_19 : readW (callW Tryz.prog (exec Tryz.prog cfg 400)) 179 [I 19] [] = some (.tuple [.agg (cC (cdN 19)), .nilIface], []) := by kernel_rfl
theorem tc_20 : readW (callW Tryz.prog (exec Tryz.prog cfg 400)) 179 [I 20] [] = some (.tuple [.agg (cC (cdN 20)), .nilIface], []) := by kernel_rfl
theorem tc_21 : readW (callW Tryz.prog (exec Tryz.prog cfg 400)) 179 [I 21] [] = some (.tuple [.agg (cC (cdN 21)), .nilIface], []) := by kernel_rfl
theorem tc_22 : readW (callW Tryz.prog (exec Tryz.prog cfg 400)) 179 [I 22] [] = some (.tuple [.agg (cC (cdN 22)), .nilIface], []) := by kernel_rfl
theorem tc_23 : readW (callW Tryz.prog (exec Tryz.prog cfg 400)) 179 [I 23] [] = some (.tuple [.agg (cC (cdN 23)), .nilIface], []) := by kernel_rfl
theorem tc_24 : readW (callW Tryz.prog (exec Tryz.prog cfg 400)) 179 [I 24] [] = some (.tuple [.agg (cC (cdN 24)), .nilIface], []) := by kernel_rfl
theorem tc_25 : readW (callW Tryz.prog (exec Tryz.prog cfg 400)) 179 [I 25] [] = some (.tuple [.agg (cC (cdN 25)), .nilIface], []) := by kernel_rfl
theorem tc_26 : readW (callW Tryz.prog (exec Tryz.prog cfg 400)) 179 [I 26] [] = some (.tuple [.agg (cC (cdN 26)), .nilIface], []) := by kernel_rfl
theorem tc_27 : readW (callW Tryz.prog (exec Tryz.prog cfg 400)) 179 [I 27] [] = some (.tuple [.agg (cC (cdN 27)), .nilIface], []) := by kernel_rfl
theorem tc_28 : readW (callW Tryz.prog (exec Tryz.prog cfg 400)) 179 [I 28] [] = some (.tuple [.agg (cC (cdN 28)), .nilIface], []) := by kernel_rfl
theorem tc_29 : readW (callW Tryz.prog (exec Tryz.prog cfg 400)) 179 [I 29] [] = some (.tuple [.agg (cC (cdN 29)), .nilIface], []) := by kernel_rfl
end Go.Abs.Z
