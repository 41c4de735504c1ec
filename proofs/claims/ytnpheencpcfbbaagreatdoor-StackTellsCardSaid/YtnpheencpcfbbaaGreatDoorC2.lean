/-
  Cards, by the kernel. No condition.
-/
import Derived.Test.YtnpheencpcfbbaaGreatDoorC0
set_option linter.unusedSimpArgs false
set_option linter.unusedVariables false
namespace Go.Abs.Z
open Go Go.Abs Go.Proofs
theorem tc_30 : readW (callW Tryz.prog (exec Tryz.prog cfg 400)) 179 [I 30] [] = some (.tuple [.agg (cC (cdN 30)), .nilIface], []) := by kernel_rfl
theorem tc_31 : readW (callW Tryz.prog (exec Tryz.prog cfg 400)) 179 [I 31] [] = some (.tuple [.agg (cC (cdN 31)), .nilIface], []) := by kernel_rfl
theorem tc_32 : readW (callW Tryz.prog (exec Tryz.prog cfg 400)) 179 [I 32] [] = some (.tuple [.agg (cC (cdN 32)), .nilIface], []) := by kernel_rfl
theorem tc_33 : readW (callW Tryz.prog (exec Tryz.prog cfg 400)) 179 [I 33] [] = some (.tuple [.agg (cC (cdN 33)), .nilIface], []) := by kernel_rfl
theorem tc_34 : readW (callW Tryz.prog (exec Tryz.prog cfg 400)) 179 [I 34] [] = some (.tuple [.agg (cC (cdN 34)), .nilIface], []) := by kernel_rfl
theorem tc_35 : readW (callW Tryz.prog (exec Tryz.prog cfg 400)) 179 [I 35] [] = some (.tuple [.agg (cC (cdN 35)), .nilIface], []) := by kernel_rfl
theorem tc_36 : readW (callW Tryz.prog (exec Tryz.prog cfg 400)) 179 [I 36] [] = some (.tuple [.agg (cC (cdN 36)), .nilIface], []) := by kernel_rfl
theorem tc_37 : readW (callW Tryz.prog (exec Tryz.prog cfg 400)) 179 [I 37] [] = some (.tuple [.agg (cC (cdN 37)), .nilIface], []) := by kernel_rfl
theorem tc_38 : readW (callW Tryz.prog (exec Tryz.prog cfg 400)) 179 [I 38] [] = some (.tuple [.agg (cC (cdN 38)), .nilIface], []) := by kernel_rfl
theorem tc_39 : readW (callW Tryz.prog (exec Tryz.prog cfg 400)) 179 [I 39] [] = some (.tuple [.agg (cC (cdN 39)), .nilIface], []) := by kernel_rfl
theorem tc_40 : readW (callW Tryz.prog (exec Tryz.prog cfg 400)) 179 [I 40] [] = some (.tuple [.agg (cC (cdN 40)), .nilIface], []) := by kernel_rfl
theorem tc_41 : readW (callW Tryz.prog (exec Tryz.prog cfg 400)) 179 [I 41] [] = some (.tuple [.agg (cC (cdN 41)), .nilIface], []) := by kernel_rfl
theorem tc_42 : readW (callW Tryz.prog (exec Tryz.prog cfg 400)) 179 [I 42] [] = some (.tuple [.agg (cC (cdN 42)), .nilIface], []) := by kernel_rfl
theorem tc_43 : readW (callW Tryz.prog (exec Tryz.prog cfg 400)) 179 [I 43] [] = some (.tuple [.agg (cC (cdN 43)), .nilIface], []) := by kernel_rfl
theorem tc_44 : readW (callW Tryz.prog (exec Tryz.prog cfg 400)) 179 [I 44] [] = some (.tuple [.agg (cC (cdN 44)), .nilIface], []) := by kernel_rfl
theorem tc_45 : readW (callW Tryz.prog (exec Tryz.prog cfg 400)) 179 [I 45] [] = some (.tuple [.agg (cC (cdN 45)), .nilIface], []) := by kernel_rfl
theorem tc_46 : readW (callW Tryz.prog (exec Tryz.prog cfg 400)) 179 [I 46] [] = some (.tuple [.agg (cC (cdN 46)), .nilIface], []) := by kernel_rfl
theorem tc_47 : readW (callW Tryz.prog (exec Tryz.prog cfg 400)) 179 [I 47] [] = some (.tuple [.agg (cC (cdN 47)), .nilIface], []) := by kernel_rfl
theorem tc_48 : readW (callW Tryz.prog (exec Tryz.prog cfg 400)) 179 [I 48] [] = some (.tuple [.agg (cC (cdN 48)), .nilIface], []) := by kernel_rfl
theorem tc_49 : readW (callW Tryz.prog (exec Tryz.prog cfg 400)) 179 [I 49] [] = some (.tuple [.agg (cC (cdN 49)), .nilIface], []) := by kernel_rfl
theorem tc_50 : readW (callW Tryz.prog (exec Tryz.prog cfg 400)) 179 [I 50] [] = some (.tuple [.agg (cC (cdN 50)), .nilIface], []) := by kernel_rfl
theorem tc_51 : readW (callW Tryz.prog (exec Tryz.prog cfg 400)) 179 [I 51] [] = some (.tuple [.agg (cC (cdN 51)), .nilIface], []) := by kernel_rfl
theorem tc_52 : readW (callW Tryz.prog (exec Tryz.prog cfg 400)) 179 [I 52] [] = some (.tuple [.agg (cC (cdN 52)), .nilIface], []) := by kernel_rfl
theorem tc_53 : readW (callW Tryz.prog (exec Tryz.prog cfg 400)) 179 [I 53] [] = some (.tuple [.agg (cC (cdN 53)), .nilIface], []) := by kernel_rfl
theorem tc_54 : readW (callW Tryz.prog (exec Tryz.prog cfg 400)) 179 [I 54] [] = some (.tuple [.agg (cC (cdN 54)), .nilIface], []) := by kernel_rfl
theorem tc_55 : readW (callW Tryz.prog (exec Tryz.prog cfg 400)) 179 [I 55] [] = some (.tuple [.agg (cC (cdN 55)), .nilIface], []) := by kernel_rfl
theorem tc_56 : readW (callW Tryz.prog (exec Tryz.prog cfg 400)) 179 [I 56] [] = some (.tuple [.agg (cC (cdN 56)), .nilIface], []) := by kernel_rfl
theorem tc_57 : readW (callW Tryz.prog (exec Tryz.prog cfg 400)) 179 [I 57] [] = some (.tuple [.agg (cC (cdN 57)), .nilIface], []) := by kernel_rfl
theorem tc_58 : readW (callW Tryz.prog (exec Tryz.prog cfg 400)) 179 [I 58] [] = some (.tuple [.agg (cC (cdN 58)), .nilIface], []) := by kernel_rfl
theorem tc_59 : readW (callW Tryz.prog (exec Tryz.prog cfg 400)) 179 [I 59] [] = some (.tuple [.agg (cC (cdN 59)), .nilIface], []) := by kernel_rfl
end Go.Abs.Z
