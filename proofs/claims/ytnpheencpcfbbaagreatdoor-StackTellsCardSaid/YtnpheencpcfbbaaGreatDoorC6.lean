/-
  Cards, by the kernel. No condition.
-/
import Derived.Test.YtnpheencpcfbbaaGreatDoorC0
set_option linter.unusedSimpArgs false
set_option linter.unusedVariables false
namespace Go.Abs.Z
open Go Go.Abs Go.Proofs
theorem rc_30 : readW (callW Tryz.prog (exec Tryz.prog cfg 400)) 118 [I 30] [] = some (.tuple [.agg (cD (cdN 30)), .bool true], []) := by kernel_rfl
theorem rc_31 : readW (callW Tryz.prog (exec Tryz.prog cfg 400)) 118 [I 31] [] = some (.tuple [.agg (cD (cdN 31)), .bool true], []) := by kernel_rfl
theorem rc_32 : readW (callW Tryz.prog (exec Tryz.prog cfg 400)) 118 [I 32] [] = some (.tuple [.agg (cD (cdN 32)), .bool true], []) := by kernel_rfl
theorem rc_33 : readW (callW Tryz.prog (exec Tryz.prog cfg 400)) 118 [I 33] [] = some (.tuple [.agg (cD (cdN 33)), .bool true], []) := by kernel_rfl
theorem rc_34 : readW (callW Tryz.prog (exec Tryz.prog cfg 400)) 118 [I 34] [] = some (.tuple [.agg (cD (cdN 34)), .bool true], []) := by kernel_rfl
theorem rc_35 : readW (callW Tryz.prog (exec Tryz.prog cfg 400)) 118 [I 35] [] = some (.tuple [.agg (cD (cdN 35)), .bool true], []) := by kernel_rfl
theorem rc_36 : readW (callW Tryz.prog (exec Tryz.prog cfg 400)) 118 [I 36] [] = some (.tuple [.agg (cD (cdN 36)), .bool true], []) := by kernel_rfl
theorem rc_37 : readW (callW Tryz.prog (exec Tryz.prog cfg 400)) 118 [I 37] [] = some (.tuple [.agg (cD (cdN 37)), .bool true], []) := by kernel_rfl
theorem rc_38 : readW (callW Tryz.prog (exec Tryz.prog cfg 400)) 118 [I 38] [] = some (.tuple [.agg (cD (cdN 38)), .bool true], []) := by kernel_rfl
theorem rc_39 : readW (callW Tryz.prog (exec Tryz.prog cfg 400)) 118 [I 39] [] = some (.tuple [.agg (cD (cdN 39)), .bool true], []) := by kernel_rfl
theorem rc_40 : readW (callW Tryz.prog (exec Tryz.prog cfg 400)) 118 [I 40] [] = some (.tuple [.agg (cD (cdN 40)), .bool true], []) := by kernel_rfl
theorem rc_41 : readW (callW Tryz.prog (exec Tryz.prog cfg 400)) 118 [I 41] [] = some (.tuple [.agg (cD (cdN 41)), .bool true], []) := by kernel_rfl
theorem rc_42 : readW (callW Tryz.prog (exec Tryz.prog cfg 400)) 118 [I 42] [] = some (.tuple [.agg (cD (cdN 42)), .bool true], []) := by kernel_rfl
theorem rc_43 : readW (callW Tryz.prog (exec Tryz.prog cfg 400)) 118 [I 43] [] = some (.tuple [.agg (cD (cdN 43)), .bool true], []) := by kernel_rfl
theorem rc_44 : readW (callW Tryz.prog (exec Tryz.prog cfg 400)) 118 [I 44] [] = some (.tuple [.agg (cD (cdN 44)), .bool true], []) := by kernel_rfl
theorem rc_45 : readW (callW Tryz.prog (exec Tryz.prog cfg 400)) 118 [I 45] [] = some (.tuple [.agg (cD (cdN 45)), .bool true], []) := by kernel_rfl
theorem rc_46 : readW (callW Tryz.prog (exec Tryz.prog cfg 400)) 118 [I 46] [] = some (.tuple [.agg (cD (cdN 46)), .bool true], []) := by kernel_rfl
theorem rc_47 : readW (callW Tryz.prog (exec Tryz.prog cfg 400)) 118 [I 47] [] = some (.tuple [.agg (cD (cdN 47)), .bool true], []) := by kernel_rfl
theorem rc_48 : readW (callW Tryz.prog (exec Tryz.prog cfg 400)) 118 [I 48] [] = some (.tuple [.agg (cD (cdN 48)), .bool true], []) := by kernel_rfl
theorem rc_49 : readW (callW Tryz.prog (exec Tryz.prog cfg 400)) 118 [I 49] [] = some (.tuple [.agg (cD (cdN 49)), .bool true], []) := by kernel_rfl
theorem rc_50 : readW (callW Tryz.prog (exec Tryz.prog cfg 400)) 118 [I 50] [] = some (.tuple [.agg (cD (cdN 50)), .bool true], []) := by kernel_rfl
theorem rc_51 : readW (callW Tryz.prog (exec Tryz.prog cfg 400)) 118 [I 51] [] = some (.tuple [.agg (cD (cdN 51)), .bool true], []) := by kernel_rfl
theorem rc_52 : readW (callW Tryz.prog (exec Tryz.prog cfg 400)) 118 [I 52] [] = some (.tuple [.agg (cD (cdN 52)), .bool true], []) := by kernel_rfl
theorem rc_53 : readW (callW Tryz.prog (exec Tryz.prog cfg 400)) 118 [I 53] [] = some (.tuple [.agg (cD (cdN 53)), .bool true], []) := by kernel_rfl
theorem rc_54 : readW (callW Tryz.prog (exec Tryz.prog cfg 400)) 118 [I 54] [] = some (.tuple [.agg (cD (cdN 54)), .bool true], []) := by kernel_rfl
theorem rc_55 : readW (callW Tryz.prog (exec Tryz.prog cfg 400)) 118 [I 55] [] = some (.tuple [.agg (cD (cdN 55)), .bool true], []) := by kernel_rfl
theorem rc_56 : readW (callW Tryz.prog (exec Tryz.prog cfg 400)) 118 [I 56] [] = some (.tuple [.agg (cD (cdN 56)), .bool true], []) := by kernel_rfl
theorem rc_57 : readW (callW Tryz.prog (exec Tryz.prog cfg 400)) 118 [I 57] [] = some (.tuple [.agg (cD (cdN 57)), .bool true], []) := by kernel_rfl
theorem rc_58 : readW (callW Tryz.prog (exec Tryz.prog cfg 400)) 118 [I 58] [] = some (.tuple [.agg (cD (cdN 58)), .bool true], []) := by kernel_rfl
theorem rc_59 : readW (callW Tryz.prog (exec Tryz.prog cfg 400)) 118 [I 59] [] = some (.tuple [.agg (cD (cdN 59)), .bool true], []) := by kernel_rfl
end Go.Abs.Z
