/-
  Cards, by the kernel. No condition.
-/
import Derived.Test.YtnpheencpcfbbaaGreatDoorC0
set_option linter.unusedSimpArgs false
set_option linter.unusedVariables false
namespace Go.Abs.Z
open Go Go.Abs Go.Proofs
theorem rc_60 : readW (callW Tryz.prog (exec Tryz.prog cfg 400)) 118 [I 60] [] = some (.tuple [.agg (cD (cdN 60)), .bool true], []) := by kernel_rfl
theorem rc_61 : readW (callW Tryz.prog (exec Tryz.prog cfg 400)) 118 [I 61] [] = some (.tuple [.agg (cD (cdN 61)), .bool true], []) := by kernel_rfl
theorem rc_62 : readW (callW Tryz.prog (exec Tryz.prog cfg 400)) 118 [I 62] [] = some (.tuple [.agg (cD (cdN 62)), .bool true], []) := by kernel_rfl
theorem rc_63 : readW (callW Tryz.prog (exec Tryz.prog cfg 400)) 118 [I 63] [] = some (.tuple [.agg (cD (cdN 63)), .bool true], []) := by kernel_rfl
theorem rc_64 : readW (callW Tryz.prog (exec Tryz.prog cfg 400)) 118 [I 64] [] = some (.tuple [.agg (cD (cdN 64)), .bool true], []) := by kernel_rfl
theorem rc_65 : readW (callW Tryz.prog (exec Tryz.prog cfg 400)) 118 [I 65] [] = some (.tuple [.agg (cD (cdN 65)), .bool true], []) := by kernel_rfl
theorem rc_66 : readW (callW Tryz.prog (exec Tryz.prog cfg 400)) 118 [I 66] [] = some (.tuple [.agg (cD (cdN 66)), .bool true], []) := by kernel_rfl
theorem rc_67 : readW (callW Tryz.prog (exec Tryz.prog cfg 400)) 118 [I 67] [] = some (.tuple [.agg (cD (cdN 67)), .bool true], []) := by kernel_rfl
theorem rc_68 : readW (callW Tryz.prog (exec Tryz.prog cfg 400)) 118 [I 68] [] = some (.tuple [.agg (cD (cdN 68)), .bool true], []) := by kernel_rfl
theorem rc_69 : readW (callW Tryz.prog (exec Tryz.prog cfg 400)) 118 [I 69] [] = some (.tuple [.agg (cD (cdN 69)), .bool true], []) := by kernel_rfl
theorem rc_70 : readW (callW Tryz.prog (exec Tryz.prog cfg 400)) 118 [I 70] [] = some (.tuple [.agg (cD (cdN 70)), .bool true], []) := by kernel_rfl
theorem rc_71 : readW (callW Tryz.prog (exec Tryz.prog cfg 400)) 118 [I 71] [] = some (.tuple [.agg (cD (cdN 71)), .bool true], []) := by kernel_rfl
theorem rc_72 : readW (callW Tryz.prog (exec Tryz.prog cfg 400)) 118 [I 72] [] = some (.tuple [.agg (cD (cdN 72)), .bool true], []) := by kernel_rfl
theorem rc_73 : readW (callW Tryz.prog (exec Tryz.prog cfg 400)) 118 [I 73] [] = some (.tuple [.agg (cD (cdN 73)), .bool true], []) := by kernel_rfl
theorem rc_74 : readW (callW Tryz.prog (exec Tryz.prog cfg 400)) 118 [I 74] [] = some (.tuple [.agg (cD (cdN 74)), .bool true], []) := by kernel_rfl
theorem rc_75 : readW (callW Tryz.prog (exec Tryz.prog cfg 400)) 118 [I 75] [] = some (.tuple [.agg (cD (cdN 75)), .bool true], []) := by kernel_rfl
theorem rc_76 : readW (callW Tryz.prog (exec Tryz.prog cfg 400)) 118 [I 76] [] = some (.tuple [.agg (cD (cdN 76)), .bool true], []) := by kernel_rfl
theorem rc_77 : readW (callW Tryz.prog (exec Tryz.prog cfg 400)) 118 [I 77] [] = some (.tuple [.agg (cD (cdN 77)), .bool true], []) := by kernel_rfl
theorem rc_78 : readW (callW Tryz.prog (exec Tryz.prog cfg 400)) 118 [I 78] [] = some (.tuple [.agg (cD (cdN 78)), .bool true], []) := by kernel_rfl
theorem rc_79 : readW (callW Tryz.prog (exec Tryz.prog cfg 400)) 118 [I 79] [] = some (.tuple [.agg (cD (cdN 79)), .bool true], []) := by kernel_rfl
theorem rc_80 : readW (callW Tryz.prog (exec Tryz.prog cfg 400)) 118 [I 80] [] = some (.tuple [.agg (cD (cdN 80)), .bool true], []) := by kernel_rfl
theorem rc_81 : readW (callW Tryz.prog (exec Tryz.prog cfg 400)) 118 [I 81] [] = some (.tuple [.agg (cD (cdN 81)), .bool true], []) := by kernel_rfl
theorem rc_82 : readW (callW Tryz.prog (exec Tryz.prog cfg 400)) 118 [I 82] [] = some (.tuple [.agg (cD (cdN 82)), .bool true], []) := by kernel_rfl
theorem rc_83 : readW (callW Tryz.prog (exec Tryz.prog cfg 400)) 118 [I 83] [] = some (.tuple [.agg (cD (cdN 83)), .bool true], []) := by kernel_rfl
theorem rc_84 : readW (callW Tryz.prog (exec Tryz.prog cfg 400)) 118 [I 84] [] = some (.tuple [.agg (cD (cdN 84)), .bool true], []) := by kernel_rfl
theorem rc_85 : readW (callW Tryz.prog (exec Tryz.prog cfg 400)) 118 [I 85] [] = some (.tuple [.agg (cD (cdN 85)), .bool true], []) := by kernel_rfl
theorem rc_86 : readW (callW Tryz.prog (exec Tryz.prog cfg 400)) 118 [I 86] [] = some (.tuple [.agg (cD (cdN 86)), .bool true], []) := by kernel_rfl
theorem rc_87 : readW (callW Tryz.prog (exec Tryz.prog cfg 400)) 118 [I 87] [] = some (.tuple [.agg (cD (cdN 87)), .bool true], []) := by kernel_rfl
theorem rc_88 : readW (callW Tryz.prog (exec Tryz.prog cfg 400)) 118 [I 88] [] = some (.tuple [.agg (cD (cdN 88)), .bool true], []) := by kernel_rfl
theorem rc_89 : readW (callW Tryz.prog (exec Tryz.prog cfg 400)) 118 [I 89] [] = some (.tuple [.agg (cD (cdN 89)), .bool true], []) := by kernel_rfl
end Go.Abs.Z
