/-
  Cards, by the kernel. No condition.
-/
import Derived.Test.YtnpheencpcfbbaaGreatDoorC0
set_option linter.unusedSimpArgs false
set_option linter.unusedVariables false
namespace Go.Abs.Z
open Go Go.Abs Go.Proofs
theorem tc_60 : readW (callW Tryz.prog (exec Tryz.prog cfg 400)) 179 [I 60] [] = some (.tuple [.agg (cC (cdN 60)), .nilIface], []) := by kernel_rfl
theorem tc_61 : readW (callW Tryz.prog (exec Tryz.prog cfg 400)) 179 [I 61] [] = some (.tuple [.agg (cC (cdN 61)), .nilIface], []) := by kernel_rfl
theorem tc_62 : readW (callW Tryz.prog (exec Tryz.prog cfg 400)) 179 [I 62] [] = some (.tuple [.agg (cC (cdN 62)), .nilIface], []) := by kernel_rfl
theorem tc_63 : readW (callW Tryz.prog (exec Tryz.prog cfg 400)) 179 [I 63] [] = some (.tuple [.agg (cC (cdN 63)), .nilIface], []) := by kernel_rfl
theorem tc_64 : readW (callW Tryz.prog (exec Tryz.prog cfg 400)) 179 [I 64] [] = some (.tuple [.agg (cC (cdN 64)), .nilIface], []) := by kernel_rfl
theorem tc_65 : readW (callW Tryz.prog (exec Tryz.prog cfg 400)) 179 [I 65] [] = some (.tuple [.agg (cC (cdN 65)), .nilIface], []) := by kernel_rfl
theorem tc_66 : readW (callW Tryz.prog (exec Tryz.prog cfg 400)) 179 [I 66] [] = some (.tuple [.agg (cC (cdN 66)), .nilIface], []) := by kernel_rfl
theorem tc_67 : readW (callW Tryz.prog (exec Tryz.prog cfg 400)) 179 [I 67] [] = some (.tuple [.agg (cC (cdN 67)), .nilIface], []) := by kernel_rfl
theorem tc_68 : readW (callW Tryz.prog (exec Tryz.prog cfg 400)) 179 [I 68] [] = some (.tuple [.agg (cC (cdN 68)), .nilIface], []) := by kernel_rfl
theorem tc_69 : readW (callW Tryz.prog (exec Tryz.prog cfg 400)) 179 [I 69] [] = some (.tuple [.agg (cC (cdN 69)), .nilIface], []) := by kernel_rfl
theorem tc_70 : readW (callW Tryz.prog (exec Tryz.prog cfg 400)) 179 [I 70] [] = some (.tuple [.agg (cC (cdN 70)), .nilIface], []) := by kernel_rfl
theorem tc_71 : readW (callW Tryz.prog (exec Tryz.prog cfg 400)) 179 [I 71] [] = some (.tuple [.agg (cC (cdN 71)), .nilIface], []) := by kernel_rfl
theorem tc_72 : readW (callW Tryz.prog (exec Tryz.prog cfg 400)) 179 [I 72] [] = some (.tuple [.agg (cC (cdN 72)), .nilIface], []) := by kernel_rfl
theorem tc_73 : readW (callW Tryz.prog (exec Tryz.prog cfg 400)) 179 [I 73] [] = some (.tuple [.agg (cC (cdN 73)), .nilIface], []) := by kernel_rfl
theorem tc_74 : readW (callW Tryz.prog (exec Tryz.prog cfg 400)) 179 [I 74] [] = some (.tuple [.agg (cC (cdN 74)), .nilIface], []) := by kernel_rfl
theorem tc_75 : readW (callW Tryz.prog (exec Tryz.prog cfg 400)) 179 [I 75] [] = some (.tuple [.agg (cC (cdN 75)), .nilIface], []) := by kernel_rfl
theorem tc_76 : readW (callW Tryz.prog (exec Tryz.prog cfg 400)) 179 [I 76] [] = some (.tuple [.agg (cC (cdN 76)), .nilIface], []) := by kernel_rfl
theorem tc_77 : readW (callW Tryz.prog (exec Tryz.prog cfg 400)) 179 [I 77] [] = some (.tuple [.agg (cC (cdN 77)), .nilIface], []) := by kernel_rfl
theorem tc_78 : readW (callW Tryz.prog (exec Tryz.prog cfg 400)) 179 [I 78] [] = some (.tuple [.agg (cC (cdN 78)), .nilIface], []) := by kernel_rfl
theorem tc_79 : readW (callW Tryz.prog (exec Tryz.prog cfg 400)) 179 [I 79] [] = some (.tuple [.agg (cC (cdN 79)), .nilIface], []) := by kernel_rfl
theorem tc_80 : readW (callW Tryz.prog (exec Tryz.prog cfg 400)) 179 [I 80] [] = some (.tuple [.agg (cC (cdN 80)), .nilIface], []) := by kernel_rfl
theorem tc_81 : readW (callW Tryz.prog (exec Tryz.prog cfg 400)) 179 [I 81] [] = some (.tuple [.agg (cC (cdN 81)), .nilIface], []) := by kernel_rfl
theorem tc_82 : readW (callW Tryz.prog (exec Tryz.prog cfg 400)) 179 [I 82] [] = some (.tuple [.agg (cC (cdN 82)), .nilIface], []) := by kernel_rfl
theorem tc_83 : readW (callW Tryz.prog (exec Tryz.prog cfg 400)) 179 [I 83] [] = some (.tuple [.agg (cC (cdN 83)), .nilIface], []) := by kernel_rfl
theorem tc_84 : readW (callW Tryz.prog (exec Tryz.prog cfg 400)) 179 [I 84] [] = some (.tuple [.agg (cC (cdN 84)), .nilIface], []) := by kernel_rfl
theorem tc_85 : readW (callW Tryz.prog (exec Tryz.prog cfg 400)) 179 [I 85] [] = some (.tuple [.agg (cC (cdN 85)), .nilIface], []) := by kernel_rfl
theorem tc_86 : readW (callW Tryz.prog (exec Tryz.prog cfg 400)) 179 [I 86] [] = some (.tuple [.agg (cC (cdN 86)), .nilIface], []) := by kernel_rfl
theorem tc_87 : readW (callW Tryz.prog (exec Tryz.prog cfg 400)) 179 [I 87] [] = some (.tuple [.agg (cC (cdN 87)), .nilIface], []) := by kernel_rfl
theorem tc_88 : readW (callW Tryz.prog (exec Tryz.prog cfg 400)) 179 [I 88] [] = some (.tuple [.agg (cC (cdN 88)), .nilIface], []) := by kernel_rfl
theorem tc_89 : readW (callW Tryz.prog (exec Tryz.prog cfg 400)) 179 [I 89] [] = some (.tuple [.agg (cC (cdN 89)), .nilIface], []) := by kernel_rfl
end Go.Abs.Z
