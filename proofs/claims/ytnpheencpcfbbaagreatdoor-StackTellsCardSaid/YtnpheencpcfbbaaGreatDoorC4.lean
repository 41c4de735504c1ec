/-
  Cards, by the kernel. No condition.
-/
import Derived.Test.YtnpheencpcfbbaaGreatDoorC0
set_option linter.unusedSimpArgs false
set_option linter.unusedVariables false
namespace Go.Abs.Z
open Go Go.Abs Go.Proofs
theorem tc_90 : readW (callW Tryz.prog (exec Tryz.prog cfg 400)) 179 [I 90] [] = some (.tuple [.agg (cC (cdN 90)), .nilIface], []) := by kernel_rfl
theorem tc_91 : readW (callW Tryz.prog (exec Tryz.prog cfg 400)) 179 [I 91] [] = some (.tuple [.agg (cC (cdN 91)), .nilIface], []) := by kernel_rfl
theorem tc_92 : readW (callW Tryz.prog (exec Tryz.prog cfg 400)) 179 [I 92] [] = some (.tuple [.agg (cC (cdN 92)), .nilIface], []) := by kernel_rfl
theorem tc_93 : readW (callW Tryz.prog (exec Tryz.prog cfg 400)) 179 [I 93] [] = some (.tuple [.agg (cC (cdN 93)), .nilIface], []) := by kernel_rfl
theorem tc_94 : readW (callW Tryz.prog (exec Tryz.prog cfg 400)) 179 [I 94] [] = some (.tuple [.agg (cC (cdN 94)), .nilIface], []) := by kernel_rfl
theorem tc_95 : readW (callW Tryz.prog (exec Tryz.prog cfg 400)) 179 [I 95] [] = some (.tuple [.agg (cC (cdN 95)), .nilIface], []) := by kernel_rfl
theorem tc_96 : readW (callW Tryz.prog (exec Tryz.prog cfg 400)) 179 [I 96] [] = some (.tuple [.agg (cC (cdN 96)), .nilIface], []) := by kernel_rfl
theorem tc_97 : readW (callW Tryz.prog (exec Tryz.prog cfg 400)) 179 [I 97] [] = some (.tuple [.agg (cC (cdN 97)), .nilIface], []) := by kernel_rfl
theorem tc_98 : readW (callW Tryz.prog (exec Tryz.prog cfg 400)) 179 [I 98] [] = some (.tuple [.agg (cC (cdN 98)), .nilIface], []) := by kernel_rfl
theorem tc_99 : readW (callW Tryz.prog (exec Tryz.prog cfg 400)) 179 [I 99] [] = some (.tuple [.agg (cC (cdN 99)), .nilIface], []) := by kernel_rfl
theorem tc_100 : readW (callW Tryz.prog (exec Tryz.prog cfg 400)) 179 [I 100] [] = some (.tuple [.agg (cC (cdN 100)), .nilIface], []) := by kernel_rfl
theorem tc_101 : readW (callW Tryz.prog (exec Tryz.prog cfg 400)) 179 [I 101] [] = some (.tuple [.agg (cC (cdN 101)), .nilIface], []) := by kernel_rfl
theorem tc_102 : readW (callW Tryz.prog (exec Tryz.prog cfg 400)) 179 [I 102] [] = some (.tuple [.agg (cC (cdN 102)), .nilIface], []) := by kernel_rfl
theorem tc_103 : readW (callW Tryz.prog (exec Tryz.prog cfg 400)) 179 [I 103] [] = some (.tuple [.agg (cC (cdN 103)), .nilIface], []) := by kernel_rfl
theorem tc_104 : readW (callW Tryz.prog (exec Tryz.prog cfg 400)) 179 [I 104] [] = some (.tuple [.agg (cC (cdN 104)), .nilIface], []) := by kernel_rfl
theorem tc_105 : readW (callW Tryz.prog (exec Tryz.prog cfg 400)) 179 [I 105] [] = some (.tuple [.agg (cC (cdN 105)), .nilIface], []) := by kernel_rfl
theorem tc_106 : readW (callW Tryz.prog (exec Tryz.prog cfg 400)) 179 [I 106] [] = some (.tuple [.agg (cC (cdN 106)), .nilIface], []) := by kernel_rfl
theorem tc_107 : readW (callW Tryz.prog (exec Tryz.prog cfg 400)) 179 [I 107] [] = some (.tuple [.agg (cC (cdN 107)), .nilIface], []) := by kernel_rfl
theorem tc_108 : readW (callW Tryz.prog (exec Tryz.prog cfg 400)) 179 [I 108] [] = some (.tuple [.agg (cC (cdN 108)), .nilIface], []) := by kernel_rfl
theorem tc_109 : readW (callW Tryz.prog (exec Tryz.prog cfg 400)) 179 [I 109] [] = some (.tuple [.agg (cC (cdN 109)), .nilIface], []) := by kernel_rfl
theorem tc_110 : readW (callW Tryz.prog (exec Tryz.prog cfg 400)) 179 [I 110] [] = some (.tuple [.agg (cC (cdN 110)), .nilIface], []) := by kernel_rfl
theorem tc_111 : readW (callW Tryz.prog (exec Tryz.prog cfg 400)) 179 [I 111] [] = some (.tuple [.agg (cC (cdN 111)), .nilIface], []) := by kernel_rfl
theorem tc_112 : readW (callW Tryz.prog (exec Tryz.prog cfg 400)) 179 [I 112] [] = some (.tuple [.agg (cC (cdN 112)), .nilIface], []) := by kernel_rfl
theorem tc_113 : readW (callW Tryz.prog (exec Tryz.prog cfg 400)) 179 [I 113] [] = some (.tuple [.agg (cC (cdN 113)), .nilIface], []) := by kernel_rfl
theorem tc_114 : readW (callW Tryz.prog (exec Tryz.prog cfg 400)) 179 [I 114] [] = some (.tuple [.agg (cC (cdN 114)), .nilIface], []) := by kernel_rfl
theorem tc_115 : readW (callW Tryz.prog (exec Tryz.prog cfg 400)) 179 [I 115] [] = some (.tuple [.agg (cC (cdN 115)), .nilIface], []) := by kernel_rfl
theorem tc_116 : readW (callW Tryz.prog (exec Tryz.prog cfg 400)) 179 [I 116] [] = some (.tuple [.agg (cC (cdN 116)), .nilIface], []) := by kernel_rfl
theorem tc_117 : readW (callW Tryz.prog (exec Tryz.prog cfg 400)) 179 [I 117] [] = some (.tuple [.agg (cC (cdN 117)), .nilIface], []) := by kernel_rfl
theorem tc_118 : readW (callW Tryz.prog (exec Tryz.prog cfg 400)) 179 [I 118] [] = some (.tuple [.agg (cC (cdN 118)), .nilIface], []) := by kernel_rfl
theorem tc_119 : readW (callW Tryz.prog (exec Tryz.prog cfg 400)) 179 [I 119] [] = some (.tuple [.agg (cC (cdN 119)), .nilIface], []) := by kernel_rfl
end Go.Abs.Z
