/-
  Cards, by the kernel. No condition.
-/
import Derived.Test.YtnpheencpcfbbaaGreatDoorC0
set_option linter.unusedSimpArgs false
set_option linter.unusedVariables false
namespace Go.Abs.Z
open Go Go.Abs Go.Proofs
theorem rc_90 : readW (callW Tryz.prog (exec Tryz.prog cfg 400)) 118 [I 90] [] = some (.tuple [.agg (cD (cdN 90)), .bool true], []) := by kernel_rfl
theorem rc_91 : readW (callW Tryz.prog (exec Tryz.prog cfg 400)) 118 [I 91] [] = some (.tuple [.agg (cD (cdN 91)), .bool true], []) := by kernel_rfl
theorem rc_92 : readW (callW Tryz.prog (exec Tryz.prog cfg 400)) 118 [I 92] [] = some (.tuple [.agg (cD (cdN 92)), .bool true], []) := by kernel_rfl
theorem rc_93 : readW (callW Tryz.prog (exec Tryz.prog cfg 400)) 118 [I 93] [] = some (.tuple [.agg (cD (cdN 93)), .bool true], []) := by kernel_rfl
theorem rc_94 : readW (callW Tryz.prog (exec Tryz.prog cfg 400)) 118 [I 94] [] = some (.tuple [.agg (cD (cdN 94)), .bool true], []) := by kernel_rfl
theorem rc_95 : readW (callW Tryz.prog (exec Tryz.prog cfg 400)) 118 [I 95] [] = some (.tuple [.agg (cD (cdN 95)), .bool true], []) := by kernel_rfl
theorem rc_96 : readW (callW Tryz.prog (exec Tryz.prog cfg 400)) 118 [I 96] [] = some (.tuple [.agg (cD (cdN 96)), .bool true], []) := by kernel_rfl
theorem rc_97 : readW (callW Tryz.prog (exec Tryz.prog cfg 400)) 118 [I 97] [] = some (.tuple [.agg (cD (cdN 97)), .bool true], []) := by kernel_rfl
theorem rc_98 : readW (callW Tryz.prog (exec Tryz.prog cfg 400)) 118 [I 98] [] = some (.tuple [.agg (cD (cdN 98)), .bool true], []) := by kernel_rfl
theorem rc_99 : readW (callW Tryz.prog (exec Tryz.prog cfg 400)) 118 [I 99] [] = some (.tuple [.agg (cD (cdN 99)), .bool true], []) := by kernel_rfl
theorem rc_100 : readW (callW Tryz.prog (exec Tryz.prog cfg 400)) 118 [I 100] [] = some (.tuple [.agg (cD (cdN 100)), .bool true], []) := by kernel_rfl
theorem rc_101 : readW (callW Tryz.prog (exec Tryz.prog cfg 400)) 118 [I 101] [] = some (.tuple [.agg (cD (cdN 101)), .bool true], []) := by kernel_rfl
theorem rc_102 : readW (callW Tryz.prog (exec Tryz.prog cfg 400)) 118 [I 102] [] = some (.tuple [.agg (cD (cdN 102)), .bool true], []) := by kernel_rfl
theorem rc_103 : readW (callW Tryz.prog (exec Tryz.prog cfg 400)) 118 [I 103] [] = some (.tuple [.agg (cD (cdN 103)), .bool true], []) := by kernel_rfl
theorem rc_104 : readW (callW Tryz.prog (exec Tryz.prog cfg 400)) 118 [I 104] [] = some (.tuple [.agg (cD (cdN 104)), .bool true], []) := by kernel_rfl
theorem rc_105 : readW (callW Tryz.prog (exec Tryz.prog cfg 400)) 118 [I 105] [] = some (.tuple [.agg (cD (cdN 105)), .bool true], []) := by kernel_rfl
theorem rc_106 : readW (callW Tryz.prog (exec Tryz.prog cfg 400)) 118 [I 106] [] = some (.tuple [.agg (cD (cdN 106)), .bool true], []) := by kernel_rfl
theorem rc_107 : readW (callW Tryz.prog (exec Tryz.prog cfg 400)) 118 [I 107] [] = some (.tuple [.agg (cD (cdN 107)), .bool true], []) := by kernel_rfl
theorem rc_108 : readW (callW Tryz.prog (exec Tryz.prog cfg 400)) 118 [I 108] [] = some (.tuple [.agg (cD (cdN 108)), .bool true], []) := by kernel_rfl
theorem rc_109 : readW (callW Tryz.prog (exec Tryz.prog cfg 400)) 118 [I 109] [] = some (.tuple [.agg (cD (cdN 109)), .bool true], []) := by kernel_rfl
theorem rc_110 : readW (callW Tryz.prog (exec Tryz.prog cfg 400)) 118 [I 110] [] = some (.tuple [.agg (cD (cdN 110)), .bool true], []) := by kernel_rfl
theorem rc_111 : readW (callW Tryz.prog (exec Tryz.prog cfg 400)) 118 [I 111] [] = some (.tuple [.agg (cD (cdN 111)), .bool true], []) := by kernel_rfl
theorem rc_112 : readW (callW Tryz.prog (exec Tryz.prog cfg 400)) 118 [I 112] [] = some (.tuple [.agg (cD (cdN 112)), .bool true], []) := by kernel_rfl
theorem rc_113 : readW (callW Tryz.prog (exec Tryz.prog cfg 400)) 118 [I 113] [] = some (.tuple [.agg (cD (cdN 113)), .bool true], []) := by kernel_rfl
theorem rc_114 : readW (callW Tryz.prog (exec Tryz.prog cfg 400)) 118 [I 114] [] = some (.tuple [.agg (cD (cdN 114)), .bool true], []) := by kernel_rfl
theorem rc_115 : readW (callW Tryz.prog (exec Tryz.prog cfg 400)) 118 [I 115] [] = some (.tuple [.agg (cD (cdN 115)), .bool true], []) := by kernel_rfl
theorem rc_116 : readW (callW Tryz.prog (exec Tryz.prog cfg 400)) 118 [I 116] [] = some (.tuple [.agg (cD (cdN 116)), .bool true], []) := by kernel_rfl
theorem rc_117 : readW (callW Tryz.prog (exec Tryz.prog cfg 400)) 118 [I 117] [] = some (.tuple [.agg (cD (cdN 117)), .bool true], []) := by kernel_rfl
theorem rc_118 : readW (callW Tryz.prog (exec Tryz.prog cfg 400)) 118 [I 118] [] = some (.tuple [.agg (cD (cdN 118)), .bool true], []) := by kernel_rfl
theorem rc_119 : readW (callW Tryz.prog (exec Tryz.prog cfg 400)) 118 [I 119] [] = some (.tuple [.agg (cD (cdN 119)), .bool true], []) := by kernel_rfl
end Go.Abs.Z
