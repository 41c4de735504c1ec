/-
  The cards by their numbers; creatures and groups as lists. No condition.
-/
import Derived.Test.YtnpheencpcfbbaaGreatDoorC1
import Derived.Test.YtnpheencpcfbbaaGreatDoorC2
import Derived.Test.YtnpheencpcfbbaaGreatDoorC3
import Derived.Test.YtnpheencpcfbbaaGreatDoorC4
import Derived.Test.YtnpheencpcfbbaaGreatDoorC5
import Derived.Test.YtnpheencpcfbbaaGreatDoorC6
import Derived.Test.YtnpheencpcfbbaaGreatDoorC7
import Derived.Test.YtnpheencpcfbbaaGreatDoorC8
import Derived.Test.YtnpheencpcfbbaaGreatDoorW2
set_option linter.unusedSimpArgs false
set_option linter.unusedVariables false
namespace Go.Abs.Z
open Go Go.Abs Go.Proofs
theorem by_num {n : Int} (h0 : 0 ≤ n) (h1 : n ≤ 119) {p : Int → Prop} (h : ∀ m : Nat, m < 120 → p m) : p n := by
  have := h n.toNat (by omega)
  rwa [Int.toNat_of_nonneg h0] at this
theorem tc_all : ∀ m : Nat, m < 120 → readW (callW Tryz.prog (exec Tryz.prog cfg 400)) 179 [I m] [] = some (.tuple [.agg (cC (cdN m)), .nilIface], []) := by
  intro m hm
  by_cases h0_120 : m < 60
  ·
   by_cases h0_60 : m < 30
   ·
    by_cases h0_30 : m < 15
    ·
     by_cases h0_15 : m < 7
     ·
      by_cases h0_7 : m < 3
      ·
       by_cases h0_3 : m < 1
       ·
        obtain rfl : m = 0 := by omega
        exact tc_0
       ·
        by_cases h1_3 : m < 2
        ·
         obtain rfl : m = 1 := by omega
         exact tc_1
        ·
         obtain rfl : m = 2 := by omega
         exact tc_2
      ·
       by_cases h3_7 : m < 5
       ·
        by_cases h3_5 : m < 4
        ·
         obtain rfl : m = 3 := by omega
         exact tc_3
        ·
         obtain rfl : m = 4 := by omega
         exact tc_4
       ·
        by_cases h5_7 : m < 6
        ·
         obtain rfl : m = 5 := by omega
         exact tc_5
        ·
         obtain rfl : m = 6 := by omega
         exact tc_6
     ·
      by_cases h7_15 : m < 11
      ·
       by_cases h7_11 : m < 9
       ·
        by_cases h7_9 : m < 8
        ·
         obtain rfl : m = 7 := by omega
         exact tc_7
        ·
         obtain rfl : m = 8 := by omega
         exact tc_8
       ·
        by_cases h9_11 : m < 10
        ·
         obtain rfl : m = 9 := by omega
         exact tc_9
        ·
         obtain rfl : m = 10 := by omega
         exact tc_10
      ·
       by_cases h11_15 : m < 13
       ·
        by_cases h11_13 : m < 12
        ·
         obtain rfl : m = 11 := by omega
         exact tc_11
        ·
         obtain rfl : m = 12 := by omega
         exact tc_12
       ·
        by_cases h13_15 : m < 14
        ·
         obtain rfl : m = 13 := by omega
         exact tc_13
        ·
         obtain rfl : m = 14 := by omega
         exact tc_14
    ·
     by_cases h15_30 : m < 22
     ·
      by_cases h15_22 : m < 18
      ·
       by_cases h15_18 : m < 16
       ·
        obtain rfl : m = 15 := by omega
        exact tc_15
       ·
        by_cases h16_18 : m < 17
        ·
         obtain rfl : m = 16 := by omega
         exact tc_16
        ·
         obtain rfl : m = 17 := by omega
         exact tc_17
      ·
       by_cases h18_22 : m < 20
       ·
        by_cases h18_20 : m < 19
        ·
         obtain rfl : m = 18 := by omega
         exact tc_18
        ·
         obtain rfl : m = 19 := by omega
         exact tc_19
       ·
        by_cases h20_22 : m < 21
        ·
         obtain rfl : m = 20 := by omega
         exact tc_20
        ·
         obtain rfl : m = 21 := by omega
         exact tc_21
     ·
      by_cases h22_30 : m < 26
      ·
       by_cases h22_26 : m < 24
       ·
        by_cases h22_24 : m < 23
        ·
         obtain rfl : m = 22 := by omega
         exact tc_22
        ·
         obtain rfl : m = 23 := by omega
         exact tc_23
       ·
        by_cases h24_26 : m < 25
        ·
         obtain rfl : m = 24 := by omega
         exact tc_24
        ·
         obtain rfl : m = 25 := by omega
         exact tc_25
      ·
       by_cases h26_30 : m < 28
       ·
        by_cases h26_28 : m < 27
        ·
         obtain rfl : m = 26 := by omega
         exact tc_26
        ·
         obtain rfl : m = 27 := by omega
         exact tc_27
       ·
        by_cases h28_30 : m < 29
        ·
         obtain rfl : m = 28 := by omega
         exact tc_28
        ·
         obtain rfl : m = 29 := by omega
         exact tc_29
   ·
    by_cases h30_60 : m < 45
    ·
     by_cases h30_45 : m < 37
     ·
      by_cases h30_37 : m < 33
      ·
       by_cases h30_33 : m < 31
       ·
        obtain rfl : m = 30 := by omega
        exact tc_30
       ·
        by_cases h31_33 : m < 32
        ·
         obtain rfl : m = 31 := by omega
         exact tc_31
        ·
         obtain rfl : m = 32 := by omega
         exact tc_32
      ·
       by_cases h33_37 : m < 35
       ·
        by_cases h33_35 : m < 34
        ·
         obtain rfl : m = 33 := by omega
         exact tc_33
        ·
         obtain rfl : m = 34 := by omega
         exact tc_34
       ·
        by_cases h35_37 : m < 36
        ·
         obtain rfl : m = 35 := by omega
         exact tc_35
        ·
         obtain rfl : m = 36 := by omega
         exact tc_36
     ·
      by_cases h37_45 : m < 41
      ·
       by_cases h37_41 : m < 39
       ·
        by_cases h37_39 : m < 38
        ·
         obtain rfl : m = 37 := by omega
         exact tc_37
        ·
         obtain rfl : m = 38 := by omega
         exact tc_38
       ·
        by_cases h39_41 : m < 40
        ·
         obtain rfl : m = 39 := by omega
         exact tc_39
        ·
         obtain rfl : m = 40 := by omega
         exact tc_40
      ·
       by_cases h41_45 : m < 43
       ·
        by_cases h41_43 : m < 42
        ·
         obtain rfl : m = 41 := by omega
         exact tc_41
        ·
         obtain rfl : m = 42 := by omega
         exact tc_42
       ·
        by_cases h43_45 : m < 44
        ·
         obtain rfl : m = 43 := by omega
         exact tc_43
        ·
         obtain rfl : m = 44 := by omega
         exact tc_44
    ·
     by_cases h45_60 : m < 52
     ·
      by_cases h45_52 : m < 48
      ·
       by_cases h45_48 : m < 46
       ·
        obtain rfl : m = 45 := by omega
        exact tc_45
       ·
        by_cases h46_48 : m < 47
        ·
         obtain rfl : m = 46 := by omega
         exact tc_46
        ·
         obtain rfl : m = 47 := by omega
         exact tc_47
      ·
       by_cases h48_52 : m < 50
       ·
        by_cases h48_50 : m < 49
        ·
         obtain rfl : m = 48 := by omega
         exact tc_48
        ·
         obtain rfl : m = 49 := by omega
         exact tc_49
       ·
        by_cases h50_52 : m < 51
        ·
         obtain rfl : m = 50 := by omega
         exact tc_50
        ·
         obtain rfl : m = 51 := by omega
         exact tc_51
     ·
      by_cases h52_60 : m < 56
      ·
       by_cases h52_56 : m < 54
       ·
        by_cases h52_54 : m < 53
        ·
         obtain rfl : m = 52 := by omega
         exact tc_52
        ·
         obtain rfl : m = 53 := by omega
         exact tc_53
       ·
        by_cases h54_56 : m < 55
        ·
         obtain rfl : m = 54 := by omega
         exact tc_54
        ·
         obtain rfl : m = 55 := by omega
         exact tc_55
      ·
       by_cases h56_60 : m < 58
       ·
        by_cases h56_58 : m < 57
        ·
         obtain rfl : m = 56 := by omega
         exact tc_56
        ·
         obtain rfl : m = 57 := by omega
         exact tc_57
       ·
        by_cases h58_60 : m < 59
        ·
         obtain rfl : m = 58 := by omega
         exact tc_58
        ·
         obtain rfl : m = 59 := by omega
         exact tc_59
  ·
   by_cases h60_120 : m < 90
   ·
    by_cases h60_90 : m < 75
    ·
     by_cases h60_75 : m < 67
     ·
      by_cases h60_67 : m < 63
      ·
       by_cases h60_63 : m < 61
       ·
        obtain rfl : m = 60 := by omega
        exact tc_60
       ·
        by_cases h61_63 : m < 62
        ·
         obtain rfl : m = 61 := by omega
         exact tc_61
        ·
         obtain rfl : m = 62 := by omega
         exact tc_62
      ·
       by_cases h63_67 : m < 65
       ·
        by_cases h63_65 : m < 64
        ·
         obtain rfl : m = 63 := by omega
         exact tc_63
        ·
         obtain rfl : m = 64 := by omega
         exact tc_64
       ·
        by_cases h65_67 : m < 66
        ·
         obtain rfl : m = 65 := by omega
         exact tc_65
        ·
         obtain rfl : m = 66 := by omega
         exact tc_66
     ·
      by_cases h67_75 : m < 71
      ·
       by_cases h67_71 : m < 69
       ·
        by_cases h67_69 : m < 68
        ·
         obtain rfl : m = 67 := by omega
         exact tc_67
        ·
         obtain rfl : m = 68 := by omega
         exact tc_68
       ·
        by_cases h69_71 : m < 70
        ·
         obtain rfl : m = 69 := by omega
         exact tc_69
        ·
         obtain rfl : m = 70 := by omega
         exact tc_70
      ·
       by_cases h71_75 : m < 73
       ·
        by_cases h71_73 : m < 72
        ·
         obtain rfl : m = 71 := by omega
         exact tc_71
        ·
         obtain rfl : m = 72 := by omega
         exact tc_72
       ·
        by_cases h73_75 : m < 74
        ·
         obtain rfl : m = 73 := by omega
         exact tc_73
        ·
         obtain rfl : m = 74 := by omega
         exact tc_74
    ·
     by_cases h75_90 : m < 82
     ·
      by_cases h75_82 : m < 78
      ·
       by_cases h75_78 : m < 76
       ·
        obtain rfl : m = 75 := by omega
        exact tc_75
       ·
        by_cases h76_78 : m < 77
        ·
         obtain rfl : m = 76 := by omega
         exact tc_76
        ·
         obtain rfl : m = 77 := by omega
         exact tc_77
      ·
       by_cases h78_82 : m < 80
       ·
        by_cases h78_80 : m < 79
        ·
         obtain rfl : m = 78 := by omega
         exact tc_78
        ·
         obtain rfl : m = 79 := by omega
         exact tc_79
       ·
        by_cases h80_82 : m < 81
        ·
         obtain rfl : m = 80 := by omega
         exact tc_80
        ·
         obtain rfl : m = 81 := by omega
         exact tc_81
     ·
      by_cases h82_90 : m < 86
      ·
       by_cases h82_86 : m < 84
       ·
        by_cases h82_84 : m < 83
        ·
         obtain rfl : m = 82 := by omega
         exact tc_82
        ·
         obtain rfl : m = 83 := by omega
         exact tc_83
       ·
        by_cases h84_86 : m < 85
        ·
         obtain rfl : m = 84 := by omega
         exact tc_84
        ·
         obtain rfl : m = 85 := by omega
         exact tc_85
      ·
       by_cases h86_90 : m < 88
       ·
        by_cases h86_88 : m < 87
        ·
         obtain rfl : m = 86 := by omega
         exact tc_86
        ·
         obtain rfl : m = 87 := by omega
         exact tc_87
       ·
        by_cases h88_90 : m < 89
        ·
         obtain rfl : m = 88 := by omega
         exact tc_88
        ·
         obtain rfl : m = 89 := by omega
         exact tc_89
   ·
    by_cases h90_120 : m < 105
    ·
     by_cases h90_105 : m < 97
     ·
      by_cases h90_97 : m < 93
      ·
       by_cases h90_93 : m < 91
       ·
        obtain rfl : m = 90 := by omega
        exact tc_90
       ·
        by_cases h91_93 : m < 92
        ·
         obtain rfl : m = 91 := by omega
         exact tc_91
        ·
         obtain rfl : m = 92 := by omega
         exact tc_92
      ·
       by_cases h93_97 : m < 95
       ·
        by_cases h93_95 : m < 94
        ·
         obtain rfl : m = 93 := by omega
         exact tc_93
        ·
         obtain rfl : m = 94 := by omega
         exact tc_94
       ·
        by_cases h95_97 : m < 96
        ·
         obtain rfl : m = 95 := by omega
         exact tc_95
        ·
         obtain rfl : m = 96 := by omega
         exact tc_96
     ·
      by_cases h97_105 : m < 101
      ·
       by_cases h97_101 : m < 99
       ·
        by_cases h97_99 : m < 98
        ·
         obtain rfl : m = 97 := by omega
         exact tc_97
        ·
         obtain rfl : m = 98 := by omega
         exact tc_98
       ·
        by_cases h99_101 : m < 100
        ·
         obtain rfl : m = 99 := by omega
         exact tc_99
        ·
         obtain rfl : m = 100 := by omega
         exact tc_100
      ·
       by_cases h101_105 : m < 103
       ·
        by_cases h101_103 : m < 102
        ·
         obtain rfl : m = 101 := by omega
         exact tc_101
        ·
         obtain rfl : m = 102 := by omega
         exact tc_102
       ·
        by_cases h103_105 : m < 104
        ·
         obtain rfl : m = 103 := by omega
         exact tc_103
        ·
         obtain rfl : m = 104 := by omega
         exact tc_104
    ·
     by_cases h105_120 : m < 112
     ·
      by_cases h105_112 : m < 108
      ·
       by_cases h105_108 : m < 106
       ·
        obtain rfl : m = 105 := by omega
        exact tc_105
       ·
        by_cases h106_108 : m < 107
        ·
         obtain rfl : m = 106 := by omega
         exact tc_106
        ·
         obtain rfl : m = 107 := by omega
         exact tc_107
      ·
       by_cases h108_112 : m < 110
       ·
        by_cases h108_110 : m < 109
        ·
         obtain rfl : m = 108 := by omega
         exact tc_108
        ·
         obtain rfl : m = 109 := by omega
         exact tc_109
       ·
        by_cases h110_112 : m < 111
        ·
         obtain rfl : m = 110 := by omega
         exact tc_110
        ·
         obtain rfl : m = 111 := by omega
         exact tc_111
     ·
      by_cases h112_120 : m < 116
      ·
       by_cases h112_116 : m < 114
       ·
        by_cases h112_114 : m < 113
        ·
         obtain rfl : m = 112 := by omega
         exact tc_112
        ·
         obtain rfl : m = 113 := by omega
         exact tc_113
       ·
        by_cases h114_116 : m < 115
        ·
         obtain rfl : m = 114 := by omega
         exact tc_114
        ·
         obtain rfl : m = 115 := by omega
         exact tc_115
      ·
       by_cases h116_120 : m < 118
       ·
        by_cases h116_118 : m < 117
        ·
         obtain rfl : m = 116 := by omega
         exact tc_116
        ·
         obtain rfl : m = 117 := by omega
         exact tc_117
       ·
        by_cases h118_120 : m < 119
        ·
         obtain rfl : m = 118 := by omega
         exact tc_118
        ·
         obtain rfl : m = 119 := by omega
         exact tc_119
theorem rc_all : ∀ m : Nat, m < 120 → readW (callW Tryz.prog (exec Tryz.prog cfg 400)) 118 [I m] [] = some (.tuple [.agg (cD (cdN m)), .bool true], []) := by
  intro m hm
  by_cases h0_120 : m < 60
  ·
   by_cases h0_60 : m < 30
   ·
    by_cases h0_30 : m < 15
    ·
     by_cases h0_15 : m < 7
     ·
      by_cases h0_7 : m < 3
      ·
       by_cases h0_3 : m < 1
       ·
        obtain rfl : m = 0 := by omega
        exact rc_0
       ·
        by_cases h1_3 : m < 2
        ·
         obtain rfl : m = 1 := by omega
         exact rc_1
        ·
         obtain rfl : m = 2 := by omega
         exact rc_2
      ·
       by_cases h3_7 : m < 5
       ·
        by_cases h3_5 : m < 4
        ·
         obtain rfl : m = 3 := by omega
         exact rc_3
        ·
         obtain rfl : m = 4 := by omega
         exact rc_4
       ·
        by_cases h5_7 : m < 6
        ·
         obtain rfl : m = 5 := by omega
         exact rc_5
        ·
         obtain rfl : m = 6 := by omega
         exact rc_6
     ·
      by_cases h7_15 : m < 11
      ·
       by_cases h7_11 : m < 9
       ·
        by_cases h7_9 : m < 8
        ·
         obtain rfl : m = 7 := by omega
         exact rc_7
        ·
         obtain rfl : m = 8 := by omega
         exact rc_8
       ·
        by_cases h9_11 : m < 10
        ·
         obtain rfl : m = 9 := by omega
         exact rc_9
        ·
         obtain rfl : m = 10 := by omega
         exact rc_10
      ·
       by_cases h11_15 : m < 13
       ·
        by_cases h11_13 : m < 12
        ·
         obtain rfl : m = 11 := by omega
         exact rc_11
        ·
         obtain rfl : m = 12 := by omega
         exact rc_12
       ·
        by_cases h13_15 : m < 14
        ·
         obtain rfl : m = 13 := by omega
         exact rc_13
        ·
         obtain rfl : m = 14 := by omega
         exact rc_14
    ·
     by_cases h15_30 : m < 22
     ·
      by_cases h15_22 : m < 18
      ·
       by_cases h15_18 : m < 16
       ·
        obtain rfl : m = 15 := by omega
        exact rc_15
       ·
        by_cases h16_18 : m < 17
        ·
         obtain rfl : m = 16 := by omega
         exact rc_16
        ·
         obtain rfl : m = 17 := by omega
         exact rc_17
      ·
       by_cases h18_22 : m < 20
       ·
        by_cases h18_20 : m < 19
        ·
         obtain rfl : m = 18 := by omega
         exact rc_18
        ·
         obtain rfl : m = 19 := by omega
         exact rc_19
       ·
        by_cases h20_22 : m < 21
        ·
         obtain rfl : m = 20 := by omega
         exact rc_20
        ·
         obtain rfl : m = 21 := by omega
         exact rc_21
     ·
      by_cases h22_30 : m < 26
      ·
       by_cases h22_26 : m < 24
       ·
        by_cases h22_24 : m < 23
        ·
         obtain rfl : m = 22 := by omega
         exact rc_22
        ·
         obtain rfl : m = 23 := by omega
         exact rc_23
       ·
        by_cases h24_26 : m < 25
        ·
         obtain rfl : m = 24 := by omega
         exact rc_24
        ·
         obtain rfl : m = 25 := by omega
         exact rc_25
      ·
       by_cases h26_30 : m < 28
       ·
        by_cases h26_28 : m < 27
        ·
         obtain rfl : m = 26 := by omega
         exact rc_26
        ·
         obtain rfl : m = 27 := by omega
         exact rc_27
       ·
        by_cases h28_30 : m < 29
        ·
         obtain rfl : m = 28 := by omega
         exact rc_28
        ·
         obtain rfl : m = 29 := by omega
         exact rc_29
   ·
    by_cases h30_60 : m < 45
    ·
     by_cases h30_45 : m < 37
     ·
      by_cases h30_37 : m < 33
      ·
       by_cases h30_33 : m < 31
       ·
        obtain rfl : m = 30 := by omega
        exact rc_30
       ·
        by_cases h31_33 : m < 32
        ·
         obtain rfl : m = 31 := by omega
         exact rc_31
        ·
         obtain rfl : m = 32 := by omega
         exact rc_32
      ·
       by_cases h33_37 : m < 35
       ·
        by_cases h33_35 : m < 34
        ·
         obtain rfl : m = 33 := by omega
         exact rc_33
        ·
         obtain rfl : m = 34 := by omega
         exact rc_34
       ·
        by_cases h35_37 : m < 36
        ·
         obtain rfl : m = 35 := by omega
         exact rc_35
        ·
         obtain rfl : m = 36 := by omega
         exact rc_36
     ·
      by_cases h37_45 : m < 41
      ·
       by_cases h37_41 : m < 39
       ·
        by_cases h37_39 : m < 38
        ·
         obtain rfl : m = 37 := by omega
         exact rc_37
        ·
         obtain rfl : m = 38 := by omega
         exact rc_38
       ·
        by_cases h39_41 : m < 40
        ·
         obtain rfl : m = 39 := by omega
         exact rc_39
        ·
         obtain rfl : m = 40 := by omega
         exact rc_40
      ·
       by_cases h41_45 : m < 43
       ·
        by_cases h41_43 : m < 42
        ·
         obtain rfl : m = 41 := by omega
         exact rc_41
        ·
         obtain rfl : m = 42 := by omega
         exact rc_42
       ·
        by_cases h43_45 : m < 44
        ·
         obtain rfl : m = 43 := by omega
         exact rc_43
        ·
         obtain rfl : m = 44 := by omega
         exact rc_44
    ·
     by_cases h45_60 : m < 52
     ·
      by_cases h45_52 : m < 48
      ·
       by_cases h45_48 : m < 46
       ·
        obtain rfl : m = 45 := by omega
        exact rc_45
       ·
        by_cases h46_48 : m < 47
        ·
         obtain rfl : m = 46 := by omega
         exact rc_46
        ·
         obtain rfl : m = 47 := by omega
         exact rc_47
      ·
       by_cases h48_52 : m < 50
       ·
        by_cases h48_50 : m < 49
        ·
         obtain rfl : m = 48 := by omega
         exact rc_48
        ·
         obtain rfl : m = 49 := by omega
         exact rc_49
       ·
        by_cases h50_52 : m < 51
        ·
         obtain rfl : m = 50 := by omega
         exact rc_50
        ·
         obtain rfl : m = 51 := by omega
         exact rc_51
     ·
      by_cases h52_60 : m < 56
      ·
       by_cases h52_56 : m < 54
       ·
        by_cases h52_54 : m < 53
        ·
         obtain rfl : m = 52 := by omega
         exact rc_52
        ·
         obtain rfl : m = 53 := by omega
         exact rc_53
       ·
        by_cases h54_56 : m < 55
        ·
         obtain rfl : m = 54 := by omega
         exact rc_54
        ·
         obtain rfl : m = 55 := by omega
         exact rc_55
      ·
       by_cases h56_60 : m < 58
       ·
        by_cases h56_58 : m < 57
        ·
         obtain rfl : m = 56 := by omega
         exact rc_56
        ·
         obtain rfl : m = 57 := by omega
         exact rc_57
       ·
        by_cases h58_60 : m < 59
        ·
         obtain rfl : m = 58 := by omega
         exact rc_58
        ·
         obtain rfl : m = 59 := by omega
         exact rc_59
  ·
   by_cases h60_120 : m < 90
   ·
    by_cases h60_90 : m < 75
    ·
     by_cases h60_75 : m < 67
     ·
      by_cases h60_67 : m < 63
      ·
       by_cases h60_63 : m < 61
       ·
        obtain rfl : m = 60 := by omega
        exact rc_60
       ·
        by_cases h61_63 : m < 62
        ·
         obtain rfl : m = 61 := by omega
         exact rc_61
        ·
         obtain rfl : m = 62 := by omega
         exact rc_62
      ·
       by_cases h63_67 : m < 65
       ·
        by_cases h63_65 : m < 64
        ·
         obtain rfl : m = 63 := by omega
         exact rc_63
        ·
         obtain rfl : m = 64 := by omega
         exact rc_64
       ·
        by_cases h65_67 : m < 66
        ·
         obtain rfl : m = 65 := by omega
         exact rc_65
        ·
         obtain rfl : m = 66 := by omega
         exact rc_66
     ·
      by_cases h67_75 : m < 71
      ·
       by_cases h67_71 : m < 69
       ·
        by_cases h67_69 : m < 68
        ·
         obtain rfl : m = 67 := by omega
         exact rc_67
        ·
         obtain rfl : m = 68 := by omega
         exact rc_68
       ·
        by_cases h69_71 : m < 70
        ·
         obtain rfl : m = 69 := by omega
         exact rc_69
        ·
         obtain rfl : m = 70 := by omega
         exact rc_70
      ·
       by_cases h71_75 : m < 73
       ·
        by_cases h71_73 : m < 72
        ·
         obtain rfl : m = 71 := by omega
         exact rc_71
        ·
         obtain rfl : m = 72 := by omega
         exact rc_72
       ·
        by_cases h73_75 : m < 74
        ·
         obtain rfl : m = 73 := by omega
         exact rc_73
        ·
         obtain rfl : m = 74 := by omega
         exact rc_74
    ·
     by_cases h75_90 : m < 82
     ·
      by_cases h75_82 : m < 78
      ·
       by_cases h75_78 : m < 76
       ·
        obtain rfl : m = 75 := by omega
        exact rc_75
       ·
        by_cases h76_78 : m < 77
        ·
         obtain rfl : m = 76 := by omega
         exact rc_76
        ·
         obtain rfl : m = 77 := by omega
         exact rc_77
      ·
       by_cases h78_82 : m < 80
       ·
        by_cases h78_80 : m < 79
        ·
         obtain rfl : m = 78 := by omega
         exact rc_78
        ·
         obtain rfl : m = 79 := by omega
         exact rc_79
       ·
        by_cases h80_82 : m < 81
        ·
         obtain rfl : m = 80 := by omega
         exact rc_80
        ·
         obtain rfl : m = 81 := by omega
         exact rc_81
     ·
      by_cases h82_90 : m < 86
      ·
       by_cases h82_86 : m < 84
       ·
        by_cases h82_84 : m < 83
        ·
         obtain rfl : m = 82 := by omega
         exact rc_82
        ·
         obtain rfl : m = 83 := by omega
         exact rc_83
       ·
        by_cases h84_86 : m < 85
        ·
         obtain rfl : m = 84 := by omega
         exact rc_84
        ·
         obtain rfl : m = 85 := by omega
         exact rc_85
      ·
       by_cases h86_90 : m < 88
       ·
        by_cases h86_88 : m < 87
        ·
         obtain rfl : m = 86 := by omega
         exact rc_86
        ·
         obtain rfl : m = 87 := by omega
         exact rc_87
       ·
        by_cases h88_90 : m < 89
        ·
         obtain rfl : m = 88 := by omega
         exact rc_88
        ·
         obtain rfl : m = 89 := by omega
         exact rc_89
   ·
    by_cases h90_120 : m < 105
    ·
     by_cases h90_105 : m < 97
     ·
      by_cases h90_97 : m < 93
      ·
       by_cases h90_93 : m < 91
       ·
        obtain rfl : m = 90 := by omega
        exact rc_90
       ·
        by_cases h91_93 : m < 92
        ·
         obtain rfl : m = 91 := by omega
         exact rc_91
        ·
         obtain rfl : m = 92 := by omega
         exact rc_92
      ·
       by_cases h93_97 : m < 95
       ·
        by_cases h93_95 : m < 94
        ·
         obtain rfl : m = 93 := by omega
         exact rc_93
        ·
         obtain rfl : m = 94 := by omega
         exact rc_94
       ·
        by_cases h95_97 : m < 96
        ·
         obtain rfl : m = 95 := by omega
         exact rc_95
        ·
         obtain rfl : m = 96 := by omega
         exact rc_96
     ·
      by_cases h97_105 : m < 101
      ·
       by_cases h97_101 : m < 99
       ·
        by_cases h97_99 : m < 98
        ·
         obtain rfl : m = 97 := by omega
         exact rc_97
        ·
         obtain rfl : m = 98 := by omega
         exact rc_98
       ·
        by_cases h99_101 : m < 100
        ·
         obtain rfl : m = 99 := by omega
         exact rc_99
        ·
         obtain rfl : m = 100 := by omega
         exact rc_100
      ·
       by_cases h101_105 : m < 103
       ·
        by_cases h101_103 : m < 102
        ·
         obtain rfl : m = 101 := by omega
         exact rc_101
        ·
         obtain rfl : m = 102 := by omega
         exact rc_102
       ·
        by_cases h103_105 : m < 104
        ·
         obtain rfl : m = 103 := by omega
         exact rc_103
        ·
         obtain rfl : m = 104 := by omega
         exact rc_104
    ·
     by_cases h105_120 : m < 112
     ·
      by_cases h105_112 : m < 108
      ·
       by_cases h105_108 : m < 106
       ·
        obtain rfl : m = 105 := by omega
        exact rc_105
       ·
        by_cases h106_108 : m < 107
        ·
         obtain rfl : m = 106 := by omega
         exact rc_106
        ·
         obtain rfl : m = 107 := by omega
         exact rc_107
      ·
       by_cases h108_112 : m < 110
       ·
        by_cases h108_110 : m < 109
        ·
         obtain rfl : m = 108 := by omega
         exact rc_108
        ·
         obtain rfl : m = 109 := by omega
         exact rc_109
       ·
        by_cases h110_112 : m < 111
        ·
         obtain rfl : m = 110 := by omega
         exact rc_110
        ·
         obtain rfl : m = 111 := by omega
         exact rc_111
     ·
      by_cases h112_120 : m < 116
      ·
       by_cases h112_116 : m < 114
       ·
        by_cases h112_114 : m < 113
        ·
         obtain rfl : m = 112 := by omega
         exact rc_112
        ·
         obtain rfl : m = 113 := by omega
         exact rc_113
       ·
        by_cases h114_116 : m < 115
        ·
         obtain rfl : m = 114 := by omega
         exact rc_114
        ·
         obtain rfl : m = 115 := by omega
         exact rc_115
      ·
       by_cases h116_120 : m < 118
       ·
        by_cases h116_118 : m < 117
        ·
         obtain rfl : m = 116 := by omega
         exact rc_116
        ·
         obtain rfl : m = 117 := by omega
         exact rc_117
       ·
        by_cases h118_120 : m < 119
        ·
         obtain rfl : m = 118 := by omega
         exact rc_118
        ·
         obtain rfl : m = 119 := by omega
         exact rc_119
theorem tcard (n : Int) (h0 : 0 ≤ n) (h1 : n ≤ 119) : ∀ k σ, 400 ≤ k → readW (callW Tryz.prog (exec Tryz.prog cfg k)) 179 [I n] σ = some (.tuple [.agg (cC (cdN n)), .nilIface], σ) :=
  fun _ _ hk => readW_le hk (by_num h0 h1 (p := fun n => readW (callW Tryz.prog (exec Tryz.prog cfg 400)) 179 [I n] [] = some (.tuple [.agg (cC (cdN n)), .nilIface], [])) tc_all)
theorem rcard (n : Int) (h0 : 0 ≤ n) (h1 : n ≤ 119) : ∀ k σ, 400 ≤ k → readW (callW Tryz.prog (exec Tryz.prog cfg k)) 118 [I n] σ = some (.tuple [.agg (cD (cdN n)), .bool true], σ) :=
  fun _ _ hk => readW_le hk (by_num h0 h1 (p := fun n => readW (callW Tryz.prog (exec Tryz.prog cfg 400)) 118 [I n] [] = some (.tuple [.agg (cD (cdN n)), .bool true], [])) rc_all)
end Go.Abs.Z
namespace Go.Abs.Z
open Go Go.Abs Go.Proofs
theorem ap_bd {n : Nat} (h : n ≤ 100000) : (n + 1 + 256) * 8 ≤ 2 ^ 46 := Nat.le_trans (show (n + 1 + 256) * 8 ≤ 1000000000 by omega) (by decide)
theorem giv2 {P : Program} {n : Nat} {rs : Array ResultVar} {fr : List AV} {σ σ' : Sto} {vs : List AV} {r : AV} (h1 : resultsA P σ fr rs.toList = some vs) (h2 : snap n 6 σ (tupleA vs) = some (r, σ')) (h3 : r.free = true) : givesA P n rs fr σ = some r := by
  unfold givesA
  simp only [h1, h2, h3, if_true]
def flt (p : Int → Prop) [DecidablePred p] (xs : List Int) : List Int := xs.filter fun x => decide (p x)
theorem flt_len {p : Int → Prop} [DecidablePred p] {xs ys : List Int} {i : Nat} (h : flt p (xs.take i) = ys) : ys.length ≤ i := by
  subst h
  exact Nat.le_trans (List.length_filter_le _ _) (by rw [List.length_take]; omega)
theorem take_getD {xs : List Int} {i : Nat} (hi : i < xs.length) : xs.take (i + 1) = xs.take i ++ [xs.getD i 0] := by
  rw [List.take_add_one, List.getElem?_eq_getElem hi, List.getD, List.getElem?_eq_getElem hi]; rfl
theorem fskip {p : Int → Prop} [DecidablePred p] {xs ys : List Int} {i : Nat} (h : flt p (xs.take i) = ys) (hi : i < xs.length) (hp : ¬ p (xs.getD i 0)) : flt p (xs.take (i + 1)) = ys := by
  unfold flt at h ⊢
  rw [take_getD hi, List.filter_append, h, List.filter_cons, decide_eq_false hp]
  simp
theorem fadd {p : Int → Prop} [DecidablePred p] {xs ys : List Int} {i : Nat} (h : flt p (xs.take i) = ys) (hi : i < xs.length) (hp : p (xs.getD i 0)) : flt p (xs.take (i + 1)) = ys ++ [xs.getD i 0] := by
  unfold flt at h ⊢
  rw [take_getD hi, List.filter_append, h, List.filter_cons, decide_eq_true hp]
  simp
theorem flt_all {p : Int → Prop} [DecidablePred p] {xs ys : List Int} {i : Nat} (h : flt p (xs.take i) = ys) (hi : xs.length ≤ i) : flt p xs = ys := by
  rw [List.take_of_length_le hi] at h; exact h
def kindN (n : Int) : Int := (cdN n).kind
def cre (s : St) (id : Int) : Prop := 0 ≤ id ∧ id < s.objs.length ∧ (s.objs.getD id.toNat o0) 3 = 8 ∧ kindN ((s.objs.getD id.toNat o0) 0) = 1
noncomputable instance (s : St) (id : Int) : Decidable (cre s id) := Classical.propDecidable _
theorem ok_card {s : St} (h : okR s) {id : Int} (h0 : 0 ≤ id) (h1 : id < s.objs.length) : 0 ≤ (s.objs.getD id.toNat o0) 0 ∧ (s.objs.getD id.toNat o0) 0 ≤ 119 := by
  have := h.1 id.toNat (by omega)
  simp only [okO] at this
  omega
theorem ids8 {s : St} (h : rightS s) {i : Nat} (hi : i < (s.ls 8).length) : 0 ≤ (s.ls 8).getD i 0 ∧ (s.ls 8).getD i 0 < s.objs.length := by
  have := (right_of h).2.2.1.1 8 (by omega) ((s.ls 8).getD i 0) (by simp [List.getD, hi])
  exact ⟨this.1, this.2.1⟩
def bePr (s : St) (p : Int) (id : Int) : Prop := cre s id ∧ (s.objs.getD id.toNat o0) 2 = p
noncomputable instance (s : St) (p : Int) : DecidablePred (bePr s p) := fun _ => Classical.propDecidable _
open Classical in
noncomputable def bea (s : St) (p : Int) : List Int := if rightS s then flt (bePr s p) (s.ls 8) else []
def grPr (s : St) (n ctl src : Int) (id : Int) : Prop := cre s id ∧ (n = 0 ∨ n = 1 ∧ (s.objs.getD id.toNat o0) 2 = ctl ∨ n = 2 ∧ ¬ (s.objs.getD id.toNat o0) 2 = ctl ∨ n = 3 ∧ (s.objs.getD id.toNat o0) 2 = ctl ∧ ¬ id = src)
noncomputable instance (s : St) (n ctl src : Int) : DecidablePred (grPr s n ctl src) := fun _ => Classical.propDecidable _
open Classical in
noncomputable def grL (s : St) (n ctl src : Int) : List Int := if rightS s then flt (grPr s n ctl src) (s.ls 8) else []
theorem bea_wrong {s : St} {p : Int} (h : ¬ rightS s) : AV.list [] false = AV.list ((bea s p).map I) false := by unfold bea; rw [if_neg h]; rfl
theorem bea_right {s : St} {p : Int} {ys : List Int} (h : rightS s) (hy : flt (bePr s p) (s.ls 8) = ys) : AV.list (ys.map I) false = AV.list ((bea s p).map I) false := by unfold bea; rw [if_pos h, hy]
theorem gr_wrong {s : St} {n c x : Int} (h : ¬ rightS s) : AV.list [] false = AV.list ((grL s n c x).map I) false := by unfold grL; rw [if_neg h]; rfl
theorem gr_right {s : St} {n c x : Int} {ys : List Int} (h : rightS s) (hy : flt (grPr s n c x) (s.ls 8) = ys) : AV.list (ys.map I) false = AV.list ((grL s n c x).map I) false := by unfold grL; rw [if_pos h, hy]
theorem gr_other {s : St} {n c x : Int} (h : n < 0 ∨ n > 3) : AV.list [] false = AV.list ((grL s n c x).map I) false := by
  unfold grL flt
  split
  · rw [List.filter_eq_nil_iff.2]
    · rfl
    · intro id _
      simp only [decide_eq_true_eq]
      intro hq
      have := hq.2
      omega
  · rfl
def ixs (c : Nat) (p : Nat → Prop) [DecidablePred p] (i : Nat) : List Int := ((List.range i).filter fun j => decide (p j)).map fun j => ((j + c : Nat) : Int)
theorem iskip {c : Nat} {l : List Int} {p : Nat → Prop} [DecidablePred p] {ys : List Int} {i : Nat} (h : l ++ ixs c p i = ys) (hp : ¬ p i) : l ++ ixs c p (i + 1) = ys := by
  unfold ixs at h ⊢
  rw [List.range_succ, List.filter_append, List.filter_cons, decide_eq_false hp]
  simpa using h
theorem iadd {c : Nat} {l : List Int} {p : Nat → Prop} [DecidablePred p] {ys : List Int} {i : Nat} (h : l ++ ixs c p i = ys) (hp : p i) : l ++ ixs c p (i + 1) = ys ++ [((i + c : Nat) : Int)] := by
  unfold ixs at h ⊢
  rw [List.range_succ, List.filter_append, List.filter_cons, decide_eq_true hp]
  simp [← h]
theorem ilen {c : Nat} {l : List Int} {p : Nat → Prop} [DecidablePred p] {ys : List Int} {i : Nat} (h : l ++ ixs c p i = ys) : ys.length ≤ l.length + i := by
  subst h
  simp only [ixs, List.length_append, List.length_map]
  have := List.length_filter_le (fun j => decide (p j)) (List.range i)
  rw [List.length_range] at this
  omega
theorem ixs_mem {c : Nat} {p : Nat → Prop} [DecidablePred p] {n : Nat} {x : Int} : x ∈ ixs c p n ↔ ∃ j, j < n ∧ p j ∧ x = ((j + c : Nat) : Int) := by
  simp only [ixs, List.mem_map, List.mem_filter, List.mem_range, decide_eq_true_eq]
  constructor
  · rintro ⟨j, ⟨h1, h2⟩, rfl⟩; exact ⟨j, h1, h2, rfl⟩
  · rintro ⟨j, h1, h2, rfl⟩; exact ⟨j, ⟨h1, h2⟩, rfl⟩
end Go.Abs.Z
