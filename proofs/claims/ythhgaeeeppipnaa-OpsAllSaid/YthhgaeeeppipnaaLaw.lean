/-
  OpsAll.
-/
import Derived.Test.YthhgaeeeppipnaaFnsD
set_option linter.unusedSimpArgs false
set_option linter.unusedVariables false
namespace Go.Proofs.Ythhgaeeeppipnaa
open Go Go.Eng
theorem decAll_app {α : Type} [Cell α] (l : List α) (rows : List (List TV)) (m : List α) (h : decAll rows = some m) : decAll (l.map Cell.enc ++ rows) = some (l ++ m) := by
  induction l with
  | nil => exact h
  | cons x r ih => simp only [List.map_cons, List.cons_append, decAll, Cell.dec_enc, ih, Option.bind_some, Option.map_some]
def G_law25_OpsAll_9 : GCode := .seq (.seq (.seq .weak (.region [⟨(some 85), none, .move (.tmp 7)⟩, ⟨(some 86), none, .call ⟨.value (.func 10), #[.tmp 85], #[27]⟩⟩, ⟨(some 87), none, .move (.tmp 7)⟩, ⟨(some 88), none, .call ⟨.value (.func 11), #[.tmp 87], #[27]⟩⟩, ⟨(some 89), none, .binOp .neq 9 (.tmp 86) (.tmp 88) 9⟩])) (.cond (.tmp 89) (.seq (.region [⟨(some 6), none, .assign (.const (.bool false))⟩]) (.ret)) (.skip))) (.seq (.region [⟨(some 90), none, .move (.tmp 0)⟩, ⟨(some 91), none, .move (.tmp 7)⟩, ⟨(some 92), none, .call ⟨.value (.func 11), #[.tmp 91], #[27]⟩⟩, ⟨(some 93), none, .move (.tmp 7)⟩, ⟨(some 94), none, .call ⟨.value (.func 11), #[.tmp 93], #[27]⟩⟩, ⟨(some 95), none, .move (.tmp 0)⟩, ⟨(some 96), none, .binOp .add 9 (.tmp 94) (.tmp 95) 9⟩, ⟨(some 97), none, .move (.tmp 0)⟩, ⟨(some 98), none, .binOp .add 9 (.const (.string ⟨#[21]⟩)) (.tmp 97) 9⟩, ⟨(some 99), none, .move (.tmp 0)⟩, ⟨(some 100), none, .binOp .add 9 (.const (.string ⟨#[4]⟩)) (.tmp 99) 9⟩, ⟨(some 101), none, .buildSlice 31 5 #[(0, .tmp 90), (1, .tmp 92), (2, .tmp 96), (3, .tmp 98), (4, .tmp 100)]⟩, ⟨(some 9), none, .assign (.tmp 101)⟩]) (.seq (.seq (.region [⟨(some 10), none, .assign (.const (.int .i64 0))⟩]) (.block 0 (.loop (.seq .weak (.seq (.seq (.region [⟨(some 102), none, .move (.tmp 10)⟩, ⟨(some 103), none, .move (.tmp 9)⟩, ⟨(some 104), none, .call ⟨.builtin .len, #[.tmp 103], #[31]⟩⟩, ⟨(some 105), none, .binOp .lss 3 (.tmp 102) (.tmp 104) 3⟩]) (.cond (.tmp 105) (.skip) (.exit 0))) (.seq (.block 1 (.seq (.region [⟨(some 108), none, .move (.tmp 9)⟩, ⟨(some 109), none, .move (.tmp 10)⟩, ⟨(some 110), none, .indexAddr 31 (.tmp 108) (.tmp 109)⟩, ⟨(some 111), none, .load 9 (.tmp 110)⟩, ⟨(some 112), none, .call ⟨.value (.func 13), #[.tmp 111], #[9]⟩⟩, ⟨(some 113), none, .move (.tmp 9)⟩, ⟨(some 114), none, .move (.tmp 10)⟩, ⟨(some 115), none, .indexAddr 31 (.tmp 113) (.tmp 114)⟩, ⟨(some 116), none, .load 9 (.tmp 115)⟩, ⟨(some 117), none, .call ⟨.value (.func 14), #[.tmp 116], #[9]⟩⟩, ⟨(some 118), none, .call ⟨.value (.func 12), #[.tmp 112, .tmp 117], #[27, 27]⟩⟩, ⟨(some 119), none, .unOp .not 4 (.tmp 118)⟩]) (.cond (.tmp 119) (.seq (.region [⟨(some 6), none, .assign (.const (.bool false))⟩]) (.ret)) (.skip)))) (.region [⟨(some 106), none, .move (.tmp 10)⟩, ⟨(some 107), none, .binOp .add 3 (.tmp 106) (.const (.int .i64 1)) 3⟩, ⟨(some 10), none, .assign (.tmp 107)⟩]))))))) (.seq (.region [⟨(some 6), none, .assign (.const (.bool true))⟩]) (.ret))))
def G_law25_OpsAll_8 : GCode := .seq (.seq .weak (.region [⟨(some 72), none, .move (.tmp 7)⟩, ⟨(some 73), none, .load 24 (.tmp 8)⟩, ⟨(some 74), none, .fieldAddr 24 (.tmp 8) 0⟩, ⟨(some 75), none, .load 3 (.tmp 74)⟩, ⟨(some 76), none, .fieldAddr 24 (.tmp 8) 1⟩, ⟨(some 77), none, .load 3 (.tmp 76)⟩, ⟨(some 78), none, .fieldAddr 24 (.tmp 8) 2⟩, ⟨(some 79), none, .load 3 (.tmp 78)⟩, ⟨(some 80), none, .fieldAddr 24 (.tmp 4) 5⟩, ⟨(some 81), none, .load 9 (.tmp 80)⟩, ⟨(some 82), none, .build 24 #[(0, .tmp 75), (1, .tmp 77), (2, .tmp 79), (5, .tmp 81)]⟩, ⟨(some 83), none, .buildSlice 27 2 #[(0, .tmp 73), (1, .tmp 82)]⟩, ⟨(some 84), none, .call ⟨.builtin .append, #[.tmp 72, .tmp 83], #[27, 27]⟩⟩, ⟨(some 7), none, .assign (.tmp 84)⟩])) (G_law25_OpsAll_9)
def bm (m : Nat) : Array Bool := ((List.range 26).map fun i => m.testBit i).toArray
def g7_0 : GOp := ⟨(some 51), none, .fieldAddr 24 (.tmp 4) 0⟩
def g7_1 : GOp := ⟨(some 52), none, .load 3 (.tmp 51)⟩
def g7_2 : GOp := ⟨(some 53), none, .binOp .and 3 (.tmp 52) (.const (.int .i64 15)) 3⟩
def g7_3 : GOp := ⟨(some 54), none, .binOp .add 3 (.const (.int .i64 1)) (.tmp 53) 3⟩
def g7_4 : GOp := ⟨(some 55), none, .fieldAddr 24 (.tmp 4) 1⟩
def g7_5 : GOp := ⟨(some 56), none, .load 3 (.tmp 55)⟩
def g7_6 : GOp := ⟨(some 57), none, .binOp .and 3 (.tmp 56) (.const (.int .i64 65535)) 3⟩
def g7_7 : GOp := ⟨(some 58), none, .fieldAddr 24 (.tmp 4) 2⟩
def g7_8 : GOp := ⟨(some 59), none, .load 3 (.tmp 58)⟩
def g7_9 : GOp := ⟨(some 60), none, .binOp .and 3 (.tmp 59) (.const (.int .i64 65535)) 3⟩
def g7_10 : GOp := ⟨(some 61), none, .fieldAddr 24 (.tmp 4) 3⟩
def g7_11 : GOp := ⟨(some 62), none, .load 3 (.tmp 61)⟩
def g7_12 : GOp := ⟨(some 63), none, .binOp .and 3 (.tmp 62) (.const (.int .i64 65535)) 3⟩
def g7_13 : GOp := ⟨(some 64), none, .fieldAddr 24 (.tmp 4) 4⟩
def g7_14 : GOp := ⟨(some 65), none, .load 3 (.tmp 64)⟩
def g7_15 : GOp := ⟨(some 66), none, .binOp .and 3 (.tmp 65) (.const (.int .i64 255)) 3⟩
def g7_16 : GOp := ⟨(some 67), none, .fieldAddr 24 (.tmp 8) 0⟩
def g7_17 : GOp := ⟨none, none, .store 3 (.tmp 67) (.tmp 54)⟩
def g7_18 : GOp := ⟨(some 68), none, .fieldAddr 24 (.tmp 8) 1⟩
def g7_19 : GOp := ⟨none, none, .store 3 (.tmp 68) (.tmp 57)⟩
def g7_20 : GOp := ⟨(some 69), none, .fieldAddr 24 (.tmp 8) 2⟩
def g7_21 : GOp := ⟨none, none, .store 3 (.tmp 69) (.tmp 60)⟩
def g7_22 : GOp := ⟨(some 70), none, .fieldAddr 24 (.tmp 8) 3⟩
def g7_23 : GOp := ⟨none, none, .store 3 (.tmp 70) (.tmp 63)⟩
def g7_24 : GOp := ⟨(some 71), none, .fieldAddr 24 (.tmp 8) 4⟩
def g7_25 : GOp := ⟨none, none, .store 3 (.tmp 71) (.tmp 66)⟩
def T7_0 : OTree := .done
def T7_1 : OTree := .one g7_25 T7_0
def T7_2 : OTree := .one g7_24 T7_1
def T7_3 : OTree := .one g7_23 T7_2
def T7_4 : OTree := .one g7_22 T7_3
def T7_5 : OTree := .one g7_21 T7_4
def T7_6 : OTree := .one g7_20 T7_5
def T7_7 : OTree := .one g7_19 T7_6
def T7_8 : OTree := .one g7_18 T7_7
def T7_9 : OTree := .one g7_17 T7_8
def T7_10 : OTree := .one g7_15 T7_9
def T7_11 : OTree := .one g7_15 T7_7
def T7_12 : OTree := .one g7_15 T7_5
def T7_13 : OTree := .one g7_15 T7_3
def T7_14 : OTree := .one g7_15 T7_2
def T7_15 : OTree := .one g7_14 T7_14
def T7_16 : OTree := .both (.one g7_14 T7_13) (.one g7_23 T7_15)
def T7_17 : OTree := .one g7_22 T7_16
def T7_18 : OTree := .both (.one g7_14 T7_12) (.one g7_21 T7_17)
def T7_19 : OTree := .one g7_20 T7_18
def T7_20 : OTree := .both (.one g7_14 T7_11) (.one g7_19 T7_19)
def T7_21 : OTree := .one g7_18 T7_20
def T7_22 : OTree := .both (.one g7_14 T7_10) (.one g7_17 T7_21)
def T7_23 : OTree := .one g7_12 T7_22
def T7_24 : OTree := .one g7_12 T7_9
def T7_25 : OTree := .one g7_12 T7_7
def T7_26 : OTree := .one g7_12 T7_5
def T7_27 : OTree := .one g7_12 T7_4
def T7_28 : OTree := .one g7_11 T7_27
def T7_29 : OTree := .both (.one g7_11 T7_26) (.one g7_21 T7_28)
def T7_30 : OTree := .one g7_20 T7_29
def T7_31 : OTree := .both (.one g7_11 T7_25) (.one g7_19 T7_30)
def T7_32 : OTree := .one g7_18 T7_31
def T7_33 : OTree := .both (.one g7_11 T7_24) (.one g7_17 T7_32)
def T7_34 : OTree := .one g7_15 T7_33
def T7_35 : OTree := .one g7_12 T7_20
def T7_36 : OTree := .one g7_15 T7_31
def T7_37 : OTree := .one g7_12 T7_18
def T7_38 : OTree := .one g7_15 T7_29
def T7_39 : OTree := .one g7_12 T7_17
def T7_40 : OTree := .one g7_11 T7_39
def T7_41 : OTree := .both (.one g7_11 T7_37) (.both (.one g7_14 T7_38) (.one g7_21 T7_40))
def T7_42 : OTree := .one g7_20 T7_41
def T7_43 : OTree := .both (.one g7_11 T7_35) (.both (.one g7_14 T7_36) (.one g7_19 T7_42))
def T7_44 : OTree := .one g7_18 T7_43
def T7_45 : OTree := .both (.one g7_11 T7_23) (.both (.one g7_14 T7_34) (.one g7_17 T7_44))
def T7_46 : OTree := .one g7_9 T7_45
def T7_47 : OTree := .one g7_9 T7_22
def T7_48 : OTree := .one g7_9 T7_9
def T7_49 : OTree := .one g7_9 T7_7
def T7_50 : OTree := .one g7_9 T7_6
def T7_51 : OTree := .one g7_8 T7_50
def T7_52 : OTree := .both (.one g7_8 T7_49) (.one g7_19 T7_51)
def T7_53 : OTree := .one g7_18 T7_52
def T7_54 : OTree := .both (.one g7_8 T7_48) (.one g7_17 T7_53)
def T7_55 : OTree := .one g7_15 T7_54
def T7_56 : OTree := .one g7_9 T7_20
def T7_57 : OTree := .one g7_15 T7_52
def T7_58 : OTree := .one g7_9 T7_19
def T7_59 : OTree := .one g7_8 T7_58
def T7_60 : OTree := .both (.one g7_8 T7_56) (.both (.one g7_14 T7_57) (.one g7_19 T7_59))
def T7_61 : OTree := .one g7_18 T7_60
def T7_62 : OTree := .both (.one g7_8 T7_47) (.both (.one g7_14 T7_55) (.one g7_17 T7_61))
def T7_63 : OTree := .one g7_12 T7_62
def T7_64 : OTree := .one g7_9 T7_33
def T7_65 : OTree := .one g7_12 T7_54
def T7_66 : OTree := .one g7_9 T7_31
def T7_67 : OTree := .one g7_12 T7_52
def T7_68 : OTree := .one g7_9 T7_30
def T7_69 : OTree := .one g7_8 T7_68
def T7_70 : OTree := .both (.one g7_8 T7_66) (.both (.one g7_11 T7_67) (.one g7_19 T7_69))
def T7_71 : OTree := .one g7_18 T7_70
def T7_72 : OTree := .both (.one g7_8 T7_64) (.both (.one g7_11 T7_65) (.one g7_17 T7_71))
def T7_73 : OTree := .one g7_15 T7_72
def T7_74 : OTree := .one g7_9 T7_43
def T7_75 : OTree := .one g7_12 T7_60
def T7_76 : OTree := .one g7_15 T7_70
def T7_77 : OTree := .one g7_9 T7_42
def T7_78 : OTree := .one g7_8 T7_77
def T7_79 : OTree := .both (.one g7_8 T7_74) (.both (.one g7_11 T7_75) (.both (.one g7_14 T7_76) (.one g7_19 T7_78)))
def T7_80 : OTree := .one g7_18 T7_79
def T7_81 : OTree := .both (.one g7_8 T7_46) (.both (.one g7_11 T7_63) (.both (.one g7_14 T7_73) (.one g7_17 T7_80)))
def T7_82 : OTree := .one g7_6 T7_81
def T7_83 : OTree := .one g7_6 T7_45
def T7_84 : OTree := .one g7_6 T7_22
def T7_85 : OTree := .one g7_6 T7_9
def T7_86 : OTree := .one g7_6 T7_8
def T7_87 : OTree := .one g7_5 T7_86
def T7_88 : OTree := .both (.one g7_5 T7_85) (.one g7_17 T7_87)
def T7_89 : OTree := .one g7_15 T7_88
def T7_90 : OTree := .one g7_6 T7_21
def T7_91 : OTree := .one g7_5 T7_90
def T7_92 : OTree := .both (.one g7_5 T7_84) (.both (.one g7_14 T7_89) (.one g7_17 T7_91))
def T7_93 : OTree := .one g7_12 T7_92
def T7_94 : OTree := .one g7_6 T7_33
def T7_95 : OTree := .one g7_12 T7_88
def T7_96 : OTree := .one g7_6 T7_32
def T7_97 : OTree := .one g7_5 T7_96
def T7_98 : OTree := .both (.one g7_5 T7_94) (.both (.one g7_11 T7_95) (.one g7_17 T7_97))
def T7_99 : OTree := .one g7_15 T7_98
def T7_100 : OTree := .one g7_6 T7_44
def T7_101 : OTree := .one g7_5 T7_100
def T7_102 : OTree := .both (.one g7_5 T7_83) (.both (.one g7_11 T7_93) (.both (.one g7_14 T7_99) (.one g7_17 T7_101)))
def T7_103 : OTree := .one g7_9 T7_102
def T7_104 : OTree := .one g7_6 T7_62
def T7_105 : OTree := .one g7_9 T7_92
def T7_106 : OTree := .one g7_6 T7_54
def T7_107 : OTree := .one g7_9 T7_88
def T7_108 : OTree := .one g7_6 T7_53
def T7_109 : OTree := .one g7_5 T7_108
def T7_110 : OTree := .both (.one g7_5 T7_106) (.both (.one g7_8 T7_107) (.one g7_17 T7_109))
def T7_111 : OTree := .one g7_15 T7_110
def T7_112 : OTree := .one g7_6 T7_61
def T7_113 : OTree := .one g7_5 T7_112
def T7_114 : OTree := .both (.one g7_5 T7_104) (.both (.one g7_8 T7_105) (.both (.one g7_14 T7_111) (.one g7_17 T7_113)))
def T7_115 : OTree := .one g7_12 T7_114
def T7_116 : OTree := .one g7_6 T7_72
def T7_117 : OTree := .one g7_9 T7_98
def T7_118 : OTree := .one g7_12 T7_110
def T7_119 : OTree := .one g7_6 T7_71
def T7_120 : OTree := .one g7_5 T7_119
def T7_121 : OTree := .both (.one g7_5 T7_116) (.both (.one g7_8 T7_117) (.both (.one g7_11 T7_118) (.one g7_17 T7_120)))
def T7_122 : OTree := .one g7_15 T7_121
def T7_123 : OTree := .one g7_6 T7_80
def T7_124 : OTree := .one g7_5 T7_123
def T7_125 : OTree := .both (.one g7_5 T7_82) (.both (.one g7_8 T7_103) (.both (.one g7_11 T7_115) (.both (.one g7_14 T7_122) (.one g7_17 T7_124))))
def T7_126 : OTree := .one g7_16 T7_125
def T7_127 : OTree := .one g7_13 T7_126
def T7_128 : OTree := .one g7_10 T7_127
def T7_129 : OTree := .one g7_7 T7_128
def T7_130 : OTree := .one g7_4 T7_129
def T7_131 : OTree := .one g7_3 T7_130
def T7_132 : OTree := .one g7_2 T7_131
def T7_133 : OTree := .one g7_1 T7_132
def T7_134 : OTree := .one g7_0 T7_133
def G_law25_OpsAll_7 : GCode := .seq (.seq .weak (.orders T7_134)) (G_law25_OpsAll_8)
def G_law25_OpsAll_6 : GCode := .seq (.seq .weak (.region [⟨(some 50), none, .load 24 (.tmp 4)⟩, ⟨(some 8), none, .alloc 24⟩, ⟨none, none, .store 24 (.tmp 8) (.tmp 50)⟩])) (G_law25_OpsAll_7)
def G_law25_OpsAll_5 : GCode := .seq (.seq .weak (.orders (.one ⟨(some 45), none, .move (.tmp 2)⟩ (.both (.one ⟨(some 46), none, .call ⟨.value (.func 9), #[.tmp 45, .const (.int .i64 10)], #[25, 3]⟩⟩ (.one ⟨(some 47), none, .load 24 (.tmp 4)⟩ (.one ⟨(some 48), none, .buildSlice 27 1 #[(0, .tmp 47)]⟩ (.one ⟨(some 49), none, .call ⟨.builtin .append, #[.tmp 46, .tmp 48], #[27, 27]⟩⟩ (.one ⟨(some 7), none, .assign (.tmp 49)⟩ (.done)))))) (.one ⟨(some 47), none, .load 24 (.tmp 4)⟩ (.both (.one ⟨(some 46), none, .call ⟨.value (.func 9), #[.tmp 45, .const (.int .i64 10)], #[25, 3]⟩⟩ (.one ⟨(some 48), none, .buildSlice 27 1 #[(0, .tmp 47)]⟩ (.one ⟨(some 49), none, .call ⟨.builtin .append, #[.tmp 46, .tmp 48], #[27, 27]⟩⟩ (.one ⟨(some 7), none, .assign (.tmp 49)⟩ (.done))))) (.one ⟨(some 48), none, .buildSlice 27 1 #[(0, .tmp 47)]⟩ (.one ⟨(some 46), none, .call ⟨.value (.func 9), #[.tmp 45, .const (.int .i64 10)], #[25, 3]⟩⟩ (.one ⟨(some 49), none, .call ⟨.builtin .append, #[.tmp 46, .tmp 48], #[27, 27]⟩⟩ (.one ⟨(some 7), none, .assign (.tmp 49)⟩ (.done))))))))))) (G_law25_OpsAll_6)
def G_law25_OpsAll : GCode := .seq (.region [⟨(some 4), none, .box 24 (.tmp 1)⟩, ⟨(some 6), none, .assign (.const (.bool false))⟩]) (.seq (.seq (.seq .weak (.region [⟨(some 11), none, .call ⟨.value (.func 8), #[], #[]⟩⟩, ⟨(some 12), none, .unOp .not 4 (.tmp 11)⟩])) (.cond (.tmp 12) (.seq (.region [⟨(some 6), none, .assign (.const (.bool false))⟩]) (.ret)) (.skip))) (.seq (.seq (.region [⟨(some 13), none, .move (.tmp 0)⟩, ⟨(some 14), none, .call ⟨.builtin .len, #[.tmp 13], #[9]⟩⟩, ⟨(some 15), none, .binOp .gtr 3 (.tmp 14) (.const (.int .i64 200)) 3⟩, ⟨(some 16), none, .move (.tmp 15)⟩, ⟨(some 17), (some (16, false)), .move (.tmp 2)⟩, ⟨(some 18), (some (16, false)), .call ⟨.builtin .len, #[.tmp 17], #[25]⟩⟩, ⟨(some 19), (some (16, false)), .binOp .gtr 3 (.tmp 18) (.const (.int .i64 60)) 3⟩, ⟨(some 20), none, .pick (.tmp 16) (.const (.bool true)) (.tmp 19)⟩, ⟨(some 21), none, .move (.tmp 20)⟩, ⟨(some 22), (some (21, false)), .fieldAddr 24 (.tmp 4) 5⟩, ⟨(some 23), (some (21, false)), .load 9 (.tmp 22)⟩, ⟨(some 24), (some (21, false)), .call ⟨.builtin .len, #[.tmp 23], #[9]⟩⟩, ⟨(some 25), (some (21, false)), .binOp .gtr 3 (.tmp 24) (.const (.int .i64 300)) 3⟩, ⟨(some 26), none, .pick (.tmp 21) (.const (.bool true)) (.tmp 25)⟩, ⟨(some 27), none, .move (.tmp 26)⟩, ⟨(some 28), (some (27, false)), .fieldAddr 24 (.tmp 4) 6⟩, ⟨(some 29), (some (27, false)), .load 9 (.tmp 28)⟩, ⟨(some 30), (some (27, false)), .call ⟨.builtin .len, #[.tmp 29], #[9]⟩⟩, ⟨(some 31), (some (27, false)), .binOp .gtr 3 (.tmp 30) (.const (.int .i64 300)) 3⟩, ⟨(some 32), none, .pick (.tmp 27) (.const (.bool true)) (.tmp 31)⟩, ⟨(some 33), none, .move (.tmp 32)⟩, ⟨(some 34), (some (33, false)), .fieldAddr 24 (.tmp 4) 7⟩, ⟨(some 35), (some (33, false)), .load 9 (.tmp 34)⟩, ⟨(some 36), (some (33, false)), .call ⟨.builtin .len, #[.tmp 35], #[9]⟩⟩, ⟨(some 37), (some (33, false)), .binOp .gtr 3 (.tmp 36) (.const (.int .i64 300)) 3⟩, ⟨(some 38), none, .pick (.tmp 33) (.const (.bool true)) (.tmp 37)⟩, ⟨(some 39), none, .move (.tmp 38)⟩, ⟨(some 40), (some (39, false)), .fieldAddr 24 (.tmp 4) 8⟩, ⟨(some 41), (some (39, false)), .load 22 (.tmp 40)⟩, ⟨(some 42), (some (39, false)), .call ⟨.builtin .len, #[.tmp 41], #[22]⟩⟩, ⟨(some 43), (some (39, false)), .binOp .gtr 3 (.tmp 42) (.const (.int .i64 70)) 3⟩, ⟨(some 44), none, .pick (.tmp 39) (.const (.bool true)) (.tmp 43)⟩]) (.cond (.tmp 44) (.seq (.region [⟨(some 6), none, .assign (.const (.bool true))⟩]) (.ret)) (.skip))) (G_law25_OpsAll_5)))
noncomputable def l_law25_OpsAll : List (Nat × Con) := [(8, c_law25_begun), (9, c_law25_made), (10, c_ops_Put), (11, c_ref25_PutSteps), (13, c_ops_Take), (14, c_ref25_TakeSteps), (12, c_ref25_SameSteps)]
noncomputable abbrev K_law25_OpsAll : Ctx := ctx (cl l_law25_OpsAll)
def cA (c : Code) : Code := match c with | .seq a _ => a | c => c
def gA (c : GCode) : GCode := match c with | .seq a _ => a | c => c
def gB (c : GCode) : GCode := match c with | .seq _ b => b | c => c
def cB (c : Code) : Code := match c with | .seq _ b => b | c => c
noncomputable def b7 : Code := (Try.f3.body).getD .skip
noncomputable def p7 : Code := cA (cB (cB (cB (cB (cB b7)))))
noncomputable def ops7 : Array Oper := match p7 with | .region _ ops _ => ops | _ => #[]
noncomputable def id7 : Nat := match p7 with | .region i _ _ => i | _ => 0
theorem toG_sq {C : Ctx} {N : Nat} {c : Code} {x y : GCode} (h : c = .seq (cA c) (cB c)) (ha : toG C N (cA c) = some x) (hb : toG C N (cB c) = some y) : toG C N c = some (.seq x y) := by
  rw [h, toG, ha, hb]
theorem toG_orders {C : Ctx} {N id : Nat} {ops : Array Oper} {T : OTree} (h1 : (decide (ops.size < 1000) && ops.all (dstOk N ops)) = true) (h2 : (!true || orderOk C ops) = false) (h3 : orders C ops (allWaits ops.toList []) ops.size (Array.replicate ops.size false) = T) : toG C N (.region id ops true) = some (.orders T) := by
  rw [toG, if_pos h1, h2, h3]; rfl
theorem or_eq {C : Ctx} {ops : Array Oper} {ws : List Nat} {n m : Nat} {L : Array Bool} (h : L = bm m) : orders C ops ws n L = orders C ops ws n (bm m) := by rw [h]
theorem o_some {C : Ctx} {ops : Array Oper} {ws : List Nat} {n i : Nat} {L : Array Bool} {t : OTree} (h : (Region.ready .any ops L).find? (safeAt C ops ws L) = some i) (hr : ndT ops i (orders C ops ws n (L.setIfInBounds i true)) = t) : orders C ops ws (n + 1) L = t := by
  rw [orders, h]; exact hr
theorem nd_eq {C : Ctx} {ops : Array Oper} {ws : List Nat} {n i : Nat} {L : Array Bool} {g : GOp} {t : OTree} (ho : (ops[i]?).map (opToG ops) = some g) (hr : orders C ops ws n L = t) : ndT ops i (orders C ops ws n L) = .one g t := by
  unfold ndT
  cases h : ops[i]? with
  | none => rw [h] at ho; cases ho
  | some o =>
    rw [h] at ho
    simp only [Option.map_some, Option.some.injEq] at ho
    show OTree.one (opToG ops o) (orders C ops ws n L) = _
    rw [ho, hr]
theorem o_none {C : Ctx} {ops : Array Oper} {ws : List Nat} {n : Nat} {L : Array Bool} {is : List Nat} {ts : List OTree} (h : (Region.ready .any ops L).find? (safeAt C ops ws L) = none) (hi : Region.ready .any ops L = is) (hr : is.map (fun i => ndT ops i (orders C ops ws n (L.setIfInBounds i true))) = ts) : orders C ops ws (n + 1) L = bothL ts := by
  rw [orders, h, hi]; exact congrArg bothL hr
theorem o_two {C : Ctx} {ops : Array Oper} {ws : List Nat} {n i j : Nat} {L : Array Bool} {a b : OTree} (h : (Region.ready .any ops L).find? (safeAt C ops ws L) = none) (hi : Region.ready .any ops L = [i, j]) (h1 : ndT ops i (orders C ops ws n (L.setIfInBounds i true)) = a) (h2 : ndT ops j (orders C ops ws n (L.setIfInBounds j true)) = b) : orders C ops ws (n + 1) L = .both a b := by
  rw [orders, h, hi]
  simp only [List.map_cons, List.map_nil, h1, h2]
  rfl
theorem o_three {C : Ctx} {ops : Array Oper} {ws : List Nat} {n i j k : Nat} {L : Array Bool} {a b c : OTree} (h : (Region.ready .any ops L).find? (safeAt C ops ws L) = none) (hi : Region.ready .any ops L = [i, j, k]) (h1 : ndT ops i (orders C ops ws n (L.setIfInBounds i true)) = a) (h2 : ndT ops j (orders C ops ws n (L.setIfInBounds j true)) = b) (h3 : ndT ops k (orders C ops ws n (L.setIfInBounds k true)) = c) : orders C ops ws (n + 1) L = .both a (.both b c) := by
  rw [orders, h, hi]
  simp only [List.map_cons, List.map_nil, h1, h2, h3]
  rfl
theorem o_four {C : Ctx} {ops : Array Oper} {ws : List Nat} {n i j k l : Nat} {L : Array Bool} {a b c d : OTree} (h : (Region.ready .any ops L).find? (safeAt C ops ws L) = none) (hi : Region.ready .any ops L = [i, j, k, l]) (h1 : ndT ops i (orders C ops ws n (L.setIfInBounds i true)) = a) (h2 : ndT ops j (orders C ops ws n (L.setIfInBounds j true)) = b) (h3 : ndT ops k (orders C ops ws n (L.setIfInBounds k true)) = c) (h4 : ndT ops l (orders C ops ws n (L.setIfInBounds l true)) = d) : orders C ops ws (n + 1) L = .both a (.both b (.both c d)) := by
  rw [orders, h, hi]
  simp only [List.map_cons, List.map_nil, h1, h2, h3, h4]
  rfl
theorem o_five {C : Ctx} {ops : Array Oper} {ws : List Nat} {n i j k l m : Nat} {L : Array Bool} {a b c d e : OTree} (h : (Region.ready .any ops L).find? (safeAt C ops ws L) = none) (hi : Region.ready .any ops L = [i, j, k, l, m]) (h1 : ndT ops i (orders C ops ws n (L.setIfInBounds i true)) = a) (h2 : ndT ops j (orders C ops ws n (L.setIfInBounds j true)) = b) (h3 : ndT ops k (orders C ops ws n (L.setIfInBounds k true)) = c) (h4 : ndT ops l (orders C ops ws n (L.setIfInBounds l true)) = d) (h5 : ndT ops m (orders C ops ws n (L.setIfInBounds m true)) = e) : orders C ops ws (n + 1) L = .both a (.both b (.both c (.both d e))) := by
  rw [orders, h, hi]
  simp only [List.map_cons, List.map_nil, h1, h2, h3, h4, h5]
  rfl
def ws7 : List Nat := [0, 1, 3, 7, 0, 16, 48, 0, 128, 384, 0, 1024, 3072, 0, 8192, 24576, 15, 65551, 196735, 458879, 984063, 2032639, 4136959, 8331263, 16777215, 33554431]
theorem o7_0 : orders K_law25_OpsAll ops7 ws7 0 (bm 67108863) = T7_0 := rfl
theorem o7_1 : orders K_law25_OpsAll ops7 ws7 1 (bm 33554431) = T7_1 := o_some (n := 0) (i := 25) (by kernel_rfl) (nd_eq (g := g7_25) (by kernel_rfl) ((or_eq (m := 67108863) (by kernel_rfl)).trans o7_0))
theorem o7_2 : orders K_law25_OpsAll ops7 ws7 2 (bm 16777215) = T7_2 := o_some (n := 1) (i := 24) (by kernel_rfl) (nd_eq (g := g7_24) (by kernel_rfl) ((or_eq (m := 33554431) (by kernel_rfl)).trans o7_1))
theorem o7_3 : orders K_law25_OpsAll ops7 ws7 3 (bm 8388607) = T7_3 := o_some (n := 2) (i := 23) (by kernel_rfl) (nd_eq (g := g7_23) (by kernel_rfl) ((or_eq (m := 16777215) (by kernel_rfl)).trans o7_2))
theorem o7_4 : orders K_law25_OpsAll ops7 ws7 4 (bm 4194303) = T7_4 := o_some (n := 3) (i := 22) (by kernel_rfl) (nd_eq (g := g7_22) (by kernel_rfl) ((or_eq (m := 8388607) (by kernel_rfl)).trans o7_3))
theorem o7_5 : orders K_law25_OpsAll ops7 ws7 5 (bm 2097151) = T7_5 := o_some (n := 4) (i := 21) (by kernel_rfl) (nd_eq (g := g7_21) (by kernel_rfl) ((or_eq (m := 4194303) (by kernel_rfl)).trans o7_4))
theorem o7_6 : orders K_law25_OpsAll ops7 ws7 6 (bm 1048575) = T7_6 := o_some (n := 5) (i := 20) (by kernel_rfl) (nd_eq (g := g7_20) (by kernel_rfl) ((or_eq (m := 2097151) (by kernel_rfl)).trans o7_5))
theorem o7_7 : orders K_law25_OpsAll ops7 ws7 7 (bm 524287) = T7_7 := o_some (n := 6) (i := 19) (by kernel_rfl) (nd_eq (g := g7_19) (by kernel_rfl) ((or_eq (m := 1048575) (by kernel_rfl)).trans o7_6))
theorem o7_8 : orders K_law25_OpsAll ops7 ws7 8 (bm 262143) = T7_8 := o_some (n := 7) (i := 18) (by kernel_rfl) (nd_eq (g := g7_18) (by kernel_rfl) ((or_eq (m := 524287) (by kernel_rfl)).trans o7_7))
theorem o7_9 : orders K_law25_OpsAll ops7 ws7 9 (bm 131071) = T7_9 := o_some (n := 8) (i := 17) (by kernel_rfl) (nd_eq (g := g7_17) (by kernel_rfl) ((or_eq (m := 262143) (by kernel_rfl)).trans o7_8))
theorem o7_10 : orders K_law25_OpsAll ops7 ws7 10 (bm 98303) = T7_10 := o_some (n := 9) (i := 15) (by kernel_rfl) (nd_eq (g := g7_15) (by kernel_rfl) ((or_eq (m := 131071) (by kernel_rfl)).trans o7_9))
theorem o7_11 : orders K_law25_OpsAll ops7 ws7 8 (bm 491519) = T7_11 := o_some (n := 7) (i := 15) (by kernel_rfl) (nd_eq (g := g7_15) (by kernel_rfl) ((or_eq (m := 524287) (by kernel_rfl)).trans o7_7))
theorem o7_12 : orders K_law25_OpsAll ops7 ws7 6 (bm 2064383) = T7_12 := o_some (n := 5) (i := 15) (by kernel_rfl) (nd_eq (g := g7_15) (by kernel_rfl) ((or_eq (m := 2097151) (by kernel_rfl)).trans o7_5))
theorem o7_13 : orders K_law25_OpsAll ops7 ws7 4 (bm 8355839) = T7_13 := o_some (n := 3) (i := 15) (by kernel_rfl) (nd_eq (g := g7_15) (by kernel_rfl) ((or_eq (m := 8388607) (by kernel_rfl)).trans o7_3))
theorem o7_14 : orders K_law25_OpsAll ops7 ws7 3 (bm 16744447) = T7_14 := o_some (n := 2) (i := 15) (by kernel_rfl) (nd_eq (g := g7_15) (by kernel_rfl) ((or_eq (m := 16777215) (by kernel_rfl)).trans o7_2))
theorem o7_15 : orders K_law25_OpsAll ops7 ws7 4 (bm 16728063) = T7_15 := o_some (n := 3) (i := 14) (by kernel_rfl) (nd_eq (g := g7_14) (by kernel_rfl) ((or_eq (m := 16744447) (by kernel_rfl)).trans o7_14))
theorem o7_16 : orders K_law25_OpsAll ops7 ws7 5 (bm 8339455) = T7_16 := o_two (n := 4) (i := 14) (j := 23) (by kernel_rfl) (by kernel_rfl) (nd_eq (g := g7_14) (by kernel_rfl) ((or_eq (m := 8355839) (by kernel_rfl)).trans o7_13)) (nd_eq (g := g7_23) (by kernel_rfl) ((or_eq (m := 16728063) (by kernel_rfl)).trans o7_15))
theorem o7_17 : orders K_law25_OpsAll ops7 ws7 6 (bm 4145151) = T7_17 := o_some (n := 5) (i := 22) (by kernel_rfl) (nd_eq (g := g7_22) (by kernel_rfl) ((or_eq (m := 8339455) (by kernel_rfl)).trans o7_16))
theorem o7_18 : orders K_law25_OpsAll ops7 ws7 7 (bm 2047999) = T7_18 := o_two (n := 6) (i := 14) (j := 21) (by kernel_rfl) (by kernel_rfl) (nd_eq (g := g7_14) (by kernel_rfl) ((or_eq (m := 2064383) (by kernel_rfl)).trans o7_12)) (nd_eq (g := g7_21) (by kernel_rfl) ((or_eq (m := 4145151) (by kernel_rfl)).trans o7_17))
theorem o7_19 : orders K_law25_OpsAll ops7 ws7 8 (bm 999423) = T7_19 := o_some (n := 7) (i := 20) (by kernel_rfl) (nd_eq (g := g7_20) (by kernel_rfl) ((or_eq (m := 2047999) (by kernel_rfl)).trans o7_18))
theorem o7_20 : orders K_law25_OpsAll ops7 ws7 9 (bm 475135) = T7_20 := o_two (n := 8) (i := 14) (j := 19) (by kernel_rfl) (by kernel_rfl) (nd_eq (g := g7_14) (by kernel_rfl) ((or_eq (m := 491519) (by kernel_rfl)).trans o7_11)) (nd_eq (g := g7_19) (by kernel_rfl) ((or_eq (m := 999423) (by kernel_rfl)).trans o7_19))
theorem o7_21 : orders K_law25_OpsAll ops7 ws7 10 (bm 212991) = T7_21 := o_some (n := 9) (i := 18) (by kernel_rfl) (nd_eq (g := g7_18) (by kernel_rfl) ((or_eq (m := 475135) (by kernel_rfl)).trans o7_20))
theorem o7_22 : orders K_law25_OpsAll ops7 ws7 11 (bm 81919) = T7_22 := o_two (n := 10) (i := 14) (j := 17) (by kernel_rfl) (by kernel_rfl) (nd_eq (g := g7_14) (by kernel_rfl) ((or_eq (m := 98303) (by kernel_rfl)).trans o7_10)) (nd_eq (g := g7_17) (by kernel_rfl) ((or_eq (m := 212991) (by kernel_rfl)).trans o7_21))
theorem o7_23 : orders K_law25_OpsAll ops7 ws7 12 (bm 77823) = T7_23 := o_some (n := 11) (i := 12) (by kernel_rfl) (nd_eq (g := g7_12) (by kernel_rfl) ((or_eq (m := 81919) (by kernel_rfl)).trans o7_22))
theorem o7_24 : orders K_law25_OpsAll ops7 ws7 10 (bm 126975) = T7_24 := o_some (n := 9) (i := 12) (by kernel_rfl) (nd_eq (g := g7_12) (by kernel_rfl) ((or_eq (m := 131071) (by kernel_rfl)).trans o7_9))
theorem o7_25 : orders K_law25_OpsAll ops7 ws7 8 (bm 520191) = T7_25 := o_some (n := 7) (i := 12) (by kernel_rfl) (nd_eq (g := g7_12) (by kernel_rfl) ((or_eq (m := 524287) (by kernel_rfl)).trans o7_7))
theorem o7_26 : orders K_law25_OpsAll ops7 ws7 6 (bm 2093055) = T7_26 := o_some (n := 5) (i := 12) (by kernel_rfl) (nd_eq (g := g7_12) (by kernel_rfl) ((or_eq (m := 2097151) (by kernel_rfl)).trans o7_5))
theorem o7_27 : orders K_law25_OpsAll ops7 ws7 5 (bm 4190207) = T7_27 := o_some (n := 4) (i := 12) (by kernel_rfl) (nd_eq (g := g7_12) (by kernel_rfl) ((or_eq (m := 4194303) (by kernel_rfl)).trans o7_4))
theorem o7_28 : orders K_law25_OpsAll ops7 ws7 6 (bm 4188159) = T7_28 := o_some (n := 5) (i := 11) (by kernel_rfl) (nd_eq (g := g7_11) (by kernel_rfl) ((or_eq (m := 4190207) (by kernel_rfl)).trans o7_27))
theorem o7_29 : orders K_law25_OpsAll ops7 ws7 7 (bm 2091007) = T7_29 := o_two (n := 6) (i := 11) (j := 21) (by kernel_rfl) (by kernel_rfl) (nd_eq (g := g7_11) (by kernel_rfl) ((or_eq (m := 2093055) (by kernel_rfl)).trans o7_26)) (nd_eq (g := g7_21) (by kernel_rfl) ((or_eq (m := 4188159) (by kernel_rfl)).trans o7_28))
theorem o7_30 : orders K_law25_OpsAll ops7 ws7 8 (bm 1042431) = T7_30 := o_some (n := 7) (i := 20) (by kernel_rfl) (nd_eq (g := g7_20) (by kernel_rfl) ((or_eq (m := 2091007) (by kernel_rfl)).trans o7_29))
theorem o7_31 : orders K_law25_OpsAll ops7 ws7 9 (bm 518143) = T7_31 := o_two (n := 8) (i := 11) (j := 19) (by kernel_rfl) (by kernel_rfl) (nd_eq (g := g7_11) (by kernel_rfl) ((or_eq (m := 520191) (by kernel_rfl)).trans o7_25)) (nd_eq (g := g7_19) (by kernel_rfl) ((or_eq (m := 1042431) (by kernel_rfl)).trans o7_30))
theorem o7_32 : orders K_law25_OpsAll ops7 ws7 10 (bm 255999) = T7_32 := o_some (n := 9) (i := 18) (by kernel_rfl) (nd_eq (g := g7_18) (by kernel_rfl) ((or_eq (m := 518143) (by kernel_rfl)).trans o7_31))
theorem o7_33 : orders K_law25_OpsAll ops7 ws7 11 (bm 124927) = T7_33 := o_two (n := 10) (i := 11) (j := 17) (by kernel_rfl) (by kernel_rfl) (nd_eq (g := g7_11) (by kernel_rfl) ((or_eq (m := 126975) (by kernel_rfl)).trans o7_24)) (nd_eq (g := g7_17) (by kernel_rfl) ((or_eq (m := 255999) (by kernel_rfl)).trans o7_32))
theorem o7_34 : orders K_law25_OpsAll ops7 ws7 12 (bm 92159) = T7_34 := o_some (n := 11) (i := 15) (by kernel_rfl) (nd_eq (g := g7_15) (by kernel_rfl) ((or_eq (m := 124927) (by kernel_rfl)).trans o7_33))
theorem o7_35 : orders K_law25_OpsAll ops7 ws7 10 (bm 471039) = T7_35 := o_some (n := 9) (i := 12) (by kernel_rfl) (nd_eq (g := g7_12) (by kernel_rfl) ((or_eq (m := 475135) (by kernel_rfl)).trans o7_20))
theorem o7_36 : orders K_law25_OpsAll ops7 ws7 10 (bm 485375) = T7_36 := o_some (n := 9) (i := 15) (by kernel_rfl) (nd_eq (g := g7_15) (by kernel_rfl) ((or_eq (m := 518143) (by kernel_rfl)).trans o7_31))
theorem o7_37 : orders K_law25_OpsAll ops7 ws7 8 (bm 2043903) = T7_37 := o_some (n := 7) (i := 12) (by kernel_rfl) (nd_eq (g := g7_12) (by kernel_rfl) ((or_eq (m := 2047999) (by kernel_rfl)).trans o7_18))
theorem o7_38 : orders K_law25_OpsAll ops7 ws7 8 (bm 2058239) = T7_38 := o_some (n := 7) (i := 15) (by kernel_rfl) (nd_eq (g := g7_15) (by kernel_rfl) ((or_eq (m := 2091007) (by kernel_rfl)).trans o7_29))
theorem o7_39 : orders K_law25_OpsAll ops7 ws7 7 (bm 4141055) = T7_39 := o_some (n := 6) (i := 12) (by kernel_rfl) (nd_eq (g := g7_12) (by kernel_rfl) ((or_eq (m := 4145151) (by kernel_rfl)).trans o7_17))
theorem o7_40 : orders K_law25_OpsAll ops7 ws7 8 (bm 4139007) = T7_40 := o_some (n := 7) (i := 11) (by kernel_rfl) (nd_eq (g := g7_11) (by kernel_rfl) ((or_eq (m := 4141055) (by kernel_rfl)).trans o7_39))
theorem o7_41 : orders K_law25_OpsAll ops7 ws7 9 (bm 2041855) = T7_41 := o_three (n := 8) (i := 11) (j := 14) (k := 21) (by kernel_rfl) (by kernel_rfl) (nd_eq (g := g7_11) (by kernel_rfl) ((or_eq (m := 2043903) (by kernel_rfl)).trans o7_37)) (nd_eq (g := g7_14) (by kernel_rfl) ((or_eq (m := 2058239) (by kernel_rfl)).trans o7_38)) (nd_eq (g := g7_21) (by kernel_rfl) ((or_eq (m := 4139007) (by kernel_rfl)).trans o7_40))
theorem o7_42 : orders K_law25_OpsAll ops7 ws7 10 (bm 993279) = T7_42 := o_some (n := 9) (i := 20) (by kernel_rfl) (nd_eq (g := g7_20) (by kernel_rfl) ((or_eq (m := 2041855) (by kernel_rfl)).trans o7_41))
theorem o7_43 : orders K_law25_OpsAll ops7 ws7 11 (bm 468991) = T7_43 := o_three (n := 10) (i := 11) (j := 14) (k := 19) (by kernel_rfl) (by kernel_rfl) (nd_eq (g := g7_11) (by kernel_rfl) ((or_eq (m := 471039) (by kernel_rfl)).trans o7_35)) (nd_eq (g := g7_14) (by kernel_rfl) ((or_eq (m := 485375) (by kernel_rfl)).trans o7_36)) (nd_eq (g := g7_19) (by kernel_rfl) ((or_eq (m := 993279) (by kernel_rfl)).trans o7_42))
theorem o7_44 : orders K_law25_OpsAll ops7 ws7 12 (bm 206847) = T7_44 := o_some (n := 11) (i := 18) (by kernel_rfl) (nd_eq (g := g7_18) (by kernel_rfl) ((or_eq (m := 468991) (by kernel_rfl)).trans o7_43))
theorem o7_45 : orders K_law25_OpsAll ops7 ws7 13 (bm 75775) = T7_45 := o_three (n := 12) (i := 11) (j := 14) (k := 17) (by kernel_rfl) (by kernel_rfl) (nd_eq (g := g7_11) (by kernel_rfl) ((or_eq (m := 77823) (by kernel_rfl)).trans o7_23)) (nd_eq (g := g7_14) (by kernel_rfl) ((or_eq (m := 92159) (by kernel_rfl)).trans o7_34)) (nd_eq (g := g7_17) (by kernel_rfl) ((or_eq (m := 206847) (by kernel_rfl)).trans o7_44))
theorem o7_46 : orders K_law25_OpsAll ops7 ws7 14 (bm 75263) = T7_46 := o_some (n := 13) (i := 9) (by kernel_rfl) (nd_eq (g := g7_9) (by kernel_rfl) ((or_eq (m := 75775) (by kernel_rfl)).trans o7_45))
theorem o7_47 : orders K_law25_OpsAll ops7 ws7 12 (bm 81407) = T7_47 := o_some (n := 11) (i := 9) (by kernel_rfl) (nd_eq (g := g7_9) (by kernel_rfl) ((or_eq (m := 81919) (by kernel_rfl)).trans o7_22))
theorem o7_48 : orders K_law25_OpsAll ops7 ws7 10 (bm 130559) = T7_48 := o_some (n := 9) (i := 9) (by kernel_rfl) (nd_eq (g := g7_9) (by kernel_rfl) ((or_eq (m := 131071) (by kernel_rfl)).trans o7_9))
theorem o7_49 : orders K_law25_OpsAll ops7 ws7 8 (bm 523775) = T7_49 := o_some (n := 7) (i := 9) (by kernel_rfl) (nd_eq (g := g7_9) (by kernel_rfl) ((or_eq (m := 524287) (by kernel_rfl)).trans o7_7))
theorem o7_50 : orders K_law25_OpsAll ops7 ws7 7 (bm 1048063) = T7_50 := o_some (n := 6) (i := 9) (by kernel_rfl) (nd_eq (g := g7_9) (by kernel_rfl) ((or_eq (m := 1048575) (by kernel_rfl)).trans o7_6))
theorem o7_51 : orders K_law25_OpsAll ops7 ws7 8 (bm 1047807) = T7_51 := o_some (n := 7) (i := 8) (by kernel_rfl) (nd_eq (g := g7_8) (by kernel_rfl) ((or_eq (m := 1048063) (by kernel_rfl)).trans o7_50))
theorem o7_52 : orders K_law25_OpsAll ops7 ws7 9 (bm 523519) = T7_52 := o_two (n := 8) (i := 8) (j := 19) (by kernel_rfl) (by kernel_rfl) (nd_eq (g := g7_8) (by kernel_rfl) ((or_eq (m := 523775) (by kernel_rfl)).trans o7_49)) (nd_eq (g := g7_19) (by kernel_rfl) ((or_eq (m := 1047807) (by kernel_rfl)).trans o7_51))
theorem o7_53 : orders K_law25_OpsAll ops7 ws7 10 (bm 261375) = T7_53 := o_some (n := 9) (i := 18) (by kernel_rfl) (nd_eq (g := g7_18) (by kernel_rfl) ((or_eq (m := 523519) (by kernel_rfl)).trans o7_52))
theorem o7_54 : orders K_law25_OpsAll ops7 ws7 11 (bm 130303) = T7_54 := o_two (n := 10) (i := 8) (j := 17) (by kernel_rfl) (by kernel_rfl) (nd_eq (g := g7_8) (by kernel_rfl) ((or_eq (m := 130559) (by kernel_rfl)).trans o7_48)) (nd_eq (g := g7_17) (by kernel_rfl) ((or_eq (m := 261375) (by kernel_rfl)).trans o7_53))
theorem o7_55 : orders K_law25_OpsAll ops7 ws7 12 (bm 97535) = T7_55 := o_some (n := 11) (i := 15) (by kernel_rfl) (nd_eq (g := g7_15) (by kernel_rfl) ((or_eq (m := 130303) (by kernel_rfl)).trans o7_54))
theorem o7_56 : orders K_law25_OpsAll ops7 ws7 10 (bm 474623) = T7_56 := o_some (n := 9) (i := 9) (by kernel_rfl) (nd_eq (g := g7_9) (by kernel_rfl) ((or_eq (m := 475135) (by kernel_rfl)).trans o7_20))
theorem o7_57 : orders K_law25_OpsAll ops7 ws7 10 (bm 490751) = T7_57 := o_some (n := 9) (i := 15) (by kernel_rfl) (nd_eq (g := g7_15) (by kernel_rfl) ((or_eq (m := 523519) (by kernel_rfl)).trans o7_52))
theorem o7_58 : orders K_law25_OpsAll ops7 ws7 9 (bm 998911) = T7_58 := o_some (n := 8) (i := 9) (by kernel_rfl) (nd_eq (g := g7_9) (by kernel_rfl) ((or_eq (m := 999423) (by kernel_rfl)).trans o7_19))
theorem o7_59 : orders K_law25_OpsAll ops7 ws7 10 (bm 998655) = T7_59 := o_some (n := 9) (i := 8) (by kernel_rfl) (nd_eq (g := g7_8) (by kernel_rfl) ((or_eq (m := 998911) (by kernel_rfl)).trans o7_58))
theorem o7_60 : orders K_law25_OpsAll ops7 ws7 11 (bm 474367) = T7_60 := o_three (n := 10) (i := 8) (j := 14) (k := 19) (by kernel_rfl) (by kernel_rfl) (nd_eq (g := g7_8) (by kernel_rfl) ((or_eq (m := 474623) (by kernel_rfl)).trans o7_56)) (nd_eq (g := g7_14) (by kernel_rfl) ((or_eq (m := 490751) (by kernel_rfl)).trans o7_57)) (nd_eq (g := g7_19) (by kernel_rfl) ((or_eq (m := 998655) (by kernel_rfl)).trans o7_59))
theorem o7_61 : orders K_law25_OpsAll ops7 ws7 12 (bm 212223) = T7_61 := o_some (n := 11) (i := 18) (by kernel_rfl) (nd_eq (g := g7_18) (by kernel_rfl) ((or_eq (m := 474367) (by kernel_rfl)).trans o7_60))
theorem o7_62 : orders K_law25_OpsAll ops7 ws7 13 (bm 81151) = T7_62 := o_three (n := 12) (i := 8) (j := 14) (k := 17) (by kernel_rfl) (by kernel_rfl) (nd_eq (g := g7_8) (by kernel_rfl) ((or_eq (m := 81407) (by kernel_rfl)).trans o7_47)) (nd_eq (g := g7_14) (by kernel_rfl) ((or_eq (m := 97535) (by kernel_rfl)).trans o7_55)) (nd_eq (g := g7_17) (by kernel_rfl) ((or_eq (m := 212223) (by kernel_rfl)).trans o7_61))
theorem o7_63 : orders K_law25_OpsAll ops7 ws7 14 (bm 77055) = T7_63 := o_some (n := 13) (i := 12) (by kernel_rfl) (nd_eq (g := g7_12) (by kernel_rfl) ((or_eq (m := 81151) (by kernel_rfl)).trans o7_62))
theorem o7_64 : orders K_law25_OpsAll ops7 ws7 12 (bm 124415) = T7_64 := o_some (n := 11) (i := 9) (by kernel_rfl) (nd_eq (g := g7_9) (by kernel_rfl) ((or_eq (m := 124927) (by kernel_rfl)).trans o7_33))
theorem o7_65 : orders K_law25_OpsAll ops7 ws7 12 (bm 126207) = T7_65 := o_some (n := 11) (i := 12) (by kernel_rfl) (nd_eq (g := g7_12) (by kernel_rfl) ((or_eq (m := 130303) (by kernel_rfl)).trans o7_54))
theorem o7_66 : orders K_law25_OpsAll ops7 ws7 10 (bm 517631) = T7_66 := o_some (n := 9) (i := 9) (by kernel_rfl) (nd_eq (g := g7_9) (by kernel_rfl) ((or_eq (m := 518143) (by kernel_rfl)).trans o7_31))
theorem o7_67 : orders K_law25_OpsAll ops7 ws7 10 (bm 519423) = T7_67 := o_some (n := 9) (i := 12) (by kernel_rfl) (nd_eq (g := g7_12) (by kernel_rfl) ((or_eq (m := 523519) (by kernel_rfl)).trans o7_52))
theorem o7_68 : orders K_law25_OpsAll ops7 ws7 9 (bm 1041919) = T7_68 := o_some (n := 8) (i := 9) (by kernel_rfl) (nd_eq (g := g7_9) (by kernel_rfl) ((or_eq (m := 1042431) (by kernel_rfl)).trans o7_30))
theorem o7_69 : orders K_law25_OpsAll ops7 ws7 10 (bm 1041663) = T7_69 := o_some (n := 9) (i := 8) (by kernel_rfl) (nd_eq (g := g7_8) (by kernel_rfl) ((or_eq (m := 1041919) (by kernel_rfl)).trans o7_68))
theorem o7_70 : orders K_law25_OpsAll ops7 ws7 11 (bm 517375) = T7_70 := o_three (n := 10) (i := 8) (j := 11) (k := 19) (by kernel_rfl) (by kernel_rfl) (nd_eq (g := g7_8) (by kernel_rfl) ((or_eq (m := 517631) (by kernel_rfl)).trans o7_66)) (nd_eq (g := g7_11) (by kernel_rfl) ((or_eq (m := 519423) (by kernel_rfl)).trans o7_67)) (nd_eq (g := g7_19) (by kernel_rfl) ((or_eq (m := 1041663) (by kernel_rfl)).trans o7_69))
theorem o7_71 : orders K_law25_OpsAll ops7 ws7 12 (bm 255231) = T7_71 := o_some (n := 11) (i := 18) (by kernel_rfl) (nd_eq (g := g7_18) (by kernel_rfl) ((or_eq (m := 517375) (by kernel_rfl)).trans o7_70))
theorem o7_72 : orders K_law25_OpsAll ops7 ws7 13 (bm 124159) = T7_72 := o_three (n := 12) (i := 8) (j := 11) (k := 17) (by kernel_rfl) (by kernel_rfl) (nd_eq (g := g7_8) (by kernel_rfl) ((or_eq (m := 124415) (by kernel_rfl)).trans o7_64)) (nd_eq (g := g7_11) (by kernel_rfl) ((or_eq (m := 126207) (by kernel_rfl)).trans o7_65)) (nd_eq (g := g7_17) (by kernel_rfl) ((or_eq (m := 255231) (by kernel_rfl)).trans o7_71))
theorem o7_73 : orders K_law25_OpsAll ops7 ws7 14 (bm 91391) = T7_73 := o_some (n := 13) (i := 15) (by kernel_rfl) (nd_eq (g := g7_15) (by kernel_rfl) ((or_eq (m := 124159) (by kernel_rfl)).trans o7_72))
theorem o7_74 : orders K_law25_OpsAll ops7 ws7 12 (bm 468479) = T7_74 := o_some (n := 11) (i := 9) (by kernel_rfl) (nd_eq (g := g7_9) (by kernel_rfl) ((or_eq (m := 468991) (by kernel_rfl)).trans o7_43))
theorem o7_75 : orders K_law25_OpsAll ops7 ws7 12 (bm 470271) = T7_75 := o_some (n := 11) (i := 12) (by kernel_rfl) (nd_eq (g := g7_12) (by kernel_rfl) ((or_eq (m := 474367) (by kernel_rfl)).trans o7_60))
theorem o7_76 : orders K_law25_OpsAll ops7 ws7 12 (bm 484607) = T7_76 := o_some (n := 11) (i := 15) (by kernel_rfl) (nd_eq (g := g7_15) (by kernel_rfl) ((or_eq (m := 517375) (by kernel_rfl)).trans o7_70))
theorem o7_77 : orders K_law25_OpsAll ops7 ws7 11 (bm 992767) = T7_77 := o_some (n := 10) (i := 9) (by kernel_rfl) (nd_eq (g := g7_9) (by kernel_rfl) ((or_eq (m := 993279) (by kernel_rfl)).trans o7_42))
theorem o7_78 : orders K_law25_OpsAll ops7 ws7 12 (bm 992511) = T7_78 := o_some (n := 11) (i := 8) (by kernel_rfl) (nd_eq (g := g7_8) (by kernel_rfl) ((or_eq (m := 992767) (by kernel_rfl)).trans o7_77))
theorem o7_79 : orders K_law25_OpsAll ops7 ws7 13 (bm 468223) = T7_79 := o_four (n := 12) (i := 8) (j := 11) (k := 14) (l := 19) (by kernel_rfl) (by kernel_rfl) (nd_eq (g := g7_8) (by kernel_rfl) ((or_eq (m := 468479) (by kernel_rfl)).trans o7_74)) (nd_eq (g := g7_11) (by kernel_rfl) ((or_eq (m := 470271) (by kernel_rfl)).trans o7_75)) (nd_eq (g := g7_14) (by kernel_rfl) ((or_eq (m := 484607) (by kernel_rfl)).trans o7_76)) (nd_eq (g := g7_19) (by kernel_rfl) ((or_eq (m := 992511) (by kernel_rfl)).trans o7_78))
theorem o7_80 : orders K_law25_OpsAll ops7 ws7 14 (bm 206079) = T7_80 := o_some (n := 13) (i := 18) (by kernel_rfl) (nd_eq (g := g7_18) (by kernel_rfl) ((or_eq (m := 468223) (by kernel_rfl)).trans o7_79))
theorem o7_81 : orders K_law25_OpsAll ops7 ws7 15 (bm 75007) = T7_81 := o_four (n := 14) (i := 8) (j := 11) (k := 14) (l := 17) (by kernel_rfl) (by kernel_rfl) (nd_eq (g := g7_8) (by kernel_rfl) ((or_eq (m := 75263) (by kernel_rfl)).trans o7_46)) (nd_eq (g := g7_11) (by kernel_rfl) ((or_eq (m := 77055) (by kernel_rfl)).trans o7_63)) (nd_eq (g := g7_14) (by kernel_rfl) ((or_eq (m := 91391) (by kernel_rfl)).trans o7_73)) (nd_eq (g := g7_17) (by kernel_rfl) ((or_eq (m := 206079) (by kernel_rfl)).trans o7_80))
theorem o7_82 : orders K_law25_OpsAll ops7 ws7 16 (bm 74943) = T7_82 := o_some (n := 15) (i := 6) (by kernel_rfl) (nd_eq (g := g7_6) (by kernel_rfl) ((or_eq (m := 75007) (by kernel_rfl)).trans o7_81))
theorem o7_83 : orders K_law25_OpsAll ops7 ws7 14 (bm 75711) = T7_83 := o_some (n := 13) (i := 6) (by kernel_rfl) (nd_eq (g := g7_6) (by kernel_rfl) ((or_eq (m := 75775) (by kernel_rfl)).trans o7_45))
theorem o7_84 : orders K_law25_OpsAll ops7 ws7 12 (bm 81855) = T7_84 := o_some (n := 11) (i := 6) (by kernel_rfl) (nd_eq (g := g7_6) (by kernel_rfl) ((or_eq (m := 81919) (by kernel_rfl)).trans o7_22))
theorem o7_85 : orders K_law25_OpsAll ops7 ws7 10 (bm 131007) = T7_85 := o_some (n := 9) (i := 6) (by kernel_rfl) (nd_eq (g := g7_6) (by kernel_rfl) ((or_eq (m := 131071) (by kernel_rfl)).trans o7_9))
theorem o7_86 : orders K_law25_OpsAll ops7 ws7 9 (bm 262079) = T7_86 := o_some (n := 8) (i := 6) (by kernel_rfl) (nd_eq (g := g7_6) (by kernel_rfl) ((or_eq (m := 262143) (by kernel_rfl)).trans o7_8))
theorem o7_87 : orders K_law25_OpsAll ops7 ws7 10 (bm 262047) = T7_87 := o_some (n := 9) (i := 5) (by kernel_rfl) (nd_eq (g := g7_5) (by kernel_rfl) ((or_eq (m := 262079) (by kernel_rfl)).trans o7_86))
theorem o7_88 : orders K_law25_OpsAll ops7 ws7 11 (bm 130975) = T7_88 := o_two (n := 10) (i := 5) (j := 17) (by kernel_rfl) (by kernel_rfl) (nd_eq (g := g7_5) (by kernel_rfl) ((or_eq (m := 131007) (by kernel_rfl)).trans o7_85)) (nd_eq (g := g7_17) (by kernel_rfl) ((or_eq (m := 262047) (by kernel_rfl)).trans o7_87))
theorem o7_89 : orders K_law25_OpsAll ops7 ws7 12 (bm 98207) = T7_89 := o_some (n := 11) (i := 15) (by kernel_rfl) (nd_eq (g := g7_15) (by kernel_rfl) ((or_eq (m := 130975) (by kernel_rfl)).trans o7_88))
theorem o7_90 : orders K_law25_OpsAll ops7 ws7 11 (bm 212927) = T7_90 := o_some (n := 10) (i := 6) (by kernel_rfl) (nd_eq (g := g7_6) (by kernel_rfl) ((or_eq (m := 212991) (by kernel_rfl)).trans o7_21))
theorem o7_91 : orders K_law25_OpsAll ops7 ws7 12 (bm 212895) = T7_91 := o_some (n := 11) (i := 5) (by kernel_rfl) (nd_eq (g := g7_5) (by kernel_rfl) ((or_eq (m := 212927) (by kernel_rfl)).trans o7_90))
theorem o7_92 : orders K_law25_OpsAll ops7 ws7 13 (bm 81823) = T7_92 := o_three (n := 12) (i := 5) (j := 14) (k := 17) (by kernel_rfl) (by kernel_rfl) (nd_eq (g := g7_5) (by kernel_rfl) ((or_eq (m := 81855) (by kernel_rfl)).trans o7_84)) (nd_eq (g := g7_14) (by kernel_rfl) ((or_eq (m := 98207) (by kernel_rfl)).trans o7_89)) (nd_eq (g := g7_17) (by kernel_rfl) ((or_eq (m := 212895) (by kernel_rfl)).trans o7_91))
theorem o7_93 : orders K_law25_OpsAll ops7 ws7 14 (bm 77727) = T7_93 := o_some (n := 13) (i := 12) (by kernel_rfl) (nd_eq (g := g7_12) (by kernel_rfl) ((or_eq (m := 81823) (by kernel_rfl)).trans o7_92))
theorem o7_94 : orders K_law25_OpsAll ops7 ws7 12 (bm 124863) = T7_94 := o_some (n := 11) (i := 6) (by kernel_rfl) (nd_eq (g := g7_6) (by kernel_rfl) ((or_eq (m := 124927) (by kernel_rfl)).trans o7_33))
theorem o7_95 : orders K_law25_OpsAll ops7 ws7 12 (bm 126879) = T7_95 := o_some (n := 11) (i := 12) (by kernel_rfl) (nd_eq (g := g7_12) (by kernel_rfl) ((or_eq (m := 130975) (by kernel_rfl)).trans o7_88))
theorem o7_96 : orders K_law25_OpsAll ops7 ws7 11 (bm 255935) = T7_96 := o_some (n := 10) (i := 6) (by kernel_rfl) (nd_eq (g := g7_6) (by kernel_rfl) ((or_eq (m := 255999) (by kernel_rfl)).trans o7_32))
theorem o7_97 : orders K_law25_OpsAll ops7 ws7 12 (bm 255903) = T7_97 := o_some (n := 11) (i := 5) (by kernel_rfl) (nd_eq (g := g7_5) (by kernel_rfl) ((or_eq (m := 255935) (by kernel_rfl)).trans o7_96))
theorem o7_98 : orders K_law25_OpsAll ops7 ws7 13 (bm 124831) = T7_98 := o_three (n := 12) (i := 5) (j := 11) (k := 17) (by kernel_rfl) (by kernel_rfl) (nd_eq (g := g7_5) (by kernel_rfl) ((or_eq (m := 124863) (by kernel_rfl)).trans o7_94)) (nd_eq (g := g7_11) (by kernel_rfl) ((or_eq (m := 126879) (by kernel_rfl)).trans o7_95)) (nd_eq (g := g7_17) (by kernel_rfl) ((or_eq (m := 255903) (by kernel_rfl)).trans o7_97))
theorem o7_99 : orders K_law25_OpsAll ops7 ws7 14 (bm 92063) = T7_99 := o_some (n := 13) (i := 15) (by kernel_rfl) (nd_eq (g := g7_15) (by kernel_rfl) ((or_eq (m := 124831) (by kernel_rfl)).trans o7_98))
theorem o7_100 : orders K_law25_OpsAll ops7 ws7 13 (bm 206783) = T7_100 := o_some (n := 12) (i := 6) (by kernel_rfl) (nd_eq (g := g7_6) (by kernel_rfl) ((or_eq (m := 206847) (by kernel_rfl)).trans o7_44))
theorem o7_101 : orders K_law25_OpsAll ops7 ws7 14 (bm 206751) = T7_101 := o_some (n := 13) (i := 5) (by kernel_rfl) (nd_eq (g := g7_5) (by kernel_rfl) ((or_eq (m := 206783) (by kernel_rfl)).trans o7_100))
theorem o7_102 : orders K_law25_OpsAll ops7 ws7 15 (bm 75679) = T7_102 := o_four (n := 14) (i := 5) (j := 11) (k := 14) (l := 17) (by kernel_rfl) (by kernel_rfl) (nd_eq (g := g7_5) (by kernel_rfl) ((or_eq (m := 75711) (by kernel_rfl)).trans o7_83)) (nd_eq (g := g7_11) (by kernel_rfl) ((or_eq (m := 77727) (by kernel_rfl)).trans o7_93)) (nd_eq (g := g7_14) (by kernel_rfl) ((or_eq (m := 92063) (by kernel_rfl)).trans o7_99)) (nd_eq (g := g7_17) (by kernel_rfl) ((or_eq (m := 206751) (by kernel_rfl)).trans o7_101))
theorem o7_103 : orders K_law25_OpsAll ops7 ws7 16 (bm 75167) = T7_103 := o_some (n := 15) (i := 9) (by kernel_rfl) (nd_eq (g := g7_9) (by kernel_rfl) ((or_eq (m := 75679) (by kernel_rfl)).trans o7_102))
theorem o7_104 : orders K_law25_OpsAll ops7 ws7 14 (bm 81087) = T7_104 := o_some (n := 13) (i := 6) (by kernel_rfl) (nd_eq (g := g7_6) (by kernel_rfl) ((or_eq (m := 81151) (by kernel_rfl)).trans o7_62))
theorem o7_105 : orders K_law25_OpsAll ops7 ws7 14 (bm 81311) = T7_105 := o_some (n := 13) (i := 9) (by kernel_rfl) (nd_eq (g := g7_9) (by kernel_rfl) ((or_eq (m := 81823) (by kernel_rfl)).trans o7_92))
theorem o7_106 : orders K_law25_OpsAll ops7 ws7 12 (bm 130239) = T7_106 := o_some (n := 11) (i := 6) (by kernel_rfl) (nd_eq (g := g7_6) (by kernel_rfl) ((or_eq (m := 130303) (by kernel_rfl)).trans o7_54))
theorem o7_107 : orders K_law25_OpsAll ops7 ws7 12 (bm 130463) = T7_107 := o_some (n := 11) (i := 9) (by kernel_rfl) (nd_eq (g := g7_9) (by kernel_rfl) ((or_eq (m := 130975) (by kernel_rfl)).trans o7_88))
theorem o7_108 : orders K_law25_OpsAll ops7 ws7 11 (bm 261311) = T7_108 := o_some (n := 10) (i := 6) (by kernel_rfl) (nd_eq (g := g7_6) (by kernel_rfl) ((or_eq (m := 261375) (by kernel_rfl)).trans o7_53))
theorem o7_109 : orders K_law25_OpsAll ops7 ws7 12 (bm 261279) = T7_109 := o_some (n := 11) (i := 5) (by kernel_rfl) (nd_eq (g := g7_5) (by kernel_rfl) ((or_eq (m := 261311) (by kernel_rfl)).trans o7_108))
theorem o7_110 : orders K_law25_OpsAll ops7 ws7 13 (bm 130207) = T7_110 := o_three (n := 12) (i := 5) (j := 8) (k := 17) (by kernel_rfl) (by kernel_rfl) (nd_eq (g := g7_5) (by kernel_rfl) ((or_eq (m := 130239) (by kernel_rfl)).trans o7_106)) (nd_eq (g := g7_8) (by kernel_rfl) ((or_eq (m := 130463) (by kernel_rfl)).trans o7_107)) (nd_eq (g := g7_17) (by kernel_rfl) ((or_eq (m := 261279) (by kernel_rfl)).trans o7_109))
theorem o7_111 : orders K_law25_OpsAll ops7 ws7 14 (bm 97439) = T7_111 := o_some (n := 13) (i := 15) (by kernel_rfl) (nd_eq (g := g7_15) (by kernel_rfl) ((or_eq (m := 130207) (by kernel_rfl)).trans o7_110))
theorem o7_112 : orders K_law25_OpsAll ops7 ws7 13 (bm 212159) = T7_112 := o_some (n := 12) (i := 6) (by kernel_rfl) (nd_eq (g := g7_6) (by kernel_rfl) ((or_eq (m := 212223) (by kernel_rfl)).trans o7_61))
theorem o7_113 : orders K_law25_OpsAll ops7 ws7 14 (bm 212127) = T7_113 := o_some (n := 13) (i := 5) (by kernel_rfl) (nd_eq (g := g7_5) (by kernel_rfl) ((or_eq (m := 212159) (by kernel_rfl)).trans o7_112))
theorem o7_114 : orders K_law25_OpsAll ops7 ws7 15 (bm 81055) = T7_114 := o_four (n := 14) (i := 5) (j := 8) (k := 14) (l := 17) (by kernel_rfl) (by kernel_rfl) (nd_eq (g := g7_5) (by kernel_rfl) ((or_eq (m := 81087) (by kernel_rfl)).trans o7_104)) (nd_eq (g := g7_8) (by kernel_rfl) ((or_eq (m := 81311) (by kernel_rfl)).trans o7_105)) (nd_eq (g := g7_14) (by kernel_rfl) ((or_eq (m := 97439) (by kernel_rfl)).trans o7_111)) (nd_eq (g := g7_17) (by kernel_rfl) ((or_eq (m := 212127) (by kernel_rfl)).trans o7_113))
theorem o7_115 : orders K_law25_OpsAll ops7 ws7 16 (bm 76959) = T7_115 := o_some (n := 15) (i := 12) (by kernel_rfl) (nd_eq (g := g7_12) (by kernel_rfl) ((or_eq (m := 81055) (by kernel_rfl)).trans o7_114))
theorem o7_116 : orders K_law25_OpsAll ops7 ws7 14 (bm 124095) = T7_116 := o_some (n := 13) (i := 6) (by kernel_rfl) (nd_eq (g := g7_6) (by kernel_rfl) ((or_eq (m := 124159) (by kernel_rfl)).trans o7_72))
theorem o7_117 : orders K_law25_OpsAll ops7 ws7 14 (bm 124319) = T7_117 := o_some (n := 13) (i := 9) (by kernel_rfl) (nd_eq (g := g7_9) (by kernel_rfl) ((or_eq (m := 124831) (by kernel_rfl)).trans o7_98))
theorem o7_118 : orders K_law25_OpsAll ops7 ws7 14 (bm 126111) = T7_118 := o_some (n := 13) (i := 12) (by kernel_rfl) (nd_eq (g := g7_12) (by kernel_rfl) ((or_eq (m := 130207) (by kernel_rfl)).trans o7_110))
theorem o7_119 : orders K_law25_OpsAll ops7 ws7 13 (bm 255167) = T7_119 := o_some (n := 12) (i := 6) (by kernel_rfl) (nd_eq (g := g7_6) (by kernel_rfl) ((or_eq (m := 255231) (by kernel_rfl)).trans o7_71))
theorem o7_120 : orders K_law25_OpsAll ops7 ws7 14 (bm 255135) = T7_120 := o_some (n := 13) (i := 5) (by kernel_rfl) (nd_eq (g := g7_5) (by kernel_rfl) ((or_eq (m := 255167) (by kernel_rfl)).trans o7_119))
theorem o7_121 : orders K_law25_OpsAll ops7 ws7 15 (bm 124063) = T7_121 := o_four (n := 14) (i := 5) (j := 8) (k := 11) (l := 17) (by kernel_rfl) (by kernel_rfl) (nd_eq (g := g7_5) (by kernel_rfl) ((or_eq (m := 124095) (by kernel_rfl)).trans o7_116)) (nd_eq (g := g7_8) (by kernel_rfl) ((or_eq (m := 124319) (by kernel_rfl)).trans o7_117)) (nd_eq (g := g7_11) (by kernel_rfl) ((or_eq (m := 126111) (by kernel_rfl)).trans o7_118)) (nd_eq (g := g7_17) (by kernel_rfl) ((or_eq (m := 255135) (by kernel_rfl)).trans o7_120))
theorem o7_122 : orders K_law25_OpsAll ops7 ws7 16 (bm 91295) = T7_122 := o_some (n := 15) (i := 15) (by kernel_rfl) (nd_eq (g := g7_15) (by kernel_rfl) ((or_eq (m := 124063) (by kernel_rfl)).trans o7_121))
theorem o7_123 : orders K_law25_OpsAll ops7 ws7 15 (bm 206015) = T7_123 := o_some (n := 14) (i := 6) (by kernel_rfl) (nd_eq (g := g7_6) (by kernel_rfl) ((or_eq (m := 206079) (by kernel_rfl)).trans o7_80))
theorem o7_124 : orders K_law25_OpsAll ops7 ws7 16 (bm 205983) = T7_124 := o_some (n := 15) (i := 5) (by kernel_rfl) (nd_eq (g := g7_5) (by kernel_rfl) ((or_eq (m := 206015) (by kernel_rfl)).trans o7_123))
theorem o7_125 : orders K_law25_OpsAll ops7 ws7 17 (bm 74911) = T7_125 := o_five (n := 16) (i := 5) (j := 8) (k := 11) (l := 14) (m := 17) (by kernel_rfl) (by kernel_rfl) (nd_eq (g := g7_5) (by kernel_rfl) ((or_eq (m := 74943) (by kernel_rfl)).trans o7_82)) (nd_eq (g := g7_8) (by kernel_rfl) ((or_eq (m := 75167) (by kernel_rfl)).trans o7_103)) (nd_eq (g := g7_11) (by kernel_rfl) ((or_eq (m := 76959) (by kernel_rfl)).trans o7_115)) (nd_eq (g := g7_14) (by kernel_rfl) ((or_eq (m := 91295) (by kernel_rfl)).trans o7_122)) (nd_eq (g := g7_17) (by kernel_rfl) ((or_eq (m := 205983) (by kernel_rfl)).trans o7_124))
theorem o7_126 : orders K_law25_OpsAll ops7 ws7 18 (bm 9375) = T7_126 := o_some (n := 17) (i := 16) (by kernel_rfl) (nd_eq (g := g7_16) (by kernel_rfl) ((or_eq (m := 74911) (by kernel_rfl)).trans o7_125))
theorem o7_127 : orders K_law25_OpsAll ops7 ws7 19 (bm 1183) = T7_127 := o_some (n := 18) (i := 13) (by kernel_rfl) (nd_eq (g := g7_13) (by kernel_rfl) ((or_eq (m := 9375) (by kernel_rfl)).trans o7_126))
theorem o7_128 : orders K_law25_OpsAll ops7 ws7 20 (bm 159) = T7_128 := o_some (n := 19) (i := 10) (by kernel_rfl) (nd_eq (g := g7_10) (by kernel_rfl) ((or_eq (m := 1183) (by kernel_rfl)).trans o7_127))
theorem o7_129 : orders K_law25_OpsAll ops7 ws7 21 (bm 31) = T7_129 := o_some (n := 20) (i := 7) (by kernel_rfl) (nd_eq (g := g7_7) (by kernel_rfl) ((or_eq (m := 159) (by kernel_rfl)).trans o7_128))
theorem o7_130 : orders K_law25_OpsAll ops7 ws7 22 (bm 15) = T7_130 := o_some (n := 21) (i := 4) (by kernel_rfl) (nd_eq (g := g7_4) (by kernel_rfl) ((or_eq (m := 31) (by kernel_rfl)).trans o7_129))
theorem o7_131 : orders K_law25_OpsAll ops7 ws7 23 (bm 7) = T7_131 := o_some (n := 22) (i := 3) (by kernel_rfl) (nd_eq (g := g7_3) (by kernel_rfl) ((or_eq (m := 15) (by kernel_rfl)).trans o7_130))
theorem o7_132 : orders K_law25_OpsAll ops7 ws7 24 (bm 3) = T7_132 := o_some (n := 23) (i := 2) (by kernel_rfl) (nd_eq (g := g7_2) (by kernel_rfl) ((or_eq (m := 7) (by kernel_rfl)).trans o7_131))
theorem o7_133 : orders K_law25_OpsAll ops7 ws7 25 (bm 1) = T7_133 := o_some (n := 24) (i := 1) (by kernel_rfl) (nd_eq (g := g7_1) (by kernel_rfl) ((or_eq (m := 3) (by kernel_rfl)).trans o7_132))
theorem o7_134 : orders K_law25_OpsAll ops7 ws7 26 (bm 0) = T7_134 := o_some (n := 25) (i := 0) (by kernel_rfl) (nd_eq (g := g7_0) (by kernel_rfl) ((or_eq (m := 1) (by kernel_rfl)).trans o7_133))
theorem p7_eq : p7 = .region id7 ops7 true := by kernel_rfl
theorem g7 : toG K_law25_OpsAll 120 (cA (cB (cB (cB (cB (cB b7)))))) = some (.orders T7_134) := by
  have h3 : orders K_law25_OpsAll ops7 (allWaits ops7.toList []) ops7.size (Array.replicate ops7.size false) = T7_134 := (show orders K_law25_OpsAll ops7 (allWaits ops7.toList []) ops7.size (Array.replicate ops7.size false) = orders K_law25_OpsAll ops7 ws7 26 (bm 0) by
    rw [show allWaits ops7.toList [] = ws7 from by kernel_rfl, show Array.replicate ops7.size false = (bm 0) from by kernel_rfl, show ops7.size = 26 from by kernel_rfl]).trans o7_134
  have := toG_orders (C := K_law25_OpsAll) (N := 120) (id := id7) (ops := ops7) (by kernel_rfl) (by kernel_rfl) h3
  rw [← p7_eq] at this
  exact this
theorem geq_law25_OpsAll : gof K_law25_OpsAll Try.f3 = some G_law25_OpsAll.strip := by
  have hb : Try.f3.body = some b7 := by kernel_rfl
  have hn : Try.f3.ntmps = 120 := by kernel_rfl
  unfold gof
  rw [hb, hn, Option.bind_some]
  have h7 := toG_sq (C := K_law25_OpsAll) (c := cB (cB (cB (cB (cB b7))))) (y := G_law25_OpsAll_8.strip) (by kernel_rfl) g7 (by kernel_rfl)
  have h6 := toG_sq (C := K_law25_OpsAll) (c := cB (cB (cB (cB b7)))) (x := (gA G_law25_OpsAll_6).strip) (by kernel_rfl) (by kernel_rfl) h7
  have h5 := toG_sq (C := K_law25_OpsAll) (c := cB (cB (cB b7))) (x := (gA G_law25_OpsAll_5).strip) (by kernel_rfl) (by kernel_rfl) h6
  have h3 := toG_sq (C := K_law25_OpsAll) (c := cB (cB b7)) (x := (gA (gB (gB G_law25_OpsAll))).strip) (by kernel_rfl) (by kernel_rfl) h5
  have h1 := toG_sq (C := K_law25_OpsAll) (c := cB b7) (x := (gA (gB G_law25_OpsAll)).strip) (by kernel_rfl) (by kernel_rfl) h3
  have h0 := toG_sq (C := K_law25_OpsAll) (c := b7) (x := (gA G_law25_OpsAll).strip) (by kernel_rfl) (by kernel_rfl) h1
  exact h0.trans (by kernel_rfl)
theorem sys_law25_OpsAll : Go.Eng.Sys Try.prog K_law25_OpsAll := sys_of' ⟨ok_law25_begun, ok_law25_made, ok_ops_Put, ok_ref25_PutSteps, ok_ops_Take, ok_ref25_TakeSteps, ok_ref25_SameSteps, trivial⟩
theorem hm_law25_OpsAll : ConMono K_law25_OpsAll := conMono_of sys_law25_OpsAll.con
noncomputable def k_law25_OpsAll_law25_begun := PLift.up (call_scal (C := K_law25_OpsAll) (f := 8) (A := A_law25_begun) (p := p_law25_begun) (r := r_law25_begun) rfl)
noncomputable def k_law25_OpsAll_law25_made := PLift.up (call_gen (C := K_law25_OpsAll) (f := 9) (modes := m_law25_made) (F := F_law25_made) rfl)
noncomputable def k_law25_OpsAll_ops_Put := PLift.up (call_scal (C := K_law25_OpsAll) (f := 10) (A := A_ops_Put) (p := p_ops_Put) (r := r_ops_Put) rfl)
noncomputable def k_law25_OpsAll_ref25_PutSteps := PLift.up (call_scal (C := K_law25_OpsAll) (f := 11) (A := A_ref25_PutSteps) (p := p_ref25_PutSteps) (r := r_ref25_PutSteps) rfl)
noncomputable def k_law25_OpsAll_ops_Take := PLift.up (call_fn (C := K_law25_OpsAll) (f := 13) (A := A_ops_Take) (p := p_ops_Take) (r := r_ops_Take) rfl)
noncomputable def k_law25_OpsAll_ref25_TakeSteps := PLift.up (call_fn (C := K_law25_OpsAll) (f := 14) (A := A_ref25_TakeSteps) (p := p_ref25_TakeSteps) (r := r_ref25_TakeSteps) rfl)
noncomputable def k_law25_OpsAll_ref25_SameSteps := PLift.up (call_scal (C := K_law25_OpsAll) (f := 12) (A := A_ref25_SameSteps) (p := p_ref25_SameSteps) (r := r_ref25_SameSteps) rfl)
noncomputable def A_law25_OpsAll : Arms ((List UInt8) × TStep × (List Byt) × Unit) := Arms.cons (argT (List UInt8)) (Arms.cons (argA TStep) (Arms.cons (argT (List Byt)) (Arms.nil)))
def p_law25_OpsAll (x : (List UInt8) × TStep × (List Byt) × Unit) : Prop := (goodStr x.1) ∧ ((goodInt x.2.1.Kind ∧ (goodInt x.2.1.ID ∧ (goodInt x.2.1.N ∧ (goodInt x.2.1.M ∧ (goodInt x.2.1.By ∧ (goodStr x.2.1.Path ∧ (goodStr x.2.1.To ∧ (goodStr x.2.1.Text ∧ (goodList (fun x : Int => goodInt x) x.2.1.Keep)))))))))) ∧ (goodList (fun x : Byt => goodAny x) x.2.2.1) ∧ goodAny (x.2.2.2)
abbrev r_law25_OpsAll (x : (List UInt8) × TStep × (List Byt) × Unit) : AV := rTrue x
theorem rd_law25_OpsAll : ReadsA Try.prog [9, 24, 25] A_law25_OpsAll p_law25_OpsAll := (readsA_T (reads_str Try.underlying9) (by kernel_rfl) (readsA_A (reads_iso (h := fun _ => rfl) (h' := fun _ => rfl) (reads_struct Try.underlying24 (by kernel_rfl) (by kernel_rfl) (readsL_cons (reads_int Try.underlying3) (by kernel_rfl) (readsL_cons (reads_int Try.underlying3) (by kernel_rfl) (readsL_cons (reads_int Try.underlying3) (by kernel_rfl) (readsL_cons (reads_int Try.underlying3) (by kernel_rfl) (readsL_cons (reads_int Try.underlying3) (by kernel_rfl) (readsL_cons (reads_str Try.underlying9) (by kernel_rfl) (readsL_cons (reads_str Try.underlying9) (by kernel_rfl) (readsL_cons (reads_str Try.underlying9) (by kernel_rfl) (readsL_one (reads_list Try.underlying22 (reads_int Try.underlying3) (by kernel_rfl) (by decide)) (by kernel_rfl)))))))))))) (by kernel_rfl) (readsA_T (reads_list Try.underlying25 (reads_u8 Try.underlying5) (by kernel_rfl) (by decide)) (by kernel_rfl) readsA_nil)))
def okS (x : TStep) : Prop := x.Path.length ≤ 300 ∧ x.To.length ≤ 300 ∧ x.Text.length ≤ 300 ∧ x.Keep.length ≤ 70
set_option maxRecDepth 100000 in
set_option maxHeartbeats 4000000 in
theorem all_9 {s : List UInt8} (hs : s.length ≤ 200) {l : List TStep} (hl : l.length ≤ 20) (hm : ∀ y ∈ l, okS y) {σ : St} (hσ : Wk σ (mkS [(0, .t (.str s)), (7, .t (sl l))] .empty)) :
    avp K_law25_OpsAll G_law25_OpsAll_9 (Ret K_law25_OpsAll [.tmp 6] fun v _ => v = .t (.bool true)) σ := by
  unfold G_law25_OpsAll_9
  simp only [avp_seq]
  refine ⟨_, hσ, ?_⟩
  have q1 : (∀ y ∈ l, smallS y) = True := by simp only [eq_iff_iff, iff_true]; exact fun y hy => by obtain ⟨a, b, c, d⟩ := hm y hy; exact ⟨by omega, by omega, by omega, by omega⟩
  have h1 : l.length ≤ 1048576 := by omega
  obtain ⟨P, hP⟩ : ∃ P, P = putL l := ⟨_, rfl⟩
  have hpl := putL_len l
  rw [← hP] at hpl
  have h2 : P.length + s.length ≤ 9223372036854775807 := by omega
  have h3 : s.length ≤ 9223372036854775806 := by omega
  simp only [vP.down, vS.down, vE.down, Nat.reduceEqDiff, Nat.reduceAdd, Nat.reduceSub, Nat.reduceMul, Nat.reduceLeDiff, Nat.reduceLT, Int.reduceToNat, reduceIte, reduceCtorEq, Int.reduceEq, Int.reduceLT, Int.reduceLE, ↓avp_condG, ↓tf_arrow, ↓ft_arrow, q1, h1, ← hP, h2, h3, k_law25_OpsAll_ops_Put.down, A_ops_Put, p_ops_Put, r_ops_Put, k_law25_OpsAll_ref25_PutSteps.down, A_ref25_PutSteps, p_ref25_PutSteps, r_ref25_PutSteps]
  refine ⟨by omega, by omega, fun g9 hg9 => ?_⟩
  obtain ⟨X, hX⟩ : ∃ X, X = [s, P, P ++ s, 21 :: s, 4 :: s] := ⟨_, rfl⟩
  have hXl : X.length = 5 := by rw [hX]; rfl
  have hXm : ∀ t ∈ X, t.length ≤ 1099511627776 := by
    intro t ht
    rw [hX] at ht
    simp only [List.mem_cons, List.not_mem_nil, or_false] at ht
    rcases ht with rfl | rfl | rfl | rfl | rfl <;> (try simp only [List.length_append, List.length_cons]) <;> omega
  refine loop_weak hm_law25_OpsAll (fun k σ => ∃ i : Nat, k = 5 - i ∧ i ≤ 5 ∧ σ = mkS [(9, .t (sl X)), (10, .t (.int .i64 (i : Nat)))] .empty) ⟨0, rfl, by omega, rfl⟩ (wk_to fewer_empty (by
    simp only [vP.down, vS.down, vE.down, Nat.reduceEqDiff, Nat.reduceAdd, Nat.reduceSub, Nat.reduceMul, Nat.reduceLeDiff, Nat.reduceLT, Int.reduceToNat, reduceIte, reduceCtorEq, Int.reduceEq, Int.reduceLT, Int.reduceLE, ↓avp_condG, ↓tf_arrow, ↓ft_arrow, wP.down, Int.natCast_zero]
    exact (lv_at (α := List UInt8) (l := X) (ro := false) (by rw [hXl]) (by rw [hX]; exact Store.set_same _ _ _)).w2 fun _ _ => rfl)) ?_
  rintro k _ ⟨i, rfl, hi, rfl⟩
  have hi1 : IntKind.i64.wrap ((i : Int) + 1) = ((i + 1 : Nat) : Int) := by rw [IntWalk.i64_in _ (by omega)]; rfl
  by_cases hlt : i < 5
  case neg =>
    obtain rfl : i = 5 := by omega
    have hge : ¬ (((5 : Nat) : Int) < 5) := by omega
    simp only [vP.down, vS.down, vE.down, Nat.reduceEqDiff, Nat.reduceAdd, Nat.reduceSub, Nat.reduceMul, Nat.reduceLeDiff, Nat.reduceLT, Int.reduceToNat, reduceIte, reduceCtorEq, Int.reduceEq, Int.reduceLT, Int.reduceLE, ↓avp_condG, ↓tf_arrow, ↓ft_arrow, hXl, hge]
    simp only [vP.down, vS.down, vE.down, Nat.reduceEqDiff, Nat.reduceAdd, Nat.reduceSub, Nat.reduceMul, Nat.reduceLeDiff, Nat.reduceLT, Int.reduceToNat, reduceIte, reduceCtorEq, Int.reduceEq, Int.reduceLT, Int.reduceLE, ↓avp_condG, ↓tf_arrow, ↓ft_arrow, vT.down]
  have hlt' : (i : Int) < 5 := by omega
  obtain ⟨t, ht⟩ : ∃ t, t = X.getD i default := ⟨_, rfl⟩
  have htl := hXm t (by rw [ht, List.getD_eq_getElem?_getD, List.getElem?_eq_getElem (by rw [hXl]; omega)]; exact List.getElem_mem _)
  obtain ⟨M, hM⟩ : ∃ M, M = takeS t := ⟨_, rfl⟩
  have hMl : M.length ≤ 1099511627776 := by rw [hM]; have := takeS_len _ t (Nat.le_refl _); omega
  have hMk : (∀ y ∈ M, y.Keep.length ≤ 1099511627776) = True := by simp only [eq_iff_iff, iff_true]; exact fun y hy => by rw [hM] at hy; have := takeS_keep hy; omega
  simp only [vP.down, vS.down, vE.down, Nat.reduceEqDiff, Nat.reduceAdd, Nat.reduceSub, Nat.reduceMul, Nat.reduceLeDiff, Nat.reduceLT, Int.reduceToNat, reduceIte, reduceCtorEq, Int.reduceEq, Int.reduceLT, Int.reduceLE, ↓avp_condG, ↓tf_arrow, ↓ft_arrow, hXl, hlt', ← ht, htl, ← hM, hMl, hMk, k_law25_OpsAll_ops_Take.down, A_ops_Take, p_ops_Take, r_ops_Take, k_law25_OpsAll_ref25_TakeSteps.down, A_ref25_TakeSteps, p_ref25_TakeSteps, r_ref25_TakeSteps, k_law25_OpsAll_ref25_SameSteps.down, A_ref25_SameSteps, p_ref25_SameSteps, r_ref25_SameSteps]
  ((repeat' with_reducible refine And.intro ?_ ?_) <;> try (first | omega | (simp only [List.length_take, List.length_drop, List.length_append, List.length_map, List.length_replicate] <;> omega)))
  all_goals exact round_to (5 - (i + 1)) [(9, .t (sl X)), (10, .t (.int .i64 (i + 1 : Nat)))] .empty (by omega) fewer_refl (by simp only [vP.down, vS.down, vE.down, Nat.reduceEqDiff, Nat.reduceAdd, Nat.reduceSub, Nat.reduceMul, Nat.reduceLeDiff, Nat.reduceLT, Int.reduceToNat, reduceIte, reduceCtorEq, Int.reduceEq, Int.reduceLT, Int.reduceLE, ↓avp_condG, ↓tf_arrow, ↓ft_arrow, wP.down, hi1]) ⟨i + 1, rfl, by omega, rfl⟩
set_option maxRecDepth 100000 in
set_option maxHeartbeats 4000000 in
theorem all_8 {s : List UInt8} (hs : s.length ≤ 200) {w : TStep} (hw : okS w) {l : List TStep} (hl : l.length ≤ 15) (hm : ∀ y ∈ l, okS y) {S : Store} {v : AV} (hv : LV S v l) {g8 : Nat} {a b c d e : Int} (f8 : S.f g8 = some (stE ⟨a, b, c, d, e, w.Path, w.To, w.Text, w.Keep⟩ (.t (sl w.Keep)))) {σ : St}
    (hσ : Wk σ (mkS [(0, .t (.str s)), (4, .imm (stT w)), (7, v), (8, .ptr g8 0)] S)) :
    avp K_law25_OpsAll G_law25_OpsAll_8 (Ret K_law25_OpsAll [.tmp 6] fun v _ => v = .t (.bool true)) σ := by
  unfold G_law25_OpsAll_8
  simp only [avp_seq]
  refine ⟨_, hσ, ?_⟩
  unfold stT
  simp only [vP.down, vS.down, vE.down, Nat.reduceEqDiff, Nat.reduceAdd, Nat.reduceSub, Nat.reduceMul, Nat.reduceLeDiff, Nat.reduceLT, Int.reduceToNat, reduceIte, reduceCtorEq, Int.reduceEq, Int.reduceLT, Int.reduceLE, ↓avp_condG, ↓tf_arrow, ↓ft_arrow, f8]
  intro g9 hg9
  refine append_rows (α := TStep) ty_Lapi_Step ty_api_Step rfl (by show 0 < 9; omega) (hv.fresh hg9) (rows := [Cell.enc (⟨a, b, c, d, e, w.Path, w.To, w.Text, w.Keep⟩ : TStep), [.int .i64 a, .int .i64 b, .int .i64 c, .int .i64 0, .int .i64 0, .str w.Path, .str [], .str [], .nilS]]) ?_ (.inl rfl) (by show l.length + 2 ≤ _; omega) (by show (l.length + 2) * 112 ≤ _; omega) fun g' S' ro hS' => ?_
  · simp only [Store.rowsAt, Store.borrow1, Store.set_same]
    rfl
  have hd : Cell.dec [TV.seq 9 (l.map Cell.enc ++ [Cell.enc (⟨a, b, c, d, e, w.Path, w.To, w.Text, w.Keep⟩ : TStep), [.int .i64 a, .int .i64 b, .int .i64 c, .int .i64 0, .int .i64 0, .str w.Path, .str [], .str [], .nilS]])] = some (l ++ [⟨a, b, c, d, e, w.Path, w.To, w.Text, w.Keep⟩, ⟨a, b, c, 0, 0, w.Path, [], [], []⟩]) := by
    show decAll _ = _
    refine decAll_app _ _ _ ?_
    simp only [decAll, Cell.dec_enc]
    rfl
  refine all_9 hs (l := l ++ [⟨a, b, c, d, e, w.Path, w.To, w.Text, w.Keep⟩, ⟨a, b, c, 0, 0, w.Path, [], [], []⟩]) (by rw [List.length_append]; show l.length + 2 ≤ _; omega) (fun y hy => ?_) (wk_to fewer_empty (by
    simp only [vP.down, vS.down, vE.down, Nat.reduceEqDiff, Nat.reduceAdd, Nat.reduceSub, Nat.reduceMul, Nat.reduceLeDiff, Nat.reduceLT, Int.reduceToNat, reduceIte, reduceCtorEq, Int.reduceEq, Int.reduceLT, Int.reduceLE, ↓avp_condG, ↓tf_arrow, ↓ft_arrow, wP.down]
    exact w2_rows hS' (by rw [List.length_append, List.length_map]; rfl) hd rfl))
  rcases List.mem_append.1 hy with h | h
  · exact hm y h
  · simp only [List.mem_cons, List.not_mem_nil, or_false] at h
    rcases h with rfl | rfl
    · exact hw
    · exact ⟨hw.1, by simp, by simp, by simp⟩
def an (x y : Int) : Int := IntKind.i64.wrap (BitVec.ofInt IntKind.i64.bits x &&& BitVec.ofInt IntKind.i64.bits y).toNat
def xs7 (w : TStep) : Nat → Int
  | 0 => IntKind.i64.wrap (1 + an w.Kind 15) | 1 => an w.ID 65535 | 2 => an w.N 65535 | 3 => an w.M 65535 | _ => an w.By 255
def val7 (w : TStep) (g8 : Nat) : Nat → AV
  | 0 => .imm (stT w) | 1 => .t (.int .i64 w.Kind) | 2 => .t (.int .i64 (an w.Kind 15)) | 3 => .t (.int .i64 (xs7 w 0))
  | 4 => .imm ((stT w).drop 1) | 5 => .t (.int .i64 w.ID) | 6 => .t (.int .i64 (xs7 w 1))
  | 7 => .imm ((stT w).drop 2) | 8 => .t (.int .i64 w.N) | 9 => .t (.int .i64 (xs7 w 2))
  | 10 => .imm ((stT w).drop 3) | 11 => .t (.int .i64 w.M) | 12 => .t (.int .i64 (xs7 w 3))
  | 13 => .imm ((stT w).drop 4) | 14 => .t (.int .i64 w.By) | 15 => .t (.int .i64 (xs7 w 4))
  | 16 => .ptr g8 0 | 18 => .ptr g8 1 | 20 => .ptr g8 2 | 22 => .ptr g8 3 | _ => .ptr g8 4
def wr7 (i : Nat) : Bool := decide (i ≤ 16) || (decide (i % 2 = 0) && decide (i ≤ 24))
def dst7 (i : Nat) : Nat := if i ≤ 16 then 51 + i else 59 + i / 2
def ce7 (w : TStep) (m : Nat) : List AV := [.t (.int .i64 (if m.testBit 17 = true then xs7 w 0 else w.Kind)), .t (.int .i64 (if m.testBit 19 = true then xs7 w 1 else w.ID)), .t (.int .i64 (if m.testBit 21 = true then xs7 w 2 else w.N)),
  .t (.int .i64 (if m.testBit 23 = true then xs7 w 3 else w.M)), .t (.int .i64 (if m.testBit 25 = true then xs7 w 4 else w.By)), .t (.str w.Path), .t (.str w.To), .t (.str w.Text), .t (sl w.Keep)]
/-- Behind some operations of the region: m says which. -/
structure Gd (s : List UInt8) (w : TStep) (v : AV) (g8 : Nat) (S : Store) (m : Nat) (σ : St) : Prop where
  h0 : σ.get 0 = .t (.str s)
  h4 : σ.get 4 = .imm (stT w)
  h7 : σ.get 7 = v
  h8 : σ.get 8 = .ptr g8 0
  hv : ∀ i, m.testBit i = true → wr7 i = true → σ.get (dst7 i) = val7 w g8 i
  st : σ.st = S.set g8 (some (.box (ce7 w m) false))
theorem tb_or {m i j : Nat} (h : (m ||| 2 ^ i).testBit j = true) (hne : j ≠ i) : m.testBit j = true := by
  rw [Nat.testBit_or, Nat.testBit_two_pow_of_ne (Ne.symm hne), Bool.or_false] at h
  exact h
theorem tb_ne {m i j : Nat} (hne : j ≠ i) : (m ||| 2 ^ i).testBit j = m.testBit j := by
  rw [Nat.testBit_or, Nat.testBit_two_pow_of_ne (Ne.symm hne), Bool.or_false]
theorem tb_self {m i : Nat} : (m ||| 2 ^ i).testBit i = true := by
  rw [Nat.testBit_or, Nat.testBit_two_pow_self, Bool.or_true]
section
variable {s : List UInt8} {w : TStep} {v : AV} {g8 : Nat} {S : Store} {m : Nat} {σ : St} {Q : St → Prop}
theorem Gd.put (H : Gd s w v g8 S m σ) {i : Nat} (hi : wr7 i = true) (hs : (i == 17 || i == 19 || i == 21 || i == 23 || i == 25) = false) : Gd s w v g8 S (m ||| 2 ^ i) (σ.put (some (dst7 i)) (val7 w g8 i)) := by
  have hd : 51 ≤ dst7 i := by unfold dst7; split <;> omega
  have ne : ∀ k, k < 51 → (σ.put (some (dst7 i)) (val7 w g8 i)).get k = σ.get k := fun k hk => by
    show (if k = dst7 i then _ else σ.get k) = _
    rw [if_neg (by omega)]
  refine ⟨(ne 0 (by omega)).trans H.h0, (ne 4 (by omega)).trans H.h4, (ne 7 (by omega)).trans H.h7, (ne 8 (by omega)).trans H.h8, fun j hj hw => ?_, ?_⟩
  · show (if dst7 j = dst7 i then _ else σ.get (dst7 j)) = _
    by_cases hji : j = i
    · subst hji; rw [if_pos rfl]
    · rw [if_neg, H.hv j (tb_or hj hji) hw]
      intro e
      simp only [wr7, Bool.or_eq_true, Bool.and_eq_true, decide_eq_true_eq] at hi hw
      unfold dst7 at e
      split at e <;> split at e <;> omega
  · have e : ce7 w (m ||| 2 ^ i) = ce7 w m := by
      simp only [Bool.or_eq_false_iff, beq_eq_false_iff_ne, ne_eq] at hs
      obtain ⟨⟨⟨⟨a, b⟩, c⟩, d⟩, f⟩ := hs
      simp only [ce7, tb_ne (m := m) (i := i) (j := 17) (Ne.symm a), tb_ne (m := m) (i := i) (j := 19) (Ne.symm b), tb_ne (m := m) (i := i) (j := 21) (Ne.symm c), tb_ne (m := m) (i := i) (j := 23) (Ne.symm d), tb_ne (m := m) (i := i) (j := 25) (Ne.symm f)]
    rw [e]; exact H.st
theorem Gd.stored (H : Gd s w v g8 S m σ) {i : Nat} {cs : List AV} (hw : wr7 i = false) (hc : cs = ce7 w (m ||| 2 ^ i)) : Gd s w v g8 S (m ||| 2 ^ i) { σ with st := σ.st.set g8 (some (.box cs false)) } :=
  ⟨H.h0, H.h4, H.h7, H.h8, fun j hj hwj => H.hv j (tb_or hj fun e => by rw [e, hw] at hwj; cases hwj) hwj, by
    show σ.st.set g8 _ = _
    rw [H.st, hc]
    exact Store.ext' fun k => by
      by_cases hk : k = g8
      · subst hk; rw [Store.set_same, Store.set_same]
      · rw [Store.set_other _ _ hk, Store.set_other _ _ hk, Store.set_other _ _ hk]⟩
theorem Gd.live (H : Gd s w v g8 S m σ) : σ.st.f g8 = some (.box (ce7 w m) false) := by rw [H.st, Store.set_same]
set_option maxRecDepth 100000 in
theorem st7_0 (H : Gd s w v g8 S m σ)  (hK : ∀ σ', Gd s w v g8 S (m ||| 2 ^ 0) σ' → Q σ') : aOp K_law25_OpsAll ⟨(some 51), none, .fieldAddr 24 (.tmp 4) 0⟩ Q σ := by
  have h4 := H.h4
  have h8 := H.h8
  have hf := H.live
  unfold ce7 at hf
  unfold stT at *
  simp only [vP.down, vS.down, vE.down, Nat.reduceEqDiff, Nat.reduceAdd, Nat.reduceSub, Nat.reduceMul, Nat.reduceLeDiff, Nat.reduceLT, Int.reduceToNat, reduceIte, reduceCtorEq, Int.reduceEq, Int.reduceLT, Int.reduceLE, ↓avp_condG, ↓tf_arrow, ↓ft_arrow, h4, h8, hf]
  exact hK _ (H.put (i := 0) rfl rfl)
set_option maxRecDepth 100000 in
theorem st7_1 (H : Gd s w v g8 S m σ) (d0 : m.testBit 0 = true) (hK : ∀ σ', Gd s w v g8 S (m ||| 2 ^ 1) σ' → Q σ') : aOp K_law25_OpsAll ⟨(some 52), none, .load 3 (.tmp 51)⟩ Q σ := by
  have r0 := H.hv 0 d0 rfl
  simp (config := { decide := true }) only [dst7, val7, reduceIte, Nat.reduceLeDiff, Nat.reduceAdd, Nat.reduceDiv] at r0
  have h4 := H.h4
  have h8 := H.h8
  have hf := H.live
  unfold ce7 at hf
  unfold stT at *
  simp only [vP.down, vS.down, vE.down, Nat.reduceEqDiff, Nat.reduceAdd, Nat.reduceSub, Nat.reduceMul, Nat.reduceLeDiff, Nat.reduceLT, Int.reduceToNat, reduceIte, reduceCtorEq, Int.reduceEq, Int.reduceLT, Int.reduceLE, ↓avp_condG, ↓tf_arrow, ↓ft_arrow, h4, h8, hf, r0]
  exact hK _ (H.put (i := 1) rfl rfl)
set_option maxRecDepth 100000 in
theorem st7_2 (H : Gd s w v g8 S m σ) (d1 : m.testBit 1 = true) (hK : ∀ σ', Gd s w v g8 S (m ||| 2 ^ 2) σ' → Q σ') : aOp K_law25_OpsAll ⟨(some 53), none, .binOp .and 3 (.tmp 52) (.const (.int .i64 15)) 3⟩ Q σ := by
  have r1 := H.hv 1 d1 rfl
  simp (config := { decide := true }) only [dst7, val7, reduceIte, Nat.reduceLeDiff, Nat.reduceAdd, Nat.reduceDiv] at r1
  have h4 := H.h4
  have h8 := H.h8
  have hf := H.live
  unfold ce7 at hf
  unfold stT at *
  simp only [vP.down, vS.down, vE.down, Nat.reduceEqDiff, Nat.reduceAdd, Nat.reduceSub, Nat.reduceMul, Nat.reduceLeDiff, Nat.reduceLT, Int.reduceToNat, reduceIte, reduceCtorEq, Int.reduceEq, Int.reduceLT, Int.reduceLE, ↓avp_condG, ↓tf_arrow, ↓ft_arrow, h4, h8, hf, r1]
  exact hK _ (H.put (i := 2) rfl rfl)
set_option maxRecDepth 100000 in
theorem st7_3 (H : Gd s w v g8 S m σ) (d2 : m.testBit 2 = true) (hK : ∀ σ', Gd s w v g8 S (m ||| 2 ^ 3) σ' → Q σ') : aOp K_law25_OpsAll ⟨(some 54), none, .binOp .add 3 (.const (.int .i64 1)) (.tmp 53) 3⟩ Q σ := by
  have r2 := H.hv 2 d2 rfl
  simp (config := { decide := true }) only [dst7, val7, reduceIte, Nat.reduceLeDiff, Nat.reduceAdd, Nat.reduceDiv] at r2
  have h4 := H.h4
  have h8 := H.h8
  have hf := H.live
  unfold ce7 at hf
  unfold stT at *
  simp only [vP.down, vS.down, vE.down, Nat.reduceEqDiff, Nat.reduceAdd, Nat.reduceSub, Nat.reduceMul, Nat.reduceLeDiff, Nat.reduceLT, Int.reduceToNat, reduceIte, reduceCtorEq, Int.reduceEq, Int.reduceLT, Int.reduceLE, ↓avp_condG, ↓tf_arrow, ↓ft_arrow, h4, h8, hf, r2]
  exact hK _ (H.put (i := 3) rfl rfl)
set_option maxRecDepth 100000 in
theorem st7_4 (H : Gd s w v g8 S m σ)  (hK : ∀ σ', Gd s w v g8 S (m ||| 2 ^ 4) σ' → Q σ') : aOp K_law25_OpsAll ⟨(some 55), none, .fieldAddr 24 (.tmp 4) 1⟩ Q σ := by
  have h4 := H.h4
  have h8 := H.h8
  have hf := H.live
  unfold ce7 at hf
  unfold stT at *
  simp only [vP.down, vS.down, vE.down, Nat.reduceEqDiff, Nat.reduceAdd, Nat.reduceSub, Nat.reduceMul, Nat.reduceLeDiff, Nat.reduceLT, Int.reduceToNat, reduceIte, reduceCtorEq, Int.reduceEq, Int.reduceLT, Int.reduceLE, ↓avp_condG, ↓tf_arrow, ↓ft_arrow, h4, h8, hf]
  exact hK _ (H.put (i := 4) rfl rfl)
set_option maxRecDepth 100000 in
theorem st7_5 (H : Gd s w v g8 S m σ) (d4 : m.testBit 4 = true) (hK : ∀ σ', Gd s w v g8 S (m ||| 2 ^ 5) σ' → Q σ') : aOp K_law25_OpsAll ⟨(some 56), none, .load 3 (.tmp 55)⟩ Q σ := by
  have r4 := H.hv 4 d4 rfl
  simp (config := { decide := true }) only [dst7, val7, reduceIte, Nat.reduceLeDiff, Nat.reduceAdd, Nat.reduceDiv] at r4
  have h4 := H.h4
  have h8 := H.h8
  have hf := H.live
  unfold ce7 at hf
  unfold stT at *
  simp only [vP.down, vS.down, vE.down, Nat.reduceEqDiff, Nat.reduceAdd, Nat.reduceSub, Nat.reduceMul, Nat.reduceLeDiff, Nat.reduceLT, Int.reduceToNat, reduceIte, reduceCtorEq, Int.reduceEq, Int.reduceLT, Int.reduceLE, ↓avp_condG, ↓tf_arrow, ↓ft_arrow, h4, h8, hf, r4]
  exact hK _ (H.put (i := 5) rfl rfl)
set_option maxRecDepth 100000 in
theorem st7_6 (H : Gd s w v g8 S m σ) (d5 : m.testBit 5 = true) (hK : ∀ σ', Gd s w v g8 S (m ||| 2 ^ 6) σ' → Q σ') : aOp K_law25_OpsAll ⟨(some 57), none, .binOp .and 3 (.tmp 56) (.const (.int .i64 65535)) 3⟩ Q σ := by
  have r5 := H.hv 5 d5 rfl
  simp (config := { decide := true }) only [dst7, val7, reduceIte, Nat.reduceLeDiff, Nat.reduceAdd, Nat.reduceDiv] at r5
  have h4 := H.h4
  have h8 := H.h8
  have hf := H.live
  unfold ce7 at hf
  unfold stT at *
  simp only [vP.down, vS.down, vE.down, Nat.reduceEqDiff, Nat.reduceAdd, Nat.reduceSub, Nat.reduceMul, Nat.reduceLeDiff, Nat.reduceLT, Int.reduceToNat, reduceIte, reduceCtorEq, Int.reduceEq, Int.reduceLT, Int.reduceLE, ↓avp_condG, ↓tf_arrow, ↓ft_arrow, h4, h8, hf, r5]
  exact hK _ (H.put (i := 6) rfl rfl)
set_option maxRecDepth 100000 in
theorem st7_7 (H : Gd s w v g8 S m σ)  (hK : ∀ σ', Gd s w v g8 S (m ||| 2 ^ 7) σ' → Q σ') : aOp K_law25_OpsAll ⟨(some 58), none, .fieldAddr 24 (.tmp 4) 2⟩ Q σ := by
  have h4 := H.h4
  have h8 := H.h8
  have hf := H.live
  unfold ce7 at hf
  unfold stT at *
  simp only [vP.down, vS.down, vE.down, Nat.reduceEqDiff, Nat.reduceAdd, Nat.reduceSub, Nat.reduceMul, Nat.reduceLeDiff, Nat.reduceLT, Int.reduceToNat, reduceIte, reduceCtorEq, Int.reduceEq, Int.reduceLT, Int.reduceLE, ↓avp_condG, ↓tf_arrow, ↓ft_arrow, h4, h8, hf]
  exact hK _ (H.put (i := 7) rfl rfl)
set_option maxRecDepth 100000 in
theorem st7_8 (H : Gd s w v g8 S m σ) (d7 : m.testBit 7 = true) (hK : ∀ σ', Gd s w v g8 S (m ||| 2 ^ 8) σ' → Q σ') : aOp K_law25_OpsAll ⟨(some 59), none, .load 3 (.tmp 58)⟩ Q σ := by
  have r7 := H.hv 7 d7 rfl
  simp (config := { decide := true }) only [dst7, val7, reduceIte, Nat.reduceLeDiff, Nat.reduceAdd, Nat.reduceDiv] at r7
  have h4 := H.h4
  have h8 := H.h8
  have hf := H.live
  unfold ce7 at hf
  unfold stT at *
  simp only [vP.down, vS.down, vE.down, Nat.reduceEqDiff, Nat.reduceAdd, Nat.reduceSub, Nat.reduceMul, Nat.reduceLeDiff, Nat.reduceLT, Int.reduceToNat, reduceIte, reduceCtorEq, Int.reduceEq, Int.reduceLT, Int.reduceLE, ↓avp_condG, ↓tf_arrow, ↓ft_arrow, h4, h8, hf, r7]
  exact hK _ (H.put (i := 8) rfl rfl)
set_option maxRecDepth 100000 in
theorem st7_9 (H : Gd s w v g8 S m σ) (d8 : m.testBit 8 = true) (hK : ∀ σ', Gd s w v g8 S (m ||| 2 ^ 9) σ' → Q σ') : aOp K_law25_OpsAll ⟨(some 60), none, .binOp .and 3 (.tmp 59) (.const (.int .i64 65535)) 3⟩ Q σ := by
  have r8 := H.hv 8 d8 rfl
  simp (config := { decide := true }) only [dst7, val7, reduceIte, Nat.reduceLeDiff, Nat.reduceAdd, Nat.reduceDiv] at r8
  have h4 := H.h4
  have h8 := H.h8
  have hf := H.live
  unfold ce7 at hf
  unfold stT at *
  simp only [vP.down, vS.down, vE.down, Nat.reduceEqDiff, Nat.reduceAdd, Nat.reduceSub, Nat.reduceMul, Nat.reduceLeDiff, Nat.reduceLT, Int.reduceToNat, reduceIte, reduceCtorEq, Int.reduceEq, Int.reduceLT, Int.reduceLE, ↓avp_condG, ↓tf_arrow, ↓ft_arrow, h4, h8, hf, r8]
  exact hK _ (H.put (i := 9) rfl rfl)
set_option maxRecDepth 100000 in
theorem st7_10 (H : Gd s w v g8 S m σ)  (hK : ∀ σ', Gd s w v g8 S (m ||| 2 ^ 10) σ' → Q σ') : aOp K_law25_OpsAll ⟨(some 61), none, .fieldAddr 24 (.tmp 4) 3⟩ Q σ := by
  have h4 := H.h4
  have h8 := H.h8
  have hf := H.live
  unfold ce7 at hf
  unfold stT at *
  simp only [vP.down, vS.down, vE.down, Nat.reduceEqDiff, Nat.reduceAdd, Nat.reduceSub, Nat.reduceMul, Nat.reduceLeDiff, Nat.reduceLT, Int.reduceToNat, reduceIte, reduceCtorEq, Int.reduceEq, Int.reduceLT, Int.reduceLE, ↓avp_condG, ↓tf_arrow, ↓ft_arrow, h4, h8, hf]
  exact hK _ (H.put (i := 10) rfl rfl)
set_option maxRecDepth 100000 in
theorem st7_11 (H : Gd s w v g8 S m σ) (d10 : m.testBit 10 = true) (hK : ∀ σ', Gd s w v g8 S (m ||| 2 ^ 11) σ' → Q σ') : aOp K_law25_OpsAll ⟨(some 62), none, .load 3 (.tmp 61)⟩ Q σ := by
  have r10 := H.hv 10 d10 rfl
  simp (config := { decide := true }) only [dst7, val7, reduceIte, Nat.reduceLeDiff, Nat.reduceAdd, Nat.reduceDiv] at r10
  have h4 := H.h4
  have h8 := H.h8
  have hf := H.live
  unfold ce7 at hf
  unfold stT at *
  simp only [vP.down, vS.down, vE.down, Nat.reduceEqDiff, Nat.reduceAdd, Nat.reduceSub, Nat.reduceMul, Nat.reduceLeDiff, Nat.reduceLT, Int.reduceToNat, reduceIte, reduceCtorEq, Int.reduceEq, Int.reduceLT, Int.reduceLE, ↓avp_condG, ↓tf_arrow, ↓ft_arrow, h4, h8, hf, r10]
  exact hK _ (H.put (i := 11) rfl rfl)
set_option maxRecDepth 100000 in
theorem st7_12 (H : Gd s w v g8 S m σ) (d11 : m.testBit 11 = true) (hK : ∀ σ', Gd s w v g8 S (m ||| 2 ^ 12) σ' → Q σ') : aOp K_law25_OpsAll ⟨(some 63), none, .binOp .and 3 (.tmp 62) (.const (.int .i64 65535)) 3⟩ Q σ := by
  have r11 := H.hv 11 d11 rfl
  simp (config := { decide := true }) only [dst7, val7, reduceIte, Nat.reduceLeDiff, Nat.reduceAdd, Nat.reduceDiv] at r11
  have h4 := H.h4
  have h8 := H.h8
  have hf := H.live
  unfold ce7 at hf
  unfold stT at *
  simp only [vP.down, vS.down, vE.down, Nat.reduceEqDiff, Nat.reduceAdd, Nat.reduceSub, Nat.reduceMul, Nat.reduceLeDiff, Nat.reduceLT, Int.reduceToNat, reduceIte, reduceCtorEq, Int.reduceEq, Int.reduceLT, Int.reduceLE, ↓avp_condG, ↓tf_arrow, ↓ft_arrow, h4, h8, hf, r11]
  exact hK _ (H.put (i := 12) rfl rfl)
set_option maxRecDepth 100000 in
theorem st7_13 (H : Gd s w v g8 S m σ)  (hK : ∀ σ', Gd s w v g8 S (m ||| 2 ^ 13) σ' → Q σ') : aOp K_law25_OpsAll ⟨(some 64), none, .fieldAddr 24 (.tmp 4) 4⟩ Q σ := by
  have h4 := H.h4
  have h8 := H.h8
  have hf := H.live
  unfold ce7 at hf
  unfold stT at *
  simp only [vP.down, vS.down, vE.down, Nat.reduceEqDiff, Nat.reduceAdd, Nat.reduceSub, Nat.reduceMul, Nat.reduceLeDiff, Nat.reduceLT, Int.reduceToNat, reduceIte, reduceCtorEq, Int.reduceEq, Int.reduceLT, Int.reduceLE, ↓avp_condG, ↓tf_arrow, ↓ft_arrow, h4, h8, hf]
  exact hK _ (H.put (i := 13) rfl rfl)
set_option maxRecDepth 100000 in
theorem st7_14 (H : Gd s w v g8 S m σ) (d13 : m.testBit 13 = true) (hK : ∀ σ', Gd s w v g8 S (m ||| 2 ^ 14) σ' → Q σ') : aOp K_law25_OpsAll ⟨(some 65), none, .load 3 (.tmp 64)⟩ Q σ := by
  have r13 := H.hv 13 d13 rfl
  simp (config := { decide := true }) only [dst7, val7, reduceIte, Nat.reduceLeDiff, Nat.reduceAdd, Nat.reduceDiv] at r13
  have h4 := H.h4
  have h8 := H.h8
  have hf := H.live
  unfold ce7 at hf
  unfold stT at *
  simp only [vP.down, vS.down, vE.down, Nat.reduceEqDiff, Nat.reduceAdd, Nat.reduceSub, Nat.reduceMul, Nat.reduceLeDiff, Nat.reduceLT, Int.reduceToNat, reduceIte, reduceCtorEq, Int.reduceEq, Int.reduceLT, Int.reduceLE, ↓avp_condG, ↓tf_arrow, ↓ft_arrow, h4, h8, hf, r13]
  exact hK _ (H.put (i := 14) rfl rfl)
set_option maxRecDepth 100000 in
theorem st7_15 (H : Gd s w v g8 S m σ) (d14 : m.testBit 14 = true) (hK : ∀ σ', Gd s w v g8 S (m ||| 2 ^ 15) σ' → Q σ') : aOp K_law25_OpsAll ⟨(some 66), none, .binOp .and 3 (.tmp 65) (.const (.int .i64 255)) 3⟩ Q σ := by
  have r14 := H.hv 14 d14 rfl
  simp (config := { decide := true }) only [dst7, val7, reduceIte, Nat.reduceLeDiff, Nat.reduceAdd, Nat.reduceDiv] at r14
  have h4 := H.h4
  have h8 := H.h8
  have hf := H.live
  unfold ce7 at hf
  unfold stT at *
  simp only [vP.down, vS.down, vE.down, Nat.reduceEqDiff, Nat.reduceAdd, Nat.reduceSub, Nat.reduceMul, Nat.reduceLeDiff, Nat.reduceLT, Int.reduceToNat, reduceIte, reduceCtorEq, Int.reduceEq, Int.reduceLT, Int.reduceLE, ↓avp_condG, ↓tf_arrow, ↓ft_arrow, h4, h8, hf, r14]
  exact hK _ (H.put (i := 15) rfl rfl)
set_option maxRecDepth 100000 in
theorem st7_16 (H : Gd s w v g8 S m σ)  (hK : ∀ σ', Gd s w v g8 S (m ||| 2 ^ 16) σ' → Q σ') : aOp K_law25_OpsAll ⟨(some 67), none, .fieldAddr 24 (.tmp 8) 0⟩ Q σ := by
  have h4 := H.h4
  have h8 := H.h8
  have hf := H.live
  unfold ce7 at hf
  unfold stT at *
  simp only [vP.down, vS.down, vE.down, Nat.reduceEqDiff, Nat.reduceAdd, Nat.reduceSub, Nat.reduceMul, Nat.reduceLeDiff, Nat.reduceLT, Int.reduceToNat, reduceIte, reduceCtorEq, Int.reduceEq, Int.reduceLT, Int.reduceLE, ↓avp_condG, ↓tf_arrow, ↓ft_arrow, h4, h8, hf]
  exact hK _ (H.put (i := 16) rfl rfl)
set_option maxRecDepth 100000 in
theorem st7_17 (H : Gd s w v g8 S m σ) (d3 : m.testBit 3 = true) (d16 : m.testBit 16 = true) (hK : ∀ σ', Gd s w v g8 S (m ||| 2 ^ 17) σ' → Q σ') : aOp K_law25_OpsAll ⟨none, none, .store 3 (.tmp 67) (.tmp 54)⟩ Q σ := by
  have r3 := H.hv 3 d3 rfl
  simp (config := { decide := true }) only [dst7, val7, reduceIte, Nat.reduceLeDiff, Nat.reduceAdd, Nat.reduceDiv] at r3
  have r16 := H.hv 16 d16 rfl
  simp (config := { decide := true }) only [dst7, val7, reduceIte, Nat.reduceLeDiff, Nat.reduceAdd, Nat.reduceDiv] at r16
  have h4 := H.h4
  have h8 := H.h8
  have hf := H.live
  unfold ce7 at hf
  unfold stT at *
  simp only [vP.down, vS.down, vE.down, Nat.reduceEqDiff, Nat.reduceAdd, Nat.reduceSub, Nat.reduceMul, Nat.reduceLeDiff, Nat.reduceLT, Int.reduceToNat, reduceIte, reduceCtorEq, Int.reduceEq, Int.reduceLT, Int.reduceLE, ↓avp_condG, ↓tf_arrow, ↓ft_arrow, h4, h8, hf, r3, r16]
  refine hK _ (H.stored rfl ?_)
  simp only [ce7, tb_self, if_true, tb_ne (m := m) (i := 17) (j := 19) (by decide), tb_ne (m := m) (i := 17) (j := 21) (by decide), tb_ne (m := m) (i := 17) (j := 23) (by decide), tb_ne (m := m) (i := 17) (j := 25) (by decide)]
set_option maxRecDepth 100000 in
theorem st7_18 (H : Gd s w v g8 S m σ)  (hK : ∀ σ', Gd s w v g8 S (m ||| 2 ^ 18) σ' → Q σ') : aOp K_law25_OpsAll ⟨(some 68), none, .fieldAddr 24 (.tmp 8) 1⟩ Q σ := by
  have h4 := H.h4
  have h8 := H.h8
  have hf := H.live
  unfold ce7 at hf
  unfold stT at *
  simp only [vP.down, vS.down, vE.down, Nat.reduceEqDiff, Nat.reduceAdd, Nat.reduceSub, Nat.reduceMul, Nat.reduceLeDiff, Nat.reduceLT, Int.reduceToNat, reduceIte, reduceCtorEq, Int.reduceEq, Int.reduceLT, Int.reduceLE, ↓avp_condG, ↓tf_arrow, ↓ft_arrow, h4, h8, hf]
  exact hK _ (H.put (i := 18) rfl rfl)
set_option maxRecDepth 100000 in
theorem st7_19 (H : Gd s w v g8 S m σ) (d6 : m.testBit 6 = true) (d18 : m.testBit 18 = true) (hK : ∀ σ', Gd s w v g8 S (m ||| 2 ^ 19) σ' → Q σ') : aOp K_law25_OpsAll ⟨none, none, .store 3 (.tmp 68) (.tmp 57)⟩ Q σ := by
  have r6 := H.hv 6 d6 rfl
  simp (config := { decide := true }) only [dst7, val7, reduceIte, Nat.reduceLeDiff, Nat.reduceAdd, Nat.reduceDiv] at r6
  have r18 := H.hv 18 d18 rfl
  simp (config := { decide := true }) only [dst7, val7, reduceIte, Nat.reduceLeDiff, Nat.reduceAdd, Nat.reduceDiv] at r18
  have h4 := H.h4
  have h8 := H.h8
  have hf := H.live
  unfold ce7 at hf
  unfold stT at *
  simp only [vP.down, vS.down, vE.down, Nat.reduceEqDiff, Nat.reduceAdd, Nat.reduceSub, Nat.reduceMul, Nat.reduceLeDiff, Nat.reduceLT, Int.reduceToNat, reduceIte, reduceCtorEq, Int.reduceEq, Int.reduceLT, Int.reduceLE, ↓avp_condG, ↓tf_arrow, ↓ft_arrow, h4, h8, hf, r6, r18]
  refine hK _ (H.stored rfl ?_)
  simp only [ce7, tb_self, if_true, tb_ne (m := m) (i := 19) (j := 17) (by decide), tb_ne (m := m) (i := 19) (j := 21) (by decide), tb_ne (m := m) (i := 19) (j := 23) (by decide), tb_ne (m := m) (i := 19) (j := 25) (by decide)]
set_option maxRecDepth 100000 in
theorem st7_20 (H : Gd s w v g8 S m σ)  (hK : ∀ σ', Gd s w v g8 S (m ||| 2 ^ 20) σ' → Q σ') : aOp K_law25_OpsAll ⟨(some 69), none, .fieldAddr 24 (.tmp 8) 2⟩ Q σ := by
  have h4 := H.h4
  have h8 := H.h8
  have hf := H.live
  unfold ce7 at hf
  unfold stT at *
  simp only [vP.down, vS.down, vE.down, Nat.reduceEqDiff, Nat.reduceAdd, Nat.reduceSub, Nat.reduceMul, Nat.reduceLeDiff, Nat.reduceLT, Int.reduceToNat, reduceIte, reduceCtorEq, Int.reduceEq, Int.reduceLT, Int.reduceLE, ↓avp_condG, ↓tf_arrow, ↓ft_arrow, h4, h8, hf]
  exact hK _ (H.put (i := 20) rfl rfl)
set_option maxRecDepth 100000 in
theorem st7_21 (H : Gd s w v g8 S m σ) (d9 : m.testBit 9 = true) (d20 : m.testBit 20 = true) (hK : ∀ σ', Gd s w v g8 S (m ||| 2 ^ 21) σ' → Q σ') : aOp K_law25_OpsAll ⟨none, none, .store 3 (.tmp 69) (.tmp 60)⟩ Q σ := by
  have r9 := H.hv 9 d9 rfl
  simp (config := { decide := true }) only [dst7, val7, reduceIte, Nat.reduceLeDiff, Nat.reduceAdd, Nat.reduceDiv] at r9
  have r20 := H.hv 20 d20 rfl
  simp (config := { decide := true }) only [dst7, val7, reduceIte, Nat.reduceLeDiff, Nat.reduceAdd, Nat.reduceDiv] at r20
  have h4 := H.h4
  have h8 := H.h8
  have hf := H.live
  unfold ce7 at hf
  unfold stT at *
  simp only [vP.down, vS.down, vE.down, Nat.reduceEqDiff, Nat.reduceAdd, Nat.reduceSub, Nat.reduceMul, Nat.reduceLeDiff, Nat.reduceLT, Int.reduceToNat, reduceIte, reduceCtorEq, Int.reduceEq, Int.reduceLT, Int.reduceLE, ↓avp_condG, ↓tf_arrow, ↓ft_arrow, h4, h8, hf, r9, r20]
  refine hK _ (H.stored rfl ?_)
  simp only [ce7, tb_self, if_true, tb_ne (m := m) (i := 21) (j := 17) (by decide), tb_ne (m := m) (i := 21) (j := 19) (by decide), tb_ne (m := m) (i := 21) (j := 23) (by decide), tb_ne (m := m) (i := 21) (j := 25) (by decide)]
set_option maxRecDepth 100000 in
theorem st7_22 (H : Gd s w v g8 S m σ)  (hK : ∀ σ', Gd s w v g8 S (m ||| 2 ^ 22) σ' → Q σ') : aOp K_law25_OpsAll ⟨(some 70), none, .fieldAddr 24 (.tmp 8) 3⟩ Q σ := by
  have h4 := H.h4
  have h8 := H.h8
  have hf := H.live
  unfold ce7 at hf
  unfold stT at *
  simp only [vP.down, vS.down, vE.down, Nat.reduceEqDiff, Nat.reduceAdd, Nat.reduceSub, Nat.reduceMul, Nat.reduceLeDiff, Nat.reduceLT, Int.reduceToNat, reduceIte, reduceCtorEq, Int.reduceEq, Int.reduceLT, Int.reduceLE, ↓avp_condG, ↓tf_arrow, ↓ft_arrow, h4, h8, hf]
  exact hK _ (H.put (i := 22) rfl rfl)
set_option maxRecDepth 100000 in
theorem st7_23 (H : Gd s w v g8 S m σ) (d12 : m.testBit 12 = true) (d22 : m.testBit 22 = true) (hK : ∀ σ', Gd s w v g8 S (m ||| 2 ^ 23) σ' → Q σ') : aOp K_law25_OpsAll ⟨none, none, .store 3 (.tmp 70) (.tmp 63)⟩ Q σ := by
  have r12 := H.hv 12 d12 rfl
  simp (config := { decide := true }) only [dst7, val7, reduceIte, Nat.reduceLeDiff, Nat.reduceAdd, Nat.reduceDiv] at r12
  have r22 := H.hv 22 d22 rfl
  simp (config := { decide := true }) only [dst7, val7, reduceIte, Nat.reduceLeDiff, Nat.reduceAdd, Nat.reduceDiv] at r22
  have h4 := H.h4
  have h8 := H.h8
  have hf := H.live
  unfold ce7 at hf
  unfold stT at *
  simp only [vP.down, vS.down, vE.down, Nat.reduceEqDiff, Nat.reduceAdd, Nat.reduceSub, Nat.reduceMul, Nat.reduceLeDiff, Nat.reduceLT, Int.reduceToNat, reduceIte, reduceCtorEq, Int.reduceEq, Int.reduceLT, Int.reduceLE, ↓avp_condG, ↓tf_arrow, ↓ft_arrow, h4, h8, hf, r12, r22]
  refine hK _ (H.stored rfl ?_)
  simp only [ce7, tb_self, if_true, tb_ne (m := m) (i := 23) (j := 17) (by decide), tb_ne (m := m) (i := 23) (j := 19) (by decide), tb_ne (m := m) (i := 23) (j := 21) (by decide), tb_ne (m := m) (i := 23) (j := 25) (by decide)]
set_option maxRecDepth 100000 in
theorem st7_24 (H : Gd s w v g8 S m σ)  (hK : ∀ σ', Gd s w v g8 S (m ||| 2 ^ 24) σ' → Q σ') : aOp K_law25_OpsAll ⟨(some 71), none, .fieldAddr 24 (.tmp 8) 4⟩ Q σ := by
  have h4 := H.h4
  have h8 := H.h8
  have hf := H.live
  unfold ce7 at hf
  unfold stT at *
  simp only [vP.down, vS.down, vE.down, Nat.reduceEqDiff, Nat.reduceAdd, Nat.reduceSub, Nat.reduceMul, Nat.reduceLeDiff, Nat.reduceLT, Int.reduceToNat, reduceIte, reduceCtorEq, Int.reduceEq, Int.reduceLT, Int.reduceLE, ↓avp_condG, ↓tf_arrow, ↓ft_arrow, h4, h8, hf]
  exact hK _ (H.put (i := 24) rfl rfl)
set_option maxRecDepth 100000 in
theorem st7_25 (H : Gd s w v g8 S m σ) (d15 : m.testBit 15 = true) (d24 : m.testBit 24 = true) (hK : ∀ σ', Gd s w v g8 S (m ||| 2 ^ 25) σ' → Q σ') : aOp K_law25_OpsAll ⟨none, none, .store 3 (.tmp 71) (.tmp 66)⟩ Q σ := by
  have r15 := H.hv 15 d15 rfl
  simp (config := { decide := true }) only [dst7, val7, reduceIte, Nat.reduceLeDiff, Nat.reduceAdd, Nat.reduceDiv] at r15
  have r24 := H.hv 24 d24 rfl
  simp (config := { decide := true }) only [dst7, val7, reduceIte, Nat.reduceLeDiff, Nat.reduceAdd, Nat.reduceDiv] at r24
  have h4 := H.h4
  have h8 := H.h8
  have hf := H.live
  unfold ce7 at hf
  unfold stT at *
  simp only [vP.down, vS.down, vE.down, Nat.reduceEqDiff, Nat.reduceAdd, Nat.reduceSub, Nat.reduceMul, Nat.reduceLeDiff, Nat.reduceLT, Int.reduceToNat, reduceIte, reduceCtorEq, Int.reduceEq, Int.reduceLT, Int.reduceLE, ↓avp_condG, ↓tf_arrow, ↓ft_arrow, h4, h8, hf, r15, r24]
  refine hK _ (H.stored rfl ?_)
  simp only [ce7, tb_self, if_true, tb_ne (m := m) (i := 25) (j := 17) (by decide), tb_ne (m := m) (i := 25) (j := 19) (by decide), tb_ne (m := m) (i := 25) (j := 21) (by decide), tb_ne (m := m) (i := 25) (j := 23) (by decide)]
theorem m_eq {m m' i : Nat} (h : m ||| 2 ^ i = m') (H : Gd s w v g8 S (m ||| 2 ^ i) σ) : Gd s w v g8 S m' σ := h ▸ H
theorem nd7_0 (H : Gd s w v g8 S 67108863 σ) (hQ : ∀ σ', Gd s w v g8 S 67108863 σ' → Q σ') : avpT K_law25_OpsAll T7_0 Q σ := hQ _ H
theorem nd7_1 (H : Gd s w v g8 S 33554431 σ) (hQ : ∀ σ', Gd s w v g8 S 67108863 σ' → Q σ') : avpT K_law25_OpsAll T7_1 Q σ := st7_25 H rfl rfl fun σ' H' => nd7_0 (m_eq (m := 33554431) (m' := 67108863) (i := 25) rfl H') hQ
theorem nd7_2 (H : Gd s w v g8 S 16777215 σ) (hQ : ∀ σ', Gd s w v g8 S 67108863 σ' → Q σ') : avpT K_law25_OpsAll T7_2 Q σ := st7_24 H  fun σ' H' => nd7_1 (m_eq (m := 16777215) (m' := 33554431) (i := 24) rfl H') hQ
theorem nd7_3 (H : Gd s w v g8 S 8388607 σ) (hQ : ∀ σ', Gd s w v g8 S 67108863 σ' → Q σ') : avpT K_law25_OpsAll T7_3 Q σ := st7_23 H rfl rfl fun σ' H' => nd7_2 (m_eq (m := 8388607) (m' := 16777215) (i := 23) rfl H') hQ
theorem nd7_4 (H : Gd s w v g8 S 4194303 σ) (hQ : ∀ σ', Gd s w v g8 S 67108863 σ' → Q σ') : avpT K_law25_OpsAll T7_4 Q σ := st7_22 H  fun σ' H' => nd7_3 (m_eq (m := 4194303) (m' := 8388607) (i := 22) rfl H') hQ
theorem nd7_5 (H : Gd s w v g8 S 2097151 σ) (hQ : ∀ σ', Gd s w v g8 S 67108863 σ' → Q σ') : avpT K_law25_OpsAll T7_5 Q σ := st7_21 H rfl rfl fun σ' H' => nd7_4 (m_eq (m := 2097151) (m' := 4194303) (i := 21) rfl H') hQ
theorem nd7_6 (H : Gd s w v g8 S 1048575 σ) (hQ : ∀ σ', Gd s w v g8 S 67108863 σ' → Q σ') : avpT K_law25_OpsAll T7_6 Q σ := st7_20 H  fun σ' H' => nd7_5 (m_eq (m := 1048575) (m' := 2097151) (i := 20) rfl H') hQ
theorem nd7_7 (H : Gd s w v g8 S 524287 σ) (hQ : ∀ σ', Gd s w v g8 S 67108863 σ' → Q σ') : avpT K_law25_OpsAll T7_7 Q σ := st7_19 H rfl rfl fun σ' H' => nd7_6 (m_eq (m := 524287) (m' := 1048575) (i := 19) rfl H') hQ
theorem nd7_8 (H : Gd s w v g8 S 262143 σ) (hQ : ∀ σ', Gd s w v g8 S 67108863 σ' → Q σ') : avpT K_law25_OpsAll T7_8 Q σ := st7_18 H  fun σ' H' => nd7_7 (m_eq (m := 262143) (m' := 524287) (i := 18) rfl H') hQ
theorem nd7_9 (H : Gd s w v g8 S 131071 σ) (hQ : ∀ σ', Gd s w v g8 S 67108863 σ' → Q σ') : avpT K_law25_OpsAll T7_9 Q σ := st7_17 H rfl rfl fun σ' H' => nd7_8 (m_eq (m := 131071) (m' := 262143) (i := 17) rfl H') hQ
theorem nd7_10 (H : Gd s w v g8 S 98303 σ) (hQ : ∀ σ', Gd s w v g8 S 67108863 σ' → Q σ') : avpT K_law25_OpsAll T7_10 Q σ := st7_15 H rfl fun σ' H' => nd7_9 (m_eq (m := 98303) (m' := 131071) (i := 15) rfl H') hQ
theorem nd7_11 (H : Gd s w v g8 S 491519 σ) (hQ : ∀ σ', Gd s w v g8 S 67108863 σ' → Q σ') : avpT K_law25_OpsAll T7_11 Q σ := st7_15 H rfl fun σ' H' => nd7_7 (m_eq (m := 491519) (m' := 524287) (i := 15) rfl H') hQ
theorem nd7_12 (H : Gd s w v g8 S 2064383 σ) (hQ : ∀ σ', Gd s w v g8 S 67108863 σ' → Q σ') : avpT K_law25_OpsAll T7_12 Q σ := st7_15 H rfl fun σ' H' => nd7_5 (m_eq (m := 2064383) (m' := 2097151) (i := 15) rfl H') hQ
theorem nd7_13 (H : Gd s w v g8 S 8355839 σ) (hQ : ∀ σ', Gd s w v g8 S 67108863 σ' → Q σ') : avpT K_law25_OpsAll T7_13 Q σ := st7_15 H rfl fun σ' H' => nd7_3 (m_eq (m := 8355839) (m' := 8388607) (i := 15) rfl H') hQ
theorem nd7_14 (H : Gd s w v g8 S 16744447 σ) (hQ : ∀ σ', Gd s w v g8 S 67108863 σ' → Q σ') : avpT K_law25_OpsAll T7_14 Q σ := st7_15 H rfl fun σ' H' => nd7_2 (m_eq (m := 16744447) (m' := 16777215) (i := 15) rfl H') hQ
theorem nd7_15 (H : Gd s w v g8 S 16728063 σ) (hQ : ∀ σ', Gd s w v g8 S 67108863 σ' → Q σ') : avpT K_law25_OpsAll T7_15 Q σ := st7_14 H rfl fun σ' H' => nd7_14 (m_eq (m := 16728063) (m' := 16744447) (i := 14) rfl H') hQ
theorem nd7_16 (H : Gd s w v g8 S 8339455 σ) (hQ : ∀ σ', Gd s w v g8 S 67108863 σ' → Q σ') : avpT K_law25_OpsAll T7_16 Q σ := ⟨st7_14 H rfl fun σ' H' => nd7_13 (m_eq (m := 8339455) (m' := 8355839) (i := 14) rfl H') hQ, st7_23 H rfl rfl fun σ' H' => nd7_15 (m_eq (m := 8339455) (m' := 16728063) (i := 23) rfl H') hQ⟩
theorem nd7_17 (H : Gd s w v g8 S 4145151 σ) (hQ : ∀ σ', Gd s w v g8 S 67108863 σ' → Q σ') : avpT K_law25_OpsAll T7_17 Q σ := st7_22 H  fun σ' H' => nd7_16 (m_eq (m := 4145151) (m' := 8339455) (i := 22) rfl H') hQ
theorem nd7_18 (H : Gd s w v g8 S 2047999 σ) (hQ : ∀ σ', Gd s w v g8 S 67108863 σ' → Q σ') : avpT K_law25_OpsAll T7_18 Q σ := ⟨st7_14 H rfl fun σ' H' => nd7_12 (m_eq (m := 2047999) (m' := 2064383) (i := 14) rfl H') hQ, st7_21 H rfl rfl fun σ' H' => nd7_17 (m_eq (m := 2047999) (m' := 4145151) (i := 21) rfl H') hQ⟩
theorem nd7_19 (H : Gd s w v g8 S 999423 σ) (hQ : ∀ σ', Gd s w v g8 S 67108863 σ' → Q σ') : avpT K_law25_OpsAll T7_19 Q σ := st7_20 H  fun σ' H' => nd7_18 (m_eq (m := 999423) (m' := 2047999) (i := 20) rfl H') hQ
theorem nd7_20 (H : Gd s w v g8 S 475135 σ) (hQ : ∀ σ', Gd s w v g8 S 67108863 σ' → Q σ') : avpT K_law25_OpsAll T7_20 Q σ := ⟨st7_14 H rfl fun σ' H' => nd7_11 (m_eq (m := 475135) (m' := 491519) (i := 14) rfl H') hQ, st7_19 H rfl rfl fun σ' H' => nd7_19 (m_eq (m := 475135) (m' := 999423) (i := 19) rfl H') hQ⟩
theorem nd7_21 (H : Gd s w v g8 S 212991 σ) (hQ : ∀ σ', Gd s w v g8 S 67108863 σ' → Q σ') : avpT K_law25_OpsAll T7_21 Q σ := st7_18 H  fun σ' H' => nd7_20 (m_eq (m := 212991) (m' := 475135) (i := 18) rfl H') hQ
theorem nd7_22 (H : Gd s w v g8 S 81919 σ) (hQ : ∀ σ', Gd s w v g8 S 67108863 σ' → Q σ') : avpT K_law25_OpsAll T7_22 Q σ := ⟨st7_14 H rfl fun σ' H' => nd7_10 (m_eq (m := 81919) (m' := 98303) (i := 14) rfl H') hQ, st7_17 H rfl rfl fun σ' H' => nd7_21 (m_eq (m := 81919) (m' := 212991) (i := 17) rfl H') hQ⟩
theorem nd7_23 (H : Gd s w v g8 S 77823 σ) (hQ : ∀ σ', Gd s w v g8 S 67108863 σ' → Q σ') : avpT K_law25_OpsAll T7_23 Q σ := st7_12 H rfl fun σ' H' => nd7_22 (m_eq (m := 77823) (m' := 81919) (i := 12) rfl H') hQ
theorem nd7_24 (H : Gd s w v g8 S 126975 σ) (hQ : ∀ σ', Gd s w v g8 S 67108863 σ' → Q σ') : avpT K_law25_OpsAll T7_24 Q σ := st7_12 H rfl fun σ' H' => nd7_9 (m_eq (m := 126975) (m' := 131071) (i := 12) rfl H') hQ
theorem nd7_25 (H : Gd s w v g8 S 520191 σ) (hQ : ∀ σ', Gd s w v g8 S 67108863 σ' → Q σ') : avpT K_law25_OpsAll T7_25 Q σ := st7_12 H rfl fun σ' H' => nd7_7 (m_eq (m := 520191) (m' := 524287) (i := 12) rfl H') hQ
theorem nd7_26 (H : Gd s w v g8 S 2093055 σ) (hQ : ∀ σ', Gd s w v g8 S 67108863 σ' → Q σ') : avpT K_law25_OpsAll T7_26 Q σ := st7_12 H rfl fun σ' H' => nd7_5 (m_eq (m := 2093055) (m' := 2097151) (i := 12) rfl H') hQ
theorem nd7_27 (H : Gd s w v g8 S 4190207 σ) (hQ : ∀ σ', Gd s w v g8 S 67108863 σ' → Q σ') : avpT K_law25_OpsAll T7_27 Q σ := st7_12 H rfl fun σ' H' => nd7_4 (m_eq (m := 4190207) (m' := 4194303) (i := 12) rfl H') hQ
theorem nd7_28 (H : Gd s w v g8 S 4188159 σ) (hQ : ∀ σ', Gd s w v g8 S 67108863 σ' → Q σ') : avpT K_law25_OpsAll T7_28 Q σ := st7_11 H rfl fun σ' H' => nd7_27 (m_eq (m := 4188159) (m' := 4190207) (i := 11) rfl H') hQ
theorem nd7_29 (H : Gd s w v g8 S 2091007 σ) (hQ : ∀ σ', Gd s w v g8 S 67108863 σ' → Q σ') : avpT K_law25_OpsAll T7_29 Q σ := ⟨st7_11 H rfl fun σ' H' => nd7_26 (m_eq (m := 2091007) (m' := 2093055) (i := 11) rfl H') hQ, st7_21 H rfl rfl fun σ' H' => nd7_28 (m_eq (m := 2091007) (m' := 4188159) (i := 21) rfl H') hQ⟩
theorem nd7_30 (H : Gd s w v g8 S 1042431 σ) (hQ : ∀ σ', Gd s w v g8 S 67108863 σ' → Q σ') : avpT K_law25_OpsAll T7_30 Q σ := st7_20 H  fun σ' H' => nd7_29 (m_eq (m := 1042431) (m' := 2091007) (i := 20) rfl H') hQ
theorem nd7_31 (H : Gd s w v g8 S 518143 σ) (hQ : ∀ σ', Gd s w v g8 S 67108863 σ' → Q σ') : avpT K_law25_OpsAll T7_31 Q σ := ⟨st7_11 H rfl fun σ' H' => nd7_25 (m_eq (m := 518143) (m' := 520191) (i := 11) rfl H') hQ, st7_19 H rfl rfl fun σ' H' => nd7_30 (m_eq (m := 518143) (m' := 1042431) (i := 19) rfl H') hQ⟩
theorem nd7_32 (H : Gd s w v g8 S 255999 σ) (hQ : ∀ σ', Gd s w v g8 S 67108863 σ' → Q σ') : avpT K_law25_OpsAll T7_32 Q σ := st7_18 H  fun σ' H' => nd7_31 (m_eq (m := 255999) (m' := 518143) (i := 18) rfl H') hQ
theorem nd7_33 (H : Gd s w v g8 S 124927 σ) (hQ : ∀ σ', Gd s w v g8 S 67108863 σ' → Q σ') : avpT K_law25_OpsAll T7_33 Q σ := ⟨st7_11 H rfl fun σ' H' => nd7_24 (m_eq (m := 124927) (m' := 126975) (i := 11) rfl H') hQ, st7_17 H rfl rfl fun σ' H' => nd7_32 (m_eq (m := 124927) (m' := 255999) (i := 17) rfl H') hQ⟩
theorem nd7_34 (H : Gd s w v g8 S 92159 σ) (hQ : ∀ σ', Gd s w v g8 S 67108863 σ' → Q σ') : avpT K_law25_OpsAll T7_34 Q σ := st7_15 H rfl fun σ' H' => nd7_33 (m_eq (m := 92159) (m' := 124927) (i := 15) rfl H') hQ
theorem nd7_35 (H : Gd s w v g8 S 471039 σ) (hQ : ∀ σ', Gd s w v g8 S 67108863 σ' → Q σ') : avpT K_law25_OpsAll T7_35 Q σ := st7_12 H rfl fun σ' H' => nd7_20 (m_eq (m := 471039) (m' := 475135) (i := 12) rfl H') hQ
theorem nd7_36 (H : Gd s w v g8 S 485375 σ) (hQ : ∀ σ', Gd s w v g8 S 67108863 σ' → Q σ') : avpT K_law25_OpsAll T7_36 Q σ := st7_15 H rfl fun σ' H' => nd7_31 (m_eq (m := 485375) (m' := 518143) (i := 15) rfl H') hQ
theorem nd7_37 (H : Gd s w v g8 S 2043903 σ) (hQ : ∀ σ', Gd s w v g8 S 67108863 σ' → Q σ') : avpT K_law25_OpsAll T7_37 Q σ := st7_12 H rfl fun σ' H' => nd7_18 (m_eq (m := 2043903) (m' := 2047999) (i := 12) rfl H') hQ
theorem nd7_38 (H : Gd s w v g8 S 2058239 σ) (hQ : ∀ σ', Gd s w v g8 S 67108863 σ' → Q σ') : avpT K_law25_OpsAll T7_38 Q σ := st7_15 H rfl fun σ' H' => nd7_29 (m_eq (m := 2058239) (m' := 2091007) (i := 15) rfl H') hQ
theorem nd7_39 (H : Gd s w v g8 S 4141055 σ) (hQ : ∀ σ', Gd s w v g8 S 67108863 σ' → Q σ') : avpT K_law25_OpsAll T7_39 Q σ := st7_12 H rfl fun σ' H' => nd7_17 (m_eq (m := 4141055) (m' := 4145151) (i := 12) rfl H') hQ
theorem nd7_40 (H : Gd s w v g8 S 4139007 σ) (hQ : ∀ σ', Gd s w v g8 S 67108863 σ' → Q σ') : avpT K_law25_OpsAll T7_40 Q σ := st7_11 H rfl fun σ' H' => nd7_39 (m_eq (m := 4139007) (m' := 4141055) (i := 11) rfl H') hQ
theorem nd7_41 (H : Gd s w v g8 S 2041855 σ) (hQ : ∀ σ', Gd s w v g8 S 67108863 σ' → Q σ') : avpT K_law25_OpsAll T7_41 Q σ := ⟨st7_11 H rfl fun σ' H' => nd7_37 (m_eq (m := 2041855) (m' := 2043903) (i := 11) rfl H') hQ, st7_14 H rfl fun σ' H' => nd7_38 (m_eq (m := 2041855) (m' := 2058239) (i := 14) rfl H') hQ, st7_21 H rfl rfl fun σ' H' => nd7_40 (m_eq (m := 2041855) (m' := 4139007) (i := 21) rfl H') hQ⟩
theorem nd7_42 (H : Gd s w v g8 S 993279 σ) (hQ : ∀ σ', Gd s w v g8 S 67108863 σ' → Q σ') : avpT K_law25_OpsAll T7_42 Q σ := st7_20 H  fun σ' H' => nd7_41 (m_eq (m := 993279) (m' := 2041855) (i := 20) rfl H') hQ
theorem nd7_43 (H : Gd s w v g8 S 468991 σ) (hQ : ∀ σ', Gd s w v g8 S 67108863 σ' → Q σ') : avpT K_law25_OpsAll T7_43 Q σ := ⟨st7_11 H rfl fun σ' H' => nd7_35 (m_eq (m := 468991) (m' := 471039) (i := 11) rfl H') hQ, st7_14 H rfl fun σ' H' => nd7_36 (m_eq (m := 468991) (m' := 485375) (i := 14) rfl H') hQ, st7_19 H rfl rfl fun σ' H' => nd7_42 (m_eq (m := 468991) (m' := 993279) (i := 19) rfl H') hQ⟩
theorem nd7_44 (H : Gd s w v g8 S 206847 σ) (hQ : ∀ σ', Gd s w v g8 S 67108863 σ' → Q σ') : avpT K_law25_OpsAll T7_44 Q σ := st7_18 H  fun σ' H' => nd7_43 (m_eq (m := 206847) (m' := 468991) (i := 18) rfl H') hQ
theorem nd7_45 (H : Gd s w v g8 S 75775 σ) (hQ : ∀ σ', Gd s w v g8 S 67108863 σ' → Q σ') : avpT K_law25_OpsAll T7_45 Q σ := ⟨st7_11 H rfl fun σ' H' => nd7_23 (m_eq (m := 75775) (m' := 77823) (i := 11) rfl H') hQ, st7_14 H rfl fun σ' H' => nd7_34 (m_eq (m := 75775) (m' := 92159) (i := 14) rfl H') hQ, st7_17 H rfl rfl fun σ' H' => nd7_44 (m_eq (m := 75775) (m' := 206847) (i := 17) rfl H') hQ⟩
theorem nd7_46 (H : Gd s w v g8 S 75263 σ) (hQ : ∀ σ', Gd s w v g8 S 67108863 σ' → Q σ') : avpT K_law25_OpsAll T7_46 Q σ := st7_9 H rfl fun σ' H' => nd7_45 (m_eq (m := 75263) (m' := 75775) (i := 9) rfl H') hQ
theorem nd7_47 (H : Gd s w v g8 S 81407 σ) (hQ : ∀ σ', Gd s w v g8 S 67108863 σ' → Q σ') : avpT K_law25_OpsAll T7_47 Q σ := st7_9 H rfl fun σ' H' => nd7_22 (m_eq (m := 81407) (m' := 81919) (i := 9) rfl H') hQ
theorem nd7_48 (H : Gd s w v g8 S 130559 σ) (hQ : ∀ σ', Gd s w v g8 S 67108863 σ' → Q σ') : avpT K_law25_OpsAll T7_48 Q σ := st7_9 H rfl fun σ' H' => nd7_9 (m_eq (m := 130559) (m' := 131071) (i := 9) rfl H') hQ
theorem nd7_49 (H : Gd s w v g8 S 523775 σ) (hQ : ∀ σ', Gd s w v g8 S 67108863 σ' → Q σ') : avpT K_law25_OpsAll T7_49 Q σ := st7_9 H rfl fun σ' H' => nd7_7 (m_eq (m := 523775) (m' := 524287) (i := 9) rfl H') hQ
theorem nd7_50 (H : Gd s w v g8 S 1048063 σ) (hQ : ∀ σ', Gd s w v g8 S 67108863 σ' → Q σ') : avpT K_law25_OpsAll T7_50 Q σ := st7_9 H rfl fun σ' H' => nd7_6 (m_eq (m := 1048063) (m' := 1048575) (i := 9) rfl H') hQ
theorem nd7_51 (H : Gd s w v g8 S 1047807 σ) (hQ : ∀ σ', Gd s w v g8 S 67108863 σ' → Q σ') : avpT K_law25_OpsAll T7_51 Q σ := st7_8 H rfl fun σ' H' => nd7_50 (m_eq (m := 1047807) (m' := 1048063) (i := 8) rfl H') hQ
theorem nd7_52 (H : Gd s w v g8 S 523519 σ) (hQ : ∀ σ', Gd s w v g8 S 67108863 σ' → Q σ') : avpT K_law25_OpsAll T7_52 Q σ := ⟨st7_8 H rfl fun σ' H' => nd7_49 (m_eq (m := 523519) (m' := 523775) (i := 8) rfl H') hQ, st7_19 H rfl rfl fun σ' H' => nd7_51 (m_eq (m := 523519) (m' := 1047807) (i := 19) rfl H') hQ⟩
theorem nd7_53 (H : Gd s w v g8 S 261375 σ) (hQ : ∀ σ', Gd s w v g8 S 67108863 σ' → Q σ') : avpT K_law25_OpsAll T7_53 Q σ := st7_18 H  fun σ' H' => nd7_52 (m_eq (m := 261375) (m' := 523519) (i := 18) rfl H') hQ
theorem nd7_54 (H : Gd s w v g8 S 130303 σ) (hQ : ∀ σ', Gd s w v g8 S 67108863 σ' → Q σ') : avpT K_law25_OpsAll T7_54 Q σ := ⟨st7_8 H rfl fun σ' H' => nd7_48 (m_eq (m := 130303) (m' := 130559) (i := 8) rfl H') hQ, st7_17 H rfl rfl fun σ' H' => nd7_53 (m_eq (m := 130303) (m' := 261375) (i := 17) rfl H') hQ⟩
theorem nd7_55 (H : Gd s w v g8 S 97535 σ) (hQ : ∀ σ', Gd s w v g8 S 67108863 σ' → Q σ') : avpT K_law25_OpsAll T7_55 Q σ := st7_15 H rfl fun σ' H' => nd7_54 (m_eq (m := 97535) (m' := 130303) (i := 15) rfl H') hQ
theorem nd7_56 (H : Gd s w v g8 S 474623 σ) (hQ : ∀ σ', Gd s w v g8 S 67108863 σ' → Q σ') : avpT K_law25_OpsAll T7_56 Q σ := st7_9 H rfl fun σ' H' => nd7_20 (m_eq (m := 474623) (m' := 475135) (i := 9) rfl H') hQ
theorem nd7_57 (H : Gd s w v g8 S 490751 σ) (hQ : ∀ σ', Gd s w v g8 S 67108863 σ' → Q σ') : avpT K_law25_OpsAll T7_57 Q σ := st7_15 H rfl fun σ' H' => nd7_52 (m_eq (m := 490751) (m' := 523519) (i := 15) rfl H') hQ
theorem nd7_58 (H : Gd s w v g8 S 998911 σ) (hQ : ∀ σ', Gd s w v g8 S 67108863 σ' → Q σ') : avpT K_law25_OpsAll T7_58 Q σ := st7_9 H rfl fun σ' H' => nd7_19 (m_eq (m := 998911) (m' := 999423) (i := 9) rfl H') hQ
theorem nd7_59 (H : Gd s w v g8 S 998655 σ) (hQ : ∀ σ', Gd s w v g8 S 67108863 σ' → Q σ') : avpT K_law25_OpsAll T7_59 Q σ := st7_8 H rfl fun σ' H' => nd7_58 (m_eq (m := 998655) (m' := 998911) (i := 8) rfl H') hQ
theorem nd7_60 (H : Gd s w v g8 S 474367 σ) (hQ : ∀ σ', Gd s w v g8 S 67108863 σ' → Q σ') : avpT K_law25_OpsAll T7_60 Q σ := ⟨st7_8 H rfl fun σ' H' => nd7_56 (m_eq (m := 474367) (m' := 474623) (i := 8) rfl H') hQ, st7_14 H rfl fun σ' H' => nd7_57 (m_eq (m := 474367) (m' := 490751) (i := 14) rfl H') hQ, st7_19 H rfl rfl fun σ' H' => nd7_59 (m_eq (m := 474367) (m' := 998655) (i := 19) rfl H') hQ⟩
theorem nd7_61 (H : Gd s w v g8 S 212223 σ) (hQ : ∀ σ', Gd s w v g8 S 67108863 σ' → Q σ') : avpT K_law25_OpsAll T7_61 Q σ := st7_18 H  fun σ' H' => nd7_60 (m_eq (m := 212223) (m' := 474367) (i := 18) rfl H') hQ
theorem nd7_62 (H : Gd s w v g8 S 81151 σ) (hQ : ∀ σ', Gd s w v g8 S 67108863 σ' → Q σ') : avpT K_law25_OpsAll T7_62 Q σ := ⟨st7_8 H rfl fun σ' H' => nd7_47 (m_eq (m := 81151) (m' := 81407) (i := 8) rfl H') hQ, st7_14 H rfl fun σ' H' => nd7_55 (m_eq (m := 81151) (m' := 97535) (i := 14) rfl H') hQ, st7_17 H rfl rfl fun σ' H' => nd7_61 (m_eq (m := 81151) (m' := 212223) (i := 17) rfl H') hQ⟩
theorem nd7_63 (H : Gd s w v g8 S 77055 σ) (hQ : ∀ σ', Gd s w v g8 S 67108863 σ' → Q σ') : avpT K_law25_OpsAll T7_63 Q σ := st7_12 H rfl fun σ' H' => nd7_62 (m_eq (m := 77055) (m' := 81151) (i := 12) rfl H') hQ
theorem nd7_64 (H : Gd s w v g8 S 124415 σ) (hQ : ∀ σ', Gd s w v g8 S 67108863 σ' → Q σ') : avpT K_law25_OpsAll T7_64 Q σ := st7_9 H rfl fun σ' H' => nd7_33 (m_eq (m := 124415) (m' := 124927) (i := 9) rfl H') hQ
theorem nd7_65 (H : Gd s w v g8 S 126207 σ) (hQ : ∀ σ', Gd s w v g8 S 67108863 σ' → Q σ') : avpT K_law25_OpsAll T7_65 Q σ := st7_12 H rfl fun σ' H' => nd7_54 (m_eq (m := 126207) (m' := 130303) (i := 12) rfl H') hQ
theorem nd7_66 (H : Gd s w v g8 S 517631 σ) (hQ : ∀ σ', Gd s w v g8 S 67108863 σ' → Q σ') : avpT K_law25_OpsAll T7_66 Q σ := st7_9 H rfl fun σ' H' => nd7_31 (m_eq (m := 517631) (m' := 518143) (i := 9) rfl H') hQ
theorem nd7_67 (H : Gd s w v g8 S 519423 σ) (hQ : ∀ σ', Gd s w v g8 S 67108863 σ' → Q σ') : avpT K_law25_OpsAll T7_67 Q σ := st7_12 H rfl fun σ' H' => nd7_52 (m_eq (m := 519423) (m' := 523519) (i := 12) rfl H') hQ
theorem nd7_68 (H : Gd s w v g8 S 1041919 σ) (hQ : ∀ σ', Gd s w v g8 S 67108863 σ' → Q σ') : avpT K_law25_OpsAll T7_68 Q σ := st7_9 H rfl fun σ' H' => nd7_30 (m_eq (m := 1041919) (m' := 1042431) (i := 9) rfl H') hQ
theorem nd7_69 (H : Gd s w v g8 S 1041663 σ) (hQ : ∀ σ', Gd s w v g8 S 67108863 σ' → Q σ') : avpT K_law25_OpsAll T7_69 Q σ := st7_8 H rfl fun σ' H' => nd7_68 (m_eq (m := 1041663) (m' := 1041919) (i := 8) rfl H') hQ
theorem nd7_70 (H : Gd s w v g8 S 517375 σ) (hQ : ∀ σ', Gd s w v g8 S 67108863 σ' → Q σ') : avpT K_law25_OpsAll T7_70 Q σ := ⟨st7_8 H rfl fun σ' H' => nd7_66 (m_eq (m := 517375) (m' := 517631) (i := 8) rfl H') hQ, st7_11 H rfl fun σ' H' => nd7_67 (m_eq (m := 517375) (m' := 519423) (i := 11) rfl H') hQ, st7_19 H rfl rfl fun σ' H' => nd7_69 (m_eq (m := 517375) (m' := 1041663) (i := 19) rfl H') hQ⟩
theorem nd7_71 (H : Gd s w v g8 S 255231 σ) (hQ : ∀ σ', Gd s w v g8 S 67108863 σ' → Q σ') : avpT K_law25_OpsAll T7_71 Q σ := st7_18 H  fun σ' H' => nd7_70 (m_eq (m := 255231) (m' := 517375) (i := 18) rfl H') hQ
theorem nd7_72 (H : Gd s w v g8 S 124159 σ) (hQ : ∀ σ', Gd s w v g8 S 67108863 σ' → Q σ') : avpT K_law25_OpsAll T7_72 Q σ := ⟨st7_8 H rfl fun σ' H' => nd7_64 (m_eq (m := 124159) (m' := 124415) (i := 8) rfl H') hQ, st7_11 H rfl fun σ' H' => nd7_65 (m_eq (m := 124159) (m' := 126207) (i := 11) rfl H') hQ, st7_17 H rfl rfl fun σ' H' => nd7_71 (m_eq (m := 124159) (m' := 255231) (i := 17) rfl H') hQ⟩
theorem nd7_73 (H : Gd s w v g8 S 91391 σ) (hQ : ∀ σ', Gd s w v g8 S 67108863 σ' → Q σ') : avpT K_law25_OpsAll T7_73 Q σ := st7_15 H rfl fun σ' H' => nd7_72 (m_eq (m := 91391) (m' := 124159) (i := 15) rfl H') hQ
theorem nd7_74 (H : Gd s w v g8 S 468479 σ) (hQ : ∀ σ', Gd s w v g8 S 67108863 σ' → Q σ') : avpT K_law25_OpsAll T7_74 Q σ := st7_9 H rfl fun σ' H' => nd7_43 (m_eq (m := 468479) (m' := 468991) (i := 9) rfl H') hQ
theorem nd7_75 (H : Gd s w v g8 S 470271 σ) (hQ : ∀ σ', Gd s w v g8 S 67108863 σ' → Q σ') : avpT K_law25_OpsAll T7_75 Q σ := st7_12 H rfl fun σ' H' => nd7_60 (m_eq (m := 470271) (m' := 474367) (i := 12) rfl H') hQ
theorem nd7_76 (H : Gd s w v g8 S 484607 σ) (hQ : ∀ σ', Gd s w v g8 S 67108863 σ' → Q σ') : avpT K_law25_OpsAll T7_76 Q σ := st7_15 H rfl fun σ' H' => nd7_70 (m_eq (m := 484607) (m' := 517375) (i := 15) rfl H') hQ
theorem nd7_77 (H : Gd s w v g8 S 992767 σ) (hQ : ∀ σ', Gd s w v g8 S 67108863 σ' → Q σ') : avpT K_law25_OpsAll T7_77 Q σ := st7_9 H rfl fun σ' H' => nd7_42 (m_eq (m := 992767) (m' := 993279) (i := 9) rfl H') hQ
theorem nd7_78 (H : Gd s w v g8 S 992511 σ) (hQ : ∀ σ', Gd s w v g8 S 67108863 σ' → Q σ') : avpT K_law25_OpsAll T7_78 Q σ := st7_8 H rfl fun σ' H' => nd7_77 (m_eq (m := 992511) (m' := 992767) (i := 8) rfl H') hQ
theorem nd7_79 (H : Gd s w v g8 S 468223 σ) (hQ : ∀ σ', Gd s w v g8 S 67108863 σ' → Q σ') : avpT K_law25_OpsAll T7_79 Q σ := ⟨st7_8 H rfl fun σ' H' => nd7_74 (m_eq (m := 468223) (m' := 468479) (i := 8) rfl H') hQ, st7_11 H rfl fun σ' H' => nd7_75 (m_eq (m := 468223) (m' := 470271) (i := 11) rfl H') hQ, st7_14 H rfl fun σ' H' => nd7_76 (m_eq (m := 468223) (m' := 484607) (i := 14) rfl H') hQ, st7_19 H rfl rfl fun σ' H' => nd7_78 (m_eq (m := 468223) (m' := 992511) (i := 19) rfl H') hQ⟩
theorem nd7_80 (H : Gd s w v g8 S 206079 σ) (hQ : ∀ σ', Gd s w v g8 S 67108863 σ' → Q σ') : avpT K_law25_OpsAll T7_80 Q σ := st7_18 H  fun σ' H' => nd7_79 (m_eq (m := 206079) (m' := 468223) (i := 18) rfl H') hQ
theorem nd7_81 (H : Gd s w v g8 S 75007 σ) (hQ : ∀ σ', Gd s w v g8 S 67108863 σ' → Q σ') : avpT K_law25_OpsAll T7_81 Q σ := ⟨st7_8 H rfl fun σ' H' => nd7_46 (m_eq (m := 75007) (m' := 75263) (i := 8) rfl H') hQ, st7_11 H rfl fun σ' H' => nd7_63 (m_eq (m := 75007) (m' := 77055) (i := 11) rfl H') hQ, st7_14 H rfl fun σ' H' => nd7_73 (m_eq (m := 75007) (m' := 91391) (i := 14) rfl H') hQ, st7_17 H rfl rfl fun σ' H' => nd7_80 (m_eq (m := 75007) (m' := 206079) (i := 17) rfl H') hQ⟩
theorem nd7_82 (H : Gd s w v g8 S 74943 σ) (hQ : ∀ σ', Gd s w v g8 S 67108863 σ' → Q σ') : avpT K_law25_OpsAll T7_82 Q σ := st7_6 H rfl fun σ' H' => nd7_81 (m_eq (m := 74943) (m' := 75007) (i := 6) rfl H') hQ
theorem nd7_83 (H : Gd s w v g8 S 75711 σ) (hQ : ∀ σ', Gd s w v g8 S 67108863 σ' → Q σ') : avpT K_law25_OpsAll T7_83 Q σ := st7_6 H rfl fun σ' H' => nd7_45 (m_eq (m := 75711) (m' := 75775) (i := 6) rfl H') hQ
theorem nd7_84 (H : Gd s w v g8 S 81855 σ) (hQ : ∀ σ', Gd s w v g8 S 67108863 σ' → Q σ') : avpT K_law25_OpsAll T7_84 Q σ := st7_6 H rfl fun σ' H' => nd7_22 (m_eq (m := 81855) (m' := 81919) (i := 6) rfl H') hQ
theorem nd7_85 (H : Gd s w v g8 S 131007 σ) (hQ : ∀ σ', Gd s w v g8 S 67108863 σ' → Q σ') : avpT K_law25_OpsAll T7_85 Q σ := st7_6 H rfl fun σ' H' => nd7_9 (m_eq (m := 131007) (m' := 131071) (i := 6) rfl H') hQ
theorem nd7_86 (H : Gd s w v g8 S 262079 σ) (hQ : ∀ σ', Gd s w v g8 S 67108863 σ' → Q σ') : avpT K_law25_OpsAll T7_86 Q σ := st7_6 H rfl fun σ' H' => nd7_8 (m_eq (m := 262079) (m' := 262143) (i := 6) rfl H') hQ
theorem nd7_87 (H : Gd s w v g8 S 262047 σ) (hQ : ∀ σ', Gd s w v g8 S 67108863 σ' → Q σ') : avpT K_law25_OpsAll T7_87 Q σ := st7_5 H rfl fun σ' H' => nd7_86 (m_eq (m := 262047) (m' := 262079) (i := 5) rfl H') hQ
theorem nd7_88 (H : Gd s w v g8 S 130975 σ) (hQ : ∀ σ', Gd s w v g8 S 67108863 σ' → Q σ') : avpT K_law25_OpsAll T7_88 Q σ := ⟨st7_5 H rfl fun σ' H' => nd7_85 (m_eq (m := 130975) (m' := 131007) (i := 5) rfl H') hQ, st7_17 H rfl rfl fun σ' H' => nd7_87 (m_eq (m := 130975) (m' := 262047) (i := 17) rfl H') hQ⟩
theorem nd7_89 (H : Gd s w v g8 S 98207 σ) (hQ : ∀ σ', Gd s w v g8 S 67108863 σ' → Q σ') : avpT K_law25_OpsAll T7_89 Q σ := st7_15 H rfl fun σ' H' => nd7_88 (m_eq (m := 98207) (m' := 130975) (i := 15) rfl H') hQ
theorem nd7_90 (H : Gd s w v g8 S 212927 σ) (hQ : ∀ σ', Gd s w v g8 S 67108863 σ' → Q σ') : avpT K_law25_OpsAll T7_90 Q σ := st7_6 H rfl fun σ' H' => nd7_21 (m_eq (m := 212927) (m' := 212991) (i := 6) rfl H') hQ
theorem nd7_91 (H : Gd s w v g8 S 212895 σ) (hQ : ∀ σ', Gd s w v g8 S 67108863 σ' → Q σ') : avpT K_law25_OpsAll T7_91 Q σ := st7_5 H rfl fun σ' H' => nd7_90 (m_eq (m := 212895) (m' := 212927) (i := 5) rfl H') hQ
theorem nd7_92 (H : Gd s w v g8 S 81823 σ) (hQ : ∀ σ', Gd s w v g8 S 67108863 σ' → Q σ') : avpT K_law25_OpsAll T7_92 Q σ := ⟨st7_5 H rfl fun σ' H' => nd7_84 (m_eq (m := 81823) (m' := 81855) (i := 5) rfl H') hQ, st7_14 H rfl fun σ' H' => nd7_89 (m_eq (m := 81823) (m' := 98207) (i := 14) rfl H') hQ, st7_17 H rfl rfl fun σ' H' => nd7_91 (m_eq (m := 81823) (m' := 212895) (i := 17) rfl H') hQ⟩
theorem nd7_93 (H : Gd s w v g8 S 77727 σ) (hQ : ∀ σ', Gd s w v g8 S 67108863 σ' → Q σ') : avpT K_law25_OpsAll T7_93 Q σ := st7_12 H rfl fun σ' H' => nd7_92 (m_eq (m := 77727) (m' := 81823) (i := 12) rfl H') hQ
theorem nd7_94 (H : Gd s w v g8 S 124863 σ) (hQ : ∀ σ', Gd s w v g8 S 67108863 σ' → Q σ') : avpT K_law25_OpsAll T7_94 Q σ := st7_6 H rfl fun σ' H' => nd7_33 (m_eq (m := 124863) (m' := 124927) (i := 6) rfl H') hQ
theorem nd7_95 (H : Gd s w v g8 S 126879 σ) (hQ : ∀ σ', Gd s w v g8 S 67108863 σ' → Q σ') : avpT K_law25_OpsAll T7_95 Q σ := st7_12 H rfl fun σ' H' => nd7_88 (m_eq (m := 126879) (m' := 130975) (i := 12) rfl H') hQ
theorem nd7_96 (H : Gd s w v g8 S 255935 σ) (hQ : ∀ σ', Gd s w v g8 S 67108863 σ' → Q σ') : avpT K_law25_OpsAll T7_96 Q σ := st7_6 H rfl fun σ' H' => nd7_32 (m_eq (m := 255935) (m' := 255999) (i := 6) rfl H') hQ
theorem nd7_97 (H : Gd s w v g8 S 255903 σ) (hQ : ∀ σ', Gd s w v g8 S 67108863 σ' → Q σ') : avpT K_law25_OpsAll T7_97 Q σ := st7_5 H rfl fun σ' H' => nd7_96 (m_eq (m := 255903) (m' := 255935) (i := 5) rfl H') hQ
theorem nd7_98 (H : Gd s w v g8 S 124831 σ) (hQ : ∀ σ', Gd s w v g8 S 67108863 σ' → Q σ') : avpT K_law25_OpsAll T7_98 Q σ := ⟨st7_5 H rfl fun σ' H' => nd7_94 (m_eq (m := 124831) (m' := 124863) (i := 5) rfl H') hQ, st7_11 H rfl fun σ' H' => nd7_95 (m_eq (m := 124831) (m' := 126879) (i := 11) rfl H') hQ, st7_17 H rfl rfl fun σ' H' => nd7_97 (m_eq (m := 124831) (m' := 255903) (i := 17) rfl H') hQ⟩
theorem nd7_99 (H : Gd s w v g8 S 92063 σ) (hQ : ∀ σ', Gd s w v g8 S 67108863 σ' → Q σ') : avpT K_law25_OpsAll T7_99 Q σ := st7_15 H rfl fun σ' H' => nd7_98 (m_eq (m := 92063) (m' := 124831) (i := 15) rfl H') hQ
theorem nd7_100 (H : Gd s w v g8 S 206783 σ) (hQ : ∀ σ', Gd s w v g8 S 67108863 σ' → Q σ') : avpT K_law25_OpsAll T7_100 Q σ := st7_6 H rfl fun σ' H' => nd7_44 (m_eq (m := 206783) (m' := 206847) (i := 6) rfl H') hQ
theorem nd7_101 (H : Gd s w v g8 S 206751 σ) (hQ : ∀ σ', Gd s w v g8 S 67108863 σ' → Q σ') : avpT K_law25_OpsAll T7_101 Q σ := st7_5 H rfl fun σ' H' => nd7_100 (m_eq (m := 206751) (m' := 206783) (i := 5) rfl H') hQ
theorem nd7_102 (H : Gd s w v g8 S 75679 σ) (hQ : ∀ σ', Gd s w v g8 S 67108863 σ' → Q σ') : avpT K_law25_OpsAll T7_102 Q σ := ⟨st7_5 H rfl fun σ' H' => nd7_83 (m_eq (m := 75679) (m' := 75711) (i := 5) rfl H') hQ, st7_11 H rfl fun σ' H' => nd7_93 (m_eq (m := 75679) (m' := 77727) (i := 11) rfl H') hQ, st7_14 H rfl fun σ' H' => nd7_99 (m_eq (m := 75679) (m' := 92063) (i := 14) rfl H') hQ, st7_17 H rfl rfl fun σ' H' => nd7_101 (m_eq (m := 75679) (m' := 206751) (i := 17) rfl H') hQ⟩
theorem nd7_103 (H : Gd s w v g8 S 75167 σ) (hQ : ∀ σ', Gd s w v g8 S 67108863 σ' → Q σ') : avpT K_law25_OpsAll T7_103 Q σ := st7_9 H rfl fun σ' H' => nd7_102 (m_eq (m := 75167) (m' := 75679) (i := 9) rfl H') hQ
theorem nd7_104 (H : Gd s w v g8 S 81087 σ) (hQ : ∀ σ', Gd s w v g8 S 67108863 σ' → Q σ') : avpT K_law25_OpsAll T7_104 Q σ := st7_6 H rfl fun σ' H' => nd7_62 (m_eq (m := 81087) (m' := 81151) (i := 6) rfl H') hQ
theorem nd7_105 (H : Gd s w v g8 S 81311 σ) (hQ : ∀ σ', Gd s w v g8 S 67108863 σ' → Q σ') : avpT K_law25_OpsAll T7_105 Q σ := st7_9 H rfl fun σ' H' => nd7_92 (m_eq (m := 81311) (m' := 81823) (i := 9) rfl H') hQ
theorem nd7_106 (H : Gd s w v g8 S 130239 σ) (hQ : ∀ σ', Gd s w v g8 S 67108863 σ' → Q σ') : avpT K_law25_OpsAll T7_106 Q σ := st7_6 H rfl fun σ' H' => nd7_54 (m_eq (m := 130239) (m' := 130303) (i := 6) rfl H') hQ
theorem nd7_107 (H : Gd s w v g8 S 130463 σ) (hQ : ∀ σ', Gd s w v g8 S 67108863 σ' → Q σ') : avpT K_law25_OpsAll T7_107 Q σ := st7_9 H rfl fun σ' H' => nd7_88 (m_eq (m := 130463) (m' := 130975) (i := 9) rfl H') hQ
theorem nd7_108 (H : Gd s w v g8 S 261311 σ) (hQ : ∀ σ', Gd s w v g8 S 67108863 σ' → Q σ') : avpT K_law25_OpsAll T7_108 Q σ := st7_6 H rfl fun σ' H' => nd7_53 (m_eq (m := 261311) (m' := 261375) (i := 6) rfl H') hQ
theorem nd7_109 (H : Gd s w v g8 S 261279 σ) (hQ : ∀ σ', Gd s w v g8 S 67108863 σ' → Q σ') : avpT K_law25_OpsAll T7_109 Q σ := st7_5 H rfl fun σ' H' => nd7_108 (m_eq (m := 261279) (m' := 261311) (i := 5) rfl H') hQ
theorem nd7_110 (H : Gd s w v g8 S 130207 σ) (hQ : ∀ σ', Gd s w v g8 S 67108863 σ' → Q σ') : avpT K_law25_OpsAll T7_110 Q σ := ⟨st7_5 H rfl fun σ' H' => nd7_106 (m_eq (m := 130207) (m' := 130239) (i := 5) rfl H') hQ, st7_8 H rfl fun σ' H' => nd7_107 (m_eq (m := 130207) (m' := 130463) (i := 8) rfl H') hQ, st7_17 H rfl rfl fun σ' H' => nd7_109 (m_eq (m := 130207) (m' := 261279) (i := 17) rfl H') hQ⟩
theorem nd7_111 (H : Gd s w v g8 S 97439 σ) (hQ : ∀ σ', Gd s w v g8 S 67108863 σ' → Q σ') : avpT K_law25_OpsAll T7_111 Q σ := st7_15 H rfl fun σ' H' => nd7_110 (m_eq (m := 97439) (m' := 130207) (i := 15) rfl H') hQ
theorem nd7_112 (H : Gd s w v g8 S 212159 σ) (hQ : ∀ σ', Gd s w v g8 S 67108863 σ' → Q σ') : avpT K_law25_OpsAll T7_112 Q σ := st7_6 H rfl fun σ' H' => nd7_61 (m_eq (m := 212159) (m' := 212223) (i := 6) rfl H') hQ
theorem nd7_113 (H : Gd s w v g8 S 212127 σ) (hQ : ∀ σ', Gd s w v g8 S 67108863 σ' → Q σ') : avpT K_law25_OpsAll T7_113 Q σ := st7_5 H rfl fun σ' H' => nd7_112 (m_eq (m := 212127) (m' := 212159) (i := 5) rfl H') hQ
theorem nd7_114 (H : Gd s w v g8 S 81055 σ) (hQ : ∀ σ', Gd s w v g8 S 67108863 σ' → Q σ') : avpT K_law25_OpsAll T7_114 Q σ := ⟨st7_5 H rfl fun σ' H' => nd7_104 (m_eq (m := 81055) (m' := 81087) (i := 5) rfl H') hQ, st7_8 H rfl fun σ' H' => nd7_105 (m_eq (m := 81055) (m' := 81311) (i := 8) rfl H') hQ, st7_14 H rfl fun σ' H' => nd7_111 (m_eq (m := 81055) (m' := 97439) (i := 14) rfl H') hQ, st7_17 H rfl rfl fun σ' H' => nd7_113 (m_eq (m := 81055) (m' := 212127) (i := 17) rfl H') hQ⟩
theorem nd7_115 (H : Gd s w v g8 S 76959 σ) (hQ : ∀ σ', Gd s w v g8 S 67108863 σ' → Q σ') : avpT K_law25_OpsAll T7_115 Q σ := st7_12 H rfl fun σ' H' => nd7_114 (m_eq (m := 76959) (m' := 81055) (i := 12) rfl H') hQ
theorem nd7_116 (H : Gd s w v g8 S 124095 σ) (hQ : ∀ σ', Gd s w v g8 S 67108863 σ' → Q σ') : avpT K_law25_OpsAll T7_116 Q σ := st7_6 H rfl fun σ' H' => nd7_72 (m_eq (m := 124095) (m' := 124159) (i := 6) rfl H') hQ
theorem nd7_117 (H : Gd s w v g8 S 124319 σ) (hQ : ∀ σ', Gd s w v g8 S 67108863 σ' → Q σ') : avpT K_law25_OpsAll T7_117 Q σ := st7_9 H rfl fun σ' H' => nd7_98 (m_eq (m := 124319) (m' := 124831) (i := 9) rfl H') hQ
theorem nd7_118 (H : Gd s w v g8 S 126111 σ) (hQ : ∀ σ', Gd s w v g8 S 67108863 σ' → Q σ') : avpT K_law25_OpsAll T7_118 Q σ := st7_12 H rfl fun σ' H' => nd7_110 (m_eq (m := 126111) (m' := 130207) (i := 12) rfl H') hQ
theorem nd7_119 (H : Gd s w v g8 S 255167 σ) (hQ : ∀ σ', Gd s w v g8 S 67108863 σ' → Q σ') : avpT K_law25_OpsAll T7_119 Q σ := st7_6 H rfl fun σ' H' => nd7_71 (m_eq (m := 255167) (m' := 255231) (i := 6) rfl H') hQ
theorem nd7_120 (H : Gd s w v g8 S 255135 σ) (hQ : ∀ σ', Gd s w v g8 S 67108863 σ' → Q σ') : avpT K_law25_OpsAll T7_120 Q σ := st7_5 H rfl fun σ' H' => nd7_119 (m_eq (m := 255135) (m' := 255167) (i := 5) rfl H') hQ
theorem nd7_121 (H : Gd s w v g8 S 124063 σ) (hQ : ∀ σ', Gd s w v g8 S 67108863 σ' → Q σ') : avpT K_law25_OpsAll T7_121 Q σ := ⟨st7_5 H rfl fun σ' H' => nd7_116 (m_eq (m := 124063) (m' := 124095) (i := 5) rfl H') hQ, st7_8 H rfl fun σ' H' => nd7_117 (m_eq (m := 124063) (m' := 124319) (i := 8) rfl H') hQ, st7_11 H rfl fun σ' H' => nd7_118 (m_eq (m := 124063) (m' := 126111) (i := 11) rfl H') hQ, st7_17 H rfl rfl fun σ' H' => nd7_120 (m_eq (m := 124063) (m' := 255135) (i := 17) rfl H') hQ⟩
theorem nd7_122 (H : Gd s w v g8 S 91295 σ) (hQ : ∀ σ', Gd s w v g8 S 67108863 σ' → Q σ') : avpT K_law25_OpsAll T7_122 Q σ := st7_15 H rfl fun σ' H' => nd7_121 (m_eq (m := 91295) (m' := 124063) (i := 15) rfl H') hQ
theorem nd7_123 (H : Gd s w v g8 S 206015 σ) (hQ : ∀ σ', Gd s w v g8 S 67108863 σ' → Q σ') : avpT K_law25_OpsAll T7_123 Q σ := st7_6 H rfl fun σ' H' => nd7_80 (m_eq (m := 206015) (m' := 206079) (i := 6) rfl H') hQ
theorem nd7_124 (H : Gd s w v g8 S 205983 σ) (hQ : ∀ σ', Gd s w v g8 S 67108863 σ' → Q σ') : avpT K_law25_OpsAll T7_124 Q σ := st7_5 H rfl fun σ' H' => nd7_123 (m_eq (m := 205983) (m' := 206015) (i := 5) rfl H') hQ
theorem nd7_125 (H : Gd s w v g8 S 74911 σ) (hQ : ∀ σ', Gd s w v g8 S 67108863 σ' → Q σ') : avpT K_law25_OpsAll T7_125 Q σ := ⟨st7_5 H rfl fun σ' H' => nd7_82 (m_eq (m := 74911) (m' := 74943) (i := 5) rfl H') hQ, st7_8 H rfl fun σ' H' => nd7_103 (m_eq (m := 74911) (m' := 75167) (i := 8) rfl H') hQ, st7_11 H rfl fun σ' H' => nd7_115 (m_eq (m := 74911) (m' := 76959) (i := 11) rfl H') hQ, st7_14 H rfl fun σ' H' => nd7_122 (m_eq (m := 74911) (m' := 91295) (i := 14) rfl H') hQ, st7_17 H rfl rfl fun σ' H' => nd7_124 (m_eq (m := 74911) (m' := 205983) (i := 17) rfl H') hQ⟩
theorem nd7_126 (H : Gd s w v g8 S 9375 σ) (hQ : ∀ σ', Gd s w v g8 S 67108863 σ' → Q σ') : avpT K_law25_OpsAll T7_126 Q σ := st7_16 H  fun σ' H' => nd7_125 (m_eq (m := 9375) (m' := 74911) (i := 16) rfl H') hQ
theorem nd7_127 (H : Gd s w v g8 S 1183 σ) (hQ : ∀ σ', Gd s w v g8 S 67108863 σ' → Q σ') : avpT K_law25_OpsAll T7_127 Q σ := st7_13 H  fun σ' H' => nd7_126 (m_eq (m := 1183) (m' := 9375) (i := 13) rfl H') hQ
theorem nd7_128 (H : Gd s w v g8 S 159 σ) (hQ : ∀ σ', Gd s w v g8 S 67108863 σ' → Q σ') : avpT K_law25_OpsAll T7_128 Q σ := st7_10 H  fun σ' H' => nd7_127 (m_eq (m := 159) (m' := 1183) (i := 10) rfl H') hQ
theorem nd7_129 (H : Gd s w v g8 S 31 σ) (hQ : ∀ σ', Gd s w v g8 S 67108863 σ' → Q σ') : avpT K_law25_OpsAll T7_129 Q σ := st7_7 H  fun σ' H' => nd7_128 (m_eq (m := 31) (m' := 159) (i := 7) rfl H') hQ
theorem nd7_130 (H : Gd s w v g8 S 15 σ) (hQ : ∀ σ', Gd s w v g8 S 67108863 σ' → Q σ') : avpT K_law25_OpsAll T7_130 Q σ := st7_4 H  fun σ' H' => nd7_129 (m_eq (m := 15) (m' := 31) (i := 4) rfl H') hQ
theorem nd7_131 (H : Gd s w v g8 S 7 σ) (hQ : ∀ σ', Gd s w v g8 S 67108863 σ' → Q σ') : avpT K_law25_OpsAll T7_131 Q σ := st7_3 H rfl fun σ' H' => nd7_130 (m_eq (m := 7) (m' := 15) (i := 3) rfl H') hQ
theorem nd7_132 (H : Gd s w v g8 S 3 σ) (hQ : ∀ σ', Gd s w v g8 S 67108863 σ' → Q σ') : avpT K_law25_OpsAll T7_132 Q σ := st7_2 H rfl fun σ' H' => nd7_131 (m_eq (m := 3) (m' := 7) (i := 2) rfl H') hQ
theorem nd7_133 (H : Gd s w v g8 S 1 σ) (hQ : ∀ σ', Gd s w v g8 S 67108863 σ' → Q σ') : avpT K_law25_OpsAll T7_133 Q σ := st7_1 H rfl fun σ' H' => nd7_132 (m_eq (m := 1) (m' := 3) (i := 1) rfl H') hQ
theorem nd7_134 (H : Gd s w v g8 S 0 σ) (hQ : ∀ σ', Gd s w v g8 S 67108863 σ' → Q σ') : avpT K_law25_OpsAll T7_134 Q σ := st7_0 H  fun σ' H' => nd7_133 (m_eq (m := 0) (m' := 1) (i := 0) rfl H') hQ
end
theorem all_7 {s : List UInt8} (hs : s.length ≤ 200) {w : TStep} (hw : okS w) {l : List TStep} (hl : l.length ≤ 15) (hm : ∀ y ∈ l, okS y) {S : Store} {v : AV} (hv : LV S v l) {g8 : Nat} (f8 : S.f g8 = some (stE w (.t (sl w.Keep)))) {σ : St}
    (hσ : Wk σ (mkS [(0, .t (.str s)), (4, .imm (stT w)), (7, v), (8, .ptr g8 0)] S)) :
    avp K_law25_OpsAll G_law25_OpsAll_7 (Ret K_law25_OpsAll [.tmp 6] fun v _ => v = .t (.bool true)) σ := by
  unfold G_law25_OpsAll_7
  simp only [avp_seq]
  refine ⟨_, hσ, ?_⟩
  refine nd7_134 (s := s) (w := w) (v := v) (g8 := g8) (S := S) ⟨rfl, rfl, rfl, rfl, (fun i h => by rw [Nat.zero_testBit] at h; cases h), ?_⟩ fun σ' H => ?_
  · show S = _
    exact Store.ext' fun k => by
      by_cases hk : k = g8
      · subst hk; rw [Store.set_same, f8]; rfl
      · rw [Store.set_other _ _ hk]
  · obtain ⟨get, st⟩ := σ'
    obtain ⟨h0, h4, h7, h8, _, hst⟩ := H
    have hst : st = S.set g8 (some (stE ⟨xs7 w 0, xs7 w 1, xs7 w 2, xs7 w 3, xs7 w 4, w.Path, w.To, w.Text, w.Keep⟩ (.t (sl w.Keep)))) := hst
    subst hst
    refine all_8 (a := xs7 w 0) (b := xs7 w 1) (c := xs7 w 2) (d := xs7 w 3) (e := xs7 w 4) hs hw hl hm (hv.set (hv.notbox f8)) (Store.set_same _ _ _) (wk_to fewer_refl ?_)
    unfold stT at h4 ⊢
    dsimp only at h0 h4 h7 h8
    simp only [vP.down, vS.down, vE.down, Nat.reduceEqDiff, Nat.reduceAdd, Nat.reduceSub, Nat.reduceMul, Nat.reduceLeDiff, Nat.reduceLT, Int.reduceToNat, reduceIte, reduceCtorEq, Int.reduceEq, Int.reduceLT, Int.reduceLE, ↓avp_condG, ↓tf_arrow, ↓ft_arrow, wP.down, h0, h4, h7, h8]
set_option maxRecDepth 100000 in
set_option maxHeartbeats 4000000 in
theorem all_6 {s : List UInt8} (hs : s.length ≤ 200) {w : TStep} (hw : okS w) {l : List TStep} (hl : l.length ≤ 15) (hm : ∀ y ∈ l, okS y) {S : Store} {v : AV} (hv : LV S v l) {σ : St}
    (hσ : Wk σ (mkS [(0, .t (.str s)), (4, .imm (stT w)), (7, v)] S)) :
    avp K_law25_OpsAll G_law25_OpsAll_6 (Ret K_law25_OpsAll [.tmp 6] fun v _ => v = .t (.bool true)) σ := by
  unfold G_law25_OpsAll_6
  simp only [avp_seq]
  refine ⟨_, hσ, ?_⟩
  unfold stT
  simp only [vP.down, vS.down, vE.down, Nat.reduceEqDiff, Nat.reduceAdd, Nat.reduceSub, Nat.reduceMul, Nat.reduceLeDiff, Nat.reduceLT, Int.reduceToNat, reduceIte, reduceCtorEq, Int.reduceEq, Int.reduceLT, Int.reduceLE, ↓avp_condG, ↓tf_arrow, ↓ft_arrow]
  intro g8 hg8
  exact all_7 hs hw hl hm (hv.fresh hg8) (Store.set_same _ _ _) (wk_to fewer_refl (by unfold stT; simp only [vP.down, vS.down, vE.down, Nat.reduceEqDiff, Nat.reduceAdd, Nat.reduceSub, Nat.reduceMul, Nat.reduceLeDiff, Nat.reduceLT, Int.reduceToNat, reduceIte, reduceCtorEq, Int.reduceEq, Int.reduceLT, Int.reduceLE, ↓avp_condG, ↓tf_arrow, ↓ft_arrow, wP.down]))
set_option maxRecDepth 100000 in
set_option maxHeartbeats 4000000 in
theorem all_5 {s : List UInt8} (hs : s.length ≤ 200) {w : TStep} (hw : okS w) {p : List Byt} (hp : p.length ≤ 60) {σ : St}
    (hσ : Wk σ (mkS [(0, .t (.str s)), (2, .t (sl p)), (4, .imm (stT w))] .empty)) :
    avp K_law25_OpsAll G_law25_OpsAll_5 (Ret K_law25_OpsAll [.tmp 6] fun v _ => v = .t (.bool true)) σ := by
  unfold G_law25_OpsAll_5
  simp only [avp_seq]
  refine ⟨_, hσ, ?_⟩
  unfold stT
  simp only [vP.down, vS.down, vE.down, Nat.reduceEqDiff, Nat.reduceAdd, Nat.reduceSub, Nat.reduceMul, Nat.reduceLeDiff, Nat.reduceLT, Int.reduceToNat, reduceIte, reduceCtorEq, Int.reduceEq, Int.reduceLT, Int.reduceLE, ↓avp_condG, ↓tf_arrow, ↓ft_arrow, k_law25_OpsAll_law25_made.down, m_law25_made]
  have hok : ∀ L : List TStep, L.all good = true → ∀ y ∈ L ++ [w], okS y := fun L hg y hy => by
    rcases List.mem_append.1 hy with h | h
    · obtain ⟨_, _, ⟨a, b, c, d⟩, _⟩ := good_of (List.all_eq_true.1 hg y h)
      exact ⟨by omega, by omega, by omega, by omega⟩
    · rw [List.mem_singleton.1 h]; exact hw
  repeat' with_reducible refine And.intro ?_ ?_
  all_goals first
    | refine made_any (by omega) (by omega) (by omega) fun r S L hv hg hm _ => ?_
      intro g9 hg9
      refine append_new ty_Lapi_Step ty_api_Step rfl (by decide) hv hg9 (shows_one (x := w) rfl rfl rfl) (by simp; omega) (by simp; omega) fun v' S2 hv' kp => ?_
      exact all_6 hs hw (l := L ++ [w]) (by rw [List.length_append, List.length_singleton]; omega) (hok L hg) hv' (wk_to fewer_refl (by unfold stT; simp only [vP.down, vS.down, vE.down, Nat.reduceEqDiff, Nat.reduceAdd, Nat.reduceSub, Nat.reduceMul, Nat.reduceLeDiff, Nat.reduceLT, Int.reduceToNat, reduceIte, reduceCtorEq, Int.reduceEq, Int.reduceLT, Int.reduceLE, ↓avp_condG, ↓tf_arrow, ↓ft_arrow, wP.down]))
    | intro g9 hg9
      refine made_any (by omega) (by omega) (by omega) fun r S L hv hg hm hk => ?_
      obtain ⟨k1, k2⟩ := hk g9 _ (Store.set_same _ _ _)
      refine append_lv (r := [w]) ty_Lapi_Step ty_api_Step rfl (by decide) hv ⟨?_, .inl rfl⟩ (by simp; omega) (by simp; omega) fun v' S2 hv' kp _ => ?_
      · simp only [Store.rowsAt, Store.borrow1, k1]
        rfl
      exact all_6 hs hw (l := L ++ [w]) (by rw [List.length_append, List.length_singleton]; omega) (hok L hg) hv' (wk_to fewer_refl (by unfold stT; simp only [vP.down, vS.down, vE.down, Nat.reduceEqDiff, Nat.reduceAdd, Nat.reduceSub, Nat.reduceMul, Nat.reduceLeDiff, Nat.reduceLT, Int.reduceToNat, reduceIte, reduceCtorEq, Int.reduceEq, Int.reduceLT, Int.reduceLE, ↓avp_condG, ↓tf_arrow, ↓ft_arrow, wP.down]))
set_option maxRecDepth 100000 in
set_option maxHeartbeats 4000000 in
theorem body_law25_OpsAll (x) (hx : p_law25_OpsAll x) : avp K_law25_OpsAll G_law25_OpsAll (Ret K_law25_OpsAll [.tmp 6] fun v _ => v = r_law25_OpsAll x) (entry (A_law25_OpsAll.enc x) .empty) := by
  obtain ⟨s, w, p, ⟨⟩⟩ := x
  change avp _ _ (Ret _ _ fun v _ => v = .t (.bool true)) (entry [.t (.str s), .agg ((stT w).map .t), .t (sl p)] .empty)
  unfold G_law25_OpsAll stT
  simp only [vP.down, vS.down, vE.down, Nat.reduceEqDiff, Nat.reduceAdd, Nat.reduceSub, Nat.reduceMul, Nat.reduceLeDiff, Nat.reduceLT, Int.reduceToNat, reduceIte, reduceCtorEq, Int.reduceEq, Int.reduceLT, Int.reduceLE, ↓avp_condG, ↓tf_arrow, ↓ft_arrow]
  intro g hg
  refine weak_at [(0, .t (.str s)), (2, .t (sl p)), (4, .imm (stT w))] .empty fewer_empty (by
    unfold stT; simp only [vP.down, vS.down, vE.down, Nat.reduceEqDiff, Nat.reduceAdd, Nat.reduceSub, Nat.reduceMul, Nat.reduceLeDiff, Nat.reduceLT, Int.reduceToNat, reduceIte, reduceCtorEq, Int.reduceEq, Int.reduceLT, Int.reduceLE, ↓avp_condG, ↓tf_arrow, ↓ft_arrow, wP.down]
    exact w2_imm (l := stT w) (ro := false) (Store.set_same _ _ _) rfl) ?_
  unfold stT
  by_cases c1 : (200 : Int) < (s.length : Int)
  · simp only [vP.down, vS.down, vE.down, Nat.reduceEqDiff, Nat.reduceAdd, Nat.reduceSub, Nat.reduceMul, Nat.reduceLeDiff, Nat.reduceLT, Int.reduceToNat, reduceIte, reduceCtorEq, Int.reduceEq, Int.reduceLT, Int.reduceLE, ↓avp_condG, ↓tf_arrow, ↓ft_arrow, k_law25_OpsAll_law25_begun.down, A_law25_begun, p_law25_begun, r_law25_begun, c1, gt_iff_lt, pick_of, pick_ot]
    simp only [vP.down, vS.down, vE.down, Nat.reduceEqDiff, Nat.reduceAdd, Nat.reduceSub, Nat.reduceMul, Nat.reduceLeDiff, Nat.reduceLT, Int.reduceToNat, reduceIte, reduceCtorEq, Int.reduceEq, Int.reduceLT, Int.reduceLE, ↓avp_condG, ↓tf_arrow, ↓ft_arrow, vT.down]
  by_cases c2 : (60 : Int) < (p.length : Int)
  · simp only [vP.down, vS.down, vE.down, Nat.reduceEqDiff, Nat.reduceAdd, Nat.reduceSub, Nat.reduceMul, Nat.reduceLeDiff, Nat.reduceLT, Int.reduceToNat, reduceIte, reduceCtorEq, Int.reduceEq, Int.reduceLT, Int.reduceLE, ↓avp_condG, ↓tf_arrow, ↓ft_arrow, k_law25_OpsAll_law25_begun.down, A_law25_begun, p_law25_begun, r_law25_begun, c1, c2, gt_iff_lt, pick_of, pick_ot]
    simp only [vP.down, vS.down, vE.down, Nat.reduceEqDiff, Nat.reduceAdd, Nat.reduceSub, Nat.reduceMul, Nat.reduceLeDiff, Nat.reduceLT, Int.reduceToNat, reduceIte, reduceCtorEq, Int.reduceEq, Int.reduceLT, Int.reduceLE, ↓avp_condG, ↓tf_arrow, ↓ft_arrow, vT.down]
  by_cases c3 : (300 : Int) < (w.Path.length : Int)
  · simp only [vP.down, vS.down, vE.down, Nat.reduceEqDiff, Nat.reduceAdd, Nat.reduceSub, Nat.reduceMul, Nat.reduceLeDiff, Nat.reduceLT, Int.reduceToNat, reduceIte, reduceCtorEq, Int.reduceEq, Int.reduceLT, Int.reduceLE, ↓avp_condG, ↓tf_arrow, ↓ft_arrow, k_law25_OpsAll_law25_begun.down, A_law25_begun, p_law25_begun, r_law25_begun, c1, c2, c3, gt_iff_lt, pick_of, pick_ot]
    simp only [vP.down, vS.down, vE.down, Nat.reduceEqDiff, Nat.reduceAdd, Nat.reduceSub, Nat.reduceMul, Nat.reduceLeDiff, Nat.reduceLT, Int.reduceToNat, reduceIte, reduceCtorEq, Int.reduceEq, Int.reduceLT, Int.reduceLE, ↓avp_condG, ↓tf_arrow, ↓ft_arrow, vT.down]
  by_cases c4 : (300 : Int) < (w.To.length : Int)
  · simp only [vP.down, vS.down, vE.down, Nat.reduceEqDiff, Nat.reduceAdd, Nat.reduceSub, Nat.reduceMul, Nat.reduceLeDiff, Nat.reduceLT, Int.reduceToNat, reduceIte, reduceCtorEq, Int.reduceEq, Int.reduceLT, Int.reduceLE, ↓avp_condG, ↓tf_arrow, ↓ft_arrow, k_law25_OpsAll_law25_begun.down, A_law25_begun, p_law25_begun, r_law25_begun, c1, c2, c3, c4, gt_iff_lt, pick_of, pick_ot]
    simp only [vP.down, vS.down, vE.down, Nat.reduceEqDiff, Nat.reduceAdd, Nat.reduceSub, Nat.reduceMul, Nat.reduceLeDiff, Nat.reduceLT, Int.reduceToNat, reduceIte, reduceCtorEq, Int.reduceEq, Int.reduceLT, Int.reduceLE, ↓avp_condG, ↓tf_arrow, ↓ft_arrow, vT.down]
  by_cases c5 : (300 : Int) < (w.Text.length : Int)
  · simp only [vP.down, vS.down, vE.down, Nat.reduceEqDiff, Nat.reduceAdd, Nat.reduceSub, Nat.reduceMul, Nat.reduceLeDiff, Nat.reduceLT, Int.reduceToNat, reduceIte, reduceCtorEq, Int.reduceEq, Int.reduceLT, Int.reduceLE, ↓avp_condG, ↓tf_arrow, ↓ft_arrow, k_law25_OpsAll_law25_begun.down, A_law25_begun, p_law25_begun, r_law25_begun, c1, c2, c3, c4, c5, gt_iff_lt, pick_of, pick_ot]
    simp only [vP.down, vS.down, vE.down, Nat.reduceEqDiff, Nat.reduceAdd, Nat.reduceSub, Nat.reduceMul, Nat.reduceLeDiff, Nat.reduceLT, Int.reduceToNat, reduceIte, reduceCtorEq, Int.reduceEq, Int.reduceLT, Int.reduceLE, ↓avp_condG, ↓tf_arrow, ↓ft_arrow, vT.down]
  by_cases c6 : (70 : Int) < (w.Keep.length : Int)
  · simp only [vP.down, vS.down, vE.down, Nat.reduceEqDiff, Nat.reduceAdd, Nat.reduceSub, Nat.reduceMul, Nat.reduceLeDiff, Nat.reduceLT, Int.reduceToNat, reduceIte, reduceCtorEq, Int.reduceEq, Int.reduceLT, Int.reduceLE, ↓avp_condG, ↓tf_arrow, ↓ft_arrow, k_law25_OpsAll_law25_begun.down, A_law25_begun, p_law25_begun, r_law25_begun, c1, c2, c3, c4, c5, c6, gt_iff_lt, pick_of, pick_ot]
    simp only [vP.down, vS.down, vE.down, Nat.reduceEqDiff, Nat.reduceAdd, Nat.reduceSub, Nat.reduceMul, Nat.reduceLeDiff, Nat.reduceLT, Int.reduceToNat, reduceIte, reduceCtorEq, Int.reduceEq, Int.reduceLT, Int.reduceLE, ↓avp_condG, ↓tf_arrow, ↓ft_arrow, vT.down]
  have hs : s.length ≤ 200 := by omega
  have hw : okS w := ⟨by omega, by omega, by omega, by omega⟩
  simp only [vP.down, vS.down, vE.down, Nat.reduceEqDiff, Nat.reduceAdd, Nat.reduceSub, Nat.reduceMul, Nat.reduceLeDiff, Nat.reduceLT, Int.reduceToNat, reduceIte, reduceCtorEq, Int.reduceEq, Int.reduceLT, Int.reduceLE, ↓avp_condG, ↓tf_arrow, ↓ft_arrow, k_law25_OpsAll_law25_begun.down, A_law25_begun, p_law25_begun, r_law25_begun, c1, c2, c3, c4, c5, c6, gt_iff_lt, pick_of, pick_ot]
  exact all_5 (p := p) hs hw (by omega) (wk_to fewer_refl (by unfold stT; simp only [vP.down, vS.down, vE.down, Nat.reduceEqDiff, Nat.reduceAdd, Nat.reduceSub, Nat.reduceMul, Nat.reduceLeDiff, Nat.reduceLT, Int.reduceToNat, reduceIte, reduceCtorEq, Int.reduceEq, Int.reduceLT, Int.reduceLE, ↓avp_condG, ↓tf_arrow, ↓ft_arrow, wP.down]))
noncomputable def c_law25_OpsAll : Con := fnScal A_law25_OpsAll p_law25_OpsAll r_law25_OpsAll
theorem ok_law25_OpsAll : COk Try.prog 3 c_law25_OpsAll := fn_sok sys_law25_OpsAll mixed Try.func3 (by kernel_rfl) geq_law25_OpsAll Try.ntmps3 (by rw [Try.results3]) (fun x => by simp [rTrue, AV.scal]) fun x hx => ⟨Nat.le_of_ble_eq_true rfl, body_law25_OpsAll x hx⟩
theorem says_law25_OpsAll : SaysTrue Rows.opsAllSpec 3 := ⟨rfl, fun H ds h => by
  match ds, h with
  | [d0, d1, d2], _ => exact ⟨rfl, rfl, rfl⟩⟩
set_option maxRecDepth 100000 in
theorem lifted_law25_OpsAll (os : Os) (started : os.Started) (H : Type) (enc : TypeId × Value → H) :
    ReturnsInHanded {} Try.checked os 3 .any (Rows.opsAllSpec.pre6 enc Try.prog Try.f3 Rows.opsAllRow.domain false) (Rows.opsAllSpec.post enc Try.prog Try.f3 false true false false) := by
  refine returnsInHanded_of_change (C := Try.checked) own started (by kernel_rfl) Try.func3
    (ChangeSpec.witness6 (enc := enc) (C := Try.checked) false ⟨#[], #[.string ⟨#[]⟩, .agg #[.int .i64 0, .int .i64 0, .int .i64 0, .int .i64 0, .int .i64 0, .string ⟨#[]⟩, .string ⟨#[]⟩, .string ⟨#[]⟩, .slice none 0 0], .slice none 0 0], []⟩ 8 (by kernel_rfl) (by kernel_rfl) (by kernel_rfl) (by kernel_rfl)) ?_
  intro W base args ds gs before hval hW _ _
  exact law_contract (ts := [9, 24, 25]) (tb := 4) ok_law25_OpsAll (by rw [Try.params3]) (by kernel_rfl) Try.underlying4 laid (by kernel_rfl) rd_law25_OpsAll (fun _ h => h) says_law25_OpsAll H enc W base args ds gs before hval hW
theorem over_law25_OpsAll : Rows.opsAllRow.holds Try.pinned (OpenSpec.ofChange Rows.opsAllSpec) :=
  OpenClaim.holds_of_wide 3 Try.f3 rfl rfl rfl rfl rfl rfl rfl ⟨rfl, rfl, rfl, rfl, rfl⟩ rfl rfl rfl rfl rfl (by kernel_rfl) Try.func3 (by kernel_rfl)
    (of_decide_eq_true (by kernel_rfl)) (by unfold Func.isWrapper; first | (rw [if_pos (by decide +kernel)]; kernel_rfl) | (rw [if_neg (by decide +kernel)]; exact ⟨rfl, rfl⟩))
    (fun os started H enc _ => lifted_law25_OpsAll os started H enc)
theorem opsAll_holds : Rows.OpsAllSaid := over_law25_OpsAll
end Go.Proofs.Ythhgaeeeppipnaa

