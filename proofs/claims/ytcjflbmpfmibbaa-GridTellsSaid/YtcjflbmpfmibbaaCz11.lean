/- CO: texts of this claim, one behind the other. -/
import Derived.Test.YtcjflbmpfmibbaaCz10
import Derived.Test.YtcjflbmpfmibbaaCz1
import Derived.Test.YtcjflbmpfmibbaaCz2
import Derived.Test.YtcjflbmpfmibbaaAm4
import Derived.Test.YtcjflbmpfmibbaaCz4
import Derived.Test.YtcjflbmpfmibbaaCz7
/- CO: the cells of a box; does a query hold? -/
namespace Go.Co
open Go.Am Go.Proofs
set_option linter.unusedSimpArgs false
set_option linter.unusedVariables false
attribute [-simp] Go.Am.eff_gcall
def c46_0 : ACode := .ops [⟨some 4, .box (.t 0) 6, none, []⟩,
  ⟨some 5, .box (.t 1) 17, none, []⟩,
  ⟨some 6, .box (.t 2) 10, none, []⟩,
  ⟨some 8, .mv (.c (.nils)), none, []⟩,
  ⟨some 9, .mv (.c (.bool false)), none, []⟩] [3, 4, 5, 6]
theorem r46_0 : type_of% (@rr _ _ c46_0.eq_1) := rr c46_0.eq_1
def c46_1 : ACode := .ops [⟨some 22, .load 6 true (.t 4), none, [4]⟩,
  ⟨some 23, .load 17 true (.t 5), none, [5]⟩,
  ⟨some 24, .load 10 true (.t 6), none, [6]⟩,
  ⟨some 25, .mv (.t 3), none, []⟩,
  ⟨some 26, .call 48 [.t 22, .t 23, .t 24, .t 25], none, []⟩,
  ⟨some 21, .mv (.t 26), none, []⟩,
  ⟨some 27, .ext (.t 21) 0, none, []⟩,
  ⟨some 28, .ext (.t 21) 1, none, []⟩,
  ⟨some 10, .mv (.t 27), none, []⟩,
  ⟨some 11, .mv (.t 28), none, []⟩] [4, 5, 6, 11]
theorem r46_1 : type_of% (@rr _ _ c46_1.eq_1) := rr c46_1.eq_1
def c46_2 : ACode := .ops [⟨some 29, .mv (.t 11), none, []⟩,
  ⟨some 30, .un .not (.t 29), none, []⟩] [4, 5, 6, 30]
theorem r46_2 : type_of% (@rr _ _ c46_2.eq_1) := rr c46_2.eq_1
def c46_3 : ACode := .ops [⟨some 8, .mv (.c (.nils)), none, []⟩,
  ⟨some 9, .mv (.c (.bool false)), none, []⟩] [8, 9]
theorem r46_3 : type_of% (@rr _ _ c46_3.eq_1) := rr c46_3.eq_1
def c46_4 : ACode := .seq c46_3 .ret
theorem r46_4 : type_of% (@rr _ _ c46_4.eq_1) := rr c46_4.eq_1
def c46_5 : ACode := .cond (.t 30) c46_4 .skip
theorem r46_5 : type_of% (@rr _ _ c46_5.eq_1) := rr c46_5.eq_1
def c46_6 : ACode := .seq c46_2 c46_5
theorem r46_6 : type_of% (@rr _ _ c46_6.eq_1) := rr c46_6.eq_1
def c46_7 : ACode := .seq c46_1 c46_6
theorem r46_7 : type_of% (@rr _ _ c46_7.eq_1) := rr c46_7.eq_1
def c46_8 : ACode := .ops [⟨some 31, .load 10 true (.t 6), none, [6]⟩,
  ⟨some 32, .mkrow 12 1 10 [.int .i64 0, .int .i64 0, .int .i64 0, .int .i64 0, .int .i64 0, .int .i64 0, .int .i64 0, .int .i64 0, .int .i64 0, .int .i64 0] [(0, 10, .t 31)], none, []⟩,
  ⟨some 12, .mv (.t 32), none, []⟩] [4, 5, 6, 12]
theorem r46_8 : type_of% (@rr _ _ c46_8.eq_1) := rr c46_8.eq_1
def c46_9 : ACode := .ops [⟨some 33, .mv (.c (.int .i64 0)), none, []⟩] [4, 5, 6, 12, 33]
theorem r46_9 : type_of% (@rr _ _ c46_9.eq_1) := rr c46_9.eq_1
def c46_10 : ACode := .ops [⟨some 34, .bin .lss (.t 33) (.c (.int .i64 5)), none, []⟩] [4, 5, 6, 12, 33, 34]
theorem r46_10 : type_of% (@rr _ _ c46_10.eq_1) := rr c46_10.eq_1
def c46_11 : ACode := .cond (.t 34) .skip (.exit 0)
theorem r46_11 : type_of% (@rr _ _ c46_11.eq_1) := rr c46_11.eq_1
def c46_12 : ACode := .ops [⟨some 35, .mv (.t 33), none, []⟩,
  ⟨some 13, .mv (.t 35), none, []⟩] [4, 5, 6, 12, 13, 33]
theorem r46_12 : type_of% (@rr _ _ c46_12.eq_1) := rr c46_12.eq_1
def c46_13 : ACode := .ops [⟨some 36, .load 6 true (.t 4), none, [4]⟩,
  ⟨some 37, .load 17 true (.t 5), none, [5]⟩,
  ⟨some 38, .load 10 true (.t 6), none, [6]⟩,
  ⟨some 39, .mv (.t 13), none, []⟩,
  ⟨some 40, .call 51 [.t 36, .t 37, .t 38, .t 39], none, []⟩,
  ⟨some 14, .mv (.t 40), none, []⟩] [4, 5, 6, 12, 13, 14, 33]
theorem r46_13 : type_of% (@rr _ _ c46_13.eq_1) := rr c46_13.eq_1
def c46_14 : ACode := .ops [⟨some 15, .nil0 15 10, none, []⟩] [4, 5, 6, 12, 13, 14, 15, 33]
theorem r46_14 : type_of% (@rr _ _ c46_14.eq_1) := rr c46_14.eq_1
def c46_15 : ACode := .ops [⟨some 41, .mv (.t 12), none, []⟩,
  ⟨some 42, .len (.t 41), none, [12]⟩,
  ⟨some 43, .mv (.c (.int .i64 0)), none, []⟩] [4, 5, 6, 13, 14, 15, 33, 41, 42, 43]
theorem r46_15 : type_of% (@rr _ _ c46_15.eq_1) := rr c46_15.eq_1
def c46_16 : ACode := .ops [⟨some 44, .bin .lss (.t 43) (.t 42), none, []⟩] [4, 5, 6, 13, 14, 15, 33, 41, 42, 43, 44]
theorem r46_16 : type_of% (@rr _ _ c46_16.eq_1) := rr c46_16.eq_1
def c46_17 : ACode := .cond (.t 44) .skip (.exit 2)
theorem r46_17 : type_of% (@rr _ _ c46_17.eq_1) := rr c46_17.eq_1
def c46_18 : ACode := .ops [⟨some 45, .ias (.t 41) (.t 43) 10, none, [12]⟩,
  ⟨some 46, .load 10 true (.t 45), none, [12]⟩,
  ⟨some 17, .alloc [.int .i64 0, .int .i64 0, .int .i64 0, .int .i64 0, .int .i64 0, .int .i64 0, .int .i64 0, .int .i64 0, .int .i64 0, .int .i64 0], none, []⟩,
  ⟨none, .store (.t 17) 10 (.t 46), none, [17]⟩] [4, 5, 6, 13, 14, 15, 17, 33, 41, 42, 43]
theorem r46_18 : type_of% (@rr _ _ c46_18.eq_1) := rr c46_18.eq_1
def c46_19 : ACode := .ops [⟨some 47, .mv (.t 14), none, []⟩,
  ⟨some 48, .len (.t 47), none, []⟩,
  ⟨some 49, .mv (.c (.int .i64 0)), none, []⟩] [4, 5, 6, 13, 14, 15, 17, 33, 41, 42, 43, 47, 48, 49]
theorem r46_19 : type_of% (@rr _ _ c46_19.eq_1) := rr c46_19.eq_1
def c46_20 : ACode := .ops [⟨some 50, .bin .lss (.t 49) (.t 48), none, []⟩] [4, 5, 6, 13, 14, 15, 17, 33, 41, 42, 43, 47, 48, 49, 50]
theorem r46_20 : type_of% (@rr _ _ c46_20.eq_1) := rr c46_20.eq_1
def c46_21 : ACode := .cond (.t 50) .skip (.exit 4)
theorem r46_21 : type_of% (@rr _ _ c46_21.eq_1) := rr c46_21.eq_1
def c46_22 : ACode := .ops [⟨some 51, .ias (.t 47) (.t 49) 1, none, []⟩,
  ⟨some 52, .load 1 false (.t 51), none, []⟩,
  ⟨some 19, .mv (.t 52), none, []⟩] [4, 5, 6, 13, 14, 15, 17, 19, 33, 41, 42, 43, 47, 48, 49]
theorem r46_22 : type_of% (@rr _ _ c46_22.eq_1) := rr c46_22.eq_1
def c46_23 : ACode := .ops [⟨some 20, .alloc [.int .i64 0, .int .i64 0, .int .i64 0, .int .i64 0, .int .i64 0, .int .i64 0, .int .i64 0, .int .i64 0, .int .i64 0, .int .i64 0], none, []⟩] [4, 5, 6, 13, 14, 15, 17, 19, 20, 33, 41, 42, 43, 47, 48, 49]
theorem r46_23 : type_of% (@rr _ _ c46_23.eq_1) := rr c46_23.eq_1
def c46_24 : ACode := .ops [⟨some 54, .load 10 true (.t 17), none, [17]⟩,
  ⟨some 55, .mv (.t 13), none, []⟩,
  ⟨some 56, .mv (.t 19), none, []⟩,
  ⟨some 57, .call 58 [.t 54, .t 55, .t 56], none, []⟩,
  ⟨some 53, .mv (.t 57), none, []⟩,
  ⟨some 58, .ext (.t 53) 0, none, []⟩,
  ⟨some 59, .ext (.t 53) 1, none, []⟩,
  ⟨none, .store (.t 20) 10 (.t 58), none, [20]⟩,
  ⟨none, .store (.t 17) 10 (.t 59), none, [17]⟩] [4, 5, 6, 13, 14, 15, 17, 20, 33, 41, 42, 43, 47, 48, 49]
theorem r46_24 : type_of% (@rr _ _ c46_24.eq_1) := rr c46_24.eq_1
def c46_25 : ACode := .ops [⟨some 60, .mv (.t 15), none, []⟩,
  ⟨some 61, .load 10 true (.t 20), none, [20]⟩,
  ⟨some 62, .mkrow 62 1 10 [.int .i64 0, .int .i64 0, .int .i64 0, .int .i64 0, .int .i64 0, .int .i64 0, .int .i64 0, .int .i64 0, .int .i64 0, .int .i64 0] [(0, 10, .t 61)], none, []⟩,
  ⟨some 63, .app 15 [15] (.t 60) (.t 62) 10, none, [15, 62]⟩,
  ⟨some 15, .mv (.t 63), none, []⟩] [4, 5, 6, 13, 14, 15, 17, 33, 41, 42, 43, 47, 48, 49]
theorem r46_25 : type_of% (@rr _ _ c46_25.eq_1) := rr c46_25.eq_1
def c46_26 : ACode := .seq c46_24 c46_25
theorem r46_26 : type_of% (@rr _ _ c46_26.eq_1) := rr c46_26.eq_1
def c46_27 : ACode := .seq c46_23 c46_26
theorem r46_27 : type_of% (@rr _ _ c46_27.eq_1) := rr c46_27.eq_1
def c46_28 : ACode := .seq c46_22 c46_27
theorem r46_28 : type_of% (@rr _ _ c46_28.eq_1) := rr c46_28.eq_1
def c46_29 : ACode := .block 5 c46_28
theorem r46_29 : type_of% (@rr _ _ c46_29.eq_1) := rr c46_29.eq_1
def c46_30 : ACode := .ops [⟨some 64, .bin .add (.t 49) (.c (.int .i64 1)), none, []⟩,
  ⟨some 49, .mv (.t 64), none, []⟩] [4, 5, 6, 13, 14, 15, 17, 33, 41, 42, 43, 47, 48, 49]
theorem r46_30 : type_of% (@rr _ _ c46_30.eq_1) := rr c46_30.eq_1
def c46_31 : ACode := .seq c46_29 c46_30
theorem r46_31 : type_of% (@rr _ _ c46_31.eq_1) := rr c46_31.eq_1
def c46_32 : ACode := .seq c46_21 c46_31
theorem r46_32 : type_of% (@rr _ _ c46_32.eq_1) := rr c46_32.eq_1
def c46_33 : ACode := .seq c46_20 c46_32
theorem r46_33 : type_of% (@rr _ _ c46_33.eq_1) := rr c46_33.eq_1
def c46_34 : ACode := .keep [4, 5, 6, 13, 14, 15, 17, 33, 41, 42, 43, 47, 48, 49] [4, 5, 6, 12, 15, 17] c46_33
theorem r46_34 : type_of% (@rr _ _ c46_34.eq_1) := rr c46_34.eq_1
def c46_35 : ACode := .loop c46_34
theorem r46_35 : type_of% (@rr _ _ c46_35.eq_1) := rr c46_35.eq_1
def c46_36 : ACode := .block 4 c46_35
theorem r46_36 : type_of% (@rr _ _ c46_36.eq_1) := rr c46_36.eq_1
def c46_37 : ACode := .seq c46_19 c46_36
theorem r46_37 : type_of% (@rr _ _ c46_37.eq_1) := rr c46_37.eq_1
def c46_38 : ACode := .ops [⟨some 65, .mv (.t 15), none, []⟩,
  ⟨some 66, .load 10 true (.t 17), none, [17]⟩,
  ⟨some 67, .mkrow 67 1 10 [.int .i64 0, .int .i64 0, .int .i64 0, .int .i64 0, .int .i64 0, .int .i64 0, .int .i64 0, .int .i64 0, .int .i64 0, .int .i64 0] [(0, 10, .t 66)], none, []⟩,
  ⟨some 68, .app 15 [15] (.t 65) (.t 67) 10, none, [15, 67]⟩,
  ⟨some 15, .mv (.t 68), none, []⟩] [4, 5, 6, 13, 14, 15, 33, 41, 42, 43]
theorem r46_38 : type_of% (@rr _ _ c46_38.eq_1) := rr c46_38.eq_1
def c46_39 : ACode := .seq c46_37 c46_38
theorem r46_39 : type_of% (@rr _ _ c46_39.eq_1) := rr c46_39.eq_1
def c46_40 : ACode := .seq c46_18 c46_39
theorem r46_40 : type_of% (@rr _ _ c46_40.eq_1) := rr c46_40.eq_1
def c46_41 : ACode := .block 3 c46_40
theorem r46_41 : type_of% (@rr _ _ c46_41.eq_1) := rr c46_41.eq_1
def c46_42 : ACode := .ops [⟨some 69, .bin .add (.t 43) (.c (.int .i64 1)), none, []⟩,
  ⟨some 43, .mv (.t 69), none, []⟩] [4, 5, 6, 13, 14, 15, 33, 41, 42, 43]
theorem r46_42 : type_of% (@rr _ _ c46_42.eq_1) := rr c46_42.eq_1
def c46_43 : ACode := .seq c46_41 c46_42
theorem r46_43 : type_of% (@rr _ _ c46_43.eq_1) := rr c46_43.eq_1
def c46_44 : ACode := .seq c46_17 c46_43
theorem r46_44 : type_of% (@rr _ _ c46_44.eq_1) := rr c46_44.eq_1
def c46_45 : ACode := .seq c46_16 c46_44
theorem r46_45 : type_of% (@rr _ _ c46_45.eq_1) := rr c46_45.eq_1
def c46_46 : ACode := .keep [4, 5, 6, 13, 14, 15, 33, 41, 42, 43] [4, 5, 6, 12, 15] c46_45
theorem r46_46 : type_of% (@rr _ _ c46_46.eq_1) := rr c46_46.eq_1
def c46_47 : ACode := .loop c46_46
theorem r46_47 : type_of% (@rr _ _ c46_47.eq_1) := rr c46_47.eq_1
def c46_48 : ACode := .block 2 c46_47
theorem r46_48 : type_of% (@rr _ _ c46_48.eq_1) := rr c46_48.eq_1
def c46_49 : ACode := .seq c46_15 c46_48
theorem r46_49 : type_of% (@rr _ _ c46_49.eq_1) := rr c46_49.eq_1
def c46_50 : ACode := .ops [⟨some 70, .mv (.t 15), none, []⟩,
  ⟨some 12, .frz (.t 70), none, [15]⟩] [4, 5, 6, 12, 33]
theorem r46_50 : type_of% (@rr _ _ c46_50.eq_1) := rr c46_50.eq_1
def c46_51 : ACode := .seq c46_49 c46_50
theorem r46_51 : type_of% (@rr _ _ c46_51.eq_1) := rr c46_51.eq_1
def c46_52 : ACode := .seq c46_14 c46_51
theorem r46_52 : type_of% (@rr _ _ c46_52.eq_1) := rr c46_52.eq_1
def c46_53 : ACode := .seq c46_13 c46_52
theorem r46_53 : type_of% (@rr _ _ c46_53.eq_1) := rr c46_53.eq_1
def c46_54 : ACode := .seq c46_12 c46_53
theorem r46_54 : type_of% (@rr _ _ c46_54.eq_1) := rr c46_54.eq_1
def c46_55 : ACode := .block 1 c46_54
theorem r46_55 : type_of% (@rr _ _ c46_55.eq_1) := rr c46_55.eq_1
def c46_56 : ACode := .ops [⟨some 71, .bin .add (.t 33) (.c (.int .i64 1)), none, []⟩,
  ⟨some 33, .mv (.t 71), none, []⟩] [4, 5, 6, 12, 33]
theorem r46_56 : type_of% (@rr _ _ c46_56.eq_1) := rr c46_56.eq_1
def c46_57 : ACode := .seq c46_55 c46_56
theorem r46_57 : type_of% (@rr _ _ c46_57.eq_1) := rr c46_57.eq_1
def c46_58 : ACode := .seq c46_11 c46_57
theorem r46_58 : type_of% (@rr _ _ c46_58.eq_1) := rr c46_58.eq_1
def c46_59 : ACode := .seq c46_10 c46_58
theorem r46_59 : type_of% (@rr _ _ c46_59.eq_1) := rr c46_59.eq_1
def c46_60 : ACode := .keep [4, 5, 6, 12, 33] [4, 5, 6, 12] c46_59
theorem r46_60 : type_of% (@rr _ _ c46_60.eq_1) := rr c46_60.eq_1
def c46_61 : ACode := .loop c46_60
theorem r46_61 : type_of% (@rr _ _ c46_61.eq_1) := rr c46_61.eq_1
def c46_62 : ACode := .block 0 c46_61
theorem r46_62 : type_of% (@rr _ _ c46_62.eq_1) := rr c46_62.eq_1
def c46_63 : ACode := .seq c46_9 c46_62
theorem r46_63 : type_of% (@rr _ _ c46_63.eq_1) := rr c46_63.eq_1
def c46_64 : ACode := .ops [⟨some 72, .mv (.t 12), none, []⟩,
  ⟨some 8, .mv (.t 72), none, []⟩,
  ⟨some 9, .mv (.c (.bool true)), none, []⟩] [8, 9]
theorem r46_64 : type_of% (@rr _ _ c46_64.eq_1) := rr c46_64.eq_1
def c46_65 : ACode := .seq c46_64 .ret
theorem r46_65 : type_of% (@rr _ _ c46_65.eq_1) := rr c46_65.eq_1
def c46_66 : ACode := .seq c46_63 c46_65
theorem r46_66 : type_of% (@rr _ _ c46_66.eq_1) := rr c46_66.eq_1
def c46_67 : ACode := .seq c46_8 c46_66
theorem r46_67 : type_of% (@rr _ _ c46_67.eq_1) := rr c46_67.eq_1
def c46_68 : ACode := .seq c46_7 c46_67
theorem r46_68 : type_of% (@rr _ _ c46_68.eq_1) := rr c46_68.eq_1
def c46_69 : ACode := .seq c46_0 c46_68
theorem r46_69 : type_of% (@rr _ _ c46_69.eq_1) := rr c46_69.eq_1
def a46 : AFun := ⟨4, 73, c46_69, [.t 8, .t 9]⟩
attribute [simp] r46_0 r46_1 r46_2 r46_3 r46_4 r46_5 r46_6 r46_7 r46_8 r46_9 r46_10 r46_11 r46_12 r46_13 r46_14 r46_15 r46_16 r46_17 r46_18 r46_19 r46_20 r46_21 r46_22 r46_23 r46_24 r46_25 r46_26 r46_27 r46_28 r46_29 r46_30 r46_31 r46_32 r46_33 r46_34 r46_35 r46_36 r46_37 r46_38 r46_39 r46_40 r46_41 r46_42 r46_43 r46_44 r46_45 r46_46 r46_47 r46_48 r46_49 r46_50 r46_51 r46_52 r46_53 r46_54 r46_55 r46_56 r46_57 r46_58 r46_59 r46_60 r46_61 r46_62 r46_63 r46_64 r46_65 r46_66 r46_67 r46_68 r46_69
theorem m46 : mFun Try.prog Try.f46 a46 = true := by decide +kernel
def c100_0 : ACode := .ops [⟨some 1, .box (.t 0) 10, none, []⟩,
  ⟨some 2, .alloc [.int .i64 0, .int .i64 0, .int .i64 0, .int .i64 0], none, []⟩] [1, 2]
theorem r100_0 : type_of% (@rr _ _ c100_0.eq_1) := rr c100_0.eq_1
def c100_1 : ACode := .ops [⟨some 3, .alloc [.int .i64 0, .int .i64 0, .int .i64 0, .int .i64 0], none, []⟩] [1, 2, 3]
theorem r100_1 : type_of% (@rr _ _ c100_1.eq_1) := rr c100_1.eq_1
def c100_2 : ACode := .ops [⟨some 5, .mv (.c (.int .i64 0)), none, []⟩] [1, 2, 3, 5]
theorem r100_2 : type_of% (@rr _ _ c100_2.eq_1) := rr c100_2.eq_1
def c100_3 : ACode := .ops [⟨some 6, .bin .lss (.t 5) (.c (.int .i64 4)), none, []⟩] [1, 2, 3, 5, 6]
theorem r100_3 : type_of% (@rr _ _ c100_3.eq_1) := rr c100_3.eq_1
def c100_4 : ACode := .cond (.t 6) .skip (.exit 0)
theorem r100_4 : type_of% (@rr _ _ c100_4.eq_1) := rr c100_4.eq_1
def c100_5 : ACode := .ops [⟨some 7, .mv (.t 5), none, []⟩,
  ⟨some 4, .mv (.t 7), none, []⟩] [1, 2, 3, 4, 5]
theorem r100_5 : type_of% (@rr _ _ c100_5.eq_1) := rr c100_5.eq_1
def c100_6 : ACode := .ops [⟨some 8, .mv (.t 4), none, []⟩,
  ⟨some 9, .mv (.t 4), none, []⟩,
  ⟨some 10, .iad (.t 1) (.t 9) 2 5, none, [1]⟩,
  ⟨some 11, .fad (.t 10) 0, none, [1]⟩,
  ⟨some 12, .load 1 false (.t 11), none, [1]⟩,
  ⟨some 13, .iad (.t 3) (.t 8) 1 4, none, [3]⟩,
  ⟨none, .store (.t 13) 1 (.t 12), none, [3]⟩] [1, 2, 3, 5]
theorem r100_6 : type_of% (@rr _ _ c100_6.eq_1) := rr c100_6.eq_1
def c100_7 : ACode := .seq c100_5 c100_6
theorem r100_7 : type_of% (@rr _ _ c100_7.eq_1) := rr c100_7.eq_1
def c100_8 : ACode := .block 1 c100_7
theorem r100_8 : type_of% (@rr _ _ c100_8.eq_1) := rr c100_8.eq_1
def c100_9 : ACode := .ops [⟨some 14, .bin .add (.t 5) (.c (.int .i64 1)), none, []⟩,
  ⟨some 5, .mv (.t 14), none, []⟩] [1, 2, 3, 5]
theorem r100_9 : type_of% (@rr _ _ c100_9.eq_1) := rr c100_9.eq_1
def c100_10 : ACode := .seq c100_8 c100_9
theorem r100_10 : type_of% (@rr _ _ c100_10.eq_1) := rr c100_10.eq_1
def c100_11 : ACode := .seq c100_4 c100_10
theorem r100_11 : type_of% (@rr _ _ c100_11.eq_1) := rr c100_11.eq_1
def c100_12 : ACode := .seq c100_3 c100_11
theorem r100_12 : type_of% (@rr _ _ c100_12.eq_1) := rr c100_12.eq_1
def c100_13 : ACode := .keep [1, 2, 3, 5] [1, 2, 3] c100_12
theorem r100_13 : type_of% (@rr _ _ c100_13.eq_1) := rr c100_13.eq_1
def c100_14 : ACode := .loop c100_13
theorem r100_14 : type_of% (@rr _ _ c100_14.eq_1) := rr c100_14.eq_1
def c100_15 : ACode := .block 0 c100_14
theorem r100_15 : type_of% (@rr _ _ c100_15.eq_1) := rr c100_15.eq_1
def c100_16 : ACode := .seq c100_2 c100_15
theorem r100_16 : type_of% (@rr _ _ c100_16.eq_1) := rr c100_16.eq_1
def c100_17 : ACode := .ops [⟨some 15, .load 4 true (.t 3), none, [3]⟩,
  ⟨none, .store (.t 2) 4 (.t 15), none, [2]⟩] [2]
theorem r100_17 : type_of% (@rr _ _ c100_17.eq_1) := rr c100_17.eq_1
def c100_18 : ACode := .seq c100_17 .ret
theorem r100_18 : type_of% (@rr _ _ c100_18.eq_1) := rr c100_18.eq_1
def c100_19 : ACode := .seq c100_16 c100_18
theorem r100_19 : type_of% (@rr _ _ c100_19.eq_1) := rr c100_19.eq_1
def c100_20 : ACode := .seq c100_1 c100_19
theorem r100_20 : type_of% (@rr _ _ c100_20.eq_1) := rr c100_20.eq_1
def c100_21 : ACode := .seq c100_0 c100_20
theorem r100_21 : type_of% (@rr _ _ c100_21.eq_1) := rr c100_21.eq_1
def a100 : AFun := ⟨1, 16, c100_21, [.cell 2 4 true]⟩
attribute [simp] r100_0 r100_1 r100_2 r100_3 r100_4 r100_5 r100_6 r100_7 r100_8 r100_9 r100_10 r100_11 r100_12 r100_13 r100_14 r100_15 r100_16 r100_17 r100_18 r100_19 r100_20 r100_21
theorem m100 : mFun Try.prog Try.f100 a100 = true := by decide +kernel
def c99_0 : ACode := .ops [⟨some 3, .box (.t 0) 10, none, []⟩,
  ⟨some 4, .mv (.c (.bool false)), none, []⟩] [1, 2, 3]
theorem r99_0 : type_of% (@rr _ _ c99_0.eq_1) := rr c99_0.eq_1
def c99_1 : ACode := .ops [⟨some 5, .load 6 true (.t 1), none, []⟩,
  ⟨some 6, .load 17 true (.t 2), none, []⟩,
  ⟨some 7, .load 10 true (.t 3), none, [3]⟩,
  ⟨some 8, .call 100 [.t 7], none, []⟩,
  ⟨some 9, .iad (.t 3) (.c (.int .i64 4)) 2 5, none, [3]⟩,
  ⟨some 10, .fad (.t 9) 1, none, [3]⟩,
  ⟨some 11, .load 1 false (.t 10), none, [3]⟩,
  ⟨some 12, .call 57 [.t 5, .t 6, .t 8, .t 11], none, []⟩,
  ⟨some 4, .mv (.t 12), none, []⟩] [4]
theorem r99_1 : type_of% (@rr _ _ c99_1.eq_1) := rr c99_1.eq_1
def c99_2 : ACode := .seq c99_1 .ret
theorem r99_2 : type_of% (@rr _ _ c99_2.eq_1) := rr c99_2.eq_1
def c99_3 : ACode := .seq c99_0 c99_2
theorem r99_3 : type_of% (@rr _ _ c99_3.eq_1) := rr c99_3.eq_1
def a99 : AFun := ⟨3, 13, c99_3, [.t 4]⟩
attribute [simp] r99_0 r99_1 r99_2 r99_3
theorem m99 : mFun Try.prog Try.f99 a99 = true := by decide +kernel
def c137_0 : ACode := .ops [⟨some 4, .mv (.c (.int .i64 0)), none, []⟩] [0, 1]
theorem r137_0 : type_of% (@rr _ _ c137_0.eq_1) := rr c137_0.eq_1
def c137_1 : ACode := .ops [⟨some 6, .mv (.t 0), none, []⟩,
  ⟨some 7, .len (.t 6), none, []⟩,
  ⟨some 8, .mv (.c (.int .i64 0)), none, []⟩] [0, 1, 7, 8]
theorem r137_1 : type_of% (@rr _ _ c137_1.eq_1) := rr c137_1.eq_1
def c137_2 : ACode := .ops [⟨some 9, .bin .lss (.t 8) (.t 7), none, []⟩] [0, 1, 7, 8, 9]
theorem r137_2 : type_of% (@rr _ _ c137_2.eq_1) := rr c137_2.eq_1
def c137_3 : ACode := .cond (.t 9) .skip (.exit 0)
theorem r137_3 : type_of% (@rr _ _ c137_3.eq_1) := rr c137_3.eq_1
def c137_4 : ACode := .ops [⟨some 10, .mv (.t 8), none, []⟩,
  ⟨some 5, .mv (.t 10), none, []⟩] [0, 1, 5, 7, 8]
theorem r137_4 : type_of% (@rr _ _ c137_4.eq_1) := rr c137_4.eq_1
def c137_5 : ACode := .ops [⟨some 11, .mv (.t 1), none, []⟩,
  ⟨some 12, .mv (.t 0), none, []⟩,
  ⟨some 13, .mv (.t 5), none, []⟩,
  ⟨some 14, .ias (.t 12) (.t 13) 10, none, []⟩,
  ⟨some 15, .load 10 true (.t 14), none, []⟩,
  ⟨some 16, .dyn (.t 11) [.t 15], none, []⟩] [0, 1, 5, 7, 8, 16]
theorem r137_5 : type_of% (@rr _ _ c137_5.eq_1) := rr c137_5.eq_1
def c137_6 : ACode := .ops [⟨some 17, .mv (.t 5), none, []⟩,
  ⟨some 4, .mv (.t 17), none, []⟩] [4]
theorem r137_6 : type_of% (@rr _ _ c137_6.eq_1) := rr c137_6.eq_1
def c137_7 : ACode := .seq c137_6 .ret
theorem r137_7 : type_of% (@rr _ _ c137_7.eq_1) := rr c137_7.eq_1
def c137_8 : ACode := .cond (.t 16) c137_7 .skip
theorem r137_8 : type_of% (@rr _ _ c137_8.eq_1) := rr c137_8.eq_1
def c137_9 : ACode := .seq c137_5 c137_8
theorem r137_9 : type_of% (@rr _ _ c137_9.eq_1) := rr c137_9.eq_1
def c137_10 : ACode := .seq c137_4 c137_9
theorem r137_10 : type_of% (@rr _ _ c137_10.eq_1) := rr c137_10.eq_1
def c137_11 : ACode := .block 1 c137_10
theorem r137_11 : type_of% (@rr _ _ c137_11.eq_1) := rr c137_11.eq_1
def c137_12 : ACode := .ops [⟨some 18, .bin .add (.t 8) (.c (.int .i64 1)), none, []⟩,
  ⟨some 8, .mv (.t 18), none, []⟩] [0, 1, 7, 8]
theorem r137_12 : type_of% (@rr _ _ c137_12.eq_1) := rr c137_12.eq_1
def c137_13 : ACode := .seq c137_11 c137_12
theorem r137_13 : type_of% (@rr _ _ c137_13.eq_1) := rr c137_13.eq_1
def c137_14 : ACode := .seq c137_3 c137_13
theorem r137_14 : type_of% (@rr _ _ c137_14.eq_1) := rr c137_14.eq_1
def c137_15 : ACode := .seq c137_2 c137_14
theorem r137_15 : type_of% (@rr _ _ c137_15.eq_1) := rr c137_15.eq_1
def c137_16 : ACode := .keep [0, 1, 7, 8] [] c137_15
theorem r137_16 : type_of% (@rr _ _ c137_16.eq_1) := rr c137_16.eq_1
def c137_17 : ACode := .loop c137_16
theorem r137_17 : type_of% (@rr _ _ c137_17.eq_1) := rr c137_17.eq_1
def c137_18 : ACode := .block 0 c137_17
theorem r137_18 : type_of% (@rr _ _ c137_18.eq_1) := rr c137_18.eq_1
def c137_19 : ACode := .seq c137_1 c137_18
theorem r137_19 : type_of% (@rr _ _ c137_19.eq_1) := rr c137_19.eq_1
def c137_20 : ACode := .ops [⟨some 4, .mv (.c (.int .i64 (-1))), none, []⟩] [4]
theorem r137_20 : type_of% (@rr _ _ c137_20.eq_1) := rr c137_20.eq_1
def c137_21 : ACode := .seq c137_20 .ret
theorem r137_21 : type_of% (@rr _ _ c137_21.eq_1) := rr c137_21.eq_1
def c137_22 : ACode := .seq c137_19 c137_21
theorem r137_22 : type_of% (@rr _ _ c137_22.eq_1) := rr c137_22.eq_1
def c137_23 : ACode := .seq c137_0 c137_22
theorem r137_23 : type_of% (@rr _ _ c137_23.eq_1) := rr c137_23.eq_1
def a137 : AFun := ⟨2, 19, c137_23, [.t 4]⟩
attribute [simp] r137_0 r137_1 r137_2 r137_3 r137_4 r137_5 r137_6 r137_7 r137_8 r137_9 r137_10 r137_11 r137_12 r137_13 r137_14 r137_15 r137_16 r137_17 r137_18 r137_19 r137_20 r137_21 r137_22 r137_23
theorem m137 : mFun Try.prog Try.f137 a137 = true := by decide +kernel
def c98_0 : ACode := .ops [⟨some 4, .mv (.c (.bool false)), none, []⟩] [0, 1]
theorem r98_0 : type_of% (@rr _ _ c98_0.eq_1) := rr c98_0.eq_1
def c98_1 : ACode := .ops [⟨some 5, .mv (.t 0), none, []⟩,
  ⟨some 6, .mv (.t 1), none, []⟩,
  ⟨some 7, .call 137 [.t 5, .t 6], none, []⟩,
  ⟨some 8, .bin .geq (.t 7) (.c (.int .i64 0)), none, []⟩,
  ⟨some 4, .mv (.t 8), none, []⟩] [4]
theorem r98_1 : type_of% (@rr _ _ c98_1.eq_1) := rr c98_1.eq_1
def c98_2 : ACode := .seq c98_1 .ret
theorem r98_2 : type_of% (@rr _ _ c98_2.eq_1) := rr c98_2.eq_1
def c98_3 : ACode := .seq c98_0 c98_2
theorem r98_3 : type_of% (@rr _ _ c98_3.eq_1) := rr c98_3.eq_1
def a98 : AFun := ⟨2, 9, c98_3, [.t 4]⟩
attribute [simp] r98_0 r98_1 r98_2 r98_3
theorem m98 : mFun Try.prog Try.f98 a98 = true := by decide +kernel
def c49_0 : ACode := .ops [⟨some 3, .box (.t 0) 6, none, []⟩,
  ⟨some 4, .box (.t 1) 17, none, []⟩,
  ⟨some 6, .mv (.c (.bool false)), none, []⟩,
  ⟨some 7, .mv (.c (.bool false)), none, []⟩] [2, 3, 4]
theorem r49_0 : type_of% (@rr _ _ c49_0.eq_1) := rr c49_0.eq_1
def c49_1 : ACode := .ops [⟨some 11, .load 6 true (.t 3), none, [3]⟩,
  ⟨some 12, .load 17 true (.t 4), none, [4]⟩,
  ⟨some 13, .load 17 true (.t 4), none, [4]⟩,
  ⟨some 14, .call 45 [.t 13], none, []⟩,
  ⟨some 15, .mv (.t 2), none, []⟩,
  ⟨some 16, .call 46 [.t 11, .t 12, .t 14, .t 15], none, []⟩,
  ⟨some 10, .mv (.t 16), none, []⟩,
  ⟨some 17, .ext (.t 10) 0, none, []⟩,
  ⟨some 18, .ext (.t 10) 1, none, []⟩,
  ⟨some 8, .mv (.t 17), none, []⟩,
  ⟨some 9, .mv (.t 18), none, []⟩] [3, 4, 8, 9]
theorem r49_1 : type_of% (@rr _ _ c49_1.eq_1) := rr c49_1.eq_1
def c49_2 : ACode := .ops [⟨some 19, .mv (.t 9), none, []⟩,
  ⟨some 20, .un .not (.t 19), none, []⟩] [3, 4, 8, 20]
theorem r49_2 : type_of% (@rr _ _ c49_2.eq_1) := rr c49_2.eq_1
def c49_3 : ACode := .ops [⟨some 6, .mv (.c (.bool false)), none, []⟩,
  ⟨some 7, .mv (.c (.bool false)), none, []⟩] [6, 7]
theorem r49_3 : type_of% (@rr _ _ c49_3.eq_1) := rr c49_3.eq_1
def c49_4 : ACode := .seq c49_3 .ret
theorem r49_4 : type_of% (@rr _ _ c49_4.eq_1) := rr c49_4.eq_1
def c49_5 : ACode := .cond (.t 20) c49_4 .skip
theorem r49_5 : type_of% (@rr _ _ c49_5.eq_1) := rr c49_5.eq_1
def c49_6 : ACode := .seq c49_2 c49_5
theorem r49_6 : type_of% (@rr _ _ c49_6.eq_1) := rr c49_6.eq_1
def c49_7 : ACode := .ops [⟨some 21, .mv (.t 8), none, []⟩,
  ⟨some 22, .clo 99 [.t 3, .t 4], none, [3, 4]⟩,
  ⟨some 23, .call 98 [.t 21, .t 22], none, []⟩,
  ⟨some 24, .un .not (.t 23), none, []⟩,
  ⟨some 6, .mv (.t 24), none, []⟩,
  ⟨some 7, .mv (.c (.bool true)), none, []⟩] [6, 7]
theorem r49_7 : type_of% (@rr _ _ c49_7.eq_1) := rr c49_7.eq_1
def c49_8 : ACode := .seq c49_7 .ret
theorem r49_8 : type_of% (@rr _ _ c49_8.eq_1) := rr c49_8.eq_1
def c49_9 : ACode := .seq c49_6 c49_8
theorem r49_9 : type_of% (@rr _ _ c49_9.eq_1) := rr c49_9.eq_1
def c49_10 : ACode := .seq c49_1 c49_9
theorem r49_10 : type_of% (@rr _ _ c49_10.eq_1) := rr c49_10.eq_1
def c49_11 : ACode := .seq c49_0 c49_10
theorem r49_11 : type_of% (@rr _ _ c49_11.eq_1) := rr c49_11.eq_1
def a49 : AFun := ⟨3, 25, c49_11, [.t 6, .t 7]⟩
attribute [simp] r49_0 r49_1 r49_2 r49_3 r49_4 r49_5 r49_6 r49_7 r49_8 r49_9 r49_10 r49_11
theorem m49 : mFun Try.prog Try.f49 a49 = true := by decide +kernel
def doneC (k : Int) (ts : List Int) (L : List Box) (j : Nat) : List Box := (L.take j).flatMap (splitC k ts)
theorem doneC_succ (k : Int) (ts : List Int) (L : List Box) {j : Nat} (h : j < L.length) : doneC k ts L (j + 1) = doneC k ts L j ++ splitC k ts L[j] := by
  unfold doneC
  rw [List.take_succ_eq_append_getElem h, List.flatMap_append]
  simp
theorem doneC_le (k : Int) (ts : List Int) (L : List Box) (j : Nat) : (doneC k ts L j).length ≤ (L.flatMap (splitC k ts)).length := by
  unfold doneC
  rw [flat_len, flat_len]
  exact Nat.mul_le_mul_right _ (List.length_take_le' j L)
theorem lenB (l : List Box) : l.length * 10 ≤ (encL l).length := by rw [encL_length]; exact Nat.le_refl _
theorem takeB (l : List Box) : List.take (l.length * 10) (encL l) = encL l := by rw [List.take_of_length_le]; rw [encL_length]; exact Nat.le_refl _
theorem encL_snocB (X : List Box) (c : Box) : encL (X ++ [c]) = encL X ++ [.int .i64 c.s0.lo, .int .i64 c.s0.hi, .int .i64 c.s1.lo, .int .i64 c.s1.hi, .int .i64 c.s2.lo, .int .i64 c.s2.hi, .int .i64 c.s3.lo, .int .i64 c.s3.hi, .int .i64 c.s4.lo, .int .i64 c.s4.hi] := by rw [encL_append]; rfl
noncomputable def CellsC (m : Model) (q : Query) (b : Box) (most : Int) : Option (List Box × Bool) := Part (RM m ∧ okB b ∧ most ≤ 1000000) (if countM m q b ≤ most then (stageC m q b 5, true) else ([], false))
set_option maxHeartbeats 4000000 in
set_option maxRecDepth 8000 in
theorem runs_Cells (m : Model) (q : Query) (b : Box) (most : Int) (r : List Box × Bool) (h : CellsC m q b most = some r) : Runs (tbl [(48, sp4 CountC), (51, sp4 CutsC), (58, sp3 CutB)]) a46 [Arg.enc m, Arg.enc q, Arg.enc b, Arg.enc most] (Arg.enc r) := by
  obtain ⟨⟨hm, hb, hmost⟩, rfl⟩ := part_some h
  clear h
  refine ⟨rfl, fun g => run_def ?_⟩
  unfold a46
  have hC : CountC m q b most = some (if countM m q b ≤ most then (countM m q b, true) else (0, false)) := part_of hm _
  by_cases hc : countM m q b ≤ most
  case neg =>
    rw [if_neg hc] at hC ⊢
    simp -implicitDefEqProofs [hC, encL_nil]
  rw [if_pos hc] at hC ⊢
  simp -implicitDefEqProofs [hC]
  refine run_while (c := c46_59) (fun n s => ∃ (p : Nat) (V : AV) (g : Nat → Nat), p + n = 5 ∧ ((p = 0 ∧ V = .own 12 (g 12) 0 1 ∧ stageC m q b p = [b]) ∨ V = .lst (stageC m q b p).length (encL (stageC m q b p))) ∧ s = ⟨[(4, .ptr 4 (g 4) 0), (5, .ptr 5 (g 5) 0), (6, .ptr 6 (g 6) 0), (12, V), (33, .int .i64 p)],
    [(4, ⟨Row.enc m, false, 0⟩), (5, ⟨Row.enc q, false, 0⟩), (6, ⟨Row.enc b, false, 0⟩), (12, ⟨encL [b], false, 10⟩)], g⟩) 5 ⟨0, .own 12 (bump 12 (bump 6 (bump 5 (bump 4 g))) 12) 0 1, bump 12 (bump 6 (bump 5 (bump 4 g))), by omega, by simp [stageC], by simp [encL]⟩ ?_
  rintro n s ⟨p, V, g, hp, hV, rfl⟩
  have hsl := stage_count hm q b (j := p)
  by_cases h1 : p < 5
  case neg =>
    have hp5 : p = 5 := by omega
    subst hp5
    have hV' : V = .lst (stageC m q b 5).length (encL (stageC m q b 5)) := by
      rcases hV with ⟨h, _⟩ | h
      · cases h
      · exact h
    subst hV'
    simp -implicitDefEqProofs []
  have w1 : IntKind.i64.wrap ((p : Int) + 1) = (p : Int) + 1 := wrap64 (by omega) (by omega)
  have hK : CutsC m q b p = some (cutsL m q b p) := part_of ⟨hm, .inr ⟨by omega, by omega⟩⟩ _
  have hkl : (cutsL m q b p).length ≤ 248 := by rw [cutsL_len]; exact cutN_le hm q b p
  have hS : stageC m q b (p + 1) = (stageC m q b p).flatMap (splitC p (cutsL m q b p)) := rfl
  have hSl := stage_count hm q b (j := p + 1)
  have hok := stage_ok hm hb (q := q) p
  have htk := cuts_ok hm (q := q) (b := b) (i := p)
  have hsl := hsl (by omega)
  have hSl := hSl (by omega)
  have h1i : (p : Int) < 5 := by omega
  have p0 : (0 : Int) ≤ p := by omega
  have m1 : 1 ≤ maxN := by decide
  generalize hSe : stageC m q b (p + 1) = S at *
  generalize stageC m q b p = L at *
  generalize cutsL m q b p = ts at *
  have b1 : ts.length ≤ maxN := by unfold maxN; omega
  have b2 : L.length ≤ maxN := by unfold maxN; omega
  rcases hV with ⟨_, rfl, rfl⟩ | rfl
  · simp -implicitDefEqProofs [h1i, hK, m1, b2]
    refine run_while (c := c46_45) (fun n s => ∃ (j : Nat) (g' : Nat → Nat), j + n = 1 ∧ g' 12 = g 12 ∧ s = ⟨[(4, .ptr 4 (g' 4) 0), (5, .ptr 5 (g' 5) 0), (6, .ptr 6 (g' 6) 0), (13, .int .i64 p), (14, .lst ts.length (encL ts)), (15, .own 15 (g' 15) 0 (doneC p ts [b] j).length), (33, .int .i64 p), (41, .own 12 (g 12) 0 1), (42, .int .i64 1), (43, .int .i64 j)],
      [(4, ⟨Row.enc m, false, 0⟩), (5, ⟨Row.enc q, false, 0⟩), (6, ⟨Row.enc b, false, 0⟩), (12, ⟨encL [b], false, 10⟩), (15, ⟨encL (doneC p ts [b] j), false, 10⟩)], g'⟩) 1 ⟨0, bump 15 g, by omega, by simp, by simp [encL_nil, doneC]⟩ ?_
    rintro n2 s ⟨j, g', hj, hg, rfl⟩
    have hDl := doneC_le p ts [b] j
    rw [← hS] at hDl
    have nn0 : (doneC p ts [b] j).length ≤ maxN := by unfold maxN; omega
    by_cases h2 : j < 1
    case neg =>
      have hj1 : j = 1 := by omega
      subst hj1
      have hD : doneC p ts [b] 1 = S := by rw [hS]; unfold doneC; simp
      have h2i : ¬ ((1 : Int) < 1) := by omega
      rw [hD]
      simp -implicitDefEqProofs [w1, h2i, lenB, takeB]
      exact ⟨n - 1, by omega, p + 1, by omega, .inr ⟨⟨by rw [hSe], by rw [hSe]⟩, by omega⟩⟩
    case pos =>
      have h2i : (j : Int) < 1 := by omega
      have hrow := rd_box [b] j (by simpa using h2)
      have hcj : okB ([b][j]'(by simpa using h2)) := hok _ (List.getElem_mem _)
      have hD := doneC_succ p ts [b] (j := j) (by simpa using h2)
      have hDl' := doneC_le p ts [b] (j + 1)
      rw [← hS, hD, List.length_append] at hDl'
      generalize [b][j]'(by simpa using h2) = c0 at *
      have w2 : IntKind.i64.wrap ((j : Int) + 1) = (j : Int) + 1 := wrap64 (by omega) (by omega)
      generalize hD1 : doneC p ts [b] (j + 1) = D1 at *
      generalize doneC p ts [b] j = D0 at *
      simp -implicitDefEqProofs [h2, h2i, hg, hrow, b1]
      refine run_while (c := c46_33) (fun n s => ∃ (i : Nat) (c' : Box) (pre : List Box) (g'' : Nat → Nat), i + n = ts.length ∧ okB c' ∧ pre.length = i ∧ pre ++ splitC p (ts.drop i) c' = splitC p ts c0 ∧ g'' 12 = g 12 ∧ s = ⟨[(4, .ptr 4 (g'' 4) 0), (5, .ptr 5 (g'' 5) 0), (6, .ptr 6 (g'' 6) 0), (13, .int .i64 p), (14, .lst ts.length (encL ts)), (15, .own 15 (g'' 15) 0 (D0 ++ pre).length), (17, .ptr 17 (g'' 17) 0), (33, .int .i64 p), (41, .own 12 (g 12) 0 1), (42, .int .i64 1), (43, .int .i64 j), (47, .lst ts.length (encL ts)), (48, .int .i64 ts.length), (49, .int .i64 i)],
        [(4, ⟨Row.enc m, false, 0⟩), (5, ⟨Row.enc q, false, 0⟩), (6, ⟨Row.enc b, false, 0⟩), (12, ⟨encL [b], false, 10⟩), (15, ⟨encL (D0 ++ pre), false, 10⟩), (17, ⟨Row.enc c', false, 0⟩)], g''⟩) ts.length ⟨0, c0, [], bump 17 g', by omega, hcj, rfl, by simp, by simp [hg], by simp⟩ ?_
      rintro n3 s ⟨i, c', pre, g'', hi, hc', hpl, hsp, hg'', rfl⟩
      have nn : (D0 ++ pre).length ≤ maxN := by rw [List.length_append]; unfold maxN; omega
      have nn2 : (D0 ++ pre).length ≤ 1099511627775 := by rw [List.length_append]; omega
      have w3 : IntKind.i64.wrap ((i : Int) + 1) = (i : Int) + 1 := wrap64 (by omega) (by omega)
      generalize hX : D0 ++ pre = X at *
      by_cases h3 : i < ts.length
      case pos =>
        have hrd := rd_ints ts i h3
        have hCu := cutB_of hc' p (htk _ (List.getElem_mem h3))
        have hok2 := okB_cut hc' p (htk _ (List.getElem_mem h3))
        rw [List.drop_eq_getElem_cons h3, splitC] at hsp
        generalize cutB c' p ts[i] = z at *
        obtain ⟨x, y⟩ := z
        simp only at hsp hok2
        simp -implicitDefEqProofs [h3, hrd, hCu, w3, nn, nn2, lenB, takeB]
        exact ⟨n3 - 1, by omega, i + 1, by omega, y, hok2.2, pre ++ [x], by simp [hpl], by simpa using hsp, bump 15 (bump 62 (bump 20 g'')), by simp [hg''], ⟨by simp, by simp, by simp, ⟨by simp, by rw [← hX]; simp; omega⟩, by simp, by omega⟩, ⟨by rw [← List.append_assoc, hX, encL_snocB], rfl, rfl, rfl, rfl, rfl, rfl, rfl, rfl, rfl, rfl⟩, rfl⟩
      case neg =>
        have hi3 : i = ts.length := by omega
        subst hi3
        rw [List.drop_length, splitC] at hsp
        simp -implicitDefEqProofs [h3, w2, nn, nn2, lenB, takeB]
        have hDf : doneC p ts [b] (j + 1) = X ++ [c'] := by rw [hD1, hD, ← hsp, ← List.append_assoc, hX]
        exact ⟨n2 - 1, by omega, j + 1, by omega, bump 15 (bump 67 g''), by simp [hg''], ⟨by simp, by simp, by simp, ⟨by simp, by rw [hDf]; simp⟩, by omega⟩, by rw [hDf, encL_snocB], rfl⟩
  · simp -implicitDefEqProofs [h1i, hK, m1, b2]
    refine run_while (c := c46_45) (fun n s => ∃ (j : Nat) (g' : Nat → Nat), j + n = L.length ∧ g' 12 = g 12 ∧ s = ⟨[(4, .ptr 4 (g' 4) 0), (5, .ptr 5 (g' 5) 0), (6, .ptr 6 (g' 6) 0), (13, .int .i64 p), (14, .lst ts.length (encL ts)), (15, .own 15 (g' 15) 0 (doneC p ts L j).length), (33, .int .i64 p), (41, .lst L.length (encL L)), (42, .int .i64 L.length), (43, .int .i64 j)],
      [(4, ⟨Row.enc m, false, 0⟩), (5, ⟨Row.enc q, false, 0⟩), (6, ⟨Row.enc b, false, 0⟩), (12, ⟨encL [b], false, 10⟩), (15, ⟨encL (doneC p ts L j), false, 10⟩)], g'⟩) L.length ⟨0, bump 15 g, by omega, by simp, by simp [encL_nil, doneC]⟩ ?_
    rintro n2 s ⟨j, g', hj, hg, rfl⟩
    have hDl := doneC_le p ts L j
    rw [← hS] at hDl
    have nn0 : (doneC p ts L j).length ≤ maxN := by unfold maxN; omega
    by_cases h2 : j < L.length
    case neg =>
      have hj1 : j = L.length := by omega
      subst hj1
      have hD : doneC p ts L L.length = S := by rw [hS]; unfold doneC; simp
      have h2i : ¬ ((L.length : Int) < L.length) := by omega
      rw [hD]
      simp -implicitDefEqProofs [w1, h2i, lenB, takeB]
      exact ⟨n - 1, by omega, p + 1, by omega, .inr ⟨⟨by rw [hSe], by rw [hSe]⟩, by omega⟩⟩
    case pos =>
      have h2i : (j : Int) < L.length := by omega
      have hrow := rd_box L j (by simpa using h2)
      have hcj : okB (L[j]'(by simpa using h2)) := hok _ (List.getElem_mem _)
      have hD := doneC_succ p ts L (j := j) (by simpa using h2)
      have hDl' := doneC_le p ts L (j + 1)
      rw [← hS, hD, List.length_append] at hDl'
      generalize L[j]'(by simpa using h2) = c0 at *
      have w2 : IntKind.i64.wrap ((j : Int) + 1) = (j : Int) + 1 := wrap64 (by omega) (by omega)
      generalize hD1 : doneC p ts L (j + 1) = D1 at *
      generalize doneC p ts L j = D0 at *
      simp -implicitDefEqProofs [h2, h2i, hg, hrow, b1]
      refine run_while (c := c46_33) (fun n s => ∃ (i : Nat) (c' : Box) (pre : List Box) (g'' : Nat → Nat), i + n = ts.length ∧ okB c' ∧ pre.length = i ∧ pre ++ splitC p (ts.drop i) c' = splitC p ts c0 ∧ g'' 12 = g 12 ∧ s = ⟨[(4, .ptr 4 (g'' 4) 0), (5, .ptr 5 (g'' 5) 0), (6, .ptr 6 (g'' 6) 0), (13, .int .i64 p), (14, .lst ts.length (encL ts)), (15, .own 15 (g'' 15) 0 (D0 ++ pre).length), (17, .ptr 17 (g'' 17) 0), (33, .int .i64 p), (41, .lst L.length (encL L)), (42, .int .i64 L.length), (43, .int .i64 j), (47, .lst ts.length (encL ts)), (48, .int .i64 ts.length), (49, .int .i64 i)],
        [(4, ⟨Row.enc m, false, 0⟩), (5, ⟨Row.enc q, false, 0⟩), (6, ⟨Row.enc b, false, 0⟩), (12, ⟨encL [b], false, 10⟩), (15, ⟨encL (D0 ++ pre), false, 10⟩), (17, ⟨Row.enc c', false, 0⟩)], g''⟩) ts.length ⟨0, c0, [], bump 17 g', by omega, hcj, rfl, by simp, by simp [hg], by simp⟩ ?_
      rintro n3 s ⟨i, c', pre, g'', hi, hc', hpl, hsp, hg'', rfl⟩
      have nn : (D0 ++ pre).length ≤ maxN := by rw [List.length_append]; unfold maxN; omega
      have nn2 : (D0 ++ pre).length ≤ 1099511627775 := by rw [List.length_append]; omega
      have w3 : IntKind.i64.wrap ((i : Int) + 1) = (i : Int) + 1 := wrap64 (by omega) (by omega)
      generalize hX : D0 ++ pre = X at *
      by_cases h3 : i < ts.length
      case pos =>
        have hrd := rd_ints ts i h3
        have hCu := cutB_of hc' p (htk _ (List.getElem_mem h3))
        have hok2 := okB_cut hc' p (htk _ (List.getElem_mem h3))
        rw [List.drop_eq_getElem_cons h3, splitC] at hsp
        generalize cutB c' p ts[i] = z at *
        obtain ⟨x, y⟩ := z
        simp only at hsp hok2
        simp -implicitDefEqProofs [h3, hrd, hCu, w3, nn, nn2, lenB, takeB]
        exact ⟨n3 - 1, by omega, i + 1, by omega, y, hok2.2, pre ++ [x], by simp [hpl], by simpa using hsp, bump 15 (bump 62 (bump 20 g'')), by simp [hg''], ⟨by simp, by simp, by simp, ⟨by simp, by rw [← hX]; simp; omega⟩, by simp, by omega⟩, ⟨by rw [← List.append_assoc, hX, encL_snocB], rfl, rfl, rfl, rfl, rfl, rfl, rfl, rfl, rfl, rfl⟩, rfl⟩
      case neg =>
        have hi3 : i = ts.length := by omega
        subst hi3
        rw [List.drop_length, splitC] at hsp
        simp -implicitDefEqProofs [h3, w2, nn, nn2, lenB, takeB]
        have hDf : doneC p ts L (j + 1) = X ++ [c'] := by rw [hD1, hD, ← hsp, ← List.append_assoc, hX]
        exact ⟨n2 - 1, by omega, j + 1, by omega, bump 15 (bump 67 g''), by simp [hg''], ⟨by simp, by simp, by simp, ⟨by simp, by rw [hDf]; simp⟩, by omega⟩, by rw [hDf, encL_snocB], rfl⟩
theorem c_Cells : Contract Try.prog 46 (sp4 CellsC) :=
  contract_of_runs mixed (tbl_cons c_Count (tbl_cons c_Cuts (tbl_cons c_bCut tbl_nil))) Try.func46 m46 (sp4_runs runs_Cells)
set_option maxRecDepth 8000 in
theorem runs_Low (b : Box) (r : Point) (h : some (lowB b) = some r) : Runs (tbl []) a100 [Arg.enc b] (Arg.enc r) := by
  cases h
  refine ⟨rfl, fun g => run_def ?_⟩
  unfold a100 lowB
  simp -implicitDefEqProofs [run_round]
theorem c_Low : Contract Try.prog 100 (sp1 fun b => some (lowB b)) :=
  contract_of_runs mixed tbl_nil Try.func100 m100 (sp1_runs runs_Low)
def corner (m : Model) (q : Query) (b : Box) : Bool := breaks m q (lowB b) b.s4.hi
noncomputable def CornerC (b : Box) (m : Ref Model) (q : Ref Query) : Option Bool := Part (RM m.v) (corner m.v q.v b)
@[simp] theorem dec_ref_query (q : Query) : (Arg.dec (.ipt 0 [.int .i64 q.kind, .int .i64 q.cls, .int .i64 q.region.s0.lo, .int .i64 q.region.s0.hi, .int .i64 q.region.s1.lo, .int .i64 q.region.s1.hi, .int .i64 q.region.s2.lo, .int .i64 q.region.s2.hi, .int .i64 q.region.s3.lo, .int .i64 q.region.s3.hi, .int .i64 q.region.s4.lo, .int .i64 q.region.s4.hi, .int .i64 q.lo, .int .i64 q.hi, .int .i64 q.feature, .bool q.falls, .int .i64 q.budget]) : Option (Ref Query)) = some ⟨q⟩ := Arg.dec_enc (⟨q⟩ : Ref Query)
theorem runs_Corner (b : Box) (m : Ref Model) (q : Ref Query) (r : Bool) (h : CornerC b m q = some r) : Runs (tbl [(100, sp1 fun b => some (lowB b)), (57, sp4 BreaksC)]) a99 [Arg.enc b, Arg.enc m, Arg.enc q] (Arg.enc r) := by
  obtain ⟨hm, rfl⟩ := part_some h
  clear h
  obtain ⟨m⟩ := m
  obtain ⟨q⟩ := q
  simp only at hm
  refine ⟨rfl, fun g => run_def ?_⟩
  unfold a99 corner
  have hB : BreaksC m q (lowB b) b.s4.hi = some (breaks m q (lowB b) b.s4.hi) := part_of hm _
  simp -implicitDefEqProofs [hB]
theorem c_Corner : Contract Try.prog 99 (sp3 CornerC) :=
  contract_of_runs mixed (tbl_cons c_Low (tbl_cons c_Breaks tbl_nil)) Try.func99 m99 (sp3_runs runs_Corner)
structure CloH where
  m : Model
  q : Query
instance : Arg CloH where
  enc r := .clo 99 [.ipt 0 (Row.enc r.m), .ipt 0 (Row.enc r.q)]
  dec x := match x with
    | .clo f [.ipt 0 xs, .ipt 0 ys] => if f = 99 then (Row.dec xs).bind fun m => (Row.dec ys).map fun q => CloH.mk m q else none
    | _ => none
  dec_enc r := by simp only [if_true, Row.dec_enc]; rfl
  enc_dec x r h := by
    split at h
    · split at h
      · rename_i he
        rw [Option.bind_eq_some_iff] at h
        obtain ⟨a, ha, h⟩ := h
        rw [Option.map_eq_some_iff] at h
        obtain ⟨c, hc, rfl⟩ := h
        rw [Row.enc_dec _ _ ha, Row.enc_dec _ _ hc, he]
      · cases h
    · cases h
@[simp] theorem enc_cloh (r : CloH) : Arg.enc r = .clo 99 [.ipt 0 (Row.enc r.m), .ipt 0 (Row.enc r.q)] := rfl
@[simp] theorem dec_cloh (m : Model) (q : Query) : (Arg.dec (.clo 99 [.ipt 0 [.int .i64 m.dim, .int .i64 m.classes, .int .i64 m.bias.b0, .int .i64 m.bias.b1, .int .i64 m.bias.b2, .lst m.trees.length (encL m.trees)], .ipt 0 [.int .i64 q.kind, .int .i64 q.cls, .int .i64 q.region.s0.lo, .int .i64 q.region.s0.hi, .int .i64 q.region.s1.lo, .int .i64 q.region.s1.hi, .int .i64 q.region.s2.lo, .int .i64 q.region.s2.hi, .int .i64 q.region.s3.lo, .int .i64 q.region.s3.hi, .int .i64 q.region.s4.lo, .int .i64 q.region.s4.hi, .int .i64 q.lo, .int .i64 q.hi, .int .i64 q.feature, .bool q.falls, .int .i64 q.budget]]) : Option CloH) = some ⟨m, q⟩ := Arg.dec_enc (⟨m, q⟩ : CloH)
noncomputable def IndexB (l : List Box) (r : CloH) : Option Int := Part (RM r.m ∧ l.length ≤ 1099511627775) (idxF (corner r.m r.q) l)
set_option maxHeartbeats 1000000 in
theorem runs_IndexB (l : List Box) (r : CloH) (c : Int) (h : IndexB l r = some c) : Runs (tbl [(99, sp3 CornerC)]) a137 [Arg.enc l, Arg.enc r] (Arg.enc c) := by
  obtain ⟨⟨hm, hl⟩, rfl⟩ := part_some h
  obtain ⟨m, q⟩ := r
  simp only at hm
  refine ⟨rfl, fun g => run_def ?_⟩
  unfold a137
  have b3 : l.length ≤ maxN := by unfold maxN; omega
  simp -implicitDefEqProofs [b3]
  refine run_while (c := c137_15) (fun n s => ∃ (i : Nat), i + n = l.length ∧ (∀ (j : Nat) (hj : j < l.length), j < i → corner m q l[j] = false) ∧ s = ⟨[(0, .lst l.length (encL l)), (1, Arg.enc (⟨m, q⟩ : CloH)), (7, .int .i64 l.length), (8, .int .i64 i)], [], g⟩) l.length ⟨0, by omega, by simp, by simp⟩ ?_
  rintro n s ⟨i, hi, hno, rfl⟩
  by_cases h1 : i < l.length
  case pos =>
    have w1 : IntKind.i64.wrap ((i : Int) + 1) = (i : Int) + 1 := wrap64 (by omega) (by omega)
    have hrow := rd_box l i h1
    have hR : CornerC l[i] ⟨m⟩ ⟨q⟩ = some (corner m q l[i]) := part_of hm _
    cases hb : corner m q l[i]
    case false =>
      rw [hb] at hR
      have hno2 : ∀ (j : Nat) (hj : j < l.length), j < i + 1 → corner m q l[j] = false := fun j hj hji => by
        by_cases e : j = i
        · subst e; exact hb
        · exact hno j hj (by omega)
      simp -implicitDefEqProofs [h1, hrow, hR, w1]
      exact ⟨n - 1, by omega, i + 1, by omega, hno2, by omega⟩
    case true =>
      rw [hb] at hR
      have hidx : idxF (corner m q) l = i := by
        have : l.findIdx (corner m q) = i := (List.findIdx_eq h1).2 ⟨hb, fun j hj => hno j (by omega) hj⟩
        unfold idxF
        rw [this, if_pos h1]
      simp -implicitDefEqProofs [h1, hrow, hR, w1, hidx]
  case neg =>
    have hidx : idxF (corner m q) l = -1 := by
      have : l.findIdx (corner m q) = l.length := List.findIdx_eq_length.2 fun x hx => by
        obtain ⟨j, hj, rfl⟩ := List.mem_iff_getElem.1 hx
        exact hno j hj (by omega)
      unfold idxF
      rw [this, if_neg (by omega)]
    simp -implicitDefEqProofs [h1, hidx]
theorem c_IndexB : Contract Try.prog 137 (sp2 IndexB) :=
  contract_of_runs mixed (tbl_cons c_Corner tbl_nil) Try.func137 m137 (sp2_runs runs_IndexB)
noncomputable def ContainsB (l : List Box) (r : CloH) : Option Bool := Part (RM r.m ∧ l.length ≤ 1099511627775) (l.any (corner r.m r.q))
theorem any_idx {α : Type} (f : α → Bool) (l : List α) : l.any f = decide (0 ≤ idxF f l) := by
  rcases idxF_spec (p := f) (l := l) with ⟨e, h⟩ | ⟨i, hi, e, hb, _⟩
  · rw [e]
    simp only [Int.reduceNeg, Int.reduceLE, decide_false]
    rw [List.any_eq_false]
    intro x hx
    rw [h x hx]
    simp
  · rw [e]
    have : (0 : Int) ≤ i := by omega
    simp only [this, decide_true]
    exact List.any_eq_true.2 ⟨l[i], List.getElem_mem hi, hb⟩
theorem runs_ContainsB (l : List Box) (r : CloH) (c : Bool) (h : ContainsB l r = some c) : Runs (tbl [(137, sp2 IndexB)]) a98 [Arg.enc l, Arg.enc r] (Arg.enc c) := by
  obtain ⟨hr, rfl⟩ := part_some h
  obtain ⟨m, q⟩ := r
  simp only at hr
  refine ⟨rfl, fun g => run_def ?_⟩
  unfold a98
  have hI : IndexB l ⟨m, q⟩ = some (idxF (corner m q) l) := part_of hr _
  rw [any_idx]
  simp -implicitDefEqProofs [hI]
theorem c_ContainsB : Contract Try.prog 98 (sp2 ContainsB) :=
  contract_of_runs mixed (tbl_cons c_IndexB tbl_nil) Try.func98 m98 (sp2_runs runs_ContainsB)
def holdsM (m : Model) (q : Query) : Bool := !(stageC m q (startOf q) 5).any (corner m q)
noncomputable def HoldsC (m : Model) (q : Query) (most : Int) : Option (Bool × Bool) := Part (RM m ∧ okB (startOf q) ∧ most ≤ 1000000) (if countM m q (startOf q) ≤ most then (holdsM m q, true) else (false, false))
theorem runs_Holds (m : Model) (q : Query) (most : Int) (r : Bool × Bool) (h : HoldsC m q most = some r) : Runs (tbl [(45, sp1 fun q => some (startOf q)), (46, sp4 CellsC), (98, sp2 ContainsB)]) a49 [Arg.enc m, Arg.enc q, Arg.enc most] (Arg.enc r) := by
  obtain ⟨⟨hm, hb, hmost⟩, rfl⟩ := part_some h
  clear h
  refine ⟨rfl, fun g => run_def ?_⟩
  unfold a49 holdsM
  have hC : CellsC m q (startOf q) most = some (if countM m q (startOf q) ≤ most then (stageC m q (startOf q) 5, true) else ([], false)) := part_of ⟨hm, hb, hmost⟩ _
  by_cases hc : countM m q (startOf q) ≤ most
  case neg =>
    rw [if_neg hc] at hC ⊢
    simp -implicitDefEqProofs [hC, encL_nil]
  rw [if_pos hc] at hC ⊢
  have hl := stage_count hm q (startOf q) (Nat.le_refl 5)
  generalize stageC m q (startOf q) 5 = L at *
  have hK : ContainsB L ⟨m, q⟩ = some (L.any (corner m q)) := part_of ⟨hm, by omega⟩ _
  simp -implicitDefEqProofs [hC, hK]
theorem c_Holds : Contract Try.prog 49 (sp3 HoldsC) :=
  contract_of_runs mixed (tbl_cons c_Start (tbl_cons c_Cells (tbl_cons c_ContainsB tbl_nil))) Try.func49 m49 (sp3_runs runs_Holds)
end Go.Co
/- CO: what a statement's reading of an argument says, type by type (written by mkCoSh.py). -/
namespace Go.Co
open Go.Am Go.RowKit
set_option linter.unusedVariables false
theorem okR_nil {xs : List AV} (h : okR [] xs) : xs = [] := by
  cases xs with
  | nil => rfl
  | cons x xs => simp [okR] at h
theorem okR_cons {s : Shp} {ss : List Shp} {xs : List AV} (h : okR (s :: ss) xs) : ∃ x ys, xs = x :: ys ∧ okS s x ∧ okR ss ys := by
  cases xs with
  | nil => simp [okR] at h
  | cons x xs => simp only [okR] at h; exact ⟨x, xs, rfl, h.1, h.2⟩
theorem okS_int {x : AV} (h : okS (.int .i64) x) : ∃ n, x = .int .i64 n ∧ ok64 n := by
  cases x <;> simp only [okS] at h
  obtain ⟨rfl, h1, h2⟩ := h
  exact ⟨_, rfl, h1, h2⟩
theorem okS_word {x : AV} (h : okS (.int .u64) x) : ∃ n, x = .int .u64 n ∧ okW n := by
  cases x <;> simp only [okS] at h
  obtain ⟨rfl, h1, h2⟩ := h
  exact ⟨_, rfl, h1, Int.lt_of_le_of_lt h2 (by decide)⟩
theorem okS_bool {x : AV} (h : okS .bool x) : ∃ b, x = .bool b := by
  cases x <;> simp only [okS] at h
  exact ⟨_, rfl⟩
class Sh (α : Type) [Row α] where
  ss : List Shp
  good : α → Prop
  len : ss.length = Row.sz α
  read : ∀ xs, okR ss xs → ∃ a, xs = Row.enc a ∧ good a
theorem rows_read {α : Type} [Row α] [Sh α] : ∀ (n : Nat) (xs : List AV), xs.length = n * Row.sz α → (∀ i, i < n → okR (Sh.ss α) ((xs.drop (i * Row.sz α)).take (Row.sz α))) → ∃ l : List α, l.length = n ∧ xs = encL l ∧ ∀ a ∈ l, Sh.good a
  | 0, xs, h, _ => ⟨[], rfl, by rw [encL_nil]; exact List.eq_nil_of_length_eq_zero (by simpa using h), by simp⟩
  | n + 1, xs, h, hr => by
    have hp := Row.pos (α := α)
    obtain ⟨a, ha, hg⟩ := Sh.read _ (hr 0 (by omega))
    rw [Nat.succ_mul] at h
    obtain ⟨l, hl, hx, hgl⟩ := rows_read (α := α) n (xs.drop (Row.sz α)) (by rw [List.length_drop]; omega) (fun i hi => by
      have := hr (i + 1) (by omega)
      rw [Nat.succ_mul, Nat.add_comm, ← List.drop_drop] at this
      exact this)
    refine ⟨a :: l, by simp [hl], ?_, ?_⟩
    · rw [encL_cons, ← hx]
      simp only [Nat.zero_mul, List.drop_zero] at ha
      rw [← ha, List.take_append_drop]
    · intro b hb
      rcases List.mem_cons.1 hb with rfl | hb
      · exact hg
      · exact hgl b hb
theorem okS_list {α : Type} [Row α] [Sh α] {x : AV} (h : okS (.sl (Sh.ss α)) x) : ∃ l : List α, x = .lst l.length (encL l) ∧ (∀ a ∈ l, Sh.good a) ∧ l.length ≤ maxLen := by
  cases x <;> simp only [okS] at h
  rename_i n xs
  rw [Sh.len] at h
  obtain ⟨l, rfl, rfl, hg⟩ := rows_read (α := α) n xs h.2.1 h.2.2
  exact ⟨l, rfl, hg, h.1⟩
instance : Sh Int where
  ss := [.int .i64]
  good n := ok64 n
  len := rfl
  read xs h := by
    obtain ⟨x, xs, rfl, h0, h⟩ := okR_cons h
    obtain rfl := okR_nil h
    obtain ⟨n, rfl, b⟩ := okS_int h0
    exact ⟨n, rfl, b⟩
instance : Sh Word where
  ss := [.int .u64]
  good n := okW n.v
  len := rfl
  read xs h := by
    obtain ⟨x, xs, rfl, h0, h⟩ := okR_cons h
    obtain rfl := okR_nil h
    obtain ⟨n, rfl, b⟩ := okS_word h0
    exact ⟨⟨n⟩, rfl, b⟩
instance : Sh Span where
  ss := [.int .i64, .int .i64]
  good a := ok64 a.lo ∧ ok64 a.hi
  len := rfl
  read xs h := by
    obtain ⟨x0, xs, rfl, h0, h⟩ := okR_cons h
    obtain ⟨x1, xs, rfl, h1, h⟩ := okR_cons h
    obtain rfl := okR_nil h
    obtain ⟨v0, rfl, b0⟩ := okS_int h0
    obtain ⟨v1, rfl, b1⟩ := okS_int h1
    exact ⟨⟨v0, v1⟩, rfl, b0, b1⟩
instance : Sh Box where
  ss := [.int .i64, .int .i64, .int .i64, .int .i64, .int .i64, .int .i64, .int .i64, .int .i64, .int .i64, .int .i64]
  good a := ok64 a.s0.lo ∧ ok64 a.s0.hi ∧ ok64 a.s1.lo ∧ ok64 a.s1.hi ∧ ok64 a.s2.lo ∧ ok64 a.s2.hi ∧ ok64 a.s3.lo ∧ ok64 a.s3.hi ∧ ok64 a.s4.lo ∧ ok64 a.s4.hi
  len := rfl
  read xs h := by
    obtain ⟨x0, xs, rfl, h0, h⟩ := okR_cons h
    obtain ⟨x1, xs, rfl, h1, h⟩ := okR_cons h
    obtain ⟨x2, xs, rfl, h2, h⟩ := okR_cons h
    obtain ⟨x3, xs, rfl, h3, h⟩ := okR_cons h
    obtain ⟨x4, xs, rfl, h4, h⟩ := okR_cons h
    obtain ⟨x5, xs, rfl, h5, h⟩ := okR_cons h
    obtain ⟨x6, xs, rfl, h6, h⟩ := okR_cons h
    obtain ⟨x7, xs, rfl, h7, h⟩ := okR_cons h
    obtain ⟨x8, xs, rfl, h8, h⟩ := okR_cons h
    obtain ⟨x9, xs, rfl, h9, h⟩ := okR_cons h
    obtain rfl := okR_nil h
    obtain ⟨v0, rfl, b0⟩ := okS_int h0
    obtain ⟨v1, rfl, b1⟩ := okS_int h1
    obtain ⟨v2, rfl, b2⟩ := okS_int h2
    obtain ⟨v3, rfl, b3⟩ := okS_int h3
    obtain ⟨v4, rfl, b4⟩ := okS_int h4
    obtain ⟨v5, rfl, b5⟩ := okS_int h5
    obtain ⟨v6, rfl, b6⟩ := okS_int h6
    obtain ⟨v7, rfl, b7⟩ := okS_int h7
    obtain ⟨v8, rfl, b8⟩ := okS_int h8
    obtain ⟨v9, rfl, b9⟩ := okS_int h9
    exact ⟨⟨⟨v0, v1⟩, ⟨v2, v3⟩, ⟨v4, v5⟩, ⟨v6, v7⟩, ⟨v8, v9⟩⟩, rfl, b0, b1, b2, b3, b4, b5, b6, b7, b8, b9⟩
instance : Sh Point where
  ss := [.int .i64, .int .i64, .int .i64, .int .i64]
  good a := ok64 a.p0 ∧ ok64 a.p1 ∧ ok64 a.p2 ∧ ok64 a.p3
  len := rfl
  read xs h := by
    obtain ⟨x0, xs, rfl, h0, h⟩ := okR_cons h
    obtain ⟨x1, xs, rfl, h1, h⟩ := okR_cons h
    obtain ⟨x2, xs, rfl, h2, h⟩ := okR_cons h
    obtain ⟨x3, xs, rfl, h3, h⟩ := okR_cons h
    obtain rfl := okR_nil h
    obtain ⟨v0, rfl, b0⟩ := okS_int h0
    obtain ⟨v1, rfl, b1⟩ := okS_int h1
    obtain ⟨v2, rfl, b2⟩ := okS_int h2
    obtain ⟨v3, rfl, b3⟩ := okS_int h3
    exact ⟨⟨v0, v1, v2, v3⟩, rfl, b0, b1, b2, b3⟩
instance : Sh Bias where
  ss := [.int .i64, .int .i64, .int .i64]
  good a := ok64 a.b0 ∧ ok64 a.b1 ∧ ok64 a.b2
  len := rfl
  read xs h := by
    obtain ⟨x0, xs, rfl, h0, h⟩ := okR_cons h
    obtain ⟨x1, xs, rfl, h1, h⟩ := okR_cons h
    obtain ⟨x2, xs, rfl, h2, h⟩ := okR_cons h
    obtain rfl := okR_nil h
    obtain ⟨v0, rfl, b0⟩ := okS_int h0
    obtain ⟨v1, rfl, b1⟩ := okS_int h1
    obtain ⟨v2, rfl, b2⟩ := okS_int h2
    exact ⟨⟨v0, v1, v2⟩, rfl, b0, b1, b2⟩
instance : Sh Node where
  ss := [.bool, .int .i64, .int .i64, .int .i64, .int .i64, .int .i64]
  good a := True ∧ ok64 a.value ∧ ok64 a.feature ∧ ok64 a.cut ∧ ok64 a.left ∧ ok64 a.right
  len := rfl
  read xs h := by
    obtain ⟨x0, xs, rfl, h0, h⟩ := okR_cons h
    obtain ⟨x1, xs, rfl, h1, h⟩ := okR_cons h
    obtain ⟨x2, xs, rfl, h2, h⟩ := okR_cons h
    obtain ⟨x3, xs, rfl, h3, h⟩ := okR_cons h
    obtain ⟨x4, xs, rfl, h4, h⟩ := okR_cons h
    obtain ⟨x5, xs, rfl, h5, h⟩ := okR_cons h
    obtain rfl := okR_nil h
    obtain ⟨v0, rfl⟩ := okS_bool h0
    obtain ⟨v1, rfl, b1⟩ := okS_int h1
    obtain ⟨v2, rfl, b2⟩ := okS_int h2
    obtain ⟨v3, rfl, b3⟩ := okS_int h3
    obtain ⟨v4, rfl, b4⟩ := okS_int h4
    obtain ⟨v5, rfl, b5⟩ := okS_int h5
    exact ⟨⟨v0, v1, v2, v3, v4, v5⟩, rfl, trivial, b1, b2, b3, b4, b5⟩
instance : Sh Tree where
  ss := [.int .i64, .sl (Sh.ss Word)]
  good a := ok64 a.cls ∧ ((∀ x ∈ a.nodes, Sh.good x) ∧ a.nodes.length ≤ maxLen)
  len := rfl
  read xs h := by
    obtain ⟨x0, xs, rfl, h0, h⟩ := okR_cons h
    obtain ⟨x1, xs, rfl, h1, h⟩ := okR_cons h
    obtain rfl := okR_nil h
    obtain ⟨v0, rfl, b0⟩ := okS_int h0
    obtain ⟨v1, rfl, b1⟩ := okS_list (α := Word) h1
    exact ⟨⟨v0, v1⟩, rfl, b0, b1⟩
instance : Sh Model where
  ss := [.int .i64, .int .i64, .int .i64, .int .i64, .int .i64, .sl (Sh.ss Tree)]
  good a := ok64 a.dim ∧ ok64 a.classes ∧ ok64 a.bias.b0 ∧ ok64 a.bias.b1 ∧ ok64 a.bias.b2 ∧ ((∀ x ∈ a.trees, Sh.good x) ∧ a.trees.length ≤ maxLen)
  len := rfl
  read xs h := by
    obtain ⟨x0, xs, rfl, h0, h⟩ := okR_cons h
    obtain ⟨x1, xs, rfl, h1, h⟩ := okR_cons h
    obtain ⟨x2, xs, rfl, h2, h⟩ := okR_cons h
    obtain ⟨x3, xs, rfl, h3, h⟩ := okR_cons h
    obtain ⟨x4, xs, rfl, h4, h⟩ := okR_cons h
    obtain ⟨x5, xs, rfl, h5, h⟩ := okR_cons h
    obtain rfl := okR_nil h
    obtain ⟨v0, rfl, b0⟩ := okS_int h0
    obtain ⟨v1, rfl, b1⟩ := okS_int h1
    obtain ⟨v2, rfl, b2⟩ := okS_int h2
    obtain ⟨v3, rfl, b3⟩ := okS_int h3
    obtain ⟨v4, rfl, b4⟩ := okS_int h4
    obtain ⟨v5, rfl, b5⟩ := okS_list (α := Tree) h5
    exact ⟨⟨v0, v1, ⟨v2, v3, v4⟩, v5⟩, rfl, b0, b1, b2, b3, b4, b5⟩
instance : Sh Piece where
  ss := [.int .i64, .int .i64, .int .i64, .int .i64, .int .i64, .int .i64, .int .i64, .int .i64, .int .i64, .int .i64, .int .i64]
  good a := ok64 a.box.s0.lo ∧ ok64 a.box.s0.hi ∧ ok64 a.box.s1.lo ∧ ok64 a.box.s1.hi ∧ ok64 a.box.s2.lo ∧ ok64 a.box.s2.hi ∧ ok64 a.box.s3.lo ∧ ok64 a.box.s3.hi ∧ ok64 a.box.s4.lo ∧ ok64 a.box.s4.hi ∧ ok64 a.value
  len := rfl
  read xs h := by
    obtain ⟨x0, xs, rfl, h0, h⟩ := okR_cons h
    obtain ⟨x1, xs, rfl, h1, h⟩ := okR_cons h
    obtain ⟨x2, xs, rfl, h2, h⟩ := okR_cons h
    obtain ⟨x3, xs, rfl, h3, h⟩ := okR_cons h
    obtain ⟨x4, xs, rfl, h4, h⟩ := okR_cons h
    obtain ⟨x5, xs, rfl, h5, h⟩ := okR_cons h
    obtain ⟨x6, xs, rfl, h6, h⟩ := okR_cons h
    obtain ⟨x7, xs, rfl, h7, h⟩ := okR_cons h
    obtain ⟨x8, xs, rfl, h8, h⟩ := okR_cons h
    obtain ⟨x9, xs, rfl, h9, h⟩ := okR_cons h
    obtain ⟨x10, xs, rfl, h10, h⟩ := okR_cons h
    obtain rfl := okR_nil h
    obtain ⟨v0, rfl, b0⟩ := okS_int h0
    obtain ⟨v1, rfl, b1⟩ := okS_int h1
    obtain ⟨v2, rfl, b2⟩ := okS_int h2
    obtain ⟨v3, rfl, b3⟩ := okS_int h3
    obtain ⟨v4, rfl, b4⟩ := okS_int h4
    obtain ⟨v5, rfl, b5⟩ := okS_int h5
    obtain ⟨v6, rfl, b6⟩ := okS_int h6
    obtain ⟨v7, rfl, b7⟩ := okS_int h7
    obtain ⟨v8, rfl, b8⟩ := okS_int h8
    obtain ⟨v9, rfl, b9⟩ := okS_int h9
    obtain ⟨v10, rfl, b10⟩ := okS_int h10
    exact ⟨⟨⟨⟨v0, v1⟩, ⟨v2, v3⟩, ⟨v4, v5⟩, ⟨v6, v7⟩, ⟨v8, v9⟩⟩, v10⟩, rfl, b0, b1, b2, b3, b4, b5, b6, b7, b8, b9, b10⟩
instance : Sh Step where
  ss := [.bool, .int .i64, .int .i64]
  good a := True ∧ ok64 a.place ∧ ok64 a.cut
  len := rfl
  read xs h := by
    obtain ⟨x0, xs, rfl, h0, h⟩ := okR_cons h
    obtain ⟨x1, xs, rfl, h1, h⟩ := okR_cons h
    obtain ⟨x2, xs, rfl, h2, h⟩ := okR_cons h
    obtain rfl := okR_nil h
    obtain ⟨v0, rfl⟩ := okS_bool h0
    obtain ⟨v1, rfl, b1⟩ := okS_int h1
    obtain ⟨v2, rfl, b2⟩ := okS_int h2
    exact ⟨⟨v0, v1, v2⟩, rfl, trivial, b1, b2⟩
instance : Sh Query where
  ss := [.int .i64, .int .i64, .int .i64, .int .i64, .int .i64, .int .i64, .int .i64, .int .i64, .int .i64, .int .i64, .int .i64, .int .i64, .int .i64, .int .i64, .int .i64, .bool, .int .i64]
  good a := ok64 a.kind ∧ ok64 a.cls ∧ ok64 a.region.s0.lo ∧ ok64 a.region.s0.hi ∧ ok64 a.region.s1.lo ∧ ok64 a.region.s1.hi ∧ ok64 a.region.s2.lo ∧ ok64 a.region.s2.hi ∧ ok64 a.region.s3.lo ∧ ok64 a.region.s3.hi ∧ ok64 a.region.s4.lo ∧ ok64 a.region.s4.hi ∧ ok64 a.lo ∧ ok64 a.hi ∧ ok64 a.feature ∧ True ∧ ok64 a.budget
  len := rfl
  read xs h := by
    obtain ⟨x0, xs, rfl, h0, h⟩ := okR_cons h
    obtain ⟨x1, xs, rfl, h1, h⟩ := okR_cons h
    obtain ⟨x2, xs, rfl, h2, h⟩ := okR_cons h
    obtain ⟨x3, xs, rfl, h3, h⟩ := okR_cons h
    obtain ⟨x4, xs, rfl, h4, h⟩ := okR_cons h
    obtain ⟨x5, xs, rfl, h5, h⟩ := okR_cons h
    obtain ⟨x6, xs, rfl, h6, h⟩ := okR_cons h
    obtain ⟨x7, xs, rfl, h7, h⟩ := okR_cons h
    obtain ⟨x8, xs, rfl, h8, h⟩ := okR_cons h
    obtain ⟨x9, xs, rfl, h9, h⟩ := okR_cons h
    obtain ⟨x10, xs, rfl, h10, h⟩ := okR_cons h
    obtain ⟨x11, xs, rfl, h11, h⟩ := okR_cons h
    obtain ⟨x12, xs, rfl, h12, h⟩ := okR_cons h
    obtain ⟨x13, xs, rfl, h13, h⟩ := okR_cons h
    obtain ⟨x14, xs, rfl, h14, h⟩ := okR_cons h
    obtain ⟨x15, xs, rfl, h15, h⟩ := okR_cons h
    obtain ⟨x16, xs, rfl, h16, h⟩ := okR_cons h
    obtain rfl := okR_nil h
    obtain ⟨v0, rfl, b0⟩ := okS_int h0
    obtain ⟨v1, rfl, b1⟩ := okS_int h1
    obtain ⟨v2, rfl, b2⟩ := okS_int h2
    obtain ⟨v3, rfl, b3⟩ := okS_int h3
    obtain ⟨v4, rfl, b4⟩ := okS_int h4
    obtain ⟨v5, rfl, b5⟩ := okS_int h5
    obtain ⟨v6, rfl, b6⟩ := okS_int h6
    obtain ⟨v7, rfl, b7⟩ := okS_int h7
    obtain ⟨v8, rfl, b8⟩ := okS_int h8
    obtain ⟨v9, rfl, b9⟩ := okS_int h9
    obtain ⟨v10, rfl, b10⟩ := okS_int h10
    obtain ⟨v11, rfl, b11⟩ := okS_int h11
    obtain ⟨v12, rfl, b12⟩ := okS_int h12
    obtain ⟨v13, rfl, b13⟩ := okS_int h13
    obtain ⟨v14, rfl, b14⟩ := okS_int h14
    obtain ⟨v15, rfl⟩ := okS_bool h15
    obtain ⟨v16, rfl, b16⟩ := okS_int h16
    exact ⟨⟨v0, v1, ⟨⟨v2, v3⟩, ⟨v4, v5⟩, ⟨v6, v7⟩, ⟨v8, v9⟩, ⟨v10, v11⟩⟩, v12, v13, v14, v15, v16⟩, rfl, b0, b1, b2, b3, b4, b5, b6, b7, b8, b9, b10, b11, b12, b13, b14, trivial, b16⟩
instance : Sh Verdict where
  ss := [.int .i64, .sl (Sh.ss Step), .int .i64, .int .i64, .int .i64, .int .i64, .int .i64, .int .i64]
  good a := ok64 a.kind ∧ ((∀ x ∈ a.proof, Sh.good x) ∧ a.proof.length ≤ maxLen) ∧ ok64 a.witness.p0 ∧ ok64 a.witness.p1 ∧ ok64 a.witness.p2 ∧ ok64 a.witness.p3 ∧ ok64 a.twin ∧ ok64 a.spent
  len := rfl
  read xs h := by
    obtain ⟨x0, xs, rfl, h0, h⟩ := okR_cons h
    obtain ⟨x1, xs, rfl, h1, h⟩ := okR_cons h
    obtain ⟨x2, xs, rfl, h2, h⟩ := okR_cons h
    obtain ⟨x3, xs, rfl, h3, h⟩ := okR_cons h
    obtain ⟨x4, xs, rfl, h4, h⟩ := okR_cons h
    obtain ⟨x5, xs, rfl, h5, h⟩ := okR_cons h
    obtain ⟨x6, xs, rfl, h6, h⟩ := okR_cons h
    obtain ⟨x7, xs, rfl, h7, h⟩ := okR_cons h
    obtain rfl := okR_nil h
    obtain ⟨v0, rfl, b0⟩ := okS_int h0
    obtain ⟨v1, rfl, b1⟩ := okS_list (α := Step) h1
    obtain ⟨v2, rfl, b2⟩ := okS_int h2
    obtain ⟨v3, rfl, b3⟩ := okS_int h3
    obtain ⟨v4, rfl, b4⟩ := okS_int h4
    obtain ⟨v5, rfl, b5⟩ := okS_int h5
    obtain ⟨v6, rfl, b6⟩ := okS_int h6
    obtain ⟨v7, rfl, b7⟩ := okS_int h7
    exact ⟨⟨v0, v1, ⟨v2, v3, v4, v5⟩, v6, v7⟩, rfl, b0, b1, b2, b3, b4, b5, b6, b7⟩
instance : Sh KTree where
  ss := [.int .i64, .sl (Sh.ss Int), .sl (Sh.ss Int), .sl (Sh.ss Int), .sl (Sh.ss Int)]
  good a := ok64 a.cls ∧ ((∀ x ∈ a.part, Sh.good x) ∧ a.part.length ≤ maxLen) ∧ ((∀ x ∈ a.dir, Sh.good x) ∧ a.dir.length ≤ maxLen) ∧ ((∀ x ∈ a.cut, Sh.good x) ∧ a.cut.length ≤ maxLen) ∧ ((∀ x ∈ a.val, Sh.good x) ∧ a.val.length ≤ maxLen)
  len := rfl
  read xs h := by
    obtain ⟨x0, xs, rfl, h0, h⟩ := okR_cons h
    obtain ⟨x1, xs, rfl, h1, h⟩ := okR_cons h
    obtain ⟨x2, xs, rfl, h2, h⟩ := okR_cons h
    obtain ⟨x3, xs, rfl, h3, h⟩ := okR_cons h
    obtain ⟨x4, xs, rfl, h4, h⟩ := okR_cons h
    obtain rfl := okR_nil h
    obtain ⟨v0, rfl, b0⟩ := okS_int h0
    obtain ⟨v1, rfl, b1⟩ := okS_list (α := Int) h1
    obtain ⟨v2, rfl, b2⟩ := okS_list (α := Int) h2
    obtain ⟨v3, rfl, b3⟩ := okS_list (α := Int) h3
    obtain ⟨v4, rfl, b4⟩ := okS_list (α := Int) h4
    exact ⟨⟨v0, v1, v2, v3, v4⟩, rfl, b0, b1, b2, b3, b4⟩
instance : Sh Forest where
  ss := [.int .i64, .int .i64, .sl (Sh.ss Int), .sl (Sh.ss KTree)]
  good a := ok64 a.dim ∧ ok64 a.classes ∧ ((∀ x ∈ a.bias, Sh.good x) ∧ a.bias.length ≤ maxLen) ∧ ((∀ x ∈ a.trees, Sh.good x) ∧ a.trees.length ≤ maxLen)
  len := rfl
  read xs h := by
    obtain ⟨x0, xs, rfl, h0, h⟩ := okR_cons h
    obtain ⟨x1, xs, rfl, h1, h⟩ := okR_cons h
    obtain ⟨x2, xs, rfl, h2, h⟩ := okR_cons h
    obtain ⟨x3, xs, rfl, h3, h⟩ := okR_cons h
    obtain rfl := okR_nil h
    obtain ⟨v0, rfl, b0⟩ := okS_int h0
    obtain ⟨v1, rfl, b1⟩ := okS_int h1
    obtain ⟨v2, rfl, b2⟩ := okS_list (α := Int) h2
    obtain ⟨v3, rfl, b3⟩ := okS_list (α := KTree) h3
    exact ⟨⟨v0, v1, v2, v3⟩, rfl, b0, b1, b2, b3⟩
instance : Sh Ask where
  ss := [.int .i64, .int .i64, .int .i64, .int .i64, .int .i64, .int .i64, .bool, .sl (Sh.ss Int)]
  good a := ok64 a.kind ∧ ok64 a.cls ∧ ok64 a.lo ∧ ok64 a.size ∧ ok64 a.feature ∧ ok64 a.budget ∧ True ∧ ((∀ x ∈ a.spans, Sh.good x) ∧ a.spans.length ≤ maxLen)
  len := rfl
  read xs h := by
    obtain ⟨x0, xs, rfl, h0, h⟩ := okR_cons h
    obtain ⟨x1, xs, rfl, h1, h⟩ := okR_cons h
    obtain ⟨x2, xs, rfl, h2, h⟩ := okR_cons h
    obtain ⟨x3, xs, rfl, h3, h⟩ := okR_cons h
    obtain ⟨x4, xs, rfl, h4, h⟩ := okR_cons h
    obtain ⟨x5, xs, rfl, h5, h⟩ := okR_cons h
    obtain ⟨x6, xs, rfl, h6, h⟩ := okR_cons h
    obtain ⟨x7, xs, rfl, h7, h⟩ := okR_cons h
    obtain rfl := okR_nil h
    obtain ⟨v0, rfl, b0⟩ := okS_int h0
    obtain ⟨v1, rfl, b1⟩ := okS_int h1
    obtain ⟨v2, rfl, b2⟩ := okS_int h2
    obtain ⟨v3, rfl, b3⟩ := okS_int h3
    obtain ⟨v4, rfl, b4⟩ := okS_int h4
    obtain ⟨v5, rfl, b5⟩ := okS_int h5
    obtain ⟨v6, rfl⟩ := okS_bool h6
    obtain ⟨v7, rfl, b7⟩ := okS_list (α := Int) h7
    exact ⟨⟨v0, v1, v2, v3, v4, v5, v6, v7⟩, rfl, b0, b1, b2, b3, b4, b5, trivial, b7⟩
instance : Sh Cutting where
  ss := [.sl (Sh.ss Int), .sl (Sh.ss Int)]
  good a := ((∀ x ∈ a.place, Sh.good x) ∧ a.place.length ≤ maxLen) ∧ ((∀ x ∈ a.cut, Sh.good x) ∧ a.cut.length ≤ maxLen)
  len := rfl
  read xs h := by
    obtain ⟨x0, xs, rfl, h0, h⟩ := okR_cons h
    obtain ⟨x1, xs, rfl, h1, h⟩ := okR_cons h
    obtain rfl := okR_nil h
    obtain ⟨v0, rfl, b0⟩ := okS_list (α := Int) h0
    obtain ⟨v1, rfl, b1⟩ := okS_list (α := Int) h1
    exact ⟨⟨v0, v1⟩, rfl, b0, b1⟩
variable {P : Program} {t : TypeId} {x : AV}
theorem arg_agg {α : Type} [Row α] [Sh α] (h1 : isAggT P t = true) (h2 : shp P 20 t = some (Sh.ss α)) (h : argOk P t x) : ∃ a : α, x = .agg (Row.enc a) ∧ Sh.good a := by
  unfold argOk at h
  rw [h1] at h
  obtain ⟨xs, ss, rfl, hs, hr⟩ := h
  rw [h2] at hs
  cases hs
  obtain ⟨a, rfl, hg⟩ := Sh.read _ hr
  exact ⟨a, rfl, hg⟩
theorem arg_cell {s : Shp} (h1 : isAggT P t = false) (h2 : shp P 20 t = some [s]) (h : argOk P t x) : okS s x := by
  unfold argOk at h
  rw [h1] at h
  obtain ⟨s', hs, hr⟩ := h
  rw [h2] at hs
  cases hs
  exact hr
theorem arg_int (h1 : isAggT P t = false) (h2 : shp P 20 t = some [.int .i64]) (h : argOk P t x) : ∃ n, x = .int .i64 n ∧ ok64 n := okS_int (arg_cell h1 h2 h)
theorem arg_list {α : Type} [Row α] [Sh α] (h1 : isAggT P t = false) (h2 : shp P 20 t = some [.sl (Sh.ss α)]) (h : argOk P t x) : ∃ l : List α, x = .lst l.length (encL l) ∧ (∀ a ∈ l, Sh.good a) ∧ l.length ≤ maxLen := okS_list (arg_cell h1 h2 h)
theorem argsOk_cons {t : TypeId} {ts : List TypeId} {xs : List AV} (h : argsOk P (t :: ts) xs) : ∃ x ys, xs = x :: ys ∧ argOk P t x ∧ argsOk P ts ys := by
  cases xs with
  | nil => simp [argsOk] at h
  | cons x xs => simp only [argsOk] at h; exact ⟨x, xs, rfl, h.1, h.2⟩
theorem argsOk_nil {xs : List AV} (h : argsOk P [] xs) : xs = [] := by
  cases xs with
  | nil => rfl
  | cons x xs => simp [argsOk] at h
end Go.Co
/- CO: pieces that meet, groups, levels. -/
namespace Go.Co
open Go.Am
set_option linter.unusedSimpArgs false
set_option linter.unusedVariables false
instance rowList {α : Type} [Row α] : Row (List α) where
  sz := 1
  enc l := [.lst l.length (encL l)]
  dec xs := match xs with
    | [.lst n ys] => decL α n ys
    | _ => none
  pos := by decide
  len _ := rfl
  dec_enc l := decL_encL l
  enc_dec xs a h := by
    split at h
    · obtain ⟨h1, h2⟩ := decL_some _ _ _ h
      rw [h1, h2]
    · cases h
@[simp] theorem enc_rowList {α : Type} [Row α] (l : List α) : Row.enc l = [.lst l.length (encL l)] := rfl
@[simp] theorem sz_rowList {α : Type} [Row α] : Row.sz (List α) = 1 := rfl
instance {α : Type} [Row α] : Cells (List α) := ⟨fun _ => rfl⟩
def meetB (a b : Box) : Box := ⟨meetS a.s0 b.s0, meetS a.s1 b.s1, meetS a.s2 b.s2, meetS a.s3 b.s3, meetS a.s4 b.s4⟩
def meetF (x y : Piece) : Option Piece := if (meetB x.box y.box).empty then none else some ⟨meetB x.box y.box, x.value + y.value⟩
def row (x : Piece) (b : List Piece) : List Piece := b.filterMap (meetF x)
def smallG (k : Nat) (gs : List (List Piece)) : Prop := ∀ g ∈ gs, (∀ x ∈ g, -(2 : Int) ^ k ≤ x.value ∧ x.value ≤ (2 : Int) ^ k) ∧ g.length ≤ 1073741824
theorem pow_up {j k : Nat} (h : j ≤ k) : (2 : Int) ^ j ≤ 2 ^ k := by
  have : (2 : Nat) ^ j ≤ 2 ^ k := Nat.pow_le_pow_right (by omega) h
  exact_mod_cast this
theorem smallG.up {j k : Nat} (h : j ≤ k) {gs : List (List Piece)} (hs : smallG j gs) : smallG k gs := by
  intro g hg
  refine ⟨fun x hx => ?_, (hs g hg).2⟩
  have h1 := (hs g hg).1 x hx
  have h2 := pow_up h
  omega
end Go.Co
/- CO: what breaks in a cell breaks at its corner; parts of a region. -/
namespace Go.Co
open Go.Am Go.Proofs
set_option linter.unusedSimpArgs false
set_option linter.unusedVariables false
attribute [-simp] Go.Am.eff_gcall
instance {α : Type} [Row α] [Sh α] : Sh (List α) where
  ss := [.sl (Sh.ss α)]
  good l := (∀ a ∈ l, Sh.good a) ∧ l.length ≤ maxLen
  len := rfl
  read xs h := by
    obtain ⟨x0, xs, rfl, h0, h⟩ := okR_cons h
    obtain rfl := okR_nil h
    obtain ⟨l, rfl, hg, hl⟩ := okS_list h0
    exact ⟨l, rfl, hg, hl⟩
/-! ### has, within -/
end Go.Co
/- CO: pairs. -/
namespace Go.Co
open Go.Am Go.Proofs
set_option linter.unusedSimpArgs false
set_option linter.unusedVariables false
end Go.Co
/- CO: what changes of pairs are. -/
namespace Go.Co
open Go.Am Go.Proofs
set_option linter.unusedSimpArgs false
set_option linter.unusedVariables false
end Go.Co
/- CO: do sums show what is asked within a box? where is it cut? -/
namespace Go.Co
open Go.Am Go.Proofs
set_option linter.unusedSimpArgs false
set_option linter.unusedVariables false
attribute [-simp] Go.Am.eff_gcall
/-! ### points of one cell -/
/-! ### closed boxes -/
def ahead (m : Model) (c : Int) (b : Box) : Prop := ∀ o : Int, 0 ≤ o → o < m.classes → o ≠ c → 0 < marD m c b o
/-! ### where a box is cut -/
end Go.Co
