/- CO: the cells of a box; does a query hold? -/
import Derived.Test.YtbjnmbbhlaghaaaCoCe
import Derived.Test.YtbjnmbbhlaghaaaCoK
namespace Go.Co
open Go.Am Go.Proofs
set_option linter.unusedSimpArgs false
set_option linter.unusedVariables false
attribute [-simp] Go.Am.eff_gcall
def c103_0 : ACode := .ops [⟨some 4, .box (.t 0) 6, none, []⟩,
  ⟨some 5, .box (.t 1) 17, none, []⟩,
  ⟨some 6, .box (.t 2) 10, none, []⟩,
  ⟨some 8, .mv (.c (.nils)), none, []⟩,
  ⟨some 9, .mv (.c (.bool false)), none, []⟩] [3, 4, 5, 6]
theorem r103_0 : type_of% (@rr _ _ c103_0.eq_1) := rr c103_0.eq_1
def c103_1 : ACode := .ops [⟨some 22, .load 6 true (.t 4), none, [4]⟩,
  ⟨some 23, .load 17 true (.t 5), none, [5]⟩,
  ⟨some 24, .load 10 true (.t 6), none, [6]⟩,
  ⟨some 25, .mv (.t 3), none, []⟩,
  ⟨some 26, .call 100 [.t 22, .t 23, .t 24, .t 25], none, []⟩,
  ⟨some 21, .mv (.t 26), none, []⟩,
  ⟨some 27, .ext (.t 21) 0, none, []⟩,
  ⟨some 28, .ext (.t 21) 1, none, []⟩,
  ⟨some 10, .mv (.t 27), none, []⟩,
  ⟨some 11, .mv (.t 28), none, []⟩] [4, 5, 6, 11]
theorem r103_1 : type_of% (@rr _ _ c103_1.eq_1) := rr c103_1.eq_1
def c103_2 : ACode := .ops [⟨some 29, .mv (.t 11), none, []⟩,
  ⟨some 30, .un .not (.t 29), none, []⟩] [4, 5, 6, 30]
theorem r103_2 : type_of% (@rr _ _ c103_2.eq_1) := rr c103_2.eq_1
def c103_3 : ACode := .ops [⟨some 8, .mv (.c (.nils)), none, []⟩,
  ⟨some 9, .mv (.c (.bool false)), none, []⟩] [8, 9]
theorem r103_3 : type_of% (@rr _ _ c103_3.eq_1) := rr c103_3.eq_1
def c103_4 : ACode := .seq c103_3 .ret
theorem r103_4 : type_of% (@rr _ _ c103_4.eq_1) := rr c103_4.eq_1
def c103_5 : ACode := .cond (.t 30) c103_4 .skip
theorem r103_5 : type_of% (@rr _ _ c103_5.eq_1) := rr c103_5.eq_1
def c103_6 : ACode := .seq c103_2 c103_5
theorem r103_6 : type_of% (@rr _ _ c103_6.eq_1) := rr c103_6.eq_1
def c103_7 : ACode := .seq c103_1 c103_6
theorem r103_7 : type_of% (@rr _ _ c103_7.eq_1) := rr c103_7.eq_1
def c103_8 : ACode := .ops [⟨some 31, .load 10 true (.t 6), none, [6]⟩,
  ⟨some 32, .mkrow 12 1 10 [.int .i64 0, .int .i64 0, .int .i64 0, .int .i64 0, .int .i64 0, .int .i64 0, .int .i64 0, .int .i64 0, .int .i64 0, .int .i64 0] [(0, 10, .t 31)], none, []⟩,
  ⟨some 12, .mv (.t 32), none, []⟩] [4, 5, 6, 12]
theorem r103_8 : type_of% (@rr _ _ c103_8.eq_1) := rr c103_8.eq_1
def c103_9 : ACode := .ops [⟨some 33, .mv (.c (.int .i64 0)), none, []⟩] [4, 5, 6, 12, 33]
theorem r103_9 : type_of% (@rr _ _ c103_9.eq_1) := rr c103_9.eq_1
def c103_10 : ACode := .ops [⟨some 34, .bin .lss (.t 33) (.c (.int .i64 5)), none, []⟩] [4, 5, 6, 12, 33, 34]
theorem r103_10 : type_of% (@rr _ _ c103_10.eq_1) := rr c103_10.eq_1
def c103_11 : ACode := .cond (.t 34) .skip (.exit 0)
theorem r103_11 : type_of% (@rr _ _ c103_11.eq_1) := rr c103_11.eq_1
def c103_12 : ACode := .ops [⟨some 35, .mv (.t 33), none, []⟩,
  ⟨some 13, .mv (.t 35), none, []⟩] [4, 5, 6, 12, 13, 33]
theorem r103_12 : type_of% (@rr _ _ c103_12.eq_1) := rr c103_12.eq_1
def c103_13 : ACode := .ops [⟨some 36, .load 6 true (.t 4), none, [4]⟩,
  ⟨some 37, .load 17 true (.t 5), none, [5]⟩,
  ⟨some 38, .load 10 true (.t 6), none, [6]⟩,
  ⟨some 39, .mv (.t 13), none, []⟩,
  ⟨some 40, .call 102 [.t 36, .t 37, .t 38, .t 39], none, []⟩,
  ⟨some 14, .mv (.t 40), none, []⟩] [4, 5, 6, 12, 13, 14, 33]
theorem r103_13 : type_of% (@rr _ _ c103_13.eq_1) := rr c103_13.eq_1
def c103_14 : ACode := .ops [⟨some 15, .nil0 15 10, none, []⟩] [4, 5, 6, 12, 13, 14, 15, 33]
theorem r103_14 : type_of% (@rr _ _ c103_14.eq_1) := rr c103_14.eq_1
def c103_15 : ACode := .ops [⟨some 41, .mv (.t 12), none, []⟩,
  ⟨some 42, .len (.t 41), none, [12]⟩,
  ⟨some 43, .mv (.c (.int .i64 0)), none, []⟩] [4, 5, 6, 13, 14, 15, 33, 41, 42, 43]
theorem r103_15 : type_of% (@rr _ _ c103_15.eq_1) := rr c103_15.eq_1
def c103_16 : ACode := .ops [⟨some 44, .bin .lss (.t 43) (.t 42), none, []⟩] [4, 5, 6, 13, 14, 15, 33, 41, 42, 43, 44]
theorem r103_16 : type_of% (@rr _ _ c103_16.eq_1) := rr c103_16.eq_1
def c103_17 : ACode := .cond (.t 44) .skip (.exit 2)
theorem r103_17 : type_of% (@rr _ _ c103_17.eq_1) := rr c103_17.eq_1
def c103_18 : ACode := .ops [⟨some 45, .ias (.t 41) (.t 43) 10, none, [12]⟩,
  ⟨some 46, .load 10 true (.t 45), none, [12]⟩,
  ⟨some 17, .alloc [.int .i64 0, .int .i64 0, .int .i64 0, .int .i64 0, .int .i64 0, .int .i64 0, .int .i64 0, .int .i64 0, .int .i64 0, .int .i64 0], none, []⟩,
  ⟨none, .store (.t 17) 10 (.t 46), none, [17]⟩] [4, 5, 6, 13, 14, 15, 17, 33, 41, 42, 43]
theorem r103_18 : type_of% (@rr _ _ c103_18.eq_1) := rr c103_18.eq_1
def c103_19 : ACode := .ops [⟨some 47, .mv (.t 14), none, []⟩,
  ⟨some 48, .len (.t 47), none, []⟩,
  ⟨some 49, .mv (.c (.int .i64 0)), none, []⟩] [4, 5, 6, 13, 14, 15, 17, 33, 41, 42, 43, 47, 48, 49]
theorem r103_19 : type_of% (@rr _ _ c103_19.eq_1) := rr c103_19.eq_1
def c103_20 : ACode := .ops [⟨some 50, .bin .lss (.t 49) (.t 48), none, []⟩] [4, 5, 6, 13, 14, 15, 17, 33, 41, 42, 43, 47, 48, 49, 50]
theorem r103_20 : type_of% (@rr _ _ c103_20.eq_1) := rr c103_20.eq_1
def c103_21 : ACode := .cond (.t 50) .skip (.exit 4)
theorem r103_21 : type_of% (@rr _ _ c103_21.eq_1) := rr c103_21.eq_1
def c103_22 : ACode := .ops [⟨some 51, .ias (.t 47) (.t 49) 1, none, []⟩,
  ⟨some 52, .load 1 false (.t 51), none, []⟩,
  ⟨some 19, .mv (.t 52), none, []⟩] [4, 5, 6, 13, 14, 15, 17, 19, 33, 41, 42, 43, 47, 48, 49]
theorem r103_22 : type_of% (@rr _ _ c103_22.eq_1) := rr c103_22.eq_1
def c103_23 : ACode := .ops [⟨some 20, .alloc [.int .i64 0, .int .i64 0, .int .i64 0, .int .i64 0, .int .i64 0, .int .i64 0, .int .i64 0, .int .i64 0, .int .i64 0, .int .i64 0], none, []⟩] [4, 5, 6, 13, 14, 15, 17, 19, 20, 33, 41, 42, 43, 47, 48, 49]
theorem r103_23 : type_of% (@rr _ _ c103_23.eq_1) := rr c103_23.eq_1
def c103_24 : ACode := .ops [⟨some 54, .load 10 true (.t 17), none, [17]⟩,
  ⟨some 55, .mv (.t 13), none, []⟩,
  ⟨some 56, .mv (.t 19), none, []⟩,
  ⟨some 57, .call 67 [.t 54, .t 55, .t 56], none, []⟩,
  ⟨some 53, .mv (.t 57), none, []⟩,
  ⟨some 58, .ext (.t 53) 0, none, []⟩,
  ⟨some 59, .ext (.t 53) 1, none, []⟩,
  ⟨none, .store (.t 20) 10 (.t 58), none, [20]⟩,
  ⟨none, .store (.t 17) 10 (.t 59), none, [17]⟩] [4, 5, 6, 13, 14, 15, 17, 20, 33, 41, 42, 43, 47, 48, 49]
theorem r103_24 : type_of% (@rr _ _ c103_24.eq_1) := rr c103_24.eq_1
def c103_25 : ACode := .ops [⟨some 60, .mv (.t 15), none, []⟩,
  ⟨some 61, .load 10 true (.t 20), none, [20]⟩,
  ⟨some 62, .mkrow 62 1 10 [.int .i64 0, .int .i64 0, .int .i64 0, .int .i64 0, .int .i64 0, .int .i64 0, .int .i64 0, .int .i64 0, .int .i64 0, .int .i64 0] [(0, 10, .t 61)], none, []⟩,
  ⟨some 63, .app 15 [15] (.t 60) (.t 62) 10, none, [15, 62]⟩,
  ⟨some 15, .mv (.t 63), none, []⟩] [4, 5, 6, 13, 14, 15, 17, 33, 41, 42, 43, 47, 48, 49]
theorem r103_25 : type_of% (@rr _ _ c103_25.eq_1) := rr c103_25.eq_1
def c103_26 : ACode := .seq c103_24 c103_25
theorem r103_26 : type_of% (@rr _ _ c103_26.eq_1) := rr c103_26.eq_1
def c103_27 : ACode := .seq c103_23 c103_26
theorem r103_27 : type_of% (@rr _ _ c103_27.eq_1) := rr c103_27.eq_1
def c103_28 : ACode := .seq c103_22 c103_27
theorem r103_28 : type_of% (@rr _ _ c103_28.eq_1) := rr c103_28.eq_1
def c103_29 : ACode := .block 5 c103_28
theorem r103_29 : type_of% (@rr _ _ c103_29.eq_1) := rr c103_29.eq_1
def c103_30 : ACode := .ops [⟨some 64, .bin .add (.t 49) (.c (.int .i64 1)), none, []⟩,
  ⟨some 49, .mv (.t 64), none, []⟩] [4, 5, 6, 13, 14, 15, 17, 33, 41, 42, 43, 47, 48, 49]
theorem r103_30 : type_of% (@rr _ _ c103_30.eq_1) := rr c103_30.eq_1
def c103_31 : ACode := .seq c103_29 c103_30
theorem r103_31 : type_of% (@rr _ _ c103_31.eq_1) := rr c103_31.eq_1
def c103_32 : ACode := .seq c103_21 c103_31
theorem r103_32 : type_of% (@rr _ _ c103_32.eq_1) := rr c103_32.eq_1
def c103_33 : ACode := .seq c103_20 c103_32
theorem r103_33 : type_of% (@rr _ _ c103_33.eq_1) := rr c103_33.eq_1
def c103_34 : ACode := .keep [4, 5, 6, 13, 14, 15, 17, 33, 41, 42, 43, 47, 48, 49] [4, 5, 6, 12, 15, 17] c103_33
theorem r103_34 : type_of% (@rr _ _ c103_34.eq_1) := rr c103_34.eq_1
def c103_35 : ACode := .loop c103_34
theorem r103_35 : type_of% (@rr _ _ c103_35.eq_1) := rr c103_35.eq_1
def c103_36 : ACode := .block 4 c103_35
theorem r103_36 : type_of% (@rr _ _ c103_36.eq_1) := rr c103_36.eq_1
def c103_37 : ACode := .seq c103_19 c103_36
theorem r103_37 : type_of% (@rr _ _ c103_37.eq_1) := rr c103_37.eq_1
def c103_38 : ACode := .ops [⟨some 65, .mv (.t 15), none, []⟩,
  ⟨some 66, .load 10 true (.t 17), none, [17]⟩,
  ⟨some 67, .mkrow 67 1 10 [.int .i64 0, .int .i64 0, .int .i64 0, .int .i64 0, .int .i64 0, .int .i64 0, .int .i64 0, .int .i64 0, .int .i64 0, .int .i64 0] [(0, 10, .t 66)], none, []⟩,
  ⟨some 68, .app 15 [15] (.t 65) (.t 67) 10, none, [15, 67]⟩,
  ⟨some 15, .mv (.t 68), none, []⟩] [4, 5, 6, 13, 14, 15, 33, 41, 42, 43]
theorem r103_38 : type_of% (@rr _ _ c103_38.eq_1) := rr c103_38.eq_1
def c103_39 : ACode := .seq c103_37 c103_38
theorem r103_39 : type_of% (@rr _ _ c103_39.eq_1) := rr c103_39.eq_1
def c103_40 : ACode := .seq c103_18 c103_39
theorem r103_40 : type_of% (@rr _ _ c103_40.eq_1) := rr c103_40.eq_1
def c103_41 : ACode := .block 3 c103_40
theorem r103_41 : type_of% (@rr _ _ c103_41.eq_1) := rr c103_41.eq_1
def c103_42 : ACode := .ops [⟨some 69, .bin .add (.t 43) (.c (.int .i64 1)), none, []⟩,
  ⟨some 43, .mv (.t 69), none, []⟩] [4, 5, 6, 13, 14, 15, 33, 41, 42, 43]
theorem r103_42 : type_of% (@rr _ _ c103_42.eq_1) := rr c103_42.eq_1
def c103_43 : ACode := .seq c103_41 c103_42
theorem r103_43 : type_of% (@rr _ _ c103_43.eq_1) := rr c103_43.eq_1
def c103_44 : ACode := .seq c103_17 c103_43
theorem r103_44 : type_of% (@rr _ _ c103_44.eq_1) := rr c103_44.eq_1
def c103_45 : ACode := .seq c103_16 c103_44
theorem r103_45 : type_of% (@rr _ _ c103_45.eq_1) := rr c103_45.eq_1
def c103_46 : ACode := .keep [4, 5, 6, 13, 14, 15, 33, 41, 42, 43] [4, 5, 6, 12, 15] c103_45
theorem r103_46 : type_of% (@rr _ _ c103_46.eq_1) := rr c103_46.eq_1
def c103_47 : ACode := .loop c103_46
theorem r103_47 : type_of% (@rr _ _ c103_47.eq_1) := rr c103_47.eq_1
def c103_48 : ACode := .block 2 c103_47
theorem r103_48 : type_of% (@rr _ _ c103_48.eq_1) := rr c103_48.eq_1
def c103_49 : ACode := .seq c103_15 c103_48
theorem r103_49 : type_of% (@rr _ _ c103_49.eq_1) := rr c103_49.eq_1
def c103_50 : ACode := .ops [⟨some 70, .mv (.t 15), none, []⟩,
  ⟨some 12, .frz (.t 70), none, [15]⟩] [4, 5, 6, 12, 33]
theorem r103_50 : type_of% (@rr _ _ c103_50.eq_1) := rr c103_50.eq_1
def c103_51 : ACode := .seq c103_49 c103_50
theorem r103_51 : type_of% (@rr _ _ c103_51.eq_1) := rr c103_51.eq_1
def c103_52 : ACode := .seq c103_14 c103_51
theorem r103_52 : type_of% (@rr _ _ c103_52.eq_1) := rr c103_52.eq_1
def c103_53 : ACode := .seq c103_13 c103_52
theorem r103_53 : type_of% (@rr _ _ c103_53.eq_1) := rr c103_53.eq_1
def c103_54 : ACode := .seq c103_12 c103_53
theorem r103_54 : type_of% (@rr _ _ c103_54.eq_1) := rr c103_54.eq_1
def c103_55 : ACode := .block 1 c103_54
theorem r103_55 : type_of% (@rr _ _ c103_55.eq_1) := rr c103_55.eq_1
def c103_56 : ACode := .ops [⟨some 71, .bin .add (.t 33) (.c (.int .i64 1)), none, []⟩,
  ⟨some 33, .mv (.t 71), none, []⟩] [4, 5, 6, 12, 33]
theorem r103_56 : type_of% (@rr _ _ c103_56.eq_1) := rr c103_56.eq_1
def c103_57 : ACode := .seq c103_55 c103_56
theorem r103_57 : type_of% (@rr _ _ c103_57.eq_1) := rr c103_57.eq_1
def c103_58 : ACode := .seq c103_11 c103_57
theorem r103_58 : type_of% (@rr _ _ c103_58.eq_1) := rr c103_58.eq_1
def c103_59 : ACode := .seq c103_10 c103_58
theorem r103_59 : type_of% (@rr _ _ c103_59.eq_1) := rr c103_59.eq_1
def c103_60 : ACode := .keep [4, 5, 6, 12, 33] [4, 5, 6, 12] c103_59
theorem r103_60 : type_of% (@rr _ _ c103_60.eq_1) := rr c103_60.eq_1
def c103_61 : ACode := .loop c103_60
theorem r103_61 : type_of% (@rr _ _ c103_61.eq_1) := rr c103_61.eq_1
def c103_62 : ACode := .block 0 c103_61
theorem r103_62 : type_of% (@rr _ _ c103_62.eq_1) := rr c103_62.eq_1
def c103_63 : ACode := .seq c103_9 c103_62
theorem r103_63 : type_of% (@rr _ _ c103_63.eq_1) := rr c103_63.eq_1
def c103_64 : ACode := .ops [⟨some 72, .mv (.t 12), none, []⟩,
  ⟨some 8, .mv (.t 72), none, []⟩,
  ⟨some 9, .mv (.c (.bool true)), none, []⟩] [8, 9]
theorem r103_64 : type_of% (@rr _ _ c103_64.eq_1) := rr c103_64.eq_1
def c103_65 : ACode := .seq c103_64 .ret
theorem r103_65 : type_of% (@rr _ _ c103_65.eq_1) := rr c103_65.eq_1
def c103_66 : ACode := .seq c103_63 c103_65
theorem r103_66 : type_of% (@rr _ _ c103_66.eq_1) := rr c103_66.eq_1
def c103_67 : ACode := .seq c103_8 c103_66
theorem r103_67 : type_of% (@rr _ _ c103_67.eq_1) := rr c103_67.eq_1
def c103_68 : ACode := .seq c103_7 c103_67
theorem r103_68 : type_of% (@rr _ _ c103_68.eq_1) := rr c103_68.eq_1
def c103_69 : ACode := .seq c103_0 c103_68
theorem r103_69 : type_of% (@rr _ _ c103_69.eq_1) := rr c103_69.eq_1
def a103 : AFun := ⟨4, 73, c103_69, [.t 8, .t 9]⟩
attribute [simp] r103_0 r103_1 r103_2 r103_3 r103_4 r103_5 r103_6 r103_7 r103_8 r103_9 r103_10 r103_11 r103_12 r103_13 r103_14 r103_15 r103_16 r103_17 r103_18 r103_19 r103_20 r103_21 r103_22 r103_23 r103_24 r103_25 r103_26 r103_27 r103_28 r103_29 r103_30 r103_31 r103_32 r103_33 r103_34 r103_35 r103_36 r103_37 r103_38 r103_39 r103_40 r103_41 r103_42 r103_43 r103_44 r103_45 r103_46 r103_47 r103_48 r103_49 r103_50 r103_51 r103_52 r103_53 r103_54 r103_55 r103_56 r103_57 r103_58 r103_59 r103_60 r103_61 r103_62 r103_63 r103_64 r103_65 r103_66 r103_67 r103_68 r103_69
theorem m103 : mFun Try.prog Try.f103 a103 = true := by decide +kernel
def c151_0 : ACode := .ops [⟨some 1, .box (.t 0) 10, none, []⟩,
  ⟨some 2, .alloc [.int .i64 0, .int .i64 0, .int .i64 0, .int .i64 0], none, []⟩] [1, 2]
def c151_1 : ACode := .ops [⟨some 3, .alloc [.int .i64 0, .int .i64 0, .int .i64 0, .int .i64 0], none, []⟩] [1, 2, 3]
def c151_2 : ACode := .ops [⟨some 5, .mv (.c (.int .i64 0)), none, []⟩] [1, 2, 3, 5]
def c151_3 : ACode := .ops [⟨some 6, .bin .lss (.t 5) (.c (.int .i64 4)), none, []⟩] [1, 2, 3, 5, 6]
def c151_4 : ACode := .cond (.t 6) .skip (.exit 0)
def c151_5 : ACode := .ops [⟨some 7, .mv (.t 5), none, []⟩,
  ⟨some 4, .mv (.t 7), none, []⟩] [1, 2, 3, 4, 5]
def c151_6 : ACode := .ops [⟨some 8, .mv (.t 4), none, []⟩,
  ⟨some 9, .mv (.t 4), none, []⟩,
  ⟨some 10, .iad (.t 1) (.t 9) 2 5, none, [1]⟩,
  ⟨some 11, .fad (.t 10) 0, none, [1]⟩,
  ⟨some 12, .load 1 false (.t 11), none, [1]⟩,
  ⟨some 13, .iad (.t 3) (.t 8) 1 4, none, [3]⟩,
  ⟨none, .store (.t 13) 1 (.t 12), none, [3]⟩] [1, 2, 3, 5]
def c151_7 : ACode := .seq c151_5 c151_6
def c151_8 : ACode := .block 1 c151_7
def c151_9 : ACode := .ops [⟨some 14, .bin .add (.t 5) (.c (.int .i64 1)), none, []⟩,
  ⟨some 5, .mv (.t 14), none, []⟩] [1, 2, 3, 5]
def c151_10 : ACode := .seq c151_8 c151_9
def c151_11 : ACode := .seq c151_4 c151_10
def c151_12 : ACode := .seq c151_3 c151_11
def c151_13 : ACode := .keep [1, 2, 3, 5] [1, 2, 3] c151_12
def c151_14 : ACode := .loop c151_13
def c151_15 : ACode := .block 0 c151_14
def c151_16 : ACode := .seq c151_2 c151_15
def c151_17 : ACode := .ops [⟨some 15, .load 4 true (.t 3), none, [3]⟩,
  ⟨none, .store (.t 2) 4 (.t 15), none, [2]⟩] [2]
def c151_18 : ACode := .seq c151_17 .ret
def c151_19 : ACode := .seq c151_16 c151_18
def c151_20 : ACode := .seq c151_1 c151_19
def c151_21 : ACode := .seq c151_0 c151_20
def a151 : AFun := ⟨1, 16, c151_21, [.cell 2 4 true]⟩
theorem m151 : mFun Try.prog Try.f151 a151 = true := by decide +kernel
def c150_0 : ACode := .ops [⟨some 3, .box (.t 0) 10, none, []⟩,
  ⟨some 4, .mv (.c (.bool false)), none, []⟩] [1, 2, 3]
def c150_1 : ACode := .ops [⟨some 5, .load 6 true (.t 1), none, []⟩,
  ⟨some 6, .load 17 true (.t 2), none, []⟩,
  ⟨some 7, .load 10 true (.t 3), none, [3]⟩,
  ⟨some 8, .call 151 [.t 7], none, []⟩,
  ⟨some 9, .iad (.t 3) (.c (.int .i64 4)) 2 5, none, [3]⟩,
  ⟨some 10, .fad (.t 9) 1, none, [3]⟩,
  ⟨some 11, .load 1 false (.t 10), none, [3]⟩,
  ⟨some 12, .call 57 [.t 5, .t 6, .t 8, .t 11], none, []⟩,
  ⟨some 4, .mv (.t 12), none, []⟩] [4]
def c150_2 : ACode := .seq c150_1 .ret
def c150_3 : ACode := .seq c150_0 c150_2
def a150 : AFun := ⟨3, 13, c150_3, [.t 4]⟩
theorem m150 : mFun Try.prog Try.f150 a150 = true := by decide +kernel
def c174_0 : ACode := .ops [⟨some 4, .mv (.c (.int .i64 0)), none, []⟩] [0, 1]
def c174_1 : ACode := .ops [⟨some 6, .mv (.t 0), none, []⟩,
  ⟨some 7, .len (.t 6), none, []⟩,
  ⟨some 8, .mv (.c (.int .i64 0)), none, []⟩] [0, 1, 7, 8]
def c174_2 : ACode := .ops [⟨some 9, .bin .lss (.t 8) (.t 7), none, []⟩] [0, 1, 7, 8, 9]
def c174_3 : ACode := .cond (.t 9) .skip (.exit 0)
def c174_4 : ACode := .ops [⟨some 10, .mv (.t 8), none, []⟩,
  ⟨some 5, .mv (.t 10), none, []⟩] [0, 1, 5, 7, 8]
def c174_5 : ACode := .ops [⟨some 11, .mv (.t 1), none, []⟩,
  ⟨some 12, .mv (.t 0), none, []⟩,
  ⟨some 13, .mv (.t 5), none, []⟩,
  ⟨some 14, .ias (.t 12) (.t 13) 10, none, []⟩,
  ⟨some 15, .load 10 true (.t 14), none, []⟩,
  ⟨some 16, .dyn (.t 11) [.t 15], none, []⟩] [0, 1, 5, 7, 8, 16]
def c174_6 : ACode := .ops [⟨some 17, .mv (.t 5), none, []⟩,
  ⟨some 4, .mv (.t 17), none, []⟩] [4]
def c174_7 : ACode := .seq c174_6 .ret
def c174_8 : ACode := .cond (.t 16) c174_7 .skip
def c174_9 : ACode := .seq c174_5 c174_8
def c174_10 : ACode := .seq c174_4 c174_9
def c174_11 : ACode := .block 1 c174_10
def c174_12 : ACode := .ops [⟨some 18, .bin .add (.t 8) (.c (.int .i64 1)), none, []⟩,
  ⟨some 8, .mv (.t 18), none, []⟩] [0, 1, 7, 8]
def c174_13 : ACode := .seq c174_11 c174_12
def c174_14 : ACode := .seq c174_3 c174_13
def c174_15 : ACode := .seq c174_2 c174_14
def c174_16 : ACode := .keep [0, 1, 7, 8] [] c174_15
def c174_17 : ACode := .loop c174_16
def c174_18 : ACode := .block 0 c174_17
def c174_19 : ACode := .seq c174_1 c174_18
def c174_20 : ACode := .ops [⟨some 4, .mv (.c (.int .i64 (-1))), none, []⟩] [4]
def c174_21 : ACode := .seq c174_20 .ret
def c174_22 : ACode := .seq c174_19 c174_21
def c174_23 : ACode := .seq c174_0 c174_22
def a174 : AFun := ⟨2, 19, c174_23, [.t 4]⟩
theorem m174 : mFun Try.prog Try.f174 a174 = true := by decide +kernel
def c149_0 : ACode := .ops [⟨some 4, .mv (.c (.bool false)), none, []⟩] [0, 1]
def c149_1 : ACode := .ops [⟨some 5, .mv (.t 0), none, []⟩,
  ⟨some 6, .mv (.t 1), none, []⟩,
  ⟨some 7, .call 174 [.t 5, .t 6], none, []⟩,
  ⟨some 8, .bin .geq (.t 7) (.c (.int .i64 0)), none, []⟩,
  ⟨some 4, .mv (.t 8), none, []⟩] [4]
def c149_2 : ACode := .seq c149_1 .ret
def c149_3 : ACode := .seq c149_0 c149_2
def a149 : AFun := ⟨2, 9, c149_3, [.t 4]⟩
theorem m149 : mFun Try.prog Try.f149 a149 = true := by decide +kernel
def c101_0 : ACode := .ops [⟨some 3, .box (.t 0) 6, none, []⟩,
  ⟨some 4, .box (.t 1) 17, none, []⟩,
  ⟨some 6, .mv (.c (.bool false)), none, []⟩,
  ⟨some 7, .mv (.c (.bool false)), none, []⟩] [2, 3, 4]
def c101_1 : ACode := .ops [⟨some 11, .load 6 true (.t 3), none, [3]⟩,
  ⟨some 12, .load 17 true (.t 4), none, [4]⟩,
  ⟨some 13, .load 17 true (.t 4), none, [4]⟩,
  ⟨some 14, .call 58 [.t 13], none, []⟩,
  ⟨some 15, .mv (.t 2), none, []⟩,
  ⟨some 16, .call 103 [.t 11, .t 12, .t 14, .t 15], none, []⟩,
  ⟨some 10, .mv (.t 16), none, []⟩,
  ⟨some 17, .ext (.t 10) 0, none, []⟩,
  ⟨some 18, .ext (.t 10) 1, none, []⟩,
  ⟨some 8, .mv (.t 17), none, []⟩,
  ⟨some 9, .mv (.t 18), none, []⟩] [3, 4, 8, 9]
def c101_2 : ACode := .ops [⟨some 19, .mv (.t 9), none, []⟩,
  ⟨some 20, .un .not (.t 19), none, []⟩] [3, 4, 8, 20]
def c101_3 : ACode := .ops [⟨some 6, .mv (.c (.bool false)), none, []⟩,
  ⟨some 7, .mv (.c (.bool false)), none, []⟩] [6, 7]
def c101_4 : ACode := .seq c101_3 .ret
def c101_5 : ACode := .cond (.t 20) c101_4 .skip
def c101_6 : ACode := .seq c101_2 c101_5
def c101_7 : ACode := .ops [⟨some 21, .mv (.t 8), none, []⟩,
  ⟨some 22, .clo 150 [.t 3, .t 4], none, [3, 4]⟩,
  ⟨some 23, .call 149 [.t 21, .t 22], none, []⟩,
  ⟨some 24, .un .not (.t 23), none, []⟩,
  ⟨some 6, .mv (.t 24), none, []⟩,
  ⟨some 7, .mv (.c (.bool true)), none, []⟩] [6, 7]
def c101_8 : ACode := .seq c101_7 .ret
def c101_9 : ACode := .seq c101_6 c101_8
def c101_10 : ACode := .seq c101_1 c101_9
def c101_11 : ACode := .seq c101_0 c101_10
def a101 : AFun := ⟨3, 25, c101_11, [.t 6, .t 7]⟩
theorem m101 : mFun Try.prog Try.f101 a101 = true := by decide +kernel
def doneC (k : Int) (ts : List Int) (L : List Box) (j : Nat) : List Box := (L.take j).flatMap (splitC k ts)
theorem doneC_succ (k : Int) (ts : List Int) (L : List Box) {j : Nat} (h : j < L.length) : doneC k ts L (j + 1) = doneC k ts L j ++ splitC k ts L[j] := by
  unfold doneC
  rw [List.take_succ_eq_append_getElem h, List.flatMap_append]
  simp
theorem doneC_le (k : Int) (ts : List Int) (L : List Box) (j : Nat) : (doneC k ts L j).length ≤ (L.flatMap (splitC k ts)).length := by
  unfold doneC
  rw [flat_len, flat_len]
  exact Nat.mul_le_mul_right _ (List.length_take_le' j L)
theorem lenB (l : List Box) : l.length * 10 ≤ (encL l).length := by rw [encL_length]; exact Nat.le_refl _
theorem takeB (l : List Box) : List.take (l.length * 10) (encL l) = encL l := by rw [List.take_of_length_le]; rw [encL_length]; exact Nat.le_refl _
theorem encL_snocB (X : List Box) (c : Box) : encL (X ++ [c]) = encL X ++ [.int .i64 c.s0.lo, .int .i64 c.s0.hi, .int .i64 c.s1.lo, .int .i64 c.s1.hi, .int .i64 c.s2.lo, .int .i64 c.s2.hi, .int .i64 c.s3.lo, .int .i64 c.s3.hi, .int .i64 c.s4.lo, .int .i64 c.s4.hi] := by rw [encL_append]; rfl
noncomputable def CellsC (m : Model) (q : Query) (b : Box) (most : Int) : Option (List Box × Bool) := Part (RM m ∧ okB b ∧ most ≤ 1000000) (if countM m q b ≤ most then (stageC m q b 5, true) else ([], false))
set_option maxHeartbeats 4000000 in
set_option maxRecDepth 8000 in
theorem runs_Cells (m : Model) (q : Query) (b : Box) (most : Int) (r : List Box × Bool) (h : CellsC m q b most = some r) : Runs (tbl [(100, sp4 CountC), (102, sp4 CutsC), (67, sp3 CutB)]) a103 [Arg.enc m, Arg.enc q, Arg.enc b, Arg.enc most] (Arg.enc r) := by
  obtain ⟨⟨hm, hb, hmost⟩, rfl⟩ := part_some h
  clear h
  refine ⟨rfl, fun g => run_def ?_⟩
  unfold a103
  have hC : CountC m q b most = some (if countM m q b ≤ most then (countM m q b, true) else (0, false)) := part_of hm _
  by_cases hc : countM m q b ≤ most
  case neg =>
    rw [if_neg hc] at hC ⊢
    simp -implicitDefEqProofs [hC, encL_nil]
  rw [if_pos hc] at hC ⊢
  simp -implicitDefEqProofs [hC]
  refine run_while (c := c103_59) (fun n s => ∃ (p : Nat) (V : AV) (g : Nat → Nat), p + n = 5 ∧ ((p = 0 ∧ V = .own 12 (g 12) 0 1 ∧ stageC m q b p = [b]) ∨ V = .lst (stageC m q b p).length (encL (stageC m q b p))) ∧ s = ⟨[(4, .ptr 4 (g 4) 0), (5, .ptr 5 (g 5) 0), (6, .ptr 6 (g 6) 0), (12, V), (33, .int .i64 p)],
    [(4, ⟨Row.enc m, false, 0⟩), (5, ⟨Row.enc q, false, 0⟩), (6, ⟨Row.enc b, false, 0⟩), (12, ⟨encL [b], false, 10⟩)], g⟩) 5 ⟨0, .own 12 (bump 12 (bump 6 (bump 5 (bump 4 g))) 12) 0 1, bump 12 (bump 6 (bump 5 (bump 4 g))), by omega, by simp [stageC], by simp [encL]⟩ ?_
  rintro n s ⟨p, V, g, hp, hV, rfl⟩
  have hsl := stage_count hm q b (j := p)
  by_cases h1 : p < 5
  case neg =>
    have hp5 : p = 5 := by omega
    subst hp5
    have hV' : V = .lst (stageC m q b 5).length (encL (stageC m q b 5)) := by
      rcases hV with ⟨h, _⟩ | h
      · cases h
      · exact h
    subst hV'
    simp -implicitDefEqProofs []
  have w1 : IntKind.i64.wrap ((p : Int) + 1) = (p : Int) + 1 := wrap64 (by omega) (by omega)
  have hK : CutsC m q b p = some (cutsL m q b p) := part_of ⟨hm, .inr ⟨by omega, by omega⟩⟩ _
  have hkl : (cutsL m q b p).length ≤ 248 := by rw [cutsL_len]; exact cutN_le hm q b p
  have hS : stageC m q b (p + 1) = (stageC m q b p).flatMap (splitC p (cutsL m q b p)) := rfl
  have hSl := stage_count hm q b (j := p + 1)
  have hok := stage_ok hm hb (q := q) p
  have htk := cuts_ok hm (q := q) (b := b) (i := p)
  have hsl := hsl (by omega)
  have hSl := hSl (by omega)
  have h1i : (p : Int) < 5 := by omega
  have p0 : (0 : Int) ≤ p := by omega
  have m1 : 1 ≤ maxN := by decide
  generalize hSe : stageC m q b (p + 1) = S at *
  generalize stageC m q b p = L at *
  generalize cutsL m q b p = ts at *
  have b1 : ts.length ≤ maxN := by unfold maxN; omega
  have b2 : L.length ≤ maxN := by unfold maxN; omega
  rcases hV with ⟨_, rfl, rfl⟩ | rfl
  · simp -implicitDefEqProofs [h1i, hK, m1, b2]
    refine run_while (c := c103_45) (fun n s => ∃ (j : Nat) (g' : Nat → Nat), j + n = 1 ∧ g' 12 = g 12 ∧ s = ⟨[(4, .ptr 4 (g' 4) 0), (5, .ptr 5 (g' 5) 0), (6, .ptr 6 (g' 6) 0), (13, .int .i64 p), (14, .lst ts.length (encL ts)), (15, .own 15 (g' 15) 0 (doneC p ts [b] j).length), (33, .int .i64 p), (41, .own 12 (g 12) 0 1), (42, .int .i64 1), (43, .int .i64 j)],
      [(4, ⟨Row.enc m, false, 0⟩), (5, ⟨Row.enc q, false, 0⟩), (6, ⟨Row.enc b, false, 0⟩), (12, ⟨encL [b], false, 10⟩), (15, ⟨encL (doneC p ts [b] j), false, 10⟩)], g'⟩) 1 ⟨0, bump 15 g, by omega, by simp, by simp [encL_nil, doneC]⟩ ?_
    rintro n2 s ⟨j, g', hj, hg, rfl⟩
    have hDl := doneC_le p ts [b] j
    rw [← hS] at hDl
    have nn0 : (doneC p ts [b] j).length ≤ maxN := by unfold maxN; omega
    by_cases h2 : j < 1
    case neg =>
      have hj1 : j = 1 := by omega
      subst hj1
      have hD : doneC p ts [b] 1 = S := by rw [hS]; unfold doneC; simp
      have h2i : ¬ ((1 : Int) < 1) := by omega
      rw [hD]
      simp -implicitDefEqProofs [w1, h2i, lenB, takeB]
      exact ⟨n - 1, by omega, p + 1, by omega, .inr ⟨⟨by rw [hSe], by rw [hSe]⟩, by omega⟩⟩
    case pos =>
      have h2i : (j : Int) < 1 := by omega
      have hrow := rd_box [b] j (by simpa using h2)
      have hcj : okB ([b][j]'(by simpa using h2)) := hok _ (List.getElem_mem _)
      have hD := doneC_succ p ts [b] (j := j) (by simpa using h2)
      have hDl' := doneC_le p ts [b] (j + 1)
      rw [← hS, hD, List.length_append] at hDl'
      generalize [b][j]'(by simpa using h2) = c0 at *
      have w2 : IntKind.i64.wrap ((j : Int) + 1) = (j : Int) + 1 := wrap64 (by omega) (by omega)
      generalize hD1 : doneC p ts [b] (j + 1) = D1 at *
      generalize doneC p ts [b] j = D0 at *
      simp -implicitDefEqProofs [h2, h2i, hg, hrow, b1]
      refine run_while (c := c103_33) (fun n s => ∃ (i : Nat) (c' : Box) (pre : List Box) (g'' : Nat → Nat), i + n = ts.length ∧ okB c' ∧ pre.length = i ∧ pre ++ splitC p (ts.drop i) c' = splitC p ts c0 ∧ g'' 12 = g 12 ∧ s = ⟨[(4, .ptr 4 (g'' 4) 0), (5, .ptr 5 (g'' 5) 0), (6, .ptr 6 (g'' 6) 0), (13, .int .i64 p), (14, .lst ts.length (encL ts)), (15, .own 15 (g'' 15) 0 (D0 ++ pre).length), (17, .ptr 17 (g'' 17) 0), (33, .int .i64 p), (41, .own 12 (g 12) 0 1), (42, .int .i64 1), (43, .int .i64 j), (47, .lst ts.length (encL ts)), (48, .int .i64 ts.length), (49, .int .i64 i)],
        [(4, ⟨Row.enc m, false, 0⟩), (5, ⟨Row.enc q, false, 0⟩), (6, ⟨Row.enc b, false, 0⟩), (12, ⟨encL [b], false, 10⟩), (15, ⟨encL (D0 ++ pre), false, 10⟩), (17, ⟨Row.enc c', false, 0⟩)], g''⟩) ts.length ⟨0, c0, [], bump 17 g', by omega, hcj, rfl, by simp, by simp [hg], by simp⟩ ?_
      rintro n3 s ⟨i, c', pre, g'', hi, hc', hpl, hsp, hg'', rfl⟩
      have nn : (D0 ++ pre).length ≤ maxN := by rw [List.length_append]; unfold maxN; omega
      have nn2 : (D0 ++ pre).length ≤ 1099511627775 := by rw [List.length_append]; omega
      have w3 : IntKind.i64.wrap ((i : Int) + 1) = (i : Int) + 1 := wrap64 (by omega) (by omega)
      generalize hX : D0 ++ pre = X at *
      by_cases h3 : i < ts.length
      case pos =>
        have hrd := rd_ints ts i h3
        have hCu := cutB_of hc' p (htk _ (List.getElem_mem h3))
        have hok2 := okB_cut hc' p (htk _ (List.getElem_mem h3))
        rw [List.drop_eq_getElem_cons h3, splitC] at hsp
        generalize cutB c' p ts[i] = z at *
        obtain ⟨x, y⟩ := z
        simp only at hsp hok2
        simp -implicitDefEqProofs [h3, hrd, hCu, w3, nn, nn2, lenB, takeB]
        exact ⟨n3 - 1, by omega, i + 1, by omega, y, hok2.2, pre ++ [x], by simp [hpl], by simpa using hsp, bump 15 (bump 62 (bump 20 g'')), by simp [hg''], ⟨by simp, by simp, by simp, ⟨by simp, by rw [← hX]; simp; omega⟩, by simp, by omega⟩, ⟨by rw [← List.append_assoc, hX, encL_snocB], rfl, rfl, rfl, rfl, rfl, rfl, rfl, rfl, rfl, rfl⟩, rfl⟩
      case neg =>
        have hi3 : i = ts.length := by omega
        subst hi3
        rw [List.drop_length, splitC] at hsp
        simp -implicitDefEqProofs [h3, w2, nn, nn2, lenB, takeB]
        have hDf : doneC p ts [b] (j + 1) = X ++ [c'] := by rw [hD1, hD, ← hsp, ← List.append_assoc, hX]
        exact ⟨n2 - 1, by omega, j + 1, by omega, bump 15 (bump 67 g''), by simp [hg''], ⟨by simp, by simp, by simp, ⟨by simp, by rw [hDf]; simp⟩, by omega⟩, by rw [hDf, encL_snocB], rfl⟩
  · simp -implicitDefEqProofs [h1i, hK, m1, b2]
    refine run_while (c := c103_45) (fun n s => ∃ (j : Nat) (g' : Nat → Nat), j + n = L.length ∧ g' 12 = g 12 ∧ s = ⟨[(4, .ptr 4 (g' 4) 0), (5, .ptr 5 (g' 5) 0), (6, .ptr 6 (g' 6) 0), (13, .int .i64 p), (14, .lst ts.length (encL ts)), (15, .own 15 (g' 15) 0 (doneC p ts L j).length), (33, .int .i64 p), (41, .lst L.length (encL L)), (42, .int .i64 L.length), (43, .int .i64 j)],
      [(4, ⟨Row.enc m, false, 0⟩), (5, ⟨Row.enc q, false, 0⟩), (6, ⟨Row.enc b, false, 0⟩), (12, ⟨encL [b], false, 10⟩), (15, ⟨encL (doneC p ts L j), false, 10⟩)], g'⟩) L.length ⟨0, bump 15 g, by omega, by simp, by simp [encL_nil, doneC]⟩ ?_
    rintro n2 s ⟨j, g', hj, hg, rfl⟩
    have hDl := doneC_le p ts L j
    rw [← hS] at hDl
    have nn0 : (doneC p ts L j).length ≤ maxN := by unfold maxN; omega
    by_cases h2 : j < L.length
    case neg =>
      have hj1 : j = L.length := by omega
      subst hj1
      have hD : doneC p ts L L.length = S := by rw [hS]; unfold doneC; simp
      have h2i : ¬ ((L.length : Int) < L.length) := by omega
      rw [hD]
      simp -implicitDefEqProofs [w1, h2i, lenB, takeB]
      exact ⟨n - 1, by omega, p + 1, by omega, .inr ⟨⟨by rw [hSe], by rw [hSe]⟩, by omega⟩⟩
    case pos =>
      have h2i : (j : Int) < L.length := by omega
      have hrow := rd_box L j (by simpa using h2)
      have hcj : okB (L[j]'(by simpa using h2)) := hok _ (List.getElem_mem _)
      have hD := doneC_succ p ts L (j := j) (by simpa using h2)
      have hDl' := doneC_le p ts L (j + 1)
      rw [← hS, hD, List.length_append] at hDl'
      generalize L[j]'(by simpa using h2) = c0 at *
      have w2 : IntKind.i64.wrap ((j : Int) + 1) = (j : Int) + 1 := wrap64 (by omega) (by omega)
      generalize hD1 : doneC p ts L (j + 1) = D1 at *
      generalize doneC p ts L j = D0 at *
      simp -implicitDefEqProofs [h2, h2i, hg, hrow, b1]
      refine run_while (c := c103_33) (fun n s => ∃ (i : Nat) (c' : Box) (pre : List Box) (g'' : Nat → Nat), i + n = ts.length ∧ okB c' ∧ pre.length = i ∧ pre ++ splitC p (ts.drop i) c' = splitC p ts c0 ∧ g'' 12 = g 12 ∧ s = ⟨[(4, .ptr 4 (g'' 4) 0), (5, .ptr 5 (g'' 5) 0), (6, .ptr 6 (g'' 6) 0), (13, .int .i64 p), (14, .lst ts.length (encL ts)), (15, .own 15 (g'' 15) 0 (D0 ++ pre).length), (17, .ptr 17 (g'' 17) 0), (33, .int .i64 p), (41, .lst L.length (encL L)), (42, .int .i64 L.length), (43, .int .i64 j), (47, .lst ts.length (encL ts)), (48, .int .i64 ts.length), (49, .int .i64 i)],
        [(4, ⟨Row.enc m, false, 0⟩), (5, ⟨Row.enc q, false, 0⟩), (6, ⟨Row.enc b, false, 0⟩), (12, ⟨encL [b], false, 10⟩), (15, ⟨encL (D0 ++ pre), false, 10⟩), (17, ⟨Row.enc c', false, 0⟩)], g''⟩) ts.length ⟨0, c0, [], bump 17 g', by omega, hcj, rfl, by simp, by simp [hg], by simp⟩ ?_
      rintro n3 s ⟨i, c', pre, g'', hi, hc', hpl, hsp, hg'', rfl⟩
      have nn : (D0 ++ pre).length ≤ maxN := by rw [List.length_append]; unfold maxN; omega
      have nn2 : (D0 ++ pre).length ≤ 1099511627775 := by rw [List.length_append]; omega
      have w3 : IntKind.i64.wrap ((i : Int) + 1) = (i : Int) + 1 := wrap64 (by omega) (by omega)
      generalize hX : D0 ++ pre = X at *
      by_cases h3 : i < ts.length
      case pos =>
        have hrd := rd_ints ts i h3
        have hCu := cutB_of hc' p (htk _ (List.getElem_mem h3))
        have hok2 := okB_cut hc' p (htk _ (List.getElem_mem h3))
        rw [List.drop_eq_getElem_cons h3, splitC] at hsp
        generalize cutB c' p ts[i] = z at *
        obtain ⟨x, y⟩ := z
        simp only at hsp hok2
        simp -implicitDefEqProofs [h3, hrd, hCu, w3, nn, nn2, lenB, takeB]
        exact ⟨n3 - 1, by omega, i + 1, by omega, y, hok2.2, pre ++ [x], by simp [hpl], by simpa using hsp, bump 15 (bump 62 (bump 20 g'')), by simp [hg''], ⟨by simp, by simp, by simp, ⟨by simp, by rw [← hX]; simp; omega⟩, by simp, by omega⟩, ⟨by rw [← List.append_assoc, hX, encL_snocB], rfl, rfl, rfl, rfl, rfl, rfl, rfl, rfl, rfl, rfl⟩, rfl⟩
      case neg =>
        have hi3 : i = ts.length := by omega
        subst hi3
        rw [List.drop_length, splitC] at hsp
        simp -implicitDefEqProofs [h3, w2, nn, nn2, lenB, takeB]
        have hDf : doneC p ts L (j + 1) = X ++ [c'] := by rw [hD1, hD, ← hsp, ← List.append_assoc, hX]
        exact ⟨n2 - 1, by omega, j + 1, by omega, bump 15 (bump 67 g''), by simp [hg''], ⟨by simp, by simp, by simp, ⟨by simp, by rw [hDf]; simp⟩, by omega⟩, by rw [hDf, encL_snocB], rfl⟩
theorem c_Cells : Contract Try.prog 103 (sp4 CellsC) :=
  contract_of_runs mixed (tbl_cons c_Count (tbl_cons c_Cuts (tbl_cons c_bCut tbl_nil))) Try.func103 m103 (sp4_runs runs_Cells)
def corner (m : Model) (q : Query) (b : Box) : Bool := breaks m q (lowB b) b.s4.hi
@[simp] theorem dec_ref_query (q : Query) : (Arg.dec (.ipt 0 [.int .i64 q.kind, .int .i64 q.cls, .int .i64 q.region.s0.lo, .int .i64 q.region.s0.hi, .int .i64 q.region.s1.lo, .int .i64 q.region.s1.hi, .int .i64 q.region.s2.lo, .int .i64 q.region.s2.hi, .int .i64 q.region.s3.lo, .int .i64 q.region.s3.hi, .int .i64 q.region.s4.lo, .int .i64 q.region.s4.hi, .int .i64 q.lo, .int .i64 q.hi, .int .i64 q.feature, .bool q.falls, .int .i64 q.budget]) : Option (Ref Query)) = some ⟨q⟩ := Arg.dec_enc (⟨q⟩ : Ref Query)
structure CloH where
  m : Model
  q : Query
instance : Arg CloH where
  enc r := .clo 150 [.ipt 0 (Row.enc r.m), .ipt 0 (Row.enc r.q)]
  dec x := match x with
    | .clo f [.ipt 0 xs, .ipt 0 ys] => if f = 150 then (Row.dec xs).bind fun m => (Row.dec ys).map fun q => CloH.mk m q else none
    | _ => none
  dec_enc r := by simp only [if_true, Row.dec_enc]; rfl
  enc_dec x r h := by
    split at h
    · split at h
      · rename_i he
        rw [Option.bind_eq_some_iff] at h
        obtain ⟨a, ha, h⟩ := h
        rw [Option.map_eq_some_iff] at h
        obtain ⟨c, hc, rfl⟩ := h
        rw [Row.enc_dec _ _ ha, Row.enc_dec _ _ hc, he]
      · cases h
    · cases h
@[simp] theorem enc_cloh (r : CloH) : Arg.enc r = .clo 150 [.ipt 0 (Row.enc r.m), .ipt 0 (Row.enc r.q)] := rfl
@[simp] theorem dec_cloh (m : Model) (q : Query) : (Arg.dec (.clo 150 [.ipt 0 [.int .i64 m.dim, .int .i64 m.classes, .int .i64 m.bias.b0, .int .i64 m.bias.b1, .int .i64 m.bias.b2, .lst m.trees.length (encL m.trees)], .ipt 0 [.int .i64 q.kind, .int .i64 q.cls, .int .i64 q.region.s0.lo, .int .i64 q.region.s0.hi, .int .i64 q.region.s1.lo, .int .i64 q.region.s1.hi, .int .i64 q.region.s2.lo, .int .i64 q.region.s2.hi, .int .i64 q.region.s3.lo, .int .i64 q.region.s3.hi, .int .i64 q.region.s4.lo, .int .i64 q.region.s4.hi, .int .i64 q.lo, .int .i64 q.hi, .int .i64 q.feature, .bool q.falls, .int .i64 q.budget]]) : Option CloH) = some ⟨m, q⟩ := Arg.dec_enc (⟨m, q⟩ : CloH)
end Go.Co
