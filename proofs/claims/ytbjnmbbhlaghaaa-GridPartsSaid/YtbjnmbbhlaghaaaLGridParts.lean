/- The law GridParts: what its text computes. -/
import Derived.Test.YtbjnmbbhlaghaaaCoHq
import Derived.Test.YtbjnmbbhlaghaaaCoH
import Derived.Test.YtbjnmbbhlaghaaaCoLib
import Derived.Test.YtbjnmbbhlaghaaaCoSh
namespace Go.Co
open Go.Am Go.Proofs
set_option linter.unusedSimpArgs false
set_option linter.unusedVariables false
attribute [-simp] Go.Am.eff_gcall
def c41_0 : ACode := .ops [⟨some 4, .box (.t 0) 4, none, []⟩,
  ⟨some 5, .box (.t 1) 8, none, []⟩,
  ⟨some 8, .mv (.c (.bool false)), none, []⟩] [2, 3, 4, 5]
theorem r41_0 : type_of% (@rr _ _ c41_0.eq_1) := rr c41_0.eq_1
def c41_1 : ACode := .ops [⟨some 22, .load 4 true (.t 4), none, [4]⟩,
  ⟨some 23, .call 45 [.t 22], none, []⟩,
  ⟨some 9, .alloc [.int .i64 0, .int .i64 0, .int .i64 0, .int .i64 0, .int .i64 0, .nils], none, []⟩,
  ⟨none, .store (.t 9) 6 (.t 23), none, [9]⟩] [2, 3, 5, 9]
theorem r41_1 : type_of% (@rr _ _ c41_1.eq_1) := rr c41_1.eq_1
def c41_2 : ACode := .ops [⟨some 24, .load 8 true (.t 5), none, [5]⟩,
  ⟨some 25, .load 6 true (.t 9), none, [9]⟩,
  ⟨some 26, .call 59 [.t 24, .t 25], none, []⟩,
  ⟨some 10, .alloc [.int .i64 0, .int .i64 0, .int .i64 0, .int .i64 0, .int .i64 0, .int .i64 0, .int .i64 0, .int .i64 0, .int .i64 0, .int .i64 0, .int .i64 0, .int .i64 0, .int .i64 0, .int .i64 0, .int .i64 0, .bool false, .int .i64 0], none, []⟩,
  ⟨none, .store (.t 10) 17 (.t 26), none, [10]⟩] [2, 3, 9, 10]
theorem r41_2 : type_of% (@rr _ _ c41_2.eq_1) := rr c41_2.eq_1
def c41_3 : ACode := .ops [⟨some 27, .load 17 true (.t 10), none, [10]⟩,
  ⟨some 28, .call 58 [.t 27], none, []⟩,
  ⟨some 11, .alloc [.int .i64 0, .int .i64 0, .int .i64 0, .int .i64 0, .int .i64 0, .int .i64 0, .int .i64 0, .int .i64 0, .int .i64 0, .int .i64 0], none, []⟩,
  ⟨none, .store (.t 11) 10 (.t 28), none, [11]⟩] [2, 3, 9, 10, 11]
theorem r41_3 : type_of% (@rr _ _ c41_3.eq_1) := rr c41_3.eq_1
def c41_4 : ACode := .ops [⟨some 30, .load 6 true (.t 9), none, [9]⟩,
  ⟨some 31, .load 17 true (.t 10), none, [10]⟩,
  ⟨some 32, .load 10 true (.t 11), none, [11]⟩,
  ⟨some 33, .call 103 [.t 30, .t 31, .t 32, .c (.int .i64 600)], none, []⟩,
  ⟨some 29, .mv (.t 33), none, []⟩,
  ⟨some 34, .ext (.t 29) 0, none, []⟩,
  ⟨some 35, .ext (.t 29) 1, none, []⟩,
  ⟨some 12, .mv (.t 34), none, []⟩,
  ⟨some 13, .mv (.t 35), none, []⟩] [2, 3, 9, 10, 11, 12, 13]
theorem r41_4 : type_of% (@rr _ _ c41_4.eq_1) := rr c41_4.eq_1
def c41_5 : ACode := .ops [⟨some 36, .mv (.t 13), none, []⟩,
  ⟨some 37, .un .not (.t 36), none, []⟩] [2, 3, 9, 10, 11, 12, 37]
theorem r41_5 : type_of% (@rr _ _ c41_5.eq_1) := rr c41_5.eq_1
def c41_6 : ACode := .ops [⟨some 38, .call 37 [], none, []⟩,
  ⟨some 8, .mv (.t 38), none, []⟩] [8]
theorem r41_6 : type_of% (@rr _ _ c41_6.eq_1) := rr c41_6.eq_1
def c41_7 : ACode := .seq c41_6 .ret
theorem r41_7 : type_of% (@rr _ _ c41_7.eq_1) := rr c41_7.eq_1
def c41_8 : ACode := .cond (.t 37) c41_7 .skip
theorem r41_8 : type_of% (@rr _ _ c41_8.eq_1) := rr c41_8.eq_1
def c41_9 : ACode := .seq c41_5 c41_8
theorem r41_9 : type_of% (@rr _ _ c41_9.eq_1) := rr c41_9.eq_1
def c41_10 : ACode := .ops [⟨some 39, .load 10 true (.t 11), none, [11]⟩,
  ⟨some 40, .mv (.t 2), none, []⟩,
  ⟨some 41, .call 66 [.t 39, .t 40], none, []⟩,
  ⟨some 14, .alloc [.int .i64 0, .int .i64 0, .int .i64 0, .int .i64 0], none, []⟩,
  ⟨none, .store (.t 14) 4 (.t 41), none, [14]⟩] [2, 3, 9, 10, 11, 12, 14]
theorem r41_10 : type_of% (@rr _ _ c41_10.eq_1) := rr c41_10.eq_1
def c41_11 : ACode := .ops [⟨some 42, .mv (.t 2), none, []⟩,
  ⟨some 43, .len (.t 42), none, []⟩,
  ⟨some 44, .iad (.t 11) (.c (.int .i64 4)) 2 5, none, [11]⟩,
  ⟨some 45, .fad (.t 44) 0, none, [11]⟩,
  ⟨some 46, .load 1 false (.t 45), none, [11]⟩,
  ⟨some 47, .iad (.t 11) (.c (.int .i64 4)) 2 5, none, [11]⟩,
  ⟨some 48, .fad (.t 47) 1, none, [11]⟩,
  ⟨some 49, .load 1 false (.t 48), none, [11]⟩,
  ⟨some 50, .call 63 [.t 43, .t 46, .t 49], none, []⟩,
  ⟨some 15, .mv (.t 50), none, []⟩] [3, 9, 10, 11, 12, 14, 15]
theorem r41_11 : type_of% (@rr _ _ c41_11.eq_1) := rr c41_11.eq_1
def c41_12 : ACode := .ops [⟨some 16, .mv (.c (.int .i64 0)), none, []⟩] [3, 9, 10, 11, 12, 14, 15, 16]
theorem r41_12 : type_of% (@rr _ _ c41_12.eq_1) := rr c41_12.eq_1
def c41_13 : ACode := .ops [⟨some 51, .mv (.t 12), none, []⟩,
  ⟨some 52, .len (.t 51), none, []⟩,
  ⟨some 53, .mv (.c (.int .i64 0)), none, []⟩] [3, 9, 10, 11, 14, 15, 16, 51, 52, 53]
theorem r41_13 : type_of% (@rr _ _ c41_13.eq_1) := rr c41_13.eq_1
def c41_14 : ACode := .ops [⟨some 54, .bin .lss (.t 53) (.t 52), none, []⟩] [3, 9, 10, 11, 14, 15, 16, 51, 52, 53, 54]
theorem r41_14 : type_of% (@rr _ _ c41_14.eq_1) := rr c41_14.eq_1
def c41_15 : ACode := .cond (.t 54) .skip (.exit 0)
theorem r41_15 : type_of% (@rr _ _ c41_15.eq_1) := rr c41_15.eq_1
def c41_16 : ACode := .ops [⟨some 55, .ias (.t 51) (.t 53) 10, none, []⟩,
  ⟨some 56, .load 10 true (.t 55), none, []⟩,
  ⟨some 18, .alloc [.int .i64 0, .int .i64 0, .int .i64 0, .int .i64 0, .int .i64 0, .int .i64 0, .int .i64 0, .int .i64 0, .int .i64 0, .int .i64 0], none, []⟩,
  ⟨none, .store (.t 18) 10 (.t 56), none, [18]⟩] [3, 9, 10, 11, 14, 15, 16, 18, 51, 52, 53]
theorem r41_16 : type_of% (@rr _ _ c41_16.eq_1) := rr c41_16.eq_1
def c41_17 : ACode := .ops [⟨some 57, .load 10 true (.t 18), none, [18]⟩,
  ⟨some 58, .load 10 true (.t 11), none, [11]⟩,
  ⟨some 59, .call 107 [.t 57, .t 58], none, []⟩,
  ⟨some 60, .un .not (.t 59), none, []⟩,
  ⟨some 61, .mv (.t 60), none, []⟩,
  ⟨some 62, .load 10 true (.t 18), some (61, false), [18]⟩,
  ⟨some 63, .call 68 [.t 62], some (61, false), []⟩,
  ⟨some 64, .pick (.t 61) (.c (.bool true)) (.t 63), none, []⟩] [3, 9, 10, 11, 14, 15, 16, 18, 51, 52, 53, 64]
theorem r41_17 : type_of% (@rr _ _ c41_17.eq_1) := rr c41_17.eq_1
def c41_18 : ACode := .ops [⟨some 8, .mv (.c (.bool false)), none, []⟩] [8]
theorem r41_18 : type_of% (@rr _ _ c41_18.eq_1) := rr c41_18.eq_1
def c41_19 : ACode := .seq c41_18 .ret
theorem r41_19 : type_of% (@rr _ _ c41_19.eq_1) := rr c41_19.eq_1
def c41_20 : ACode := .cond (.t 64) c41_19 .skip
theorem r41_20 : type_of% (@rr _ _ c41_20.eq_1) := rr c41_20.eq_1
def c41_21 : ACode := .seq c41_17 c41_20
theorem r41_21 : type_of% (@rr _ _ c41_21.eq_1) := rr c41_21.eq_1
def c41_22 : ACode := .ops [⟨some 65, .mv (.c (.int .i64 0)), none, []⟩] [3, 9, 10, 11, 14, 15, 16, 18, 51, 52, 53, 65]
theorem r41_22 : type_of% (@rr _ _ c41_22.eq_1) := rr c41_22.eq_1
def c41_23 : ACode := .ops [⟨some 66, .bin .lss (.t 65) (.c (.int .i64 5)), none, []⟩] [3, 9, 10, 11, 14, 15, 16, 18, 51, 52, 53, 65, 66]
theorem r41_23 : type_of% (@rr _ _ c41_23.eq_1) := rr c41_23.eq_1
def c41_24 : ACode := .cond (.t 66) .skip (.exit 2)
theorem r41_24 : type_of% (@rr _ _ c41_24.eq_1) := rr c41_24.eq_1
def c41_25 : ACode := .ops [⟨some 67, .mv (.t 65), none, []⟩,
  ⟨some 19, .mv (.t 67), none, []⟩] [3, 9, 10, 11, 14, 15, 16, 18, 19, 51, 52, 53, 65]
theorem r41_25 : type_of% (@rr _ _ c41_25.eq_1) := rr c41_25.eq_1
def c41_26 : ACode := .ops [⟨some 68, .load 6 true (.t 9), none, [9]⟩,
  ⟨some 69, .load 17 true (.t 10), none, [10]⟩,
  ⟨some 70, .load 10 true (.t 18), none, [18]⟩,
  ⟨some 71, .mv (.t 19), none, []⟩,
  ⟨some 72, .call 102 [.t 68, .t 69, .t 70, .t 71], none, []⟩,
  ⟨some 73, .len (.t 72), none, []⟩,
  ⟨some 74, .bin .neq (.t 73) (.c (.int .i64 0)), none, []⟩] [3, 9, 10, 11, 14, 15, 16, 18, 51, 52, 53, 65, 74]
theorem r41_26 : type_of% (@rr _ _ c41_26.eq_1) := rr c41_26.eq_1
def c41_27 : ACode := .ops [⟨some 8, .mv (.c (.bool false)), none, []⟩] [8]
theorem r41_27 : type_of% (@rr _ _ c41_27.eq_1) := rr c41_27.eq_1
def c41_28 : ACode := .seq c41_27 .ret
theorem r41_28 : type_of% (@rr _ _ c41_28.eq_1) := rr c41_28.eq_1
def c41_29 : ACode := .cond (.t 74) c41_28 .skip
theorem r41_29 : type_of% (@rr _ _ c41_29.eq_1) := rr c41_29.eq_1
def c41_30 : ACode := .seq c41_26 c41_29
theorem r41_30 : type_of% (@rr _ _ c41_30.eq_1) := rr c41_30.eq_1
def c41_31 : ACode := .seq c41_25 c41_30
theorem r41_31 : type_of% (@rr _ _ c41_31.eq_1) := rr c41_31.eq_1
def c41_32 : ACode := .block 3 c41_31
theorem r41_32 : type_of% (@rr _ _ c41_32.eq_1) := rr c41_32.eq_1
def c41_33 : ACode := .ops [⟨some 75, .bin .add (.t 65) (.c (.int .i64 1)), none, []⟩,
  ⟨some 65, .mv (.t 75), none, []⟩] [3, 9, 10, 11, 14, 15, 16, 18, 51, 52, 53, 65]
theorem r41_33 : type_of% (@rr _ _ c41_33.eq_1) := rr c41_33.eq_1
def c41_34 : ACode := .seq c41_32 c41_33
theorem r41_34 : type_of% (@rr _ _ c41_34.eq_1) := rr c41_34.eq_1
def c41_35 : ACode := .seq c41_24 c41_34
theorem r41_35 : type_of% (@rr _ _ c41_35.eq_1) := rr c41_35.eq_1
def c41_36 : ACode := .seq c41_23 c41_35
theorem r41_36 : type_of% (@rr _ _ c41_36.eq_1) := rr c41_36.eq_1
def c41_37 : ACode := .keep [3, 9, 10, 11, 14, 15, 16, 18, 51, 52, 53, 65] [9, 10, 11, 14, 18] c41_36
theorem r41_37 : type_of% (@rr _ _ c41_37.eq_1) := rr c41_37.eq_1
def c41_38 : ACode := .loop c41_37
theorem r41_38 : type_of% (@rr _ _ c41_38.eq_1) := rr c41_38.eq_1
def c41_39 : ACode := .block 2 c41_38
theorem r41_39 : type_of% (@rr _ _ c41_39.eq_1) := rr c41_39.eq_1
def c41_40 : ACode := .seq c41_22 c41_39
theorem r41_40 : type_of% (@rr _ _ c41_40.eq_1) := rr c41_40.eq_1
def c41_41 : ACode := .ops [⟨some 76, .load 10 true (.t 18), none, [18]⟩,
  ⟨some 77, .load 4 true (.t 14), none, [14]⟩,
  ⟨some 78, .mv (.t 15), none, []⟩,
  ⟨some 79, .call 87 [.t 76, .t 77, .t 78], none, []⟩,
  ⟨some 80, .un .not (.t 79), none, []⟩] [3, 9, 10, 11, 14, 15, 16, 18, 51, 52, 53, 80]
theorem r41_41 : type_of% (@rr _ _ c41_41.eq_1) := rr c41_41.eq_1
def c41_42 : ACode := .cond (.t 80) (.exit 1) .skip
theorem r41_42 : type_of% (@rr _ _ c41_42.eq_1) := rr c41_42.eq_1
def c41_43 : ACode := .seq c41_41 c41_42
theorem r41_43 : type_of% (@rr _ _ c41_43.eq_1) := rr c41_43.eq_1
def c41_44 : ACode := .ops [⟨some 81, .mv (.t 16), none, []⟩,
  ⟨some 82, .bin .add (.t 81) (.c (.int .i64 1)), none, []⟩,
  ⟨some 16, .mv (.t 82), none, []⟩] [3, 9, 10, 11, 14, 15, 16, 18, 51, 52, 53]
theorem r41_44 : type_of% (@rr _ _ c41_44.eq_1) := rr c41_44.eq_1
def c41_45 : ACode := .ops [⟨some 83, .load 10 true (.t 18), none, [18]⟩,
  ⟨some 84, .mv (.t 3), none, []⟩,
  ⟨some 85, .call 66 [.t 83, .t 84], none, []⟩,
  ⟨some 20, .alloc [.int .i64 0, .int .i64 0, .int .i64 0, .int .i64 0], none, []⟩,
  ⟨none, .store (.t 20) 4 (.t 85), none, [20]⟩] [3, 9, 10, 11, 14, 15, 16, 20, 51, 52, 53]
theorem r41_45 : type_of% (@rr _ _ c41_45.eq_1) := rr c41_45.eq_1
def c41_46 : ACode := .ops [⟨some 21, .mv (.c (.int .i64 0)), none, []⟩] [3, 9, 10, 11, 14, 15, 16, 20, 21, 51, 52, 53]
theorem r41_46 : type_of% (@rr _ _ c41_46.eq_1) := rr c41_46.eq_1
def c41_47 : ACode := .ops [⟨some 86, .mv (.t 21), none, []⟩,
  ⟨some 87, .fad (.t 9) 1, none, [9]⟩,
  ⟨some 88, .load 1 false (.t 87), none, [9]⟩,
  ⟨some 89, .bin .lss (.t 86) (.t 88), none, []⟩] [3, 9, 10, 11, 14, 15, 16, 20, 21, 51, 52, 53, 89]
theorem r41_47 : type_of% (@rr _ _ c41_47.eq_1) := rr c41_47.eq_1
def c41_48 : ACode := .cond (.t 89) .skip (.exit 4)
theorem r41_48 : type_of% (@rr _ _ c41_48.eq_1) := rr c41_48.eq_1
def c41_49 : ACode := .seq c41_47 c41_48
theorem r41_49 : type_of% (@rr _ _ c41_49.eq_1) := rr c41_49.eq_1
def c41_50 : ACode := .ops [⟨some 92, .load 6 true (.t 9), none, [9]⟩,
  ⟨some 93, .mv (.t 21), none, []⟩,
  ⟨some 94, .load 4 true (.t 20), none, [20]⟩,
  ⟨some 95, .call 69 [.t 92, .t 93, .t 94], none, []⟩,
  ⟨some 96, .load 6 true (.t 9), none, [9]⟩,
  ⟨some 97, .mv (.t 21), none, []⟩,
  ⟨some 98, .load 4 true (.t 14), none, [14]⟩,
  ⟨some 99, .call 69 [.t 96, .t 97, .t 98], none, []⟩,
  ⟨some 100, .bin .neq (.t 95) (.t 99), none, []⟩] [3, 9, 10, 11, 14, 15, 16, 20, 21, 51, 52, 53, 100]
theorem r41_50 : type_of% (@rr _ _ c41_50.eq_1) := rr c41_50.eq_1
def c41_51 : ACode := .ops [⟨some 8, .mv (.c (.bool false)), none, []⟩] [8]
theorem r41_51 : type_of% (@rr _ _ c41_51.eq_1) := rr c41_51.eq_1
def c41_52 : ACode := .seq c41_51 .ret
theorem r41_52 : type_of% (@rr _ _ c41_52.eq_1) := rr c41_52.eq_1
def c41_53 : ACode := .cond (.t 100) c41_52 .skip
theorem r41_53 : type_of% (@rr _ _ c41_53.eq_1) := rr c41_53.eq_1
def c41_54 : ACode := .seq c41_50 c41_53
theorem r41_54 : type_of% (@rr _ _ c41_54.eq_1) := rr c41_54.eq_1
def c41_55 : ACode := .block 5 c41_54
theorem r41_55 : type_of% (@rr _ _ c41_55.eq_1) := rr c41_55.eq_1
def c41_56 : ACode := .ops [⟨some 90, .mv (.t 21), none, []⟩,
  ⟨some 91, .bin .add (.t 90) (.c (.int .i64 1)), none, []⟩,
  ⟨some 21, .mv (.t 91), none, []⟩] [3, 9, 10, 11, 14, 15, 16, 20, 21, 51, 52, 53]
theorem r41_56 : type_of% (@rr _ _ c41_56.eq_1) := rr c41_56.eq_1
def c41_57 : ACode := .seq c41_55 c41_56
theorem r41_57 : type_of% (@rr _ _ c41_57.eq_1) := rr c41_57.eq_1
def c41_58 : ACode := .seq c41_49 c41_57
theorem r41_58 : type_of% (@rr _ _ c41_58.eq_1) := rr c41_58.eq_1
def c41_59 : ACode := .keep [3, 9, 10, 11, 14, 15, 16, 20, 21, 51, 52, 53] [9, 10, 11, 14, 20] c41_58
theorem r41_59 : type_of% (@rr _ _ c41_59.eq_1) := rr c41_59.eq_1
def c41_60 : ACode := .loop c41_59
theorem r41_60 : type_of% (@rr _ _ c41_60.eq_1) := rr c41_60.eq_1
def c41_61 : ACode := .block 4 c41_60
theorem r41_61 : type_of% (@rr _ _ c41_61.eq_1) := rr c41_61.eq_1
def c41_62 : ACode := .seq c41_46 c41_61
theorem r41_62 : type_of% (@rr _ _ c41_62.eq_1) := rr c41_62.eq_1
def c41_63 : ACode := .seq c41_45 c41_62
theorem r41_63 : type_of% (@rr _ _ c41_63.eq_1) := rr c41_63.eq_1
def c41_64 : ACode := .seq c41_44 c41_63
theorem r41_64 : type_of% (@rr _ _ c41_64.eq_1) := rr c41_64.eq_1
def c41_65 : ACode := .seq c41_43 c41_64
theorem r41_65 : type_of% (@rr _ _ c41_65.eq_1) := rr c41_65.eq_1
def c41_66 : ACode := .seq c41_40 c41_65
theorem r41_66 : type_of% (@rr _ _ c41_66.eq_1) := rr c41_66.eq_1
def c41_67 : ACode := .seq c41_21 c41_66
theorem r41_67 : type_of% (@rr _ _ c41_67.eq_1) := rr c41_67.eq_1
def c41_68 : ACode := .seq c41_16 c41_67
theorem r41_68 : type_of% (@rr _ _ c41_68.eq_1) := rr c41_68.eq_1
def c41_69 : ACode := .block 1 c41_68
theorem r41_69 : type_of% (@rr _ _ c41_69.eq_1) := rr c41_69.eq_1
def c41_70 : ACode := .ops [⟨some 101, .bin .add (.t 53) (.c (.int .i64 1)), none, []⟩,
  ⟨some 53, .mv (.t 101), none, []⟩] [3, 9, 10, 11, 14, 15, 16, 51, 52, 53]
theorem r41_70 : type_of% (@rr _ _ c41_70.eq_1) := rr c41_70.eq_1
def c41_71 : ACode := .seq c41_69 c41_70
theorem r41_71 : type_of% (@rr _ _ c41_71.eq_1) := rr c41_71.eq_1
def c41_72 : ACode := .seq c41_15 c41_71
theorem r41_72 : type_of% (@rr _ _ c41_72.eq_1) := rr c41_72.eq_1
def c41_73 : ACode := .seq c41_14 c41_72
theorem r41_73 : type_of% (@rr _ _ c41_73.eq_1) := rr c41_73.eq_1
def c41_74 : ACode := .keep [3, 9, 10, 11, 14, 15, 16, 51, 52, 53] [9, 10, 11, 14] c41_73
theorem r41_74 : type_of% (@rr _ _ c41_74.eq_1) := rr c41_74.eq_1
def c41_75 : ACode := .loop c41_74
theorem r41_75 : type_of% (@rr _ _ c41_75.eq_1) := rr c41_75.eq_1
def c41_76 : ACode := .block 0 c41_75
theorem r41_76 : type_of% (@rr _ _ c41_76.eq_1) := rr c41_76.eq_1
def c41_77 : ACode := .seq c41_13 c41_76
theorem r41_77 : type_of% (@rr _ _ c41_77.eq_1) := rr c41_77.eq_1
def c41_78 : ACode := .ops [⟨some 102, .mv (.t 16), none, []⟩,
  ⟨some 103, .bin .eql (.t 102) (.c (.int .i64 1)), none, []⟩,
  ⟨some 104, .mv (.t 103), none, []⟩,
  ⟨some 105, .call 37 [], some (104, true), []⟩,
  ⟨some 106, .pick (.t 104) (.t 105) (.c (.bool false)), none, []⟩,
  ⟨some 8, .mv (.t 106), none, []⟩] [8]
theorem r41_78 : type_of% (@rr _ _ c41_78.eq_1) := rr c41_78.eq_1
def c41_79 : ACode := .seq c41_78 .ret
theorem r41_79 : type_of% (@rr _ _ c41_79.eq_1) := rr c41_79.eq_1
def c41_80 : ACode := .seq c41_77 c41_79
theorem r41_80 : type_of% (@rr _ _ c41_80.eq_1) := rr c41_80.eq_1
def c41_81 : ACode := .seq c41_12 c41_80
theorem r41_81 : type_of% (@rr _ _ c41_81.eq_1) := rr c41_81.eq_1
def c41_82 : ACode := .seq c41_11 c41_81
theorem r41_82 : type_of% (@rr _ _ c41_82.eq_1) := rr c41_82.eq_1
def c41_83 : ACode := .seq c41_10 c41_82
theorem r41_83 : type_of% (@rr _ _ c41_83.eq_1) := rr c41_83.eq_1
def c41_84 : ACode := .seq c41_9 c41_83
theorem r41_84 : type_of% (@rr _ _ c41_84.eq_1) := rr c41_84.eq_1
def c41_85 : ACode := .seq c41_4 c41_84
theorem r41_85 : type_of% (@rr _ _ c41_85.eq_1) := rr c41_85.eq_1
def c41_86 : ACode := .seq c41_3 c41_85
theorem r41_86 : type_of% (@rr _ _ c41_86.eq_1) := rr c41_86.eq_1
def c41_87 : ACode := .seq c41_2 c41_86
theorem r41_87 : type_of% (@rr _ _ c41_87.eq_1) := rr c41_87.eq_1
def c41_88 : ACode := .seq c41_1 c41_87
theorem r41_88 : type_of% (@rr _ _ c41_88.eq_1) := rr c41_88.eq_1
def c41_89 : ACode := .seq c41_0 c41_88
theorem r41_89 : type_of% (@rr _ _ c41_89.eq_1) := rr c41_89.eq_1
def a41 : AFun := ⟨4, 107, c41_89, [.t 8]⟩
attribute [simp] r41_0 r41_1 r41_2 r41_3 r41_4 r41_5 r41_6 r41_7 r41_8 r41_9 r41_10 r41_11 r41_12 r41_13 r41_14 r41_15 r41_16 r41_17 r41_18 r41_19 r41_20 r41_21 r41_22 r41_23 r41_24 r41_25 r41_26 r41_27 r41_28 r41_29 r41_30 r41_31 r41_32 r41_33 r41_34 r41_35 r41_36 r41_37 r41_38 r41_39 r41_40 r41_41 r41_42 r41_43 r41_44 r41_45 r41_46 r41_47 r41_48 r41_49 r41_50 r41_51 r41_52 r41_53 r41_54 r41_55 r41_56 r41_57 r41_58 r41_59 r41_60 r41_61 r41_62 r41_63 r41_64 r41_65 r41_66 r41_67 r41_68 r41_69 r41_70 r41_71 r41_72 r41_73 r41_74 r41_75 r41_76 r41_77 r41_78 r41_79 r41_80 r41_81 r41_82 r41_83 r41_84 r41_85 r41_86 r41_87 r41_88 r41_89
theorem m41 : mFun Try.prog Try.f41 a41 = true := by decide +kernel
def c37_0 : ACode := .ops [⟨some 0, .mv (.c (.bool false)), none, []⟩] []
def c37_1 : ACode := .ops [⟨some 12, .call 43 [], none, []⟩,
  ⟨some 1, .alloc [.int .i64 0, .int .i64 0, .int .i64 0, .int .i64 0, .int .i64 0, .nils], none, []⟩,
  ⟨none, .store (.t 1) 6 (.t 12), none, [1]⟩] [1]
def c37_2 : ACode := .ops [⟨some 13, .build [.int .i64 0, .int .i64 0] [(0, 1, .c (.int .i64 0)), (1, 1, .c (.int .i64 9))], none, []⟩,
  ⟨some 14, .build [.int .i64 0, .int .i64 0, .int .i64 0, .int .i64 0, .int .i64 0, .int .i64 0, .int .i64 0, .int .i64 0, .int .i64 0, .int .i64 0] [(0, 2, .t 13)], none, []⟩,
  ⟨some 15, .build [.int .i64 0, .int .i64 0, .int .i64 0, .int .i64 0, .int .i64 0, .int .i64 0, .int .i64 0, .int .i64 0, .int .i64 0, .int .i64 0, .int .i64 0, .int .i64 0, .int .i64 0, .int .i64 0, .int .i64 0, .bool false, .int .i64 0] [(0, 1, .c (.int .i64 3)), (2, 10, .t 14)], none, []⟩,
  ⟨some 2, .alloc [.int .i64 0, .int .i64 0, .int .i64 0, .int .i64 0, .int .i64 0, .int .i64 0, .int .i64 0, .int .i64 0, .int .i64 0, .int .i64 0, .int .i64 0, .int .i64 0, .int .i64 0, .int .i64 0, .int .i64 0, .bool false, .int .i64 0], none, []⟩,
  ⟨none, .store (.t 2) 17 (.t 15), none, [2]⟩] [1, 2]
def c37_3 : ACode := .ops [⟨some 16, .load 17 true (.t 2), none, [2]⟩,
  ⟨some 17, .call 58 [.t 16], none, []⟩,
  ⟨some 3, .alloc [.int .i64 0, .int .i64 0, .int .i64 0, .int .i64 0, .int .i64 0, .int .i64 0, .int .i64 0, .int .i64 0, .int .i64 0, .int .i64 0], none, []⟩,
  ⟨none, .store (.t 3) 10 (.t 17), none, [3]⟩] [1, 2, 3]
def c37_4 : ACode := .ops [⟨some 19, .load 6 true (.t 1), none, [1]⟩,
  ⟨some 20, .load 17 true (.t 2), none, [2]⟩,
  ⟨some 21, .load 10 true (.t 3), none, [3]⟩,
  ⟨some 22, .call 100 [.t 19, .t 20, .t 21, .c (.int .i64 10)], none, []⟩,
  ⟨some 18, .mv (.t 22), none, []⟩,
  ⟨some 23, .ext (.t 18) 0, none, []⟩,
  ⟨some 24, .ext (.t 18) 1, none, []⟩,
  ⟨some 4, .mv (.t 23), none, []⟩,
  ⟨some 5, .mv (.t 24), none, []⟩] [1, 2, 3, 4, 5]
def c37_5 : ACode := .ops [⟨some 26, .load 6 true (.t 1), none, [1]⟩,
  ⟨some 27, .load 17 true (.t 2), none, [2]⟩,
  ⟨some 28, .call 101 [.t 26, .t 27, .c (.int .i64 10)], none, []⟩,
  ⟨some 25, .mv (.t 28), none, []⟩,
  ⟨some 29, .ext (.t 25) 0, none, []⟩,
  ⟨some 30, .ext (.t 25) 1, none, []⟩,
  ⟨some 6, .mv (.t 29), none, []⟩,
  ⟨some 7, .mv (.t 30), none, []⟩] [1, 2, 3, 4, 5, 6, 7]
def c37_6 : ACode := .ops [⟨some 31, .fad (.t 2) 15, none, [2]⟩,
  ⟨none, .store (.t 31) 1 (.c (.bool true)), none, [2]⟩] [1, 2, 3, 4, 5, 6, 7]
def c37_7 : ACode := .ops [⟨some 33, .load 6 true (.t 1), none, [1]⟩,
  ⟨some 34, .load 17 true (.t 2), none, [2]⟩,
  ⟨some 35, .call 101 [.t 33, .t 34, .c (.int .i64 10)], none, []⟩,
  ⟨some 32, .mv (.t 35), none, []⟩,
  ⟨some 36, .ext (.t 32) 0, none, []⟩,
  ⟨some 37, .ext (.t 32) 1, none, []⟩,
  ⟨some 8, .mv (.t 36), none, []⟩,
  ⟨some 9, .mv (.t 37), none, []⟩] [1, 2, 3, 4, 5, 6, 7, 8, 9]
def c37_8 : ACode := .ops [⟨some 39, .load 6 true (.t 1), none, [1]⟩,
  ⟨some 40, .load 17 true (.t 2), none, [2]⟩,
  ⟨some 41, .load 10 true (.t 3), none, [3]⟩,
  ⟨some 42, .call 100 [.t 39, .t 40, .t 41, .c (.int .i64 3)], none, []⟩,
  ⟨some 38, .mv (.t 42), none, []⟩,
  ⟨some 43, .ext (.t 38) 0, none, []⟩,
  ⟨some 44, .ext (.t 38) 1, none, []⟩,
  ⟨some 10, .mv (.t 43), none, []⟩,
  ⟨some 11, .mv (.t 44), none, []⟩] [1, 2, 3, 4, 5, 6, 7, 8, 9, 11]
def c37_9 : ACode := .ops [⟨some 45, .load 6 true (.t 1), none, [1]⟩,
  ⟨some 46, .load 17 true (.t 2), none, [2]⟩,
  ⟨some 47, .load 10 true (.t 3), none, [3]⟩,
  ⟨some 48, .call 102 [.t 45, .t 46, .t 47, .c (.int .i64 0)], none, []⟩,
  ⟨some 49, .mkrow 49 1 1 [.int .i64 0] [(0, 1, .c (.int .i64 5))], none, []⟩,
  ⟨some 50, .call 83 [.t 48, .t 49], none, [49]⟩,
  ⟨some 51, .mv (.t 50), none, []⟩,
  ⟨some 52, .mv (.t 4), some (51, true), []⟩,
  ⟨some 53, .bin .eql (.t 52) (.c (.int .i64 4)), some (51, true), []⟩,
  ⟨some 54, .pick (.t 51) (.t 53) (.c (.bool false)), none, []⟩,
  ⟨some 55, .mv (.t 54), none, []⟩,
  ⟨some 56, .mv (.t 5), some (55, true), []⟩,
  ⟨some 57, .pick (.t 55) (.t 56) (.c (.bool false)), none, []⟩,
  ⟨some 58, .mv (.t 57), none, []⟩,
  ⟨some 59, .mv (.t 6), some (58, true), []⟩,
  ⟨some 60, .pick (.t 58) (.t 59) (.c (.bool false)), none, []⟩,
  ⟨some 61, .mv (.t 60), none, []⟩,
  ⟨some 62, .mv (.t 7), some (61, true), []⟩,
  ⟨some 63, .pick (.t 61) (.t 62) (.c (.bool false)), none, []⟩,
  ⟨some 64, .mv (.t 63), none, []⟩,
  ⟨some 65, .mv (.t 8), some (64, true), []⟩,
  ⟨some 66, .un .not (.t 65), some (64, true), []⟩,
  ⟨some 67, .pick (.t 64) (.t 66) (.c (.bool false)), none, []⟩,
  ⟨some 68, .mv (.t 67), none, []⟩,
  ⟨some 69, .mv (.t 9), some (68, true), []⟩,
  ⟨some 70, .pick (.t 68) (.t 69) (.c (.bool false)), none, []⟩,
  ⟨some 71, .mv (.t 70), none, []⟩,
  ⟨some 72, .mv (.t 11), some (71, true), []⟩,
  ⟨some 73, .un .not (.t 72), some (71, true), []⟩,
  ⟨some 74, .pick (.t 71) (.t 73) (.c (.bool false)), none, []⟩,
  ⟨some 0, .mv (.t 74), none, []⟩] [0]
def c37_10 : ACode := .seq c37_9 .ret
def c37_11 : ACode := .seq c37_8 c37_10
def c37_12 : ACode := .seq c37_7 c37_11
def c37_13 : ACode := .seq c37_6 c37_12
def c37_14 : ACode := .seq c37_5 c37_13
def c37_15 : ACode := .seq c37_4 c37_14
def c37_16 : ACode := .seq c37_3 c37_15
def c37_17 : ACode := .seq c37_2 c37_16
def c37_18 : ACode := .seq c37_1 c37_17
def c37_19 : ACode := .seq c37_0 c37_18
def a37 : AFun := ⟨0, 75, c37_19, [.t 0]⟩
theorem m37 : mFun Try.prog Try.f37 a37 = true := by decide +kernel
def c43_0 : ACode := .ops [⟨some 0, .alloc [.int .i64 0, .int .i64 0, .int .i64 0, .int .i64 0, .int .i64 0, .nils], none, []⟩] [0]
def c43_1 : ACode := .ops [⟨some 2, .build [.bool false, .int .i64 0, .int .i64 0, .int .i64 0, .int .i64 0, .int .i64 0] [(3, 1, .c (.int .i64 5)), (4, 1, .c (.int .i64 1)), (5, 1, .c (.int .i64 2))], none, []⟩,
  ⟨some 3, .call 111 [.t 2], none, []⟩,
  ⟨some 4, .build [.bool false, .int .i64 0, .int .i64 0, .int .i64 0, .int .i64 0, .int .i64 0] [(0, 1, .c (.bool true)), (1, 1, .c (.int .i64 10))], none, []⟩,
  ⟨some 5, .call 111 [.t 4], none, []⟩,
  ⟨some 6, .build [.bool false, .int .i64 0, .int .i64 0, .int .i64 0, .int .i64 0, .int .i64 0] [(0, 1, .c (.bool true)), (1, 1, .c (.int .i64 20))], none, []⟩,
  ⟨some 7, .call 111 [.t 6], none, []⟩,
  ⟨some 8, .mkrow 1 3 1 [.int .u64 0] [(0, 1, .t 3), (1, 1, .t 5), (2, 1, .t 7)], none, []⟩,
  ⟨some 1, .mv (.t 8), none, []⟩] [0, 1]
def c43_2 : ACode := .ops [⟨some 9, .build [.int .i64 0, .int .i64 0, .int .i64 0] [(0, 1, .c (.int .i64 3))], none, []⟩,
  ⟨some 10, .mv (.t 1), none, []⟩,
  ⟨some 11, .build [.int .i64 0, .nils] [(1, 1, .t 10)], none, []⟩,
  ⟨some 12, .mkrow 12 1 2 [.int .i64 0, .nils] [(0, 2, .t 11)], none, []⟩,
  ⟨some 13, .build [.int .i64 0, .int .i64 0, .int .i64 0, .int .i64 0, .int .i64 0, .nils] [(0, 1, .c (.int .i64 1)), (1, 1, .c (.int .i64 1)), (2, 3, .t 9), (5, 1, .t 12)], none, []⟩,
  ⟨none, .store (.t 0) 6 (.t 13), none, [0]⟩] [0]
def c43_3 : ACode := .seq c43_2 .ret
def c43_4 : ACode := .seq c43_1 c43_3
def c43_5 : ACode := .seq c43_0 c43_4
def a43 : AFun := ⟨0, 14, c43_5, [.cell 0 6 true]⟩
theorem m43 : mFun Try.prog Try.f43 a43 = true := by decide +kernel
def c83_0 : ACode := .ops [⟨some 4, .mv (.c (.bool false)), none, []⟩] [0, 1]
def c83_1 : ACode := .ops [⟨some 6, .mv (.t 0), none, []⟩,
  ⟨some 7, .len (.t 6), none, []⟩,
  ⟨some 8, .mv (.t 1), none, []⟩,
  ⟨some 9, .len (.t 8), none, []⟩,
  ⟨some 10, .bin .neq (.t 7) (.t 9), none, []⟩] [0, 1, 10]
def c83_2 : ACode := .ops [⟨some 4, .mv (.c (.bool false)), none, []⟩] [4]
def c83_3 : ACode := .seq c83_2 .ret
def c83_4 : ACode := .cond (.t 10) c83_3 .skip
def c83_5 : ACode := .seq c83_1 c83_4
def c83_6 : ACode := .ops [⟨some 5, .mv (.c (.int .i64 0)), none, []⟩] [0, 1, 5]
def c83_7 : ACode := .ops [⟨some 11, .mv (.t 5), none, []⟩,
  ⟨some 12, .mv (.t 0), none, []⟩,
  ⟨some 13, .len (.t 12), none, []⟩,
  ⟨some 14, .bin .lss (.t 11) (.t 13), none, []⟩] [0, 1, 5, 14]
def c83_8 : ACode := .cond (.t 14) .skip (.exit 0)
def c83_9 : ACode := .seq c83_7 c83_8
def c83_10 : ACode := .ops [⟨some 17, .mv (.t 0), none, []⟩,
  ⟨some 18, .mv (.t 5), none, []⟩,
  ⟨some 19, .ias (.t 17) (.t 18) 1, none, []⟩,
  ⟨some 20, .load 1 false (.t 19), none, []⟩,
  ⟨some 21, .mv (.t 1), none, []⟩,
  ⟨some 22, .mv (.t 5), none, []⟩,
  ⟨some 23, .ias (.t 21) (.t 22) 1, none, []⟩,
  ⟨some 24, .load 1 false (.t 23), none, []⟩,
  ⟨some 25, .bin .neq (.t 20) (.t 24), none, []⟩] [0, 1, 5, 25]
def c83_11 : ACode := .ops [⟨some 4, .mv (.c (.bool false)), none, []⟩] [4]
def c83_12 : ACode := .seq c83_11 .ret
def c83_13 : ACode := .cond (.t 25) c83_12 .skip
def c83_14 : ACode := .seq c83_10 c83_13
def c83_15 : ACode := .block 1 c83_14
def c83_16 : ACode := .ops [⟨some 15, .mv (.t 5), none, []⟩,
  ⟨some 16, .bin .add (.t 15) (.c (.int .i64 1)), none, []⟩,
  ⟨some 5, .mv (.t 16), none, []⟩] [0, 1, 5]
def c83_17 : ACode := .seq c83_15 c83_16
def c83_18 : ACode := .seq c83_9 c83_17
def c83_19 : ACode := .keep [0, 1, 5] [] c83_18
def c83_20 : ACode := .loop c83_19
def c83_21 : ACode := .block 0 c83_20
def c83_22 : ACode := .seq c83_6 c83_21
def c83_23 : ACode := .ops [⟨some 4, .mv (.c (.bool true)), none, []⟩] [4]
def c83_24 : ACode := .seq c83_23 .ret
def c83_25 : ACode := .seq c83_22 c83_24
def c83_26 : ACode := .seq c83_5 c83_25
def c83_27 : ACode := .seq c83_0 c83_26
def a83 : AFun := ⟨2, 26, c83_27, [.t 4]⟩
theorem m83 : mFun Try.prog Try.f83 a83 = true := by decide +kernel
def texts37 : List (Nat × AFun) := [(37, a37), (43, a43), (56, a56), (57, a57), (58, a58), (64, a64), (67, a67), (69, a69), (71, a71), (76, a76), (77, a77), (83, a83), (96, a96), (99, a99), (100, a100), (101, a101), (102, a102), (103, a103), (111, a111), (115, a115), (116, a116), (117, a117), (118, a118), (119, a119), (120, a120), (121, a121), (122, a122), (123, a123), (124, a124), (125, a125), (128, a128), (129, a129), (130, a130), (131, a131), (148, a148), (149, a149), (150, a150), (151, a151), (152, a152), (153, a153), (154, a154), (156, a156), (158, a158), (159, a159), (160, a160), (161, a161), (162, a162), (163, a163), (164, a164), (165, a165), (174, a174), (175, a175), (176, a176)]
theorem texts37_good : Go.Am.Good Try.prog texts37 :=
  good_cons Try.func37 m37 <| good_cons Try.func43 m43 <| good_cons Try.func56 m56 <| good_cons Try.func57 m57 <| good_cons Try.func58 m58 <| good_cons Try.func64 m64 <| good_cons Try.func67 m67 <| good_cons Try.func69 m69 <| good_cons Try.func71 m71 <| good_cons Try.func76 m76 <| good_cons Try.func77 m77 <| good_cons Try.func83 m83 <| good_cons Try.func96 m96 <| good_cons Try.func99 m99 <| good_cons Try.func100 m100 <| good_cons Try.func101 m101 <| good_cons Try.func102 m102 <| good_cons Try.func103 m103 <| good_cons Try.func111 m111 <| good_cons Try.func115 m115 <| good_cons Try.func116 m116 <| good_cons Try.func117 m117 <| good_cons Try.func118 m118 <| good_cons Try.func119 m119 <| good_cons Try.func120 m120 <| good_cons Try.func121 m121 <| good_cons Try.func122 m122 <| good_cons Try.func123 m123 <| good_cons Try.func124 m124 <| good_cons Try.func125 m125 <| good_cons Try.func128 m128 <| good_cons Try.func129 m129 <| good_cons Try.func130 m130 <| good_cons Try.func131 m131 <| good_cons Try.func148 m148 <| good_cons Try.func149 m149 <| good_cons Try.func150 m150 <| good_cons Try.func151 m151 <| good_cons Try.func152 m152 <| good_cons Try.func153 m153 <| good_cons Try.func154 m154 <| good_cons Try.func156 m156 <| good_cons Try.func158 m158 <| good_cons Try.func159 m159 <| good_cons Try.func160 m160 <| good_cons Try.func161 m161 <| good_cons Try.func162 m162 <| good_cons Try.func163 m163 <| good_cons Try.func164 m164 <| good_cons Try.func165 m165 <| good_cons Try.func174 m174 <| good_cons Try.func175 m175 <| good_cons Try.func176 m176 <| good_nil
theorem c_closed37 : Contract Try.prog 37 (sp0 (some true)) := contract_closedG mixed texts37_good lib (NW := fun f => if f = 96 then some 5 else if f = 127 then some 10001 else none) (m := 2000) (n := 80) (by decide +kernel)
theorem cell_small {b x : Box} (hb : smallB b) (h : ∀ i : Int, 0 ≤ i → i < 5 → (b.get i).lo ≤ (x.get i).lo ∧ (x.get i).hi ≤ (b.get i).hi) (he : x.empty = false) : smallB x := by
  have key : ∀ i : Int, 0 ≤ i → i < 5 → small (x.get i) := fun i i0 i5 => by
    have h1 := get_small hb i
    have h2 := h i i0 i5
    have h3 := get_spans he i
    unfold small at *
    omega
  exact ⟨key 0 (by omega) (by omega), key 1 (by omega) (by omega), key 2 (by omega) (by omega), key 3 (by omega) (by omega), key 4 (by omega) (by omega)⟩
set_option maxHeartbeats 4000000 in
set_option maxRecDepth 100000 in
theorem runs_law (f : Forest) (a : Ask) (l r : List Int) (c : Bool) (h : some true = some c) : Runs (tbl [(45, sp1 ModelC), (59, sp2 QueryC), (63, sp3 Within), (58, sp1 fun q => some (startOf q)), (103, sp4 CellsC), (102, sp4 CutsC), (66, sp2 InsideC), (87, sp3 fun b p t => some (hasB b p t)), (107, sp2 fun a b => some (bWithin a b)), (68, sp1 fun (b : Box) => some b.empty), (69, sp3 Eval), (37, sp0 (some true))]) a41 [Arg.enc f, Arg.enc a, Arg.enc l, Arg.enc r] (Arg.enc c) := by
  cases h
  refine ⟨rfl, fun g => run_def ?_⟩
  unfold a41
  have hm := rm_modelOf f
  have hM : ModelC f = some (modelOf f) := rfl
  generalize modelOf f = m at *
  have hQ : QueryC a m = some (queryOf m a) := part_of ⟨hm.dim.1, hm.dim.2, hm.classes.1, hm.classes.2⟩ _
  obtain ⟨hsm, hok, hne⟩ := start_facts m a
  have hSt : startOf (queryOf m a) = startOf (queryOf m a) := rfl
  generalize hbq : startOf (queryOf m a) = b at hSt hsm hok hne
  have hSt : startOf (queryOf m a) = b := hbq
  generalize queryOf m a = q at *
  have hC : CellsC m q b 600 = some (if countM m q b ≤ 600 then (stageC m q b 5, true) else ([], false)) := part_of ⟨hm, hok, by omega⟩ _
  by_cases h6 : countM m q b ≤ 600
  case neg =>
    rw [if_neg h6] at hC
    simp -implicitDefEqProofs [hM, hQ, hSt, hC]
  rw [if_pos h6] at hC
  have hLl := stage_count hm q b (Nat.le_refl 5)
  have hI : InsideC b l = some (insideOf b l) := part_of ⟨hsm.1, hsm.2.1, hsm.2.2.1, hsm.2.2.2.1⟩ _
  have hes := (empty_spec hne).2.2.2.2
  unfold Span.empty at hes
  rw [decide_eq_false_iff_not] at hes
  have hs4 := hsm.2.2.2.2
  unfold small at hs4
  have hWt := within_of (l.length : Int) b.s4.lo b.s4.hi (by omega)
  have hwt := within_le (l.length : Int) b.s4.lo b.s4.hi (by omega)
  have hin := inside_in hne l
  generalize within (l.length : Int) b.s4.lo b.s4.hi = t at *
  generalize insideOf b l = p at *
  have hpb : InB b p t := ⟨hin.1, hin.2.1, hin.2.2.1, hin.2.2.2.1, hwt⟩
  have hone := stage_one (m := m) (q := q) hpb (Nat.le_refl 5)
  have hcell : ∀ x ∈ stageC m q b 5, x.empty = false ∧ bWithin x b = true ∧ smallB x ∧ ∀ i : Int, 0 ≤ i → i < 5 → cutsL m q x i = [] := fun x hx => by
    obtain ⟨h1, h2, h3⟩ := cell_spec (m := m) (q := q) hne hx
    exact ⟨h1, bWithin_of h2, cell_small hsm h2 h1, h3⟩
  have hcnt : (stageC m q b 5).countP (fun x => hasB x p t) = 1 := by
    rw [← hone]
    refine List.countP_congr fun x _ => ?_
    rw [hasB_iff, hasN_five]
  clear hone hin hpb
  generalize stageC m q b 5 = L at *
  have hcl := hm.classes
  have b1 : L.length ≤ maxN := by unfold maxN; omega
  by_cases b2 : l.length ≤ maxN
  case neg => simp -implicitDefEqProofs [hM, hQ, hSt, hC, hI, b2]
  simp -implicitDefEqProofs [hM, hQ, hSt, hC, hI, hWt, b1, b2]
  refine run_while (c := c41_73) (fun n s => ∃ (j : Nat) (g : Nat → Nat), j + n = L.length ∧ s = ⟨[(3, .lst r.length (encL r)), (9, .ptr 9 (g 9) 0), (10, .ptr 10 (g 10) 0), (11, .ptr 11 (g 11) 0), (14, .ptr 14 (g 14) 0), (15, .int .i64 t), (16, .int .i64 ((L.take j).countP (fun x => hasB x p t))), (51, .lst L.length (encL L)), (52, .int .i64 L.length), (53, .int .i64 j)],
    [(9, ⟨Row.enc m, false, 0⟩), (10, ⟨Row.enc q, false, 0⟩), (11, ⟨Row.enc b, false, 0⟩), (14, ⟨Row.enc p, false, 0⟩)], g⟩) L.length ⟨0, bump 14 (bump 11 (bump 10 (bump 9 (bump 5 (bump 4 g))))), by omega, by simp⟩ ?_
  rintro n s ⟨j, g, hj, rfl⟩
  by_cases h1 : j < L.length
  case neg =>
    have hjl : j = L.length := by omega
    subst hjl
    rw [List.take_length, hcnt]
    simp -implicitDefEqProofs [h1]
  have w1 : IntKind.i64.wrap ((j : Int) + 1) = (j : Int) + 1 := wrap64 (by omega) (by omega)
  have hrow := rd_box L j h1
  have hx := hcell _ (List.getElem_mem h1)
  have hct : (L.take (j + 1)).countP (fun x => hasB x p t) = (L.take j).countP (fun x => hasB x p t) + if hasB L[j] p t then 1 else 0 := by
    rw [List.take_succ_eq_append_getElem h1, List.countP_append, List.countP_singleton]
  have hcb : (L.take j).countP (fun x => hasB x p t) ≤ L.length := Nat.le_trans List.countP_le_length (List.length_take_le' j L)
  generalize L[j] = x at *
  obtain ⟨x1, x2, x3, x4⟩ := hx
  have hK : ∀ i : Int, 0 ≤ i → i < 5 → CutsC m q x i = some [] := fun i i0 i5 => by rw [← x4 i i0 i5]; exact part_of ⟨hm, .inr ⟨i0, by omega⟩⟩ _
  have K0 := hK 0 (by omega) (by omega)
  have K1 := hK 1 (by omega) (by omega)
  have K2 := hK 2 (by omega) (by omega)
  have K3 := hK 3 (by omega) (by omega)
  have K4 := hK 4 (by omega) (by omega)
  have hct2 := hct
  generalize (L.take (j + 1)).countP (fun x => hasB x p t) = n1 at hct
  generalize hn0 : (L.take j).countP (fun x => hasB x p t) = n0 at *
  cases hh : hasB x p t
  case false =>
    rw [hh] at hct
    simp -implicitDefEqProofs [h1, hrow, x1, x2, run_round, K0, K1, K2, K3, K4, hh, w1, encL_nil]
    exact ⟨n - 1, by omega, j + 1, by omega, by rw [hct2, hh]; simp, by omega⟩
  case true =>
    rw [hh] at hct
    have w2 : IntKind.i64.wrap ((n0 : Int) + 1) = (n0 : Int) + 1 := wrap64 (by omega) (by omega)
    have hIx : InsideC x r = some (insideOf x r) := part_of ⟨x3.1, x3.2.1, x3.2.2.1, x3.2.2.2.1⟩ _
    have hox := inside_in x1 r
    have hpx := hasB_iff.1 hh
    have hE : ∀ c, evalM m c (insideOf x r) = evalM m c p := fun c => cell_eval hm x4 hox hpx c
    generalize insideOf x r = o at *
    simp -implicitDefEqProofs [h1, hrow, x1, x2, run_round, K0, K1, K2, K3, K4, hh, w1, w2, encL_nil, hIx, -r41_60]
    simp -implicitDefEqProofs []
    refine run_while (c := c41_58) (fun k s => ∃ (i : Int) (g : Nat → Nat), 0 ≤ i ∧ i ≤ m.classes ∧ (k : Int) = m.classes - i ∧ s = ⟨[(3, .lst r.length (encL r)), (9, .ptr 9 (g 9) 0), (10, .ptr 10 (g 10) 0), (11, .ptr 11 (g 11) 0), (14, .ptr 14 (g 14) 0), (15, .int .i64 t), (16, .int .i64 ((n0 : Int) + 1)), (20, .ptr 20 (g 20) 0), (21, .int .i64 i), (51, .lst L.length (encL L)), (52, .int .i64 L.length), (53, .int .i64 j)],
      [(9, ⟨Row.enc m, false, 0⟩), (10, ⟨Row.enc q, false, 0⟩), (11, ⟨Row.enc b, false, 0⟩), (14, ⟨Row.enc p, false, 0⟩), (20, ⟨Row.enc o, false, 0⟩)], g⟩) m.classes.toNat ⟨0, bump 20 (bump 18 g), by omega, by omega, by omega, by simp⟩ ?_
    rintro k s ⟨i, g2, i0, i1, hk, rfl⟩
    by_cases h2 : i < m.classes
    case pos =>
      have w3 : IntKind.i64.wrap (i + 1) = i + 1 := wrap64 (by omega) (by omega)
      have hEo := eval_of hm i0 h2 o
      have hEp := eval_of hm i0 h2 p
      rw [hE] at hEo
      simp -implicitDefEqProofs [h2, hEo, hEp, w3]
      exact ⟨k - 1, by omega, i + 1, by omega, by omega, by omega, rfl⟩
    case neg =>
      simp -implicitDefEqProofs [h2, w1]
      exact ⟨n - 1, by omega, j + 1, by omega, by rw [hct2, hh]; simp, by omega⟩
noncomputable def law_sp : List AV → Option AV := sp4 fun (_ : Forest) (_ : Ask) (_ _ : List Int) => some true
theorem law_holds : Contract Try.prog 41 law_sp :=
  contract_of_runs mixed (tbl_cons c_Model (tbl_cons c_Query (tbl_cons c_Within (tbl_cons c_Start (tbl_cons c_Cells (tbl_cons c_Cuts (tbl_cons c_Inside (tbl_cons c_Has (tbl_cons c_bWithin (tbl_cons c_bEmpty (tbl_cons c_Eval (tbl_cons c_closed37 tbl_nil)))))))))))) Try.func41 m41 (sp4_runs runs_law)
theorem law_says (f : Forest) (a : Ask) (l r : List Int) : law_sp [Arg.enc f, Arg.enc a, Arg.enc l, Arg.enc r] = some (.bool true) := by
  simp only [law_sp, sp4, Arg.dec_enc, Option.bind_some]
  rfl
end Go.Co
