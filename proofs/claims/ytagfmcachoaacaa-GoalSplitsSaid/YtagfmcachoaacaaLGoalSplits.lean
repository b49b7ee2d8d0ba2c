/- The law GoalSplits: what its text computes. -/
import Derived.Test.YtagfmcachoaacaaCoPt
import Derived.Test.YtagfmcachoaacaaCoH
import Derived.Test.YtagfmcachoaacaaCoLib
import Derived.Test.YtagfmcachoaacaaCoSh
namespace Go.Co
open Go.Am Go.Proofs
set_option linter.unusedSimpArgs false
set_option linter.unusedVariables false
attribute [-simp] Go.Am.eff_gcall
def c4_0 : ACode := .ops [⟨some 3, .box (.t 0) 4, none, []⟩,
  ⟨some 4, .box (.t 1) 8, none, []⟩,
  ⟨some 6, .mv (.c (.bool false)), none, []⟩] [2, 3, 4]
theorem r4_0 : type_of% (@rr _ _ c4_0.eq_1) := rr c4_0.eq_1
def c4_1 : ACode := .ops [⟨some 21, .load 4 true (.t 3), none, [3]⟩,
  ⟨some 22, .call 7 [.t 21], none, []⟩,
  ⟨some 7, .alloc [.int .i64 0, .int .i64 0, .int .i64 0, .int .i64 0, .int .i64 0, .nils], none, []⟩,
  ⟨none, .store (.t 7) 6 (.t 22), none, [7]⟩] [2, 4, 7]
theorem r4_1 : type_of% (@rr _ _ c4_1.eq_1) := rr c4_1.eq_1
def c4_2 : ACode := .ops [⟨some 23, .load 8 true (.t 4), none, [4]⟩,
  ⟨some 24, .load 6 true (.t 7), none, [7]⟩,
  ⟨some 25, .call 8 [.t 23, .t 24], none, []⟩,
  ⟨some 8, .alloc [.int .i64 0, .int .i64 0, .int .i64 0, .int .i64 0, .int .i64 0, .int .i64 0, .int .i64 0, .int .i64 0, .int .i64 0, .int .i64 0, .int .i64 0, .int .i64 0, .int .i64 0, .int .i64 0, .int .i64 0, .bool false, .int .i64 0], none, []⟩,
  ⟨none, .store (.t 8) 17 (.t 25), none, [8]⟩] [2, 7, 8]
theorem r4_2 : type_of% (@rr _ _ c4_2.eq_1) := rr c4_2.eq_1
def c4_3 : ACode := .ops [⟨some 26, .load 17 true (.t 8), none, [8]⟩,
  ⟨some 27, .call 10 [.t 26], none, []⟩,
  ⟨some 28, .mv (.t 2), none, []⟩,
  ⟨some 29, .call 9 [.t 27, .t 28], none, []⟩,
  ⟨some 9, .alloc [.int .i64 0, .int .i64 0, .int .i64 0, .int .i64 0, .int .i64 0, .int .i64 0, .int .i64 0, .int .i64 0, .int .i64 0, .int .i64 0], none, []⟩,
  ⟨none, .store (.t 9) 10 (.t 29), none, [9]⟩] [7, 8, 9]
theorem r4_3 : type_of% (@rr _ _ c4_3.eq_1) := rr c4_3.eq_1
def c4_4 : ACode := .ops [⟨some 31, .load 6 true (.t 7), none, [7]⟩,
  ⟨some 32, .load 17 true (.t 8), none, [8]⟩,
  ⟨some 33, .load 10 true (.t 9), none, [9]⟩,
  ⟨some 34, .call 16 [.t 31, .t 32, .t 33], none, []⟩,
  ⟨some 30, .mv (.t 34), none, []⟩,
  ⟨some 35, .ext (.t 30) 0, none, []⟩,
  ⟨some 36, .ext (.t 30) 1, none, []⟩,
  ⟨some 37, .ext (.t 30) 2, none, []⟩,
  ⟨some 10, .mv (.t 35), none, []⟩,
  ⟨some 11, .mv (.t 36), none, []⟩,
  ⟨some 12, .mv (.t 37), none, []⟩] [7, 8, 9, 10, 11, 12]
theorem r4_4 : type_of% (@rr _ _ c4_4.eq_1) := rr c4_4.eq_1
def c4_5 : ACode := .ops [⟨some 38, .mv (.t 12), none, []⟩,
  ⟨some 39, .un .not (.t 38), none, []⟩] [7, 8, 9, 10, 11, 39]
theorem r4_5 : type_of% (@rr _ _ c4_5.eq_1) := rr c4_5.eq_1
def c4_6 : ACode := .ops [⟨some 40, .mv (.c (.int .i64 0)), none, []⟩] [7, 8, 9, 40]
theorem r4_6 : type_of% (@rr _ _ c4_6.eq_1) := rr c4_6.eq_1
def c4_7 : ACode := .ops [⟨some 41, .bin .lss (.t 40) (.c (.int .i64 5)), none, []⟩] [7, 8, 9, 40, 41]
theorem r4_7 : type_of% (@rr _ _ c4_7.eq_1) := rr c4_7.eq_1
def c4_8 : ACode := .cond (.t 41) .skip (.exit 0)
theorem r4_8 : type_of% (@rr _ _ c4_8.eq_1) := rr c4_8.eq_1
def c4_9 : ACode := .ops [⟨some 42, .mv (.t 40), none, []⟩,
  ⟨some 13, .mv (.t 42), none, []⟩] [7, 8, 9, 13, 40]
theorem r4_9 : type_of% (@rr _ _ c4_9.eq_1) := rr c4_9.eq_1
def c4_10 : ACode := .ops [⟨some 43, .load 6 true (.t 7), none, [7]⟩,
  ⟨some 44, .load 17 true (.t 8), none, [8]⟩,
  ⟨some 45, .load 10 true (.t 9), none, [9]⟩,
  ⟨some 46, .mv (.t 13), none, []⟩,
  ⟨some 47, .call 19 [.t 43, .t 44, .t 45, .t 46], none, []⟩,
  ⟨some 48, .len (.t 47), none, []⟩,
  ⟨some 49, .bin .neq (.t 48) (.c (.int .i64 0)), none, []⟩] [7, 8, 9, 40, 49]
theorem r4_10 : type_of% (@rr _ _ c4_10.eq_1) := rr c4_10.eq_1
def c4_11 : ACode := .ops [⟨some 6, .mv (.c (.bool false)), none, []⟩] [6]
theorem r4_11 : type_of% (@rr _ _ c4_11.eq_1) := rr c4_11.eq_1
def c4_12 : ACode := .seq c4_11 .ret
theorem r4_12 : type_of% (@rr _ _ c4_12.eq_1) := rr c4_12.eq_1
def c4_13 : ACode := .cond (.t 49) c4_12 .skip
theorem r4_13 : type_of% (@rr _ _ c4_13.eq_1) := rr c4_13.eq_1
def c4_14 : ACode := .seq c4_10 c4_13
theorem r4_14 : type_of% (@rr _ _ c4_14.eq_1) := rr c4_14.eq_1
def c4_15 : ACode := .seq c4_9 c4_14
theorem r4_15 : type_of% (@rr _ _ c4_15.eq_1) := rr c4_15.eq_1
def c4_16 : ACode := .block 1 c4_15
theorem r4_16 : type_of% (@rr _ _ c4_16.eq_1) := rr c4_16.eq_1
def c4_17 : ACode := .ops [⟨some 50, .bin .add (.t 40) (.c (.int .i64 1)), none, []⟩,
  ⟨some 40, .mv (.t 50), none, []⟩] [7, 8, 9, 40]
theorem r4_17 : type_of% (@rr _ _ c4_17.eq_1) := rr c4_17.eq_1
def c4_18 : ACode := .seq c4_16 c4_17
theorem r4_18 : type_of% (@rr _ _ c4_18.eq_1) := rr c4_18.eq_1
def c4_19 : ACode := .seq c4_8 c4_18
theorem r4_19 : type_of% (@rr _ _ c4_19.eq_1) := rr c4_19.eq_1
def c4_20 : ACode := .seq c4_7 c4_19
theorem r4_20 : type_of% (@rr _ _ c4_20.eq_1) := rr c4_20.eq_1
def c4_21 : ACode := .keep [7, 8, 9, 40] [7, 8, 9] c4_20
theorem r4_21 : type_of% (@rr _ _ c4_21.eq_1) := rr c4_21.eq_1
def c4_22 : ACode := .loop c4_21
theorem r4_22 : type_of% (@rr _ _ c4_22.eq_1) := rr c4_22.eq_1
def c4_23 : ACode := .block 0 c4_22
theorem r4_23 : type_of% (@rr _ _ c4_23.eq_1) := rr c4_23.eq_1
def c4_24 : ACode := .seq c4_6 c4_23
theorem r4_24 : type_of% (@rr _ _ c4_24.eq_1) := rr c4_24.eq_1
def c4_25 : ACode := .ops [⟨some 51, .call 18 [], none, []⟩,
  ⟨some 6, .mv (.t 51), none, []⟩] [6]
theorem r4_25 : type_of% (@rr _ _ c4_25.eq_1) := rr c4_25.eq_1
def c4_26 : ACode := .seq c4_25 .ret
theorem r4_26 : type_of% (@rr _ _ c4_26.eq_1) := rr c4_26.eq_1
def c4_27 : ACode := .seq c4_24 c4_26
theorem r4_27 : type_of% (@rr _ _ c4_27.eq_1) := rr c4_27.eq_1
def c4_28 : ACode := .cond (.t 39) c4_27 .skip
theorem r4_28 : type_of% (@rr _ _ c4_28.eq_1) := rr c4_28.eq_1
def c4_29 : ACode := .seq c4_5 c4_28
theorem r4_29 : type_of% (@rr _ _ c4_29.eq_1) := rr c4_29.eq_1
def c4_30 : ACode := .ops [⟨some 53, .load 10 true (.t 9), none, [9]⟩,
  ⟨some 54, .mv (.t 10), none, []⟩,
  ⟨some 55, .mv (.t 11), none, []⟩,
  ⟨some 56, .call 15 [.t 53, .t 54, .t 55], none, []⟩,
  ⟨some 52, .mv (.t 56), none, []⟩,
  ⟨some 57, .ext (.t 52) 0, none, []⟩,
  ⟨some 58, .ext (.t 52) 1, none, []⟩,
  ⟨some 14, .alloc [.int .i64 0, .int .i64 0, .int .i64 0, .int .i64 0, .int .i64 0, .int .i64 0, .int .i64 0, .int .i64 0, .int .i64 0, .int .i64 0], none, []⟩,
  ⟨some 15, .alloc [.int .i64 0, .int .i64 0, .int .i64 0, .int .i64 0, .int .i64 0, .int .i64 0, .int .i64 0, .int .i64 0, .int .i64 0, .int .i64 0], none, []⟩,
  ⟨none, .store (.t 14) 10 (.t 57), none, [14]⟩,
  ⟨none, .store (.t 15) 10 (.t 58), none, [15]⟩] [7, 8, 9, 10, 14, 15]
theorem r4_30 : type_of% (@rr _ _ c4_30.eq_1) := rr c4_30.eq_1
def c4_31 : ACode := .ops [⟨some 59, .load 6 true (.t 7), none, [7]⟩,
  ⟨some 60, .load 17 true (.t 8), none, [8]⟩,
  ⟨some 61, .load 10 true (.t 9), none, [9]⟩,
  ⟨some 62, .mv (.t 10), none, []⟩,
  ⟨some 63, .call 19 [.t 59, .t 60, .t 61, .t 62], none, []⟩,
  ⟨some 64, .len (.t 63), none, []⟩,
  ⟨some 65, .load 6 true (.t 7), none, [7]⟩,
  ⟨some 66, .load 17 true (.t 8), none, [8]⟩,
  ⟨some 67, .load 10 true (.t 14), none, [14]⟩,
  ⟨some 68, .mv (.t 10), none, []⟩,
  ⟨some 69, .call 19 [.t 65, .t 66, .t 67, .t 68], none, []⟩,
  ⟨some 70, .len (.t 69), none, []⟩,
  ⟨some 71, .load 6 true (.t 7), none, [7]⟩,
  ⟨some 72, .load 17 true (.t 8), none, [8]⟩,
  ⟨some 73, .load 10 true (.t 15), none, [15]⟩,
  ⟨some 74, .mv (.t 10), none, []⟩,
  ⟨some 75, .call 19 [.t 71, .t 72, .t 73, .t 74], none, []⟩,
  ⟨some 76, .len (.t 75), none, []⟩,
  ⟨some 16, .mv (.t 64), none, []⟩,
  ⟨some 17, .mv (.t 70), none, []⟩,
  ⟨some 18, .mv (.t 76), none, []⟩] [7, 8, 9, 10, 14, 15, 16, 17, 18]
theorem r4_31 : type_of% (@rr _ _ c4_31.eq_1) := rr c4_31.eq_1
def c4_32 : ACode := .ops [⟨some 19, .mv (.c (.int .i64 0)), none, []⟩] [7, 8, 9, 10, 14, 15, 16, 17, 18, 19]
theorem r4_32 : type_of% (@rr _ _ c4_32.eq_1) := rr c4_32.eq_1
def c4_33 : ACode := .ops [⟨some 77, .mv (.t 19), none, []⟩,
  ⟨some 78, .mv (.t 10), none, []⟩,
  ⟨some 79, .bin .lss (.t 77) (.t 78), none, []⟩] [7, 8, 9, 10, 14, 15, 16, 17, 18, 19, 79]
theorem r4_33 : type_of% (@rr _ _ c4_33.eq_1) := rr c4_33.eq_1
def c4_34 : ACode := .cond (.t 79) .skip (.exit 2)
theorem r4_34 : type_of% (@rr _ _ c4_34.eq_1) := rr c4_34.eq_1
def c4_35 : ACode := .seq c4_33 c4_34
theorem r4_35 : type_of% (@rr _ _ c4_35.eq_1) := rr c4_35.eq_1
def c4_36 : ACode := .ops [⟨some 82, .load 6 true (.t 7), none, [7]⟩,
  ⟨some 83, .load 17 true (.t 8), none, [8]⟩,
  ⟨some 84, .load 10 true (.t 9), none, [9]⟩,
  ⟨some 85, .mv (.t 19), none, []⟩,
  ⟨some 86, .call 19 [.t 82, .t 83, .t 84, .t 85], none, []⟩,
  ⟨some 87, .len (.t 86), none, []⟩,
  ⟨some 88, .bin .neq (.t 87) (.c (.int .i64 0)), none, []⟩] [7, 8, 9, 10, 14, 15, 16, 17, 18, 19, 88]
theorem r4_36 : type_of% (@rr _ _ c4_36.eq_1) := rr c4_36.eq_1
def c4_37 : ACode := .ops [⟨some 6, .mv (.c (.bool false)), none, []⟩] [6]
theorem r4_37 : type_of% (@rr _ _ c4_37.eq_1) := rr c4_37.eq_1
def c4_38 : ACode := .seq c4_37 .ret
theorem r4_38 : type_of% (@rr _ _ c4_38.eq_1) := rr c4_38.eq_1
def c4_39 : ACode := .cond (.t 88) c4_38 .skip
theorem r4_39 : type_of% (@rr _ _ c4_39.eq_1) := rr c4_39.eq_1
def c4_40 : ACode := .seq c4_36 c4_39
theorem r4_40 : type_of% (@rr _ _ c4_40.eq_1) := rr c4_40.eq_1
def c4_41 : ACode := .block 3 c4_40
theorem r4_41 : type_of% (@rr _ _ c4_41.eq_1) := rr c4_41.eq_1
def c4_42 : ACode := .ops [⟨some 80, .mv (.t 19), none, []⟩,
  ⟨some 81, .bin .add (.t 80) (.c (.int .i64 1)), none, []⟩,
  ⟨some 19, .mv (.t 81), none, []⟩] [7, 8, 9, 10, 14, 15, 16, 17, 18, 19]
theorem r4_42 : type_of% (@rr _ _ c4_42.eq_1) := rr c4_42.eq_1
def c4_43 : ACode := .seq c4_41 c4_42
theorem r4_43 : type_of% (@rr _ _ c4_43.eq_1) := rr c4_43.eq_1
def c4_44 : ACode := .seq c4_35 c4_43
theorem r4_44 : type_of% (@rr _ _ c4_44.eq_1) := rr c4_44.eq_1
def c4_45 : ACode := .keep [7, 8, 9, 10, 14, 15, 16, 17, 18, 19] [7, 8, 9, 14, 15] c4_44
theorem r4_45 : type_of% (@rr _ _ c4_45.eq_1) := rr c4_45.eq_1
def c4_46 : ACode := .loop c4_45
theorem r4_46 : type_of% (@rr _ _ c4_46.eq_1) := rr c4_46.eq_1
def c4_47 : ACode := .block 2 c4_46
theorem r4_47 : type_of% (@rr _ _ c4_47.eq_1) := rr c4_47.eq_1
def c4_48 : ACode := .seq c4_32 c4_47
theorem r4_48 : type_of% (@rr _ _ c4_48.eq_1) := rr c4_48.eq_1
def c4_49 : ACode := .ops [⟨some 89, .mv (.t 10), none, []⟩,
  ⟨some 90, .bin .add (.t 89) (.c (.int .i64 1)), none, []⟩,
  ⟨some 20, .mv (.t 90), none, []⟩] [7, 8, 9, 14, 15, 16, 17, 18, 20]
theorem r4_49 : type_of% (@rr _ _ c4_49.eq_1) := rr c4_49.eq_1
def c4_50 : ACode := .ops [⟨some 91, .mv (.t 20), none, []⟩,
  ⟨some 92, .bin .lss (.t 91) (.c (.int .i64 5)), none, []⟩] [7, 8, 9, 14, 15, 16, 17, 18, 20, 92]
theorem r4_50 : type_of% (@rr _ _ c4_50.eq_1) := rr c4_50.eq_1
def c4_51 : ACode := .cond (.t 92) .skip (.exit 4)
theorem r4_51 : type_of% (@rr _ _ c4_51.eq_1) := rr c4_51.eq_1
def c4_52 : ACode := .seq c4_50 c4_51
theorem r4_52 : type_of% (@rr _ _ c4_52.eq_1) := rr c4_52.eq_1
def c4_53 : ACode := .ops [⟨some 95, .load 6 true (.t 7), none, [7]⟩,
  ⟨some 96, .load 17 true (.t 8), none, [8]⟩,
  ⟨some 97, .load 10 true (.t 9), none, [9]⟩,
  ⟨some 98, .mv (.t 20), none, []⟩,
  ⟨some 99, .call 19 [.t 95, .t 96, .t 97, .t 98], none, []⟩,
  ⟨some 100, .len (.t 99), none, []⟩,
  ⟨some 101, .load 6 true (.t 7), none, [7]⟩,
  ⟨some 102, .load 17 true (.t 8), none, [8]⟩,
  ⟨some 103, .load 10 true (.t 14), none, [14]⟩,
  ⟨some 104, .mv (.t 20), none, []⟩,
  ⟨some 105, .call 19 [.t 101, .t 102, .t 103, .t 104], none, []⟩,
  ⟨some 106, .len (.t 105), none, []⟩,
  ⟨some 107, .bin .neq (.t 100) (.t 106), none, []⟩] [7, 8, 9, 14, 15, 16, 17, 18, 20, 107]
theorem r4_53 : type_of% (@rr _ _ c4_53.eq_1) := rr c4_53.eq_1
def c4_54 : ACode := .ops [⟨some 6, .mv (.c (.bool false)), none, []⟩] [6]
theorem r4_54 : type_of% (@rr _ _ c4_54.eq_1) := rr c4_54.eq_1
def c4_55 : ACode := .seq c4_54 .ret
theorem r4_55 : type_of% (@rr _ _ c4_55.eq_1) := rr c4_55.eq_1
def c4_56 : ACode := .cond (.t 107) c4_55 .skip
theorem r4_56 : type_of% (@rr _ _ c4_56.eq_1) := rr c4_56.eq_1
def c4_57 : ACode := .seq c4_53 c4_56
theorem r4_57 : type_of% (@rr _ _ c4_57.eq_1) := rr c4_57.eq_1
def c4_58 : ACode := .block 5 c4_57
theorem r4_58 : type_of% (@rr _ _ c4_58.eq_1) := rr c4_58.eq_1
def c4_59 : ACode := .ops [⟨some 93, .mv (.t 20), none, []⟩,
  ⟨some 94, .bin .add (.t 93) (.c (.int .i64 1)), none, []⟩,
  ⟨some 20, .mv (.t 94), none, []⟩] [7, 8, 9, 14, 15, 16, 17, 18, 20]
theorem r4_59 : type_of% (@rr _ _ c4_59.eq_1) := rr c4_59.eq_1
def c4_60 : ACode := .seq c4_58 c4_59
theorem r4_60 : type_of% (@rr _ _ c4_60.eq_1) := rr c4_60.eq_1
def c4_61 : ACode := .seq c4_52 c4_60
theorem r4_61 : type_of% (@rr _ _ c4_61.eq_1) := rr c4_61.eq_1
def c4_62 : ACode := .keep [7, 8, 9, 14, 15, 16, 17, 18, 20] [7, 8, 9, 14, 15] c4_61
theorem r4_62 : type_of% (@rr _ _ c4_62.eq_1) := rr c4_62.eq_1
def c4_63 : ACode := .loop c4_62
theorem r4_63 : type_of% (@rr _ _ c4_63.eq_1) := rr c4_63.eq_1
def c4_64 : ACode := .block 4 c4_63
theorem r4_64 : type_of% (@rr _ _ c4_64.eq_1) := rr c4_64.eq_1
def c4_65 : ACode := .seq c4_49 c4_64
theorem r4_65 : type_of% (@rr _ _ c4_65.eq_1) := rr c4_65.eq_1
def c4_66 : ACode := .ops [⟨some 108, .load 10 true (.t 14), none, [14]⟩,
  ⟨some 109, .call 20 [.t 108], none, []⟩,
  ⟨some 110, .un .not (.t 109), none, []⟩,
  ⟨some 111, .mv (.t 110), none, []⟩,
  ⟨some 112, .load 10 true (.t 15), some (111, true), [15]⟩,
  ⟨some 113, .call 20 [.t 112], some (111, true), []⟩,
  ⟨some 114, .un .not (.t 113), some (111, true), []⟩,
  ⟨some 115, .pick (.t 111) (.t 114) (.c (.bool false)), none, []⟩,
  ⟨some 116, .mv (.t 115), none, []⟩,
  ⟨some 117, .mv (.t 17), some (116, true), []⟩,
  ⟨some 118, .mv (.t 18), some (116, true), []⟩,
  ⟨some 119, .bin .add (.t 117) (.t 118), some (116, true), []⟩,
  ⟨some 120, .mv (.t 16), some (116, true), []⟩,
  ⟨some 121, .bin .sub (.t 120) (.c (.int .i64 1)), some (116, true), []⟩,
  ⟨some 122, .bin .eql (.t 119) (.t 121), some (116, true), []⟩,
  ⟨some 123, .pick (.t 116) (.t 122) (.c (.bool false)), none, []⟩,
  ⟨some 124, .mv (.t 123), none, []⟩,
  ⟨some 125, .mv (.t 17), some (124, true), []⟩,
  ⟨some 126, .mv (.t 18), some (124, true), []⟩,
  ⟨some 127, .bin .leq (.t 125) (.t 126), some (124, true), []⟩,
  ⟨some 128, .pick (.t 124) (.t 127) (.c (.bool false)), none, []⟩,
  ⟨some 129, .mv (.t 128), none, []⟩,
  ⟨some 130, .mv (.t 18), some (129, true), []⟩,
  ⟨some 131, .mv (.t 17), some (129, true), []⟩,
  ⟨some 132, .bin .add (.t 131) (.c (.int .i64 1)), some (129, true), []⟩,
  ⟨some 133, .bin .leq (.t 130) (.t 132), some (129, true), []⟩,
  ⟨some 134, .pick (.t 129) (.t 133) (.c (.bool false)), none, []⟩,
  ⟨some 135, .mv (.t 134), none, []⟩,
  ⟨some 136, .call 18 [], some (135, true), []⟩,
  ⟨some 137, .pick (.t 135) (.t 136) (.c (.bool false)), none, []⟩,
  ⟨some 6, .mv (.t 137), none, []⟩] [6]
theorem r4_66 : type_of% (@rr _ _ c4_66.eq_1) := rr c4_66.eq_1
def c4_67 : ACode := .seq c4_66 .ret
theorem r4_67 : type_of% (@rr _ _ c4_67.eq_1) := rr c4_67.eq_1
def c4_68 : ACode := .seq c4_65 c4_67
theorem r4_68 : type_of% (@rr _ _ c4_68.eq_1) := rr c4_68.eq_1
def c4_69 : ACode := .seq c4_48 c4_68
theorem r4_69 : type_of% (@rr _ _ c4_69.eq_1) := rr c4_69.eq_1
def c4_70 : ACode := .seq c4_31 c4_69
theorem r4_70 : type_of% (@rr _ _ c4_70.eq_1) := rr c4_70.eq_1
def c4_71 : ACode := .seq c4_30 c4_70
theorem r4_71 : type_of% (@rr _ _ c4_71.eq_1) := rr c4_71.eq_1
def c4_72 : ACode := .seq c4_29 c4_71
theorem r4_72 : type_of% (@rr _ _ c4_72.eq_1) := rr c4_72.eq_1
def c4_73 : ACode := .seq c4_4 c4_72
theorem r4_73 : type_of% (@rr _ _ c4_73.eq_1) := rr c4_73.eq_1
def c4_74 : ACode := .seq c4_3 c4_73
theorem r4_74 : type_of% (@rr _ _ c4_74.eq_1) := rr c4_74.eq_1
def c4_75 : ACode := .seq c4_2 c4_74
theorem r4_75 : type_of% (@rr _ _ c4_75.eq_1) := rr c4_75.eq_1
def c4_76 : ACode := .seq c4_1 c4_75
theorem r4_76 : type_of% (@rr _ _ c4_76.eq_1) := rr c4_76.eq_1
def c4_77 : ACode := .seq c4_0 c4_76
theorem r4_77 : type_of% (@rr _ _ c4_77.eq_1) := rr c4_77.eq_1
def a4 : AFun := ⟨3, 138, c4_77, [.t 6]⟩
attribute [simp] r4_0 r4_1 r4_2 r4_3 r4_4 r4_5 r4_6 r4_7 r4_8 r4_9 r4_10 r4_11 r4_12 r4_13 r4_14 r4_15 r4_16 r4_17 r4_18 r4_19 r4_20 r4_21 r4_22 r4_23 r4_24 r4_25 r4_26 r4_27 r4_28 r4_29 r4_30 r4_31 r4_32 r4_33 r4_34 r4_35 r4_36 r4_37 r4_38 r4_39 r4_40 r4_41 r4_42 r4_43 r4_44 r4_45 r4_46 r4_47 r4_48 r4_49 r4_50 r4_51 r4_52 r4_53 r4_54 r4_55 r4_56 r4_57 r4_58 r4_59 r4_60 r4_61 r4_62 r4_63 r4_64 r4_65 r4_66 r4_67 r4_68 r4_69 r4_70 r4_71 r4_72 r4_73 r4_74 r4_75 r4_76 r4_77
theorem m4 : mFun Try.prog Try.f4 a4 = true := by decide +kernel
def c18_0 : ACode := .ops [⟨some 0, .mv (.c (.bool false)), none, []⟩] []
def c18_1 : ACode := .ops [⟨some 11, .call 38 [], none, []⟩,
  ⟨some 1, .alloc [.int .i64 0, .int .i64 0, .int .i64 0, .int .i64 0, .int .i64 0, .nils], none, []⟩,
  ⟨none, .store (.t 1) 6 (.t 11), none, [1]⟩] [1]
def c18_2 : ACode := .ops [⟨some 12, .build [.int .i64 0, .int .i64 0] [(0, 1, .c (.int .i64 0)), (1, 1, .c (.int .i64 9))], none, []⟩,
  ⟨some 13, .build [.int .i64 0, .int .i64 0, .int .i64 0, .int .i64 0, .int .i64 0, .int .i64 0, .int .i64 0, .int .i64 0, .int .i64 0, .int .i64 0] [(0, 2, .t 12)], none, []⟩,
  ⟨some 14, .build [.int .i64 0, .int .i64 0, .int .i64 0, .int .i64 0, .int .i64 0, .int .i64 0, .int .i64 0, .int .i64 0, .int .i64 0, .int .i64 0, .int .i64 0, .int .i64 0, .int .i64 0, .int .i64 0, .int .i64 0, .bool false, .int .i64 0] [(0, 1, .c (.int .i64 3)), (2, 10, .t 13)], none, []⟩,
  ⟨some 2, .alloc [.int .i64 0, .int .i64 0, .int .i64 0, .int .i64 0, .int .i64 0, .int .i64 0, .int .i64 0, .int .i64 0, .int .i64 0, .int .i64 0, .int .i64 0, .int .i64 0, .int .i64 0, .int .i64 0, .int .i64 0, .bool false, .int .i64 0], none, []⟩,
  ⟨none, .store (.t 2) 17 (.t 14), none, [2]⟩] [1, 2]
def c18_3 : ACode := .ops [⟨some 15, .load 17 true (.t 2), none, [2]⟩,
  ⟨some 16, .call 10 [.t 15], none, []⟩,
  ⟨some 3, .alloc [.int .i64 0, .int .i64 0, .int .i64 0, .int .i64 0, .int .i64 0, .int .i64 0, .int .i64 0, .int .i64 0, .int .i64 0, .int .i64 0], none, []⟩,
  ⟨none, .store (.t 3) 10 (.t 16), none, [3]⟩] [1, 2, 3]
def c18_4 : ACode := .ops [⟨some 18, .load 6 true (.t 1), none, [1]⟩,
  ⟨some 19, .load 17 true (.t 2), none, [2]⟩,
  ⟨some 20, .load 10 true (.t 3), none, [3]⟩,
  ⟨some 21, .call 16 [.t 18, .t 19, .t 20], none, []⟩,
  ⟨some 17, .mv (.t 21), none, []⟩,
  ⟨some 22, .ext (.t 17) 0, none, []⟩,
  ⟨some 23, .ext (.t 17) 1, none, []⟩,
  ⟨some 24, .ext (.t 17) 2, none, []⟩,
  ⟨some 4, .mv (.t 22), none, []⟩,
  ⟨some 5, .mv (.t 23), none, []⟩,
  ⟨some 6, .mv (.t 24), none, []⟩] [1, 2, 3, 4, 5, 6]
def c18_5 : ACode := .ops [⟨some 25, .load 10 true (.t 3), none, [3]⟩,
  ⟨some 7, .alloc [.int .i64 0, .int .i64 0, .int .i64 0, .int .i64 0, .int .i64 0, .int .i64 0, .int .i64 0, .int .i64 0, .int .i64 0, .int .i64 0], none, []⟩,
  ⟨none, .store (.t 7) 10 (.t 25), none, [7]⟩] [1, 2, 3, 4, 5, 6, 7]
def c18_6 : ACode := .ops [⟨some 26, .iad (.t 7) (.c (.int .i64 0)) 2 5, none, [7]⟩,
  ⟨some 27, .fad (.t 26) 1, none, [7]⟩,
  ⟨none, .store (.t 27) 1 (.c (.int .i64 5)), none, [7]⟩] [1, 2, 3, 4, 5, 6, 7]
def c18_7 : ACode := .ops [⟨some 28, .load 6 true (.t 1), none, [1]⟩,
  ⟨some 29, .load 17 true (.t 2), none, [2]⟩,
  ⟨some 30, .load 10 true (.t 7), none, [7]⟩,
  ⟨some 31, .call 11 [.t 28, .t 29, .t 30], none, []⟩,
  ⟨some 8, .mv (.t 31), none, []⟩] [1, 2, 3, 4, 5, 6, 7, 8]
def c18_8 : ACode := .ops [⟨some 32, .fad (.t 2) 15, none, [2]⟩,
  ⟨none, .store (.t 32) 1 (.c (.bool true)), none, [2]⟩] [1, 2, 3, 4, 5, 6, 7, 8]
def c18_9 : ACode := .ops [⟨some 34, .load 10 true (.t 7), none, [7]⟩,
  ⟨some 35, .call 17 [.t 34], none, []⟩,
  ⟨some 33, .mv (.t 35), none, []⟩,
  ⟨some 36, .ext (.t 33) 0, none, []⟩,
  ⟨some 37, .ext (.t 33) 1, none, []⟩,
  ⟨some 9, .alloc [.int .i64 0, .int .i64 0, .int .i64 0, .int .i64 0], none, []⟩,
  ⟨none, .store (.t 9) 4 (.t 36), none, [9]⟩,
  ⟨some 10, .mv (.t 37), none, []⟩] [1, 2, 3, 4, 5, 6, 7, 8, 9, 10]
def c18_10 : ACode := .ops [⟨some 38, .load 6 true (.t 1), none, [1]⟩,
  ⟨some 39, .fad (.t 2) 2, none, [2]⟩,
  ⟨some 40, .load 10 true (.t 39), none, [2]⟩,
  ⟨some 41, .build [.int .i64 0, .int .i64 0, .int .i64 0, .int .i64 0, .int .i64 0, .int .i64 0, .int .i64 0, .int .i64 0, .int .i64 0, .int .i64 0, .int .i64 0, .int .i64 0, .int .i64 0, .int .i64 0, .int .i64 0, .bool false, .int .i64 0] [(0, 1, .c (.int .i64 3)), (2, 10, .t 40)], none, []⟩,
  ⟨some 42, .load 10 true (.t 3), none, [3]⟩,
  ⟨some 43, .call 11 [.t 38, .t 41, .t 42], none, []⟩,
  ⟨some 44, .un .not (.t 43), none, []⟩,
  ⟨some 45, .mv (.t 44), none, []⟩,
  ⟨some 46, .mv (.t 4), some (45, true), []⟩,
  ⟨some 47, .bin .eql (.t 46) (.c (.int .i64 0)), some (45, true), []⟩,
  ⟨some 48, .pick (.t 45) (.t 47) (.c (.bool false)), none, []⟩,
  ⟨some 49, .mv (.t 48), none, []⟩,
  ⟨some 50, .mv (.t 5), some (49, true), []⟩,
  ⟨some 51, .bin .eql (.t 50) (.c (.int .i64 5)), some (49, true), []⟩,
  ⟨some 52, .pick (.t 49) (.t 51) (.c (.bool false)), none, []⟩,
  ⟨some 53, .mv (.t 52), none, []⟩,
  ⟨some 54, .mv (.t 6), some (53, true), []⟩,
  ⟨some 55, .pick (.t 53) (.t 54) (.c (.bool false)), none, []⟩,
  ⟨some 56, .mv (.t 55), none, []⟩,
  ⟨some 57, .mv (.t 8), some (56, true), []⟩,
  ⟨some 58, .pick (.t 56) (.t 57) (.c (.bool false)), none, []⟩,
  ⟨some 59, .mv (.t 58), none, []⟩,
  ⟨some 60, .load 6 true (.t 1), some (59, true), [1]⟩,
  ⟨some 61, .load 17 true (.t 2), some (59, true), [2]⟩,
  ⟨some 62, .load 10 true (.t 7), some (59, true), [7]⟩,
  ⟨some 63, .call 11 [.t 60, .t 61, .t 62], some (59, true), []⟩,
  ⟨some 64, .un .not (.t 63), some (59, true), []⟩,
  ⟨some 65, .pick (.t 59) (.t 64) (.c (.bool false)), none, []⟩,
  ⟨some 66, .mv (.t 65), none, []⟩,
  ⟨some 67, .load 6 true (.t 1), some (66, true), [1]⟩,
  ⟨some 68, .load 17 true (.t 2), some (66, true), [2]⟩,
  ⟨some 69, .load 4 true (.t 9), some (66, true), [9]⟩,
  ⟨some 70, .mv (.t 10), some (66, true), []⟩,
  ⟨some 71, .call 12 [.t 67, .t 68, .t 69, .t 70], some (66, true), []⟩,
  ⟨some 72, .pick (.t 66) (.t 71) (.c (.bool false)), none, []⟩,
  ⟨some 0, .mv (.t 72), none, []⟩] [0]
def c18_11 : ACode := .seq c18_10 .ret
def c18_12 : ACode := .seq c18_9 c18_11
def c18_13 : ACode := .seq c18_8 c18_12
def c18_14 : ACode := .seq c18_7 c18_13
def c18_15 : ACode := .seq c18_6 c18_14
def c18_16 : ACode := .seq c18_5 c18_15
def c18_17 : ACode := .seq c18_4 c18_16
def c18_18 : ACode := .seq c18_3 c18_17
def c18_19 : ACode := .seq c18_2 c18_18
def c18_20 : ACode := .seq c18_1 c18_19
def c18_21 : ACode := .seq c18_0 c18_20
def a18 : AFun := ⟨0, 73, c18_21, [.t 0]⟩
theorem m18 : mFun Try.prog Try.f18 a18 = true := by decide +kernel
def c38_0 : ACode := .ops [⟨some 0, .alloc [.int .i64 0, .int .i64 0, .int .i64 0, .int .i64 0, .int .i64 0, .nils], none, []⟩] [0]
def c38_1 : ACode := .ops [⟨some 2, .build [.bool false, .int .i64 0, .int .i64 0, .int .i64 0, .int .i64 0, .int .i64 0] [(3, 1, .c (.int .i64 5)), (4, 1, .c (.int .i64 1)), (5, 1, .c (.int .i64 2))], none, []⟩,
  ⟨some 3, .call 56 [.t 2], none, []⟩,
  ⟨some 4, .build [.bool false, .int .i64 0, .int .i64 0, .int .i64 0, .int .i64 0, .int .i64 0] [(0, 1, .c (.bool true)), (1, 1, .c (.int .i64 10))], none, []⟩,
  ⟨some 5, .call 56 [.t 4], none, []⟩,
  ⟨some 6, .build [.bool false, .int .i64 0, .int .i64 0, .int .i64 0, .int .i64 0, .int .i64 0] [(0, 1, .c (.bool true)), (1, 1, .c (.int .i64 20))], none, []⟩,
  ⟨some 7, .call 56 [.t 6], none, []⟩,
  ⟨some 8, .mkrow 1 3 1 [.int .u64 0] [(0, 1, .t 3), (1, 1, .t 5), (2, 1, .t 7)], none, []⟩,
  ⟨some 1, .mv (.t 8), none, []⟩] [0, 1]
def c38_2 : ACode := .ops [⟨some 9, .build [.int .i64 0, .int .i64 0, .int .i64 0] [(0, 1, .c (.int .i64 3))], none, []⟩,
  ⟨some 10, .mv (.t 1), none, []⟩,
  ⟨some 11, .build [.int .i64 0, .nils] [(1, 1, .t 10)], none, []⟩,
  ⟨some 12, .mkrow 12 1 2 [.int .i64 0, .nils] [(0, 2, .t 11)], none, []⟩,
  ⟨some 13, .build [.int .i64 0, .int .i64 0, .int .i64 0, .int .i64 0, .int .i64 0, .nils] [(0, 1, .c (.int .i64 1)), (1, 1, .c (.int .i64 1)), (2, 3, .t 9), (5, 1, .t 12)], none, []⟩,
  ⟨none, .store (.t 0) 6 (.t 13), none, [0]⟩] [0]
def c38_3 : ACode := .seq c38_2 .ret
def c38_4 : ACode := .seq c38_1 c38_3
def c38_5 : ACode := .seq c38_0 c38_4
def a38 : AFun := ⟨0, 14, c38_5, [.cell 0 6 true]⟩
theorem m38 : mFun Try.prog Try.f38 a38 = true := by decide +kernel
def texts18 : List (Nat × AFun) := [(10, a10), (11, a11), (12, a12), (15, a15), (16, a16), (17, a17), (18, a18), (19, a19), (20, a20), (23, a23), (24, a24), (29, a29), (30, a30), (31, a31), (32, a32), (33, a33), (34, a34), (35, a35), (36, a36), (37, a37), (38, a38), (39, a39), (40, a40), (41, a41), (42, a42), (43, a43), (47, a47), (48, a48), (49, a49), (56, a56), (57, a57), (58, a58), (59, a59), (60, a60), (61, a61), (62, a62), (63, a63), (64, a64), (65, a65), (68, a68), (70, a70), (71, a71), (72, a72), (73, a73), (74, a74), (77, a77), (78, a78), (79, a79), (80, a80), (81, a81), (85, a85), (86, a86), (87, a87), (88, a88), (89, a89), (90, a90), (91, a91), (92, a92), (105, a105)]
theorem texts18_good : Go.Am.Good Try.prog texts18 :=
  good_cons Try.func10 m10 <| good_cons Try.func11 m11 <| good_cons Try.func12 m12 <| good_cons Try.func15 m15 <| good_cons Try.func16 m16 <| good_cons Try.func17 m17 <| good_cons Try.func18 m18 <| good_cons Try.func19 m19 <| good_cons Try.func20 m20 <| good_cons Try.func23 m23 <| good_cons Try.func24 m24 <| good_cons Try.func29 m29 <| good_cons Try.func30 m30 <| good_cons Try.func31 m31 <| good_cons Try.func32 m32 <| good_cons Try.func33 m33 <| good_cons Try.func34 m34 <| good_cons Try.func35 m35 <| good_cons Try.func36 m36 <| good_cons Try.func37 m37 <| good_cons Try.func38 m38 <| good_cons Try.func39 m39 <| good_cons Try.func40 m40 <| good_cons Try.func41 m41 <| good_cons Try.func42 m42 <| good_cons Try.func43 m43 <| good_cons Try.func47 m47 <| good_cons Try.func48 m48 <| good_cons Try.func49 m49 <| good_cons Try.func56 m56 <| good_cons Try.func57 m57 <| good_cons Try.func58 m58 <| good_cons Try.func59 m59 <| good_cons Try.func60 m60 <| good_cons Try.func61 m61 <| good_cons Try.func62 m62 <| good_cons Try.func63 m63 <| good_cons Try.func64 m64 <| good_cons Try.func65 m65 <| good_cons Try.func68 m68 <| good_cons Try.func70 m70 <| good_cons Try.func71 m71 <| good_cons Try.func72 m72 <| good_cons Try.func73 m73 <| good_cons Try.func74 m74 <| good_cons Try.func77 m77 <| good_cons Try.func78 m78 <| good_cons Try.func79 m79 <| good_cons Try.func80 m80 <| good_cons Try.func81 m81 <| good_cons Try.func85 m85 <| good_cons Try.func86 m86 <| good_cons Try.func87 m87 <| good_cons Try.func88 m88 <| good_cons Try.func89 m89 <| good_cons Try.func90 m90 <| good_cons Try.func91 m91 <| good_cons Try.func92 m92 <| good_cons Try.func105 m105 <| good_nil
theorem c_closed18 : Contract Try.prog 18 (sp0 (some true)) := contract_closedG mixed texts18_good lib (NW := fun f => if f = 41 then some 5 else none) (m := 2000) (n := 80) (by decide +kernel)
set_option maxHeartbeats 4000000 in
set_option maxRecDepth 100000 in
theorem runs_law (f : Forest) (a : Ask) (spans : List Int) (c : Bool) (h : some true = some c) : Runs (tbl [(7, sp1 ModelC), (8, sp2 QueryC), (14, sp3 Within), (10, sp1 fun q => some (startOf q)), (9, sp2 PartC), (16, sp3 SplitC), (19, sp4 CutsC), (15, sp3 CutB), (20, sp1 fun (b : Box) => some b.empty), (18, sp0 (some true))]) a4 [Arg.enc f, Arg.enc a, Arg.enc spans] (Arg.enc c) := by
  cases h
  refine ⟨rfl, fun g => run_def ?_⟩
  unfold a4
  have hm := rm_modelOf f
  have hM : ModelC f = some (modelOf f) := rfl
  generalize modelOf f = m at *
  have hQ : QueryC a m = some (queryOf m a) := part_of ⟨hm.dim.1, hm.dim.2, hm.classes.1, hm.classes.2⟩ _
  obtain ⟨hsm0, hok0, hne0⟩ := start_facts m a
  have hqok := ok_queryOf m a hm
  generalize queryOf m a = q at *
  have hP : PartC (startOf q) spans = some (partTo (startOf q) spans 5) := part_of ⟨hsm0, hne0⟩ _
  have hpo := partTo_ok hne0 spans (Nat.le_refl 5)
  have hsm := hpo.small hsm0
  have hne := hpo.some
  have hok := small_ok hsm hne
  clear hpo hsm0 hok0 hne0
  generalize partTo (startOf q) spans 5 = b at *
  have hK : ∀ (x : Box) (i : Int), 0 ≤ i → i < 5 → CutsC m q x i = some (cutsL m q x i) := fun x i i0 i5 => part_of ⟨hm, .inr ⟨i0, by omega⟩⟩ _
  have hL : ∀ (x : Box) (i : Int), (cutsL m q x i).length ≤ maxN := fun x i => by rw [cutsL_len]; have := cutN_le hm q x i; unfold maxN; omega
  have hL2 : ∀ (x : Box) (i : Int), (cutsL m q x i).length ≤ 248 := fun x i => by rw [cutsL_len]; exact cutN_le hm q x i
  have hSp : SplitC m q b = some (splitM m q b) := part_of hm _
  rcases splitFrom_spec m q b [0, 1, 2, 3, 4] with ⟨_, h2, h3⟩ | ⟨l1, r1, k, h1, h2, h3, h4⟩
  · rw [show splitM m q b = ⟨0, 0, false⟩ from h2] at hSp
    have K0 := hK b 0 (by omega) (by omega)
    have K1 := hK b 1 (by omega) (by omega)
    have K2 := hK b 2 (by omega) (by omega)
    have K3 := hK b 3 (by omega) (by omega)
    have K4 := hK b 4 (by omega) (by omega)
    rw [h3 0 (by simp)] at K0
    rw [h3 1 (by simp)] at K1
    rw [h3 2 (by simp)] at K2
    rw [h3 3 (by simp)] at K3
    rw [h3 4 (by simp)] at K4
    simp -implicitDefEqProofs [hM, hQ, hP, hSp, run_round, K0, K1, K2, K3, K4, encL_nil]
  have hk : k ∈ ([0, 1, 2, 3, 4] : List Int) := by rw [h1]; simp
  have k0 : 0 ≤ k ∧ k < 5 := by simp at hk; omega
  have hbef : ∀ i : Int, 0 ≤ i → i < k → cutsL m q b i = [] := fun i i0 ik => by
    apply h3
    have hi : i ∈ ([0, 1, 2, 3, 4] : List Int) := by simp; omega
    have hpw : ([0, 1, 2, 3, 4] : List Int).Pairwise (· < ·) := by decide
    rw [h1] at hi hpw
    rw [List.pairwise_append] at hpw
    rcases List.mem_append.1 hi with h | h
    · exact h
    · rcases List.mem_cons.1 h with rfl | h
      · omega
      · have := List.rel_of_pairwise_cons hpw.2.1 h
        omega
  rw [show splitM m q b = ⟨k, midL (cutsL m q b k), true⟩ from h4] at hSp
  obtain ⟨d1, d2, d3, d4, d5⟩ := split_cuts m q b hne k0.1 k0.2 h2
  have hlen : 0 < (cutsL m q b k).length := List.length_pos_iff.2 h2
  have hmem : midL (cutsL m q b k) ∈ cutsL m q b k := by unfold midL; simp [show ((cutsL m q b k).length - 1) / 2 < (cutsL m q b k).length by omega]
  have hat := cuts_ok hm _ hmem
  have hCu := cutB_of hok k hat
  have e0 := hL2 b k
  have Kb := hK b k k0.1 k0.2
  have lb := hL b k
  have hL1 := hL (cutB b k (midL (cutsL m q b k))).1 k
  have hLy := hL (cutB b k (midL (cutsL m q b k))).2 k
  have Kx := hK (cutB b k (midL (cutsL m q b k))).1 k k0.1 k0.2
  have Ky := hK (cutB b k (midL (cutsL m q b k))).2 k k0.1 k0.2
  have Kx2 : ∀ i : Int, 0 ≤ i → i < 5 → i ≠ k → CutsC m q (cutB b k (midL (cutsL m q b k))).1 i = some (cutsL m q b i) := fun i i0 i5 ik => by rw [← d5 i i0 i5 ik]; exact hK _ i i0 i5
  generalize cutB b k (midL (cutsL m q b k)) = z at *
  obtain ⟨x, y⟩ := z
  simp only at d1 d2 d3 d4 hL1 hLy Kx Ky Kx2
  generalize midL (cutsL m q b k) = at_ at *
  generalize cutsL m q x k = lx at *
  generalize cutsL m q y k = ly at *
  generalize hlk : cutsL m q b k = lk at *
  have w1 : IntKind.i64.wrap (k + 1) = k + 1 := wrap64 (by omega) (by omega)
  simp -implicitDefEqProofs [hM, hQ, hP, hSp, hCu, Kb, Kx, Ky, lb, hL1, hLy]
  refine run_while (c := c4_44) (fun n s => ∃ (i : Int) (g : Nat → Nat), 0 ≤ i ∧ i ≤ k ∧ (n : Int) = k - i ∧ s = ⟨[(7, .ptr 7 (g 7) 0), (8, .ptr 8 (g 8) 0), (9, .ptr 9 (g 9) 0), (10, .int .i64 k), (14, .ptr 14 (g 14) 0), (15, .ptr 15 (g 15) 0), (16, .int .i64 lk.length), (17, .int .i64 lx.length), (18, .int .i64 ly.length), (19, .int .i64 i)],
    [(7, ⟨Row.enc m, false, 0⟩), (8, ⟨Row.enc q, false, 0⟩), (9, ⟨Row.enc b, false, 0⟩), (14, ⟨Row.enc x, false, 0⟩), (15, ⟨Row.enc y, false, 0⟩)], g⟩) k.toNat ⟨0, bump 15 (bump 14 (bump 9 (bump 8 (bump 7 (bump 4 (bump 3 g)))))), by omega, by omega, by omega, by simp⟩ ?_
  rintro n s ⟨i, g2, i0, i1, hn, rfl⟩
  by_cases c1 : i < k
  case pos =>
    have w2 : IntKind.i64.wrap (i + 1) = i + 1 := wrap64 (by omega) (by omega)
    have Ki := hK b i i0 (by omega)
    rw [hbef i i0 c1] at Ki
    simp -implicitDefEqProofs [c1, Ki, w2, encL_nil]
    exact ⟨n - 1, by omega, i + 1, by omega, by omega, by omega, rfl⟩
  have hik : i = k := by omega
  subst hik
  simp -implicitDefEqProofs [w1]
  refine run_while (c := c4_61) (fun n s => ∃ (j : Int) (g : Nat → Nat), i < j ∧ j ≤ 5 ∧ (n : Int) = 5 - j ∧ s = ⟨[(7, .ptr 7 (g 7) 0), (8, .ptr 8 (g 8) 0), (9, .ptr 9 (g 9) 0), (14, .ptr 14 (g 14) 0), (15, .ptr 15 (g 15) 0), (16, .int .i64 lk.length), (17, .int .i64 lx.length), (18, .int .i64 ly.length), (20, .int .i64 j)],
    [(7, ⟨Row.enc m, false, 0⟩), (8, ⟨Row.enc q, false, 0⟩), (9, ⟨Row.enc b, false, 0⟩), (14, ⟨Row.enc x, false, 0⟩), (15, ⟨Row.enc y, false, 0⟩)], g⟩) (5 - (i + 1)).toNat ⟨i + 1, g2, by omega, by omega, by omega, by simp⟩ ?_
  rintro n2 s ⟨j, g3, j0, j1, hn2, rfl⟩
  by_cases c2 : j < 5
  case pos =>
    have w2 : IntKind.i64.wrap (j + 1) = j + 1 := wrap64 (by omega) (by omega)
    have Kj := hK b j (by omega) c2
    have Kxj := Kx2 j (by omega) c2 (by omega)
    have lj := hL b j
    simp -implicitDefEqProofs [c2, Kj, Kxj, w2, lj]
    exact ⟨n2 - 1, by omega, j + 1, by omega, by omega, by omega, rfl⟩
  have w3 : IntKind.i64.wrap ((lx.length : Int) + (ly.length : Int)) = (lx.length : Int) + (ly.length : Int) := wrap64 (by omega) (by omega)
  have w4 : IntKind.i64.wrap ((lk.length : Int) - 1) = (lk.length : Int) - 1 := wrap64 (by omega) (by omega)
  have w5 : IntKind.i64.wrap ((lx.length : Int) + 1) = (lx.length : Int) + 1 := wrap64 (by omega) (by omega)
  have f1 : (lx.length : Int) + (ly.length : Int) = (lk.length : Int) - 1 := by omega
  have f2 : lx.length ≤ ly.length := by omega
  have f3 : (ly.length : Int) ≤ (lx.length : Int) + 1 := by omega
  simp -implicitDefEqProofs [c2, d3, d4, w3, w4, w5, f1, f2, f3]
noncomputable def law_sp : List AV → Option AV := sp3 fun (_ : Forest) (_ : Ask) (_ : List Int) => some true
theorem law_holds : Contract Try.prog 4 law_sp :=
  contract_of_runs mixed (tbl_cons c_Model (tbl_cons c_Query (tbl_cons c_Within (tbl_cons c_Start (tbl_cons c_part (tbl_cons c_Split (tbl_cons c_Cuts (tbl_cons c_bCut (tbl_cons c_bEmpty (tbl_cons c_closed18 tbl_nil)))))))))) Try.func4 m4 (sp3_runs runs_law)
theorem law_says (f : Forest) (a : Ask) (l : List Int) : law_sp [Arg.enc f, Arg.enc a, Arg.enc l] = some (.bool true) := by
  simp only [law_sp, sp3, Arg.dec_enc, Option.bind_some]
  rfl
end Go.Co
