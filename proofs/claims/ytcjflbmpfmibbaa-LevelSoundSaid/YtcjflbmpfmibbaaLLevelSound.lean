/- The law LevelSound: what its text computes. -/
import Derived.Test.YtcjflbmpfmibbaaCoHq
import Derived.Test.YtcjflbmpfmibbaaCoX
import Derived.Test.YtcjflbmpfmibbaaCoLs
import Derived.Test.YtcjflbmpfmibbaaCoH
import Derived.Test.YtcjflbmpfmibbaaCoLib
import Derived.Test.YtcjflbmpfmibbaaCoSh
namespace Go.Co
open Go.Am Go.Proofs
set_option linter.unusedSimpArgs false
set_option linter.unusedVariables false
attribute [-simp] Go.Am.eff_gcall
def c14_0 : ACode := .ops [⟨some 5, .box (.t 0) 4, none, []⟩,
  ⟨some 10, .mv (.c (.bool false)), none, []⟩] [1, 2, 3, 4, 5]
theorem r14_0 : type_of% (@rr _ _ c14_0.eq_1) := rr c14_0.eq_1
def c14_1 : ACode := .ops [⟨some 28, .load 4 true (.t 5), none, [5]⟩,
  ⟨some 29, .call 15 [.t 28], none, []⟩,
  ⟨some 11, .alloc [.int .i64 0, .int .i64 0, .int .i64 0, .int .i64 0, .int .i64 0, .nils], none, []⟩,
  ⟨none, .store (.t 11) 6 (.t 29), none, [11]⟩] [1, 2, 3, 4, 11]
theorem r14_1 : type_of% (@rr _ _ c14_1.eq_1) := rr c14_1.eq_1
def c14_2 : ACode := .ops [⟨some 30, .load 6 true (.t 11), none, [11]⟩,
  ⟨some 31, .mv (.t 1), none, []⟩,
  ⟨some 32, .call 16 [.t 30, .t 31], none, []⟩,
  ⟨some 12, .alloc [.int .i64 0, .int .i64 0, .int .i64 0, .int .i64 0, .int .i64 0, .int .i64 0, .int .i64 0, .int .i64 0, .int .i64 0, .int .i64 0], none, []⟩,
  ⟨none, .store (.t 12) 10 (.t 32), none, [12]⟩] [2, 3, 4, 11, 12]
theorem r14_2 : type_of% (@rr _ _ c14_2.eq_1) := rr c14_2.eq_1
def c14_3 : ACode := .ops [⟨some 33, .mv (.t 4), none, []⟩,
  ⟨some 34, .fad (.t 11) 1, none, [11]⟩,
  ⟨some 35, .load 1 false (.t 34), none, [11]⟩,
  ⟨some 36, .bin .sub (.t 35) (.c (.int .i64 1)), none, []⟩,
  ⟨some 37, .call 24 [.t 33, .c (.int .i64 0), .t 36], none, []⟩,
  ⟨some 13, .mv (.t 37), none, []⟩] [2, 3, 11, 12, 13]
theorem r14_3 : type_of% (@rr _ _ c14_3.eq_1) := rr c14_3.eq_1
def c14_4 : ACode := .ops [⟨some 39, .load 6 true (.t 11), none, [11]⟩,
  ⟨some 40, .mv (.t 13), none, []⟩,
  ⟨some 41, .load 10 true (.t 12), none, [12]⟩,
  ⟨some 42, .mv (.t 3), none, []⟩,
  ⟨some 43, .call 24 [.t 42, .c (.int .i64 0), .c (.int .i64 300)], none, []⟩,
  ⟨some 44, .call 62 [.t 39, .t 40, .t 41, .t 43], none, []⟩,
  ⟨some 38, .mv (.t 44), none, []⟩,
  ⟨some 45, .ext (.t 38) 0, none, []⟩,
  ⟨some 46, .ext (.t 38) 1, none, []⟩,
  ⟨some 47, .ext (.t 38) 2, none, []⟩,
  ⟨some 14, .mv (.t 45), none, []⟩,
  ⟨some 15, .mv (.t 46), none, []⟩,
  ⟨some 16, .mv (.t 47), none, []⟩] [2, 11, 12, 13, 14, 15, 16]
theorem r14_4 : type_of% (@rr _ _ c14_4.eq_1) := rr c14_4.eq_1
def c14_5 : ACode := .ops [⟨some 49, .load 6 true (.t 11), none, [11]⟩,
  ⟨some 50, .mv (.t 13), none, []⟩,
  ⟨some 51, .load 10 true (.t 12), none, [12]⟩,
  ⟨some 52, .call 63 [.t 49, .t 50, .t 51], none, []⟩,
  ⟨some 48, .mv (.t 52), none, []⟩,
  ⟨some 53, .ext (.t 48) 0, none, []⟩,
  ⟨some 54, .ext (.t 48) 1, none, []⟩,
  ⟨some 55, .ext (.t 48) 2, none, []⟩,
  ⟨some 17, .mv (.t 53), none, []⟩,
  ⟨some 18, .mv (.t 54), none, []⟩,
  ⟨some 19, .mv (.t 55), none, []⟩] [2, 11, 12, 13, 14, 15, 16, 17, 18, 19]
theorem r14_5 : type_of% (@rr _ _ c14_5.eq_1) := rr c14_5.eq_1
def c14_6 : ACode := .ops [⟨some 56, .load 6 true (.t 11), none, [11]⟩,
  ⟨some 57, .mv (.t 13), none, []⟩,
  ⟨some 58, .load 10 true (.t 12), none, [12]⟩,
  ⟨some 59, .mv (.t 2), none, []⟩,
  ⟨some 60, .call 26 [.t 58, .t 59], none, []⟩,
  ⟨some 61, .call 28 [.t 56, .t 57, .t 60], none, []⟩,
  ⟨some 20, .mv (.t 61), none, []⟩] [11, 12, 13, 14, 15, 16, 17, 18, 19, 20]
theorem r14_6 : type_of% (@rr _ _ c14_6.eq_1) := rr c14_6.eq_1
def c14_7 : ACode := .ops [⟨some 62, .mv (.t 19), none, []⟩,
  ⟨some 63, .un .not (.t 62), none, []⟩,
  ⟨some 64, .mv (.t 63), none, []⟩,
  ⟨some 65, .mv (.t 14), some (64, false), []⟩,
  ⟨some 66, .mv (.t 17), some (64, false), []⟩,
  ⟨some 67, .bin .lss (.t 65) (.t 66), some (64, false), []⟩,
  ⟨some 68, .pick (.t 64) (.c (.bool true)) (.t 67), none, []⟩,
  ⟨some 69, .mv (.t 68), none, []⟩,
  ⟨some 70, .mv (.t 15), some (69, false), []⟩,
  ⟨some 71, .mv (.t 18), some (69, false), []⟩,
  ⟨some 72, .bin .gtr (.t 70) (.t 71), some (69, false), []⟩,
  ⟨some 73, .pick (.t 69) (.c (.bool true)) (.t 72), none, []⟩,
  ⟨some 74, .mv (.t 73), none, []⟩,
  ⟨some 75, .mv (.t 20), some (74, false), []⟩,
  ⟨some 76, .mv (.t 14), some (74, false), []⟩,
  ⟨some 77, .bin .lss (.t 75) (.t 76), some (74, false), []⟩,
  ⟨some 78, .pick (.t 74) (.c (.bool true)) (.t 77), none, []⟩,
  ⟨some 79, .mv (.t 78), none, []⟩,
  ⟨some 80, .mv (.t 20), some (79, false), []⟩,
  ⟨some 81, .mv (.t 15), some (79, false), []⟩,
  ⟨some 82, .bin .gtr (.t 80) (.t 81), some (79, false), []⟩,
  ⟨some 83, .pick (.t 79) (.c (.bool true)) (.t 82), none, []⟩] [11, 12, 13, 14, 15, 16, 83]
theorem r14_7 : type_of% (@rr _ _ c14_7.eq_1) := rr c14_7.eq_1
def c14_8 : ACode := .ops [⟨some 10, .mv (.c (.bool false)), none, []⟩] [10]
theorem r14_8 : type_of% (@rr _ _ c14_8.eq_1) := rr c14_8.eq_1
def c14_9 : ACode := .seq c14_8 .ret
theorem r14_9 : type_of% (@rr _ _ c14_9.eq_1) := rr c14_9.eq_1
def c14_10 : ACode := .cond (.t 83) c14_9 .skip
theorem r14_10 : type_of% (@rr _ _ c14_10.eq_1) := rr c14_10.eq_1
def c14_11 : ACode := .seq c14_7 c14_10
theorem r14_11 : type_of% (@rr _ _ c14_11.eq_1) := rr c14_11.eq_1
def c14_12 : ACode := .ops [⟨some 84, .mv (.t 16), none, []⟩,
  ⟨some 85, .un .not (.t 84), none, []⟩] [11, 12, 13, 14, 15, 85]
theorem r14_12 : type_of% (@rr _ _ c14_12.eq_1) := rr c14_12.eq_1
def c14_13 : ACode := .ops [⟨some 86, .call 64 [], none, []⟩,
  ⟨some 10, .mv (.t 86), none, []⟩] [10]
theorem r14_13 : type_of% (@rr _ _ c14_13.eq_1) := rr c14_13.eq_1
def c14_14 : ACode := .seq c14_13 .ret
theorem r14_14 : type_of% (@rr _ _ c14_14.eq_1) := rr c14_14.eq_1
def c14_15 : ACode := .cond (.t 85) c14_14 .skip
theorem r14_15 : type_of% (@rr _ _ c14_15.eq_1) := rr c14_15.eq_1
def c14_16 : ACode := .seq c14_12 c14_15
theorem r14_16 : type_of% (@rr _ _ c14_16.eq_1) := rr c14_16.eq_1
def c14_17 : ACode := .ops [⟨some 87, .mv (.t 13), none, []⟩,
  ⟨some 88, .load 10 true (.t 12), none, [12]⟩,
  ⟨some 89, .mv (.t 14), none, []⟩,
  ⟨some 90, .mv (.t 15), none, []⟩,
  ⟨some 91, .build [.int .i64 0, .int .i64 0, .int .i64 0, .int .i64 0, .int .i64 0, .int .i64 0, .int .i64 0, .int .i64 0, .int .i64 0, .int .i64 0, .int .i64 0, .int .i64 0, .int .i64 0, .int .i64 0, .int .i64 0, .bool false, .int .i64 0] [(0, 1, .c (.int .i64 1)), (1, 1, .t 87), (2, 10, .t 88), (12, 1, .t 89), (13, 1, .t 90)], none, []⟩,
  ⟨some 21, .alloc [.int .i64 0, .int .i64 0, .int .i64 0, .int .i64 0, .int .i64 0, .int .i64 0, .int .i64 0, .int .i64 0, .int .i64 0, .int .i64 0, .int .i64 0, .int .i64 0, .int .i64 0, .int .i64 0, .int .i64 0, .bool false, .int .i64 0], none, []⟩,
  ⟨none, .store (.t 21) 17 (.t 91), none, [21]⟩] [11, 14, 15, 21]
theorem r14_17 : type_of% (@rr _ _ c14_17.eq_1) := rr c14_17.eq_1
def c14_18 : ACode := .ops [⟨some 93, .load 6 true (.t 11), none, [11]⟩,
  ⟨some 94, .load 17 true (.t 21), none, [21]⟩,
  ⟨some 95, .call 49 [.t 93, .t 94, .c (.int .i64 2000)], none, []⟩,
  ⟨some 92, .mv (.t 95), none, []⟩,
  ⟨some 96, .ext (.t 92) 0, none, []⟩,
  ⟨some 97, .ext (.t 92) 1, none, []⟩,
  ⟨some 22, .mv (.t 96), none, []⟩,
  ⟨some 23, .mv (.t 97), none, []⟩] [11, 14, 15, 21, 22, 23]
theorem r14_18 : type_of% (@rr _ _ c14_18.eq_1) := rr c14_18.eq_1
def c14_19 : ACode := .ops [⟨some 98, .mv (.t 23), none, []⟩,
  ⟨some 99, .un .not (.t 98), none, []⟩] [11, 14, 15, 21, 22, 99]
theorem r14_19 : type_of% (@rr _ _ c14_19.eq_1) := rr c14_19.eq_1
def c14_20 : ACode := .ops [⟨some 100, .call 64 [], none, []⟩,
  ⟨some 10, .mv (.t 100), none, []⟩] [10]
theorem r14_20 : type_of% (@rr _ _ c14_20.eq_1) := rr c14_20.eq_1
def c14_21 : ACode := .seq c14_20 .ret
theorem r14_21 : type_of% (@rr _ _ c14_21.eq_1) := rr c14_21.eq_1
def c14_22 : ACode := .cond (.t 99) c14_21 .skip
theorem r14_22 : type_of% (@rr _ _ c14_22.eq_1) := rr c14_22.eq_1
def c14_23 : ACode := .seq c14_19 c14_22
theorem r14_23 : type_of% (@rr _ _ c14_23.eq_1) := rr c14_23.eq_1
def c14_24 : ACode := .ops [⟨some 101, .mv (.t 14), none, []⟩,
  ⟨some 102, .bin .add (.t 101) (.c (.int .i64 1)), none, []⟩,
  ⟨some 103, .fad (.t 21) 12, none, [21]⟩,
  ⟨none, .store (.t 103) 1 (.t 102), none, [21]⟩] [11, 14, 15, 21, 22]
theorem r14_24 : type_of% (@rr _ _ c14_24.eq_1) := rr c14_24.eq_1
def c14_25 : ACode := .ops [⟨some 104, .mv (.t 15), none, []⟩,
  ⟨some 105, .mv (.t 14), none, []⟩,
  ⟨some 106, .bin .add (.t 105) (.c (.int .i64 1)), none, []⟩,
  ⟨some 107, .mnmx true (.t 104) (.t 106), none, []⟩,
  ⟨some 108, .fad (.t 21) 13, none, [21]⟩,
  ⟨none, .store (.t 108) 1 (.t 107), none, [21]⟩] [11, 14, 15, 21, 22]
theorem r14_25 : type_of% (@rr _ _ c14_25.eq_1) := rr c14_25.eq_1
def c14_26 : ACode := .ops [⟨some 110, .load 6 true (.t 11), none, [11]⟩,
  ⟨some 111, .load 17 true (.t 21), none, [21]⟩,
  ⟨some 112, .call 49 [.t 110, .t 111, .c (.int .i64 2000)], none, []⟩,
  ⟨some 109, .mv (.t 112), none, []⟩,
  ⟨some 113, .ext (.t 109) 0, none, []⟩,
  ⟨some 114, .ext (.t 109) 1, none, []⟩,
  ⟨some 24, .mv (.t 113), none, []⟩,
  ⟨some 25, .mv (.t 114), none, []⟩] [11, 14, 15, 21, 22, 24]
theorem r14_26 : type_of% (@rr _ _ c14_26.eq_1) := rr c14_26.eq_1
def c14_27 : ACode := .ops [⟨some 115, .mv (.t 14), none, []⟩,
  ⟨some 116, .mv (.t 15), none, []⟩,
  ⟨some 117, .bin .sub (.t 116) (.c (.int .i64 1)), none, []⟩,
  ⟨some 118, .mnmx false (.t 115) (.t 117), none, []⟩,
  ⟨some 119, .mv (.t 15), none, []⟩,
  ⟨some 120, .bin .sub (.t 119) (.c (.int .i64 1)), none, []⟩,
  ⟨some 121, .fad (.t 21) 12, none, [21]⟩,
  ⟨none, .store (.t 121) 1 (.t 118), none, [21]⟩,
  ⟨some 122, .fad (.t 21) 13, none, [21]⟩,
  ⟨none, .store (.t 122) 1 (.t 120), none, [21]⟩] [11, 21, 22, 24]
theorem r14_27 : type_of% (@rr _ _ c14_27.eq_1) := rr c14_27.eq_1
def c14_28 : ACode := .ops [⟨some 124, .load 6 true (.t 11), none, [11]⟩,
  ⟨some 125, .load 17 true (.t 21), none, [21]⟩,
  ⟨some 126, .call 49 [.t 124, .t 125, .c (.int .i64 2000)], none, []⟩,
  ⟨some 123, .mv (.t 126), none, []⟩,
  ⟨some 127, .ext (.t 123) 0, none, []⟩,
  ⟨some 128, .ext (.t 123) 1, none, []⟩,
  ⟨some 26, .mv (.t 127), none, []⟩,
  ⟨some 27, .mv (.t 128), none, []⟩] [22, 24, 26]
theorem r14_28 : type_of% (@rr _ _ c14_28.eq_1) := rr c14_28.eq_1
def c14_29 : ACode := .ops [⟨some 129, .mv (.t 22), none, []⟩,
  ⟨some 130, .mv (.t 129), none, []⟩,
  ⟨some 131, .mv (.t 24), some (130, true), []⟩,
  ⟨some 132, .un .not (.t 131), some (130, true), []⟩,
  ⟨some 133, .pick (.t 130) (.t 132) (.c (.bool false)), none, []⟩,
  ⟨some 134, .mv (.t 133), none, []⟩,
  ⟨some 135, .mv (.t 26), some (134, true), []⟩,
  ⟨some 136, .un .not (.t 135), some (134, true), []⟩,
  ⟨some 137, .pick (.t 134) (.t 136) (.c (.bool false)), none, []⟩,
  ⟨some 138, .mv (.t 137), none, []⟩,
  ⟨some 139, .call 64 [], some (138, true), []⟩,
  ⟨some 140, .pick (.t 138) (.t 139) (.c (.bool false)), none, []⟩,
  ⟨some 10, .mv (.t 140), none, []⟩] [10]
theorem r14_29 : type_of% (@rr _ _ c14_29.eq_1) := rr c14_29.eq_1
def c14_30 : ACode := .seq c14_29 .ret
theorem r14_30 : type_of% (@rr _ _ c14_30.eq_1) := rr c14_30.eq_1
def c14_31 : ACode := .seq c14_28 c14_30
theorem r14_31 : type_of% (@rr _ _ c14_31.eq_1) := rr c14_31.eq_1
def c14_32 : ACode := .seq c14_27 c14_31
theorem r14_32 : type_of% (@rr _ _ c14_32.eq_1) := rr c14_32.eq_1
def c14_33 : ACode := .seq c14_26 c14_32
theorem r14_33 : type_of% (@rr _ _ c14_33.eq_1) := rr c14_33.eq_1
def c14_34 : ACode := .seq c14_25 c14_33
theorem r14_34 : type_of% (@rr _ _ c14_34.eq_1) := rr c14_34.eq_1
def c14_35 : ACode := .seq c14_24 c14_34
theorem r14_35 : type_of% (@rr _ _ c14_35.eq_1) := rr c14_35.eq_1
def c14_36 : ACode := .seq c14_23 c14_35
theorem r14_36 : type_of% (@rr _ _ c14_36.eq_1) := rr c14_36.eq_1
def c14_37 : ACode := .seq c14_18 c14_36
theorem r14_37 : type_of% (@rr _ _ c14_37.eq_1) := rr c14_37.eq_1
def c14_38 : ACode := .seq c14_17 c14_37
theorem r14_38 : type_of% (@rr _ _ c14_38.eq_1) := rr c14_38.eq_1
def c14_39 : ACode := .seq c14_16 c14_38
theorem r14_39 : type_of% (@rr _ _ c14_39.eq_1) := rr c14_39.eq_1
def c14_40 : ACode := .seq c14_11 c14_39
theorem r14_40 : type_of% (@rr _ _ c14_40.eq_1) := rr c14_40.eq_1
def c14_41 : ACode := .seq c14_6 c14_40
theorem r14_41 : type_of% (@rr _ _ c14_41.eq_1) := rr c14_41.eq_1
def c14_42 : ACode := .seq c14_5 c14_41
theorem r14_42 : type_of% (@rr _ _ c14_42.eq_1) := rr c14_42.eq_1
def c14_43 : ACode := .seq c14_4 c14_42
theorem r14_43 : type_of% (@rr _ _ c14_43.eq_1) := rr c14_43.eq_1
def c14_44 : ACode := .seq c14_3 c14_43
theorem r14_44 : type_of% (@rr _ _ c14_44.eq_1) := rr c14_44.eq_1
def c14_45 : ACode := .seq c14_2 c14_44
theorem r14_45 : type_of% (@rr _ _ c14_45.eq_1) := rr c14_45.eq_1
def c14_46 : ACode := .seq c14_1 c14_45
theorem r14_46 : type_of% (@rr _ _ c14_46.eq_1) := rr c14_46.eq_1
def c14_47 : ACode := .seq c14_0 c14_46
theorem r14_47 : type_of% (@rr _ _ c14_47.eq_1) := rr c14_47.eq_1
def a14 : AFun := ⟨5, 141, c14_47, [.t 10]⟩
attribute [simp] r14_0 r14_1 r14_2 r14_3 r14_4 r14_5 r14_6 r14_7 r14_8 r14_9 r14_10 r14_11 r14_12 r14_13 r14_14 r14_15 r14_16 r14_17 r14_18 r14_19 r14_20 r14_21 r14_22 r14_23 r14_24 r14_25 r14_26 r14_27 r14_28 r14_29 r14_30 r14_31 r14_32 r14_33 r14_34 r14_35 r14_36 r14_37 r14_38 r14_39 r14_40 r14_41 r14_42 r14_43 r14_44 r14_45 r14_46 r14_47
theorem m14 : mFun Try.prog Try.f14 a14 = true := by decide +kernel
def c50_0 : ACode := .ops [⟨some 4, .mv (.c (.bool false)), none, []⟩] [0, 1]
def c50_1 : ACode := .ops [⟨some 6, .mv (.t 0), none, []⟩,
  ⟨some 7, .len (.t 6), none, []⟩,
  ⟨some 8, .mv (.t 1), none, []⟩,
  ⟨some 9, .len (.t 8), none, []⟩,
  ⟨some 10, .bin .neq (.t 7) (.t 9), none, []⟩] [0, 1, 10]
def c50_2 : ACode := .ops [⟨some 4, .mv (.c (.bool false)), none, []⟩] [4]
def c50_3 : ACode := .seq c50_2 .ret
def c50_4 : ACode := .cond (.t 10) c50_3 .skip
def c50_5 : ACode := .seq c50_1 c50_4
def c50_6 : ACode := .ops [⟨some 5, .mv (.c (.int .i64 0)), none, []⟩] [0, 1, 5]
def c50_7 : ACode := .ops [⟨some 11, .mv (.t 5), none, []⟩,
  ⟨some 12, .mv (.t 0), none, []⟩,
  ⟨some 13, .len (.t 12), none, []⟩,
  ⟨some 14, .bin .lss (.t 11) (.t 13), none, []⟩] [0, 1, 5, 14]
def c50_8 : ACode := .cond (.t 14) .skip (.exit 0)
def c50_9 : ACode := .seq c50_7 c50_8
def c50_10 : ACode := .ops [⟨some 17, .mv (.t 0), none, []⟩,
  ⟨some 18, .mv (.t 5), none, []⟩,
  ⟨some 19, .ias (.t 17) (.t 18) 1, none, []⟩,
  ⟨some 20, .load 1 false (.t 19), none, []⟩,
  ⟨some 21, .mv (.t 1), none, []⟩,
  ⟨some 22, .mv (.t 5), none, []⟩,
  ⟨some 23, .ias (.t 21) (.t 22) 1, none, []⟩,
  ⟨some 24, .load 1 false (.t 23), none, []⟩,
  ⟨some 25, .bin .neq (.t 20) (.t 24), none, []⟩] [0, 1, 5, 25]
def c50_11 : ACode := .ops [⟨some 4, .mv (.c (.bool false)), none, []⟩] [4]
def c50_12 : ACode := .seq c50_11 .ret
def c50_13 : ACode := .cond (.t 25) c50_12 .skip
def c50_14 : ACode := .seq c50_10 c50_13
def c50_15 : ACode := .block 1 c50_14
def c50_16 : ACode := .ops [⟨some 15, .mv (.t 5), none, []⟩,
  ⟨some 16, .bin .add (.t 15) (.c (.int .i64 1)), none, []⟩,
  ⟨some 5, .mv (.t 16), none, []⟩] [0, 1, 5]
def c50_17 : ACode := .seq c50_15 c50_16
def c50_18 : ACode := .seq c50_9 c50_17
def c50_19 : ACode := .keep [0, 1, 5] [] c50_18
def c50_20 : ACode := .loop c50_19
def c50_21 : ACode := .block 0 c50_20
def c50_22 : ACode := .seq c50_6 c50_21
def c50_23 : ACode := .ops [⟨some 4, .mv (.c (.bool true)), none, []⟩] [4]
def c50_24 : ACode := .seq c50_23 .ret
def c50_25 : ACode := .seq c50_22 c50_24
def c50_26 : ACode := .seq c50_5 c50_25
def c50_27 : ACode := .seq c50_0 c50_26
def a50 : AFun := ⟨2, 26, c50_27, [.t 4]⟩
theorem m50 : mFun Try.prog Try.f50 a50 = true := by decide +kernel
def c64_0 : ACode := .ops [⟨some 0, .mv (.c (.bool false)), none, []⟩] []
def c64_1 : ACode := .ops [⟨some 9, .call 74 [], none, []⟩,
  ⟨some 1, .alloc [.int .i64 0, .int .i64 0, .int .i64 0, .int .i64 0, .int .i64 0, .nils], none, []⟩,
  ⟨none, .store (.t 1) 6 (.t 9), none, [1]⟩] [1]
def c64_2 : ACode := .ops [⟨some 10, .build [.int .i64 0, .int .i64 0, .int .i64 0] [], none, []⟩,
  ⟨some 11, .fad (.t 1) 2, none, [1]⟩,
  ⟨none, .store (.t 11) 3 (.t 10), none, [1]⟩] [1]
def c64_3 : ACode := .ops [⟨some 12, .call 115 [.c (.int .i64 5), .c (.int .i64 1), .c (.int .i64 (-1))], none, []⟩,
  ⟨some 13, .build [.int .i64 0, .nils] [(1, 1, .t 12)], none, []⟩,
  ⟨some 14, .call 115 [.c (.int .i64 5), .c (.int .i64 (-1)), .c (.int .i64 1)], none, []⟩,
  ⟨some 15, .build [.int .i64 0, .nils] [(1, 1, .t 14)], none, []⟩,
  ⟨some 16, .mkrow 10105 2 2 [.int .i64 0, .nils] [(0, 2, .t 13), (2, 2, .t 15)], none, []⟩,
  ⟨some 17, .fad (.t 1) 5, none, [1]⟩,
  ⟨none, .store (.t 17) 1 (.t 16), none, [1]⟩] [1]
def c64_4 : ACode := .ops [⟨some 18, .build [.int .i64 0, .int .i64 0] [(0, 1, .c (.int .i64 0)), (1, 1, .c (.int .i64 9))], none, []⟩,
  ⟨some 19, .build [.int .i64 0, .int .i64 0, .int .i64 0, .int .i64 0, .int .i64 0, .int .i64 0, .int .i64 0, .int .i64 0, .int .i64 0, .int .i64 0] [(0, 2, .t 18)], none, []⟩,
  ⟨some 2, .alloc [.int .i64 0, .int .i64 0, .int .i64 0, .int .i64 0, .int .i64 0, .int .i64 0, .int .i64 0, .int .i64 0, .int .i64 0, .int .i64 0], none, []⟩,
  ⟨none, .store (.t 2) 10 (.t 19), none, [2]⟩] [1, 2]
def c64_5 : ACode := .ops [⟨some 21, .load 6 true (.t 1), none, [1]⟩,
  ⟨some 22, .load 10 true (.t 2), none, [2]⟩,
  ⟨some 23, .call 62 [.t 21, .c (.int .i64 0), .t 22, .c (.int .i64 9)], none, [10105]⟩,
  ⟨some 20, .mv (.t 23), none, []⟩,
  ⟨some 24, .ext (.t 20) 0, none, []⟩,
  ⟨some 25, .ext (.t 20) 1, none, []⟩,
  ⟨some 26, .ext (.t 20) 2, none, []⟩,
  ⟨some 3, .mv (.t 24), none, []⟩,
  ⟨some 4, .mv (.t 25), none, []⟩,
  ⟨some 5, .mv (.t 26), none, []⟩] [1, 2, 3, 4, 5]
def c64_6 : ACode := .ops [⟨some 28, .load 6 true (.t 1), none, [1]⟩,
  ⟨some 29, .load 10 true (.t 2), none, [2]⟩,
  ⟨some 30, .call 62 [.t 28, .c (.int .i64 0), .t 29, .c (.int .i64 1)], none, [10105]⟩,
  ⟨some 27, .mv (.t 30), none, []⟩,
  ⟨some 31, .ext (.t 27) 0, none, []⟩,
  ⟨some 32, .ext (.t 27) 1, none, []⟩,
  ⟨some 33, .ext (.t 27) 2, none, []⟩,
  ⟨some 6, .mv (.t 31), none, []⟩,
  ⟨some 7, .mv (.t 32), none, []⟩,
  ⟨some 8, .mv (.t 33), none, []⟩] [1, 2, 3, 4, 5, 6, 7, 8]
def c64_7 : ACode := .ops [⟨some 34, .mv (.t 3), none, []⟩,
  ⟨some 35, .bin .eql (.t 34) (.c (.int .i64 0)), none, []⟩,
  ⟨some 36, .mv (.t 35), none, []⟩,
  ⟨some 37, .mv (.t 4), some (36, true), []⟩,
  ⟨some 38, .bin .eql (.t 37) (.c (.int .i64 0)), some (36, true), []⟩,
  ⟨some 39, .pick (.t 36) (.t 38) (.c (.bool false)), none, []⟩,
  ⟨some 40, .mv (.t 39), none, []⟩,
  ⟨some 41, .mv (.t 5), some (40, true), []⟩,
  ⟨some 42, .pick (.t 40) (.t 41) (.c (.bool false)), none, []⟩,
  ⟨some 43, .mv (.t 42), none, []⟩,
  ⟨some 44, .mv (.t 6), some (43, true), []⟩,
  ⟨some 45, .bin .eql (.t 44) (.c (.int .i64 (-2))), some (43, true), []⟩,
  ⟨some 46, .pick (.t 43) (.t 45) (.c (.bool false)), none, []⟩,
  ⟨some 47, .mv (.t 46), none, []⟩,
  ⟨some 48, .mv (.t 7), some (47, true), []⟩,
  ⟨some 49, .bin .eql (.t 48) (.c (.int .i64 2)), some (47, true), []⟩,
  ⟨some 50, .pick (.t 47) (.t 49) (.c (.bool false)), none, []⟩,
  ⟨some 51, .mv (.t 50), none, []⟩,
  ⟨some 52, .mv (.t 8), some (51, true), []⟩,
  ⟨some 53, .un .not (.t 52), some (51, true), []⟩,
  ⟨some 54, .pick (.t 51) (.t 53) (.c (.bool false)), none, []⟩,
  ⟨some 55, .mv (.t 54), none, []⟩,
  ⟨some 56, .load 6 true (.t 1), some (55, true), [1]⟩,
  ⟨some 57, .load 10 true (.t 2), some (55, true), [2]⟩,
  ⟨some 58, .call 116 [.t 56, .c (.int .i64 0), .t 57, .c (.int .i64 9)], some (55, true), [10105]⟩,
  ⟨some 59, .mkrow 59 2 1 [.int .i64 0] [(0, 1, .c (.int .i64 2)), (1, 1, .c (.int .i64 1))], some (55, true), []⟩,
  ⟨some 60, .call 50 [.t 58, .t 59], some (55, true), [59]⟩,
  ⟨some 61, .pick (.t 55) (.t 60) (.c (.bool false)), none, []⟩,
  ⟨some 62, .mv (.t 61), none, []⟩,
  ⟨some 63, .load 6 true (.t 1), some (62, true), [1]⟩,
  ⟨some 64, .load 10 true (.t 2), some (62, true), [2]⟩,
  ⟨some 65, .call 116 [.t 63, .c (.int .i64 0), .t 64, .c (.int .i64 1)], some (62, true), [10105]⟩,
  ⟨some 66, .mkrow 66 1 1 [.int .i64 0] [(0, 1, .c (.int .i64 2))], some (62, true), []⟩,
  ⟨some 67, .call 50 [.t 65, .t 66], some (62, true), [66]⟩,
  ⟨some 68, .pick (.t 62) (.t 67) (.c (.bool false)), none, []⟩,
  ⟨some 0, .mv (.t 68), none, []⟩] [0]
def c64_8 : ACode := .seq c64_7 .ret
def c64_9 : ACode := .seq c64_6 c64_8
def c64_10 : ACode := .seq c64_5 c64_9
def c64_11 : ACode := .seq c64_4 c64_10
def c64_12 : ACode := .seq c64_3 c64_11
def c64_13 : ACode := .seq c64_2 c64_12
def c64_14 : ACode := .seq c64_1 c64_13
def c64_15 : ACode := .seq c64_0 c64_14
def a64 : AFun := ⟨0, 69, c64_15, [.t 0]⟩
theorem m64 : mFun Try.prog Try.f64 a64 = true := by decide +kernel
def c74_0 : ACode := .ops [⟨some 0, .alloc [.int .i64 0, .int .i64 0, .int .i64 0, .int .i64 0, .int .i64 0, .nils], none, []⟩] [0]
def c74_1 : ACode := .ops [⟨some 2, .build [.bool false, .int .i64 0, .int .i64 0, .int .i64 0, .int .i64 0, .int .i64 0] [(3, 1, .c (.int .i64 5)), (4, 1, .c (.int .i64 1)), (5, 1, .c (.int .i64 2))], none, []⟩,
  ⟨some 3, .call 68 [.t 2], none, []⟩,
  ⟨some 4, .build [.bool false, .int .i64 0, .int .i64 0, .int .i64 0, .int .i64 0, .int .i64 0] [(0, 1, .c (.bool true)), (1, 1, .c (.int .i64 10))], none, []⟩,
  ⟨some 5, .call 68 [.t 4], none, []⟩,
  ⟨some 6, .build [.bool false, .int .i64 0, .int .i64 0, .int .i64 0, .int .i64 0, .int .i64 0] [(0, 1, .c (.bool true)), (1, 1, .c (.int .i64 20))], none, []⟩,
  ⟨some 7, .call 68 [.t 6], none, []⟩,
  ⟨some 8, .mkrow 1 3 1 [.int .u64 0] [(0, 1, .t 3), (1, 1, .t 5), (2, 1, .t 7)], none, []⟩,
  ⟨some 1, .mv (.t 8), none, []⟩] [0, 1]
def c74_2 : ACode := .ops [⟨some 9, .build [.int .i64 0, .int .i64 0, .int .i64 0] [(0, 1, .c (.int .i64 3))], none, []⟩,
  ⟨some 10, .mv (.t 1), none, []⟩,
  ⟨some 11, .build [.int .i64 0, .nils] [(1, 1, .t 10)], none, []⟩,
  ⟨some 12, .mkrow 12 1 2 [.int .i64 0, .nils] [(0, 2, .t 11)], none, []⟩,
  ⟨some 13, .build [.int .i64 0, .int .i64 0, .int .i64 0, .int .i64 0, .int .i64 0, .nils] [(0, 1, .c (.int .i64 1)), (1, 1, .c (.int .i64 1)), (2, 3, .t 9), (5, 1, .t 12)], none, []⟩,
  ⟨none, .store (.t 0) 6 (.t 13), none, [0]⟩] [0]
def c74_3 : ACode := .seq c74_2 .ret
def c74_4 : ACode := .seq c74_1 c74_3
def c74_5 : ACode := .seq c74_0 c74_4
def a74 : AFun := ⟨0, 14, c74_5, [.cell 0 6 true]⟩
theorem m74 : mFun Try.prog Try.f74 a74 = true := by decide +kernel
def c115_0 : ACode := .ops [⟨some 6, .nil0 6 1, none, []⟩] [0, 1, 2]
def c115_1 : ACode := .ops [⟨some 7, .mv (.t 0), none, []⟩,
  ⟨some 8, .build [.bool false, .int .i64 0, .int .i64 0, .int .i64 0, .int .i64 0, .int .i64 0] [(3, 1, .t 7), (4, 1, .c (.int .i64 1)), (5, 1, .c (.int .i64 2))], none, []⟩,
  ⟨some 9, .call 68 [.t 8], none, []⟩,
  ⟨some 10, .mv (.t 1), none, []⟩,
  ⟨some 11, .build [.bool false, .int .i64 0, .int .i64 0, .int .i64 0, .int .i64 0, .int .i64 0] [(0, 1, .c (.bool true)), (1, 1, .t 10)], none, []⟩,
  ⟨some 12, .call 68 [.t 11], none, []⟩,
  ⟨some 13, .mv (.t 2), none, []⟩,
  ⟨some 14, .build [.bool false, .int .i64 0, .int .i64 0, .int .i64 0, .int .i64 0, .int .i64 0] [(0, 1, .c (.bool true)), (1, 1, .t 13)], none, []⟩,
  ⟨some 15, .call 68 [.t 14], none, []⟩,
  ⟨some 16, .mkrow 6 3 1 [.int .u64 0] [(0, 1, .t 9), (1, 1, .t 12), (2, 1, .t 15)], none, []⟩,
  ⟨some 6, .mv (.t 16), none, []⟩] [6]
def c115_2 : ACode := .seq c115_1 .ret
def c115_3 : ACode := .seq c115_0 c115_2
def a115 : AFun := ⟨3, 17, c115_3, [.t 6]⟩
theorem m115 : mFun Try.prog Try.f115 a115 = true := by decide +kernel
def texts64 : List (Nat × AFun) := [(19, a19), (20, a20), (27, a27), (29, a29), (50, a50), (58, a58), (62, a62), (63, a63), (64, a64), (66, a66), (68, a68), (69, a69), (70, a70), (71, a71), (72, a72), (74, a74), (75, a75), (76, a76), (77, a77), (110, a110), (111, a111), (112, a112), (113, a113), (114, a114), (115, a115), (116, a116), (117, a117), (118, a118), (119, a119), (120, a120), (121, a121), (122, a122), (123, a123), (124, a124), (126, a126), (143, a143), (144, a144), (145, a145), (146, a146), (161, a161), (169, a169), (171, a171)]
theorem texts64_good : Go.Am.Good Try.prog texts64 :=
  good_cons Try.func19 m19 <| good_cons Try.func20 m20 <| good_cons Try.func27 m27 <| good_cons Try.func29 m29 <| good_cons Try.func50 m50 <| good_cons Try.func58 m58 <| good_cons Try.func62 m62 <| good_cons Try.func63 m63 <| good_cons Try.func64 m64 <| good_cons Try.func66 m66 <| good_cons Try.func68 m68 <| good_cons Try.func69 m69 <| good_cons Try.func70 m70 <| good_cons Try.func71 m71 <| good_cons Try.func72 m72 <| good_cons Try.func74 m74 <| good_cons Try.func75 m75 <| good_cons Try.func76 m76 <| good_cons Try.func77 m77 <| good_cons Try.func110 m110 <| good_cons Try.func111 m111 <| good_cons Try.func112 m112 <| good_cons Try.func113 m113 <| good_cons Try.func114 m114 <| good_cons Try.func115 m115 <| good_cons Try.func116 m116 <| good_cons Try.func117 m117 <| good_cons Try.func118 m118 <| good_cons Try.func119 m119 <| good_cons Try.func120 m120 <| good_cons Try.func121 m121 <| good_cons Try.func122 m122 <| good_cons Try.func123 m123 <| good_cons Try.func124 m124 <| good_cons Try.func126 m126 <| good_cons Try.func143 m143 <| good_cons Try.func144 m144 <| good_cons Try.func145 m145 <| good_cons Try.func146 m146 <| good_cons Try.func161 m161 <| good_cons Try.func169 m169 <| good_cons Try.func171 m171 <| good_nil
theorem c_closed64 : Contract Try.prog 64 (sp0 (some true)) := contract_closed mixed texts64_good (m := 1000) (n := 60) (by decide +kernel)
theorem reg_facts (dim : Int) (l : List Int) : smallB (regionOf dim l) ∧ okB (regionOf dim l) ∧ (regionOf dim l).empty = false ∧ (regionOf dim l).s4 = ⟨0, 0⟩ := by
  have h0 := rSpan_le dim l 0
  have h1 := rSpan_le dim l 1
  have h2 := rSpan_le dim l 2
  have h3 := rSpan_le dim l 3
  unfold smallB small okB okS64 ok64 Box.empty Span.empty regionOf
  simp only [Bool.or_eq_false_iff, decide_eq_false_iff_not]
  refine ⟨?_, ?_, ?_, ?_⟩ <;> first | trivial | omega | (simp; done)
set_option maxHeartbeats 4000000 in
set_option maxRecDepth 100000 in
theorem runs_law (f : Forest) (spans l : List Int) (most class_ : Int) (c : Bool) (h : some true = some c) : Runs (tbl [(15, sp1 ModelC), (16, sp2 RegionC), (24, sp3 Within), (62, sp4 RangeC), (63, sp3 BoundS), (26, sp2 InsideC), (28, sp3 Eval), (49, sp3 HoldsC), (64, sp0 (some true))]) a14 [Arg.enc f, Arg.enc spans, Arg.enc l, Arg.enc most, Arg.enc class_] (Arg.enc c) := by
  cases h
  refine ⟨rfl, fun g => run_def ?_⟩
  unfold a14
  have hm := rm_modelOf f
  have hM : ModelC f = some (modelOf f) := rfl
  generalize modelOf f = m at *
  have hR : RegionC m spans = some (regionOf m.dim spans) := part_of hm.dim _
  obtain ⟨hsm, hok, hne, hs4⟩ := reg_facts m.dim spans
  have hreg := okRegion_regionOf m.dim spans hm.dim.2
  generalize regionOf m.dim spans = b at *
  have hcl := hm.classes
  have wd : IntKind.i64.wrap (m.classes - 1) = m.classes - 1 := wrap64 (by omega) (by omega)
  have hWc := within_of class_ 0 (m.classes - 1) (by omega)
  have hwc := within_le class_ 0 (m.classes - 1) (by omega)
  generalize within class_ 0 (m.classes - 1) = k at *
  have hWm := within_of most 0 300 (by omega)
  have hwm := within_le most 0 300 (by omega)
  generalize within most 0 300 = mo at *
  have hRg : RangeC m k b mo = some (rangeP m k b mo) := part_of ⟨hm, hok, by omega, by omega⟩ _
  have hBd : BoundS m k b = some ⟨(boundP m k b).1, (boundP m k b).2, true⟩ := by
    have := part_of (p := RM m ∧ okB b) ⟨hm, hok⟩ (boundM m k b)
    rw [show boundM m k b = ⟨(boundP m k b).1, (boundP m k b).2, true⟩ from by unfold boundM; rw [if_neg (by simp [hne]; omega)]] at this
    unfold BoundS
    rw [show boundM m k b = ⟨(boundP m k b).1, (boundP m k b).2, true⟩ from by unfold boundM; rw [if_neg (by simp [hne]; omega)]]
    exact this
  have hI : InsideC b l = some (insideOf b l) := part_of ⟨hsm.1, hsm.2.1, hsm.2.2.1, hsm.2.2.2.1⟩ _
  have hin := inside_in hne l
  generalize insideOf b l = p at *
  have hE := eval_of hm (c := k) (by omega) (by omega) p
  obtain ⟨g1, g2, g3, g4⟩ := range_spec hm (c := k) (by omega) (by omega) hne mo
  have g3p := g3 p _ hin
  have bl := boundP_le hm k hne
  have hSt : ∀ lo hi : Int, startOf ⟨1, k, b, lo, hi, 0, false, 0⟩ = b := fun lo hi => by
    unfold startOf
    rw [if_neg (by simp [paired]), ← hs4]
  have hokq : ∀ lo hi : Int, lo ≤ hi → okQuery m ⟨1, k, b, lo, hi, 0, false, 0⟩ = true := fun lo hi h => by
    unfold okQuery okKind
    simp [hreg, h]
    omega
  have hbrk : ∀ (lo hi : Int) (p : Point) (t : Int), lo ≤ hi → breaks m ⟨1, k, b, lo, hi, 0, false, 0⟩ p t = !(Span.has ⟨lo, hi⟩ (evalM m k p)) := fun lo hi p t h => by
    unfold breaks
    rw [hokq lo hi h]
    simp
  have hHo : ∀ lo hi : Int, HoldsC m ⟨1, k, b, lo, hi, 0, false, 0⟩ 2000 = some (if countM m ⟨1, k, b, 0, 0, 0, false, 0⟩ b ≤ 2000 then (holdsM m ⟨1, k, b, lo, hi, 0, false, 0⟩, true) else (false, false)) := fun lo hi => by
    have := part_of (p := RM m ∧ okB (startOf ⟨1, k, b, lo, hi, 0, false, 0⟩) ∧ (2000 : Int) ≤ 1000000) ⟨hm, by rw [hSt]; exact hok, by omega⟩ (if countM m ⟨1, k, b, lo, hi, 0, false, 0⟩ (startOf ⟨1, k, b, lo, hi, 0, false, 0⟩) ≤ 2000 then (holdsM m ⟨1, k, b, lo, hi, 0, false, 0⟩, true) else (false, false))
    rw [hSt] at this
    unfold HoldsC
    rw [hSt]
    exact this
  have hiff : ∀ lo hi : Int, lo ≤ hi → (holdsM m ⟨1, k, b, lo, hi, 0, false, 0⟩ = true ↔ ∀ p t, InB b p t → lo ≤ evalM m k p ∧ evalM m k p ≤ hi) := fun lo hi h => by
    rw [holds_iff hm (by rw [hSt]; exact hne), hSt]
    constructor
    · intro h1 p t hp
      have := h1 p t hp
      rw [hbrk lo hi p t h] at this
      simpa [Span.has] using this
    · intro h1 p t hp
      rw [hbrk lo hi p t h]
      simpa [Span.has] using h1 p t hp
  generalize hrg : rangeP m k b mo = rg at *
  obtain ⟨lo, hi, one⟩ := rg
  simp only at g1 g2 g3 g3p g4
  have c1 : ¬ lo < (boundP m k b).1 := by omega
  have c2 : ¬ (boundP m k b).2 < hi := by omega
  have c3 : ¬ evalM m k p < lo := by omega
  have c4 : ¬ hi < evalM m k p := by omega
  cases one
  case false => simp -implicitDefEqProofs [hM, hR, wd, hWc, hWm, hRg, hBd, hI, hE, c1, c2, c3, c4]
  case true =>
    obtain ⟨⟨pa, ta, hpa, ea⟩, ⟨pb, tb, hpb, eb⟩⟩ := g4 rfl
    have hle : lo ≤ hi := by omega
    have v1 : holdsM m ⟨1, k, b, lo, hi, 0, false, 0⟩ = true := (hiff lo hi hle).2 g3
    have v2 : ∀ z, lo + 1 ≤ z → holdsM m ⟨1, k, b, lo + 1, z, 0, false, 0⟩ = false := fun z hz => by
      cases hv : holdsM m ⟨1, k, b, lo + 1, z, 0, false, 0⟩
      · rfl
      · have := (hiff (lo + 1) z hz).1 hv pa ta hpa
        omega
    have v3 : ∀ z, z ≤ hi - 1 → holdsM m ⟨1, k, b, z, hi - 1, 0, false, 0⟩ = false := fun z hz => by
      cases hv : holdsM m ⟨1, k, b, z, hi - 1, 0, false, 0⟩
      · rfl
      · have := (hiff z (hi - 1) hz).1 hv pb tb hpb
        omega
    have w1 : IntKind.i64.wrap (lo + 1) = lo + 1 := wrap64 (by omega) (by omega)
    have w2 : IntKind.i64.wrap (hi - 1) = hi - 1 := wrap64 (by omega) (by omega)
    have H1 := hHo lo hi
    by_cases h2 : countM m ⟨1, k, b, 0, 0, 0, false, 0⟩ b ≤ 2000
    case neg =>
      rw [if_neg h2] at H1
      simp -implicitDefEqProofs [hM, hR, wd, hWc, hWm, hRg, hBd, hI, hE, c1, c2, c3, c4, H1]
    rw [if_pos h2, v1] at H1
    have H2 : ∀ z, lo + 1 ≤ z → HoldsC m ⟨1, k, b, lo + 1, z, 0, false, 0⟩ 2000 = some (false, true) := fun z hz => by
      rw [hHo, if_pos h2, v2 z hz]
    have H3 : ∀ z, z ≤ hi - 1 → HoldsC m ⟨1, k, b, z, hi - 1, 0, false, 0⟩ 2000 = some (false, true) := fun z hz => by
      rw [hHo, if_pos h2, v3 z hz]
    have H2' := H2 (if hi < lo + 1 then lo + 1 else hi) (by split <;> omega)
    have H3' := H3 (if hi - 1 < lo then hi - 1 else lo) (by split <;> omega)
    clear H2 H3 v1 v2 v3 hHo hiff hbrk hokq
    simp -implicitDefEqProofs [hM, hR, wd, hWc, hWm, hRg, hBd, hI, hE, c1, c2, c3, c4, H1, w1, w2, H2', H3']
noncomputable def law_sp : List AV → Option AV := sp5 fun (_ : Forest) (_ _ : List Int) (_ _ : Int) => some true
theorem law_holds : Contract Try.prog 14 law_sp :=
  contract_of_runs mixed (tbl_cons c_Model (tbl_cons c_Region (tbl_cons c_Within (tbl_cons c_lrange (tbl_cons c_bSum (tbl_cons c_Inside (tbl_cons c_Eval (tbl_cons c_Holds (tbl_cons c_closed64 tbl_nil))))))))) Try.func14 m14 (sp5_runs runs_law)
theorem law_says (f : Forest) (l1 l2 : List Int) (x y : Int) : law_sp [Arg.enc f, Arg.enc l1, Arg.enc l2, Arg.enc x, Arg.enc y] = some (.bool true) := by
  simp only [law_sp, sp5, Arg.dec_enc, Option.bind_some]
  rfl
end Go.Co
