/- CO: texts of this claim, one behind the other. -/
import Derived.Test.YtcjflbmpfmibbaaGreatCz6
import Derived.Test.YtcjflbmpfmibbaaGreatCz12
/- CO: the document's own answers: leaves and bounds. -/
namespace Go.Co
open Go.Am Go.Proofs
set_option linter.unusedSimpArgs false
set_option linter.unusedVariables false
def c83_0 : ACode := .ops [⟨some 3, .box (.t 1) 10, none, []⟩,
  ⟨some 4, .mv (.c (.nils)), none, []⟩] [0, 3]
theorem r83_0 : type_of% (@rr _ _ c83_0.eq_1) := rr c83_0.eq_1
def c83_1 : ACode := .ops [⟨some 12, .mv (.t 0), none, []⟩,
  ⟨some 13, .call 82 [.t 12, .c (.int .i64 4)], none, []⟩,
  ⟨some 14, .un .not (.t 13), none, []⟩] [0, 3, 14]
theorem r83_1 : type_of% (@rr _ _ c83_1.eq_1) := rr c83_1.eq_1
def c83_2 : ACode := .ops [⟨some 4, .mv (.c (.nils)), none, []⟩] [4]
theorem r83_2 : type_of% (@rr _ _ c83_2.eq_1) := rr c83_2.eq_1
def c83_3 : ACode := .seq c83_2 .ret
theorem r83_3 : type_of% (@rr _ _ c83_3.eq_1) := rr c83_3.eq_1
def c83_4 : ACode := .cond (.t 14) c83_3 .skip
theorem r83_4 : type_of% (@rr _ _ c83_4.eq_1) := rr c83_4.eq_1
def c83_5 : ACode := .seq c83_1 c83_4
theorem r83_5 : type_of% (@rr _ _ c83_5.eq_1) := rr c83_5.eq_1
def c83_6 : ACode := .ops [⟨some 15, .mv (.t 0), none, []⟩,
  ⟨some 16, .len (.t 15), none, []⟩,
  ⟨some 17, .mks 5 (.t 16) 10 [.int .i64 0, .int .i64 0, .int .i64 0, .int .i64 0, .int .i64 0, .int .i64 0, .int .i64 0, .int .i64 0, .int .i64 0, .int .i64 0], none, []⟩,
  ⟨some 5, .mv (.t 17), none, []⟩] [0, 3, 5]
theorem r83_6 : type_of% (@rr _ _ c83_6.eq_1) := rr c83_6.eq_1
def c83_7 : ACode := .ops [⟨some 18, .mv (.t 5), none, []⟩,
  ⟨some 19, .load 10 true (.t 3), none, [3]⟩,
  ⟨some 20, .ias (.t 18) (.c (.int .i64 0)) 10, none, [5]⟩,
  ⟨none, .store (.t 20) 10 (.t 19), none, [5]⟩] [0, 5]
theorem r83_7 : type_of% (@rr _ _ c83_7.eq_1) := rr c83_7.eq_1
def c83_8 : ACode := .ops [⟨some 6, .nil0 6 11, none, []⟩] [0, 5, 6]
theorem r83_8 : type_of% (@rr _ _ c83_8.eq_1) := rr c83_8.eq_1
def c83_9 : ACode := .ops [⟨some 21, .mv (.t 0), none, []⟩,
  ⟨some 22, .len (.t 21), none, []⟩,
  ⟨some 23, .mv (.c (.int .i64 0)), none, []⟩] [5, 6, 21, 22, 23]
theorem r83_9 : type_of% (@rr _ _ c83_9.eq_1) := rr c83_9.eq_1
def c83_10 : ACode := .ops [⟨some 24, .bin .lss (.t 23) (.t 22), none, []⟩] [5, 6, 21, 22, 23, 24]
theorem r83_10 : type_of% (@rr _ _ c83_10.eq_1) := rr c83_10.eq_1
def c83_11 : ACode := .cond (.t 24) .skip (.exit 0)
theorem r83_11 : type_of% (@rr _ _ c83_11.eq_1) := rr c83_11.eq_1
def c83_12 : ACode := .ops [⟨some 25, .mv (.t 23), none, []⟩,
  ⟨some 26, .ias (.t 21) (.t 23) 1, none, []⟩,
  ⟨some 27, .load 1 false (.t 26), none, []⟩,
  ⟨some 7, .mv (.t 25), none, []⟩,
  ⟨some 8, .mv (.t 27), none, []⟩] [5, 6, 7, 8, 21, 22, 23]
theorem r83_12 : type_of% (@rr _ _ c83_12.eq_1) := rr c83_12.eq_1
def c83_13 : ACode := .ops [⟨some 29, .mv (.t 8), none, []⟩,
  ⟨some 30, .call 68 [.t 29], none, []⟩,
  ⟨some 28, .mv (.t 30), none, []⟩,
  ⟨some 31, .ext (.t 28) 0, none, []⟩,
  ⟨some 32, .ext (.t 28) 1, none, []⟩,
  ⟨some 9, .alloc [.bool false, .int .i64 0, .int .i64 0, .int .i64 0, .int .i64 0, .int .i64 0], none, []⟩,
  ⟨none, .store (.t 9) 6 (.t 31), none, [9]⟩,
  ⟨some 10, .mv (.t 32), none, []⟩] [5, 6, 7, 9, 21, 22, 23]
theorem r83_13 : type_of% (@rr _ _ c83_13.eq_1) := rr c83_13.eq_1
def c83_14 : ACode := .ops [⟨some 33, .fad (.t 9) 0, none, [9]⟩,
  ⟨some 34, .load 1 false (.t 33), none, [9]⟩] [5, 6, 7, 9, 21, 22, 23, 34]
theorem r83_14 : type_of% (@rr _ _ c83_14.eq_1) := rr c83_14.eq_1
def c83_15 : ACode := .ops [⟨some 35, .mv (.t 5), none, []⟩,
  ⟨some 36, .mv (.t 7), none, []⟩,
  ⟨some 37, .ias (.t 35) (.t 36) 10, none, [5]⟩,
  ⟨some 38, .load 10 true (.t 37), none, [5]⟩,
  ⟨some 39, .call 32 [.t 38], none, []⟩,
  ⟨some 40, .un .not (.t 39), none, []⟩] [5, 6, 7, 9, 21, 22, 23, 40]
theorem r83_15 : type_of% (@rr _ _ c83_15.eq_1) := rr c83_15.eq_1
def c83_16 : ACode := .ops [⟨some 41, .mv (.t 6), none, []⟩,
  ⟨some 42, .mv (.t 5), none, []⟩,
  ⟨some 43, .mv (.t 7), none, []⟩,
  ⟨some 44, .ias (.t 42) (.t 43) 10, none, [5]⟩,
  ⟨some 45, .load 10 true (.t 44), none, [5]⟩,
  ⟨some 46, .fad (.t 9) 1, none, [9]⟩,
  ⟨some 47, .load 1 false (.t 46), none, [9]⟩,
  ⟨some 48, .build [.int .i64 0, .int .i64 0, .int .i64 0, .int .i64 0, .int .i64 0, .int .i64 0, .int .i64 0, .int .i64 0, .int .i64 0, .int .i64 0, .int .i64 0] [(0, 10, .t 45), (10, 1, .t 47)], none, []⟩,
  ⟨some 49, .mkrow 49 1 11 [.int .i64 0, .int .i64 0, .int .i64 0, .int .i64 0, .int .i64 0, .int .i64 0, .int .i64 0, .int .i64 0, .int .i64 0, .int .i64 0, .int .i64 0] [(0, 11, .t 48)], none, []⟩,
  ⟨some 50, .app 6 [6] (.t 41) (.t 49) 11, none, [6, 49]⟩,
  ⟨some 6, .mv (.t 50), none, []⟩] [5, 6, 21, 22, 23]
theorem r83_16 : type_of% (@rr _ _ c83_16.eq_1) := rr c83_16.eq_1
def c83_17 : ACode := .cond (.t 40) c83_16 .skip
theorem r83_17 : type_of% (@rr _ _ c83_17.eq_1) := rr c83_17.eq_1
def c83_18 : ACode := .seq c83_15 c83_17
theorem r83_18 : type_of% (@rr _ _ c83_18.eq_1) := rr c83_18.eq_1
def c83_19 : ACode := .seq c83_18 (.exit 1)
theorem r83_19 : type_of% (@rr _ _ c83_19.eq_1) := rr c83_19.eq_1
def c83_20 : ACode := .cond (.t 34) c83_19 .skip
theorem r83_20 : type_of% (@rr _ _ c83_20.eq_1) := rr c83_20.eq_1
def c83_21 : ACode := .seq c83_14 c83_20
theorem r83_21 : type_of% (@rr _ _ c83_21.eq_1) := rr c83_21.eq_1
def c83_22 : ACode := .ops [⟨some 51, .mv (.t 5), none, []⟩,
  ⟨some 52, .mv (.t 7), none, []⟩,
  ⟨some 53, .fad (.t 9) 2, none, [9]⟩,
  ⟨some 54, .load 1 false (.t 53), none, [9]⟩,
  ⟨some 55, .ias (.t 51) (.t 52) 10, none, [5]⟩,
  ⟨some 56, .iad (.t 55) (.t 54) 2 5, none, [5]⟩,
  ⟨some 57, .load 2 true (.t 56), none, [5]⟩,
  ⟨some 11, .alloc [.int .i64 0, .int .i64 0], none, []⟩,
  ⟨none, .store (.t 11) 2 (.t 57), none, [11]⟩] [5, 6, 7, 9, 11, 21, 22, 23]
theorem r83_22 : type_of% (@rr _ _ c83_22.eq_1) := rr c83_22.eq_1
def c83_23 : ACode := .ops [⟨some 58, .mv (.t 5), none, []⟩,
  ⟨some 59, .fad (.t 9) 4, none, [9]⟩,
  ⟨some 60, .load 1 false (.t 59), none, [9]⟩,
  ⟨some 61, .mv (.t 5), none, []⟩,
  ⟨some 62, .fad (.t 9) 5, none, [9]⟩,
  ⟨some 63, .load 1 false (.t 62), none, [9]⟩,
  ⟨some 64, .mv (.t 5), none, []⟩,
  ⟨some 65, .mv (.t 7), none, []⟩,
  ⟨some 66, .ias (.t 64) (.t 65) 10, none, [5]⟩,
  ⟨some 67, .load 10 true (.t 66), none, [5]⟩,
  ⟨some 68, .mv (.t 5), none, []⟩,
  ⟨some 69, .mv (.t 7), none, []⟩,
  ⟨some 70, .ias (.t 68) (.t 69) 10, none, [5]⟩,
  ⟨some 71, .load 10 true (.t 70), none, [5]⟩,
  ⟨some 72, .ias (.t 58) (.t 60) 10, none, [5]⟩,
  ⟨none, .store (.t 72) 10 (.t 67), none, [5]⟩,
  ⟨some 73, .ias (.t 61) (.t 63) 10, none, [5]⟩,
  ⟨none, .store (.t 73) 10 (.t 71), none, [5]⟩] [5, 6, 9, 11, 21, 22, 23]
theorem r83_23 : type_of% (@rr _ _ c83_23.eq_1) := rr c83_23.eq_1
def c83_24 : ACode := .ops [⟨some 74, .mv (.t 5), none, []⟩,
  ⟨some 75, .fad (.t 9) 4, none, [9]⟩,
  ⟨some 76, .load 1 false (.t 75), none, [9]⟩,
  ⟨some 77, .fad (.t 9) 2, none, [9]⟩,
  ⟨some 78, .load 1 false (.t 77), none, [9]⟩,
  ⟨some 79, .load 2 true (.t 11), none, [11]⟩,
  ⟨some 80, .fad (.t 11) 0, none, [11]⟩,
  ⟨some 81, .load 1 false (.t 80), none, [11]⟩,
  ⟨some 82, .fad (.t 9) 3, none, [9]⟩,
  ⟨some 83, .load 1 false (.t 82), none, [9]⟩,
  ⟨some 84, .build [.int .i64 0, .int .i64 0] [(0, 1, .t 81), (1, 1, .t 83)], none, []⟩,
  ⟨some 85, .call 95 [.t 79, .t 84], none, []⟩,
  ⟨some 86, .ias (.t 74) (.t 76) 10, none, [5]⟩,
  ⟨some 87, .iad (.t 86) (.t 78) 2 5, none, [5]⟩,
  ⟨none, .store (.t 87) 2 (.t 85), none, [5]⟩] [5, 6, 9, 11, 21, 22, 23]
theorem r83_24 : type_of% (@rr _ _ c83_24.eq_1) := rr c83_24.eq_1
def c83_25 : ACode := .ops [⟨some 88, .mv (.t 5), none, []⟩,
  ⟨some 89, .fad (.t 9) 5, none, [9]⟩,
  ⟨some 90, .load 1 false (.t 89), none, [9]⟩,
  ⟨some 91, .fad (.t 9) 2, none, [9]⟩,
  ⟨some 92, .load 1 false (.t 91), none, [9]⟩,
  ⟨some 93, .load 2 true (.t 11), none, [11]⟩,
  ⟨some 94, .fad (.t 9) 3, none, [9]⟩,
  ⟨some 95, .load 1 false (.t 94), none, [9]⟩,
  ⟨some 96, .bin .add (.t 95) (.c (.int .i64 1)), none, []⟩,
  ⟨some 97, .fad (.t 11) 1, none, [11]⟩,
  ⟨some 98, .load 1 false (.t 97), none, [11]⟩,
  ⟨some 99, .build [.int .i64 0, .int .i64 0] [(0, 1, .t 96), (1, 1, .t 98)], none, []⟩,
  ⟨some 100, .call 95 [.t 93, .t 99], none, []⟩,
  ⟨some 101, .ias (.t 88) (.t 90) 10, none, [5]⟩,
  ⟨some 102, .iad (.t 101) (.t 92) 2 5, none, [5]⟩,
  ⟨none, .store (.t 102) 2 (.t 100), none, [5]⟩] [5, 6, 21, 22, 23]
theorem r83_25 : type_of% (@rr _ _ c83_25.eq_1) := rr c83_25.eq_1
def c83_26 : ACode := .seq c83_24 c83_25
theorem r83_26 : type_of% (@rr _ _ c83_26.eq_1) := rr c83_26.eq_1
def c83_27 : ACode := .seq c83_23 c83_26
theorem r83_27 : type_of% (@rr _ _ c83_27.eq_1) := rr c83_27.eq_1
def c83_28 : ACode := .seq c83_22 c83_27
theorem r83_28 : type_of% (@rr _ _ c83_28.eq_1) := rr c83_28.eq_1
def c83_29 : ACode := .seq c83_21 c83_28
theorem r83_29 : type_of% (@rr _ _ c83_29.eq_1) := rr c83_29.eq_1
def c83_30 : ACode := .seq c83_13 c83_29
theorem r83_30 : type_of% (@rr _ _ c83_30.eq_1) := rr c83_30.eq_1
def c83_31 : ACode := .seq c83_12 c83_30
theorem r83_31 : type_of% (@rr _ _ c83_31.eq_1) := rr c83_31.eq_1
def c83_32 : ACode := .block 1 c83_31
theorem r83_32 : type_of% (@rr _ _ c83_32.eq_1) := rr c83_32.eq_1
def c83_33 : ACode := .ops [⟨some 103, .bin .add (.t 23) (.c (.int .i64 1)), none, []⟩,
  ⟨some 23, .mv (.t 103), none, []⟩] [5, 6, 21, 22, 23]
theorem r83_33 : type_of% (@rr _ _ c83_33.eq_1) := rr c83_33.eq_1
def c83_34 : ACode := .seq c83_32 c83_33
theorem r83_34 : type_of% (@rr _ _ c83_34.eq_1) := rr c83_34.eq_1
def c83_35 : ACode := .seq c83_11 c83_34
theorem r83_35 : type_of% (@rr _ _ c83_35.eq_1) := rr c83_35.eq_1
def c83_36 : ACode := .seq c83_10 c83_35
theorem r83_36 : type_of% (@rr _ _ c83_36.eq_1) := rr c83_36.eq_1
def c83_37 : ACode := .keep [5, 6, 21, 22, 23] [5, 6] c83_36
theorem r83_37 : type_of% (@rr _ _ c83_37.eq_1) := rr c83_37.eq_1
def c83_38 : ACode := .loop c83_37
theorem r83_38 : type_of% (@rr _ _ c83_38.eq_1) := rr c83_38.eq_1
def c83_39 : ACode := .block 0 c83_38
theorem r83_39 : type_of% (@rr _ _ c83_39.eq_1) := rr c83_39.eq_1
def c83_40 : ACode := .seq c83_9 c83_39
theorem r83_40 : type_of% (@rr _ _ c83_40.eq_1) := rr c83_40.eq_1
def c83_41 : ACode := .ops [⟨some 104, .mv (.t 6), none, []⟩,
  ⟨some 4, .mv (.t 104), none, []⟩] [4]
theorem r83_41 : type_of% (@rr _ _ c83_41.eq_1) := rr c83_41.eq_1
def c83_42 : ACode := .seq c83_41 .ret
theorem r83_42 : type_of% (@rr _ _ c83_42.eq_1) := rr c83_42.eq_1
def c83_43 : ACode := .seq c83_40 c83_42
theorem r83_43 : type_of% (@rr _ _ c83_43.eq_1) := rr c83_43.eq_1
def c83_44 : ACode := .seq c83_8 c83_43
theorem r83_44 : type_of% (@rr _ _ c83_44.eq_1) := rr c83_44.eq_1
def c83_45 : ACode := .seq c83_7 c83_44
theorem r83_45 : type_of% (@rr _ _ c83_45.eq_1) := rr c83_45.eq_1
def c83_46 : ACode := .seq c83_6 c83_45
theorem r83_46 : type_of% (@rr _ _ c83_46.eq_1) := rr c83_46.eq_1
def c83_47 : ACode := .seq c83_5 c83_46
theorem r83_47 : type_of% (@rr _ _ c83_47.eq_1) := rr c83_47.eq_1
def c83_48 : ACode := .seq c83_0 c83_47
theorem r83_48 : type_of% (@rr _ _ c83_48.eq_1) := rr c83_48.eq_1
def a83 : AFun := ⟨2, 105, c83_48, [.t 4]⟩
attribute [simp] r83_0 r83_1 r83_2 r83_3 r83_4 r83_5 r83_6 r83_7 r83_8 r83_9 r83_10 r83_11 r83_12 r83_13 r83_14 r83_15 r83_16 r83_17 r83_18 r83_19 r83_20 r83_21 r83_22 r83_23 r83_24 r83_25 r83_26 r83_27 r83_28 r83_29 r83_30 r83_31 r83_32 r83_33 r83_34 r83_35 r83_36 r83_37 r83_38 r83_39 r83_40 r83_41 r83_42 r83_43 r83_44 r83_45 r83_46 r83_47 r83_48
theorem m83 : mFun Tryz.prog Tryz.f83 a83 = true := by decide +kernel
def c61_0 : ACode := .ops [⟨some 3, .box (.t 1) 10, none, []⟩,
  ⟨some 4, .mv (.c (.int .i64 0)), none, []⟩,
  ⟨some 5, .mv (.c (.int .i64 0)), none, []⟩,
  ⟨some 6, .mv (.c (.bool false)), none, []⟩] [0, 3]
theorem r61_0 : type_of% (@rr _ _ c61_0.eq_1) := rr c61_0.eq_1
def c61_1 : ACode := .ops [⟨some 12, .mv (.t 0), none, []⟩,
  ⟨some 13, .load 10 true (.t 3), none, [3]⟩,
  ⟨some 14, .call 83 [.t 12, .t 13], none, []⟩,
  ⟨some 7, .mv (.t 14), none, []⟩] [7]
theorem r61_1 : type_of% (@rr _ _ c61_1.eq_1) := rr c61_1.eq_1
def c61_2 : ACode := .ops [⟨some 15, .mv (.t 7), none, []⟩,
  ⟨some 16, .len (.t 15), none, []⟩,
  ⟨some 17, .bin .eql (.t 16) (.c (.int .i64 0)), none, []⟩] [7, 17]
theorem r61_2 : type_of% (@rr _ _ c61_2.eq_1) := rr c61_2.eq_1
def c61_3 : ACode := .ops [⟨some 4, .mv (.c (.int .i64 0)), none, []⟩,
  ⟨some 5, .mv (.c (.int .i64 0)), none, []⟩,
  ⟨some 6, .mv (.c (.bool false)), none, []⟩] [4, 5, 6]
theorem r61_3 : type_of% (@rr _ _ c61_3.eq_1) := rr c61_3.eq_1
def c61_4 : ACode := .seq c61_3 .ret
theorem r61_4 : type_of% (@rr _ _ c61_4.eq_1) := rr c61_4.eq_1
def c61_5 : ACode := .cond (.t 17) c61_4 .skip
theorem r61_5 : type_of% (@rr _ _ c61_5.eq_1) := rr c61_5.eq_1
def c61_6 : ACode := .seq c61_2 c61_5
theorem r61_6 : type_of% (@rr _ _ c61_6.eq_1) := rr c61_6.eq_1
def c61_7 : ACode := .ops [⟨some 18, .mv (.t 7), none, []⟩,
  ⟨some 19, .ias (.t 18) (.c (.int .i64 0)) 11, none, []⟩,
  ⟨some 20, .fad (.t 19) 10, none, []⟩,
  ⟨some 21, .load 1 false (.t 20), none, []⟩,
  ⟨some 22, .mv (.t 7), none, []⟩,
  ⟨some 23, .ias (.t 22) (.c (.int .i64 0)) 11, none, []⟩,
  ⟨some 24, .fad (.t 23) 10, none, []⟩,
  ⟨some 25, .load 1 false (.t 24), none, []⟩,
  ⟨some 8, .mv (.t 21), none, []⟩,
  ⟨some 9, .mv (.t 25), none, []⟩] [7, 8, 9]
theorem r61_7 : type_of% (@rr _ _ c61_7.eq_1) := rr c61_7.eq_1
def c61_8 : ACode := .ops [⟨some 26, .mv (.t 7), none, []⟩,
  ⟨some 27, .len (.t 26), none, []⟩,
  ⟨some 28, .mv (.c (.int .i64 0)), none, []⟩] [8, 9, 26, 27, 28]
theorem r61_8 : type_of% (@rr _ _ c61_8.eq_1) := rr c61_8.eq_1
def c61_9 : ACode := .ops [⟨some 29, .bin .lss (.t 28) (.t 27), none, []⟩] [8, 9, 26, 27, 28, 29]
theorem r61_9 : type_of% (@rr _ _ c61_9.eq_1) := rr c61_9.eq_1
def c61_10 : ACode := .cond (.t 29) .skip (.exit 0)
theorem r61_10 : type_of% (@rr _ _ c61_10.eq_1) := rr c61_10.eq_1
def c61_11 : ACode := .ops [⟨some 30, .ias (.t 26) (.t 28) 11, none, []⟩,
  ⟨some 31, .load 11 true (.t 30), none, []⟩,
  ⟨some 11, .alloc [.int .i64 0, .int .i64 0, .int .i64 0, .int .i64 0, .int .i64 0, .int .i64 0, .int .i64 0, .int .i64 0, .int .i64 0, .int .i64 0, .int .i64 0], none, []⟩,
  ⟨none, .store (.t 11) 11 (.t 31), none, [11]⟩] [8, 9, 11, 26, 27, 28]
theorem r61_11 : type_of% (@rr _ _ c61_11.eq_1) := rr c61_11.eq_1
def c61_12 : ACode := .ops [⟨some 32, .mv (.t 8), none, []⟩,
  ⟨some 33, .fad (.t 11) 10, none, [11]⟩,
  ⟨some 34, .load 1 false (.t 33), none, [11]⟩,
  ⟨some 35, .mnmx false (.t 32) (.t 34), none, []⟩,
  ⟨some 36, .mv (.t 9), none, []⟩,
  ⟨some 37, .fad (.t 11) 10, none, [11]⟩,
  ⟨some 38, .load 1 false (.t 37), none, [11]⟩,
  ⟨some 39, .mnmx true (.t 36) (.t 38), none, []⟩,
  ⟨some 8, .mv (.t 35), none, []⟩,
  ⟨some 9, .mv (.t 39), none, []⟩] [8, 9, 26, 27, 28]
theorem r61_12 : type_of% (@rr _ _ c61_12.eq_1) := rr c61_12.eq_1
def c61_13 : ACode := .seq c61_11 c61_12
theorem r61_13 : type_of% (@rr _ _ c61_13.eq_1) := rr c61_13.eq_1
def c61_14 : ACode := .block 1 c61_13
theorem r61_14 : type_of% (@rr _ _ c61_14.eq_1) := rr c61_14.eq_1
def c61_15 : ACode := .ops [⟨some 40, .bin .add (.t 28) (.c (.int .i64 1)), none, []⟩,
  ⟨some 28, .mv (.t 40), none, []⟩] [8, 9, 26, 27, 28]
theorem r61_15 : type_of% (@rr _ _ c61_15.eq_1) := rr c61_15.eq_1
def c61_16 : ACode := .seq c61_14 c61_15
theorem r61_16 : type_of% (@rr _ _ c61_16.eq_1) := rr c61_16.eq_1
def c61_17 : ACode := .seq c61_10 c61_16
theorem r61_17 : type_of% (@rr _ _ c61_17.eq_1) := rr c61_17.eq_1
def c61_18 : ACode := .seq c61_9 c61_17
theorem r61_18 : type_of% (@rr _ _ c61_18.eq_1) := rr c61_18.eq_1
def c61_19 : ACode := .keep [8, 9, 26, 27, 28] [] c61_18
theorem r61_19 : type_of% (@rr _ _ c61_19.eq_1) := rr c61_19.eq_1
def c61_20 : ACode := .loop c61_19
theorem r61_20 : type_of% (@rr _ _ c61_20.eq_1) := rr c61_20.eq_1
def c61_21 : ACode := .block 0 c61_20
theorem r61_21 : type_of% (@rr _ _ c61_21.eq_1) := rr c61_21.eq_1
def c61_22 : ACode := .seq c61_8 c61_21
theorem r61_22 : type_of% (@rr _ _ c61_22.eq_1) := rr c61_22.eq_1
def c61_23 : ACode := .ops [⟨some 41, .mv (.t 8), none, []⟩,
  ⟨some 42, .mv (.t 9), none, []⟩,
  ⟨some 4, .mv (.t 41), none, []⟩,
  ⟨some 5, .mv (.t 42), none, []⟩,
  ⟨some 6, .mv (.c (.bool true)), none, []⟩] [4, 5, 6]
theorem r61_23 : type_of% (@rr _ _ c61_23.eq_1) := rr c61_23.eq_1
def c61_24 : ACode := .seq c61_23 .ret
theorem r61_24 : type_of% (@rr _ _ c61_24.eq_1) := rr c61_24.eq_1
def c61_25 : ACode := .seq c61_22 c61_24
theorem r61_25 : type_of% (@rr _ _ c61_25.eq_1) := rr c61_25.eq_1
def c61_26 : ACode := .seq c61_7 c61_25
theorem r61_26 : type_of% (@rr _ _ c61_26.eq_1) := rr c61_26.eq_1
def c61_27 : ACode := .seq c61_6 c61_26
theorem r61_27 : type_of% (@rr _ _ c61_27.eq_1) := rr c61_27.eq_1
def c61_28 : ACode := .seq c61_1 c61_27
theorem r61_28 : type_of% (@rr _ _ c61_28.eq_1) := rr c61_28.eq_1
def c61_29 : ACode := .seq c61_0 c61_28
theorem r61_29 : type_of% (@rr _ _ c61_29.eq_1) := rr c61_29.eq_1
def a61 : AFun := ⟨2, 43, c61_29, [.t 4, .t 5, .t 6]⟩
attribute [simp] r61_0 r61_1 r61_2 r61_3 r61_4 r61_5 r61_6 r61_7 r61_8 r61_9 r61_10 r61_11 r61_12 r61_13 r61_14 r61_15 r61_16 r61_17 r61_18 r61_19 r61_20 r61_21 r61_22 r61_23 r61_24 r61_25 r61_26 r61_27 r61_28 r61_29
theorem m61 : mFun Tryz.prog Tryz.f61 a61 = true := by decide +kernel
def c33_0 : ACode := .ops [⟨some 3, .box (.t 0) 6, none, []⟩,
  ⟨some 5, .box (.t 2) 10, none, []⟩,
  ⟨some 6, .mv (.c (.int .i64 0)), none, []⟩,
  ⟨some 7, .mv (.c (.int .i64 0)), none, []⟩,
  ⟨some 8, .mv (.c (.bool false)), none, []⟩] [1, 3, 5]
theorem r33_0 : type_of% (@rr _ _ c33_0.eq_1) := rr c33_0.eq_1
def c33_1 : ACode := .ops [⟨some 16, .load 6 true (.t 3), none, [3]⟩,
  ⟨some 17, .call 59 [.t 16], none, []⟩,
  ⟨some 18, .un .not (.t 17), none, []⟩,
  ⟨some 19, .mv (.t 18), none, []⟩,
  ⟨some 20, .mv (.t 1), some (19, false), []⟩,
  ⟨some 21, .bin .lss (.t 20) (.c (.int .i64 0)), some (19, false), []⟩,
  ⟨some 22, .pick (.t 19) (.c (.bool true)) (.t 21), none, []⟩,
  ⟨some 23, .mv (.t 22), none, []⟩,
  ⟨some 24, .mv (.t 1), some (23, false), []⟩,
  ⟨some 25, .fad (.t 3) 1, some (23, false), [3]⟩,
  ⟨some 26, .load 1 false (.t 25), some (23, false), [3]⟩,
  ⟨some 27, .bin .geq (.t 24) (.t 26), some (23, false), []⟩,
  ⟨some 28, .pick (.t 23) (.c (.bool true)) (.t 27), none, []⟩,
  ⟨some 29, .mv (.t 28), none, []⟩,
  ⟨some 30, .load 10 true (.t 5), some (29, false), [5]⟩,
  ⟨some 31, .call 32 [.t 30], some (29, false), []⟩,
  ⟨some 32, .pick (.t 29) (.c (.bool true)) (.t 31), none, []⟩] [1, 3, 5, 32]
theorem r33_1 : type_of% (@rr _ _ c33_1.eq_1) := rr c33_1.eq_1
def c33_2 : ACode := .ops [⟨some 6, .mv (.c (.int .i64 0)), none, []⟩,
  ⟨some 7, .mv (.c (.int .i64 0)), none, []⟩,
  ⟨some 8, .mv (.c (.bool false)), none, []⟩] [6, 7, 8]
theorem r33_2 : type_of% (@rr _ _ c33_2.eq_1) := rr c33_2.eq_1
def c33_3 : ACode := .seq c33_2 .ret
theorem r33_3 : type_of% (@rr _ _ c33_3.eq_1) := rr c33_3.eq_1
def c33_4 : ACode := .cond (.t 32) c33_3 .skip
theorem r33_4 : type_of% (@rr _ _ c33_4.eq_1) := rr c33_4.eq_1
def c33_5 : ACode := .seq c33_1 c33_4
theorem r33_5 : type_of% (@rr _ _ c33_5.eq_1) := rr c33_5.eq_1
def c33_6 : ACode := .ops [⟨some 33, .mv (.t 1), none, []⟩,
  ⟨some 34, .fad (.t 3) 2, none, [3]⟩,
  ⟨some 35, .iad (.t 34) (.t 33) 1 3, none, [3]⟩,
  ⟨some 36, .load 1 false (.t 35), none, [3]⟩,
  ⟨some 37, .mv (.t 1), none, []⟩,
  ⟨some 38, .fad (.t 3) 2, none, [3]⟩,
  ⟨some 39, .iad (.t 38) (.t 37) 1 3, none, [3]⟩,
  ⟨some 40, .load 1 false (.t 39), none, [3]⟩,
  ⟨some 9, .mv (.t 36), none, []⟩,
  ⟨some 10, .mv (.t 40), none, []⟩] [1, 3, 5, 9, 10]
theorem r33_6 : type_of% (@rr _ _ c33_6.eq_1) := rr c33_6.eq_1
def c33_7 : ACode := .ops [⟨some 41, .fad (.t 3) 5, none, [3]⟩,
  ⟨some 42, .load 1 false (.t 41), none, [3]⟩,
  ⟨some 43, .len (.t 42), none, []⟩,
  ⟨some 44, .mv (.c (.int .i64 0)), none, []⟩] [1, 5, 9, 10, 42, 43, 44]
theorem r33_7 : type_of% (@rr _ _ c33_7.eq_1) := rr c33_7.eq_1
def c33_8 : ACode := .ops [⟨some 45, .bin .lss (.t 44) (.t 43), none, []⟩] [1, 5, 9, 10, 42, 43, 44, 45]
theorem r33_8 : type_of% (@rr _ _ c33_8.eq_1) := rr c33_8.eq_1
def c33_9 : ACode := .cond (.t 45) .skip (.exit 0)
theorem r33_9 : type_of% (@rr _ _ c33_9.eq_1) := rr c33_9.eq_1
def c33_10 : ACode := .ops [⟨some 46, .ias (.t 42) (.t 44) 2, none, []⟩,
  ⟨some 47, .load 2 true (.t 46), none, []⟩,
  ⟨some 12, .alloc [.int .i64 0, .nils], none, []⟩,
  ⟨none, .store (.t 12) 2 (.t 47), none, [12]⟩] [1, 5, 9, 10, 12, 42, 43, 44]
theorem r33_10 : type_of% (@rr _ _ c33_10.eq_1) := rr c33_10.eq_1
def c33_11 : ACode := .ops [⟨some 48, .fad (.t 12) 0, none, [12]⟩,
  ⟨some 49, .load 1 false (.t 48), none, [12]⟩,
  ⟨some 50, .mv (.t 1), none, []⟩,
  ⟨some 51, .bin .eql (.t 49) (.t 50), none, []⟩] [1, 5, 9, 10, 12, 42, 43, 44, 51]
theorem r33_11 : type_of% (@rr _ _ c33_11.eq_1) := rr c33_11.eq_1
def c33_12 : ACode := .ops [⟨some 53, .fad (.t 12) 1, none, [12]⟩,
  ⟨some 54, .load 1 false (.t 53), none, [12]⟩,
  ⟨some 55, .load 10 true (.t 5), none, [5]⟩,
  ⟨some 56, .call 61 [.t 54, .t 55], none, []⟩,
  ⟨some 52, .mv (.t 56), none, []⟩,
  ⟨some 57, .ext (.t 52) 0, none, []⟩,
  ⟨some 58, .ext (.t 52) 1, none, []⟩,
  ⟨some 59, .ext (.t 52) 2, none, []⟩,
  ⟨some 13, .mv (.t 57), none, []⟩,
  ⟨some 14, .mv (.t 58), none, []⟩,
  ⟨some 15, .mv (.t 59), none, []⟩] [1, 5, 9, 10, 13, 14, 42, 43, 44]
theorem r33_12 : type_of% (@rr _ _ c33_12.eq_1) := rr c33_12.eq_1
def c33_13 : ACode := .ops [⟨some 60, .mv (.t 9), none, []⟩,
  ⟨some 61, .mv (.t 13), none, []⟩,
  ⟨some 62, .bin .add (.t 60) (.t 61), none, []⟩,
  ⟨some 63, .mv (.t 10), none, []⟩,
  ⟨some 64, .mv (.t 14), none, []⟩,
  ⟨some 65, .bin .add (.t 63) (.t 64), none, []⟩,
  ⟨some 9, .mv (.t 62), none, []⟩,
  ⟨some 10, .mv (.t 65), none, []⟩] [1, 5, 9, 10, 42, 43, 44]
theorem r33_13 : type_of% (@rr _ _ c33_13.eq_1) := rr c33_13.eq_1
def c33_14 : ACode := .seq c33_12 c33_13
theorem r33_14 : type_of% (@rr _ _ c33_14.eq_1) := rr c33_14.eq_1
def c33_15 : ACode := .cond (.t 51) c33_14 .skip
theorem r33_15 : type_of% (@rr _ _ c33_15.eq_1) := rr c33_15.eq_1
def c33_16 : ACode := .seq c33_11 c33_15
theorem r33_16 : type_of% (@rr _ _ c33_16.eq_1) := rr c33_16.eq_1
def c33_17 : ACode := .seq c33_10 c33_16
theorem r33_17 : type_of% (@rr _ _ c33_17.eq_1) := rr c33_17.eq_1
def c33_18 : ACode := .block 1 c33_17
theorem r33_18 : type_of% (@rr _ _ c33_18.eq_1) := rr c33_18.eq_1
def c33_19 : ACode := .ops [⟨some 66, .bin .add (.t 44) (.c (.int .i64 1)), none, []⟩,
  ⟨some 44, .mv (.t 66), none, []⟩] [1, 5, 9, 10, 42, 43, 44]
theorem r33_19 : type_of% (@rr _ _ c33_19.eq_1) := rr c33_19.eq_1
def c33_20 : ACode := .seq c33_18 c33_19
theorem r33_20 : type_of% (@rr _ _ c33_20.eq_1) := rr c33_20.eq_1
def c33_21 : ACode := .seq c33_9 c33_20
theorem r33_21 : type_of% (@rr _ _ c33_21.eq_1) := rr c33_21.eq_1
def c33_22 : ACode := .seq c33_8 c33_21
theorem r33_22 : type_of% (@rr _ _ c33_22.eq_1) := rr c33_22.eq_1
def c33_23 : ACode := .keep [1, 5, 9, 10, 42, 43, 44] [5] c33_22
theorem r33_23 : type_of% (@rr _ _ c33_23.eq_1) := rr c33_23.eq_1
def c33_24 : ACode := .loop c33_23
theorem r33_24 : type_of% (@rr _ _ c33_24.eq_1) := rr c33_24.eq_1
def c33_25 : ACode := .block 0 c33_24
theorem r33_25 : type_of% (@rr _ _ c33_25.eq_1) := rr c33_25.eq_1
def c33_26 : ACode := .seq c33_7 c33_25
theorem r33_26 : type_of% (@rr _ _ c33_26.eq_1) := rr c33_26.eq_1
def c33_27 : ACode := .ops [⟨some 67, .mv (.t 9), none, []⟩,
  ⟨some 68, .mv (.t 10), none, []⟩,
  ⟨some 6, .mv (.t 67), none, []⟩,
  ⟨some 7, .mv (.t 68), none, []⟩,
  ⟨some 8, .mv (.c (.bool true)), none, []⟩] [6, 7, 8]
theorem r33_27 : type_of% (@rr _ _ c33_27.eq_1) := rr c33_27.eq_1
def c33_28 : ACode := .seq c33_27 .ret
theorem r33_28 : type_of% (@rr _ _ c33_28.eq_1) := rr c33_28.eq_1
def c33_29 : ACode := .seq c33_26 c33_28
theorem r33_29 : type_of% (@rr _ _ c33_29.eq_1) := rr c33_29.eq_1
def c33_30 : ACode := .seq c33_6 c33_29
theorem r33_30 : type_of% (@rr _ _ c33_30.eq_1) := rr c33_30.eq_1
def c33_31 : ACode := .seq c33_5 c33_30
theorem r33_31 : type_of% (@rr _ _ c33_31.eq_1) := rr c33_31.eq_1
def c33_32 : ACode := .seq c33_0 c33_31
theorem r33_32 : type_of% (@rr _ _ c33_32.eq_1) := rr c33_32.eq_1
def a33 : AFun := ⟨3, 69, c33_32, [.t 6, .t 7, .t 8]⟩
attribute [simp] r33_0 r33_1 r33_2 r33_3 r33_4 r33_5 r33_6 r33_7 r33_8 r33_9 r33_10 r33_11 r33_12 r33_13 r33_14 r33_15 r33_16 r33_17 r33_18 r33_19 r33_20 r33_21 r33_22 r33_23 r33_24 r33_25 r33_26 r33_27 r33_28 r33_29 r33_30 r33_31 r33_32
theorem m33 : mFun Tryz.prog Tryz.f33 a33 = true := by decide +kernel
theorem meet_1 (s : Span) (c : Int) : meetS s ⟨s.lo, c⟩ = (cutS s c).1 := by
  unfold meetS cutS max2 min2
  simp only [gt_iff_lt, Int.lt_irrefl, if_false]
  by_cases h : s.hi ≤ c
  · rw [if_pos h, if_neg (by omega)]
  · rw [if_neg h, if_pos (by omega)]
theorem meet_2 (s : Span) (c : Int) : meetS s ⟨c + 1, s.hi⟩ = (cutS s c).2 := by
  unfold meetS cutS max2 min2
  simp only [Int.lt_irrefl, if_false]
  by_cases h : s.hi ≤ c
  · rw [if_pos h]
    show ofS (if s.lo < c + 1 then c + 1 else s.lo) s.hi = noneS
    unfold ofS
    rw [if_pos (by split <;> omega)]
  · rw [if_neg h]
theorem wr_in {α : Type} [Row α] : ∀ (l : List α) (i j : Nat) (h : i < l.length) (vs : List AV) (a : α), j + vs.length ≤ Row.sz α → Row.enc a = wr (Row.enc l[i]) j vs → wr (encL l) (i * Row.sz α + j) vs = encL (l.set i a)
  | [], i, j, h, _, _, _, _ => by simp at h
  | x :: l, 0, j, h, vs, a, hj, ha => by
    have hl := Row.len x
    rw [List.set_cons_zero, encL_cons, encL_cons, ha]
    simp only [List.getElem_cons_zero, wr, Nat.zero_mul, Nat.zero_add]
    rw [List.take_append_of_le_length (by omega), List.drop_append_of_le_length (by omega)]
    simp
  | x :: l, i + 1, j, h, vs, a, hj, ha => by
    have hl := Row.len x
    have ih := wr_in l i j (by simpa using h) vs a hj (by simpa using ha)
    rw [List.set_cons_succ, encL_cons, encL_cons, ← ih]
    unfold wr
    have e : (i + 1) * Row.sz α + j = (Row.enc x).length + (i * Row.sz α + j) := by rw [hl, Nat.succ_mul]; omega
    rw [e, List.take_length_add_append, show (Row.enc x).length + (i * Row.sz α + j) + vs.length = (Row.enc x).length + (i * Row.sz α + j + vs.length) by omega, List.drop_length_add_append]
    simp
theorem rd_in {α : Type} [Row α] (l : List α) (i j n : Nat) (h : i < l.length) (hj : j + n ≤ Row.sz α) : rd (encL l) (i * Row.sz α + j) n true = some (.agg (((Row.enc l[i]).drop j).take n)) := by
  have h1 := encL_get l i h
  have hl := encL_length l
  unfold rd
  rw [if_pos (by
    have : (i + 1) * Row.sz α ≤ l.length * Row.sz α := Nat.mul_le_mul_right _ h
    rw [Nat.succ_mul] at this
    omega)]
  rw [← h1]
  simp only [if_true, List.drop_take, List.take_take, List.drop_drop]
  rw [Nat.min_eq_left (by omega)]
theorem rd_bspan (l : List Box) (i : Nat) (h : i < l.length) {f : Int} (h0 : 0 ≤ f) (h4 : f < 4) : rd (encL l) (i * 10 + f.toNat * 2) 2 true = some (.agg [.int .i64 (l[i].get f).lo, .int .i64 (l[i].get f).hi]) := by
  have hf : f = 0 ∨ f = 1 ∨ f = 2 ∨ f = 3 := by omega
  rcases hf with rfl | rfl | rfl | rfl <;> exact rd_in l i _ 2 h (by decide)
theorem wr_bspan (l : List Box) (i : Nat) (h : i < l.length) {f : Int} (h0 : 0 ≤ f) (h4 : f < 4) (s : Span) : wr (encL l) (i * 10 + f.toNat * 2) [.int .i64 s.lo, .int .i64 s.hi] = encL (l.set i (l[i].set f s)) := by
  have hf : f = 0 ∨ f = 1 ∨ f = 2 ∨ f = 3 := by omega
  rcases hf with rfl | rfl | rfl | rfl <;> exact wr_in l i _ h _ _ (by simp) rfl
theorem set_four {α : Type} (l : List α) (a b : Nat) (h : a ≠ b) (x y z : α) : (((l.set a x).set b x).set a y).set b z = (l.set a y).set b z := by
  apply List.ext_getElem
  · simp
  · intro j h1 h2
    simp only [List.getElem_set]
    by_cases e1 : b = j
    · simp [e1]
    · by_cases e2 : a = j <;> simp [e1, e2]
theorem pieces_empty {l : List Word} {d : Int} (hr : RT l d) {b : Box} (hb : b.empty = true) : pieces l b = [] := by
  apply List.eq_nil_iff_forall_not_mem.2
  intro x hx
  obtain ⟨p, t, hp⟩ := empty_false.1 (piece_some hx)
  exact empty_true.1 hb p t (piece_in hr hx hp).1
noncomputable def RLeaves (l : List Word) (b : Box) : Option (List Piece) := Part ((∃ d, RT l d) ∧ okB b) (pieces l b)
set_option maxHeartbeats 2000000 in
theorem runs_rLeaves (l : List Word) (b : Box) (c : List Piece) (h : RLeaves l b = some c) : Runs (tbl [(82, sp2 TreeRight), (68, sp1 Unpack), (32, sp1 fun (b : Box) => some b.empty), (95, sp2 fun (a b : Span) => some (meetS a b))]) a83 [Arg.enc l, Arg.enc b] (Arg.enc c) := by
  obtain ⟨⟨⟨d, hr⟩, hb⟩, rfl⟩ := part_some h
  refine ⟨rfl, fun g => run_def ?_⟩
  unfold a83
  have hT : TreeRight l 4 = some true := part_of hr.four _
  have hp := hr.pos
  have hle := hr.le
  have b3 : l.length ≤ maxN := by unfold maxN; omega
  have b4 : (l.length : Int) ≤ 1099511627776 := by omega
  have hz : rep l.length [.int .i64 0, .int .i64 0, .int .i64 0, .int .i64 0, .int .i64 0, .int .i64 0, .int .i64 0, .int .i64 0, .int .i64 0, .int .i64 0] = encL (List.replicate l.length zeroB) := rep_enc l.length zeroB
  have hw0 : wr (encL (List.replicate l.length zeroB)) 0 [.int .i64 b.s0.lo, .int .i64 b.s0.hi, .int .i64 b.s1.lo, .int .i64 b.s1.hi, .int .i64 b.s2.lo, .int .i64 b.s2.hi, .int .i64 b.s3.lo, .int .i64 b.s3.hi, .int .i64 b.s4.lo, .int .i64 b.s4.hi] = encL (ownL l b 0) := by
    rw [ownL_zero l b (by omega)]
    exact wr_box (List.replicate l.length zeroB) 0 (by simp; omega) b
  have hlen : 10 ≤ (encL (List.replicate l.length zeroB)).length := by rw [encL_length]; simp; omega
  have b6 : 0 < l.length := by omega
  simp -implicitDefEqProofs [hT, b3, b4, b6, hp, hz, hw0, hlen, -Go.Am.rep]
  refine run_while (c := c83_36) (fun n s => ∃ (i : Nat) (g : Nat → Nat), i + n = l.length ∧ s = ⟨[(5, .own 5 (g 5) 0 l.length), (6, .own 6 (g 6) 0 (piecesTo l b i).length), (21, .lst l.length (encL l)), (22, .int .i64 l.length), (23, .int .i64 i)],
    [(5, ⟨encL (ownL l b i), false, 10⟩), (6, ⟨encL (piecesTo l b i), false, 11⟩)], g⟩) l.length ⟨0, bump 6 (bump 5 (bump 3 g)), by omega, by simp [piecesTo, encL_nil]⟩ ?_
  rintro n s ⟨i, g, hi, rfl⟩
  have w1 : IntKind.i64.wrap ((i : Int) + 1) = (i : Int) + 1 := wrap64 (by omega) (by omega)
  by_cases h1 : i < l.length
  case pos =>
    have hU := unpack_at hr h1
    have hrow : rd (encL (ownL l b i)) (i * 10) 10 true = some (Arg.enc (own l b i)) := by
      rw [rd_box _ _ (by rw [ownL_len]; exact h1), ownL_get]
      rfl
    cases hl : (ndAt l i).leaf
    case true =>
      cases hE : (own l b i).empty
      case true =>
        have hp1 : piecesTo l b (i + 1) = piecesTo l b i := by rw [piecesTo_succ, pieceAt, hl, hE]; simp
        have ho := ownL_leaf b hl
        simp -implicitDefEqProofs [h1, rd_words, hU, hl, w1, hrow, hE]
        exact ⟨n - 1, by omega, i + 1, by omega, ⟨by rw [hp1], by omega⟩, by rw [ho], by rw [hp1]⟩
      case false =>
        have hp1 : piecesTo l b (i + 1) = piecesTo l b i ++ [⟨own l b i, (ndAt l i).value⟩] := by rw [piecesTo_succ, pieceAt, hl, hE]; simp
        have ho := ownL_leaf b hl
        have hpl := piecesTo_len l b i
        have c1 : (piecesTo l b i).length * 11 ≤ (encL (piecesTo l b i)).length := by rw [encL_length]; simp
        have c2 : (piecesTo l b i).length ≤ 1099511627775 := by omega
        have htk : List.take ((piecesTo l b i).length * 11) (encL (piecesTo l b i)) = encL (piecesTo l b i) := take_rows _ _ (by simp)
        simp -implicitDefEqProofs [h1, rd_words, hU, hl, w1, hrow, hE, c1, c2, htk]
        exact ⟨n - 1, by omega, i + 1, by omega, ⟨by rw [hp1]; simp, by omega⟩, by rw [ho], by rw [hp1, encL_append]; rfl⟩
    case false =>
      have ha := hr.at h1 hl
      have hfe := hr.feature h1 hl
      have f0 := hfe.1
      have f9 := hfe.2
      have f5i : (ndAt l i).feature < 5 := by omega
      have f1 : 0 ≤ (ndAt l i).left := by omega
      have f2 : (ndAt l i).left < l.length := by omega
      have f3 : 0 ≤ (ndAt l i).right := by omega
      have f4 : (ndAt l i).right < l.length := by omega
      have f5 : (ndAt l i).left.toNat < l.length := by omega
      have f6 : (ndAt l i).right.toNat < l.length := by omega
      have f7 : ¬ (ndAt l i).left.toNat = (ndAt l i).right.toNat := by omega
      have hcut := of_fits (hr.cutOk h1)
      have w2 : IntKind.i64.wrap ((ndAt l i).cut + 1) = (ndAt l i).cut + 1 := wrap64 (by omega) (by omega)
      have ho := ownL_inner b hl
      have hp1 : piecesTo l b (i + 1) = piecesTo l b i := by rw [piecesTo_succ, pieceAt, hl]; simp
      have hspan : rd (encL (ownL l b i)) (i * 10 + (ndAt l i).feature.toNat * 2) 2 true = some (.agg [.int .i64 ((own l b i).get (ndAt l i).feature).lo, .int .i64 ((own l b i).get (ndAt l i).feature).hi]) := by
        rw [rd_bspan _ i (by rw [ownL_len]; exact h1) f0 f9, ownL_get]
        rfl
      have m1 := meet_1 ((own l b i).get (ndAt l i).feature) (ndAt l i).cut
      have m2 := meet_2 ((own l b i).get (ndAt l i).feature) (ndAt l i).cut
      have hcb : cutB (own l b i) (ndAt l i).feature (ndAt l i).cut = ((own l b i).set (ndAt l i).feature (cutS ((own l b i).get (ndAt l i).feature) (ndAt l i).cut).1, (own l b i).set (ndAt l i).feature (cutS ((own l b i).get (ndAt l i).feature) (ndAt l i).cut).2) := by
        unfold cutB
        rw [if_pos (by omega)]
      rw [hcb] at ho
      have wA := wr_box (ownL l b i) (ndAt l i).left.toNat (by rw [ownL_len]; exact f5) (own l b i)
      have wB := wr_box ((ownL l b i).set (ndAt l i).left.toNat (own l b i)) (ndAt l i).right.toNat (by rw [List.length_set, ownL_len]; exact f6) (own l b i)
      generalize (own l b i).get (ndAt l i).feature = sp at *
      generalize (cutS sp (ndAt l i).cut).1 = s1 at *
      generalize (cutS sp (ndAt l i).cut).2 = s2 at *
      have wC := wr_bspan (((ownL l b i).set (ndAt l i).left.toNat (own l b i)).set (ndAt l i).right.toNat (own l b i)) (ndAt l i).left.toNat (by simp [ownL_len]; exact f5) f0 f9 s1
      have gC : (((ownL l b i).set (ndAt l i).left.toNat (own l b i)).set (ndAt l i).right.toNat (own l b i))[(ndAt l i).left.toNat]'(by simp [ownL_len]; exact f5) = own l b i := by
        rw [List.getElem_set, if_neg (Ne.symm f7), List.getElem_set, if_pos rfl]
      rw [gC] at wC
      have wD := wr_bspan ((((ownL l b i).set (ndAt l i).left.toNat (own l b i)).set (ndAt l i).right.toNat (own l b i)).set (ndAt l i).left.toNat ((own l b i).set (ndAt l i).feature s1)) (ndAt l i).right.toNat (by simp [ownL_len]; exact f6) f0 f9 s2
      have gD : ((((ownL l b i).set (ndAt l i).left.toNat (own l b i)).set (ndAt l i).right.toNat (own l b i)).set (ndAt l i).left.toNat ((own l b i).set (ndAt l i).feature s1))[(ndAt l i).right.toNat]'(by simp [ownL_len]; exact f6) = own l b i := by
        rw [List.getElem_set, if_neg f7, List.getElem_set, if_pos rfl]
      rw [gD, set_four _ _ _ f7, ← ho] at wD
      simp -implicitDefEqProofs [h1, rd_words, hU, hl, w1, w2, hrow, hspan, f0, f5i, f1, f2, f3, f4, wA, wB, wC, wD, m1, m2, encL_length, ownL_len]
      exact ⟨fun _ => ⟨fun _ => ⟨fun _ => ⟨fun _ => ⟨n - 1, by omega, i + 1, by omega, ⟨by rw [hp1], by omega⟩, rfl, by rw [hp1]⟩, by omega⟩, by omega⟩, by omega⟩, by omega⟩
  case neg =>
    have hil : i = l.length := by omega
    subst hil
    have hpp : piecesTo l b l.length = pieces l b := rfl
    have c1 : (pieces l b).length * 11 ≤ (encL (pieces l b)).length := by rw [encL_length]; simp
    have htk : List.take ((pieces l b).length * 11) (encL (pieces l b)) = encL (pieces l b) := take_rows _ _ (by simp)
    simp -implicitDefEqProofs [h1, hpp, c1, htk]
theorem c_rLeaves : Contract Tryz.prog 83 (sp2 RLeaves) :=
  contract_of_runs mixed (tbl_cons c_rRT (tbl_cons c_rUnpack (tbl_cons c_rEmpty (tbl_cons c_rMeet tbl_nil)))) Tryz.func83 m83 (sp2_runs runs_rLeaves)
noncomputable def RBound (l : List Word) (b : Box) : Option (Tri Int Int Bool) := Part ((∃ d, RT l d) ∧ okB b) (boundT l b)
set_option maxHeartbeats 1000000 in
theorem runs_rBound (l : List Word) (b : Box) (c : Tri Int Int Bool) (h : RBound l b = some c) : Runs (tbl [(83, sp2 RLeaves)]) a61 [Arg.enc l, Arg.enc b] (Arg.enc c) := by
  obtain ⟨hh, rfl⟩ := part_some h
  refine ⟨rfl, fun g => run_def ?_⟩
  unfold a61
  have hL : RLeaves l b = some (pieces l b) := part_of hh _
  have hl : (pieces l b).length ≤ l.length := piecesTo_len l b l.length
  obtain ⟨⟨d, hr⟩, hb⟩ := hh
  have hle := hr.le
  have hbt : boundT l b = ends (pieces l b) := by
    unfold boundT
    cases he : b.empty
    · rfl
    · rw [pieces_empty hr he]; rfl
  rw [hbt]
  generalize pieces l b = ps at *
  have b3 : ps.length ≤ maxN := by unfold maxN; omega
  cases ps with
  | nil => simp -implicitDefEqProofs [hL, ends, encL_nil]
  | cons x xs =>
    have hne : ¬ ((x :: xs).length : Int) = 0 := by simp; omega
    have hnn : x :: xs ≠ [] := by simp
    have r0 : rd (encL (x :: xs)) 10 1 false = some (.int .i64 x.value) := rd_piece10 (x :: xs) 0 (by simp)
    have hpos : 0 < (x :: xs).length := by simp
    have he : ends (x :: xs) = ⟨((x :: xs).foldl endF (x.value, x.value)).1, ((x :: xs).foldl endF (x.value, x.value)).2, true⟩ := rfl
    rw [he]
    generalize x :: xs = ps at *
    simp -implicitDefEqProofs [hL, b3, hne, r0, hpos]
    refine ⟨hnn, fun _ => ?_⟩
    refine run_while (c := c61_18) (fun n s => ∃ (i : Nat), i + n = ps.length ∧ s = ⟨[(8, .int .i64 ((ps.take i).foldl endF (x.value, x.value)).1), (9, .int .i64 ((ps.take i).foldl endF (x.value, x.value)).2), (26, .lst ps.length (encL ps)), (27, .int .i64 ps.length), (28, .int .i64 i)], [], s.g⟩) ps.length ⟨0, by omega, by simp⟩ ?_
    rintro n s ⟨i, hi, hs⟩
    rw [hs]
    have w1 : IntKind.i64.wrap ((i : Int) + 1) = (i : Int) + 1 := wrap64 (by omega) (by omega)
    by_cases h1 : i < ps.length
    case pos =>
      have hrow := rd_piece ps i h1
      have hs2 : (ps.take (i + 1)).foldl endF (x.value, x.value) = endF ((ps.take i).foldl endF (x.value, x.value)) ps[i] := by
        rw [List.take_succ_eq_append_getElem h1, List.foldl_append]
        rfl
      simp -implicitDefEqProofs [h1, hrow, w1]
      exact ⟨n - 1, by omega, i + 1, by omega, by rw [hs2]; rfl, by rw [hs2]; rfl, by omega⟩
    case neg =>
      have hil : i = ps.length := by omega
      subst hil
      simp -implicitDefEqProofs [h1]
theorem c_rBound : Contract Tryz.prog 61 (sp2 RBound) :=
  contract_of_runs mixed (tbl_cons c_rLeaves tbl_nil) Tryz.func61 m61 (sp2_runs runs_rBound)
set_option maxHeartbeats 1000000 in
theorem runs_rSum (m : Model) (c : Int) (b : Box) (r : Tri Int Int Bool) (h : BoundS m c b = some r) : Runs (tbl [(59, sp1 RModel), (32, sp1 fun (b : Box) => some b.empty), (61, sp2 RBound)]) a33 [Arg.enc m, Arg.enc c, Arg.enc b] (Arg.enc r) := by
  obtain ⟨⟨hr, hb⟩, rfl⟩ := part_some h
  refine ⟨rfl, fun g => run_def ?_⟩
  unfold a33
  have hM : RModel m = some true := part_of hr _
  by_cases h0 : c < 0
  case pos => simp -implicitDefEqProofs [hM, h0, boundM]
  by_cases h1 : m.classes ≤ c
  case pos => simp -implicitDefEqProofs [hM, h0, h1, boundM]
  cases he : b.empty
  case true => simp -implicitDefEqProofs [hM, h0, h1, he, boundM]
  have hle := hr.trees
  have b3 : m.trees.length ≤ maxN := by unfold maxN; omega
  have c0 : 0 ≤ c := by omega
  have c3 : c < 3 := by have := hr.classes; omega
  have hres : boundM m c b = ⟨(boundP m c b).1, (boundP m c b).2, true⟩ := by unfold boundM; rw [if_neg (by simp [he]; omega)]
  rw [hres]
  simp -implicitDefEqProofs [hM, h0, h1, he, b3, c0, c3]
  refine run_while (c := c33_22) (fun n s => ∃ (i : Nat) (g : Nat → Nat), i + n = m.trees.length ∧ s = ⟨[(1, .int .i64 c), (5, .ptr 5 (g 5) 0), (9, .int .i64 ((m.trees.take i).foldl (boundF c b) (m.bias.get c, m.bias.get c)).1), (10, .int .i64 ((m.trees.take i).foldl (boundF c b) (m.bias.get c, m.bias.get c)).2), (42, .lst m.trees.length (encL m.trees)), (43, .int .i64 m.trees.length), (44, .int .i64 i)],
    [(5, ⟨[.int .i64 b.s0.lo, .int .i64 b.s0.hi, .int .i64 b.s1.lo, .int .i64 b.s1.hi, .int .i64 b.s2.lo, .int .i64 b.s2.hi, .int .i64 b.s3.lo, .int .i64 b.s3.hi, .int .i64 b.s4.lo, .int .i64 b.s4.hi], false, 0⟩)], g⟩) m.trees.length ⟨0, bump 5 (bump 3 g), by omega, by simp⟩ ?_
  rintro n s ⟨i, g, hi, rfl⟩
  by_cases h1 : i < m.trees.length
  case pos =>
    have w1 : IntKind.i64.wrap ((i : Int) + 1) = (i : Int) + 1 := wrap64 (by omega) (by omega)
    have hrow := rd_tree m.trees i h1
    have hrt := hr.rt (List.getElem_mem h1)
    have hV : RBound m.trees[i].nodes b = some (boundT m.trees[i].nodes b) := part_of ⟨⟨_, hrt⟩, hb⟩ _
    have hbd := boundF_le (c := c) he (m.trees.take (i + 1)) (m.bias.get c, m.bias.get c) (fun t ht => ⟨_, hr.rt (List.mem_of_mem_take ht)⟩)
    have hb2 := of_fits (Bias.get_fits hr c)
    have hs : (m.trees.take (i + 1)).foldl (boundF c b) (m.bias.get c, m.bias.get c) = boundF c b ((m.trees.take i).foldl (boundF c b) (m.bias.get c, m.bias.get c)) m.trees[i] := by
      rw [List.take_succ_eq_append_getElem h1, List.foldl_append]
      rfl
    have hl : (m.trees.take (i + 1)).length ≤ 8 := by simp; omega
    simp only at hbd
    by_cases hc : m.trees[i].cls = c
    case pos =>
      have hs1 : ((m.trees.take (i + 1)).foldl (boundF c b) (m.bias.get c, m.bias.get c)).1 = ((m.trees.take i).foldl (boundF c b) (m.bias.get c, m.bias.get c)).1 + (boundT m.trees[i].nodes b).a := by rw [hs, boundF, if_pos hc]
      have hs2 : ((m.trees.take (i + 1)).foldl (boundF c b) (m.bias.get c, m.bias.get c)).2 = ((m.trees.take i).foldl (boundF c b) (m.bias.get c, m.bias.get c)).2 + (boundT m.trees[i].nodes b).b := by rw [hs, boundF, if_pos hc]
      have w2 : IntKind.i64.wrap (((m.trees.take i).foldl (boundF c b) (m.bias.get c, m.bias.get c)).1 + (boundT m.trees[i].nodes b).a) = ((m.trees.take (i + 1)).foldl (boundF c b) (m.bias.get c, m.bias.get c)).1 := by rw [← hs1]; exact wrap64 (by omega) (by omega)
      have w3 : IntKind.i64.wrap (((m.trees.take i).foldl (boundF c b) (m.bias.get c, m.bias.get c)).2 + (boundT m.trees[i].nodes b).b) = ((m.trees.take (i + 1)).foldl (boundF c b) (m.bias.get c, m.bias.get c)).2 := by rw [← hs2]; exact wrap64 (by omega) (by omega)
      simp -implicitDefEqProofs [h1, hrow, hc, hV, w1, w2, w3]
      exact ⟨n - 1, by omega, i + 1, by omega, rfl, rfl, by omega⟩
    case neg =>
      have hs2 : (m.trees.take (i + 1)).foldl (boundF c b) (m.bias.get c, m.bias.get c) = (m.trees.take i).foldl (boundF c b) (m.bias.get c, m.bias.get c) := by rw [hs, boundF, if_neg hc]
      simp -implicitDefEqProofs [h1, hrow, hc, hV, w1]
      exact ⟨n - 1, by omega, i + 1, by omega, by rw [hs2], by rw [hs2], by omega⟩
  case neg =>
    have hil : i = m.trees.length := by omega
    subst hil
    simp -implicitDefEqProofs [h1, boundP]
theorem c_rSum : Contract Tryz.prog 33 (sp3 BoundS) :=
  contract_of_runs mixed (tbl_cons c_rModel (tbl_cons c_rEmpty (tbl_cons c_rBound tbl_nil))) Tryz.func33 m33 (sp3_runs runs_rSum)
end Go.Co
/- CO: what breaks a query, by the document. -/
namespace Go.Co
open Go.Am Go.Proofs
set_option linter.unusedSimpArgs false
set_option linter.unusedVariables false
end Go.Co
