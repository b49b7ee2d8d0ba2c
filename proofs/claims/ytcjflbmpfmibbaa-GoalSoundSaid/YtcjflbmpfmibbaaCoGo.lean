/- CO: do sums show what is asked within a box? where is it cut? -/
import Derived.Test.YtcjflbmpfmibbaaCoHq
import Derived.Test.YtcjflbmpfmibbaaCoQ
import Derived.Test.YtcjflbmpfmibbaaCoO
namespace Go.Co
open Go.Am Go.Proofs
set_option linter.unusedSimpArgs false
set_option linter.unusedVariables false
attribute [-simp] Go.Am.eff_gcall
def c56_0 : ACode := .ops [⟨some 3, .box (.t 0) 6, none, []⟩,
  ⟨some 4, .box (.t 1) 17, none, []⟩,
  ⟨some 5, .box (.t 2) 10, none, []⟩,
  ⟨some 6, .mv (.c (.bool false)), none, []⟩] [3, 4, 5]
theorem r56_0 : type_of% (@rr _ _ c56_0.eq_1) := rr c56_0.eq_1
def c56_1 : ACode := .ops [⟨some 15, .load 6 true (.t 3), none, [3]⟩,
  ⟨some 16, .load 17 true (.t 4), none, [4]⟩,
  ⟨some 17, .call 89 [.t 15, .t 16], none, []⟩,
  ⟨some 18, .un .not (.t 17), none, []⟩] [3, 4, 5, 18]
theorem r56_1 : type_of% (@rr _ _ c56_1.eq_1) := rr c56_1.eq_1
def c56_2 : ACode := .ops [⟨some 6, .mv (.c (.bool false)), none, []⟩] [6]
theorem r56_2 : type_of% (@rr _ _ c56_2.eq_1) := rr c56_2.eq_1
def c56_3 : ACode := .seq c56_2 .ret
theorem r56_3 : type_of% (@rr _ _ c56_3.eq_1) := rr c56_3.eq_1
def c56_4 : ACode := .cond (.t 18) c56_3 .skip
theorem r56_4 : type_of% (@rr _ _ c56_4.eq_1) := rr c56_4.eq_1
def c56_5 : ACode := .seq c56_1 c56_4
theorem r56_5 : type_of% (@rr _ _ c56_5.eq_1) := rr c56_5.eq_1
def c56_6 : ACode := .ops [⟨some 19, .load 10 true (.t 5), none, [5]⟩,
  ⟨some 20, .call 66 [.t 19], none, []⟩] [3, 4, 5, 20]
theorem r56_6 : type_of% (@rr _ _ c56_6.eq_1) := rr c56_6.eq_1
def c56_7 : ACode := .ops [⟨some 6, .mv (.c (.bool true)), none, []⟩] [6]
theorem r56_7 : type_of% (@rr _ _ c56_7.eq_1) := rr c56_7.eq_1
def c56_8 : ACode := .seq c56_7 .ret
theorem r56_8 : type_of% (@rr _ _ c56_8.eq_1) := rr c56_8.eq_1
def c56_9 : ACode := .cond (.t 20) c56_8 .skip
theorem r56_9 : type_of% (@rr _ _ c56_9.eq_1) := rr c56_9.eq_1
def c56_10 : ACode := .seq c56_6 c56_9
theorem r56_10 : type_of% (@rr _ _ c56_10.eq_1) := rr c56_10.eq_1
def c56_11 : ACode := .ops [⟨some 21, .fad (.t 4) 0, none, [4]⟩,
  ⟨some 22, .load 1 false (.t 21), none, [4]⟩] [3, 4, 5, 22]
theorem r56_11 : type_of% (@rr _ _ c56_11.eq_1) := rr c56_11.eq_1
def c56_12 : ACode := .ops [⟨some 24, .bin .eql (.t 22) (.c (.int .i64 1)), none, []⟩,
  ⟨some 23, .mv (.t 24), none, []⟩] [3, 4, 5, 22, 23]
theorem r56_12 : type_of% (@rr _ _ c56_12.eq_1) := rr c56_12.eq_1
def c56_13 : ACode := .ops [⟨some 26, .load 6 true (.t 3), none, [3]⟩,
  ⟨some 27, .fad (.t 4) 1, none, [4]⟩,
  ⟨some 28, .load 1 false (.t 27), none, [4]⟩,
  ⟨some 29, .load 10 true (.t 5), none, [5]⟩,
  ⟨some 30, .call 63 [.t 26, .t 28, .t 29], none, []⟩,
  ⟨some 25, .mv (.t 30), none, []⟩,
  ⟨some 31, .ext (.t 25) 0, none, []⟩,
  ⟨some 32, .ext (.t 25) 1, none, []⟩,
  ⟨some 33, .ext (.t 25) 2, none, []⟩,
  ⟨some 7, .mv (.t 31), none, []⟩,
  ⟨some 8, .mv (.t 32), none, []⟩,
  ⟨some 9, .mv (.t 33), none, []⟩] [4, 7, 8, 9]
theorem r56_13 : type_of% (@rr _ _ c56_13.eq_1) := rr c56_13.eq_1
def c56_14 : ACode := .ops [⟨some 34, .mv (.t 9), none, []⟩,
  ⟨some 35, .mv (.t 34), none, []⟩,
  ⟨some 36, .fad (.t 4) 12, some (35, true), [4]⟩,
  ⟨some 37, .load 1 false (.t 36), some (35, true), [4]⟩,
  ⟨some 38, .mv (.t 7), some (35, true), []⟩,
  ⟨some 39, .bin .leq (.t 37) (.t 38), some (35, true), []⟩,
  ⟨some 40, .pick (.t 35) (.t 39) (.c (.bool false)), none, []⟩,
  ⟨some 41, .mv (.t 40), none, []⟩,
  ⟨some 42, .mv (.t 8), some (41, true), []⟩,
  ⟨some 43, .fad (.t 4) 13, some (41, true), [4]⟩,
  ⟨some 44, .load 1 false (.t 43), some (41, true), [4]⟩,
  ⟨some 45, .bin .leq (.t 42) (.t 44), some (41, true), []⟩,
  ⟨some 46, .pick (.t 41) (.t 45) (.c (.bool false)), none, []⟩,
  ⟨some 6, .mv (.t 46), none, []⟩] [6]
theorem r56_14 : type_of% (@rr _ _ c56_14.eq_1) := rr c56_14.eq_1
def c56_15 : ACode := .seq c56_14 .ret
theorem r56_15 : type_of% (@rr _ _ c56_15.eq_1) := rr c56_15.eq_1
def c56_16 : ACode := .seq c56_13 c56_15
theorem r56_16 : type_of% (@rr _ _ c56_16.eq_1) := rr c56_16.eq_1
def c56_17 : ACode := .ops [⟨some 48, .bin .eql (.t 22) (.c (.int .i64 2)), none, []⟩,
  ⟨some 47, .mv (.t 48), none, []⟩] [3, 4, 5, 47]
theorem r56_17 : type_of% (@rr _ _ c56_17.eq_1) := rr c56_17.eq_1
def c56_18 : ACode := .ops [⟨some 50, .load 6 true (.t 3), none, [3]⟩,
  ⟨some 51, .fad (.t 4) 1, none, [4]⟩,
  ⟨some 52, .load 1 false (.t 51), none, [4]⟩,
  ⟨some 53, .load 10 true (.t 5), none, [5]⟩,
  ⟨some 54, .call 105 [.t 50, .t 52, .t 53], none, []⟩,
  ⟨some 49, .mv (.t 54), none, []⟩,
  ⟨some 55, .ext (.t 49) 0, none, []⟩,
  ⟨some 56, .ext (.t 49) 1, none, []⟩,
  ⟨some 10, .mv (.t 55), none, []⟩,
  ⟨some 11, .mv (.t 56), none, []⟩] [10, 11]
theorem r56_18 : type_of% (@rr _ _ c56_18.eq_1) := rr c56_18.eq_1
def c56_19 : ACode := .ops [⟨some 57, .mv (.t 11), none, []⟩,
  ⟨some 58, .mv (.t 57), none, []⟩,
  ⟨some 59, .mv (.t 10), some (58, true), []⟩,
  ⟨some 60, .bin .gtr (.t 59) (.c (.int .i64 0)), some (58, true), []⟩,
  ⟨some 61, .pick (.t 58) (.t 60) (.c (.bool false)), none, []⟩,
  ⟨some 6, .mv (.t 61), none, []⟩] [6]
theorem r56_19 : type_of% (@rr _ _ c56_19.eq_1) := rr c56_19.eq_1
def c56_20 : ACode := .seq c56_19 .ret
theorem r56_20 : type_of% (@rr _ _ c56_20.eq_1) := rr c56_20.eq_1
def c56_21 : ACode := .seq c56_18 c56_20
theorem r56_21 : type_of% (@rr _ _ c56_21.eq_1) := rr c56_21.eq_1
def c56_22 : ACode := .cond (.t 47) c56_21 .skip
theorem r56_22 : type_of% (@rr _ _ c56_22.eq_1) := rr c56_22.eq_1
def c56_23 : ACode := .seq c56_17 c56_22
theorem r56_23 : type_of% (@rr _ _ c56_23.eq_1) := rr c56_23.eq_1
def c56_24 : ACode := .cond (.t 23) c56_16 c56_23
theorem r56_24 : type_of% (@rr _ _ c56_24.eq_1) := rr c56_24.eq_1
def c56_25 : ACode := .seq c56_12 c56_24
theorem r56_25 : type_of% (@rr _ _ c56_25.eq_1) := rr c56_25.eq_1
def c56_26 : ACode := .block 0 c56_25
theorem r56_26 : type_of% (@rr _ _ c56_26.eq_1) := rr c56_26.eq_1
def c56_27 : ACode := .seq c56_11 c56_26
theorem r56_27 : type_of% (@rr _ _ c56_27.eq_1) := rr c56_27.eq_1
def c56_28 : ACode := .ops [⟨some 62, .load 17 true (.t 4), none, [4]⟩,
  ⟨some 63, .load 10 true (.t 5), none, [5]⟩,
  ⟨some 64, .call 106 [.t 62, .t 63], none, []⟩,
  ⟨some 65, .un .not (.t 64), none, []⟩] [3, 4, 5, 65]
theorem r56_28 : type_of% (@rr _ _ c56_28.eq_1) := rr c56_28.eq_1
def c56_29 : ACode := .ops [⟨some 6, .mv (.c (.bool true)), none, []⟩] [6]
theorem r56_29 : type_of% (@rr _ _ c56_29.eq_1) := rr c56_29.eq_1
def c56_30 : ACode := .seq c56_29 .ret
theorem r56_30 : type_of% (@rr _ _ c56_30.eq_1) := rr c56_30.eq_1
def c56_31 : ACode := .cond (.t 65) c56_30 .skip
theorem r56_31 : type_of% (@rr _ _ c56_31.eq_1) := rr c56_31.eq_1
def c56_32 : ACode := .seq c56_28 c56_31
theorem r56_32 : type_of% (@rr _ _ c56_32.eq_1) := rr c56_32.eq_1
def c56_33 : ACode := .ops [⟨some 67, .load 6 true (.t 3), none, [3]⟩,
  ⟨some 68, .load 17 true (.t 4), none, [4]⟩,
  ⟨some 69, .load 10 true (.t 5), none, [5]⟩,
  ⟨some 70, .call 107 [.t 67, .t 68, .t 69], none, []⟩,
  ⟨some 66, .mv (.t 70), none, []⟩,
  ⟨some 71, .ext (.t 66) 0, none, []⟩,
  ⟨some 72, .ext (.t 66) 1, none, []⟩,
  ⟨some 73, .ext (.t 66) 2, none, []⟩,
  ⟨some 12, .mv (.t 71), none, []⟩,
  ⟨some 13, .mv (.t 72), none, []⟩,
  ⟨some 14, .mv (.t 73), none, []⟩] [4, 12, 13, 14]
theorem r56_33 : type_of% (@rr _ _ c56_33.eq_1) := rr c56_33.eq_1
def c56_34 : ACode := .ops [⟨some 74, .fad (.t 4) 15, none, [4]⟩,
  ⟨some 75, .load 1 false (.t 74), none, [4]⟩] [12, 13, 14, 75]
theorem r56_34 : type_of% (@rr _ _ c56_34.eq_1) := rr c56_34.eq_1
def c56_35 : ACode := .ops [⟨some 76, .mv (.t 14), none, []⟩,
  ⟨some 77, .mv (.t 76), none, []⟩,
  ⟨some 78, .mv (.t 13), some (77, true), []⟩,
  ⟨some 79, .bin .leq (.t 78) (.c (.int .i64 0)), some (77, true), []⟩,
  ⟨some 80, .pick (.t 77) (.t 79) (.c (.bool false)), none, []⟩,
  ⟨some 6, .mv (.t 80), none, []⟩] [6]
theorem r56_35 : type_of% (@rr _ _ c56_35.eq_1) := rr c56_35.eq_1
def c56_36 : ACode := .seq c56_35 .ret
theorem r56_36 : type_of% (@rr _ _ c56_36.eq_1) := rr c56_36.eq_1
def c56_37 : ACode := .cond (.t 75) c56_36 .skip
theorem r56_37 : type_of% (@rr _ _ c56_37.eq_1) := rr c56_37.eq_1
def c56_38 : ACode := .seq c56_34 c56_37
theorem r56_38 : type_of% (@rr _ _ c56_38.eq_1) := rr c56_38.eq_1
def c56_39 : ACode := .ops [⟨some 81, .mv (.t 14), none, []⟩,
  ⟨some 82, .mv (.t 81), none, []⟩,
  ⟨some 83, .mv (.t 12), some (82, true), []⟩,
  ⟨some 84, .bin .geq (.t 83) (.c (.int .i64 0)), some (82, true), []⟩,
  ⟨some 85, .pick (.t 82) (.t 84) (.c (.bool false)), none, []⟩,
  ⟨some 6, .mv (.t 85), none, []⟩] [6]
theorem r56_39 : type_of% (@rr _ _ c56_39.eq_1) := rr c56_39.eq_1
def c56_40 : ACode := .seq c56_39 .ret
theorem r56_40 : type_of% (@rr _ _ c56_40.eq_1) := rr c56_40.eq_1
def c56_41 : ACode := .seq c56_38 c56_40
theorem r56_41 : type_of% (@rr _ _ c56_41.eq_1) := rr c56_41.eq_1
def c56_42 : ACode := .seq c56_33 c56_41
theorem r56_42 : type_of% (@rr _ _ c56_42.eq_1) := rr c56_42.eq_1
def c56_43 : ACode := .seq c56_32 c56_42
theorem r56_43 : type_of% (@rr _ _ c56_43.eq_1) := rr c56_43.eq_1
def c56_44 : ACode := .seq c56_27 c56_43
theorem r56_44 : type_of% (@rr _ _ c56_44.eq_1) := rr c56_44.eq_1
def c56_45 : ACode := .seq c56_10 c56_44
theorem r56_45 : type_of% (@rr _ _ c56_45.eq_1) := rr c56_45.eq_1
def c56_46 : ACode := .seq c56_5 c56_45
theorem r56_46 : type_of% (@rr _ _ c56_46.eq_1) := rr c56_46.eq_1
def c56_47 : ACode := .seq c56_0 c56_46
theorem r56_47 : type_of% (@rr _ _ c56_47.eq_1) := rr c56_47.eq_1
def a56 : AFun := ⟨3, 86, c56_47, [.t 6]⟩
attribute [simp] r56_0 r56_1 r56_2 r56_3 r56_4 r56_5 r56_6 r56_7 r56_8 r56_9 r56_10 r56_11 r56_12 r56_13 r56_14 r56_15 r56_16 r56_17 r56_18 r56_19 r56_20 r56_21 r56_22 r56_23 r56_24 r56_25 r56_26 r56_27 r56_28 r56_29 r56_30 r56_31 r56_32 r56_33 r56_34 r56_35 r56_36 r56_37 r56_38 r56_39 r56_40 r56_41 r56_42 r56_43 r56_44 r56_45 r56_46 r56_47
theorem m56 : mFun Try.prog Try.f56 a56 = true := by decide +kernel
def c59_0 : ACode := .ops [⟨some 3, .box (.t 0) 6, none, []⟩,
  ⟨some 4, .box (.t 1) 17, none, []⟩,
  ⟨some 5, .box (.t 2) 10, none, []⟩,
  ⟨some 6, .mv (.c (.int .i64 0)), none, []⟩,
  ⟨some 7, .mv (.c (.int .i64 0)), none, []⟩,
  ⟨some 8, .mv (.c (.bool false)), none, []⟩] [3, 4, 5]
theorem r59_0 : type_of% (@rr _ _ c59_0.eq_1) := rr c59_0.eq_1
def c59_1 : ACode := .ops [⟨some 11, .mv (.c (.int .i64 0)), none, []⟩] [3, 4, 5, 11]
theorem r59_1 : type_of% (@rr _ _ c59_1.eq_1) := rr c59_1.eq_1
def c59_2 : ACode := .ops [⟨some 12, .bin .lss (.t 11) (.c (.int .i64 5)), none, []⟩] [3, 4, 5, 11, 12]
theorem r59_2 : type_of% (@rr _ _ c59_2.eq_1) := rr c59_2.eq_1
def c59_3 : ACode := .cond (.t 12) .skip (.exit 0)
theorem r59_3 : type_of% (@rr _ _ c59_3.eq_1) := rr c59_3.eq_1
def c59_4 : ACode := .ops [⟨some 13, .mv (.t 11), none, []⟩,
  ⟨some 9, .mv (.t 13), none, []⟩] [3, 4, 5, 9, 11]
theorem r59_4 : type_of% (@rr _ _ c59_4.eq_1) := rr c59_4.eq_1
def c59_5 : ACode := .ops [⟨some 14, .load 6 true (.t 3), none, [3]⟩,
  ⟨some 15, .load 17 true (.t 4), none, [4]⟩,
  ⟨some 16, .load 10 true (.t 5), none, [5]⟩,
  ⟨some 17, .mv (.t 9), none, []⟩,
  ⟨some 18, .call 51 [.t 14, .t 15, .t 16, .t 17], none, []⟩,
  ⟨some 10, .mv (.t 18), none, []⟩] [3, 4, 5, 9, 10, 11]
theorem r59_5 : type_of% (@rr _ _ c59_5.eq_1) := rr c59_5.eq_1
def c59_6 : ACode := .ops [⟨some 19, .mv (.t 10), none, []⟩,
  ⟨some 20, .len (.t 19), none, []⟩,
  ⟨some 21, .bin .gtr (.t 20) (.c (.int .i64 0)), none, []⟩] [3, 4, 5, 9, 10, 11, 21]
theorem r59_6 : type_of% (@rr _ _ c59_6.eq_1) := rr c59_6.eq_1
def c59_7 : ACode := .ops [⟨some 22, .mv (.t 9), none, []⟩,
  ⟨some 23, .mv (.t 10), none, []⟩,
  ⟨some 24, .mv (.t 10), none, []⟩,
  ⟨some 25, .len (.t 24), none, []⟩,
  ⟨some 26, .bin .sub (.t 25) (.c (.int .i64 1)), none, []⟩,
  ⟨some 27, .bin .quo (.t 26) (.c (.int .i64 2)), none, []⟩,
  ⟨some 28, .ias (.t 23) (.t 27) 1, none, []⟩,
  ⟨some 29, .load 1 false (.t 28), none, []⟩,
  ⟨some 6, .mv (.t 22), none, []⟩,
  ⟨some 7, .mv (.t 29), none, []⟩,
  ⟨some 8, .mv (.c (.bool true)), none, []⟩] [6, 7, 8]
theorem r59_7 : type_of% (@rr _ _ c59_7.eq_1) := rr c59_7.eq_1
def c59_8 : ACode := .seq c59_7 .ret
theorem r59_8 : type_of% (@rr _ _ c59_8.eq_1) := rr c59_8.eq_1
def c59_9 : ACode := .cond (.t 21) c59_8 .skip
theorem r59_9 : type_of% (@rr _ _ c59_9.eq_1) := rr c59_9.eq_1
def c59_10 : ACode := .seq c59_6 c59_9
theorem r59_10 : type_of% (@rr _ _ c59_10.eq_1) := rr c59_10.eq_1
def c59_11 : ACode := .seq c59_5 c59_10
theorem r59_11 : type_of% (@rr _ _ c59_11.eq_1) := rr c59_11.eq_1
def c59_12 : ACode := .seq c59_4 c59_11
theorem r59_12 : type_of% (@rr _ _ c59_12.eq_1) := rr c59_12.eq_1
def c59_13 : ACode := .block 1 c59_12
theorem r59_13 : type_of% (@rr _ _ c59_13.eq_1) := rr c59_13.eq_1
def c59_14 : ACode := .ops [⟨some 30, .bin .add (.t 11) (.c (.int .i64 1)), none, []⟩,
  ⟨some 11, .mv (.t 30), none, []⟩] [3, 4, 5, 11]
theorem r59_14 : type_of% (@rr _ _ c59_14.eq_1) := rr c59_14.eq_1
def c59_15 : ACode := .seq c59_13 c59_14
theorem r59_15 : type_of% (@rr _ _ c59_15.eq_1) := rr c59_15.eq_1
def c59_16 : ACode := .seq c59_3 c59_15
theorem r59_16 : type_of% (@rr _ _ c59_16.eq_1) := rr c59_16.eq_1
def c59_17 : ACode := .seq c59_2 c59_16
theorem r59_17 : type_of% (@rr _ _ c59_17.eq_1) := rr c59_17.eq_1
def c59_18 : ACode := .keep [3, 4, 5, 11] [3, 4, 5] c59_17
theorem r59_18 : type_of% (@rr _ _ c59_18.eq_1) := rr c59_18.eq_1
def c59_19 : ACode := .loop c59_18
theorem r59_19 : type_of% (@rr _ _ c59_19.eq_1) := rr c59_19.eq_1
def c59_20 : ACode := .block 0 c59_19
theorem r59_20 : type_of% (@rr _ _ c59_20.eq_1) := rr c59_20.eq_1
def c59_21 : ACode := .seq c59_1 c59_20
theorem r59_21 : type_of% (@rr _ _ c59_21.eq_1) := rr c59_21.eq_1
def c59_22 : ACode := .ops [⟨some 6, .mv (.c (.int .i64 0)), none, []⟩,
  ⟨some 7, .mv (.c (.int .i64 0)), none, []⟩,
  ⟨some 8, .mv (.c (.bool false)), none, []⟩] [6, 7, 8]
theorem r59_22 : type_of% (@rr _ _ c59_22.eq_1) := rr c59_22.eq_1
def c59_23 : ACode := .seq c59_22 .ret
theorem r59_23 : type_of% (@rr _ _ c59_23.eq_1) := rr c59_23.eq_1
def c59_24 : ACode := .seq c59_21 c59_23
theorem r59_24 : type_of% (@rr _ _ c59_24.eq_1) := rr c59_24.eq_1
def c59_25 : ACode := .seq c59_0 c59_24
theorem r59_25 : type_of% (@rr _ _ c59_25.eq_1) := rr c59_25.eq_1
def a59 : AFun := ⟨3, 31, c59_25, [.t 6, .t 7, .t 8]⟩
attribute [simp] r59_0 r59_1 r59_2 r59_3 r59_4 r59_5 r59_6 r59_7 r59_8 r59_9 r59_10 r59_11 r59_12 r59_13 r59_14 r59_15 r59_16 r59_17 r59_18 r59_19 r59_20 r59_21 r59_22 r59_23 r59_24 r59_25
theorem m59 : mFun Try.prog Try.f59 a59 = true := by decide +kernel
def c60_0 : ACode := .ops [⟨some 1, .box (.t 0) 10, none, []⟩,
  ⟨some 2, .alloc [.int .i64 0, .int .i64 0, .int .i64 0, .int .i64 0], none, []⟩,
  ⟨some 3, .mv (.c (.int .i64 0)), none, []⟩] [1, 2]
theorem r60_0 : type_of% (@rr _ _ c60_0.eq_1) := rr c60_0.eq_1
def c60_1 : ACode := .ops [⟨some 4, .load 10 true (.t 1), none, [1]⟩,
  ⟨some 5, .call 100 [.t 4], none, []⟩,
  ⟨some 6, .iad (.t 1) (.c (.int .i64 4)) 2 5, none, [1]⟩,
  ⟨some 7, .fad (.t 6) 1, none, [1]⟩,
  ⟨some 8, .load 1 false (.t 7), none, [1]⟩,
  ⟨none, .store (.t 2) 4 (.t 5), none, [2]⟩,
  ⟨some 3, .mv (.t 8), none, []⟩] [2, 3]
theorem r60_1 : type_of% (@rr _ _ c60_1.eq_1) := rr c60_1.eq_1
def c60_2 : ACode := .seq c60_1 .ret
theorem r60_2 : type_of% (@rr _ _ c60_2.eq_1) := rr c60_2.eq_1
def c60_3 : ACode := .seq c60_0 c60_2
theorem r60_3 : type_of% (@rr _ _ c60_3.eq_1) := rr c60_3.eq_1
def a60 : AFun := ⟨1, 9, c60_3, [.cell 2 4 true, .t 3]⟩
attribute [simp] r60_0 r60_1 r60_2 r60_3
theorem m60 : mFun Try.prog Try.f60 a60 = true := by decide +kernel
/-! ### points of one cell -/
def Same (m : Model) (p o : Point) : Prop := ∀ j, 0 ≤ j → j < 4 → ∀ t ∈ thrL m j, (p.get j ≤ t ↔ o.get j ≤ t)
theorem same_value {m : Model} (hm : RM m) {p o : Point} (h : Same m p o) {t : Tree} (ht : t ∈ m.trees) : valueAt t.nodes p = valueAt t.nodes o := by
  have hr := hm.rt ht
  unfold valueAt leafOf
  rw [walk_same hr (fun i hi hl => ?_) 31 0 hr.pos]
  have hf := hr.feature hi hl
  exact h _ hf.1 hf.2 _ (mem_thr.2 ⟨t, ht, t.nodes[i], List.getElem_mem hi, by rw [← ndAt_lt hi]; exact hl, by rw [← ndAt_lt hi], by rw [← ndAt_lt hi]⟩)
theorem same_cell {m : Model} {q : Query} {x : Box} (hn : ∀ i : Int, 0 ≤ i → i < 5 → cutsL m q x i = []) {p o : Point} {t u : Int} (hp : InB x p t) (ho : InB x o u) : Same m p o := by
  intro j j0 j4
  have h1 := (inB_get.1 hp j j0 j4).1
  have h2 := (inB_get.1 ho j j0 j4).1
  have := uncut (hn j j0 (by omega)) (by rw [featOf_lt q j0 j4]; omega) h1 h2
  rwa [featOf_lt q j0 j4] at this
theorem same_second {m : Model} {q : Query} (hpr : paired q = true) {x : Box} (hn : ∀ i : Int, 0 ≤ i → i < 5 → cutsL m q x i = []) {p o : Point} {t u : Int} (hp : InB x p t) (ho : InB x o u) : Same m (p.set q.feature t) (o.set q.feature u) := by
  have hf : 0 ≤ q.feature ∧ q.feature < 4 := by have := paired_feature hpr; omega
  have hk : q.kind = 3 := by unfold paired at hpr; simp at hpr; omega
  intro j j0 j4
  rw [point_set_get p t hf.1 hf.2 j0 j4, point_set_get o u hf.1 hf.2 j0 j4]
  by_cases e : j = q.feature
  · rw [if_pos e, if_pos e]
    have f4 : featOf q 4 = q.feature := by unfold featOf; rw [if_neg (by omega), if_pos ⟨rfl, hk⟩]
    have := uncut (hn 4 (by omega) (by omega)) (by rw [f4]; omega) (n := t) (o := u) hp.2.2.2.2 ho.2.2.2.2
    rwa [f4, ← e] at this
  · rw [if_neg e, if_neg e]
    exact same_cell hn hp ho j j0 j4
theorem flat_fold {c : Int} {b : Box} {p : Point} {t0 : Int} (hb : b.empty = false) : ∀ (l : List Tree) (s : Int), (∀ t ∈ l, ∃ d, RT t.nodes d) → (∀ t ∈ l, ∀ q u, InB b q u → valueAt t.nodes q = valueAt t.nodes p) →
    l.foldl (boundF c b) (s, s) = (l.foldl (evalF c p) s, l.foldl (evalF c p) s)
  | [], s, _, _ => rfl
  | t :: l, s, h, h1 => by
    obtain ⟨d, hd⟩ := h t (by simp)
    obtain ⟨_, _, ⟨p', t', hp', h3⟩, ⟨q, u, hq, h4⟩⟩ := boundT_spec hd hb
    rw [h1 t (by simp) p' t' hp'] at h3
    rw [h1 t (by simp) q u hq] at h4
    rw [List.foldl_cons, List.foldl_cons]
    have e : boundF c b (s, s) t = (evalF c p s t, evalF c p s t) := by
      unfold boundF evalF
      rw [← h3, ← h4]
      split <;> rfl
    rw [e]
    exact flat_fold (t0 := t0) hb l _ (fun t ht => h t (by simp [ht])) (fun t ht => h1 t (by simp [ht]))
theorem bound_flat {m : Model} (hm : RM m) (c : Int) {b : Box} (hb : b.empty = false) {p : Point} (h : ∀ q u, InB b q u → Same m q p) : boundP m c b = (evalM m c p, evalM m c p) :=
  flat_fold (t0 := 0) hb m.trees _ (fun t ht => ⟨_, hm.rt ht⟩) fun t ht q u hq => same_value hm (h q u hq) ht
/-! ### closed boxes -/
def ahead (m : Model) (c : Int) (b : Box) : Prop := ∀ o : Int, 0 ≤ o → o < m.classes → o ≠ c → 0 < marD m c b o
theorem margin_pos {m : Model} {c : Int} {b : Box} (h0 : 0 ≤ c) (h1 : c < m.classes) (h2 : m.classes = 2 ∨ m.classes = 3) : 0 < margin m c b ↔ ahead m c b := by
  unfold margin ahead
  have hm2 := min2_le (a := marD m c b (other1 c)) (b := marD m c b (other2 c))
  rcases h2 with e | e
  · rw [if_pos e]
    have hc : c = 0 ∨ c = 1 := by omega
    constructor
    · intro h o o0 o1 oc
      have : o = other1 c := by unfold other1; split <;> omega
      rw [this]; exact h
    · intro h
      exact h _ (by unfold other1; split <;> omega) (by unfold other1; split <;> omega) (by unfold other1; split <;> omega)
  · rw [if_neg (by omega)]
    have hc : c = 0 ∨ c = 1 ∨ c = 2 := by omega
    constructor
    · intro h o o0 o1 oc
      have : o = other1 c ∨ o = other2 c := by unfold other1 other2; split <;> split <;> omega
      rcases this with e2 | e2 <;> rw [e2] <;> omega
    · intro h
      have k1 := h (other1 c) (by unfold other1; split <;> omega) (by unfold other1; split <;> omega) (by unfold other1; split <;> omega)
      have k2 := h (other2 c) (by unfold other2; split <;> omega) (by unfold other2; split <;> omega) (by unfold other2; split <;> omega)
      omega
def closedM (m : Model) (q : Query) (b : Box) : Bool :=
  if okQuery m q = false then false else if b.empty then true else
  if q.kind = 1 then (boundM m q.cls b).c && decide (q.lo ≤ (boundM m q.cls b).a) && decide ((boundM m q.cls b).b ≤ q.hi) else
  if q.kind = 2 then decide (0 < margin m q.cls b) else
  if orderedB q b then (changeM m q b).c && (if q.falls then decide ((changeM m q b).b ≤ 0) else decide (0 ≤ (changeM m q b).a)) else true
def Shown (m : Model) (q : Query) (b : Box) : Prop :=
  (q.kind = 1 ∧ q.lo ≤ (boundP m q.cls b).1 ∧ (boundP m q.cls b).2 ≤ q.hi) ∨ (q.kind = 2 ∧ ahead m q.cls b) ∨
  (q.kind = 3 ∧ ((b.get q.feature).lo < b.s4.hi → (if q.falls then (changeM m q b).b ≤ 0 else 0 ≤ (changeM m q b).a)))
theorem closed_iff {m : Model} (hm : RM m) {q : Query} (hq : okQuery m q = true) {b : Box} (hb : b.empty = false) : closedM m q b = true ↔ Shown m q b := by
  have hs := okQuery_spec hq
  have hk := okKind_spec hs.2.2.2.2.2
  have hcl := hm.classes
  have hd := hm.dim
  unfold closedM Shown
  rw [if_neg (by simp [hq]), if_neg (by simp [hb])]
  have hB : boundM m q.cls b = ⟨(boundP m q.cls b).1, (boundP m q.cls b).2, true⟩ := by unfold boundM; rw [if_neg (by simp [hb]; omega)]
  rcases hk with ⟨k, _⟩ | ⟨k, k2, _⟩ | ⟨k, f0, f1, _⟩
  · rw [if_pos k, hB]
    simp [k]
  · rw [if_neg (by omega), if_pos k, decide_eq_true_eq, margin_pos hs.1 hs.2.1 (by omega)]
    simp [k]
  · have hp : paired q = true := by unfold paired; simp; omega
    have ho : orderedB q b = decide ((b.get q.feature).lo < b.s4.hi) := by unfold orderedB; rw [hp, hb]; rfl
    have hc : (changeM m q b).c = true := by rw [change_some hp hs.1 hs.2.1 hb]
    rw [if_neg (by omega), if_neg (by omega), ho, hc]
    by_cases h : (b.get q.feature).lo < b.s4.hi
    · cases hf : q.falls <;> simp [k, h]
    · simp [k, h]
theorem marD_sound {m : Model} (hm : RM m) {b : Box} {p : Point} {t : Int} (hp : InB b p t) (c o : Int) : marD m c b o ≤ evalM m c p - evalM m o p := by
  have h1 := bound_sound hm c hp
  have h2 := bound_sound hm o hp
  unfold marD
  omega
theorem unbeaten_iff {m : Model} {q : Query} {p : Point} : beaten m q p = false ↔ ∀ o : Int, 0 ≤ o → o < m.classes → o ≠ q.cls → evalM m o p < evalM m q.cls p := by
  unfold beaten
  rw [List.any_eq_false]
  constructor
  · intro h o h0 h1 hc
    have := h o.toNat (by rw [List.mem_range]; omega)
    rw [show ((o.toNat : Nat) : Int) = o by omega] at this
    simp [hc] at this
    exact this
  · intro h x hx
    rw [List.mem_range] at hx
    by_cases e : (x : Int) = q.cls
    · simp [e]
    · have := h x (by omega) (by omega) e
      simp [e]
      exact this
theorem closed_sound {m : Model} (hm : RM m) {q : Query} {b : Box} (h : closedM m q b = true) {p : Point} {t : Int} (hp : InB b p t) : breaks m q p t = false := by
  have hb : b.empty = false := empty_false.2 ⟨p, t, hp⟩
  cases hq : okQuery m q
  · unfold breaks; rw [hq]; rfl
  rw [closed_iff hm hq hb] at h
  have hs := okQuery_spec hq
  have hk := okKind_spec hs.2.2.2.2.2
  have hd := hm.dim
  unfold breaks
  rw [hq]
  simp only [if_true]
  rcases h with ⟨k, h1, h2⟩ | ⟨k, h1⟩ | ⟨k, h1⟩
  · rw [if_pos k]
    have := bound_sound hm q.cls hp
    simp [Span.has]
    omega
  · rw [if_neg (by omega), if_pos k, unbeaten_iff]
    intro o o0 o1 oc
    have k1 := h1 o o0 o1 oc
    have k2 := marD_sound hm hp q.cls o
    omega
  · rw [if_neg (by omega), if_neg (by omega)]
    have hf : 0 ≤ q.feature ∧ q.feature < m.dim := by omega
    have hpr : paired q = true := by unfold paired; simp; omega
    by_cases hlt : p.get q.feature < t
    · rw [if_pos hlt]
      have h2 := (inB_get.1 hp q.feature hf.1 (by omega)).1
      have h3 : InS b.s4 t := hp.2.2.2.2
      unfold InS at h2 h3
      have h1 := h1 (by omega)
      have hc := change_sound hm hpr hs.1 hs.2.1 hp
      have hse : secondOf q p t = p.set q.feature t := by unfold secondOf; rw [if_pos hpr]
      rw [hse]
      cases hfa : q.falls
      · rw [hfa] at h1
        simp at h1 ⊢
        omega
      · rw [hfa] at h1
        simp at h1 ⊢
        omega
    · rw [if_neg hlt]
theorem closed_part {m : Model} (hm : RM m) {q : Query} {b x : Box} (h : closedM m q b = true) (hx : ∀ p t, InB x p t → InB b p t) : closedM m q x = true := by
  have hq : okQuery m q = true := by
    cases hq : okQuery m q
    · unfold closedM at h; rw [if_pos hq] at h; cases h
    · rfl
  cases he : x.empty
  case true => unfold closedM; rw [if_neg (by simp [hq]), if_pos he]
  obtain ⟨p, t, hp⟩ := empty_false.1 he
  have hb : b.empty = false := empty_false.2 ⟨p, t, hx p t hp⟩
  rw [closed_iff hm hq hb] at h
  rw [closed_iff hm hq he]
  have hs := okQuery_spec hq
  have hk := okKind_spec hs.2.2.2.2.2
  have hd := hm.dim
  have hpt := fun c => bound_part hm c he hx
  rcases h with ⟨k, h1, h2⟩ | ⟨k, h1⟩ | ⟨k, h1⟩
  · have := hpt q.cls
    exact .inl ⟨k, by omega, by omega⟩
  · refine .inr (.inl ⟨k, fun o o0 o1 oc => ?_⟩)
    have k1 := h1 o o0 o1 oc
    have k2 := hpt q.cls
    have k3 := hpt o
    unfold marD at *
    omega
  · refine .inr (.inr ⟨k, fun hlt => ?_⟩)
    have hf : 0 ≤ q.feature ∧ q.feature < m.dim := by omega
    have hpr : paired q = true := by unfold paired; simp; omega
    have hc := change_part hm hpr hs.1 hs.2.1 he hx
    have hlo : (b.get q.feature).lo < b.s4.hi := by
      have hxs := get_spans he
      have low := inB_pt.1 (hx (lowB x) x.s4.hi (low_in he)) q.feature hf.1 (by omega)
      have h4 := inB_pt.1 (hx (lowB x) x.s4.hi (low_in he)) 4 (by omega) (by omega)
      have hl : ptG (lowB x) x.s4.hi q.feature = (x.get q.feature).lo := by
        have : q.feature = 0 ∨ q.feature = 1 ∨ q.feature = 2 ∨ q.feature = 3 := by omega
        rcases this with e | e | e | e <;> rw [e] <;> rfl
      rw [hl] at low
      have h5 : ptG (lowB x) x.s4.hi 4 = x.s4.hi := rfl
      rw [h5] at h4
      have g4 : b.get 4 = b.s4 := rfl
      rw [g4] at h4
      unfold InS at low h4
      omega
    have h1 := h1 hlo
    cases hfa : q.falls
    · rw [hfa] at h1
      simp at h1 ⊢
      omega
    · rw [hfa] at h1
      simp at h1 ⊢
      omega
theorem low_get {x : Box} {k : Int} (h0 : 0 ≤ k) (h4 : k < 4) : (lowB x).get k = (x.get k).lo := by
  have : k = 0 ∨ k = 1 ∨ k = 2 ∨ k = 3 := by omega
  rcases this with rfl | rfl | rfl | rfl <;> rfl
theorem closed_uncut {m : Model} (hm : RM m) {q : Query} (hq : okQuery m q = true) {b : Box} (hb : b.empty = false) (hn : ∀ i : Int, 0 ≤ i → i < 5 → cutsL m q b i = []) : closedM m q b = !(corner m q b) := by
  have hs := okQuery_spec hq
  have hk := okKind_spec hs.2.2.2.2.2
  have hd := hm.dim
  have hl := low_in hb
  have hF : ∀ c, boundP m c b = (evalM m c (lowB b), evalM m c (lowB b)) := fun c => bound_flat hm c hb fun p t hp => same_cell hn hp hl
  have key : closedM m q b = true ↔ corner m q b = false := by
    rw [closed_iff hm hq hb]
    unfold Shown corner breaks ahead marD
    rw [hq]
    simp only [hF, if_true]
    rcases hk with ⟨k, _⟩ | ⟨k, k2, _⟩ | ⟨k, f0, f1, _⟩
    · rw [if_pos k]
      simp [k, Span.has]
    · rw [if_neg (show ¬ q.kind = 1 by omega), if_pos k, unbeaten_iff]
      constructor
      · rintro (⟨k', _⟩ | ⟨_, h⟩ | ⟨k', _⟩)
        · omega
        · intro o o0 o1 oc
          have := h o o0 o1 oc
          omega
        · omega
      · intro h
        refine .inr (.inl ⟨k, fun o o0 o1 oc => ?_⟩)
        have := h o o0 o1 oc
        omega
    · have hpr : paired q = true := by unfold paired; simp; omega
      have f1' : q.feature < 4 := by omega
      rw [if_neg (show ¬ q.kind = 1 by omega), if_neg (show ¬ q.kind = 2 by omega), low_get f0 f1']
      have e1 : boundP m q.cls (firstB q b) = (evalM m q.cls (lowB b), evalM m q.cls (lowB b)) := bound_flat hm _ (first_some hpr hb) fun p t hp => by
        obtain ⟨_, k0, k1, k2, k3⟩ := (first_in hpr).1 hp
        exact same_cell hn (t := b.s4.hi) ⟨k0, k1, k2, k3, hl.2.2.2.2⟩ hl
      have e2 : boundP m q.cls (secondB q b) = (evalM m q.cls ((lowB b).set q.feature b.s4.hi), evalM m q.cls ((lowB b).set q.feature b.s4.hi)) := bound_flat hm _ (second_some hpr hb) fun p t hp => by
        obtain ⟨_, p', t', hp', rfl⟩ := second_back hpr hb hp
        exact same_second hpr hn hp' hl
      have hse : secondOf q (lowB b) b.s4.hi = (lowB b).set q.feature b.s4.hi := by unfold secondOf; rw [if_pos hpr]
      rw [change_some hpr hs.1 hs.2.1 hb, e1, e2, hse]
      by_cases hlt : (b.get q.feature).lo < b.s4.hi
      · cases hfa : q.falls
        · simp [k, hlt]
        · simp [k, hlt]
          omega
      · simp [k, hlt]
  cases hc : corner m q b
  · rw [key.2 hc]; rfl
  · cases hcl : closedM m q b
    · rfl
    · rw [key.1 hcl] at hc; cases hc
theorem closed_wrong {m : Model} {q : Query} {b : Box} (h : okQuery m q = false) : closedM m q b = false := by unfold closedM; rw [if_pos h]
noncomputable def ClosedC (m : Model) (q : Query) (b : Box) : Option Bool := Part (RM m ∧ okB b) (closedM m q b)
set_option maxHeartbeats 2000000 in
set_option maxRecDepth 8000 in
theorem runs_Closed (m : Model) (q : Query) (b : Box) (r : Bool) (h : ClosedC m q b = some r) : Runs (tbl [(89, sp2 QRight), (66, sp1 fun (b : Box) => some b.empty), (63, sp3 BoundS), (105, sp3 MarginC), (106, sp2 fun q b => some (orderedB q b)), (107, sp3 ChangeC)]) a56 [Arg.enc m, Arg.enc q, Arg.enc b] (Arg.enc r) := by
  obtain ⟨⟨hm, hb⟩, rfl⟩ := part_some h
  clear h
  refine ⟨rfl, fun g => run_def ?_⟩
  unfold a56 closedM
  have hM : QRight m q = some (okQuery m q) := by unfold QRight; rw [if_neg (by have := hm.dim; omega)]; exact part_of hm _
  cases hq : okQuery m q
  case false => simp -implicitDefEqProofs [hM, hq]
  cases he : b.empty
  case true => simp -implicitDefEqProofs [hM, hq, he]
  have hs := okQuery_spec hq
  have hk := okKind_spec hs.2.2.2.2.2
  have hS : BoundS m q.cls b = some (boundM m q.cls b) := part_of ⟨hm, hb⟩ _
  have hC : ChangeC m q b = some (changeM m q b) := part_of ⟨hm, hb⟩ _
  have hG : 2 ≤ m.classes → MarginC m q.cls b = some (margin m q.cls b, true) := fun h => by
    unfold MarginC
    rw [part_of ⟨hm, hb⟩, if_neg (by simp [he]; omega)]
  generalize boundM m q.cls b = z at *
  generalize changeM m q b = y at *
  obtain ⟨z1, z2, z3⟩ := z
  obtain ⟨y1, y2, y3⟩ := y
  obtain ⟨kind, cls, region, lo, hi, feature, falls, budget⟩ := q
  simp only at *
  by_cases k1 : kind = 1
  · subst k1
    cases z3
    · simp -implicitDefEqProofs [hM, hq, he, hS]
    · by_cases c1 : lo ≤ z1
      · simp -implicitDefEqProofs [hM, hq, he, hS, c1]
      · simp -implicitDefEqProofs [hM, hq, he, hS, c1]
  by_cases k2 : kind = 2
  · subst k2
    have hG := hG (by omega)
    simp -implicitDefEqProofs [hM, hq, he, hG]
  cases ho : orderedB ⟨kind, cls, region, lo, hi, feature, falls, budget⟩ b
  · simp -implicitDefEqProofs [hM, hq, he, k1, k2, ho]
  cases falls <;> cases y3 <;> simp -implicitDefEqProofs [hM, hq, he, k1, k2, ho, hC]
theorem c_Closed : Contract Try.prog 56 (sp3 ClosedC) :=
  contract_of_runs mixed (tbl_cons c_qRight (tbl_cons c_bEmpty (tbl_cons c_bSum (tbl_cons c_Margin (tbl_cons c_Ordered (tbl_cons c_Change tbl_nil)))))) Try.func56 m56 (sp3_runs runs_Closed)
theorem runs_gCorner (b : Box) (r : Point × Int) (h : some (lowB b, b.s4.hi) = some r) : Runs (tbl [(100, sp1 fun b => some (lowB b))]) a60 [Arg.enc b] (Arg.enc r) := by
  cases h
  refine ⟨rfl, fun g => run_def ?_⟩
  unfold a60
  simp -implicitDefEqProofs []
theorem c_gCorner : Contract Try.prog 60 (sp1 fun b => some (lowB b, b.s4.hi)) :=
  contract_of_runs mixed (tbl_cons c_Low tbl_nil) Try.func60 m60 (sp1_runs runs_gCorner)
/-! ### where a box is cut -/
def midL (l : List Int) : Int := l.getD ((l.length - 1) / 2) 0
def splitFrom (m : Model) (q : Query) (b : Box) : List Int → Tri Int Int Bool
  | [] => ⟨0, 0, false⟩
  | k :: ks => if cutsL m q b k = [] then splitFrom m q b ks else ⟨k, midL (cutsL m q b k), true⟩
def splitM (m : Model) (q : Query) (b : Box) : Tri Int Int Bool := splitFrom m q b [0, 1, 2, 3, 4]
theorem splitFrom_spec (m : Model) (q : Query) (b : Box) : ∀ (ks : List Int), ((splitFrom m q b ks).c = false ∧ splitFrom m q b ks = ⟨0, 0, false⟩ ∧ ∀ k ∈ ks, cutsL m q b k = []) ∨
    ∃ (l r : List Int) (k : Int), ks = l ++ k :: r ∧ cutsL m q b k ≠ [] ∧ (∀ i ∈ l, cutsL m q b i = []) ∧ splitFrom m q b ks = ⟨k, midL (cutsL m q b k), true⟩
  | [] => .inl ⟨rfl, rfl, fun k hk => by simp at hk⟩
  | k :: ks => by
    unfold splitFrom
    by_cases h : cutsL m q b k = []
    · rw [if_pos h]
      rcases splitFrom_spec m q b ks with ⟨h1, h2, h3⟩ | ⟨l, r, j, h1, h2, h3, h4⟩
      · exact .inl ⟨h1, h2, fun i hi => by
          rcases List.mem_cons.1 hi with rfl | hi
          · exact h
          · exact h3 i hi⟩
      · exact .inr ⟨k :: l, r, j, by rw [h1]; rfl, h2, fun i hi => by
          rcases List.mem_cons.1 hi with rfl | hi
          · exact h
          · exact h3 i hi, h4⟩
    · rw [if_neg h]
      exact .inr ⟨[], ks, k, rfl, h, fun i hi => by simp at hi, rfl⟩
noncomputable def SplitC (m : Model) (q : Query) (b : Box) : Option (Tri Int Int Bool) := Part (RM m) (splitM m q b)
set_option maxHeartbeats 4000000 in
set_option maxRecDepth 8000 in
theorem runs_Split (m : Model) (q : Query) (b : Box) (r : Tri Int Int Bool) (h : SplitC m q b = some r) : Runs (tbl [(51, sp4 CutsC)]) a59 [Arg.enc m, Arg.enc q, Arg.enc b] (Arg.enc r) := by
  obtain ⟨hm, rfl⟩ := part_some h
  clear h
  refine ⟨rfl, fun g => run_def ?_⟩
  unfold a59 splitM
  have hK : ∀ i : Int, 0 ≤ i → i ≤ 4 → CutsC m q b i = some (cutsL m q b i) := fun i i0 i5 => part_of ⟨hm, .inr ⟨i0, i5⟩⟩ _
  have hL : ∀ i, (cutsL m q b i).length ≤ 248 := fun i => by rw [cutsL_len]; exact cutN_le hm q b i
  have fin : ∀ (l : List Int), l.length ≤ 248 → l ≠ [] → 0 < l.length ∧ l.length ≤ maxN ∧ IntKind.i64.wrap ((l.length : Int) - 1) = ((l.length - 1 : Nat) : Int) ∧ ∃ x : Nat, IntKind.i64.wrap (((l.length - 1 : Nat) : Int) / 2) = (x : Int) ∧ x < l.length ∧ rd (encL l) x 1 false = some (.int .i64 (midL l)) := by
    intro l hl hne
    have hp : 0 < l.length := List.length_pos_iff.2 hne
    have hlt : (l.length - 1) / 2 < l.length := by omega
    refine ⟨by omega, by unfold maxN; omega, ?_, (l.length - 1) / 2, ?_, hlt, ?_⟩
    · rw [show (l.length : Int) - 1 = ((l.length - 1 : Nat) : Int) by omega]
      exact wrap64 (by omega) (by omega)
    · rw [show ((l.length - 1 : Nat) : Int) / 2 = (((l.length - 1) / 2 : Nat) : Int) by omega]
      exact wrap64 (by omega) (by omega)
    · rw [rd_ints l _ hlt]
      unfold midL
      simp [hlt]
  have K0 := hK 0 (by omega) (by omega)
  have K1 := hK 1 (by omega) (by omega)
  have K2 := hK 2 (by omega) (by omega)
  have K3 := hK 3 (by omega) (by omega)
  have K4 := hK 4 (by omega) (by omega)
  have L0 := fin _ (hL 0)
  have L1 := fin _ (hL 1)
  have L2 := fin _ (hL 2)
  have L3 := fin _ (hL 3)
  have L4 := fin _ (hL 4)
  clear hK hL fin
  unfold splitFrom splitFrom splitFrom splitFrom splitFrom splitFrom
  generalize cutsL m q b 0 = l0 at *
  generalize cutsL m q b 1 = l1 at *
  generalize cutsL m q b 2 = l2 at *
  generalize cutsL m q b 3 = l3 at *
  generalize cutsL m q b 4 = l4 at *
  by_cases h0 : l0 = []
  case neg =>
    obtain ⟨a1, a2, a3, x, a4, a5, a6⟩ := L0 h0
    simp -implicitDefEqProofs [run_round, K0, h0, a1, a2, a3, a4, a5, a6, encL_nil]
  subst h0
  by_cases h1 : l1 = []
  case neg =>
    obtain ⟨a1, a2, a3, x, a4, a5, a6⟩ := L1 h1
    simp -implicitDefEqProofs [run_round, K0, K1, h1, a1, a2, a3, a4, a5, a6, encL_nil]
  subst h1
  by_cases h2 : l2 = []
  case neg =>
    obtain ⟨a1, a2, a3, x, a4, a5, a6⟩ := L2 h2
    simp -implicitDefEqProofs [run_round, K0, K1, K2, h2, a1, a2, a3, a4, a5, a6, encL_nil]
  subst h2
  by_cases h3 : l3 = []
  case neg =>
    obtain ⟨a1, a2, a3, x, a4, a5, a6⟩ := L3 h3
    simp -implicitDefEqProofs [run_round, K0, K1, K2, K3, h3, a1, a2, a3, a4, a5, a6, encL_nil]
  subst h3
  by_cases h4 : l4 = []
  case neg =>
    obtain ⟨a1, a2, a3, x, a4, a5, a6⟩ := L4 h4
    simp -implicitDefEqProofs [run_round, K0, K1, K2, K3, K4, h4, a1, a2, a3, a4, a5, a6, encL_nil]
  subst h4
  simp -implicitDefEqProofs [run_round, K0, K1, K2, K3, K4, encL_nil]
theorem c_Split : Contract Try.prog 59 (sp3 SplitC) :=
  contract_of_runs mixed (tbl_cons c_Cuts tbl_nil) Try.func59 m59 (sp3_runs runs_Split)
end Go.Co
