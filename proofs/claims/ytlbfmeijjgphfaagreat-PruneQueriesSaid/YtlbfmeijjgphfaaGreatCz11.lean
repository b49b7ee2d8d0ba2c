/- CO: texts of this claim, one behind the other. -/
import Derived.Test.YtlbfmeijjgphfaaGreatCz10
import Derived.Test.YtlbfmeijjgphfaaGreatCz7
import Derived.Test.YtlbfmeijjgphfaaGreatCz6
import Derived.Test.YtlbfmeijjgphfaaGreatCz9
set_option linter.unusedVariables false
set_option linter.unusedSimpArgs false
/- CO: do sums show what is asked within a box? where is it cut? -/
set_option maxHeartbeats 16000000
set_option maxRecDepth 100000
namespace Go.Co
open Go.Am Go.Proofs
attribute [-simp] Go.Am.eff_gcall
def c9_0 : ACode := .ops [⟨some 3, .box (.t 0) 6, none, []⟩,⟨some 4, .box (.t 1) 17, none, []⟩,⟨some 5, .box (.t 2) 10, none, []⟩,⟨some 6, .mv (.c (.bool false)), none, []⟩] [3, 4, 5]
theorem r9_0 : type_of% (rr c9_0.eq_1) := rr rfl
def c9_1 : ACode := .ops [⟨some 15, .load 6 true (.t 3), none, [3]⟩,⟨some 16, .load 17 true (.t 4), none, [4]⟩,⟨some 17, .call 25 [.t 15, .t 16], none, []⟩,⟨some 18, .un .not (.t 17), none, []⟩] [3, 4, 5, 18]
theorem r9_1 : type_of% (rr c9_1.eq_1) := rr rfl
def c9_2 : ACode := .ops [⟨some 6, .mv (.c (.bool false)), none, []⟩] [6]
theorem r9_2 : type_of% (rr c9_2.eq_1) := rr rfl
def c9_3 : ACode := .seq c9_2 .ret
theorem r9_3 : type_of% (rr c9_3.eq_1) := rr rfl
def c9_4 : ACode := .cond (.t 18) c9_3 .skip
theorem r9_4 : type_of% (rr c9_4.eq_1) := rr rfl
def c9_5 : ACode := .seq c9_1 c9_4
theorem r9_5 : type_of% (rr c9_5.eq_1) := rr rfl
def c9_6 : ACode := .ops [⟨some 19, .load 10 true (.t 5), none, [5]⟩,⟨some 20, .call 26 [.t 19], none, []⟩] [3, 4, 5, 20]
theorem r9_6 : type_of% (rr c9_6.eq_1) := rr rfl
def c9_7 : ACode := .ops [⟨some 6, .mv (.c (.bool true)), none, []⟩] [6]
theorem r9_7 : type_of% (rr c9_7.eq_1) := rr rfl
def c9_8 : ACode := .seq c9_7 .ret
theorem r9_8 : type_of% (rr c9_8.eq_1) := rr rfl
def c9_9 : ACode := .cond (.t 20) c9_8 .skip
theorem r9_9 : type_of% (rr c9_9.eq_1) := rr rfl
def c9_10 : ACode := .seq c9_6 c9_9
theorem r9_10 : type_of% (rr c9_10.eq_1) := rr rfl
def c9_11 : ACode := .ops [⟨some 21, .fad (.t 4) 0, none, [4]⟩,⟨some 22, .load 1 false (.t 21), none, [4]⟩] [3, 4, 5, 22]
theorem r9_11 : type_of% (rr c9_11.eq_1) := rr rfl
def c9_12 : ACode := .ops [⟨some 24, .bin .eql (.t 22) (.c (.int .i64 1)), none, []⟩,⟨some 23, .mv (.t 24), none, []⟩] [3, 4, 5, 22, 23]
theorem r9_12 : type_of% (rr c9_12.eq_1) := rr rfl
def c9_13 : ACode := .ops [⟨some 26, .load 6 true (.t 3), none, [3]⟩,⟨some 27, .fad (.t 4) 1, none, [4]⟩,⟨some 28, .load 1 false (.t 27), none, [4]⟩,⟨some 29, .load 10 true (.t 5), none, [5]⟩,⟨some 30, .call 27 [.t 26, .t 28, .t 29], none, []⟩,⟨some 25, .mv (.t 30), none, []⟩,⟨some 31, .ext (.t 25) 0, none, []⟩,⟨some 32, .ext (.t 25) 1, none, []⟩,⟨some 33, .ext (.t 25) 2, none, []⟩,⟨some 7, .mv (.t 31), none, []⟩,⟨some 8, .mv (.t 32), none, []⟩,⟨some 9, .mv (.t 33), none, []⟩] [4, 7, 8, 9]
theorem r9_13 : type_of% (rr c9_13.eq_1) := rr rfl
def c9_14 : ACode := .ops [⟨some 34, .mv (.t 9), none, []⟩,⟨some 35, .mv (.t 34), none, []⟩,⟨some 36, .fad (.t 4) 12, some (35, true), [4]⟩,⟨some 37, .load 1 false (.t 36), some (35, true), [4]⟩,⟨some 38, .mv (.t 7), some (35, true), []⟩,⟨some 39, .bin .leq (.t 37) (.t 38), some (35, true), []⟩,⟨some 40, .pick (.t 35) (.t 39) (.c (.bool false)), none, []⟩,⟨some 41, .mv (.t 40), none, []⟩,⟨some 42, .mv (.t 8), some (41, true), []⟩,⟨some 43, .fad (.t 4) 13, some (41, true), [4]⟩,⟨some 44, .load 1 false (.t 43), some (41, true), [4]⟩,⟨some 45, .bin .leq (.t 42) (.t 44), some (41, true), []⟩,⟨some 46, .pick (.t 41) (.t 45) (.c (.bool false)), none, []⟩,⟨some 6, .mv (.t 46), none, []⟩] [6]
theorem r9_14 : type_of% (rr c9_14.eq_1) := rr rfl
def c9_15 : ACode := .seq c9_14 .ret
theorem r9_15 : type_of% (rr c9_15.eq_1) := rr rfl
def c9_16 : ACode := .seq c9_13 c9_15
theorem r9_16 : type_of% (rr c9_16.eq_1) := rr rfl
def c9_17 : ACode := .ops [⟨some 48, .bin .eql (.t 22) (.c (.int .i64 2)), none, []⟩,⟨some 47, .mv (.t 48), none, []⟩] [3, 4, 5, 47]
theorem r9_17 : type_of% (rr c9_17.eq_1) := rr rfl
def c9_18 : ACode := .ops [⟨some 50, .load 6 true (.t 3), none, [3]⟩,⟨some 51, .fad (.t 4) 1, none, [4]⟩,⟨some 52, .load 1 false (.t 51), none, [4]⟩,⟨some 53, .load 10 true (.t 5), none, [5]⟩,⟨some 54, .call 28 [.t 50, .t 52, .t 53], none, []⟩,⟨some 49, .mv (.t 54), none, []⟩,⟨some 55, .ext (.t 49) 0, none, []⟩,⟨some 56, .ext (.t 49) 1, none, []⟩,⟨some 10, .mv (.t 55), none, []⟩,⟨some 11, .mv (.t 56), none, []⟩] [10, 11]
theorem r9_18 : type_of% (rr c9_18.eq_1) := rr rfl
def c9_19 : ACode := .ops [⟨some 57, .mv (.t 11), none, []⟩,⟨some 58, .mv (.t 57), none, []⟩,⟨some 59, .mv (.t 10), some (58, true), []⟩,⟨some 60, .bin .gtr (.t 59) (.c (.int .i64 0)), some (58, true), []⟩,⟨some 61, .pick (.t 58) (.t 60) (.c (.bool false)), none, []⟩,⟨some 6, .mv (.t 61), none, []⟩] [6]
theorem r9_19 : type_of% (rr c9_19.eq_1) := rr rfl
def c9_20 : ACode := .seq c9_19 .ret
theorem r9_20 : type_of% (rr c9_20.eq_1) := rr rfl
def c9_21 : ACode := .seq c9_18 c9_20
theorem r9_21 : type_of% (rr c9_21.eq_1) := rr rfl
def c9_22 : ACode := .cond (.t 47) c9_21 .skip
theorem r9_22 : type_of% (rr c9_22.eq_1) := rr rfl
def c9_23 : ACode := .seq c9_17 c9_22
theorem r9_23 : type_of% (rr c9_23.eq_1) := rr rfl
def c9_24 : ACode := .cond (.t 23) c9_16 c9_23
theorem r9_24 : type_of% (rr c9_24.eq_1) := rr rfl
def c9_25 : ACode := .seq c9_12 c9_24
theorem r9_25 : type_of% (rr c9_25.eq_1) := rr rfl
def c9_26 : ACode := .block 0 c9_25
theorem r9_26 : type_of% (rr c9_26.eq_1) := rr rfl
def c9_27 : ACode := .seq c9_11 c9_26
theorem r9_27 : type_of% (rr c9_27.eq_1) := rr rfl
def c9_28 : ACode := .ops [⟨some 62, .load 17 true (.t 4), none, [4]⟩,⟨some 63, .load 10 true (.t 5), none, [5]⟩,⟨some 64, .call 29 [.t 62, .t 63], none, []⟩,⟨some 65, .un .not (.t 64), none, []⟩] [3, 4, 5, 65]
theorem r9_28 : type_of% (rr c9_28.eq_1) := rr rfl
def c9_29 : ACode := .ops [⟨some 6, .mv (.c (.bool true)), none, []⟩] [6]
theorem r9_29 : type_of% (rr c9_29.eq_1) := rr rfl
def c9_30 : ACode := .seq c9_29 .ret
theorem r9_30 : type_of% (rr c9_30.eq_1) := rr rfl
def c9_31 : ACode := .cond (.t 65) c9_30 .skip
theorem r9_31 : type_of% (rr c9_31.eq_1) := rr rfl
def c9_32 : ACode := .seq c9_28 c9_31
theorem r9_32 : type_of% (rr c9_32.eq_1) := rr rfl
def c9_33 : ACode := .ops [⟨some 67, .load 6 true (.t 3), none, [3]⟩,⟨some 68, .load 17 true (.t 4), none, [4]⟩,⟨some 69, .load 10 true (.t 5), none, [5]⟩,⟨some 70, .call 30 [.t 67, .t 68, .t 69], none, []⟩,⟨some 66, .mv (.t 70), none, []⟩,⟨some 71, .ext (.t 66) 0, none, []⟩,⟨some 72, .ext (.t 66) 1, none, []⟩,⟨some 73, .ext (.t 66) 2, none, []⟩,⟨some 12, .mv (.t 71), none, []⟩,⟨some 13, .mv (.t 72), none, []⟩,⟨some 14, .mv (.t 73), none, []⟩] [4, 12, 13, 14]
theorem r9_33 : type_of% (rr c9_33.eq_1) := rr rfl
def c9_34 : ACode := .ops [⟨some 74, .fad (.t 4) 15, none, [4]⟩,⟨some 75, .load 1 false (.t 74), none, [4]⟩] [12, 13, 14, 75]
theorem r9_34 : type_of% (rr c9_34.eq_1) := rr rfl
def c9_35 : ACode := .ops [⟨some 76, .mv (.t 14), none, []⟩,⟨some 77, .mv (.t 76), none, []⟩,⟨some 78, .mv (.t 13), some (77, true), []⟩,⟨some 79, .bin .leq (.t 78) (.c (.int .i64 0)), some (77, true), []⟩,⟨some 80, .pick (.t 77) (.t 79) (.c (.bool false)), none, []⟩,⟨some 6, .mv (.t 80), none, []⟩] [6]
theorem r9_35 : type_of% (rr c9_35.eq_1) := rr rfl
def c9_36 : ACode := .seq c9_35 .ret
theorem r9_36 : type_of% (rr c9_36.eq_1) := rr rfl
def c9_37 : ACode := .cond (.t 75) c9_36 .skip
theorem r9_37 : type_of% (rr c9_37.eq_1) := rr rfl
def c9_38 : ACode := .seq c9_34 c9_37
theorem r9_38 : type_of% (rr c9_38.eq_1) := rr rfl
def c9_39 : ACode := .ops [⟨some 81, .mv (.t 14), none, []⟩,⟨some 82, .mv (.t 81), none, []⟩,⟨some 83, .mv (.t 12), some (82, true), []⟩,⟨some 84, .bin .geq (.t 83) (.c (.int .i64 0)), some (82, true), []⟩,⟨some 85, .pick (.t 82) (.t 84) (.c (.bool false)), none, []⟩,⟨some 6, .mv (.t 85), none, []⟩] [6]
theorem r9_39 : type_of% (rr c9_39.eq_1) := rr rfl
def c9_40 : ACode := .seq c9_39 .ret
theorem r9_40 : type_of% (rr c9_40.eq_1) := rr rfl
def c9_41 : ACode := .seq c9_38 c9_40
theorem r9_41 : type_of% (rr c9_41.eq_1) := rr rfl
def c9_42 : ACode := .seq c9_33 c9_41
theorem r9_42 : type_of% (rr c9_42.eq_1) := rr rfl
def c9_43 : ACode := .seq c9_32 c9_42
theorem r9_43 : type_of% (rr c9_43.eq_1) := rr rfl
def c9_44 : ACode := .seq c9_27 c9_43
theorem r9_44 : type_of% (rr c9_44.eq_1) := rr rfl
def c9_45 : ACode := .seq c9_10 c9_44
theorem r9_45 : type_of% (rr c9_45.eq_1) := rr rfl
def c9_46 : ACode := .seq c9_5 c9_45
theorem r9_46 : type_of% (rr c9_46.eq_1) := rr rfl
def c9_47 : ACode := .seq c9_0 c9_46
theorem r9_47 : type_of% (rr c9_47.eq_1) := rr rfl
def a9 : AFun := ⟨3, 86, c9_47, [.t 6]⟩
attribute [simp] r9_0 r9_1 r9_2 r9_3 r9_4 r9_5 r9_6 r9_7 r9_8 r9_9 r9_10 r9_11 r9_12 r9_13 r9_14 r9_15 r9_16 r9_17 r9_18 r9_19 r9_20 r9_21 r9_22 r9_23 r9_24 r9_25 r9_26 r9_27 r9_28 r9_29 r9_30 r9_31 r9_32 r9_33 r9_34 r9_35 r9_36 r9_37 r9_38 r9_39 r9_40 r9_41 r9_42 r9_43 r9_44 r9_45 r9_46 r9_47
theorem m9 : mFun Tryz.prog Tryz.f9 a9 = true := by decide +kernel
def c12_0 : ACode := .ops [⟨some 3, .box (.t 0) 6, none, []⟩,⟨some 4, .box (.t 1) 17, none, []⟩,⟨some 5, .box (.t 2) 10, none, []⟩,⟨some 6, .mv (.c (.int .i64 0)), none, []⟩,⟨some 7, .mv (.c (.int .i64 0)), none, []⟩,⟨some 8, .mv (.c (.bool false)), none, []⟩] [3, 4, 5]
theorem r12_0 : type_of% (rr c12_0.eq_1) := rr rfl
def c12_1 : ACode := .ops [⟨some 11, .mv (.c (.int .i64 0)), none, []⟩] [3, 4, 5, 11]
theorem r12_1 : type_of% (rr c12_1.eq_1) := rr rfl
def c12_2 : ACode := .ops [⟨some 12, .bin .lss (.t 11) (.c (.int .i64 5)), none, []⟩] [3, 4, 5, 11, 12]
theorem r12_2 : type_of% (rr c12_2.eq_1) := rr rfl
def c12_3 : ACode := .cond (.t 12) .skip (.exit 0)
theorem r12_3 : type_of% (rr c12_3.eq_1) := rr rfl
def c12_4 : ACode := .ops [⟨some 13, .mv (.t 11), none, []⟩,⟨some 9, .mv (.t 13), none, []⟩] [3, 4, 5, 9, 11]
theorem r12_4 : type_of% (rr c12_4.eq_1) := rr rfl
def c12_5 : ACode := .ops [⟨some 14, .load 6 true (.t 3), none, [3]⟩,⟨some 15, .load 17 true (.t 4), none, [4]⟩,⟨some 16, .load 10 true (.t 5), none, [5]⟩,⟨some 17, .mv (.t 9), none, []⟩,⟨some 18, .call 37 [.t 14, .t 15, .t 16, .t 17], none, []⟩,⟨some 10, .mv (.t 18), none, []⟩] [3, 4, 5, 9, 10, 11]
theorem r12_5 : type_of% (rr c12_5.eq_1) := rr rfl
def c12_6 : ACode := .ops [⟨some 19, .mv (.t 10), none, []⟩,⟨some 20, .len (.t 19), none, []⟩,⟨some 21, .bin .gtr (.t 20) (.c (.int .i64 0)), none, []⟩] [3, 4, 5, 9, 10, 11, 21]
theorem r12_6 : type_of% (rr c12_6.eq_1) := rr rfl
def c12_7 : ACode := .ops [⟨some 22, .mv (.t 9), none, []⟩,⟨some 23, .mv (.t 10), none, []⟩,⟨some 24, .mv (.t 10), none, []⟩,⟨some 25, .len (.t 24), none, []⟩,⟨some 26, .bin .sub (.t 25) (.c (.int .i64 1)), none, []⟩,⟨some 27, .bin .quo (.t 26) (.c (.int .i64 2)), none, []⟩,⟨some 28, .ias (.t 23) (.t 27) 1, none, []⟩,⟨some 29, .load 1 false (.t 28), none, []⟩,⟨some 6, .mv (.t 22), none, []⟩,⟨some 7, .mv (.t 29), none, []⟩,⟨some 8, .mv (.c (.bool true)), none, []⟩] [6, 7, 8]
theorem r12_7 : type_of% (rr c12_7.eq_1) := rr rfl
def c12_8 : ACode := .seq c12_7 .ret
theorem r12_8 : type_of% (rr c12_8.eq_1) := rr rfl
def c12_9 : ACode := .cond (.t 21) c12_8 .skip
theorem r12_9 : type_of% (rr c12_9.eq_1) := rr rfl
def c12_10 : ACode := .seq c12_6 c12_9
theorem r12_10 : type_of% (rr c12_10.eq_1) := rr rfl
def c12_11 : ACode := .seq c12_5 c12_10
theorem r12_11 : type_of% (rr c12_11.eq_1) := rr rfl
def c12_12 : ACode := .seq c12_4 c12_11
theorem r12_12 : type_of% (rr c12_12.eq_1) := rr rfl
def c12_13 : ACode := .block 1 c12_12
theorem r12_13 : type_of% (rr c12_13.eq_1) := rr rfl
def c12_14 : ACode := .ops [⟨some 30, .bin .add (.t 11) (.c (.int .i64 1)), none, []⟩,⟨some 11, .mv (.t 30), none, []⟩] [3, 4, 5, 11]
theorem r12_14 : type_of% (rr c12_14.eq_1) := rr rfl
def c12_15 : ACode := .seq c12_13 c12_14
theorem r12_15 : type_of% (rr c12_15.eq_1) := rr rfl
def c12_16 : ACode := .seq c12_3 c12_15
theorem r12_16 : type_of% (rr c12_16.eq_1) := rr rfl
def c12_17 : ACode := .seq c12_2 c12_16
theorem r12_17 : type_of% (rr c12_17.eq_1) := rr rfl
def c12_18 : ACode := .keep [3, 4, 5, 11] [3, 4, 5] c12_17
theorem r12_18 : type_of% (rr c12_18.eq_1) := rr rfl
def c12_19 : ACode := .loop c12_18
theorem r12_19 : type_of% (rr c12_19.eq_1) := rr rfl
def c12_20 : ACode := .block 0 c12_19
theorem r12_20 : type_of% (rr c12_20.eq_1) := rr rfl
def c12_21 : ACode := .seq c12_1 c12_20
theorem r12_21 : type_of% (rr c12_21.eq_1) := rr rfl
def c12_22 : ACode := .ops [⟨some 6, .mv (.c (.int .i64 0)), none, []⟩,⟨some 7, .mv (.c (.int .i64 0)), none, []⟩,⟨some 8, .mv (.c (.bool false)), none, []⟩] [6, 7, 8]
theorem r12_22 : type_of% (rr c12_22.eq_1) := rr rfl
def c12_23 : ACode := .seq c12_22 .ret
theorem r12_23 : type_of% (rr c12_23.eq_1) := rr rfl
def c12_24 : ACode := .seq c12_21 c12_23
theorem r12_24 : type_of% (rr c12_24.eq_1) := rr rfl
def c12_25 : ACode := .seq c12_0 c12_24
theorem r12_25 : type_of% (rr c12_25.eq_1) := rr rfl
def a12 : AFun := ⟨3, 31, c12_25, [.t 6, .t 7, .t 8]⟩
attribute [simp] r12_0 r12_1 r12_2 r12_3 r12_4 r12_5 r12_6 r12_7 r12_8 r12_9 r12_10 r12_11 r12_12 r12_13 r12_14 r12_15 r12_16 r12_17 r12_18 r12_19 r12_20 r12_21 r12_22 r12_23 r12_24 r12_25
theorem m12 : mFun Tryz.prog Tryz.f12 a12 = true := by decide +kernel
def c14_0 : ACode := .ops [⟨some 1, .box (.t 0) 10, none, []⟩,⟨some 2, .alloc [.int .i64 0, .int .i64 0, .int .i64 0, .int .i64 0], none, []⟩,⟨some 3, .mv (.c (.int .i64 0)), none, []⟩] [1, 2]
theorem r14_0 : type_of% (rr c14_0.eq_1) := rr rfl
def c14_1 : ACode := .ops [⟨some 4, .load 10 true (.t 1), none, [1]⟩,⟨some 5, .call 39 [.t 4], none, []⟩,⟨some 6, .iad (.t 1) (.c (.int .i64 4)) 2 5, none, [1]⟩,⟨some 7, .fad (.t 6) 1, none, [1]⟩,⟨some 8, .load 1 false (.t 7), none, [1]⟩,⟨none, .store (.t 2) 4 (.t 5), none, [2]⟩,⟨some 3, .mv (.t 8), none, []⟩] [2, 3]
theorem r14_1 : type_of% (rr c14_1.eq_1) := rr rfl
def c14_2 : ACode := .seq c14_1 .ret
theorem r14_2 : type_of% (rr c14_2.eq_1) := rr rfl
def c14_3 : ACode := .seq c14_0 c14_2
theorem r14_3 : type_of% (rr c14_3.eq_1) := rr rfl
def a14 : AFun := ⟨1, 9, c14_3, [.cell 2 4 true, .t 3]⟩
attribute [simp] r14_0 r14_1 r14_2 r14_3
theorem m14 : mFun Tryz.prog Tryz.f14 a14 = true := by decide +kernel
def ahead (m : Model) (c : Int) (b : Box) : Prop := ∀ o : Int, 0 ≤ o → o < m.classes → o ≠ c → 0 < marD m c b o
theorem margin_pos {m : Model} {c : Int} {b : Box} (h0 : 0 ≤ c) (h1 : c < m.classes) (h2 : m.classes = 2 ∨ m.classes = 3) : 0 < margin m c b ↔ ahead m c b := by
  unfold margin ahead
  have hm2 := min2_le (a := marD m c b (other1 c)) (b := marD m c b (other2 c))
  rcases h2 with e | e
  · rw [if_pos e]
    have hc : c = 0 ∨ c = 1 := by omega
    constructor
    · intro h o o0 o1 oc
      have : o = other1 c := by unfold other1; split <;> omega
      rw [this]; exact h
    · intro h
      exact h _ (by unfold other1; split <;> omega) (by unfold other1; split <;> omega) (by unfold other1; split <;> omega)
  · rw [if_neg (by omega)]
    have hc : c = 0 ∨ c = 1 ∨ c = 2 := by omega
    constructor
    · intro h o o0 o1 oc
      have : o = other1 c ∨ o = other2 c := by unfold other1 other2; split <;> split <;> omega
      rcases this with e2 | e2 <;> rw [e2] <;> omega
    · intro h
      have k1 := h (other1 c) (by unfold other1; split <;> omega) (by unfold other1; split <;> omega) (by unfold other1; split <;> omega)
      have k2 := h (other2 c) (by unfold other2; split <;> omega) (by unfold other2; split <;> omega) (by unfold other2; split <;> omega)
      omega
def closedM (m : Model) (q : Query) (b : Box) : Bool :=
  if okQuery m q = false then false else if b.empty then true else
  if q.kind = 1 then (boundM m q.cls b).c && decide (q.lo ≤ (boundM m q.cls b).a) && decide ((boundM m q.cls b).b ≤ q.hi) else
  if q.kind = 2 then decide (0 < margin m q.cls b) else
  if orderedB q b then (changeM m q b).c && (if q.falls then decide ((changeM m q b).b ≤ 0) else decide (0 ≤ (changeM m q b).a)) else true
def Shown (m : Model) (q : Query) (b : Box) : Prop :=
  (q.kind = 1 ∧ q.lo ≤ (boundP m q.cls b).1 ∧ (boundP m q.cls b).2 ≤ q.hi) ∨ (q.kind = 2 ∧ ahead m q.cls b) ∨
  (q.kind = 3 ∧ ((b.get q.feature).lo < b.s4.hi → (if q.falls then (changeM m q b).b ≤ 0 else 0 ≤ (changeM m q b).a)))
theorem closed_iff {m : Model} (hm : RM m) {q : Query} (hq : okQuery m q = true) {b : Box} (hb : b.empty = false) : closedM m q b = true ↔ Shown m q b := by
  have hs := okQuery_spec hq
  have hk := okKind_spec hs.2.2.2.2.2
  have hcl := hm.classes
  have hd := hm.dim
  unfold closedM Shown
  rw [if_neg (by simp [hq]), if_neg (by simp [hb])]
  have hB : boundM m q.cls b = ⟨(boundP m q.cls b).1, (boundP m q.cls b).2, true⟩ := by unfold boundM; rw [if_neg (by simp [hb]; omega)]
  rcases hk with ⟨k, _⟩ | ⟨k, k2, _⟩ | ⟨k, f0, f1, _⟩
  · rw [if_pos k, hB]
    simp [k]
  · rw [if_neg (by omega), if_pos k, decide_eq_true_eq, margin_pos hs.1 hs.2.1 (by omega)]
    simp [k]
  · have hp : paired q = true := by unfold paired; simp; omega
    have ho : orderedB q b = decide ((b.get q.feature).lo < b.s4.hi) := by unfold orderedB; rw [hp, hb]; rfl
    have hc : (changeM m q b).c = true := by rw [change_some hp hs.1 hs.2.1 hb]
    rw [if_neg (by omega), if_neg (by omega), ho, hc]
    by_cases h : (b.get q.feature).lo < b.s4.hi
    · cases hf : q.falls <;> simp [k, h]
    · simp [k, h]
theorem marD_sound {m : Model} (hm : RM m) {b : Box} {p : Point} {t : Int} (hp : InB b p t) (c o : Int) : marD m c b o ≤ evalM m c p - evalM m o p := by
  have h1 := bound_sound hm c hp
  have h2 := bound_sound hm o hp
  unfold marD
  omega
theorem unbeaten_iff {m : Model} {q : Query} {p : Point} : beaten m q p = false ↔ ∀ o : Int, 0 ≤ o → o < m.classes → o ≠ q.cls → evalM m o p < evalM m q.cls p := by
  unfold beaten
  rw [List.any_eq_false]
  constructor
  · intro h o h0 h1 hc
    have := h o.toNat (by rw [List.mem_range]; omega)
    rw [show ((o.toNat : Nat) : Int) = o by omega] at this
    simp [hc] at this
    exact this
  · intro h x hx
    rw [List.mem_range] at hx
    by_cases e : (x : Int) = q.cls
    · simp [e]
    · have := h x (by omega) (by omega) e
      simp [e]
      exact this
theorem closed_sound {m : Model} (hm : RM m) {q : Query} {b : Box} (h : closedM m q b = true) {p : Point} {t : Int} (hp : InB b p t) : breaks m q p t = false := by
  have hb : b.empty = false := empty_false.2 ⟨p, t, hp⟩
  cases hq : okQuery m q
  · unfold breaks; rw [hq]; rfl
  rw [closed_iff hm hq hb] at h
  have hs := okQuery_spec hq
  have hk := okKind_spec hs.2.2.2.2.2
  have hd := hm.dim
  unfold breaks
  rw [hq]
  simp only [if_true]
  rcases h with ⟨k, h1, h2⟩ | ⟨k, h1⟩ | ⟨k, h1⟩
  · rw [if_pos k]
    have := bound_sound hm q.cls hp
    simp [Span.has]
    omega
  · rw [if_neg (by omega), if_pos k, unbeaten_iff]
    intro o o0 o1 oc
    have k1 := h1 o o0 o1 oc
    have k2 := marD_sound hm hp q.cls o
    omega
  · rw [if_neg (by omega), if_neg (by omega)]
    have hf : 0 ≤ q.feature ∧ q.feature < m.dim := by omega
    have hpr : paired q = true := by unfold paired; simp; omega
    by_cases hlt : p.get q.feature < t
    · rw [if_pos hlt]
      have h2 := (inB_get.1 hp q.feature hf.1 (by omega)).1
      have h3 : InS b.s4 t := hp.2.2.2.2
      unfold InS at h2 h3
      have h1 := h1 (by omega)
      have hc := change_sound hm hpr hs.1 hs.2.1 hp
      have hse : secondOf q p t = p.set q.feature t := by unfold secondOf; rw [if_pos hpr]
      rw [hse]
      cases hfa : q.falls
      · rw [hfa] at h1
        simp at h1 ⊢
        omega
      · rw [hfa] at h1
        simp at h1 ⊢
        omega
    · rw [if_neg hlt]
noncomputable def ClosedC (m : Model) (q : Query) (b : Box) : Option Bool := Part (RM m ∧ okB b) (closedM m q b)
theorem runs_Closed (m : Model) (q : Query) (b : Box) (r : Bool) (h : ClosedC m q b = some r) : Runs (tbl [(25, sp2 QRight), (26, sp1 fun (b : Box) => some b.empty), (27, sp3 BoundS), (28, sp3 MarginC), (29, sp2 fun q b => some (orderedB q b)), (30, sp3 ChangeC)]) a9 [Arg.enc m, Arg.enc q, Arg.enc b] (Arg.enc r) := by
  obtain ⟨⟨hm, hb⟩, rfl⟩ := part_some h
  clear h
  refine ⟨rfl, fun g => run_def ?_⟩
  unfold a9 closedM
  have hM : QRight m q = some (okQuery m q) := by unfold QRight; rw [if_neg (by have := hm.dim; omega)]; exact part_of hm _
  cases hq : okQuery m q
  case false => simp -implicitDefEqProofs [hM, hq]
  cases he : b.empty
  case true => simp -implicitDefEqProofs [hM, hq, he]
  have hs := okQuery_spec hq
  have hk := okKind_spec hs.2.2.2.2.2
  have hS : BoundS m q.cls b = some (boundM m q.cls b) := part_of ⟨hm, hb⟩ _
  have hC : ChangeC m q b = some (changeM m q b) := part_of ⟨hm, hb⟩ _
  have hG : 2 ≤ m.classes → MarginC m q.cls b = some (margin m q.cls b, true) := fun h => by
    unfold MarginC
    rw [part_of ⟨hm, hb⟩, if_neg (by simp [he]; omega)]
  generalize boundM m q.cls b = z at *
  generalize changeM m q b = y at *
  obtain ⟨z1, z2, z3⟩ := z
  obtain ⟨y1, y2, y3⟩ := y
  obtain ⟨kind, cls, region, lo, hi, feature, falls, budget⟩ := q
  simp only at *
  by_cases k1 : kind = 1
  · subst k1
    cases z3
    · simp -implicitDefEqProofs [hM, hq, he, hS]
    · by_cases c1 : lo ≤ z1
      · simp -implicitDefEqProofs [hM, hq, he, hS, c1]
      · simp -implicitDefEqProofs [hM, hq, he, hS, c1]
  by_cases k2 : kind = 2
  · subst k2
    have hG := hG (by omega)
    simp -implicitDefEqProofs [hM, hq, he, hG]
  cases ho : orderedB ⟨kind, cls, region, lo, hi, feature, falls, budget⟩ b
  · simp -implicitDefEqProofs [hM, hq, he, k1, k2, ho]
  cases falls <;> cases y3 <;> simp -implicitDefEqProofs [hM, hq, he, k1, k2, ho, hC]
theorem c_Closed : Contract Tryz.prog 9 (sp3 ClosedC) :=
  contract_of_runs mixed (tbl_cons c_qRight (tbl_cons c_bEmpty (tbl_cons c_bSum (tbl_cons c_Margin (tbl_cons c_Ordered (tbl_cons c_Change tbl_nil)))))) Tryz.func9 m9 (sp3_runs runs_Closed)
theorem runs_gCorner (b : Box) (r : Point × Int) (h : some (lowB b, b.s4.hi) = some r) : Runs (tbl [(39, sp1 fun b => some (lowB b))]) a14 [Arg.enc b] (Arg.enc r) := by
  cases h
  refine ⟨rfl, fun g => run_def ?_⟩
  unfold a14
  simp -implicitDefEqProofs []
theorem c_gCorner : Contract Tryz.prog 14 (sp1 fun b => some (lowB b, b.s4.hi)) :=
  contract_of_runs mixed (tbl_cons c_Low tbl_nil) Tryz.func14 m14 (sp1_runs runs_gCorner)
def midL (l : List Int) : Int := l.getD ((l.length - 1) / 2) 0
def splitFrom (m : Model) (q : Query) (b : Box) : List Int → Tri Int Int Bool
  | [] => ⟨0, 0, false⟩
  | k :: ks => if cutsL m q b k = [] then splitFrom m q b ks else ⟨k, midL (cutsL m q b k), true⟩
def splitM (m : Model) (q : Query) (b : Box) : Tri Int Int Bool := splitFrom m q b [0, 1, 2, 3, 4]
theorem splitFrom_spec (m : Model) (q : Query) (b : Box) : ∀ (ks : List Int), ((splitFrom m q b ks).c = false ∧ splitFrom m q b ks = ⟨0, 0, false⟩ ∧ ∀ k ∈ ks, cutsL m q b k = []) ∨
    ∃ (l r : List Int) (k : Int), ks = l ++ k :: r ∧ cutsL m q b k ≠ [] ∧ (∀ i ∈ l, cutsL m q b i = []) ∧ splitFrom m q b ks = ⟨k, midL (cutsL m q b k), true⟩
  | [] => .inl ⟨rfl, rfl, fun k hk => by simp at hk⟩
  | k :: ks => by
    unfold splitFrom
    by_cases h : cutsL m q b k = []
    · rw [if_pos h]
      rcases splitFrom_spec m q b ks with ⟨h1, h2, h3⟩ | ⟨l, r, j, h1, h2, h3, h4⟩
      · exact .inl ⟨h1, h2, fun i hi => by
          rcases List.mem_cons.1 hi with rfl | hi
          · exact h
          · exact h3 i hi⟩
      · exact .inr ⟨k :: l, r, j, by rw [h1]; rfl, h2, fun i hi => by
          rcases List.mem_cons.1 hi with rfl | hi
          · exact h
          · exact h3 i hi, h4⟩
    · rw [if_neg h]
      exact .inr ⟨[], ks, k, rfl, h, fun i hi => by simp at hi, rfl⟩
noncomputable def SplitC (m : Model) (q : Query) (b : Box) : Option (Tri Int Int Bool) := Part (RM m) (splitM m q b)
theorem runs_Split (m : Model) (q : Query) (b : Box) (r : Tri Int Int Bool) (h : SplitC m q b = some r) : Runs (tbl [(37, sp4 CutsC)]) a12 [Arg.enc m, Arg.enc q, Arg.enc b] (Arg.enc r) := by
  obtain ⟨hm, rfl⟩ := part_some h
  clear h
  refine ⟨rfl, fun g => run_def ?_⟩
  unfold a12 splitM
  have hK : ∀ i : Int, 0 ≤ i → i ≤ 4 → CutsC m q b i = some (cutsL m q b i) := fun i i0 i5 => part_of ⟨hm, .inr ⟨i0, i5⟩⟩ _
  have hL : ∀ i, (cutsL m q b i).length ≤ 248 := fun i => by rw [cutsL_len]; exact cutN_le hm q b i
  have fin : ∀ (l : List Int), l.length ≤ 248 → l ≠ [] → 0 < l.length ∧ l.length ≤ maxN ∧ IntKind.i64.wrap ((l.length : Int) - 1) = ((l.length - 1 : Nat) : Int) ∧ ∃ x : Nat, IntKind.i64.wrap (((l.length - 1 : Nat) : Int) / 2) = (x : Int) ∧ x < l.length ∧ rd (encL l) x 1 false = some (.int .i64 (midL l)) := by
    intro l hl hne
    have hp : 0 < l.length := List.length_pos_iff.2 hne
    have hlt : (l.length - 1) / 2 < l.length := by omega
    refine ⟨by omega, by unfold maxN; omega, ?_, (l.length - 1) / 2, ?_, hlt, ?_⟩
    · rw [show (l.length : Int) - 1 = ((l.length - 1 : Nat) : Int) by omega]
      exact wrap64 (by omega) (by omega)
    · rw [show ((l.length - 1 : Nat) : Int) / 2 = (((l.length - 1) / 2 : Nat) : Int) by omega]
      exact wrap64 (by omega) (by omega)
    · rw [rd_ints l _ hlt]
      unfold midL
      simp [hlt]
  have K0 := hK 0 (by omega) (by omega)
  have K1 := hK 1 (by omega) (by omega)
  have K2 := hK 2 (by omega) (by omega)
  have K3 := hK 3 (by omega) (by omega)
  have K4 := hK 4 (by omega) (by omega)
  have L0 := fin _ (hL 0)
  have L1 := fin _ (hL 1)
  have L2 := fin _ (hL 2)
  have L3 := fin _ (hL 3)
  have L4 := fin _ (hL 4)
  clear hK hL fin
  unfold splitFrom splitFrom splitFrom splitFrom splitFrom splitFrom
  generalize cutsL m q b 0 = l0 at *
  generalize cutsL m q b 1 = l1 at *
  generalize cutsL m q b 2 = l2 at *
  generalize cutsL m q b 3 = l3 at *
  generalize cutsL m q b 4 = l4 at *
  by_cases h0 : l0 = []
  case neg =>
    obtain ⟨a1, a2, a3, x, a4, a5, a6⟩ := L0 h0
    simp -implicitDefEqProofs [run_round, K0, h0, a1, a2, a3, a4, a5, a6, encL_nil]
  subst h0
  by_cases h1 : l1 = []
  case neg =>
    obtain ⟨a1, a2, a3, x, a4, a5, a6⟩ := L1 h1
    simp -implicitDefEqProofs [run_round, K0, K1, h1, a1, a2, a3, a4, a5, a6, encL_nil]
  subst h1
  by_cases h2 : l2 = []
  case neg =>
    obtain ⟨a1, a2, a3, x, a4, a5, a6⟩ := L2 h2
    simp -implicitDefEqProofs [run_round, K0, K1, K2, h2, a1, a2, a3, a4, a5, a6, encL_nil]
  subst h2
  by_cases h3 : l3 = []
  case neg =>
    obtain ⟨a1, a2, a3, x, a4, a5, a6⟩ := L3 h3
    simp -implicitDefEqProofs [run_round, K0, K1, K2, K3, h3, a1, a2, a3, a4, a5, a6, encL_nil]
  subst h3
  by_cases h4 : l4 = []
  case neg =>
    obtain ⟨a1, a2, a3, x, a4, a5, a6⟩ := L4 h4
    simp -implicitDefEqProofs [run_round, K0, K1, K2, K3, K4, h4, a1, a2, a3, a4, a5, a6, encL_nil]
  subst h4
  simp -implicitDefEqProofs [run_round, K0, K1, K2, K3, K4, encL_nil]
theorem c_Split : Contract Tryz.prog 12 (sp3 SplitC) :=
  contract_of_runs mixed (tbl_cons c_Cuts tbl_nil) Tryz.func12 m12 (sp3_runs runs_Split)
end Go.Co
/- CO: a part of a box, by numbers. -/
namespace Go.Co
open Go.Am Go.Proofs
attribute [-simp] Go.Am.eff_gcall
theorem rd_nlo (b : Box) (i : Nat) (h : i < 5) : rd [.int .i64 b.s0.lo, .int .i64 b.s0.hi, .int .i64 b.s1.lo, .int .i64 b.s1.hi, .int .i64 b.s2.lo, .int .i64 b.s2.hi, .int .i64 b.s3.lo, .int .i64 b.s3.hi, .int .i64 b.s4.lo, .int .i64 b.s4.hi] (i * 2) 1 false = some (.int .i64 (b.get i).lo) := by
  have hf : i = 0 ∨ i = 1 ∨ i = 2 ∨ i = 3 ∨ i = 4 := by omega
  rcases hf with rfl | rfl | rfl | rfl | rfl <;> rfl
theorem rd_nhi (b : Box) (i : Nat) (h : i < 5) : rd [.int .i64 b.s0.lo, .int .i64 b.s0.hi, .int .i64 b.s1.lo, .int .i64 b.s1.hi, .int .i64 b.s2.lo, .int .i64 b.s2.hi, .int .i64 b.s3.lo, .int .i64 b.s3.hi, .int .i64 b.s4.lo, .int .i64 b.s4.hi] (i * 2 + 1) 1 false = some (.int .i64 (b.get i).hi) := by
  have hf : i = 0 ∨ i = 1 ∨ i = 2 ∨ i = 3 ∨ i = 4 := by omega
  rcases hf with rfl | rfl | rfl | rfl | rfl <;> rfl
structure PartOk (b x : Box) : Prop where
  some : x.empty = false
  sub : ∀ i : Int, 0 ≤ i → i < 5 → (b.get i).lo ≤ (x.get i).lo ∧ (x.get i).hi ≤ (b.get i).hi
theorem PartOk.set {b x : Box} (h : PartOk b x) {i : Nat} (hi : i < 5) {s : Span} (h1 : s.lo ≤ s.hi) (h2 : (x.get i).lo ≤ s.lo) (h3 : s.hi ≤ (x.get i).hi) : PartOk b (x.set i s) := by
  refine ⟨empty_get.2 fun j j0 j5 => ?_, fun j j0 j5 => ?_⟩
  · rw [set_get_ite x s (by omega) (by omega) j0 j5]
    split
    · exact h1
    · exact get_spans h.some j
  · rw [set_get_ite x s (by omega) (by omega) j0 j5]
    have := h.sub j j0 j5
    split
    · rename_i e; subst e; omega
    · exact this
theorem PartOk.small {b x : Box} (h : PartOk b x) (hb : smallB b) : smallB x := by
  have key : ∀ i : Int, 0 ≤ i → i < 5 → Co.small (x.get i) := fun i i0 i5 => by
    have h1 := get_small hb i
    have h2 := h.sub i i0 i5
    have h3 := get_spans h.some i
    unfold Co.small at *
    omega
  exact ⟨key 0 (by omega) (by omega), key 1 (by omega) (by omega), key 2 (by omega) (by omega), key 3 (by omega) (by omega), key 4 (by omega) (by omega)⟩
theorem small_ok {b : Box} (h : smallB b) (he : b.empty = false) : okB b := by
  have key : ∀ i : Int, 0 ≤ i → i < 5 → okS64 (b.get i) := fun i i0 i5 => by
    have h1 := get_small h i
    have h2 := get_spans he i
    unfold Co.small at h1
    unfold okS64 ok64
    omega
  exact ⟨key 0 (by omega) (by omega), key 1 (by omega) (by omega), key 2 (by omega) (by omega), key 3 (by omega) (by omega), key 4 (by omega) (by omega)⟩
theorem cut_sub (b : Box) {k : Int} (h0 : 0 ≤ k) (h5 : k < 5) (n : Int) : (∀ p t, InB (cutB b k n).1 p t → InB b p t) ∧ (∀ p t, InB (cutB b k n).2 p t → InB b p t) := by
  unfold cutB
  rw [if_pos ⟨h0, h5⟩]
  constructor
  · intro p t h
    rw [inB_pt] at h ⊢
    intro i i0 i5
    have := h i i0 i5
    simp only at this
    rw [set_get_ite b _ h0 h5 i0 i5] at this
    split at this
    · rename_i e
      subst e
      exact ((cutS_1 _ _ _).1 this).1
    · exact this
  · intro p t h
    rw [inB_pt] at h ⊢
    intro i i0 i5
    have := h i i0 i5
    simp only at this
    rw [set_get_ite b _ h0 h5 i0 i5] at this
    split at this
    · rename_i e
      subst e
      exact ((cutS_2 _ _ _).1 this).1
    · exact this
end Go.Co
/- CO: the document's own cuts of a box, by a set that is gone through in whatever order. -/
namespace Go.Co
open Go.Am Go.Proofs
attribute [-simp] Go.Am.eff_gcall
def isCut (f : Int) (s : Span) (w : Word) : Prop := (nd w).leaf = false ∧ (nd w).feature = f ∧ s.lo ≤ (nd w).cut ∧ (nd w).cut < s.hi
instance (f : Int) (s : Span) (w : Word) : Decidable (isCut f s w) := by unfold isCut; exact inferInstance
@[simp] theorem isIt_mp (b g : Nat) (l : List AV) : isIt (.mp b g :: l) = true := rfl
end Go.Co
/- CO: the document's own answers: right queries, what breaks them (written by mkCoS.py). -/
namespace Go.Co
open Go.Am Go.Proofs
@[simp high] theorem rd_spanN (b : Box) (k : Nat) (h : k < 5) : rd [.int .i64 b.s0.lo, .int .i64 b.s0.hi, .int .i64 b.s1.lo, .int .i64 b.s1.hi, .int .i64 b.s2.lo, .int .i64 b.s2.hi, .int .i64 b.s3.lo, .int .i64 b.s3.hi, .int .i64 b.s4.lo, .int .i64 b.s4.hi] (k * 2) 2 true = some (.agg [.int .i64 (b.get k).lo, .int .i64 (b.get k).hi]) := by
  have hf : k = 0 ∨ k = 1 ∨ k = 2 ∨ k = 3 ∨ k = 4 := by omega
  rcases hf with rfl | rfl | rfl | rfl | rfl <;> rfl
end Go.Co
/- CO: the document's own answers: leaves and bounds. -/
namespace Go.Co
open Go.Am Go.Proofs
end Go.Co
/- CO: what breaks a query, by the document. -/
namespace Go.Co
open Go.Am Go.Proofs
end Go.Co
/- CO: what is shown, closed, where a box is cut: by the document. -/
namespace Go.Co
open Go.Am Go.Proofs
attribute [-simp] Go.Am.eff_gcall
def pairB (q : Query) (b : Box) : Box := if paired q then b.set q.feature b.s4 else b
theorem cutB_halves {b : Box} {k n : Int} (h0 : 0 ≤ k) (h5 : k < 5) (h1 : (b.get k).lo ≤ n) (h2 : n < (b.get k).hi) : cutB b k n = (b.set k ⟨(b.get k).lo, n⟩, b.set k ⟨n + 1, (b.get k).hi⟩) := by
  unfold cutB cutS
  rw [if_pos ⟨h0, h5⟩, if_neg (by omega)]
  unfold ofS
  rw [show (if n + 1 > (b.get k).lo then n + 1 else (b.get k).lo) = n + 1 from if_pos (by omega), if_neg (by omega), if_neg (by omega)]
theorem boundT_pts {l : List Word} {dim : Int} (h : RT l dim) {a b : Box} (ha : a.empty = false) (hb : b.empty = false) (hp : ∀ p, (∃ t, InB a p t) ↔ ∃ t, InB b p t) : (boundT l a).a = (boundT l b).a ∧ (boundT l a).b = (boundT l b).b := by
  obtain ⟨_, a1, ⟨p1, t1, q1, v1⟩, p2, t2, q2, v2⟩ := boundT_spec h ha
  obtain ⟨_, b1, ⟨p3, t3, q3, v3⟩, p4, t4, q4, v4⟩ := boundT_spec h hb
  obtain ⟨u1, r1⟩ := (hp p1).1 ⟨t1, q1⟩
  obtain ⟨u2, r2⟩ := (hp p2).1 ⟨t2, q2⟩
  obtain ⟨u3, r3⟩ := (hp p3).2 ⟨t3, q3⟩
  obtain ⟨u4, r4⟩ := (hp p4).2 ⟨t4, q4⟩
  have x1 := b1 p1 u1 r1
  have x2 := b1 p2 u2 r2
  have x3 := a1 p3 u3 r3
  have x4 := a1 p4 u4 r4
  omega
theorem pts_fold {c : Int} {a b : Box} (ha : a.empty = false) (hb : b.empty = false) (hp : ∀ p, (∃ t, InB a p t) ↔ ∃ t, InB b p t) : ∀ (l : List Tree) (x : Int × Int), (∀ t ∈ l, ∃ d, RT t.nodes d) → l.foldl (boundF c a) x = l.foldl (boundF c b) x
  | [], _, _ => rfl
  | t :: l, x, h => by
    obtain ⟨d, hd⟩ := h t (by simp)
    have := boundT_pts hd ha hb hp
    have e : boundF c a x t = boundF c b x t := by unfold boundF; rw [this.1, this.2]
    rw [List.foldl_cons, List.foldl_cons, e, pts_fold ha hb hp l _ fun y hy => h y (by simp [hy])]
theorem boundP_pts {m : Model} (hm : RM m) (c : Int) {a b : Box} (ha : a.empty = false) (hb : b.empty = false) (hp : ∀ p, (∃ t, InB a p t) ↔ ∃ t, InB b p t) : boundP m c a = boundP m c b :=
  pts_fold ha hb hp _ _ fun t ht => ⟨_, hm.rt ht⟩
def shownM (m : Model) (q : Query) (b : Box) : Bool :=
  if q.kind = 1 then decide (q.lo ≤ (boundP m q.cls b).1) && decide ((boundP m q.cls b).2 ≤ q.hi) else
  if q.kind = 2 then (decide (0 = q.cls) || decide ((boundP m 0 b).2 < (boundP m q.cls b).1)) && (decide (1 = q.cls) || decide ((boundP m 1 b).2 < (boundP m q.cls b).1)) && (decide (m.classes = 2) || decide (2 = q.cls) || decide ((boundP m 2 b).2 < (boundP m q.cls b).1)) else
  if b.s4.hi ≤ (b.get q.feature).lo then true else if q.falls then decide ((boundP m q.cls (pairB q b)).2 ≤ (boundP m q.cls b).1) else decide ((boundP m q.cls b).2 ≤ (boundP m q.cls (pairB q b)).1)
theorem pair_some {q : Query} {b : Box} (he : b.empty = false) : (pairB q b).empty = false := by
  unfold pairB
  by_cases hp : paired q = true
  · rw [if_pos hp]
    have hf := paired_feature hp
    have h4 := (empty_spec he).2.2.2.2
    rw [set_empty he q.feature b.s4 (by omega) (by omega)]
    exact h4
  · rw [if_neg hp]; exact he
theorem pair_pts {q : Query} (hp : paired q = true) {b : Box} (he : b.empty = false) (p : Point) : (∃ t, InB (pairB q b) p t) ↔ ∃ t, InB (secondB q b) p t := by
  unfold pairB secondB
  rw [if_pos hp, if_pos hp]
  have h4 := (empty_spec he).2.2.2.2
  have hf := paired_feature hp
  have e4 : (b.set q.feature b.s4).s4 = b.s4 := by rcases hf with hf | hf | hf | hf <;> rw [hf] <;> rfl
  constructor
  · rintro ⟨t, h0, h1, h2, h3, h4⟩
    exact ⟨0, h0, h1, h2, h3, by unfold InS; simp⟩
  · rintro ⟨t, h0, h1, h2, h3, h4'⟩
    refine ⟨b.s4.lo, h0, h1, h2, h3, ?_⟩
    rw [e4]
    unfold Span.empty at h4
    simp at h4
    unfold InS
    omega
theorem first_pts {q : Query} (hp : paired q = true) {b : Box} (he : b.empty = false) (p : Point) : (∃ t, InB b p t) ↔ ∃ t, InB (firstB q b) p t := by
  have h4 := (empty_spec he).2.2.2.2
  unfold Span.empty at h4
  simp at h4
  constructor
  · rintro ⟨t, h0, h1, h2, h3, _⟩
    exact ⟨0, (first_in hp).2 ⟨rfl, h0, h1, h2, h3⟩⟩
  · rintro ⟨t, h⟩
    obtain ⟨_, h0, h1, h2, h3⟩ := (first_in hp).1 h
    exact ⟨b.s4.lo, h0, h1, h2, h3, by unfold InS; omega⟩
theorem change_shown {m : Model} (hm : RM m) {q : Query} (hp : paired q = true) (h0 : 0 ≤ q.cls) (h1 : q.cls < m.classes) {b : Box} (he : b.empty = false) :
    (changeM m q b).a = (boundP m q.cls (pairB q b)).1 - (boundP m q.cls b).2 ∧ (changeM m q b).b = (boundP m q.cls (pairB q b)).2 - (boundP m q.cls b).1 := by
  rw [change_some hp h0 h1 he, boundP_pts hm q.cls (pair_some he) (second_some hp he) (pair_pts hp he), boundP_pts hm q.cls he (first_some hp he) (first_pts hp he)]
  exact ⟨rfl, rfl⟩
theorem closed_shown {m : Model} (hm : RM m) {q : Query} (hq : okQuery m q = true) {b : Box} (hb : b.empty = false) : closedM m q b = shownM m q b := by
  rw [Bool.eq_iff_iff, closed_iff hm hq hb]
  have hs := okQuery_spec hq
  have hk := okKind_spec hs.2.2.2.2.2
  have hcl := hm.classes
  unfold Shown shownM
  rcases hk with ⟨k, _⟩ | ⟨k, k2, _⟩ | ⟨k, f0, f1, _⟩
  · simp [k]
  · have h2 : m.classes = 2 ∨ m.classes = 3 := by omega
    simp only [k, Int.reduceEq, false_and, true_and, false_or, or_false, if_false, if_true, Bool.and_eq_true, Bool.or_eq_true, decide_eq_true_eq, reduceIte]
    unfold ahead marD
    constructor
    · intro h
      refine ⟨⟨?_, ?_⟩, ?_⟩
      · by_cases e : (0 : Int) = q.cls
        · exact .inl e
        · have := h 0 (by omega) (by omega) e; exact .inr (by omega)
      · by_cases e : (1 : Int) = q.cls
        · exact .inl e
        · have := h 1 (by omega) (by omega) e; exact .inr (by omega)
      · rcases h2 with h2 | h2
        · exact .inl (.inl h2)
        · by_cases e : (2 : Int) = q.cls
          · exact .inl (.inr e)
          · have := h 2 (by omega) (by omega) e; exact .inr (by omega)
    · rintro ⟨⟨g0, g1⟩, g2⟩ o o0 o1 on
      have ho : o = 0 ∨ o = 1 ∨ o = 2 := by omega
      rcases ho with rfl | rfl | rfl
      · rcases g0 with g | g
        · exact absurd g on
        · omega
      · rcases g1 with g | g
        · exact absurd g on
        · omega
      · rcases g2 with (g | g) | g
        · omega
        · exact absurd g on
        · omega
  · have hp : paired q = true := by unfold paired; simp; have := hm.dim; omega
    obtain ⟨e1, e2⟩ := change_shown hm hp hs.1 hs.2.1 hb
    rw [e1, e2]
    by_cases hle : b.s4.hi ≤ (b.get q.feature).lo
    · simp [k, hle]
      intro h; omega
    · have hlt : (b.get q.feature).lo < b.s4.hi := by omega
      cases hf : q.falls <;> simp [k, hle, hlt] <;> omega
end Go.Co
