/- CO: texts of this claim, one behind the other. -/
import Derived.Test.YtlbfmeijjgphfaaGreatCz4
set_option linter.unusedVariables false
set_option linter.unusedSimpArgs false
/- CO: values, sums. -/
set_option maxHeartbeats 16000000
set_option maxRecDepth 100000
namespace Go.Co
open Go.Am Go.Proofs
def c105_0 : ACode := .ops [⟨some 3, .box (.t 1) 4, none, []⟩,⟨some 4, .mv (.c (.int .i64 0)), none, []⟩,⟨some 5, .alloc [.bool false, .int .i64 0, .int .i64 0, .int .i64 0, .int .i64 0, .int .i64 0], none, []⟩] [0, 3, 5]
theorem r105_0 : type_of% (rr c105_0.eq_1) := rr rfl
def c105_1 : ACode := .ops [⟨some 6, .mv (.c (.int .i64 0)), none, []⟩] [0, 3, 5, 6]
theorem r105_1 : type_of% (rr c105_1.eq_1) := rr rfl
def c105_2 : ACode := .ops [⟨some 9, .mv (.c (.int .i64 0)), none, []⟩] [0, 3, 5, 6, 9]
theorem r105_2 : type_of% (rr c105_2.eq_1) := rr rfl
def c105_3 : ACode := .ops [⟨some 10, .bin .lss (.t 9) (.c (.int .i64 31)), none, []⟩] [0, 3, 5, 6, 9, 10]
theorem r105_3 : type_of% (rr c105_3.eq_1) := rr rfl
def c105_4 : ACode := .cond (.t 10) .skip (.exit 0)
theorem r105_4 : type_of% (rr c105_4.eq_1) := rr rfl
def c105_5 : ACode := .ops [⟨some 11, .mv (.t 6), none, []⟩,⟨some 12, .mv (.t 0), none, []⟩,⟨some 13, .len (.t 12), none, []⟩,⟨some 14, .bin .geq (.t 11) (.t 13), none, []⟩] [0, 3, 5, 6, 9, 14]
theorem r105_5 : type_of% (rr c105_5.eq_1) := rr rfl
def c105_6 : ACode := .cond (.t 14) (.exit 0) .skip
theorem r105_6 : type_of% (rr c105_6.eq_1) := rr rfl
def c105_7 : ACode := .seq c105_5 c105_6
theorem r105_7 : type_of% (rr c105_7.eq_1) := rr rfl
def c105_8 : ACode := .ops [⟨some 16, .mv (.t 0), none, []⟩,⟨some 17, .mv (.t 6), none, []⟩,⟨some 18, .ias (.t 16) (.t 17) 1, none, []⟩,⟨some 19, .load 1 false (.t 18), none, []⟩,⟨some 20, .call 85 [.t 19], none, []⟩,⟨some 15, .mv (.t 20), none, []⟩,⟨some 21, .ext (.t 15) 0, none, []⟩,⟨some 22, .ext (.t 15) 1, none, []⟩,⟨some 7, .alloc [.bool false, .int .i64 0, .int .i64 0, .int .i64 0, .int .i64 0, .int .i64 0], none, []⟩,⟨none, .store (.t 7) 6 (.t 21), none, [7]⟩,⟨some 8, .mv (.t 22), none, []⟩] [0, 3, 5, 6, 7, 8, 9]
theorem r105_8 : type_of% (rr c105_8.eq_1) := rr rfl
def c105_9 : ACode := .ops [⟨some 26, .mv (.t 8), none, []⟩,⟨some 27, .un .not (.t 26), none, []⟩,⟨some 25, .mv (.t 27), none, []⟩] [0, 3, 5, 6, 7, 9, 25]
theorem r105_9 : type_of% (rr c105_9.eq_1) := rr rfl
def c105_10 : ACode := .ops [⟨some 28, .build [.bool false, .int .i64 0, .int .i64 0, .int .i64 0, .int .i64 0, .int .i64 0] [], none, []⟩,⟨some 4, .mv (.c (.int .i64 (-1))), none, []⟩,⟨none, .store (.t 5) 6 (.t 28), none, [5]⟩] [4, 5]
theorem r105_10 : type_of% (rr c105_10.eq_1) := rr rfl
def c105_11 : ACode := .seq c105_10 .ret
theorem r105_11 : type_of% (rr c105_11.eq_1) := rr rfl
def c105_12 : ACode := .ops [⟨some 30, .fad (.t 7) 0, none, [7]⟩,⟨some 31, .load 1 false (.t 30), none, [7]⟩,⟨some 29, .mv (.t 31), none, []⟩] [0, 3, 5, 6, 7, 9, 29]
theorem r105_12 : type_of% (rr c105_12.eq_1) := rr rfl
def c105_13 : ACode := .ops [⟨some 32, .mv (.t 6), none, []⟩,⟨some 33, .load 6 true (.t 7), none, [7]⟩,⟨some 4, .mv (.t 32), none, []⟩,⟨none, .store (.t 5) 6 (.t 33), none, [5]⟩] [4, 5]
theorem r105_13 : type_of% (rr c105_13.eq_1) := rr rfl
def c105_14 : ACode := .seq c105_13 .ret
theorem r105_14 : type_of% (rr c105_14.eq_1) := rr rfl
def c105_15 : ACode := .ops [⟨some 35, .fad (.t 7) 2, none, [7]⟩,⟨some 36, .load 1 false (.t 35), none, [7]⟩,⟨some 37, .iad (.t 3) (.t 36) 1 4, none, [3]⟩,⟨some 38, .load 1 false (.t 37), none, [3]⟩,⟨some 39, .fad (.t 7) 3, none, [7]⟩,⟨some 40, .load 1 false (.t 39), none, [7]⟩,⟨some 41, .bin .leq (.t 38) (.t 40), none, []⟩,⟨some 34, .mv (.t 41), none, []⟩] [0, 3, 5, 7, 9, 34]
theorem r105_15 : type_of% (rr c105_15.eq_1) := rr rfl
def c105_16 : ACode := .ops [⟨some 42, .fad (.t 7) 4, none, [7]⟩,⟨some 43, .load 1 false (.t 42), none, [7]⟩,⟨some 6, .mv (.t 43), none, []⟩] [0, 3, 5, 6, 9]
theorem r105_16 : type_of% (rr c105_16.eq_1) := rr rfl
def c105_17 : ACode := .ops [⟨some 23, .fad (.t 7) 5, none, [7]⟩,⟨some 24, .load 1 false (.t 23), none, [7]⟩,⟨some 6, .mv (.t 24), none, []⟩] [0, 3, 5, 6, 9]
theorem r105_17 : type_of% (rr c105_17.eq_1) := rr rfl
def c105_18 : ACode := .cond (.t 34) c105_16 c105_17
theorem r105_18 : type_of% (rr c105_18.eq_1) := rr rfl
def c105_19 : ACode := .seq c105_15 c105_18
theorem r105_19 : type_of% (rr c105_19.eq_1) := rr rfl
def c105_20 : ACode := .cond (.t 29) c105_14 c105_19
theorem r105_20 : type_of% (rr c105_20.eq_1) := rr rfl
def c105_21 : ACode := .seq c105_12 c105_20
theorem r105_21 : type_of% (rr c105_21.eq_1) := rr rfl
def c105_22 : ACode := .cond (.t 25) c105_11 c105_21
theorem r105_22 : type_of% (rr c105_22.eq_1) := rr rfl
def c105_23 : ACode := .seq c105_9 c105_22
theorem r105_23 : type_of% (rr c105_23.eq_1) := rr rfl
def c105_24 : ACode := .block 2 c105_23
theorem r105_24 : type_of% (rr c105_24.eq_1) := rr rfl
def c105_25 : ACode := .seq c105_8 c105_24
theorem r105_25 : type_of% (rr c105_25.eq_1) := rr rfl
def c105_26 : ACode := .seq c105_7 c105_25
theorem r105_26 : type_of% (rr c105_26.eq_1) := rr rfl
def c105_27 : ACode := .block 1 c105_26
theorem r105_27 : type_of% (rr c105_27.eq_1) := rr rfl
def c105_28 : ACode := .ops [⟨some 44, .bin .add (.t 9) (.c (.int .i64 1)), none, []⟩,⟨some 9, .mv (.t 44), none, []⟩] [0, 3, 5, 6, 9]
theorem r105_28 : type_of% (rr c105_28.eq_1) := rr rfl
def c105_29 : ACode := .seq c105_27 c105_28
theorem r105_29 : type_of% (rr c105_29.eq_1) := rr rfl
def c105_30 : ACode := .seq c105_4 c105_29
theorem r105_30 : type_of% (rr c105_30.eq_1) := rr rfl
def c105_31 : ACode := .seq c105_3 c105_30
theorem r105_31 : type_of% (rr c105_31.eq_1) := rr rfl
def c105_32 : ACode := .keep [0, 3, 5, 6, 9] [3, 5] c105_31
theorem r105_32 : type_of% (rr c105_32.eq_1) := rr rfl
def c105_33 : ACode := .loop c105_32
theorem r105_33 : type_of% (rr c105_33.eq_1) := rr rfl
def c105_34 : ACode := .block 0 c105_33
theorem r105_34 : type_of% (rr c105_34.eq_1) := rr rfl
def c105_35 : ACode := .seq c105_2 c105_34
theorem r105_35 : type_of% (rr c105_35.eq_1) := rr rfl
def c105_36 : ACode := .ops [⟨some 45, .build [.bool false, .int .i64 0, .int .i64 0, .int .i64 0, .int .i64 0, .int .i64 0] [], none, []⟩,⟨some 4, .mv (.c (.int .i64 (-1))), none, []⟩,⟨none, .store (.t 5) 6 (.t 45), none, [5]⟩] [4, 5]
theorem r105_36 : type_of% (rr c105_36.eq_1) := rr rfl
def c105_37 : ACode := .seq c105_36 .ret
theorem r105_37 : type_of% (rr c105_37.eq_1) := rr rfl
def c105_38 : ACode := .seq c105_35 c105_37
theorem r105_38 : type_of% (rr c105_38.eq_1) := rr rfl
def c105_39 : ACode := .seq c105_1 c105_38
theorem r105_39 : type_of% (rr c105_39.eq_1) := rr rfl
def c105_40 : ACode := .seq c105_0 c105_39
theorem r105_40 : type_of% (rr c105_40.eq_1) := rr rfl
def a105 : AFun := ⟨2, 46, c105_40, [.t 4, .cell 5 6 true]⟩
attribute [simp] r105_0 r105_1 r105_2 r105_3 r105_4 r105_5 r105_6 r105_7 r105_8 r105_9 r105_10 r105_11 r105_12 r105_13 r105_14 r105_15 r105_16 r105_17 r105_18 r105_19 r105_20 r105_21 r105_22 r105_23 r105_24 r105_25 r105_26 r105_27 r105_28 r105_29 r105_30 r105_31 r105_32 r105_33 r105_34 r105_35 r105_36 r105_37 r105_38 r105_39 r105_40
theorem m105 : mFun Tryz.prog Tryz.f105 a105 = true := by decide +kernel
def c92_0 : ACode := .ops [⟨some 3, .box (.t 1) 4, none, []⟩,⟨some 4, .mv (.c (.int .i64 0)), none, []⟩] [0, 3]
theorem r92_0 : type_of% (rr c92_0.eq_1) := rr rfl
def c92_1 : ACode := .ops [⟨some 8, .mv (.t 0), none, []⟩,⟨some 9, .load 4 true (.t 3), none, [3]⟩,⟨some 10, .call 105 [.t 8, .t 9], none, []⟩,⟨some 7, .mv (.t 10), none, []⟩,⟨some 11, .ext (.t 7) 0, none, []⟩,⟨some 12, .ext (.t 7) 1, none, []⟩,⟨some 6, .alloc [.bool false, .int .i64 0, .int .i64 0, .int .i64 0, .int .i64 0, .int .i64 0], none, []⟩,⟨some 5, .mv (.t 11), none, []⟩,⟨none, .store (.t 6) 6 (.t 12), none, [6]⟩] [6]
theorem r92_1 : type_of% (rr c92_1.eq_1) := rr rfl
def c92_2 : ACode := .ops [⟨some 13, .fad (.t 6) 1, none, [6]⟩,⟨some 14, .load 1 false (.t 13), none, [6]⟩,⟨some 4, .mv (.t 14), none, []⟩] [4]
theorem r92_2 : type_of% (rr c92_2.eq_1) := rr rfl
def c92_3 : ACode := .seq c92_2 .ret
theorem r92_3 : type_of% (rr c92_3.eq_1) := rr rfl
def c92_4 : ACode := .seq c92_1 c92_3
theorem r92_4 : type_of% (rr c92_4.eq_1) := rr rfl
def c92_5 : ACode := .seq c92_0 c92_4
theorem r92_5 : type_of% (rr c92_5.eq_1) := rr rfl
def a92 : AFun := ⟨2, 15, c92_5, [.t 4]⟩
attribute [simp] r92_0 r92_1 r92_2 r92_3 r92_4 r92_5
theorem m92 : mFun Tryz.prog Tryz.f92 a92 = true := by decide +kernel
def c76_0 : ACode := .ops [⟨some 3, .box (.t 0) 6, none, []⟩,⟨some 5, .box (.t 2) 4, none, []⟩,⟨some 6, .mv (.c (.int .i64 0)), none, []⟩] [1, 3, 5]
theorem r76_0 : type_of% (rr c76_0.eq_1) := rr rfl
def c76_1 : ACode := .ops [⟨some 10, .mv (.t 1), none, []⟩,⟨some 11, .fad (.t 3) 2, none, [3]⟩,⟨some 12, .iad (.t 11) (.t 10) 1 3, none, [3]⟩,⟨some 13, .load 1 false (.t 12), none, [3]⟩,⟨some 7, .mv (.t 13), none, []⟩] [1, 3, 5, 7]
theorem r76_1 : type_of% (rr c76_1.eq_1) := rr rfl
def c76_2 : ACode := .ops [⟨some 14, .fad (.t 3) 5, none, [3]⟩,⟨some 15, .load 1 false (.t 14), none, [3]⟩,⟨some 16, .len (.t 15), none, []⟩,⟨some 17, .mv (.c (.int .i64 0)), none, []⟩] [1, 5, 7, 15, 16, 17]
theorem r76_2 : type_of% (rr c76_2.eq_1) := rr rfl
def c76_3 : ACode := .ops [⟨some 18, .bin .lss (.t 17) (.t 16), none, []⟩] [1, 5, 7, 15, 16, 17, 18]
theorem r76_3 : type_of% (rr c76_3.eq_1) := rr rfl
def c76_4 : ACode := .cond (.t 18) .skip (.exit 0)
theorem r76_4 : type_of% (rr c76_4.eq_1) := rr rfl
def c76_5 : ACode := .ops [⟨some 19, .ias (.t 15) (.t 17) 2, none, []⟩,⟨some 20, .load 2 true (.t 19), none, []⟩,⟨some 9, .alloc [.int .i64 0, .nils], none, []⟩,⟨none, .store (.t 9) 2 (.t 20), none, [9]⟩] [1, 5, 7, 9, 15, 16, 17]
theorem r76_5 : type_of% (rr c76_5.eq_1) := rr rfl
def c76_6 : ACode := .ops [⟨some 21, .fad (.t 9) 0, none, [9]⟩,⟨some 22, .load 1 false (.t 21), none, [9]⟩,⟨some 23, .mv (.t 1), none, []⟩,⟨some 24, .bin .eql (.t 22) (.t 23), none, []⟩] [1, 5, 7, 9, 15, 16, 17, 24]
theorem r76_6 : type_of% (rr c76_6.eq_1) := rr rfl
def c76_7 : ACode := .ops [⟨some 25, .mv (.t 7), none, []⟩,⟨some 26, .fad (.t 9) 1, none, [9]⟩,⟨some 27, .load 1 false (.t 26), none, [9]⟩,⟨some 28, .load 4 true (.t 5), none, [5]⟩,⟨some 29, .call 92 [.t 27, .t 28], none, []⟩,⟨some 30, .bin .add (.t 25) (.t 29), none, []⟩,⟨some 7, .mv (.t 30), none, []⟩] [1, 5, 7, 15, 16, 17]
theorem r76_7 : type_of% (rr c76_7.eq_1) := rr rfl
def c76_8 : ACode := .cond (.t 24) c76_7 .skip
theorem r76_8 : type_of% (rr c76_8.eq_1) := rr rfl
def c76_9 : ACode := .seq c76_6 c76_8
theorem r76_9 : type_of% (rr c76_9.eq_1) := rr rfl
def c76_10 : ACode := .seq c76_5 c76_9
theorem r76_10 : type_of% (rr c76_10.eq_1) := rr rfl
def c76_11 : ACode := .block 1 c76_10
theorem r76_11 : type_of% (rr c76_11.eq_1) := rr rfl
def c76_12 : ACode := .ops [⟨some 31, .bin .add (.t 17) (.c (.int .i64 1)), none, []⟩,⟨some 17, .mv (.t 31), none, []⟩] [1, 5, 7, 15, 16, 17]
theorem r76_12 : type_of% (rr c76_12.eq_1) := rr rfl
def c76_13 : ACode := .seq c76_11 c76_12
theorem r76_13 : type_of% (rr c76_13.eq_1) := rr rfl
def c76_14 : ACode := .seq c76_4 c76_13
theorem r76_14 : type_of% (rr c76_14.eq_1) := rr rfl
def c76_15 : ACode := .seq c76_3 c76_14
theorem r76_15 : type_of% (rr c76_15.eq_1) := rr rfl
def c76_16 : ACode := .keep [1, 5, 7, 15, 16, 17] [5] c76_15
theorem r76_16 : type_of% (rr c76_16.eq_1) := rr rfl
def c76_17 : ACode := .loop c76_16
theorem r76_17 : type_of% (rr c76_17.eq_1) := rr rfl
def c76_18 : ACode := .block 0 c76_17
theorem r76_18 : type_of% (rr c76_18.eq_1) := rr rfl
def c76_19 : ACode := .seq c76_2 c76_18
theorem r76_19 : type_of% (rr c76_19.eq_1) := rr rfl
def c76_20 : ACode := .ops [⟨some 32, .mv (.t 7), none, []⟩,⟨some 6, .mv (.t 32), none, []⟩] [6]
theorem r76_20 : type_of% (rr c76_20.eq_1) := rr rfl
def c76_21 : ACode := .seq c76_20 .ret
theorem r76_21 : type_of% (rr c76_21.eq_1) := rr rfl
def c76_22 : ACode := .seq c76_19 c76_21
theorem r76_22 : type_of% (rr c76_22.eq_1) := rr rfl
def c76_23 : ACode := .seq c76_1 c76_22
theorem r76_23 : type_of% (rr c76_23.eq_1) := rr rfl
def c76_24 : ACode := .seq c76_0 c76_23
theorem r76_24 : type_of% (rr c76_24.eq_1) := rr rfl
def a76 : AFun := ⟨3, 33, c76_24, [.t 6]⟩
attribute [simp] r76_0 r76_1 r76_2 r76_3 r76_4 r76_5 r76_6 r76_7 r76_8 r76_9 r76_10 r76_11 r76_12 r76_13 r76_14 r76_15 r76_16 r76_17 r76_18 r76_19 r76_20 r76_21 r76_22 r76_23 r76_24
theorem m76 : mFun Tryz.prog Tryz.f76 a76 = true := by decide +kernel
def c46_0 : ACode := .ops [⟨some 3, .box (.t 0) 6, none, []⟩,⟨some 5, .box (.t 2) 4, none, []⟩,⟨some 6, .mv (.c (.int .i64 0)), none, []⟩] [1, 3, 5]
theorem r46_0 : type_of% (rr c46_0.eq_1) := rr rfl
def c46_1 : ACode := .ops [⟨some 7, .load 6 true (.t 3), none, [3]⟩,⟨some 8, .call 43 [.t 7], none, []⟩,⟨some 9, .un .not (.t 8), none, []⟩,⟨some 10, .mv (.t 9), none, []⟩,⟨some 11, .mv (.t 1), some (10, false), []⟩,⟨some 12, .bin .lss (.t 11) (.c (.int .i64 0)), some (10, false), []⟩,⟨some 13, .pick (.t 10) (.c (.bool true)) (.t 12), none, []⟩,⟨some 14, .mv (.t 13), none, []⟩,⟨some 15, .mv (.t 1), some (14, false), []⟩,⟨some 16, .fad (.t 3) 1, some (14, false), [3]⟩,⟨some 17, .load 1 false (.t 16), some (14, false), [3]⟩,⟨some 18, .bin .geq (.t 15) (.t 17), some (14, false), []⟩,⟨some 19, .pick (.t 14) (.c (.bool true)) (.t 18), none, []⟩] [1, 3, 5, 19]
theorem r46_1 : type_of% (rr c46_1.eq_1) := rr rfl
def c46_2 : ACode := .ops [⟨some 6, .mv (.c (.int .i64 0)), none, []⟩] [6]
theorem r46_2 : type_of% (rr c46_2.eq_1) := rr rfl
def c46_3 : ACode := .seq c46_2 .ret
theorem r46_3 : type_of% (rr c46_3.eq_1) := rr rfl
def c46_4 : ACode := .cond (.t 19) c46_3 .skip
theorem r46_4 : type_of% (rr c46_4.eq_1) := rr rfl
def c46_5 : ACode := .seq c46_1 c46_4
theorem r46_5 : type_of% (rr c46_5.eq_1) := rr rfl
def c46_6 : ACode := .ops [⟨some 20, .load 6 true (.t 3), none, [3]⟩,⟨some 21, .mv (.t 1), none, []⟩,⟨some 22, .load 4 true (.t 5), none, [5]⟩,⟨some 23, .call 76 [.t 20, .t 21, .t 22], none, []⟩,⟨some 6, .mv (.t 23), none, []⟩] [6]
theorem r46_6 : type_of% (rr c46_6.eq_1) := rr rfl
def c46_7 : ACode := .seq c46_6 .ret
theorem r46_7 : type_of% (rr c46_7.eq_1) := rr rfl
def c46_8 : ACode := .seq c46_5 c46_7
theorem r46_8 : type_of% (rr c46_8.eq_1) := rr rfl
def c46_9 : ACode := .seq c46_0 c46_8
theorem r46_9 : type_of% (rr c46_9.eq_1) := rr rfl
def a46 : AFun := ⟨3, 24, c46_9, [.t 6]⟩
attribute [simp] r46_0 r46_1 r46_2 r46_3 r46_4 r46_5 r46_6 r46_7 r46_8 r46_9
theorem m46 : mFun Tryz.prog Tryz.f46 a46 = true := by decide +kernel
def c73_0 : ACode := .ops [⟨some 2, .box (.t 0) 2, none, []⟩,⟨some 3, .mv (.c (.bool false)), none, []⟩] [1, 2]
theorem r73_0 : type_of% (rr c73_0.eq_1) := rr rfl
def c73_1 : ACode := .ops [⟨some 4, .fad (.t 2) 0, none, [2]⟩,⟨some 5, .load 1 false (.t 4), none, [2]⟩,⟨some 6, .bin .lss (.t 5) (.c (.int .i64 0)), none, []⟩,⟨some 7, .mv (.t 6), none, []⟩,⟨some 8, .fad (.t 2) 0, some (7, false), [2]⟩,⟨some 9, .load 1 false (.t 8), some (7, false), [2]⟩,⟨some 10, .fad (.t 1) 1, some (7, false), []⟩,⟨some 11, .load 1 false (.t 10), some (7, false), []⟩,⟨some 12, .bin .geq (.t 9) (.t 11), some (7, false), []⟩,⟨some 13, .pick (.t 7) (.c (.bool true)) (.t 12), none, []⟩,⟨some 14, .mv (.t 13), none, []⟩,⟨some 15, .fad (.t 2) 1, some (14, false), [2]⟩,⟨some 16, .load 1 false (.t 15), some (14, false), [2]⟩,⟨some 17, .fad (.t 1) 0, some (14, false), []⟩,⟨some 18, .load 1 false (.t 17), some (14, false), []⟩,⟨some 19, .call 74 [.t 16, .t 18], some (14, false), []⟩,⟨some 20, .un .not (.t 19), some (14, false), []⟩,⟨some 21, .pick (.t 14) (.c (.bool true)) (.t 20), none, []⟩,⟨some 3, .mv (.t 21), none, []⟩] [3]
theorem r73_1 : type_of% (rr c73_1.eq_1) := rr rfl
def c73_2 : ACode := .seq c73_1 .ret
theorem r73_2 : type_of% (rr c73_2.eq_1) := rr rfl
def c73_3 : ACode := .seq c73_0 c73_2
theorem r73_3 : type_of% (rr c73_3.eq_1) := rr rfl
def a73 : AFun := ⟨2, 22, c73_3, [.t 3]⟩
attribute [simp] r73_0 r73_1 r73_2 r73_3
theorem m73 : mFun Tryz.prog Tryz.f73 a73 = true := by decide +kernel
def c90_0 : ACode := .ops [⟨some 4, .mv (.c (.int .i64 0)), none, []⟩] [0, 1]
theorem r90_0 : type_of% (rr c90_0.eq_1) := rr rfl
def c90_1 : ACode := .ops [⟨some 6, .mv (.t 0), none, []⟩,⟨some 7, .len (.t 6), none, []⟩,⟨some 8, .mv (.c (.int .i64 0)), none, []⟩] [0, 1, 7, 8]
theorem r90_1 : type_of% (rr c90_1.eq_1) := rr rfl
def c90_2 : ACode := .ops [⟨some 9, .bin .lss (.t 8) (.t 7), none, []⟩] [0, 1, 7, 8, 9]
theorem r90_2 : type_of% (rr c90_2.eq_1) := rr rfl
def c90_3 : ACode := .cond (.t 9) .skip (.exit 0)
theorem r90_3 : type_of% (rr c90_3.eq_1) := rr rfl
def c90_4 : ACode := .ops [⟨some 10, .mv (.t 8), none, []⟩,⟨some 5, .mv (.t 10), none, []⟩] [0, 1, 5, 7, 8]
theorem r90_4 : type_of% (rr c90_4.eq_1) := rr rfl
def c90_5 : ACode := .ops [⟨some 11, .mv (.t 1), none, []⟩,⟨some 12, .mv (.t 0), none, []⟩,⟨some 13, .mv (.t 5), none, []⟩,⟨some 14, .ias (.t 12) (.t 13) 2, none, []⟩,⟨some 15, .load 2 true (.t 14), none, []⟩,⟨some 16, .dyn (.t 11) [.t 15], none, []⟩] [0, 1, 5, 7, 8, 16]
theorem r90_5 : type_of% (rr c90_5.eq_1) := rr rfl
def c90_6 : ACode := .ops [⟨some 17, .mv (.t 5), none, []⟩,⟨some 4, .mv (.t 17), none, []⟩] [4]
theorem r90_6 : type_of% (rr c90_6.eq_1) := rr rfl
def c90_7 : ACode := .seq c90_6 .ret
theorem r90_7 : type_of% (rr c90_7.eq_1) := rr rfl
def c90_8 : ACode := .cond (.t 16) c90_7 .skip
theorem r90_8 : type_of% (rr c90_8.eq_1) := rr rfl
def c90_9 : ACode := .seq c90_5 c90_8
theorem r90_9 : type_of% (rr c90_9.eq_1) := rr rfl
def c90_10 : ACode := .seq c90_4 c90_9
theorem r90_10 : type_of% (rr c90_10.eq_1) := rr rfl
def c90_11 : ACode := .block 1 c90_10
theorem r90_11 : type_of% (rr c90_11.eq_1) := rr rfl
def c90_12 : ACode := .ops [⟨some 18, .bin .add (.t 8) (.c (.int .i64 1)), none, []⟩,⟨some 8, .mv (.t 18), none, []⟩] [0, 1, 7, 8]
theorem r90_12 : type_of% (rr c90_12.eq_1) := rr rfl
def c90_13 : ACode := .seq c90_11 c90_12
theorem r90_13 : type_of% (rr c90_13.eq_1) := rr rfl
def c90_14 : ACode := .seq c90_3 c90_13
theorem r90_14 : type_of% (rr c90_14.eq_1) := rr rfl
def c90_15 : ACode := .seq c90_2 c90_14
theorem r90_15 : type_of% (rr c90_15.eq_1) := rr rfl
def c90_16 : ACode := .keep [0, 1, 7, 8] [] c90_15
theorem r90_16 : type_of% (rr c90_16.eq_1) := rr rfl
def c90_17 : ACode := .loop c90_16
theorem r90_17 : type_of% (rr c90_17.eq_1) := rr rfl
def c90_18 : ACode := .block 0 c90_17
theorem r90_18 : type_of% (rr c90_18.eq_1) := rr rfl
def c90_19 : ACode := .seq c90_1 c90_18
theorem r90_19 : type_of% (rr c90_19.eq_1) := rr rfl
def c90_20 : ACode := .ops [⟨some 4, .mv (.c (.int .i64 (-1))), none, []⟩] [4]
theorem r90_20 : type_of% (rr c90_20.eq_1) := rr rfl
def c90_21 : ACode := .seq c90_20 .ret
theorem r90_21 : type_of% (rr c90_21.eq_1) := rr rfl
def c90_22 : ACode := .seq c90_19 c90_21
theorem r90_22 : type_of% (rr c90_22.eq_1) := rr rfl
def c90_23 : ACode := .seq c90_0 c90_22
theorem r90_23 : type_of% (rr c90_23.eq_1) := rr rfl
def a90 : AFun := ⟨2, 19, c90_23, [.t 4]⟩
attribute [simp] r90_0 r90_1 r90_2 r90_3 r90_4 r90_5 r90_6 r90_7 r90_8 r90_9 r90_10 r90_11 r90_12 r90_13 r90_14 r90_15 r90_16 r90_17 r90_18 r90_19 r90_20 r90_21 r90_22 r90_23
theorem m90 : mFun Tryz.prog Tryz.f90 a90 = true := by decide +kernel
def c72_0 : ACode := .ops [⟨some 4, .mv (.c (.bool false)), none, []⟩] [0, 1]
theorem r72_0 : type_of% (rr c72_0.eq_1) := rr rfl
def c72_1 : ACode := .ops [⟨some 5, .mv (.t 0), none, []⟩,⟨some 6, .mv (.t 1), none, []⟩,⟨some 7, .call 90 [.t 5, .t 6], none, []⟩,⟨some 8, .bin .geq (.t 7) (.c (.int .i64 0)), none, []⟩,⟨some 4, .mv (.t 8), none, []⟩] [4]
theorem r72_1 : type_of% (rr c72_1.eq_1) := rr rfl
def c72_2 : ACode := .seq c72_1 .ret
theorem r72_2 : type_of% (rr c72_2.eq_1) := rr rfl
def c72_3 : ACode := .seq c72_0 c72_2
theorem r72_3 : type_of% (rr c72_3.eq_1) := rr rfl
def a72 : AFun := ⟨2, 9, c72_3, [.t 4]⟩
attribute [simp] r72_0 r72_1 r72_2 r72_3
theorem m72 : mFun Tryz.prog Tryz.f72 a72 = true := by decide +kernel
def c43_0 : ACode := .ops [⟨some 1, .box (.t 0) 6, none, []⟩,⟨some 2, .mv (.c (.bool false)), none, []⟩] [1]
theorem r43_0 : type_of% (rr c43_0.eq_1) := rr rfl
def c43_1 : ACode := .ops [⟨some 5, .fad (.t 1) 0, none, [1]⟩,⟨some 6, .load 1 false (.t 5), none, [1]⟩,⟨some 7, .bin .lss (.t 6) (.c (.int .i64 1)), none, []⟩,⟨some 8, .mv (.t 7), none, []⟩,⟨some 9, .fad (.t 1) 0, some (8, false), [1]⟩,⟨some 10, .load 1 false (.t 9), some (8, false), [1]⟩,⟨some 11, .bin .gtr (.t 10) (.c (.int .i64 4)), some (8, false), []⟩,⟨some 12, .pick (.t 8) (.c (.bool true)) (.t 11), none, []⟩,⟨some 13, .mv (.t 12), none, []⟩,⟨some 14, .fad (.t 1) 1, some (13, false), [1]⟩,⟨some 15, .load 1 false (.t 14), some (13, false), [1]⟩,⟨some 16, .bin .lss (.t 15) (.c (.int .i64 1)), some (13, false), []⟩,⟨some 17, .pick (.t 13) (.c (.bool true)) (.t 16), none, []⟩,⟨some 18, .mv (.t 17), none, []⟩,⟨some 19, .fad (.t 1) 1, some (18, false), [1]⟩,⟨some 20, .load 1 false (.t 19), some (18, false), [1]⟩,⟨some 21, .bin .gtr (.t 20) (.c (.int .i64 3)), some (18, false), []⟩,⟨some 22, .pick (.t 18) (.c (.bool true)) (.t 21), none, []⟩,⟨some 23, .mv (.t 22), none, []⟩,⟨some 24, .fad (.t 1) 5, some (23, false), [1]⟩,⟨some 25, .load 1 false (.t 24), some (23, false), [1]⟩,⟨some 26, .len (.t 25), some (23, false), []⟩,⟨some 27, .bin .gtr (.t 26) (.c (.int .i64 8)), some (23, false), []⟩,⟨some 28, .pick (.t 23) (.c (.bool true)) (.t 27), none, []⟩] [1, 28]
theorem r43_1 : type_of% (rr c43_1.eq_1) := rr rfl
def c43_2 : ACode := .ops [⟨some 2, .mv (.c (.bool false)), none, []⟩] [2]
theorem r43_2 : type_of% (rr c43_2.eq_1) := rr rfl
def c43_3 : ACode := .seq c43_2 .ret
theorem r43_3 : type_of% (rr c43_3.eq_1) := rr rfl
def c43_4 : ACode := .cond (.t 28) c43_3 .skip
theorem r43_4 : type_of% (rr c43_4.eq_1) := rr rfl
def c43_5 : ACode := .seq c43_1 c43_4
theorem r43_5 : type_of% (rr c43_5.eq_1) := rr rfl
def c43_6 : ACode := .ops [⟨some 29, .fad (.t 1) 2, none, [1]⟩,⟨some 30, .load 3 true (.t 29), none, [1]⟩,⟨some 31, .mv (.c (.int .i64 0)), none, []⟩] [1, 30, 31]
theorem r43_6 : type_of% (rr c43_6.eq_1) := rr rfl
def c43_7 : ACode := .ops [⟨some 32, .bin .lss (.t 31) (.c (.int .i64 3)), none, []⟩] [1, 30, 31, 32]
theorem r43_7 : type_of% (rr c43_7.eq_1) := rr rfl
def c43_8 : ACode := .cond (.t 32) .skip (.exit 0)
theorem r43_8 : type_of% (rr c43_8.eq_1) := rr rfl
def c43_9 : ACode := .ops [⟨some 33, .mv (.t 31), none, []⟩,⟨some 34, .idx (.t 30) (.t 31) 1 3 false, none, []⟩,⟨some 3, .mv (.t 33), none, []⟩,⟨some 4, .mv (.t 34), none, []⟩] [1, 3, 4, 30, 31]
theorem r43_9 : type_of% (rr c43_9.eq_1) := rr rfl
def c43_10 : ACode := .ops [⟨some 35, .mv (.t 4), none, []⟩,⟨some 36, .call 71 [.t 35, .c (.int .i64 32)], none, []⟩,⟨some 37, .un .not (.t 36), none, []⟩,⟨some 38, .mv (.t 37), none, []⟩,⟨some 39, .mv (.t 3), some (38, false), []⟩,⟨some 40, .fad (.t 1) 1, some (38, false), [1]⟩,⟨some 41, .load 1 false (.t 40), some (38, false), [1]⟩,⟨some 42, .bin .geq (.t 39) (.t 41), some (38, false), []⟩,⟨some 43, .mv (.t 42), some (38, false), []⟩,⟨some 44, .mv (.t 4), some (43, true), []⟩,⟨some 45, .bin .neq (.t 44) (.c (.int .i64 0)), some (43, true), []⟩,⟨some 46, .pick (.t 43) (.t 45) (.c (.bool false)), some (38, false), []⟩,⟨some 47, .pick (.t 38) (.c (.bool true)) (.t 46), none, []⟩] [1, 30, 31, 47]
theorem r43_10 : type_of% (rr c43_10.eq_1) := rr rfl
def c43_11 : ACode := .ops [⟨some 2, .mv (.c (.bool false)), none, []⟩] [2]
theorem r43_11 : type_of% (rr c43_11.eq_1) := rr rfl
def c43_12 : ACode := .seq c43_11 .ret
theorem r43_12 : type_of% (rr c43_12.eq_1) := rr rfl
def c43_13 : ACode := .cond (.t 47) c43_12 .skip
theorem r43_13 : type_of% (rr c43_13.eq_1) := rr rfl
def c43_14 : ACode := .seq c43_10 c43_13
theorem r43_14 : type_of% (rr c43_14.eq_1) := rr rfl
def c43_15 : ACode := .seq c43_9 c43_14
theorem r43_15 : type_of% (rr c43_15.eq_1) := rr rfl
def c43_16 : ACode := .block 1 c43_15
theorem r43_16 : type_of% (rr c43_16.eq_1) := rr rfl
def c43_17 : ACode := .ops [⟨some 48, .bin .add (.t 31) (.c (.int .i64 1)), none, []⟩,⟨some 31, .mv (.t 48), none, []⟩] [1, 30, 31]
theorem r43_17 : type_of% (rr c43_17.eq_1) := rr rfl
def c43_18 : ACode := .seq c43_16 c43_17
theorem r43_18 : type_of% (rr c43_18.eq_1) := rr rfl
def c43_19 : ACode := .seq c43_8 c43_18
theorem r43_19 : type_of% (rr c43_19.eq_1) := rr rfl
def c43_20 : ACode := .seq c43_7 c43_19
theorem r43_20 : type_of% (rr c43_20.eq_1) := rr rfl
def c43_21 : ACode := .keep [1, 30, 31] [1] c43_20
theorem r43_21 : type_of% (rr c43_21.eq_1) := rr rfl
def c43_22 : ACode := .loop c43_21
theorem r43_22 : type_of% (rr c43_22.eq_1) := rr rfl
def c43_23 : ACode := .block 0 c43_22
theorem r43_23 : type_of% (rr c43_23.eq_1) := rr rfl
def c43_24 : ACode := .seq c43_6 c43_23
theorem r43_24 : type_of% (rr c43_24.eq_1) := rr rfl
def c43_25 : ACode := .ops [⟨some 49, .fad (.t 1) 5, none, [1]⟩,⟨some 50, .load 1 false (.t 49), none, [1]⟩,⟨some 51, .clo 73 [.t 1], none, [1]⟩,⟨some 52, .call 72 [.t 50, .t 51], none, []⟩,⟨some 53, .un .not (.t 52), none, []⟩,⟨some 2, .mv (.t 53), none, []⟩] [2]
theorem r43_25 : type_of% (rr c43_25.eq_1) := rr rfl
def c43_26 : ACode := .seq c43_25 .ret
theorem r43_26 : type_of% (rr c43_26.eq_1) := rr rfl
def c43_27 : ACode := .seq c43_24 c43_26
theorem r43_27 : type_of% (rr c43_27.eq_1) := rr rfl
def c43_28 : ACode := .seq c43_5 c43_27
theorem r43_28 : type_of% (rr c43_28.eq_1) := rr rfl
def c43_29 : ACode := .seq c43_0 c43_28
theorem r43_29 : type_of% (rr c43_29.eq_1) := rr rfl
def a43 : AFun := ⟨1, 54, c43_29, [.t 2]⟩
attribute [simp] r43_0 r43_1 r43_2 r43_3 r43_4 r43_5 r43_6 r43_7 r43_8 r43_9 r43_10 r43_11 r43_12 r43_13 r43_14 r43_15 r43_16 r43_17 r43_18 r43_19 r43_20 r43_21 r43_22 r43_23 r43_24 r43_25 r43_26 r43_27 r43_28 r43_29
theorem m43 : mFun Tryz.prog Tryz.f43 a43 = true := by decide +kernel
@[simp high] theorem rd_point (p : Point) (f : Int) (h0 : 0 ≤ f) (h : f < 4) : rd [.int .i64 p.p0, .int .i64 p.p1, .int .i64 p.p2, .int .i64 p.p3] f.toNat 1 false = some (.int .i64 (p.get f)) := by
  have hf : f = 0 ∨ f = 1 ∨ f = 2 ∨ f = 3 := by omega
  rcases hf with rfl | rfl | rfl | rfl <;> rfl
@[simp high] theorem rd_bias (a b : Int) (x : Bias) (y : AV) (c : Int) (h0 : 0 ≤ c) (h : c < 3) : rd [.int .i64 a, .int .i64 b, .int .i64 x.b0, .int .i64 x.b1, .int .i64 x.b2, y] (2 + c.toNat) 1 false = some (.int .i64 (x.get c)) := by
  have hc : c = 0 ∨ c = 1 ∨ c = 2 := by omega
  rcases hc with rfl | rfl | rfl <;> rfl
theorem rd_tree (l : List Tree) (i : Nat) (h : i < l.length) : rd (encL l) (i * 2) 2 true = some (.agg [.int .i64 l[i].cls, .lst l[i].nodes.length (encL l[i].nodes)]) := rd_row l i h
noncomputable def End (l : List Word) (p : Point) : Option (Int × Node) := Part (∃ d, RT l d) ((leafOf l p : Int), ndAt l (leafOf l p))
noncomputable def ValueC (l : List Word) (p : Point) : Option Int := Part (∃ d, RT l d) (valueAt l p)
theorem runs_end (l : List Word) (p : Point) (c : Int × Node) (h : End l p = some c) : Runs (tbl [(85, sp1 Unpack)]) a105 [Arg.enc l, Arg.enc p] (Arg.enc c) := by
  obtain ⟨⟨d, hr⟩, rfl⟩ := part_some h
  refine ⟨rfl, fun g => run_def ?_⟩
  unfold a105
  have hp := hr.pos
  have hle := hr.le
  have b3 : l.length ≤ maxN := by unfold maxN; omega
  simp -implicitDefEqProofs [b3]
  refine run_while (c := c105_31) (fun m s => ∃ (i j : Nat) (g : Nat → Nat), i < l.length ∧ l.length ≤ m + i ∧ j + m = 31 ∧ walk l p m i = leafOf l p ∧ s = ⟨[(0, .lst l.length (encL l)), (3, .ptr 3 (g 3) 0), (5, .ptr 5 (g 5) 0), (6, .int .i64 i), (9, .int .i64 j)],
    [(3, ⟨[.int .i64 p.p0, .int .i64 p.p1, .int .i64 p.p2, .int .i64 p.p3], false, 0⟩), (5, ⟨[.bool false, .int .i64 0, .int .i64 0, .int .i64 0, .int .i64 0, .int .i64 0], false, 0⟩)], g⟩) 31 ⟨0, 0, bump 5 (bump 3 g), by omega, by omega, by omega, rfl, by simp⟩ ?_
  rintro m s ⟨i, j, g, h1, h2, h3, h4, rfl⟩
  have hU := unpack_at hr h1
  have e1 : (j : Int) < 31 := by omega
  have e2 : ¬ (l.length : Int) ≤ i := by omega
  have w1 : IntKind.i64.wrap ((j : Int) + 1) = (j : Int) + 1 := wrap64 (by omega) (by omega)
  obtain ⟨m, rfl⟩ : ∃ n, m = n + 1 := ⟨m - 1, by omega⟩
  rw [walk] at h4
  cases hl : (ndAt l i).leaf
  case true =>
    rw [hl] at h4
    simp only [if_true] at h4
    simp -implicitDefEqProofs [h1, e1, e2, b3, rd_words, hU, hl, w1]
    rw [← h4, hl]
    simp
  case false =>
    rw [hl] at h4
    simp only [Bool.false_eq_true, if_false] at h4
    have ha := hr.at h1 hl
    have hn := nxt_lt hr h1 hl p
    have hf := hr.feature h1 hl
    have f1 := hf.1
    have f2 := hf.2
    by_cases hc : p.get (ndAt l i).feature ≤ (ndAt l i).cut
    case pos =>
      simp -implicitDefEqProofs [h1, e1, e2, b3, rd_words, hU, hl, w1, f1, f2, hc]
      have he : (nxt (ndAt l i) p : Int) = (ndAt l i).left := by unfold nxt; rw [if_pos hc]; omega
      exact ⟨m, by omega, _, hn.2, by omega, j + 1, by omega, h4, he.symm, by omega⟩
    case neg =>
      simp -implicitDefEqProofs [h1, e1, e2, b3, rd_words, hU, hl, w1, f1, f2, hc]
      have he : (nxt (ndAt l i) p : Int) = (ndAt l i).right := by unfold nxt; rw [if_neg hc]; omega
      exact ⟨m, by omega, _, hn.2, by omega, j + 1, by omega, h4, he.symm, by omega⟩
theorem c_end : Contract Tryz.prog 105 (sp2 End) :=
  contract_of_runs mixed (tbl_cons c_Unpack tbl_nil) Tryz.func105 m105 (sp2_runs runs_end)
theorem runs_Value (l : List Word) (p : Point) (c : Int) (h : ValueC l p = some c) : Runs (tbl [(105, sp2 End)]) a92 [Arg.enc l, Arg.enc p] (Arg.enc c) := by
  obtain ⟨hr, rfl⟩ := part_some h
  refine ⟨rfl, fun g => run_def ?_⟩
  unfold a92
  simp -implicitDefEqProofs [End, part_of hr, valueAt]
theorem c_Value : Contract Tryz.prog 92 (sp2 ValueC) :=
  contract_of_runs mixed (tbl_cons c_end tbl_nil) Tryz.func92 m92 (sp2_runs runs_Value)
noncomputable def EvalC (m : Model) (c : Int) (p : Point) : Option Int := Part (RM m ∧ 0 ≤ c ∧ c < 3) (evalM m c p)
theorem runs_eval (m : Model) (c : Int) (p : Point) (r : Int) (h : EvalC m c p = some r) : Runs (tbl [(92, sp2 ValueC)]) a76 [Arg.enc m, Arg.enc c, Arg.enc p] (Arg.enc r) := by
  obtain ⟨⟨hr, h0, h3⟩, rfl⟩ := part_some h
  refine ⟨rfl, fun g => run_def ?_⟩
  unfold a76
  have hle := hr.trees
  have b3 : m.trees.length ≤ maxN := by unfold maxN; omega
  simp -implicitDefEqProofs [b3, h0, h3]
  refine run_while (c := c76_15) (fun n s => ∃ (i : Nat) (g : Nat → Nat), i + n = m.trees.length ∧ s = ⟨[(1, .int .i64 c), (5, .ptr 5 (g 5) 0), (7, .int .i64 ((m.trees.take i).foldl (evalF c p) (m.bias.get c))), (15, .lst m.trees.length (encL m.trees)), (16, .int .i64 m.trees.length), (17, .int .i64 i)],
    [(5, ⟨[.int .i64 p.p0, .int .i64 p.p1, .int .i64 p.p2, .int .i64 p.p3], false, 0⟩)], g⟩) m.trees.length ⟨0, bump 5 (bump 3 g), by omega, by simp⟩ ?_
  rintro n s ⟨i, g, hi, rfl⟩
  by_cases h1 : i < m.trees.length
  case pos =>
    have w1 : IntKind.i64.wrap ((i : Int) + 1) = (i : Int) + 1 := wrap64 (by omega) (by omega)
    have hrow := rd_tree m.trees i h1
    have hrt := hr.rt (List.getElem_mem h1)
    have hV : ValueC m.trees[i].nodes p = some (valueAt m.trees[i].nodes p) := part_of ⟨_, hrt⟩ _
    have hb := evalF_le (c := c) (p := p) (m.trees.take (i + 1)) (m.bias.get c) (fun t ht => ⟨_, hr.rt (List.mem_of_mem_take ht)⟩)
    have hb2 := of_fits (Bias.get_fits hr c)
    have hs : (m.trees.take (i + 1)).foldl (evalF c p) (m.bias.get c) = evalF c p ((m.trees.take i).foldl (evalF c p) (m.bias.get c)) m.trees[i] := by
      rw [List.take_succ_eq_append_getElem h1, List.foldl_append]
      rfl
    have hl : (m.trees.take (i + 1)).length ≤ 8 := by simp; omega
    rw [hs] at hb
    rw [← hs] at hb
    by_cases hc : m.trees[i].cls = c
    case pos =>
      have hs2 : (m.trees.take (i + 1)).foldl (evalF c p) (m.bias.get c) = (m.trees.take i).foldl (evalF c p) (m.bias.get c) + valueAt m.trees[i].nodes p := by rw [hs, evalF, if_pos hc]
      have w2 : IntKind.i64.wrap ((m.trees.take i).foldl (evalF c p) (m.bias.get c) + valueAt m.trees[i].nodes p) = (m.trees.take (i + 1)).foldl (evalF c p) (m.bias.get c) := by rw [← hs2]; exact wrap64 (by omega) (by omega)
      simp -implicitDefEqProofs [h1, hrow, hc, hV, w1, w2]
      exact ⟨n - 1, by omega, i + 1, by omega, rfl, by omega⟩
    case neg =>
      have hs2 : (m.trees.take (i + 1)).foldl (evalF c p) (m.bias.get c) = (m.trees.take i).foldl (evalF c p) (m.bias.get c) := by rw [hs, evalF, if_neg hc]
      simp -implicitDefEqProofs [h1, hrow, hc, hV, w1]
      exact ⟨n - 1, by omega, i + 1, by omega, hs2.symm, by omega⟩
  case neg =>
    have hil : i = m.trees.length := by omega
    subst hil
    simp -implicitDefEqProofs [h1, evalM]
theorem c_eval : Contract Tryz.prog 76 (sp3 EvalC) :=
  contract_of_runs mixed (tbl_cons c_Value tbl_nil) Tryz.func76 m76 (sp3_runs runs_eval)
def okTree (m : Model) (t : Tree) : Prop := 0 ≤ t.cls ∧ t.cls < m.classes ∧ RT t.nodes m.dim
@[simp] theorem dec_ref_model (m : Model) : (Arg.dec (.ipt 0 [.int .i64 m.dim, .int .i64 m.classes, .int .i64 m.bias.b0, .int .i64 m.bias.b1, .int .i64 m.bias.b2, .lst m.trees.length (encL m.trees)]) : Option (Ref Model)) = some ⟨m⟩ := Arg.dec_enc (⟨m⟩ : Ref Model)
noncomputable def Right1 (t : Tree) (m : Ref Model) : Option Bool := Part (okTree m.v t) false
theorem runs_Right1 (t : Tree) (m : Ref Model) (c : Bool) (h : Right1 t m = some c) : Runs (tbl [(74, sp2 TreeRight)]) a73 [Arg.enc t, Arg.enc m] (Arg.enc c) := by
  obtain ⟨⟨h0, h1, hr⟩, rfl⟩ := part_some h
  obtain ⟨m⟩ := m
  simp only at h0 h1 hr
  refine ⟨rfl, fun g => run_def ?_⟩
  unfold a73
  have e0 : ¬ t.cls < 0 := by omega
  have e1 : ¬ m.classes ≤ t.cls := by omega
  have hT : TreeRight t.nodes m.dim = some true := part_of hr _
  simp -implicitDefEqProofs [e0, e1, hT]
theorem c_Right1 : Contract Tryz.prog 73 (sp2 Right1) :=
  contract_of_runs mixed (tbl_cons c_tRight tbl_nil) Tryz.func73 m73 (sp2_runs runs_Right1)
structure CloR where
  m : Model
instance : Arg CloR where
  enc r := .clo 73 [.ipt 0 (Row.enc r.m)]
  dec x := match x with
    | .clo f [.ipt 0 xs] => if f = 73 then (Row.dec xs).map CloR.mk else none
    | _ => none
  dec_enc r := by simp only [if_true, Row.dec_enc]; rfl
  enc_dec x r h := by
    split at h
    · split at h
      · rename_i he
        rw [Option.map_eq_some_iff] at h
        obtain ⟨a, ha, rfl⟩ := h
        rw [Row.enc_dec _ _ ha, he]
      · cases h
    · cases h
@[simp] theorem enc_clor (r : CloR) : Arg.enc r = .clo 73 [.ipt 0 (Row.enc r.m)] := rfl
@[simp] theorem dec_clor (m : Model) : (Arg.dec (.clo 73 [.ipt 0 [.int .i64 m.dim, .int .i64 m.classes, .int .i64 m.bias.b0, .int .i64 m.bias.b1, .int .i64 m.bias.b2, .lst m.trees.length (encL m.trees)]]) : Option CloR) = some ⟨m⟩ := Arg.dec_enc (⟨m⟩ : CloR)
noncomputable def IndexTrees (l : List Tree) (r : CloR) : Option Int := Part (l.length ≤ 8 ∧ ∀ t ∈ l, okTree r.m t) (-1)
theorem runs_IndexTrees (l : List Tree) (r : CloR) (c : Int) (h : IndexTrees l r = some c) : Runs (tbl [(73, sp2 Right1)]) a90 [Arg.enc l, Arg.enc r] (Arg.enc c) := by
  obtain ⟨⟨hle, hr⟩, rfl⟩ := part_some h
  obtain ⟨m⟩ := r
  simp only at hr
  refine ⟨rfl, fun g => run_def ?_⟩
  unfold a90
  have b3 : l.length ≤ maxN := by unfold maxN; omega
  simp -implicitDefEqProofs [b3]
  refine run_while (c := c90_15) (fun n s => ∃ (i : Nat), i + n = l.length ∧ s = ⟨[(0, .lst l.length (encL l)), (1, Arg.enc (⟨m⟩ : CloR)), (7, .int .i64 l.length), (8, .int .i64 i)], [], g⟩) l.length ⟨0, by omega, by simp⟩ ?_
  rintro n s ⟨i, hi, rfl⟩
  by_cases h1 : i < l.length
  case pos =>
    have w1 : IntKind.i64.wrap ((i : Int) + 1) = (i : Int) + 1 := wrap64 (by omega) (by omega)
    have hrow := rd_tree l i h1
    have hR : Right1 ⟨l[i].cls, l[i].nodes⟩ ⟨m⟩ = some false := part_of (hr _ (List.getElem_mem h1)) _
    simp -implicitDefEqProofs [h1, hrow, hR, w1]
    exact ⟨n - 1, by omega, i + 1, by omega, by omega⟩
  case neg =>
    simp -implicitDefEqProofs [h1]
theorem c_IndexTrees : Contract Tryz.prog 90 (sp2 IndexTrees) :=
  contract_of_runs mixed (tbl_cons c_Right1 tbl_nil) Tryz.func90 m90 (sp2_runs runs_IndexTrees)
noncomputable def ContainsTrees (l : List Tree) (r : CloR) : Option Bool := Part (l.length ≤ 8 ∧ ∀ t ∈ l, okTree r.m t) false
theorem runs_ContainsTrees (l : List Tree) (r : CloR) (c : Bool) (h : ContainsTrees l r = some c) : Runs (tbl [(90, sp2 IndexTrees)]) a72 [Arg.enc l, Arg.enc r] (Arg.enc c) := by
  obtain ⟨hr, rfl⟩ := part_some h
  obtain ⟨m⟩ := r
  refine ⟨rfl, fun g => run_def ?_⟩
  unfold a72
  have hI : IndexTrees l ⟨m⟩ = some (-1) := part_of hr _
  simp -implicitDefEqProofs [hI]
theorem c_ContainsTrees : Contract Tryz.prog 72 (sp2 ContainsTrees) :=
  contract_of_runs mixed (tbl_cons c_IndexTrees tbl_nil) Tryz.func72 m72 (sp2_runs runs_ContainsTrees)
noncomputable def MRight (m : Model) : Option Bool := if m.dim < 1 then some false else Part (RM m) true
theorem runs_mRight (m : Model) (c : Bool) (h : MRight m = some c) : Runs (tbl [(71, sp2 Fits), (72, sp2 ContainsTrees)]) a43 [Arg.enc m] (Arg.enc c) := by
  unfold MRight at h
  split at h
  · rename_i hd
    cases h
    refine ⟨rfl, fun g => run_def ?_⟩
    unfold a43
    simp -implicitDefEqProofs [hd]
  · obtain ⟨hr, rfl⟩ := part_some h
    refine ⟨rfl, fun g => run_def ?_⟩
    unfold a43
    have b3 : m.trees.length ≤ maxN := by have := hr.trees; unfold maxN; omega
    have e0 : ¬ m.dim < 1 := by have := hr.dim; omega
    have e1 : ¬ 4 < m.dim := by have := hr.dim; omega
    have e2 : ¬ m.classes < 1 := by have := hr.classes; omega
    have e3 : ¬ 3 < m.classes := by have := hr.classes; omega
    have e4 : ¬ (8 : Int) < m.trees.length := by have := hr.trees; omega
    have e5 : ¬ m.classes ≤ 0 := by omega
    have hb := hr.bias
    have f0 := hb.1
    have f1 := hb.2.1
    have f2 := hb.2.2
    have hC : ContainsTrees m.trees ⟨m⟩ = some false := part_of ⟨hr.trees, hr.tree⟩ _
    have n1 := hr.none1
    have n2 := hr.none2
    have fz : fits 0 = true := rfl
    by_cases k1 : m.classes ≤ 1 <;> by_cases k2 : m.classes ≤ 2
    · have z1 : decide (m.bias.b1 = 0) = true := by simp [n1 k1]
      have z2 : decide (m.bias.b2 = 0) = true := by simp [n2 k2]
      simp -implicitDefEqProofs [run_round, b3, e0, e1, e2, e3, e4, e5, Fits, fz, f0, f1, f2, k1, k2, z1, z2, hC]
    · omega
    · have z2 : decide (m.bias.b2 = 0) = true := by simp [n2 k2]
      simp -implicitDefEqProofs [run_round, b3, e0, e1, e2, e3, e4, e5, Fits, fz, f0, f1, f2, k1, k2, z2, hC]
    · simp -implicitDefEqProofs [run_round, b3, e0, e1, e2, e3, e4, e5, Fits, fz, f0, f1, f2, k1, k2, hC]
theorem c_mRight : Contract Tryz.prog 43 (sp1 MRight) :=
  contract_of_runs mixed (tbl_cons c_Fits (tbl_cons c_ContainsTrees tbl_nil)) Tryz.func43 m43 (sp1_runs runs_mRight)
def evalX (m : Model) (c : Int) (p : Point) : Int := if 0 ≤ c ∧ c < m.classes then evalM m c p else 0
noncomputable def Eval (m : Model) (c : Int) (p : Point) : Option Int := Part (RM m) (evalX m c p)
theorem runs_Eval (m : Model) (c : Int) (p : Point) (r : Int) (h : Eval m c p = some r) : Runs (tbl [(43, sp1 MRight), (76, sp3 EvalC)]) a46 [Arg.enc m, Arg.enc c, Arg.enc p] (Arg.enc r) := by
  obtain ⟨hr, rfl⟩ := part_some h
  refine ⟨rfl, fun g => run_def ?_⟩
  unfold a46
  have hM : MRight m = some true := by unfold MRight; rw [if_neg (by have := hr.dim; omega)]; exact part_of hr _
  by_cases h0 : c < 0
  · have : ¬ 0 ≤ c := by omega
    simp -implicitDefEqProofs [hM, h0, evalX, this]
  · by_cases h1 : m.classes ≤ c
    · have : ¬ c < m.classes := by omega
      simp -implicitDefEqProofs [hM, h0, h1, evalX, this]
    · have e1 : c < m.classes := by omega
      have e0 : 0 ≤ c := by omega
      have hE : EvalC m c p = some (evalM m c p) := part_of ⟨hr, e0, by have := hr.classes; omega⟩ _
      simp -implicitDefEqProofs [hM, h0, h1, evalX, e0, e1, hE]
theorem c_Eval : Contract Tryz.prog 46 (sp3 Eval) :=
  contract_of_runs mixed (tbl_cons c_mRight (tbl_cons c_eval tbl_nil)) Tryz.func46 m46 (sp3_runs runs_Eval)
theorem eval_of {m : Model} (h : RM m) {c : Int} (h0 : 0 ≤ c) (h1 : c < m.classes) (p : Point) : Eval m c p = some (evalM m c p) := by
  unfold Eval
  rw [part_of h, evalX, if_pos ⟨h0, h1⟩]
end Go.Co
/- CO: the pieces of a tree within a box. -/
set_option maxHeartbeats 16000000
set_option maxRecDepth 100000
namespace Go.Co
open Go.Am Go.Proofs
def c81_0 : ACode := .ops [⟨some 3, .box (.t 1) 10, none, []⟩,⟨some 4, .mv (.c (.nils)), none, []⟩] [0, 3]
theorem r81_0 : type_of% (rr c81_0.eq_1) := rr rfl
def c81_1 : ACode := .ops [⟨some 11, .mv (.t 0), none, []⟩,⟨some 12, .call 74 [.t 11, .c (.int .i64 4)], none, []⟩,⟨some 13, .un .not (.t 12), none, []⟩,⟨some 14, .mv (.t 13), none, []⟩,⟨some 15, .load 10 true (.t 3), some (14, false), [3]⟩,⟨some 16, .call 26 [.t 15], some (14, false), []⟩,⟨some 17, .pick (.t 14) (.c (.bool true)) (.t 16), none, []⟩] [0, 3, 17]
theorem r81_1 : type_of% (rr c81_1.eq_1) := rr rfl
def c81_2 : ACode := .ops [⟨some 4, .mv (.c (.nils)), none, []⟩] [4]
theorem r81_2 : type_of% (rr c81_2.eq_1) := rr rfl
def c81_3 : ACode := .seq c81_2 .ret
theorem r81_3 : type_of% (rr c81_3.eq_1) := rr rfl
def c81_4 : ACode := .cond (.t 17) c81_3 .skip
theorem r81_4 : type_of% (rr c81_4.eq_1) := rr rfl
def c81_5 : ACode := .seq c81_1 c81_4
theorem r81_5 : type_of% (rr c81_5.eq_1) := rr rfl
def c81_6 : ACode := .ops [⟨some 18, .mv (.t 0), none, []⟩,⟨some 19, .len (.t 18), none, []⟩,⟨some 20, .mks 5 (.t 19) 10 [.int .i64 0, .int .i64 0, .int .i64 0, .int .i64 0, .int .i64 0, .int .i64 0, .int .i64 0, .int .i64 0, .int .i64 0, .int .i64 0], none, []⟩,⟨some 5, .mv (.t 20), none, []⟩] [0, 3, 5]
theorem r81_6 : type_of% (rr c81_6.eq_1) := rr rfl
def c81_7 : ACode := .ops [⟨some 21, .mv (.t 5), none, []⟩,⟨some 22, .load 10 true (.t 3), none, [3]⟩,⟨some 23, .ias (.t 21) (.c (.int .i64 0)) 10, none, [5]⟩,⟨none, .store (.t 23) 10 (.t 22), none, [5]⟩] [0, 5]
theorem r81_7 : type_of% (rr c81_7.eq_1) := rr rfl
def c81_8 : ACode := .ops [⟨some 6, .nil0 6 11, none, []⟩] [0, 5, 6]
theorem r81_8 : type_of% (rr c81_8.eq_1) := rr rfl
def c81_9 : ACode := .ops [⟨some 24, .mv (.t 0), none, []⟩,⟨some 25, .len (.t 24), none, []⟩,⟨some 26, .mv (.c (.int .i64 0)), none, []⟩] [5, 6, 24, 25, 26]
theorem r81_9 : type_of% (rr c81_9.eq_1) := rr rfl
def c81_10 : ACode := .ops [⟨some 27, .bin .lss (.t 26) (.t 25), none, []⟩] [5, 6, 24, 25, 26, 27]
theorem r81_10 : type_of% (rr c81_10.eq_1) := rr rfl
def c81_11 : ACode := .cond (.t 27) .skip (.exit 0)
theorem r81_11 : type_of% (rr c81_11.eq_1) := rr rfl
def c81_12 : ACode := .ops [⟨some 28, .mv (.t 26), none, []⟩,⟨some 29, .ias (.t 24) (.t 26) 1, none, []⟩,⟨some 30, .load 1 false (.t 29), none, []⟩,⟨some 7, .mv (.t 28), none, []⟩,⟨some 8, .mv (.t 30), none, []⟩] [5, 6, 7, 8, 24, 25, 26]
theorem r81_12 : type_of% (rr c81_12.eq_1) := rr rfl
def c81_13 : ACode := .ops [⟨some 32, .mv (.t 8), none, []⟩,⟨some 33, .call 85 [.t 32], none, []⟩,⟨some 31, .mv (.t 33), none, []⟩,⟨some 34, .ext (.t 31) 0, none, []⟩,⟨some 35, .ext (.t 31) 1, none, []⟩,⟨some 9, .alloc [.bool false, .int .i64 0, .int .i64 0, .int .i64 0, .int .i64 0, .int .i64 0], none, []⟩,⟨none, .store (.t 9) 6 (.t 34), none, [9]⟩,⟨some 10, .mv (.t 35), none, []⟩] [5, 6, 7, 9, 24, 25, 26]
theorem r81_13 : type_of% (rr c81_13.eq_1) := rr rfl
def c81_14 : ACode := .ops [⟨some 37, .fad (.t 9) 0, none, [9]⟩,⟨some 38, .load 1 false (.t 37), none, [9]⟩,⟨some 39, .un .not (.t 38), none, []⟩,⟨some 36, .mv (.t 39), none, []⟩] [5, 6, 7, 9, 24, 25, 26, 36]
theorem r81_14 : type_of% (rr c81_14.eq_1) := rr rfl
def c81_15 : ACode := .ops [⟨some 41, .mv (.t 5), none, []⟩,⟨some 42, .fad (.t 9) 4, none, [9]⟩,⟨some 43, .load 1 false (.t 42), none, [9]⟩,⟨some 44, .mv (.t 5), none, []⟩,⟨some 45, .fad (.t 9) 5, none, [9]⟩,⟨some 46, .load 1 false (.t 45), none, [9]⟩,⟨some 47, .mv (.t 5), none, []⟩,⟨some 48, .mv (.t 7), none, []⟩,⟨some 49, .ias (.t 47) (.t 48) 10, none, [5]⟩,⟨some 50, .load 10 true (.t 49), none, [5]⟩,⟨some 51, .fad (.t 9) 2, none, [9]⟩,⟨some 52, .load 1 false (.t 51), none, [9]⟩,⟨some 53, .fad (.t 9) 3, none, [9]⟩,⟨some 54, .load 1 false (.t 53), none, [9]⟩,⟨some 55, .call 69 [.t 50, .t 52, .t 54], none, []⟩,⟨some 40, .mv (.t 55), none, []⟩,⟨some 56, .ext (.t 40) 0, none, []⟩,⟨some 57, .ext (.t 40) 1, none, []⟩,⟨some 58, .ias (.t 41) (.t 43) 10, none, [5]⟩,⟨none, .store (.t 58) 10 (.t 56), none, [5]⟩,⟨some 59, .ias (.t 44) (.t 46) 10, none, [5]⟩,⟨none, .store (.t 59) 10 (.t 57), none, [5]⟩] [5, 6, 24, 25, 26]
theorem r81_15 : type_of% (rr c81_15.eq_1) := rr rfl
def c81_16 : ACode := .ops [⟨some 61, .mv (.t 5), none, []⟩,⟨some 62, .mv (.t 7), none, []⟩,⟨some 63, .ias (.t 61) (.t 62) 10, none, [5]⟩,⟨some 64, .load 10 true (.t 63), none, [5]⟩,⟨some 65, .call 26 [.t 64], none, []⟩,⟨some 66, .un .not (.t 65), none, []⟩,⟨some 60, .mv (.t 66), none, []⟩] [5, 6, 7, 9, 24, 25, 26, 60]
theorem r81_16 : type_of% (rr c81_16.eq_1) := rr rfl
def c81_17 : ACode := .ops [⟨some 67, .mv (.t 6), none, []⟩,⟨some 68, .mv (.t 5), none, []⟩,⟨some 69, .mv (.t 7), none, []⟩,⟨some 70, .ias (.t 68) (.t 69) 10, none, [5]⟩,⟨some 71, .load 10 true (.t 70), none, [5]⟩,⟨some 72, .fad (.t 9) 1, none, [9]⟩,⟨some 73, .load 1 false (.t 72), none, [9]⟩,⟨some 74, .build [.int .i64 0, .int .i64 0, .int .i64 0, .int .i64 0, .int .i64 0, .int .i64 0, .int .i64 0, .int .i64 0, .int .i64 0, .int .i64 0, .int .i64 0] [(0, 10, .t 71), (10, 1, .t 73)], none, []⟩,⟨some 75, .mkrow 75 1 11 [.int .i64 0, .int .i64 0, .int .i64 0, .int .i64 0, .int .i64 0, .int .i64 0, .int .i64 0, .int .i64 0, .int .i64 0, .int .i64 0, .int .i64 0] [(0, 11, .t 74)], none, []⟩,⟨some 76, .app 6 [6] (.t 67) (.t 75) 11, none, [6, 75]⟩,⟨some 6, .mv (.t 76), none, []⟩] [5, 6, 24, 25, 26]
theorem r81_17 : type_of% (rr c81_17.eq_1) := rr rfl
def c81_18 : ACode := .cond (.t 60) c81_17 .skip
theorem r81_18 : type_of% (rr c81_18.eq_1) := rr rfl
def c81_19 : ACode := .seq c81_16 c81_18
theorem r81_19 : type_of% (rr c81_19.eq_1) := rr rfl
def c81_20 : ACode := .cond (.t 36) c81_15 c81_19
theorem r81_20 : type_of% (rr c81_20.eq_1) := rr rfl
def c81_21 : ACode := .seq c81_14 c81_20
theorem r81_21 : type_of% (rr c81_21.eq_1) := rr rfl
def c81_22 : ACode := .block 2 c81_21
theorem r81_22 : type_of% (rr c81_22.eq_1) := rr rfl
def c81_23 : ACode := .seq c81_13 c81_22
theorem r81_23 : type_of% (rr c81_23.eq_1) := rr rfl
def c81_24 : ACode := .seq c81_12 c81_23
theorem r81_24 : type_of% (rr c81_24.eq_1) := rr rfl
def c81_25 : ACode := .block 1 c81_24
theorem r81_25 : type_of% (rr c81_25.eq_1) := rr rfl
def c81_26 : ACode := .ops [⟨some 77, .bin .add (.t 26) (.c (.int .i64 1)), none, []⟩,⟨some 26, .mv (.t 77), none, []⟩] [5, 6, 24, 25, 26]
theorem r81_26 : type_of% (rr c81_26.eq_1) := rr rfl
def c81_27 : ACode := .seq c81_25 c81_26
theorem r81_27 : type_of% (rr c81_27.eq_1) := rr rfl
def c81_28 : ACode := .seq c81_11 c81_27
theorem r81_28 : type_of% (rr c81_28.eq_1) := rr rfl
def c81_29 : ACode := .seq c81_10 c81_28
theorem r81_29 : type_of% (rr c81_29.eq_1) := rr rfl
def c81_30 : ACode := .keep [5, 6, 24, 25, 26] [5, 6] c81_29
theorem r81_30 : type_of% (rr c81_30.eq_1) := rr rfl
def c81_31 : ACode := .loop c81_30
theorem r81_31 : type_of% (rr c81_31.eq_1) := rr rfl
def c81_32 : ACode := .block 0 c81_31
theorem r81_32 : type_of% (rr c81_32.eq_1) := rr rfl
def c81_33 : ACode := .seq c81_9 c81_32
theorem r81_33 : type_of% (rr c81_33.eq_1) := rr rfl
def c81_34 : ACode := .ops [⟨some 78, .mv (.t 6), none, []⟩,⟨some 4, .mv (.t 78), none, []⟩] [4]
theorem r81_34 : type_of% (rr c81_34.eq_1) := rr rfl
def c81_35 : ACode := .seq c81_34 .ret
theorem r81_35 : type_of% (rr c81_35.eq_1) := rr rfl
def c81_36 : ACode := .seq c81_33 c81_35
theorem r81_36 : type_of% (rr c81_36.eq_1) := rr rfl
def c81_37 : ACode := .seq c81_8 c81_36
theorem r81_37 : type_of% (rr c81_37.eq_1) := rr rfl
def c81_38 : ACode := .seq c81_7 c81_37
theorem r81_38 : type_of% (rr c81_38.eq_1) := rr rfl
def c81_39 : ACode := .seq c81_6 c81_38
theorem r81_39 : type_of% (rr c81_39.eq_1) := rr rfl
def c81_40 : ACode := .seq c81_5 c81_39
theorem r81_40 : type_of% (rr c81_40.eq_1) := rr rfl
def c81_41 : ACode := .seq c81_0 c81_40
theorem r81_41 : type_of% (rr c81_41.eq_1) := rr rfl
def a81 : AFun := ⟨2, 79, c81_41, [.t 4]⟩
attribute [simp] r81_0 r81_1 r81_2 r81_3 r81_4 r81_5 r81_6 r81_7 r81_8 r81_9 r81_10 r81_11 r81_12 r81_13 r81_14 r81_15 r81_16 r81_17 r81_18 r81_19 r81_20 r81_21 r81_22 r81_23 r81_24 r81_25 r81_26 r81_27 r81_28 r81_29 r81_30 r81_31 r81_32 r81_33 r81_34 r81_35 r81_36 r81_37 r81_38 r81_39 r81_40 r81_41
theorem m81 : mFun Tryz.prog Tryz.f81 a81 = true := by decide +kernel
def okS64 (s : Span) : Prop := ok64 s.lo ∧ ok64 s.hi
def okB (b : Box) : Prop := okS64 b.s0 ∧ okS64 b.s1 ∧ okS64 b.s2 ∧ okS64 b.s3 ∧ okS64 b.s4
theorem okS_of {lo hi : Int} (h : ok64 lo) (h' : ok64 hi) : okS64 (ofS lo hi) := by
  unfold ofS
  split
  · unfold okS64 ok64 noneS; simp only; omega
  · exact ⟨h, h'⟩
theorem okS_cut {s : Span} (h : okS64 s) {n : Int} (hn : ok64 n) : okS64 (cutS s n).1 ∧ okS64 (cutS s n).2 := by
  unfold cutS
  split
  · exact ⟨okS_of h.1 h.2, by unfold okS64 ok64 noneS; simp only; omega⟩
  · refine ⟨okS_of h.1 hn, okS_of ?_ h.2⟩
    have := h.1
    have := h.2
    unfold ok64 at *
    split <;> omega
theorem okB_get {b : Box} (h : okB b) (i : Int) : okS64 (b.get i) := by
  obtain ⟨h0, h1, h2, h3, h4⟩ := h
  unfold Box.get
  split
  · exact h0
  · split
    · exact h1
    · split
      · exact h2
      · split
        · exact h3
        · exact h4
theorem okB_set {b : Box} (h : okB b) (i : Int) {s : Span} (hs : okS64 s) : okB (b.set i s) := by
  obtain ⟨h0, h1, h2, h3, h4⟩ := h
  unfold Box.set
  split
  · exact ⟨hs, h1, h2, h3, h4⟩
  · split
    · exact ⟨h0, hs, h2, h3, h4⟩
    · split
      · exact ⟨h0, h1, hs, h3, h4⟩
      · split
        · exact ⟨h0, h1, h2, hs, h4⟩
        · exact ⟨h0, h1, h2, h3, hs⟩
theorem okB_cut {b : Box} (h : okB b) (i : Int) {n : Int} (hn : ok64 n) : okB (cutB b i n).1 ∧ okB (cutB b i n).2 := by
  unfold cutB
  split
  · have := okS_cut (okB_get h i) hn
    exact ⟨okB_set h i this.1, okB_set h i this.2⟩
  · exact ⟨h, h⟩
theorem ok64_fits {n : Int} (h : fits n = true) : ok64 n := by have := of_fits h; unfold ok64; omega
theorem okB_zero : okB zeroB := by unfold okB okS64 ok64 zeroB; simp only; omega
theorem okB_own {l : List Word} {dim : Int} (hr : RT l dim) {b : Box} (hb : okB b) : ∀ (i j : Nat), i ≤ l.length → okB (ownF l b i j)
  | 0, j, _ => by
    unfold ownF up
    split
    · exact hb
    · exact okB_zero
  | i + 1, j, hi => by
    unfold ownF
    have h0 := fun j => okB_own hr hb i j (by omega)
    split
    · exact h0 j
    · have hc := okB_cut (h0 i) (ndAt l i).feature (ok64_fits (hr.cutOk (show i < l.length by omega)))
      unfold up
      split
      · exact hc.2
      · split
        · exact hc.1
        · exact h0 j
theorem cutB_of {b : Box} (h : okB b) (i : Int) {n : Int} (hn : ok64 n) : CutB b i n = some (cutB b i n) := by
  unfold CutB
  rw [if_pos ⟨hn, (okB_get h i).2⟩]
theorem RT.four {l : List Word} {dim : Int} (h : RT l dim) : RT l 4 := by
  refine ⟨h.ok, h.pos, h.le, fun i hi hl => ?_, h.once⟩
  have h1 := h.inner i hi hl
  have h2 := h.feature hi (by rw [ndAt_lt hi]; exact hl)
  rw [ndAt_lt hi] at h2
  exact ⟨h2.2, h1.2⟩
def ownL (l : List Word) (b : Box) (i : Nat) : List Box := (List.range l.length).map (ownF l b i)
theorem ownL_len (l : List Word) (b : Box) (i : Nat) : (ownL l b i).length = l.length := by simp [ownL]
theorem ownL_get (l : List Word) (b : Box) (i j : Nat) (h : j < (ownL l b i).length) : (ownL l b i)[j] = ownF l b i j := by simp [ownL]
theorem ownL_zero (l : List Word) (b : Box) (h : 0 < l.length) : ownL l b 0 = (List.replicate l.length zeroB).set 0 b := by
  apply List.ext_getElem
  · simp [ownL]
  · intro j h1 h2
    rw [ownL_get, List.getElem_set]
    unfold ownF up
    by_cases hj : j = 0
    · subst hj; simp
    · rw [if_neg hj, if_neg (Ne.symm hj)]; simp
theorem ownL_leaf {l : List Word} (b : Box) {i : Nat} (hl : (ndAt l i).leaf = true) : ownL l b (i + 1) = ownL l b i := by
  unfold ownL
  congr 1
  funext j
  rw [ownF, hl]
  rfl
theorem ownL_inner {l : List Word} (b : Box) {i : Nat} (hl : (ndAt l i).leaf = false) : ownL l b (i + 1) =
    ((ownL l b i).set (ndAt l i).left.toNat (cutB (own l b i) (ndAt l i).feature (ndAt l i).cut).1).set (ndAt l i).right.toNat (cutB (own l b i) (ndAt l i).feature (ndAt l i).cut).2 := by
  apply List.ext_getElem
  · simp [ownL]
  · intro j h1 h2
    rw [ownL_get, List.getElem_set, List.getElem_set, ownF, hl]
    simp only [Bool.false_eq_true, if_false, up, ownL_get]
    by_cases e1 : j = (ndAt l i).right.toNat
    · rw [if_pos e1, if_pos e1.symm]; rfl
    · rw [if_neg e1, if_neg (Ne.symm e1)]
      by_cases e2 : j = (ndAt l i).left.toNat
      · rw [if_pos e2, if_pos e2.symm]; rfl
      · rw [if_neg e2, if_neg (Ne.symm e2)]
def piecesTo (l : List Word) (b : Box) (i : Nat) : List Piece := (List.range i).filterMap (pieceAt l b)
theorem piecesTo_succ (l : List Word) (b : Box) (i : Nat) : piecesTo l b (i + 1) = piecesTo l b i ++ (pieceAt l b i).toList := by
  unfold piecesTo
  rw [List.range_succ, List.filterMap_append]
  congr 1
theorem piecesTo_len (l : List Word) (b : Box) (i : Nat) : (piecesTo l b i).length ≤ i := by
  unfold piecesTo
  have := List.length_filterMap_le (pieceAt l b) (List.range i)
  simpa using this
theorem rd_box (l : List Box) (i : Nat) (h : i < l.length) : rd (encL l) (i * 10) 10 true = some (Arg.enc l[i]) := rd_row l i h
theorem wr_box (l : List Box) (i : Nat) (h : i < l.length) (b : Box) : wr (encL l) (i * 10) [.int .i64 b.s0.lo, .int .i64 b.s0.hi, .int .i64 b.s1.lo, .int .i64 b.s1.hi, .int .i64 b.s2.lo, .int .i64 b.s2.hi, .int .i64 b.s3.lo, .int .i64 b.s3.hi, .int .i64 b.s4.lo, .int .i64 b.s4.hi] = encL (l.set i b) := wr_row l i h b
noncomputable def ListC (l : List Word) (b : Box) : Option (List Piece) := Part ((∃ d, RT l d) ∧ okB b) (if b.empty then [] else pieces l b)
theorem runs_List (l : List Word) (b : Box) (c : List Piece) (h : ListC l b = some c) : Runs (tbl [(74, sp2 TreeRight), (26, sp1 fun (b : Box) => some b.empty), (85, sp1 Unpack), (69, sp3 CutB)]) a81 [Arg.enc l, Arg.enc b] (Arg.enc c) := by
  obtain ⟨⟨⟨d, hr⟩, hb⟩, rfl⟩ := part_some h
  refine ⟨rfl, fun g => run_def ?_⟩
  unfold a81
  have hT : TreeRight l 4 = some true := part_of hr.four _
  cases he : b.empty
  case true => simp -implicitDefEqProofs [hT, he, encL_nil]
  have hp := hr.pos
  have hle := hr.le
  have b3 : l.length ≤ maxN := by unfold maxN; omega
  have b4 : (l.length : Int) ≤ 1099511627776 := by omega
  have b5 : (0 : Int) < l.length := by omega
  have hz : rep l.length [.int .i64 0, .int .i64 0, .int .i64 0, .int .i64 0, .int .i64 0, .int .i64 0, .int .i64 0, .int .i64 0, .int .i64 0, .int .i64 0] = encL (List.replicate l.length zeroB) := rep_enc l.length zeroB
  have hw0 : wr (encL (List.replicate l.length zeroB)) 0 [.int .i64 b.s0.lo, .int .i64 b.s0.hi, .int .i64 b.s1.lo, .int .i64 b.s1.hi, .int .i64 b.s2.lo, .int .i64 b.s2.hi, .int .i64 b.s3.lo, .int .i64 b.s3.hi, .int .i64 b.s4.lo, .int .i64 b.s4.hi] = encL (ownL l b 0) := by
    rw [ownL_zero l b (by omega)]
    exact wr_box (List.replicate l.length zeroB) 0 (by simp; omega) b
  have hlen : 10 ≤ (encL (List.replicate l.length zeroB)).length := by rw [encL_length]; simp; omega
  have b6 : 0 < l.length := by omega
  simp -implicitDefEqProofs [hT, he, b3, b4, b6, hp, hz, hw0, hlen, -Go.Am.rep]
  refine run_while (c := c81_29) (fun n s => ∃ (i : Nat) (g : Nat → Nat), i + n = l.length ∧ s = ⟨[(5, .own 5 (g 5) 0 l.length), (6, .own 6 (g 6) 0 (piecesTo l b i).length), (24, .lst l.length (encL l)), (25, .int .i64 l.length), (26, .int .i64 i)],
    [(5, ⟨encL (ownL l b i), false, 10⟩), (6, ⟨encL (piecesTo l b i), false, 11⟩)], g⟩) l.length ⟨0, bump 6 (bump 5 (bump 3 g)), by omega, by simp [piecesTo, encL_nil]⟩ ?_
  rintro n s ⟨i, g, hi, rfl⟩
  have w1 : IntKind.i64.wrap ((i : Int) + 1) = (i : Int) + 1 := wrap64 (by omega) (by omega)
  by_cases h1 : i < l.length
  case pos =>
    have hU := unpack_at hr h1
    have hlen : i * 10 + 10 ≤ (encL (ownL l b i)).length := by rw [encL_length, ownL_len]; simp; omega
    have hrow : rd (encL (ownL l b i)) (i * 10) 10 true = some (Arg.enc (own l b i)) := by
      rw [rd_box _ _ (by rw [ownL_len]; exact h1), ownL_get]
      rfl
    cases hl : (ndAt l i).leaf
    case true =>
      cases hE : (own l b i).empty
      case true =>
        have hp1 : piecesTo l b (i + 1) = piecesTo l b i := by rw [piecesTo_succ, pieceAt, hl, hE]; simp
        have ho := ownL_leaf b hl
        simp -implicitDefEqProofs [h1, rd_words, hU, hl, w1, hrow, hE]
        exact ⟨n - 1, by omega, i + 1, by omega, ⟨by rw [hp1], by omega⟩, by rw [ho], by rw [hp1]⟩
      case false =>
        have hp1 : piecesTo l b (i + 1) = piecesTo l b i ++ [⟨own l b i, (ndAt l i).value⟩] := by rw [piecesTo_succ, pieceAt, hl, hE]; simp
        have ho := ownL_leaf b hl
        have hpl := piecesTo_len l b i
        have c1 : (piecesTo l b i).length * 11 ≤ (encL (piecesTo l b i)).length := by rw [encL_length]; simp
        have c2 : (piecesTo l b i).length ≤ 1099511627775 := by omega
        have htk : List.take ((piecesTo l b i).length * 11) (encL (piecesTo l b i)) = encL (piecesTo l b i) := take_rows _ _ (by simp)
        simp -implicitDefEqProofs [h1, rd_words, hU, hl, w1, hrow, hE, c1, c2, htk]
        exact ⟨n - 1, by omega, i + 1, by omega, ⟨by rw [hp1]; simp, by omega⟩, by rw [ho], by rw [hp1, encL_append]; rfl⟩
    case false =>
      have ha := hr.at h1 hl
      have f1 : 0 ≤ (ndAt l i).left := by omega
      have f2 : (ndAt l i).left < l.length := by omega
      have f3 : 0 ≤ (ndAt l i).right := by omega
      have f4 : (ndAt l i).right < l.length := by omega
      have f5 : (ndAt l i).left.toNat < l.length := by omega
      have f6 : (ndAt l i).right.toNat < l.length := by omega
      have hC := cutB_of (okB_own hr hb i i (by omega)) (ndAt l i).feature (ok64_fits (hr.cutOk h1))
      have hC : CutB (own l b i) (ndAt l i).feature (ndAt l i).cut = some (cutB (own l b i) (ndAt l i).feature (ndAt l i).cut) := hC
      have ho := ownL_inner b hl
      have hp1 : piecesTo l b (i + 1) = piecesTo l b i := by rw [piecesTo_succ, pieceAt, hl]; simp
      generalize cutB (own l b i) (ndAt l i).feature (ndAt l i).cut = z at *
      have hwA := wr_box (ownL l b i) (ndAt l i).left.toNat (by rw [ownL_len]; exact f5) z.1
      have hwB := wr_box ((ownL l b i).set (ndAt l i).left.toNat z.1) (ndAt l i).right.toNat (by rw [List.length_set, ownL_len]; exact f6) z.2
      simp -implicitDefEqProofs [h1, rd_words, hU, hl, w1, hrow, hC, f1, f2, f3, f4, hwA, hwB, encL_length, ownL_len]
      exact ⟨fun _ => ⟨fun _ => ⟨n - 1, by omega, i + 1, by omega, ⟨by rw [hp1], by omega⟩, by rw [ho], by rw [hp1]⟩, by omega⟩, by omega⟩
  case neg =>
    have hil : i = l.length := by omega
    subst hil
    have hpp : piecesTo l b l.length = pieces l b := rfl
    have c1 : (pieces l b).length * 11 ≤ (encL (pieces l b)).length := by rw [encL_length]; simp
    have htk : List.take ((pieces l b).length * 11) (encL (pieces l b)) = encL (pieces l b) := take_rows _ _ (by simp)
    simp -implicitDefEqProofs [h1, hpp, c1, htk]
theorem c_List : Contract Tryz.prog 81 (sp2 ListC) :=
  contract_of_runs mixed (tbl_cons c_tRight (tbl_cons c_bEmpty (tbl_cons c_Unpack (tbl_cons c_bCut tbl_nil)))) Tryz.func81 m81 (sp2_runs runs_List)
end Go.Co
