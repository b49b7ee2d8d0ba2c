/- CO: texts of this claim, one behind the other. -/
import Derived.Test.YtcjflbmpfmibbaaCz3
import Derived.Test.YtcjflbmpfmibbaaCz1
/- CO: values, sums. -/
set_option maxHeartbeats 16000000
set_option maxRecDepth 100000
namespace Go.Co
open Go.Am Go.Proofs
set_option linter.unusedSimpArgs false
set_option linter.unusedVariables false
def c147_0 : ACode := .ops [⟨some 3, .box (.t 1) 4, none, []⟩,⟨some 4, .mv (.c (.int .i64 0)), none, []⟩,⟨some 5, .alloc [.bool false, .int .i64 0, .int .i64 0, .int .i64 0, .int .i64 0, .int .i64 0], none, []⟩] [0, 3, 5]
def c147_1 : ACode := .ops [⟨some 6, .mv (.c (.int .i64 0)), none, []⟩] [0, 3, 5, 6]
def c147_2 : ACode := .ops [⟨some 9, .mv (.c (.int .i64 0)), none, []⟩] [0, 3, 5, 6, 9]
def c147_3 : ACode := .ops [⟨some 10, .bin .lss (.t 9) (.c (.int .i64 31)), none, []⟩] [0, 3, 5, 6, 9, 10]
def c147_4 : ACode := .cond (.t 10) .skip (.exit 0)
def c147_5 : ACode := .ops [⟨some 11, .mv (.t 6), none, []⟩,⟨some 12, .mv (.t 0), none, []⟩,⟨some 13, .len (.t 12), none, []⟩,⟨some 14, .bin .geq (.t 11) (.t 13), none, []⟩] [0, 3, 5, 6, 9, 14]
def c147_6 : ACode := .cond (.t 14) (.exit 0) .skip
def c147_7 : ACode := .seq c147_5 c147_6
def c147_8 : ACode := .ops [⟨some 16, .mv (.t 0), none, []⟩,⟨some 17, .mv (.t 6), none, []⟩,⟨some 18, .ias (.t 16) (.t 17) 1, none, []⟩,⟨some 19, .load 1 false (.t 18), none, []⟩,⟨some 20, .call 20 [.t 19], none, []⟩,⟨some 15, .mv (.t 20), none, []⟩,⟨some 21, .ext (.t 15) 0, none, []⟩,⟨some 22, .ext (.t 15) 1, none, []⟩,⟨some 7, .alloc [.bool false, .int .i64 0, .int .i64 0, .int .i64 0, .int .i64 0, .int .i64 0], none, []⟩,⟨none, .store (.t 7) 6 (.t 21), none, [7]⟩,⟨some 8, .mv (.t 22), none, []⟩] [0, 3, 5, 6, 7, 8, 9]
def c147_9 : ACode := .ops [⟨some 26, .mv (.t 8), none, []⟩,⟨some 27, .un .not (.t 26), none, []⟩,⟨some 25, .mv (.t 27), none, []⟩] [0, 3, 5, 6, 7, 9, 25]
def c147_10 : ACode := .ops [⟨some 28, .build [.bool false, .int .i64 0, .int .i64 0, .int .i64 0, .int .i64 0, .int .i64 0] [], none, []⟩,⟨some 4, .mv (.c (.int .i64 (-1))), none, []⟩,⟨none, .store (.t 5) 6 (.t 28), none, [5]⟩] [4, 5]
def c147_11 : ACode := .seq c147_10 .ret
def c147_12 : ACode := .ops [⟨some 30, .fad (.t 7) 0, none, [7]⟩,⟨some 31, .load 1 false (.t 30), none, [7]⟩,⟨some 29, .mv (.t 31), none, []⟩] [0, 3, 5, 6, 7, 9, 29]
def c147_13 : ACode := .ops [⟨some 32, .mv (.t 6), none, []⟩,⟨some 33, .load 6 true (.t 7), none, [7]⟩,⟨some 4, .mv (.t 32), none, []⟩,⟨none, .store (.t 5) 6 (.t 33), none, [5]⟩] [4, 5]
def c147_14 : ACode := .seq c147_13 .ret
def c147_15 : ACode := .ops [⟨some 35, .fad (.t 7) 2, none, [7]⟩,⟨some 36, .load 1 false (.t 35), none, [7]⟩,⟨some 37, .iad (.t 3) (.t 36) 1 4, none, [3]⟩,⟨some 38, .load 1 false (.t 37), none, [3]⟩,⟨some 39, .fad (.t 7) 3, none, [7]⟩,⟨some 40, .load 1 false (.t 39), none, [7]⟩,⟨some 41, .bin .leq (.t 38) (.t 40), none, []⟩,⟨some 34, .mv (.t 41), none, []⟩] [0, 3, 5, 7, 9, 34]
def c147_16 : ACode := .ops [⟨some 42, .fad (.t 7) 4, none, [7]⟩,⟨some 43, .load 1 false (.t 42), none, [7]⟩,⟨some 6, .mv (.t 43), none, []⟩] [0, 3, 5, 6, 9]
def c147_17 : ACode := .ops [⟨some 23, .fad (.t 7) 5, none, [7]⟩,⟨some 24, .load 1 false (.t 23), none, [7]⟩,⟨some 6, .mv (.t 24), none, []⟩] [0, 3, 5, 6, 9]
def c147_18 : ACode := .cond (.t 34) c147_16 c147_17
def c147_19 : ACode := .seq c147_15 c147_18
def c147_20 : ACode := .cond (.t 29) c147_14 c147_19
def c147_21 : ACode := .seq c147_12 c147_20
def c147_22 : ACode := .cond (.t 25) c147_11 c147_21
def c147_23 : ACode := .seq c147_9 c147_22
def c147_24 : ACode := .block 2 c147_23
def c147_25 : ACode := .seq c147_8 c147_24
def c147_26 : ACode := .seq c147_7 c147_25
def c147_27 : ACode := .block 1 c147_26
def c147_28 : ACode := .ops [⟨some 44, .bin .add (.t 9) (.c (.int .i64 1)), none, []⟩,⟨some 9, .mv (.t 44), none, []⟩] [0, 3, 5, 6, 9]
def c147_29 : ACode := .seq c147_27 c147_28
def c147_30 : ACode := .seq c147_4 c147_29
def c147_31 : ACode := .seq c147_3 c147_30
def c147_32 : ACode := .keep [0, 3, 5, 6, 9] [3, 5] c147_31
def c147_33 : ACode := .loop c147_32
def c147_34 : ACode := .block 0 c147_33
def c147_35 : ACode := .seq c147_2 c147_34
def c147_36 : ACode := .ops [⟨some 45, .build [.bool false, .int .i64 0, .int .i64 0, .int .i64 0, .int .i64 0, .int .i64 0] [], none, []⟩,⟨some 4, .mv (.c (.int .i64 (-1))), none, []⟩,⟨none, .store (.t 5) 6 (.t 45), none, [5]⟩] [4, 5]
def c147_37 : ACode := .seq c147_36 .ret
def c147_38 : ACode := .seq c147_35 c147_37
def c147_39 : ACode := .seq c147_1 c147_38
def c147_40 : ACode := .seq c147_0 c147_39
def a147 : AFun := ⟨2, 46, c147_40, [.t 4, .cell 5 6 true]⟩
theorem m147 : mFun Try.prog Try.f147 a147 = true := by decide +kernel
def c125_0 : ACode := .ops [⟨some 3, .box (.t 1) 4, none, []⟩,⟨some 4, .mv (.c (.int .i64 0)), none, []⟩] [0, 3]
def c125_1 : ACode := .ops [⟨some 8, .mv (.t 0), none, []⟩,⟨some 9, .load 4 true (.t 3), none, [3]⟩,⟨some 10, .call 147 [.t 8, .t 9], none, []⟩,⟨some 7, .mv (.t 10), none, []⟩,⟨some 11, .ext (.t 7) 0, none, []⟩,⟨some 12, .ext (.t 7) 1, none, []⟩,⟨some 6, .alloc [.bool false, .int .i64 0, .int .i64 0, .int .i64 0, .int .i64 0, .int .i64 0], none, []⟩,⟨some 5, .mv (.t 11), none, []⟩,⟨none, .store (.t 6) 6 (.t 12), none, [6]⟩] [6]
def c125_2 : ACode := .ops [⟨some 13, .fad (.t 6) 1, none, [6]⟩,⟨some 14, .load 1 false (.t 13), none, [6]⟩,⟨some 4, .mv (.t 14), none, []⟩] [4]
def c125_3 : ACode := .seq c125_2 .ret
def c125_4 : ACode := .seq c125_1 c125_3
def c125_5 : ACode := .seq c125_0 c125_4
def a125 : AFun := ⟨2, 15, c125_5, [.t 4]⟩
theorem m125 : mFun Try.prog Try.f125 a125 = true := by decide +kernel
def c78_0 : ACode := .ops [⟨some 3, .box (.t 0) 6, none, []⟩,⟨some 5, .box (.t 2) 4, none, []⟩,⟨some 6, .mv (.c (.int .i64 0)), none, []⟩] [1, 3, 5]
def c78_1 : ACode := .ops [⟨some 10, .mv (.t 1), none, []⟩,⟨some 11, .fad (.t 3) 2, none, [3]⟩,⟨some 12, .iad (.t 11) (.t 10) 1 3, none, [3]⟩,⟨some 13, .load 1 false (.t 12), none, [3]⟩,⟨some 7, .mv (.t 13), none, []⟩] [1, 3, 5, 7]
def c78_2 : ACode := .ops [⟨some 14, .fad (.t 3) 5, none, [3]⟩,⟨some 15, .load 1 false (.t 14), none, [3]⟩,⟨some 16, .len (.t 15), none, []⟩,⟨some 17, .mv (.c (.int .i64 0)), none, []⟩] [1, 5, 7, 15, 16, 17]
def c78_3 : ACode := .ops [⟨some 18, .bin .lss (.t 17) (.t 16), none, []⟩] [1, 5, 7, 15, 16, 17, 18]
def c78_4 : ACode := .cond (.t 18) .skip (.exit 0)
def c78_5 : ACode := .ops [⟨some 19, .ias (.t 15) (.t 17) 2, none, []⟩,⟨some 20, .load 2 true (.t 19), none, []⟩,⟨some 9, .alloc [.int .i64 0, .nils], none, []⟩,⟨none, .store (.t 9) 2 (.t 20), none, [9]⟩] [1, 5, 7, 9, 15, 16, 17]
def c78_6 : ACode := .ops [⟨some 21, .fad (.t 9) 0, none, [9]⟩,⟨some 22, .load 1 false (.t 21), none, [9]⟩,⟨some 23, .mv (.t 1), none, []⟩,⟨some 24, .bin .eql (.t 22) (.t 23), none, []⟩] [1, 5, 7, 9, 15, 16, 17, 24]
def c78_7 : ACode := .ops [⟨some 25, .mv (.t 7), none, []⟩,⟨some 26, .fad (.t 9) 1, none, [9]⟩,⟨some 27, .load 1 false (.t 26), none, [9]⟩,⟨some 28, .load 4 true (.t 5), none, [5]⟩,⟨some 29, .call 125 [.t 27, .t 28], none, []⟩,⟨some 30, .bin .add (.t 25) (.t 29), none, []⟩,⟨some 7, .mv (.t 30), none, []⟩] [1, 5, 7, 15, 16, 17]
def c78_8 : ACode := .cond (.t 24) c78_7 .skip
def c78_9 : ACode := .seq c78_6 c78_8
def c78_10 : ACode := .seq c78_5 c78_9
def c78_11 : ACode := .block 1 c78_10
def c78_12 : ACode := .ops [⟨some 31, .bin .add (.t 17) (.c (.int .i64 1)), none, []⟩,⟨some 17, .mv (.t 31), none, []⟩] [1, 5, 7, 15, 16, 17]
def c78_13 : ACode := .seq c78_11 c78_12
def c78_14 : ACode := .seq c78_4 c78_13
def c78_15 : ACode := .seq c78_3 c78_14
def c78_16 : ACode := .keep [1, 5, 7, 15, 16, 17] [5] c78_15
def c78_17 : ACode := .loop c78_16
def c78_18 : ACode := .block 0 c78_17
def c78_19 : ACode := .seq c78_2 c78_18
def c78_20 : ACode := .ops [⟨some 32, .mv (.t 7), none, []⟩,⟨some 6, .mv (.t 32), none, []⟩] [6]
def c78_21 : ACode := .seq c78_20 .ret
def c78_22 : ACode := .seq c78_19 c78_21
def c78_23 : ACode := .seq c78_1 c78_22
def c78_24 : ACode := .seq c78_0 c78_23
def a78 : AFun := ⟨3, 33, c78_24, [.t 6]⟩
theorem m78 : mFun Try.prog Try.f78 a78 = true := by decide +kernel
def c28_0 : ACode := .ops [⟨some 3, .box (.t 0) 6, none, []⟩,⟨some 5, .box (.t 2) 4, none, []⟩,⟨some 6, .mv (.c (.int .i64 0)), none, []⟩] [1, 3, 5]
def c28_1 : ACode := .ops [⟨some 7, .load 6 true (.t 3), none, [3]⟩,⟨some 8, .call 27 [.t 7], none, []⟩,⟨some 9, .un .not (.t 8), none, []⟩,⟨some 10, .mv (.t 9), none, []⟩,⟨some 11, .mv (.t 1), some (10, false), []⟩,⟨some 12, .bin .lss (.t 11) (.c (.int .i64 0)), some (10, false), []⟩,⟨some 13, .pick (.t 10) (.c (.bool true)) (.t 12), none, []⟩,⟨some 14, .mv (.t 13), none, []⟩,⟨some 15, .mv (.t 1), some (14, false), []⟩,⟨some 16, .fad (.t 3) 1, some (14, false), [3]⟩,⟨some 17, .load 1 false (.t 16), some (14, false), [3]⟩,⟨some 18, .bin .geq (.t 15) (.t 17), some (14, false), []⟩,⟨some 19, .pick (.t 14) (.c (.bool true)) (.t 18), none, []⟩] [1, 3, 5, 19]
def c28_2 : ACode := .ops [⟨some 6, .mv (.c (.int .i64 0)), none, []⟩] [6]
def c28_3 : ACode := .seq c28_2 .ret
def c28_4 : ACode := .cond (.t 19) c28_3 .skip
def c28_5 : ACode := .seq c28_1 c28_4
def c28_6 : ACode := .ops [⟨some 20, .load 6 true (.t 3), none, [3]⟩,⟨some 21, .mv (.t 1), none, []⟩,⟨some 22, .load 4 true (.t 5), none, [5]⟩,⟨some 23, .call 78 [.t 20, .t 21, .t 22], none, []⟩,⟨some 6, .mv (.t 23), none, []⟩] [6]
def c28_7 : ACode := .seq c28_6 .ret
def c28_8 : ACode := .seq c28_5 c28_7
def c28_9 : ACode := .seq c28_0 c28_8
def a28 : AFun := ⟨3, 24, c28_9, [.t 6]⟩
theorem m28 : mFun Try.prog Try.f28 a28 = true := by decide +kernel
def c77_0 : ACode := .ops [⟨some 2, .box (.t 0) 2, none, []⟩,⟨some 3, .mv (.c (.bool false)), none, []⟩] [1, 2]
theorem r77_0 : type_of% (@rr _ _ c77_0.eq_1) := rr rfl
def c77_1 : ACode := .ops [⟨some 4, .fad (.t 2) 0, none, [2]⟩,⟨some 5, .load 1 false (.t 4), none, [2]⟩,⟨some 6, .bin .lss (.t 5) (.c (.int .i64 0)), none, []⟩,⟨some 7, .mv (.t 6), none, []⟩,⟨some 8, .fad (.t 2) 0, some (7, false), [2]⟩,⟨some 9, .load 1 false (.t 8), some (7, false), [2]⟩,⟨some 10, .fad (.t 1) 1, some (7, false), []⟩,⟨some 11, .load 1 false (.t 10), some (7, false), []⟩,⟨some 12, .bin .geq (.t 9) (.t 11), some (7, false), []⟩,⟨some 13, .pick (.t 7) (.c (.bool true)) (.t 12), none, []⟩,⟨some 14, .mv (.t 13), none, []⟩,⟨some 15, .fad (.t 2) 1, some (14, false), [2]⟩,⟨some 16, .load 1 false (.t 15), some (14, false), [2]⟩,⟨some 17, .fad (.t 1) 0, some (14, false), []⟩,⟨some 18, .load 1 false (.t 17), some (14, false), []⟩,⟨some 19, .call 19 [.t 16, .t 18], some (14, false), []⟩,⟨some 20, .un .not (.t 19), some (14, false), []⟩,⟨some 21, .pick (.t 14) (.c (.bool true)) (.t 20), none, []⟩,⟨some 3, .mv (.t 21), none, []⟩] [3]
theorem r77_1 : type_of% (@rr _ _ c77_1.eq_1) := rr rfl
def c77_2 : ACode := .seq c77_1 .ret
theorem r77_2 : type_of% (@rr _ _ c77_2.eq_1) := rr rfl
def c77_3 : ACode := .seq c77_0 c77_2
theorem r77_3 : type_of% (@rr _ _ c77_3.eq_1) := rr rfl
def a77 : AFun := ⟨2, 22, c77_3, [.t 3]⟩
attribute [simp] r77_0 r77_1 r77_2 r77_3
theorem m77 : mFun Try.prog Try.f77 a77 = true := by decide +kernel
def c124_0 : ACode := .ops [⟨some 4, .mv (.c (.int .i64 0)), none, []⟩] [0, 1]
theorem r124_0 : type_of% (@rr _ _ c124_0.eq_1) := rr rfl
def c124_1 : ACode := .ops [⟨some 6, .mv (.t 0), none, []⟩,⟨some 7, .len (.t 6), none, []⟩,⟨some 8, .mv (.c (.int .i64 0)), none, []⟩] [0, 1, 7, 8]
theorem r124_1 : type_of% (@rr _ _ c124_1.eq_1) := rr rfl
def c124_2 : ACode := .ops [⟨some 9, .bin .lss (.t 8) (.t 7), none, []⟩] [0, 1, 7, 8, 9]
theorem r124_2 : type_of% (@rr _ _ c124_2.eq_1) := rr rfl
def c124_3 : ACode := .cond (.t 9) .skip (.exit 0)
theorem r124_3 : type_of% (@rr _ _ c124_3.eq_1) := rr rfl
def c124_4 : ACode := .ops [⟨some 10, .mv (.t 8), none, []⟩,⟨some 5, .mv (.t 10), none, []⟩] [0, 1, 5, 7, 8]
theorem r124_4 : type_of% (@rr _ _ c124_4.eq_1) := rr rfl
def c124_5 : ACode := .ops [⟨some 11, .mv (.t 1), none, []⟩,⟨some 12, .mv (.t 0), none, []⟩,⟨some 13, .mv (.t 5), none, []⟩,⟨some 14, .ias (.t 12) (.t 13) 2, none, []⟩,⟨some 15, .load 2 true (.t 14), none, []⟩,⟨some 16, .dyn (.t 11) [.t 15], none, []⟩] [0, 1, 5, 7, 8, 16]
theorem r124_5 : type_of% (@rr _ _ c124_5.eq_1) := rr rfl
def c124_6 : ACode := .ops [⟨some 17, .mv (.t 5), none, []⟩,⟨some 4, .mv (.t 17), none, []⟩] [4]
theorem r124_6 : type_of% (@rr _ _ c124_6.eq_1) := rr rfl
def c124_7 : ACode := .seq c124_6 .ret
theorem r124_7 : type_of% (@rr _ _ c124_7.eq_1) := rr rfl
def c124_8 : ACode := .cond (.t 16) c124_7 .skip
theorem r124_8 : type_of% (@rr _ _ c124_8.eq_1) := rr rfl
def c124_9 : ACode := .seq c124_5 c124_8
theorem r124_9 : type_of% (@rr _ _ c124_9.eq_1) := rr rfl
def c124_10 : ACode := .seq c124_4 c124_9
theorem r124_10 : type_of% (@rr _ _ c124_10.eq_1) := rr rfl
def c124_11 : ACode := .block 1 c124_10
theorem r124_11 : type_of% (@rr _ _ c124_11.eq_1) := rr rfl
def c124_12 : ACode := .ops [⟨some 18, .bin .add (.t 8) (.c (.int .i64 1)), none, []⟩,⟨some 8, .mv (.t 18), none, []⟩] [0, 1, 7, 8]
theorem r124_12 : type_of% (@rr _ _ c124_12.eq_1) := rr rfl
def c124_13 : ACode := .seq c124_11 c124_12
theorem r124_13 : type_of% (@rr _ _ c124_13.eq_1) := rr rfl
def c124_14 : ACode := .seq c124_3 c124_13
theorem r124_14 : type_of% (@rr _ _ c124_14.eq_1) := rr rfl
def c124_15 : ACode := .seq c124_2 c124_14
theorem r124_15 : type_of% (@rr _ _ c124_15.eq_1) := rr rfl
def c124_16 : ACode := .keep [0, 1, 7, 8] [] c124_15
theorem r124_16 : type_of% (@rr _ _ c124_16.eq_1) := rr rfl
def c124_17 : ACode := .loop c124_16
theorem r124_17 : type_of% (@rr _ _ c124_17.eq_1) := rr rfl
def c124_18 : ACode := .block 0 c124_17
theorem r124_18 : type_of% (@rr _ _ c124_18.eq_1) := rr rfl
def c124_19 : ACode := .seq c124_1 c124_18
theorem r124_19 : type_of% (@rr _ _ c124_19.eq_1) := rr rfl
def c124_20 : ACode := .ops [⟨some 4, .mv (.c (.int .i64 (-1))), none, []⟩] [4]
theorem r124_20 : type_of% (@rr _ _ c124_20.eq_1) := rr rfl
def c124_21 : ACode := .seq c124_20 .ret
theorem r124_21 : type_of% (@rr _ _ c124_21.eq_1) := rr rfl
def c124_22 : ACode := .seq c124_19 c124_21
theorem r124_22 : type_of% (@rr _ _ c124_22.eq_1) := rr rfl
def c124_23 : ACode := .seq c124_0 c124_22
theorem r124_23 : type_of% (@rr _ _ c124_23.eq_1) := rr rfl
def a124 : AFun := ⟨2, 19, c124_23, [.t 4]⟩
attribute [simp] r124_0 r124_1 r124_2 r124_3 r124_4 r124_5 r124_6 r124_7 r124_8 r124_9 r124_10 r124_11 r124_12 r124_13 r124_14 r124_15 r124_16 r124_17 r124_18 r124_19 r124_20 r124_21 r124_22 r124_23
theorem m124 : mFun Try.prog Try.f124 a124 = true := by decide +kernel
def c76_0 : ACode := .ops [⟨some 4, .mv (.c (.bool false)), none, []⟩] [0, 1]
theorem r76_0 : type_of% (@rr _ _ c76_0.eq_1) := rr rfl
def c76_1 : ACode := .ops [⟨some 5, .mv (.t 0), none, []⟩,⟨some 6, .mv (.t 1), none, []⟩,⟨some 7, .call 124 [.t 5, .t 6], none, []⟩,⟨some 8, .bin .geq (.t 7) (.c (.int .i64 0)), none, []⟩,⟨some 4, .mv (.t 8), none, []⟩] [4]
theorem r76_1 : type_of% (@rr _ _ c76_1.eq_1) := rr rfl
def c76_2 : ACode := .seq c76_1 .ret
theorem r76_2 : type_of% (@rr _ _ c76_2.eq_1) := rr rfl
def c76_3 : ACode := .seq c76_0 c76_2
theorem r76_3 : type_of% (@rr _ _ c76_3.eq_1) := rr rfl
def a76 : AFun := ⟨2, 9, c76_3, [.t 4]⟩
attribute [simp] r76_0 r76_1 r76_2 r76_3
theorem m76 : mFun Try.prog Try.f76 a76 = true := by decide +kernel
def c27_0 : ACode := .ops [⟨some 1, .box (.t 0) 6, none, []⟩,⟨some 2, .mv (.c (.bool false)), none, []⟩] [1]
theorem r27_0 : type_of% (@rr _ _ c27_0.eq_1) := rr rfl
def c27_1 : ACode := .ops [⟨some 5, .fad (.t 1) 0, none, [1]⟩,⟨some 6, .load 1 false (.t 5), none, [1]⟩,⟨some 7, .bin .lss (.t 6) (.c (.int .i64 1)), none, []⟩,⟨some 8, .mv (.t 7), none, []⟩,⟨some 9, .fad (.t 1) 0, some (8, false), [1]⟩,⟨some 10, .load 1 false (.t 9), some (8, false), [1]⟩,⟨some 11, .bin .gtr (.t 10) (.c (.int .i64 4)), some (8, false), []⟩,⟨some 12, .pick (.t 8) (.c (.bool true)) (.t 11), none, []⟩,⟨some 13, .mv (.t 12), none, []⟩,⟨some 14, .fad (.t 1) 1, some (13, false), [1]⟩,⟨some 15, .load 1 false (.t 14), some (13, false), [1]⟩,⟨some 16, .bin .lss (.t 15) (.c (.int .i64 1)), some (13, false), []⟩,⟨some 17, .pick (.t 13) (.c (.bool true)) (.t 16), none, []⟩,⟨some 18, .mv (.t 17), none, []⟩,⟨some 19, .fad (.t 1) 1, some (18, false), [1]⟩,⟨some 20, .load 1 false (.t 19), some (18, false), [1]⟩,⟨some 21, .bin .gtr (.t 20) (.c (.int .i64 3)), some (18, false), []⟩,⟨some 22, .pick (.t 18) (.c (.bool true)) (.t 21), none, []⟩,⟨some 23, .mv (.t 22), none, []⟩,⟨some 24, .fad (.t 1) 5, some (23, false), [1]⟩,⟨some 25, .load 1 false (.t 24), some (23, false), [1]⟩,⟨some 26, .len (.t 25), some (23, false), []⟩,⟨some 27, .bin .gtr (.t 26) (.c (.int .i64 8)), some (23, false), []⟩,⟨some 28, .pick (.t 23) (.c (.bool true)) (.t 27), none, []⟩] [1, 28]
theorem r27_1 : type_of% (@rr _ _ c27_1.eq_1) := rr rfl
def c27_2 : ACode := .ops [⟨some 2, .mv (.c (.bool false)), none, []⟩] [2]
theorem r27_2 : type_of% (@rr _ _ c27_2.eq_1) := rr rfl
def c27_3 : ACode := .seq c27_2 .ret
theorem r27_3 : type_of% (@rr _ _ c27_3.eq_1) := rr rfl
def c27_4 : ACode := .cond (.t 28) c27_3 .skip
theorem r27_4 : type_of% (@rr _ _ c27_4.eq_1) := rr rfl
def c27_5 : ACode := .seq c27_1 c27_4
theorem r27_5 : type_of% (@rr _ _ c27_5.eq_1) := rr rfl
def c27_6 : ACode := .ops [⟨some 29, .fad (.t 1) 2, none, [1]⟩,⟨some 30, .load 3 true (.t 29), none, [1]⟩,⟨some 31, .mv (.c (.int .i64 0)), none, []⟩] [1, 30, 31]
theorem r27_6 : type_of% (@rr _ _ c27_6.eq_1) := rr rfl
def c27_7 : ACode := .ops [⟨some 32, .bin .lss (.t 31) (.c (.int .i64 3)), none, []⟩] [1, 30, 31, 32]
theorem r27_7 : type_of% (@rr _ _ c27_7.eq_1) := rr rfl
def c27_8 : ACode := .cond (.t 32) .skip (.exit 0)
theorem r27_8 : type_of% (@rr _ _ c27_8.eq_1) := rr rfl
def c27_9 : ACode := .ops [⟨some 33, .mv (.t 31), none, []⟩,⟨some 34, .idx (.t 30) (.t 31) 1 3 false, none, []⟩,⟨some 3, .mv (.t 33), none, []⟩,⟨some 4, .mv (.t 34), none, []⟩] [1, 3, 4, 30, 31]
theorem r27_9 : type_of% (@rr _ _ c27_9.eq_1) := rr rfl
def c27_10 : ACode := .ops [⟨some 35, .mv (.t 4), none, []⟩,⟨some 36, .call 75 [.t 35, .c (.int .i64 32)], none, []⟩,⟨some 37, .un .not (.t 36), none, []⟩,⟨some 38, .mv (.t 37), none, []⟩,⟨some 39, .mv (.t 3), some (38, false), []⟩,⟨some 40, .fad (.t 1) 1, some (38, false), [1]⟩,⟨some 41, .load 1 false (.t 40), some (38, false), [1]⟩,⟨some 42, .bin .geq (.t 39) (.t 41), some (38, false), []⟩,⟨some 43, .mv (.t 42), some (38, false), []⟩,⟨some 44, .mv (.t 4), some (43, true), []⟩,⟨some 45, .bin .neq (.t 44) (.c (.int .i64 0)), some (43, true), []⟩,⟨some 46, .pick (.t 43) (.t 45) (.c (.bool false)), some (38, false), []⟩,⟨some 47, .pick (.t 38) (.c (.bool true)) (.t 46), none, []⟩] [1, 30, 31, 47]
theorem r27_10 : type_of% (@rr _ _ c27_10.eq_1) := rr rfl
def c27_11 : ACode := .ops [⟨some 2, .mv (.c (.bool false)), none, []⟩] [2]
theorem r27_11 : type_of% (@rr _ _ c27_11.eq_1) := rr rfl
def c27_12 : ACode := .seq c27_11 .ret
theorem r27_12 : type_of% (@rr _ _ c27_12.eq_1) := rr rfl
def c27_13 : ACode := .cond (.t 47) c27_12 .skip
theorem r27_13 : type_of% (@rr _ _ c27_13.eq_1) := rr rfl
def c27_14 : ACode := .seq c27_10 c27_13
theorem r27_14 : type_of% (@rr _ _ c27_14.eq_1) := rr rfl
def c27_15 : ACode := .seq c27_9 c27_14
theorem r27_15 : type_of% (@rr _ _ c27_15.eq_1) := rr rfl
def c27_16 : ACode := .block 1 c27_15
theorem r27_16 : type_of% (@rr _ _ c27_16.eq_1) := rr rfl
def c27_17 : ACode := .ops [⟨some 48, .bin .add (.t 31) (.c (.int .i64 1)), none, []⟩,⟨some 31, .mv (.t 48), none, []⟩] [1, 30, 31]
theorem r27_17 : type_of% (@rr _ _ c27_17.eq_1) := rr rfl
def c27_18 : ACode := .seq c27_16 c27_17
theorem r27_18 : type_of% (@rr _ _ c27_18.eq_1) := rr rfl
def c27_19 : ACode := .seq c27_8 c27_18
theorem r27_19 : type_of% (@rr _ _ c27_19.eq_1) := rr rfl
def c27_20 : ACode := .seq c27_7 c27_19
theorem r27_20 : type_of% (@rr _ _ c27_20.eq_1) := rr rfl
def c27_21 : ACode := .keep [1, 30, 31] [1] c27_20
theorem r27_21 : type_of% (@rr _ _ c27_21.eq_1) := rr rfl
def c27_22 : ACode := .loop c27_21
theorem r27_22 : type_of% (@rr _ _ c27_22.eq_1) := rr rfl
def c27_23 : ACode := .block 0 c27_22
theorem r27_23 : type_of% (@rr _ _ c27_23.eq_1) := rr rfl
def c27_24 : ACode := .seq c27_6 c27_23
theorem r27_24 : type_of% (@rr _ _ c27_24.eq_1) := rr rfl
def c27_25 : ACode := .ops [⟨some 49, .fad (.t 1) 5, none, [1]⟩,⟨some 50, .load 1 false (.t 49), none, [1]⟩,⟨some 51, .clo 77 [.t 1], none, [1]⟩,⟨some 52, .call 76 [.t 50, .t 51], none, []⟩,⟨some 53, .un .not (.t 52), none, []⟩,⟨some 2, .mv (.t 53), none, []⟩] [2]
theorem r27_25 : type_of% (@rr _ _ c27_25.eq_1) := rr rfl
def c27_26 : ACode := .seq c27_25 .ret
theorem r27_26 : type_of% (@rr _ _ c27_26.eq_1) := rr rfl
def c27_27 : ACode := .seq c27_24 c27_26
theorem r27_27 : type_of% (@rr _ _ c27_27.eq_1) := rr rfl
def c27_28 : ACode := .seq c27_5 c27_27
theorem r27_28 : type_of% (@rr _ _ c27_28.eq_1) := rr rfl
def c27_29 : ACode := .seq c27_0 c27_28
theorem r27_29 : type_of% (@rr _ _ c27_29.eq_1) := rr rfl
def a27 : AFun := ⟨1, 54, c27_29, [.t 2]⟩
attribute [simp] r27_0 r27_1 r27_2 r27_3 r27_4 r27_5 r27_6 r27_7 r27_8 r27_9 r27_10 r27_11 r27_12 r27_13 r27_14 r27_15 r27_16 r27_17 r27_18 r27_19 r27_20 r27_21 r27_22 r27_23 r27_24 r27_25 r27_26 r27_27 r27_28 r27_29
theorem m27 : mFun Try.prog Try.f27 a27 = true := by decide +kernel
@[simp high] theorem rd_point (p : Point) (f : Int) (h0 : 0 ≤ f) (h : f < 4) : rd [.int .i64 p.p0, .int .i64 p.p1, .int .i64 p.p2, .int .i64 p.p3] f.toNat 1 false = some (.int .i64 (p.get f)) := by
  have hf : f = 0 ∨ f = 1 ∨ f = 2 ∨ f = 3 := by omega
  rcases hf with rfl | rfl | rfl | rfl <;> rfl
@[simp high] theorem rd_bias (a b : Int) (x : Bias) (y : AV) (c : Int) (h0 : 0 ≤ c) (h : c < 3) : rd [.int .i64 a, .int .i64 b, .int .i64 x.b0, .int .i64 x.b1, .int .i64 x.b2, y] (2 + c.toNat) 1 false = some (.int .i64 (x.get c)) := by
  have hc : c = 0 ∨ c = 1 ∨ c = 2 := by omega
  rcases hc with rfl | rfl | rfl <;> rfl
theorem rd_tree (l : List Tree) (i : Nat) (h : i < l.length) : rd (encL l) (i * 2) 2 true = some (.agg [.int .i64 l[i].cls, .lst l[i].nodes.length (encL l[i].nodes)]) := rd_row l i h
def okTree (m : Model) (t : Tree) : Prop := 0 ≤ t.cls ∧ t.cls < m.classes ∧ RT t.nodes m.dim
@[simp] theorem dec_ref_model (m : Model) : (Arg.dec (.ipt 0 [.int .i64 m.dim, .int .i64 m.classes, .int .i64 m.bias.b0, .int .i64 m.bias.b1, .int .i64 m.bias.b2, .lst m.trees.length (encL m.trees)]) : Option (Ref Model)) = some ⟨m⟩ := Arg.dec_enc (⟨m⟩ : Ref Model)
noncomputable def Right1 (t : Tree) (m : Ref Model) : Option Bool := Part (okTree m.v t) false
theorem runs_Right1 (t : Tree) (m : Ref Model) (c : Bool) (h : Right1 t m = some c) : Runs (tbl [(19, sp2 TreeRight)]) a77 [Arg.enc t, Arg.enc m] (Arg.enc c) := by
  obtain ⟨⟨h0, h1, hr⟩, rfl⟩ := part_some h
  obtain ⟨m⟩ := m
  simp only at h0 h1 hr
  refine ⟨rfl, fun g => run_def ?_⟩
  unfold a77
  have e0 : ¬ t.cls < 0 := by omega
  have e1 : ¬ m.classes ≤ t.cls := by omega
  have hT : TreeRight t.nodes m.dim = some true := part_of hr _
  simp -implicitDefEqProofs [e0, e1, hT]
theorem c_Right1 : Contract Try.prog 77 (sp2 Right1) :=
  contract_of_runs mixed (tbl_cons c_tRight tbl_nil) Try.func77 m77 (sp2_runs runs_Right1)
structure CloR where
  m : Model
instance : Arg CloR where
  enc r := .clo 77 [.ipt 0 (Row.enc r.m)]
  dec x := match x with
    | .clo f [.ipt 0 xs] => if f = 77 then (Row.dec xs).map CloR.mk else none
    | _ => none
  dec_enc r := by simp only [if_true, Row.dec_enc]; rfl
  enc_dec x r h := by
    split at h
    · split at h
      · rename_i he
        rw [Option.map_eq_some_iff] at h
        obtain ⟨a, ha, rfl⟩ := h
        rw [Row.enc_dec _ _ ha, he]
      · cases h
    · cases h
@[simp] theorem enc_clor (r : CloR) : Arg.enc r = .clo 77 [.ipt 0 (Row.enc r.m)] := rfl
@[simp] theorem dec_clor (m : Model) : (Arg.dec (.clo 77 [.ipt 0 [.int .i64 m.dim, .int .i64 m.classes, .int .i64 m.bias.b0, .int .i64 m.bias.b1, .int .i64 m.bias.b2, .lst m.trees.length (encL m.trees)]]) : Option CloR) = some ⟨m⟩ := Arg.dec_enc (⟨m⟩ : CloR)
noncomputable def IndexTrees (l : List Tree) (r : CloR) : Option Int := Part (l.length ≤ 8 ∧ ∀ t ∈ l, okTree r.m t) (-1)
theorem runs_IndexTrees (l : List Tree) (r : CloR) (c : Int) (h : IndexTrees l r = some c) : Runs (tbl [(77, sp2 Right1)]) a124 [Arg.enc l, Arg.enc r] (Arg.enc c) := by
  obtain ⟨⟨hle, hr⟩, rfl⟩ := part_some h
  obtain ⟨m⟩ := r
  simp only at hr
  refine ⟨rfl, fun g => run_def ?_⟩
  unfold a124
  have b3 : l.length ≤ maxN := by unfold maxN; omega
  simp -implicitDefEqProofs [b3]
  refine run_while (c := c124_15) (fun n s => ∃ (i : Nat), i + n = l.length ∧ s = ⟨[(0, .lst l.length (encL l)), (1, Arg.enc (⟨m⟩ : CloR)), (7, .int .i64 l.length), (8, .int .i64 i)], [], g⟩) l.length ⟨0, by omega, by simp⟩ ?_
  rintro n s ⟨i, hi, rfl⟩
  by_cases h1 : i < l.length
  case pos =>
    have w1 : IntKind.i64.wrap ((i : Int) + 1) = (i : Int) + 1 := wrap64 (by omega) (by omega)
    have hrow := rd_tree l i h1
    have hR : Right1 ⟨l[i].cls, l[i].nodes⟩ ⟨m⟩ = some false := part_of (hr _ (List.getElem_mem h1)) _
    simp -implicitDefEqProofs [h1, hrow, hR, w1]
    exact ⟨n - 1, by omega, i + 1, by omega, by omega⟩
  case neg =>
    simp -implicitDefEqProofs [h1]
theorem c_IndexTrees : Contract Try.prog 124 (sp2 IndexTrees) :=
  contract_of_runs mixed (tbl_cons c_Right1 tbl_nil) Try.func124 m124 (sp2_runs runs_IndexTrees)
noncomputable def ContainsTrees (l : List Tree) (r : CloR) : Option Bool := Part (l.length ≤ 8 ∧ ∀ t ∈ l, okTree r.m t) false
theorem runs_ContainsTrees (l : List Tree) (r : CloR) (c : Bool) (h : ContainsTrees l r = some c) : Runs (tbl [(124, sp2 IndexTrees)]) a76 [Arg.enc l, Arg.enc r] (Arg.enc c) := by
  obtain ⟨hr, rfl⟩ := part_some h
  obtain ⟨m⟩ := r
  refine ⟨rfl, fun g => run_def ?_⟩
  unfold a76
  have hI : IndexTrees l ⟨m⟩ = some (-1) := part_of hr _
  simp -implicitDefEqProofs [hI]
theorem c_ContainsTrees : Contract Try.prog 76 (sp2 ContainsTrees) :=
  contract_of_runs mixed (tbl_cons c_IndexTrees tbl_nil) Try.func76 m76 (sp2_runs runs_ContainsTrees)
noncomputable def MRight (m : Model) : Option Bool := if m.dim < 1 then some false else Part (RM m) true
theorem runs_mRight (m : Model) (c : Bool) (h : MRight m = some c) : Runs (tbl [(75, sp2 Fits), (76, sp2 ContainsTrees)]) a27 [Arg.enc m] (Arg.enc c) := by
  unfold MRight at h
  split at h
  · rename_i hd
    cases h
    refine ⟨rfl, fun g => run_def ?_⟩
    unfold a27
    simp -implicitDefEqProofs [hd]
  · obtain ⟨hr, rfl⟩ := part_some h
    refine ⟨rfl, fun g => run_def ?_⟩
    unfold a27
    have b3 : m.trees.length ≤ maxN := by have := hr.trees; unfold maxN; omega
    have e0 : ¬ m.dim < 1 := by have := hr.dim; omega
    have e1 : ¬ 4 < m.dim := by have := hr.dim; omega
    have e2 : ¬ m.classes < 1 := by have := hr.classes; omega
    have e3 : ¬ 3 < m.classes := by have := hr.classes; omega
    have e4 : ¬ (8 : Int) < m.trees.length := by have := hr.trees; omega
    have e5 : ¬ m.classes ≤ 0 := by omega
    have hb := hr.bias
    have f0 := hb.1
    have f1 := hb.2.1
    have f2 := hb.2.2
    have hC : ContainsTrees m.trees ⟨m⟩ = some false := part_of ⟨hr.trees, hr.tree⟩ _
    have n1 := hr.none1
    have n2 := hr.none2
    have fz : fits 0 = true := rfl
    by_cases k1 : m.classes ≤ 1 <;> by_cases k2 : m.classes ≤ 2
    · have z1 : decide (m.bias.b1 = 0) = true := by simp [n1 k1]
      have z2 : decide (m.bias.b2 = 0) = true := by simp [n2 k2]
      simp -implicitDefEqProofs [run_round, b3, e0, e1, e2, e3, e4, e5, Fits, fz, f0, f1, f2, k1, k2, z1, z2, hC]
    · omega
    · have z2 : decide (m.bias.b2 = 0) = true := by simp [n2 k2]
      simp -implicitDefEqProofs [run_round, b3, e0, e1, e2, e3, e4, e5, Fits, fz, f0, f1, f2, k1, k2, z2, hC]
    · simp -implicitDefEqProofs [run_round, b3, e0, e1, e2, e3, e4, e5, Fits, fz, f0, f1, f2, k1, k2, hC]
theorem c_mRight : Contract Try.prog 27 (sp1 MRight) :=
  contract_of_runs mixed (tbl_cons c_Fits (tbl_cons c_ContainsTrees tbl_nil)) Try.func27 m27 (sp1_runs runs_mRight)
end Go.Co
/- CO: what numbers make: trees, models, regions, queries. -/
namespace Go.Co
open Go.Am Go.Proofs
set_option linter.unusedSimpArgs false
set_option linter.unusedVariables false
def c18_0 : ACode := .ops [⟨some 2, .box (.t 0) 5, none, []⟩,⟨some 4, .mv (.c (.nils)), none, []⟩] [1, 2]
theorem r18_0 : type_of% (@rr _ _ c18_0.eq_1) := rr rfl
def c18_1 : ACode := .ops [⟨some 14, .fad (.t 2) 4, none, [2]⟩,⟨some 15, .load 1 false (.t 14), none, [2]⟩,⟨some 16, .call 65 [.t 15, .c (.int .i64 0)], none, []⟩,⟨some 17, .call 24 [.t 16, .c (.int .i64 (-3000)), .c (.int .i64 3000)], none, []⟩,⟨some 18, .build [.bool false, .int .i64 0, .int .i64 0, .int .i64 0, .int .i64 0, .int .i64 0] [(0, 1, .c (.bool true)), (1, 1, .t 17)], none, []⟩,⟨some 19, .mkrow 5 1 6 [.bool false, .int .i64 0, .int .i64 0, .int .i64 0, .int .i64 0, .int .i64 0] [(0, 6, .t 18)], none, []⟩,⟨some 5, .mv (.t 19), none, []⟩] [1, 2, 5]
theorem r18_1 : type_of% (@rr _ _ c18_1.eq_1) := rr rfl
def c18_2 : ACode := .ops [⟨some 20, .mkrow 6 1 1 [.int .i64 0] [(0, 1, .c (.int .i64 0))], none, []⟩,⟨some 6, .mv (.t 20), none, []⟩] [1, 2, 5, 6]
theorem r18_2 : type_of% (@rr _ _ c18_2.eq_1) := rr rfl
def c18_3 : ACode := .ops [⟨some 7, .mv (.c (.int .i64 0)), none, []⟩] [1, 2, 5, 6, 7]
theorem r18_3 : type_of% (@rr _ _ c18_3.eq_1) := rr rfl
def c18_4 : ACode := .ops [⟨some 21, .mv (.t 7), none, []⟩,⟨some 22, .fad (.t 2) 1, none, [2]⟩,⟨some 23, .load 1 false (.t 22), none, [2]⟩,⟨some 24, .len (.t 23), none, []⟩,⟨some 25, .bin .lss (.t 21) (.t 24), none, []⟩,⟨some 26, .mv (.t 25), none, []⟩,⟨some 27, .mv (.t 7), some (26, true), []⟩,⟨some 28, .bin .lss (.t 27) (.c (.int .i64 7)), some (26, true), []⟩,⟨some 29, .pick (.t 26) (.t 28) (.c (.bool false)), none, []⟩] [1, 2, 5, 6, 7, 29]
theorem r18_4 : type_of% (@rr _ _ c18_4.eq_1) := rr rfl
def c18_5 : ACode := .cond (.t 29) .skip (.exit 0)
theorem r18_5 : type_of% (@rr _ _ c18_5.eq_1) := rr rfl
def c18_6 : ACode := .seq c18_4 c18_5
theorem r18_6 : type_of% (@rr _ _ c18_6.eq_1) := rr rfl
def c18_7 : ACode := .ops [⟨some 32, .fad (.t 2) 1, none, [2]⟩,⟨some 33, .load 1 false (.t 32), none, [2]⟩,⟨some 34, .mv (.t 7), none, []⟩,⟨some 35, .ias (.t 33) (.t 34) 1, none, []⟩,⟨some 36, .load 1 false (.t 35), none, []⟩,⟨some 37, .mv (.t 6), none, []⟩,⟨some 38, .len (.t 37), none, [6]⟩,⟨some 39, .bin .sub (.t 38) (.c (.int .i64 1)), none, []⟩,⟨some 40, .call 24 [.t 36, .c (.int .i64 0), .t 39], none, []⟩,⟨some 8, .mv (.t 40), none, []⟩] [1, 2, 5, 6, 7, 8]
theorem r18_7 : type_of% (@rr _ _ c18_7.eq_1) := rr rfl
def c18_8 : ACode := .ops [⟨some 41, .mv (.t 6), none, []⟩,⟨some 42, .mv (.t 8), none, []⟩,⟨some 43, .ias (.t 41) (.t 42) 1, none, [6]⟩,⟨some 44, .load 1 false (.t 43), none, [6]⟩,⟨some 9, .mv (.t 44), none, []⟩] [1, 2, 5, 6, 7, 8, 9]
theorem r18_8 : type_of% (@rr _ _ c18_8.eq_1) := rr rfl
def c18_9 : ACode := .ops [⟨some 45, .mv (.t 5), none, []⟩,⟨some 46, .len (.t 45), none, [5]⟩,⟨some 10, .mv (.t 46), none, []⟩] [1, 2, 5, 6, 7, 8, 9, 10]
theorem r18_9 : type_of% (@rr _ _ c18_9.eq_1) := rr rfl
def c18_10 : ACode := .ops [⟨some 47, .mv (.t 5), none, []⟩,⟨some 48, .mv (.t 9), none, []⟩,⟨some 49, .fad (.t 2) 2, none, [2]⟩,⟨some 50, .load 1 false (.t 49), none, [2]⟩,⟨some 51, .mv (.t 7), none, []⟩,⟨some 52, .call 65 [.t 50, .t 51], none, []⟩,⟨some 53, .mv (.t 1), none, []⟩,⟨some 54, .bin .sub (.t 53) (.c (.int .i64 1)), none, []⟩,⟨some 55, .call 24 [.t 52, .c (.int .i64 0), .t 54], none, []⟩,⟨some 56, .fad (.t 2) 3, none, [2]⟩,⟨some 57, .load 1 false (.t 56), none, [2]⟩,⟨some 58, .mv (.t 7), none, []⟩,⟨some 59, .call 65 [.t 57, .t 58], none, []⟩,⟨some 60, .call 24 [.t 59, .c (.int .i64 0), .c (.int .i64 9)], none, []⟩,⟨some 61, .mv (.t 10), none, []⟩,⟨some 62, .mv (.t 10), none, []⟩,⟨some 63, .bin .add (.t 62) (.c (.int .i64 1)), none, []⟩,⟨some 64, .build [.bool false, .int .i64 0, .int .i64 0, .int .i64 0, .int .i64 0, .int .i64 0] [(2, 1, .t 55), (3, 1, .t 60), (4, 1, .t 61), (5, 1, .t 63)], none, []⟩,⟨some 65, .ias (.t 47) (.t 48) 6, none, [5]⟩,⟨none, .store (.t 65) 6 (.t 64), none, [5]⟩] [1, 2, 5, 6, 7, 8, 10]
theorem r18_10 : type_of% (@rr _ _ c18_10.eq_1) := rr rfl
def c18_11 : ACode := .ops [⟨some 66, .mv (.t 5), none, []⟩,⟨some 67, .fad (.t 2) 4, none, [2]⟩,⟨some 68, .load 1 false (.t 67), none, [2]⟩,⟨some 69, .mv (.t 7), none, []⟩,⟨some 70, .bin .mul (.c (.int .i64 2)) (.t 69), none, []⟩,⟨some 71, .bin .add (.t 70) (.c (.int .i64 1)), none, []⟩,⟨some 72, .call 65 [.t 68, .t 71], none, []⟩,⟨some 73, .call 24 [.t 72, .c (.int .i64 (-3000)), .c (.int .i64 3000)], none, []⟩,⟨some 74, .build [.bool false, .int .i64 0, .int .i64 0, .int .i64 0, .int .i64 0, .int .i64 0] [(0, 1, .c (.bool true)), (1, 1, .t 73)], none, []⟩,⟨some 75, .fad (.t 2) 4, none, [2]⟩,⟨some 76, .load 1 false (.t 75), none, [2]⟩,⟨some 77, .mv (.t 7), none, []⟩,⟨some 78, .bin .mul (.c (.int .i64 2)) (.t 77), none, []⟩,⟨some 79, .bin .add (.t 78) (.c (.int .i64 2)), none, []⟩,⟨some 80, .call 65 [.t 76, .t 79], none, []⟩,⟨some 81, .call 24 [.t 80, .c (.int .i64 (-3000)), .c (.int .i64 3000)], none, []⟩,⟨some 82, .build [.bool false, .int .i64 0, .int .i64 0, .int .i64 0, .int .i64 0, .int .i64 0] [(0, 1, .c (.bool true)), (1, 1, .t 81)], none, []⟩,⟨some 83, .mkrow 83 2 6 [.bool false, .int .i64 0, .int .i64 0, .int .i64 0, .int .i64 0, .int .i64 0] [(0, 6, .t 74), (6, 6, .t 82)], none, []⟩,⟨some 84, .app 5 [5] (.t 66) (.t 83) 6, none, [5, 83]⟩,⟨some 5, .mv (.t 84), none, []⟩] [1, 2, 5, 6, 7, 8, 10]
theorem r18_11 : type_of% (@rr _ _ c18_11.eq_1) := rr rfl
def c18_12 : ACode := .ops [⟨some 85, .mkrow 85 0 1 [.int .i64 0] [], none, []⟩,⟨some 86, .mv (.t 6), none, []⟩,⟨some 87, .mv (.t 8), none, []⟩,⟨some 88, .sl (.t 86) none (some (.t 87)) 1, none, [6]⟩,⟨some 89, .app 89 [85] (.t 85) (.t 88) 1, none, [6, 85]⟩,⟨some 90, .mv (.t 6), none, []⟩,⟨some 91, .mv (.t 8), none, []⟩,⟨some 92, .bin .add (.t 91) (.c (.int .i64 1)), none, []⟩,⟨some 93, .sl (.t 90) (some (.t 92)) none 1, none, [6]⟩,⟨some 94, .app 94 [89] (.t 89) (.t 93) 1, none, [6, 89]⟩,⟨some 95, .mv (.t 10), none, []⟩,⟨some 96, .mv (.t 10), none, []⟩,⟨some 97, .bin .add (.t 96) (.c (.int .i64 1)), none, []⟩,⟨some 98, .mkrow 98 2 1 [.int .i64 0] [(0, 1, .t 95), (1, 1, .t 97)], none, []⟩,⟨some 99, .app 6 [94] (.t 94) (.t 98) 1, none, [94, 98]⟩,⟨some 6, .mv (.t 99), none, []⟩] [1, 2, 5, 6, 7]
theorem r18_12 : type_of% (@rr _ _ c18_12.eq_1) := rr rfl
def c18_13 : ACode := .seq c18_11 c18_12
theorem r18_13 : type_of% (@rr _ _ c18_13.eq_1) := rr rfl
def c18_14 : ACode := .seq c18_10 c18_13
theorem r18_14 : type_of% (@rr _ _ c18_14.eq_1) := rr rfl
def c18_15 : ACode := .seq c18_9 c18_14
theorem r18_15 : type_of% (@rr _ _ c18_15.eq_1) := rr rfl
def c18_16 : ACode := .seq c18_8 c18_15
theorem r18_16 : type_of% (@rr _ _ c18_16.eq_1) := rr rfl
def c18_17 : ACode := .seq c18_7 c18_16
theorem r18_17 : type_of% (@rr _ _ c18_17.eq_1) := rr rfl
def c18_18 : ACode := .block 1 c18_17
theorem r18_18 : type_of% (@rr _ _ c18_18.eq_1) := rr rfl
def c18_19 : ACode := .ops [⟨some 30, .mv (.t 7), none, []⟩,⟨some 31, .bin .add (.t 30) (.c (.int .i64 1)), none, []⟩,⟨some 7, .mv (.t 31), none, []⟩] [1, 2, 5, 6, 7]
theorem r18_19 : type_of% (@rr _ _ c18_19.eq_1) := rr rfl
def c18_20 : ACode := .seq c18_18 c18_19
theorem r18_20 : type_of% (@rr _ _ c18_20.eq_1) := rr rfl
def c18_21 : ACode := .seq c18_6 c18_20
theorem r18_21 : type_of% (@rr _ _ c18_21.eq_1) := rr rfl
def c18_22 : ACode := .keep [1, 2, 5, 6, 7] [2, 5, 6] c18_21
theorem r18_22 : type_of% (@rr _ _ c18_22.eq_1) := rr rfl
def c18_23 : ACode := .loop c18_22
theorem r18_23 : type_of% (@rr _ _ c18_23.eq_1) := rr rfl
def c18_24 : ACode := .block 0 c18_23
theorem r18_24 : type_of% (@rr _ _ c18_24.eq_1) := rr rfl
def c18_25 : ACode := .seq c18_3 c18_24
theorem r18_25 : type_of% (@rr _ _ c18_25.eq_1) := rr rfl
def c18_26 : ACode := .ops [⟨some 11, .nil0 11 1, none, []⟩] [5, 11]
theorem r18_26 : type_of% (@rr _ _ c18_26.eq_1) := rr rfl
def c18_27 : ACode := .ops [⟨some 100, .mv (.t 5), none, []⟩,⟨some 101, .len (.t 100), none, [5]⟩,⟨some 102, .mv (.c (.int .i64 0)), none, []⟩] [11, 100, 101, 102]
theorem r18_27 : type_of% (@rr _ _ c18_27.eq_1) := rr rfl
def c18_28 : ACode := .ops [⟨some 103, .bin .lss (.t 102) (.t 101), none, []⟩] [11, 100, 101, 102, 103]
theorem r18_28 : type_of% (@rr _ _ c18_28.eq_1) := rr rfl
def c18_29 : ACode := .cond (.t 103) .skip (.exit 2)
theorem r18_29 : type_of% (@rr _ _ c18_29.eq_1) := rr rfl
def c18_30 : ACode := .ops [⟨some 104, .ias (.t 100) (.t 102) 6, none, [5]⟩,⟨some 105, .load 6 true (.t 104), none, [5]⟩,⟨some 13, .alloc [.bool false, .int .i64 0, .int .i64 0, .int .i64 0, .int .i64 0, .int .i64 0], none, []⟩,⟨none, .store (.t 13) 6 (.t 105), none, [13]⟩] [11, 13, 100, 101, 102]
theorem r18_30 : type_of% (@rr _ _ c18_30.eq_1) := rr rfl
def c18_31 : ACode := .ops [⟨some 106, .mv (.t 11), none, []⟩,⟨some 107, .load 6 true (.t 13), none, [13]⟩,⟨some 108, .call 68 [.t 107], none, []⟩,⟨some 109, .mkrow 109 1 1 [.int .u64 0] [(0, 1, .t 108)], none, []⟩,⟨some 110, .app 11 [11] (.t 106) (.t 109) 1, none, [11, 109]⟩,⟨some 11, .mv (.t 110), none, []⟩] [11, 100, 101, 102]
theorem r18_31 : type_of% (@rr _ _ c18_31.eq_1) := rr rfl
def c18_32 : ACode := .seq c18_30 c18_31
theorem r18_32 : type_of% (@rr _ _ c18_32.eq_1) := rr rfl
def c18_33 : ACode := .block 3 c18_32
theorem r18_33 : type_of% (@rr _ _ c18_33.eq_1) := rr rfl
def c18_34 : ACode := .ops [⟨some 111, .bin .add (.t 102) (.c (.int .i64 1)), none, []⟩,⟨some 102, .mv (.t 111), none, []⟩] [11, 100, 101, 102]
theorem r18_34 : type_of% (@rr _ _ c18_34.eq_1) := rr rfl
def c18_35 : ACode := .seq c18_33 c18_34
theorem r18_35 : type_of% (@rr _ _ c18_35.eq_1) := rr rfl
def c18_36 : ACode := .seq c18_29 c18_35
theorem r18_36 : type_of% (@rr _ _ c18_36.eq_1) := rr rfl
def c18_37 : ACode := .seq c18_28 c18_36
theorem r18_37 : type_of% (@rr _ _ c18_37.eq_1) := rr rfl
def c18_38 : ACode := .keep [11, 100, 101, 102] [5, 11] c18_37
theorem r18_38 : type_of% (@rr _ _ c18_38.eq_1) := rr rfl
def c18_39 : ACode := .loop c18_38
theorem r18_39 : type_of% (@rr _ _ c18_39.eq_1) := rr rfl
def c18_40 : ACode := .block 2 c18_39
theorem r18_40 : type_of% (@rr _ _ c18_40.eq_1) := rr rfl
def c18_41 : ACode := .seq c18_27 c18_40
theorem r18_41 : type_of% (@rr _ _ c18_41.eq_1) := rr rfl
def c18_42 : ACode := .ops [⟨some 112, .mv (.t 11), none, []⟩,⟨some 4, .mv (.t 112), none, []⟩] [4]
theorem r18_42 : type_of% (@rr _ _ c18_42.eq_1) := rr rfl
def c18_43 : ACode := .seq c18_42 .ret
theorem r18_43 : type_of% (@rr _ _ c18_43.eq_1) := rr rfl
def c18_44 : ACode := .seq c18_41 c18_43
theorem r18_44 : type_of% (@rr _ _ c18_44.eq_1) := rr rfl
def c18_45 : ACode := .seq c18_26 c18_44
theorem r18_45 : type_of% (@rr _ _ c18_45.eq_1) := rr rfl
def c18_46 : ACode := .seq c18_25 c18_45
theorem r18_46 : type_of% (@rr _ _ c18_46.eq_1) := rr rfl
def c18_47 : ACode := .seq c18_2 c18_46
theorem r18_47 : type_of% (@rr _ _ c18_47.eq_1) := rr rfl
def c18_48 : ACode := .seq c18_1 c18_47
theorem r18_48 : type_of% (@rr _ _ c18_48.eq_1) := rr rfl
def c18_49 : ACode := .seq c18_0 c18_48
theorem r18_49 : type_of% (@rr _ _ c18_49.eq_1) := rr rfl
def a18 : AFun := ⟨2, 113, c18_49, [.t 4]⟩
attribute [simp] r18_0 r18_1 r18_2 r18_3 r18_4 r18_5 r18_6 r18_7 r18_8 r18_9 r18_10 r18_11 r18_12 r18_13 r18_14 r18_15 r18_16 r18_17 r18_18 r18_19 r18_20 r18_21 r18_22 r18_23 r18_24 r18_25 r18_26 r18_27 r18_28 r18_29 r18_30 r18_31 r18_32 r18_33 r18_34 r18_35 r18_36 r18_37 r18_38 r18_39 r18_40 r18_41 r18_42 r18_43 r18_44 r18_45 r18_46 r18_47 r18_48 r18_49
theorem m18 : mFun Try.prog Try.f18 a18 = true := by decide +kernel
noncomputable def NodesC (t : KTree) (dim : Int) : Option (List Word) := Part (1 ≤ dim ∧ dim ≤ 4) (treeNodes t dim)
theorem within_of (n lo hi : Int) (h : -1125899906842624 ≤ lo ∧ lo ≤ hi ∧ hi ≤ 1125899906842624) : Within n lo hi = some (within n lo hi) := by unfold Within; rw [if_pos h]
theorem pick_of (l : List Int) (i : Nat) : Pick l (i : Int) = some (pick l i) := by unfold Pick; rw [if_pos (by omega)]; simp
theorem pick_0 (l : List Int) : Pick l 0 = some (pick l 0) := pick_of l 0
theorem rd_node (l : List Node) (i : Nat) (h : i < l.length) : rd (encL l) (i * 6) 6 true = some (.agg [.bool l[i].leaf, .int .i64 l[i].value, .int .i64 l[i].feature, .int .i64 l[i].cut, .int .i64 l[i].left, .int .i64 l[i].right]) := rd_row l i h
theorem nodes_out {C : Cs} (hC : ∀ n : Node, C 68 [.agg [.bool n.leaf, .int .i64 n.value, .int .i64 n.feature, .int .i64 n.cut, .int .i64 n.left, .int .i64 n.right]] = some (.int .u64 (pack n).v)) (l : List Node) (hl : l.length ≤ 31) (g : Nat → Nat) (h : Hp)
    (hh : keepH h [5, 11] = [(5, ⟨encL l, false, 6⟩), (11, ⟨[], false, 1⟩)]) :
    run C (.loop c18_38) [Fr.blk 2, Fr.c c18_43] ⟨[(11, .own 11 (g 11) 0 0), (100, .own 5 (g 5) 0 l.length), (101, .int .i64 l.length), (102, .int .i64 0)], h, g⟩ (fin [ARes.t 4] (AV.lst l.length (encL (l.map pack)))) := by
  refine run_while (c := c18_37) (fun n s => ∃ (i : Nat) (g : Nat → Nat), i + n = l.length ∧ s = ⟨[(11, .own 11 (g 11) 0 i), (100, .own 5 (g 5) 0 l.length), (101, .int .i64 l.length), (102, .int .i64 i)], [(5, ⟨encL l, false, 6⟩), (11, ⟨encL ((l.take i).map pack), false, 1⟩)], g⟩) l.length ⟨0, g, by omega, ?_⟩ ?_
  · simp only [hh]
    simp [encL]
  rintro n s ⟨i, g, hi, rfl⟩
  by_cases h1 : i < l.length
  case pos =>
    have w1 : IntKind.i64.wrap ((i : Int) + 1) = (i : Int) + 1 := wrap64 (by omega) (by omega)
    have hr := rd_node l i h1
    have hL : ((l.take i).map pack).length = i := by simp; omega
    have htk : List.take i (encL ((l.take i).map pack)) = encL ((l.take i).map pack) := take_rows _ _ (by simp; omega)
    have c1 : i ≤ l.length := by omega
    have c2 : i ≤ 1099511627775 := by omega
    simp -implicitDefEqProofs [h1, hr, hC, w1, encL_length, c1, c2]
    refine ⟨n - 1, by omega, i + 1, by omega, ⟨rfl, by omega⟩, ?_⟩
    rw [List.take_take, Nat.min_self, ← List.map_take, ← List.map_take, List.take_succ_eq_append_getElem h1, List.map_append, encL_append]
    rfl
  case neg =>
    have hil : i = l.length := by omega
    subst hil
    have htk : List.take l.length (List.map pack l) = List.map pack l := List.take_of_length_le (by simp)
    simp -implicitDefEqProofs [h1, htk, encL_length]
theorem runs_Nodes (t : KTree) (dim : Int) (c : List Word) (h : NodesC t dim = some c) : Runs (tbl [(65, sp2 Pick), (24, sp3 Within), (68, sp1 fun n => some (pack n))]) a18 [Arg.enc t, Arg.enc dim] (Arg.enc c) := by
  obtain ⟨⟨d1, d2⟩, rfl⟩ := part_some h
  refine ⟨rfl, fun g => run_def ?_⟩
  unfold a18
  have hw0 := within_of (pick t.val 0) (-3000) 3000 (by omega)
  by_cases hm : t.part.length ≤ maxN
  case neg => simp -implicitDefEqProofs [pick_0, hw0, hm, run_round]
  simp -implicitDefEqProofs [pick_0, hw0]
  refine run_while (c := c18_21) (fun n s => ∃ (i : Nat) (g : Nat → Nat), i + n = min t.part.length 7 ∧ s = ⟨[(1, .int .i64 dim), (2, .ptr 2 (g 2) 0), (5, .own 5 (g 5) 0 (grow t dim i).nodes.length), (6, .own 6 (g 6) 0 (grow t dim i).leaves.length), (7, .int .i64 i)],
    [(2, ⟨[.int .i64 t.cls, .lst t.part.length (encL t.part), .lst t.dir.length (encL t.dir), .lst t.cut.length (encL t.cut), .lst t.val.length (encL t.val)], false, 0⟩), (5, ⟨encL (grow t dim i).nodes, false, 6⟩), (6, ⟨encL (grow t dim i).leaves, false, 1⟩)], g⟩) (min t.part.length 7) ⟨0, bump 6 (bump 5 (bump 2 g)), by omega, by simp [grow, grow0, leafN, encL]⟩ ?_
  rintro n s ⟨i, g, hi, rfl⟩
  have w1 : IntKind.i64.wrap ((i : Int) + 1) = (i : Int) + 1 := wrap64 (by omega) (by omega)
  by_cases h1 : i < min t.part.length 7
  case pos =>
    have hG := gi t dim d1 d2 i (by omega)
    have hs : grow t dim (i + 1) = growS t dim i (grow t dim i) := rfl
    generalize grow t dim i = G at *
    have L1 := hG.len
    have L2 := hG.lvs
    have c1 : i < t.part.length := by omega
    have c2 : (i : Int) < 7 := by omega
    have c3 : G.leaves.length ≤ maxN := by unfold maxN; omega
    have c4 : G.nodes.length ≤ maxN := by unfold maxN; omega
    have w2 : IntKind.i64.wrap ((G.leaves.length : Int) - 1) = (G.leaves.length : Int) - 1 := wrap64 (by omega) (by omega)
    have w3 : IntKind.i64.wrap ((G.nodes.length : Int) + 1) = (G.nodes.length : Int) + 1 := wrap64 (by omega) (by omega)
    have w4 : IntKind.i64.wrap (dim - 1) = dim - 1 := wrap64 (by omega) (by omega)
    have w5 : IntKind.i64.wrap (2 * (i : Int)) = 2 * (i : Int) := wrap64 (by omega) (by omega)
    have w6 : IntKind.i64.wrap (2 * (i : Int) + 1) = 2 * (i : Int) + 1 := wrap64 (by omega) (by omega)
    have w7 : IntKind.i64.wrap (2 * (i : Int) + 2) = 2 * (i : Int) + 2 := wrap64 (by omega) (by omega)
    have p5 : Pick t.val (2 * (i : Int) + 1) = some (pick t.val (2 * i + 1)) := pick_of t.val (2 * i + 1)
    have p6 : Pick t.val (2 * (i : Int) + 2) = some (pick t.val (2 * i + 2)) := pick_of t.val (2 * i + 2)
    have v5 := within_of (pick t.val (2 * i + 1)) (-3000) 3000 (by omega)
    have v6 := within_of (pick t.val (2 * i + 2)) (-3000) 3000 (by omega)
    have v7 := within_of (pick t.dir i) 0 (dim - 1) (by omega)
    have v8 := within_of (pick t.cut i) 0 9 (by omega)
    have v9 := within_of t.part[i] 0 ((G.leaves.length : Int) - 1) (by omega)
    have hk := within_le t.part[i] 0 ((G.leaves.length : Int) - 1) (by omega)
    have hkK : growK t i G = (within t.part[i] 0 ((G.leaves.length : Int) - 1)).toNat := by unfold growK; simp [c1]
    generalize within t.part[i] 0 ((G.leaves.length : Int) - 1) = K at *
    obtain ⟨k, rfl⟩ : ∃ k : Nat, K = k := ⟨K.toNat, by omega⟩
    simp only [Int.toNat_natCast] at hkK
    have c5 : k < G.leaves.length := by omega
    obtain ⟨hl0, hl1, hl2⟩ := hG.leaf _ (List.getElem_mem c5)
    have c6 : G.leaves[k] < G.nodes.length := by omega
    have w8 : IntKind.i64.wrap ((k : Int) + 1) = (k : Int) + 1 := wrap64 (by omega) (by omega)
    have c7 : (k : Int) + 1 ≤ G.leaves.length := by omega
    have c8 : (k : Int) ≤ G.leaves.length := by omega
    have c9 : k ≤ G.leaves.length := by omega
    have c10 : G.leaves[k].toNat * 6 + 6 ≤ G.nodes.length * 6 := by omega
    have c11 : G.nodes.length ≤ 1099511627774 := by omega
    have c12 : k ≤ 1099511627776 := by omega
    have c13 : 0 ≤ (k : Int) + 1 := by omega
    have c14 : k + 1 ≤ G.leaves.length := by omega
    have hwr : wr (encL G.nodes) (G.leaves[k].toNat * 6) [.bool false, .int .i64 0, .int .i64 (within (pick t.dir i) 0 (dim - 1)), .int .i64 (within (pick t.cut i) 0 9), .int .i64 G.nodes.length, .int .i64 (G.nodes.length + 1)] = encL (G.nodes.set G.leaves[k].toNat (growN t dim i G.nodes.length)) := wr_row G.nodes _ hl1 (growN t dim i G.nodes.length)
    have htk : List.take (G.nodes.length * 6) (encL (G.nodes.set G.leaves[k].toNat (growN t dim i G.nodes.length))) = encL (G.nodes.set G.leaves[k].toNat (growN t dim i G.nodes.length)) := take_rows _ _ (by simp)
    simp -implicitDefEqProofs [hm, c1, c2, c3, c4, c5, c6, c7, c8, c9, c10, c11, c12, c13, c14, hwr, htk, hl0, hl1, w1, w2, w3, w4, w5, w6, w7, w8, p5, p6, v5, v6, v7, v8, v9, pick_of, rd_ints, encL_length]
    have hgl : (growS t dim i G).leaves = G.leaves.take k ++ G.leaves.drop (k + 1) ++ [(G.nodes.length : Int), G.nodes.length + 1] := by unfold growS; rw [hkK]
    have hgn : (growS t dim i G).nodes = G.nodes.set G.leaves[k].toNat (growN t dim i G.nodes.length) ++ [leafN (within (pick t.val (2 * i + 1)) (-3000) 3000), leafN (within (pick t.val (2 * i + 2)) (-3000) 3000)] := by
      unfold growS
      have : G.leaves.getD k 0 = G.leaves[k] := by simp [c5]
      rw [hkK, this]
    refine ⟨fun _ => ⟨fun _ => ⟨n - 1, by omega, i + 1, by omega, ⟨?_, ?_, by omega⟩, ?_, ?_⟩, by omega⟩, by omega⟩
    · rw [hs, hgn]; simp
    · rw [hs, hgl]; simp; omega
    · rw [hs, hgn, encL_append]; rfl
    · rw [hs, hgl, encL_append, encL_append]
      rw [List.take_take, Nat.min_self, List.take_of_length_le (show (G.leaves.drop (k + 1)).length ≤ G.leaves.length - (k + 1) by simp)]
      rw [List.take_of_length_le (by rw [List.length_append, encL_length, encL_length]; simp; omega)]
      rfl
  case neg =>
    have hil : i = min t.part.length 7 := by omega
    have c1 : ¬ ((i : Int) < t.part.length ∧ (i : Int) < 7) := by omega
    have hT : treeNodes t dim = (grow t dim i).nodes.map pack := by rw [hil]; rfl
    have hG := gi t dim d1 d2 i (by omega)
    have hok : ∀ n ∈ (grow t dim i).nodes, rightNode n = true := hG.ok
    have L1 := hG.len
    rw [hT]
    generalize (grow t dim i).nodes = l at *
    have c3 : l.length ≤ maxN := by unfold maxN; omega
    have hl : l.length ≤ 31 := by omega
    by_cases c2 : (i : Int) < t.part.length
    case pos =>
      have c4 : ¬ (i : Int) < 7 := by omega
      simp -implicitDefEqProofs [hm, c2, c4, c3]
      exact nodes_out (fun n => by simp) l hl (bump 11 g) _ (by simp)
    case neg =>
      simp -implicitDefEqProofs [hm, c2, c3]
      exact nodes_out (fun n => by simp) l hl (bump 11 g) _ (by simp)
theorem c_Nodes : Contract Try.prog 18 (sp2 NodesC) :=
  contract_of_runs mixed (tbl_cons c_pick (tbl_cons c_Within (tbl_cons c_rPack tbl_nil))) Try.func18 m18 (sp2_runs runs_Nodes)
end Go.Co
/- CO: the model that numbers make. -/
set_option maxHeartbeats 16000000
set_option maxRecDepth 100000
namespace Go.Co
open Go.Am Go.Proofs
set_option linter.unusedSimpArgs false
set_option linter.unusedVariables false
def c15_0 : ACode := .ops [⟨some 1, .box (.t 0) 4, none, []⟩,⟨some 2, .alloc [.int .i64 0, .int .i64 0, .int .i64 0, .int .i64 0, .int .i64 0, .nils], none, []⟩] [1, 2]
theorem r15_0 : type_of% (@rr _ _ c15_0.eq_1) := rr rfl
def c15_1 : ACode := .ops [⟨some 6, .fad (.t 1) 0, none, [1]⟩,⟨some 7, .load 1 false (.t 6), none, [1]⟩,⟨some 8, .call 24 [.t 7, .c (.int .i64 1), .c (.int .i64 3)], none, []⟩,⟨some 9, .fad (.t 1) 1, none, [1]⟩,⟨some 10, .load 1 false (.t 9), none, [1]⟩,⟨some 11, .call 24 [.t 10, .c (.int .i64 1), .c (.int .i64 3)], none, []⟩,⟨some 12, .build [.int .i64 0, .int .i64 0, .int .i64 0, .int .i64 0, .int .i64 0, .nils] [(0, 1, .t 8), (1, 1, .t 11)], none, []⟩,⟨some 3, .alloc [.int .i64 0, .int .i64 0, .int .i64 0, .int .i64 0, .int .i64 0, .nils], none, []⟩,⟨none, .store (.t 3) 6 (.t 12), none, [3]⟩] [1, 2, 3]
theorem r15_1 : type_of% (@rr _ _ c15_1.eq_1) := rr rfl
def c15_2 : ACode := .ops [⟨some 13, .fad (.t 3) 1, none, [3]⟩,⟨some 14, .load 1 false (.t 13), none, [3]⟩,⟨some 15, .mv (.c (.int .i64 0)), none, []⟩] [1, 2, 3, 14, 15]
theorem r15_2 : type_of% (@rr _ _ c15_2.eq_1) := rr rfl
def c15_3 : ACode := .ops [⟨some 16, .bin .lss (.t 15) (.t 14), none, []⟩] [1, 2, 3, 14, 15, 16]
theorem r15_3 : type_of% (@rr _ _ c15_3.eq_1) := rr rfl
def c15_4 : ACode := .cond (.t 16) .skip (.exit 0)
theorem r15_4 : type_of% (@rr _ _ c15_4.eq_1) := rr rfl
def c15_5 : ACode := .ops [⟨some 17, .mv (.t 15), none, []⟩,⟨some 4, .mv (.t 17), none, []⟩] [1, 2, 3, 4, 14, 15]
theorem r15_5 : type_of% (@rr _ _ c15_5.eq_1) := rr rfl
def c15_6 : ACode := .ops [⟨some 18, .mv (.t 4), none, []⟩,⟨some 19, .fad (.t 1) 2, none, [1]⟩,⟨some 20, .load 1 false (.t 19), none, [1]⟩,⟨some 21, .mv (.t 4), none, []⟩,⟨some 22, .call 65 [.t 20, .t 21], none, []⟩,⟨some 23, .call 24 [.t 22, .c (.int .i64 (-500)), .c (.int .i64 500)], none, []⟩,⟨some 24, .fad (.t 3) 2, none, [3]⟩,⟨some 25, .iad (.t 24) (.t 18) 1 3, none, [3]⟩,⟨none, .store (.t 25) 1 (.t 23), none, [3]⟩] [1, 2, 3, 14, 15]
theorem r15_6 : type_of% (@rr _ _ c15_6.eq_1) := rr rfl
def c15_7 : ACode := .seq c15_5 c15_6
theorem r15_7 : type_of% (@rr _ _ c15_7.eq_1) := rr rfl
def c15_8 : ACode := .block 1 c15_7
theorem r15_8 : type_of% (@rr _ _ c15_8.eq_1) := rr rfl
def c15_9 : ACode := .ops [⟨some 26, .bin .add (.t 15) (.c (.int .i64 1)), none, []⟩,⟨some 15, .mv (.t 26), none, []⟩] [1, 2, 3, 14, 15]
theorem r15_9 : type_of% (@rr _ _ c15_9.eq_1) := rr rfl
def c15_10 : ACode := .seq c15_8 c15_9
theorem r15_10 : type_of% (@rr _ _ c15_10.eq_1) := rr rfl
def c15_11 : ACode := .seq c15_4 c15_10
theorem r15_11 : type_of% (@rr _ _ c15_11.eq_1) := rr rfl
def c15_12 : ACode := .seq c15_3 c15_11
theorem r15_12 : type_of% (@rr _ _ c15_12.eq_1) := rr rfl
def c15_13 : ACode := .keep [1, 2, 3, 14, 15] [1, 2, 3, 10305] c15_12
theorem r15_13 : type_of% (@rr _ _ c15_13.eq_1) := rr rfl
def c15_14 : ACode := .loop c15_13
theorem r15_14 : type_of% (@rr _ _ c15_14.eq_1) := rr rfl
def c15_15 : ACode := .block 0 c15_14
theorem r15_15 : type_of% (@rr _ _ c15_15.eq_1) := rr rfl
def c15_16 : ACode := .seq c15_2 c15_15
theorem r15_16 : type_of% (@rr _ _ c15_16.eq_1) := rr rfl
def c15_17 : ACode := .ops [⟨some 5, .mv (.c (.int .i64 0)), none, []⟩] [1, 2, 3, 5]
theorem r15_17 : type_of% (@rr _ _ c15_17.eq_1) := rr rfl
def c15_18 : ACode := .ops [⟨some 27, .mv (.t 5), none, []⟩,⟨some 28, .fad (.t 1) 3, none, [1]⟩,⟨some 29, .load 1 false (.t 28), none, [1]⟩,⟨some 30, .len (.t 29), none, []⟩,⟨some 31, .bin .lss (.t 27) (.t 30), none, []⟩,⟨some 32, .mv (.t 31), none, []⟩,⟨some 33, .mv (.t 5), some (32, true), []⟩,⟨some 34, .bin .lss (.t 33) (.c (.int .i64 4)), some (32, true), []⟩,⟨some 35, .pick (.t 32) (.t 34) (.c (.bool false)), none, []⟩] [1, 2, 3, 5, 35]
theorem r15_18 : type_of% (@rr _ _ c15_18.eq_1) := rr rfl
def c15_19 : ACode := .cond (.t 35) .skip (.exit 2)
theorem r15_19 : type_of% (@rr _ _ c15_19.eq_1) := rr rfl
def c15_20 : ACode := .seq c15_18 c15_19
theorem r15_20 : type_of% (@rr _ _ c15_20.eq_1) := rr rfl
def c15_21 : ACode := .ops [⟨some 38, .fad (.t 3) 5, none, [3]⟩,⟨some 39, .load 1 false (.t 38), none, [3]⟩,⟨some 40, .fad (.t 1) 3, none, [1]⟩,⟨some 41, .load 1 false (.t 40), none, [1]⟩,⟨some 42, .mv (.t 5), none, []⟩,⟨some 43, .ias (.t 41) (.t 42) 5, none, []⟩,⟨some 44, .fad (.t 43) 0, none, []⟩,⟨some 45, .load 1 false (.t 44), none, []⟩,⟨some 46, .fad (.t 3) 1, none, [3]⟩,⟨some 47, .load 1 false (.t 46), none, [3]⟩,⟨some 48, .bin .sub (.t 47) (.c (.int .i64 1)), none, []⟩,⟨some 49, .call 24 [.t 45, .c (.int .i64 0), .t 48], none, []⟩,⟨some 50, .fad (.t 1) 3, none, [1]⟩,⟨some 51, .load 1 false (.t 50), none, [1]⟩,⟨some 52, .mv (.t 5), none, []⟩,⟨some 53, .ias (.t 51) (.t 52) 5, none, []⟩,⟨some 54, .load 5 true (.t 53), none, []⟩,⟨some 55, .fad (.t 3) 0, none, [3]⟩,⟨some 56, .load 1 false (.t 55), none, [3]⟩,⟨some 57, .call 18 [.t 54, .t 56], none, []⟩,⟨some 58, .build [.int .i64 0, .nils] [(0, 1, .t 49), (1, 1, .t 57)], none, []⟩,⟨some 59, .mkrow 59 1 2 [.int .i64 0, .nils] [(0, 2, .t 58)], none, []⟩,⟨some 60, .app 10305 [10305] (.t 39) (.t 59) 2, none, [59, 10305]⟩,⟨some 61, .fad (.t 3) 5, none, [3]⟩,⟨none, .store (.t 61) 1 (.t 60), none, [3]⟩] [1, 2, 3, 5]
theorem r15_21 : type_of% (@rr _ _ c15_21.eq_1) := rr rfl
def c15_22 : ACode := .block 3 c15_21
theorem r15_22 : type_of% (@rr _ _ c15_22.eq_1) := rr rfl
def c15_23 : ACode := .ops [⟨some 36, .mv (.t 5), none, []⟩,⟨some 37, .bin .add (.t 36) (.c (.int .i64 1)), none, []⟩,⟨some 5, .mv (.t 37), none, []⟩] [1, 2, 3, 5]
theorem r15_23 : type_of% (@rr _ _ c15_23.eq_1) := rr rfl
def c15_24 : ACode := .seq c15_22 c15_23
theorem r15_24 : type_of% (@rr _ _ c15_24.eq_1) := rr rfl
def c15_25 : ACode := .seq c15_20 c15_24
theorem r15_25 : type_of% (@rr _ _ c15_25.eq_1) := rr rfl
def c15_26 : ACode := .keep [1, 2, 3, 5] [1, 2, 3, 10305] c15_25
theorem r15_26 : type_of% (@rr _ _ c15_26.eq_1) := rr rfl
def c15_27 : ACode := .loop c15_26
theorem r15_27 : type_of% (@rr _ _ c15_27.eq_1) := rr rfl
def c15_28 : ACode := .block 2 c15_27
theorem r15_28 : type_of% (@rr _ _ c15_28.eq_1) := rr rfl
def c15_29 : ACode := .seq c15_17 c15_28
theorem r15_29 : type_of% (@rr _ _ c15_29.eq_1) := rr rfl
def c15_30 : ACode := .ops [⟨some 62, .load 6 true (.t 3), none, [3]⟩,⟨none, .store (.t 2) 6 (.t 62), none, [2]⟩] [2]
theorem r15_30 : type_of% (@rr _ _ c15_30.eq_1) := rr rfl
def c15_31 : ACode := .seq c15_30 .ret
theorem r15_31 : type_of% (@rr _ _ c15_31.eq_1) := rr rfl
def c15_32 : ACode := .seq c15_29 c15_31
theorem r15_32 : type_of% (@rr _ _ c15_32.eq_1) := rr rfl
def c15_33 : ACode := .seq c15_16 c15_32
theorem r15_33 : type_of% (@rr _ _ c15_33.eq_1) := rr rfl
def c15_34 : ACode := .seq c15_1 c15_33
theorem r15_34 : type_of% (@rr _ _ c15_34.eq_1) := rr rfl
def c15_35 : ACode := .seq c15_0 c15_34
theorem r15_35 : type_of% (@rr _ _ c15_35.eq_1) := rr rfl
def a15 : AFun := ⟨1, 63, c15_35, [.cell 2 6 true]⟩
attribute [simp] r15_0 r15_1 r15_2 r15_3 r15_4 r15_5 r15_6 r15_7 r15_8 r15_9 r15_10 r15_11 r15_12 r15_13 r15_14 r15_15 r15_16 r15_17 r15_18 r15_19 r15_20 r15_21 r15_22 r15_23 r15_24 r15_25 r15_26 r15_27 r15_28 r15_29 r15_30 r15_31 r15_32 r15_33 r15_34 r15_35
theorem m15 : mFun Try.prog Try.f15 a15 = true := by decide +kernel
theorem rd_ktree (l : List KTree) (i : Nat) (h : i < l.length) : rd (encL l) (i * 5) 5 true = some (.agg [.int .i64 l[i].cls, .lst l[i].part.length (encL l[i].part), .lst l[i].dir.length (encL l[i].dir), .lst l[i].cut.length (encL l[i].cut), .lst l[i].val.length (encL l[i].val)]) := rd_row l i h
theorem rd_ktree0 (l : List KTree) (i : Nat) (h : i < l.length) : rd (encL l) (i * 5) 1 false = some (.int .i64 l[i].cls) := rd_cell l i 0 h (by decide)
def fcells (f : Forest) : List AV := [.int .i64 f.dim, .int .i64 f.classes, .lst f.bias.length (encL f.bias), .lst f.trees.length (encL f.trees)]
theorem forest_trees {C : Cs} (hW : ∀ n lo hi : Int, C 24 [.int .i64 n, .int .i64 lo, .int .i64 hi] = (Within n lo hi).map Arg.enc)
    (hN : ∀ (t : KTree) (dim : Int), C 18 [.agg [.int .i64 t.cls, .lst t.part.length (encL t.part), .lst t.dir.length (encL t.dir), .lst t.cut.length (encL t.cut), .lst t.val.length (encL t.val)], .int .i64 dim] = (NodesC t dim).map Arg.enc)
    (f : Forest) (b : Bias) (g : Nat → Nat) (h : Hp)
    (hh : keepH h [1, 2, 3, 10305] = [(1, ⟨fcells f, false, 0⟩), (2, ⟨[.int .i64 0, .int .i64 0, .int .i64 0, .int .i64 0, .int .i64 0, .nils], false, 0⟩), (3, ⟨[.int .i64 (mDim f), .int .i64 (mClasses f), .int .i64 b.b0, .int .i64 b.b1, .int .i64 b.b2, .nils], false, 0⟩)]) :
    run C (.loop c15_26) [Fr.blk 2, Fr.c c15_31] ⟨[(1, .ptr 1 (g 1) 0), (2, .ptr 2 (g 2) 0), (3, .ptr 3 (g 3) 0), (5, .int .i64 0)], h, g⟩
      (fin [ARes.cell 2 6 true] (Arg.enc (⟨mDim f, mClasses f, b, (f.trees.take 4).map (mTree f)⟩ : Model))) := by
  have hd := mDim_le f
  have hc := mClasses_le f
  by_cases hm : f.trees.length ≤ maxN
  case neg =>
    rw [run_round]
    unfold c15_26
    rw [run_keep]
    simp only [hh]
    simp -implicitDefEqProofs [hm, fcells]
  refine run_while (c := c15_25) (fun n s => ∃ (i : Nat) (g : Nat → Nat), i + n = min f.trees.length 4 ∧ s = ⟨[(1, .ptr 1 (g 1) 0), (2, .ptr 2 (g 2) 0), (3, .ptr 3 (g 3) 0), (5, .int .i64 i)],
    (1, ⟨fcells f, false, 0⟩) :: (2, ⟨[.int .i64 0, .int .i64 0, .int .i64 0, .int .i64 0, .int .i64 0, .nils], false, 0⟩) :: (3, ⟨[.int .i64 (mDim f), .int .i64 (mClasses f), .int .i64 b.b0, .int .i64 b.b1, .int .i64 b.b2, if i = 0 then .nils else .own 10305 (g 10305) 0 i], false, 0⟩) ::
      (if i = 0 then [] else [(10305, ⟨encL ((f.trees.map (mTree f)).take i), false, 2⟩)]), g⟩) (min f.trees.length 4) ⟨0, g, by omega, ?_⟩ ?_
  · simp only [hh]
    simp
  rintro n s ⟨i, g, hi, rfl⟩
  have w1 : IntKind.i64.wrap ((i : Int) + 1) = (i : Int) + 1 := wrap64 (by omega) (by omega)
  by_cases h1 : i < min f.trees.length 4
  case pos =>
    have c1 : i < f.trees.length := by omega
    have c2 : (i : Int) < 4 := by omega
    have r1 := rd_ktree f.trees i c1
    have r0 := rd_ktree0 f.trees i c1
    have w2 : IntKind.i64.wrap (mClasses f - 1) = mClasses f - 1 := wrap64 (by omega) (by omega)
    have v1 := within_of f.trees[i].cls 0 (mClasses f - 1) (by omega)
    have v2 : NodesC f.trees[i] (mDim f) = some (treeNodes f.trees[i] (mDim f)) := part_of ⟨hd.1, by omega⟩ _
    have c3 : i ≤ 1099511627775 := by omega
    have hL : ((f.trees.map (mTree f)).take i).length = i := by simp; omega
    have c4 : i ≤ f.trees.length := by omega
    have c5 : i * 2 ≤ (encL ((f.trees.map (mTree f)).take i)).length := by rw [encL_length, hL]; exact Nat.le_refl _
    have htk : List.take (i * 2) (encL ((f.trees.map (mTree f)).take i)) = encL ((f.trees.map (mTree f)).take i) := take_rows _ _ (by rw [hL]; exact Nat.le_refl _)
    have he : encL ((f.trees.map (mTree f)).take (i + 1)) = encL ((f.trees.map (mTree f)).take i) ++ [.int .i64 (within f.trees[i].cls 0 (mClasses f - 1)), .lst (treeNodes f.trees[i] (mDim f)).length (encL (treeNodes f.trees[i] (mDim f)))] := by
      rw [List.take_succ_eq_append_getElem (show i < (f.trees.map (mTree f)).length by simpa using c1), encL_append, List.getElem_map]
      rfl
    by_cases hz : i = 0
    · subst hz
      simp -implicitDefEqProofs [hm, fcells, c1, c2, r0, r1, w1, w2, hW, hN, v1, v2]
      refine ⟨n - 1, by omega, 1, by omega, by omega, by rw [if_neg (by omega)], ?_⟩
      rw [if_neg (by omega), he]
      rfl
    · simp -implicitDefEqProofs [hm, fcells, c1, c2, r0, r1, w1, w2, hW, hN, v1, v2, hz, c3, c5, htk]
      refine ⟨n - 1, by omega, i + 1, by omega, by omega, by rw [if_neg (by omega)], ?_⟩
      rw [if_neg (by omega), he]
  case neg =>
    have hil : i = min f.trees.length 4 := by omega
    have ht : f.trees.take 4 = f.trees.take i := by
      rw [hil]
      by_cases h4 : f.trees.length ≤ 4
      · rw [List.take_of_length_le h4, List.take_of_length_le (by omega)]
      · rw [show min f.trees.length 4 = 4 by omega]
    have hT : (f.trees.take 4).map (mTree f) = (f.trees.map (mTree f)).take i := by rw [ht, List.map_take]
    have hL : ((f.trees.map (mTree f)).take i).length = i := by simp; omega
    have htk : List.take (i * 2) (encL ((f.trees.map (mTree f)).take i)) = encL ((f.trees.map (mTree f)).take i) := take_rows _ _ (by rw [hL]; exact Nat.le_refl _)
    have c5 : i * 2 ≤ (encL ((f.trees.map (mTree f)).take i)).length := by rw [encL_length, hL]; exact Nat.le_refl _
    rw [hT]
    by_cases hz : i = 0
    · subst hz
      by_cases k1 : (0 : Int) < f.trees.length
      · omega
      · have k2 : ¬ 0 < f.trees.length := by omega
        simp -implicitDefEqProofs [hm, fcells, k2]
        rfl
    · by_cases k1 : (i : Int) < f.trees.length
      · have k2 : ¬ (i : Int) < 4 := by omega
        simp -implicitDefEqProofs [hm, fcells, k1, k2, hz, c5, htk]
        omega
      · simp -implicitDefEqProofs [hm, fcells, k1, hz, c5, htk]
        omega
noncomputable def ModelC (f : Forest) : Option Model := some (modelOf f)
theorem runs_Model (f : Forest) (c : Model) (h : ModelC f = some c) : Runs (tbl [(65, sp2 Pick), (24, sp3 Within), (18, sp2 NodesC)]) a15 [Arg.enc f] (Arg.enc c) := by
  cases h
  refine ⟨rfl, fun g => run_def ?_⟩
  unfold a15
  have v1 : Within f.dim 1 3 = some (mDim f) := within_of f.dim 1 3 (by omega)
  have v2 : Within f.classes 1 3 = some (mClasses f) := within_of f.classes 1 3 (by omega)
  have hc := mClasses_le f
  have p0 := pick_of f.bias 0
  have p1 : Pick f.bias 1 = some (pick f.bias 1) := pick_of f.bias 1
  have p2 : Pick f.bias 2 = some (pick f.bias 2) := pick_of f.bias 2
  have v3 := within_of (pick f.bias 0) (-500) 500 (by omega)
  have v4 := within_of (pick f.bias 1) (-500) 500 (by omega)
  have v5 := within_of (pick f.bias 2) (-500) 500 (by omega)
  have b0 : within (pick f.bias 0) (-500) 500 = mBias f 0 := by unfold mBias; rw [if_pos (by omega)]
  rw [b0] at v3
  have hcc : mClasses f = 1 ∨ mClasses f = 2 ∨ mClasses f = 3 := by omega
  have hW : ∀ n lo hi : Int, tbl [(65, sp2 Pick), (24, sp3 Within), (18, sp2 NodesC)] 24 [.int .i64 n, .int .i64 lo, .int .i64 hi] = (Within n lo hi).map Arg.enc := fun n lo hi => by simp
  have hN : ∀ (t : KTree) (dim : Int), tbl [(65, sp2 Pick), (24, sp3 Within), (18, sp2 NodesC)] 18 [.agg [.int .i64 t.cls, .lst t.part.length (encL t.part), .lst t.dir.length (encL t.dir), .lst t.cut.length (encL t.cut), .lst t.val.length (encL t.val)], .int .i64 dim] = (NodesC t dim).map Arg.enc := fun t dim => by simp
  rcases hcc with hcc | hcc | hcc
  · have z1 : mBias f 1 = 0 := by unfold mBias; rw [if_neg (by omega)]
    have z2 : mBias f 2 = 0 := by unfold mBias; rw [if_neg (by omega)]
    simp -implicitDefEqProofs [v1, v2, v3, p0, pick_0, hcc, run_round, -r15_27]
    exact forest_trees hW hN f ⟨mBias f 0, mBias f 1, mBias f 2⟩ (bump 3 (bump 2 (bump 1 g))) _ (by simp [hcc, fcells, z1, z2])
  · have b1 : within (pick f.bias 1) (-500) 500 = mBias f 1 := by unfold mBias; rw [if_pos (by omega)]
    rw [b1] at v4
    have z2 : mBias f 2 = 0 := by unfold mBias; rw [if_neg (by omega)]
    simp -implicitDefEqProofs [v1, v2, v3, v4, p0, p1, pick_0, hcc, run_round, -r15_27]
    exact forest_trees hW hN f ⟨mBias f 0, mBias f 1, mBias f 2⟩ (bump 3 (bump 2 (bump 1 g))) _ (by simp [hcc, fcells, z2])
  · have b1 : within (pick f.bias 1) (-500) 500 = mBias f 1 := by unfold mBias; rw [if_pos (by omega)]
    have b2 : within (pick f.bias 2) (-500) 500 = mBias f 2 := by unfold mBias; rw [if_pos (by omega)]
    rw [b1] at v4
    rw [b2] at v5
    simp -implicitDefEqProofs [v1, v2, v3, v4, v5, p0, p1, p2, pick_0, hcc, run_round, -r15_27]
    exact forest_trees hW hN f ⟨mBias f 0, mBias f 1, mBias f 2⟩ (bump 3 (bump 2 (bump 1 g))) _ (by simp [hcc, fcells])
theorem c_Model : Contract Try.prog 15 (sp1 ModelC) :=
  contract_of_runs mixed (tbl_cons c_pick (tbl_cons c_Within (tbl_cons c_Nodes tbl_nil))) Try.func15 m15 (sp1_runs runs_Model)
end Go.Co
/- CO: slices made pure, one level at a time. -/
namespace Go.Co
open Go.Am
section
variable {s : St} {fp : List Nat} {m : Nat}
end
end Go.Co
