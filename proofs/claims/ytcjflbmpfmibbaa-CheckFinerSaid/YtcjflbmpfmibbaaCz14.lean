/- CO: texts of this claim, one behind the other. -/
import Derived.Test.YtcjflbmpfmibbaaCz5
import Derived.Test.YtcjflbmpfmibbaaCz13
import Derived.Test.YtcjflbmpfmibbaaCz8
/- CO: the checker's own bounds. -/
set_option maxHeartbeats 16000000
set_option maxRecDepth 100000
namespace Go.Co
open Go.Am Go.Proofs
set_option linter.unusedSimpArgs false
set_option linter.unusedVariables false
def c85_0 : ACode := .ops [⟨some 3, .box (.t 1) 10, none, []⟩,⟨some 4, .mv (.c (.int .i64 0)), none, []⟩,⟨some 5, .mv (.c (.int .i64 0)), none, []⟩] [0, 3]
theorem r85_0 : type_of% (@rr _ _ c85_0.eq_1) := rr rfl
def c85_1 : ACode := .ops [⟨some 6, .mv (.c (.int .i64 0)), none, []⟩,⟨some 7, .mv (.c (.int .i64 0)), none, []⟩,⟨some 8, .mv (.c (.bool false)), none, []⟩] [0, 3, 6, 7, 8]
theorem r85_1 : type_of% (@rr _ _ c85_1.eq_1) := rr rfl
def c85_2 : ACode := .ops [⟨some 15, .load 10 true (.t 3), none, [3]⟩,⟨some 16, .build [.int .i64 0, .int .i64 0, .int .i64 0, .int .i64 0, .int .i64 0, .int .i64 0, .int .i64 0, .int .i64 0, .int .i64 0, .int .i64 0, .int .i64 0] [(0, 1, .c (.int .i64 0)), (1, 10, .t 15)], none, []⟩,⟨some 17, .mkrow 9 1 11 [.int .i64 0, .int .i64 0, .int .i64 0, .int .i64 0, .int .i64 0, .int .i64 0, .int .i64 0, .int .i64 0, .int .i64 0, .int .i64 0, .int .i64 0] [(0, 11, .t 16)], none, []⟩,⟨some 9, .mv (.t 17), none, []⟩] [0, 6, 7, 8, 9]
theorem r85_2 : type_of% (@rr _ _ c85_2.eq_1) := rr rfl
def c85_3 : ACode := .ops [⟨some 18, .mv (.t 9), none, []⟩,⟨some 19, .len (.t 18), none, [9]⟩,⟨some 20, .bin .gtr (.t 19) (.c (.int .i64 0)), none, []⟩] [0, 6, 7, 8, 9, 20]
theorem r85_3 : type_of% (@rr _ _ c85_3.eq_1) := rr rfl
def c85_4 : ACode := .cond (.t 20) .skip (.exit 0)
theorem r85_4 : type_of% (@rr _ _ c85_4.eq_1) := rr rfl
def c85_5 : ACode := .seq c85_3 c85_4
theorem r85_5 : type_of% (@rr _ _ c85_5.eq_1) := rr rfl
def c85_6 : ACode := .ops [⟨some 21, .mv (.t 9), none, []⟩,⟨some 22, .mv (.t 9), none, []⟩,⟨some 23, .len (.t 22), none, [9]⟩,⟨some 24, .bin .sub (.t 23) (.c (.int .i64 1)), none, []⟩,⟨some 25, .ias (.t 21) (.t 24) 11, none, [9]⟩,⟨some 26, .load 11 true (.t 25), none, [9]⟩,⟨some 10, .alloc [.int .i64 0, .int .i64 0, .int .i64 0, .int .i64 0, .int .i64 0, .int .i64 0, .int .i64 0, .int .i64 0, .int .i64 0, .int .i64 0, .int .i64 0], none, []⟩,⟨none, .store (.t 10) 11 (.t 26), none, [10]⟩] [0, 6, 7, 8, 9, 10]
theorem r85_6 : type_of% (@rr _ _ c85_6.eq_1) := rr rfl
def c85_7 : ACode := .ops [⟨some 27, .mv (.t 9), none, []⟩,⟨some 28, .mv (.t 9), none, []⟩,⟨some 29, .len (.t 28), none, [9]⟩,⟨some 30, .bin .sub (.t 29) (.c (.int .i64 1)), none, []⟩,⟨some 31, .sl (.t 27) none (some (.t 30)) 11, none, [9]⟩,⟨some 9, .mv (.t 31), none, []⟩] [0, 6, 7, 8, 9, 10]
theorem r85_7 : type_of% (@rr _ _ c85_7.eq_1) := rr rfl
def c85_8 : ACode := .ops [⟨some 33, .mv (.t 0), none, []⟩,⟨some 34, .fad (.t 10) 0, none, [10]⟩,⟨some 35, .load 1 false (.t 34), none, [10]⟩,⟨some 36, .ias (.t 33) (.t 35) 1, none, []⟩,⟨some 37, .load 1 false (.t 36), none, []⟩,⟨some 38, .call 20 [.t 37], none, []⟩,⟨some 32, .mv (.t 38), none, []⟩,⟨some 39, .ext (.t 32) 0, none, []⟩,⟨some 40, .ext (.t 32) 1, none, []⟩,⟨some 11, .alloc [.bool false, .int .i64 0, .int .i64 0, .int .i64 0, .int .i64 0, .int .i64 0], none, []⟩,⟨none, .store (.t 11) 6 (.t 39), none, [11]⟩,⟨some 12, .mv (.t 40), none, []⟩] [0, 6, 7, 8, 9, 10, 11, 12]
theorem r85_8 : type_of% (@rr _ _ c85_8.eq_1) := rr rfl
def c85_9 : ACode := .ops [⟨some 41, .mv (.t 12), none, []⟩,⟨some 42, .un .not (.t 41), none, []⟩,⟨some 43, .mv (.t 42), none, []⟩,⟨some 44, .fad (.t 10) 1, some (43, false), [10]⟩,⟨some 45, .load 10 true (.t 44), some (43, false), [10]⟩,⟨some 46, .call 66 [.t 45], some (43, false), []⟩,⟨some 47, .pick (.t 43) (.c (.bool true)) (.t 46), none, []⟩] [0, 6, 7, 8, 9, 10, 11, 47]
theorem r85_9 : type_of% (@rr _ _ c85_9.eq_1) := rr rfl
def c85_10 : ACode := .cond (.t 47) (.exit 1) .skip
theorem r85_10 : type_of% (@rr _ _ c85_10.eq_1) := rr rfl
def c85_11 : ACode := .seq c85_9 c85_10
theorem r85_11 : type_of% (@rr _ _ c85_11.eq_1) := rr rfl
def c85_12 : ACode := .ops [⟨some 48, .fad (.t 11) 0, none, [11]⟩,⟨some 49, .load 1 false (.t 48), none, [11]⟩,⟨some 50, .un .not (.t 49), none, []⟩] [0, 6, 7, 8, 9, 10, 11, 50]
theorem r85_12 : type_of% (@rr _ _ c85_12.eq_1) := rr rfl
def c85_13 : ACode := .ops [⟨some 52, .fad (.t 10) 1, none, [10]⟩,⟨some 53, .load 10 true (.t 52), none, [10]⟩,⟨some 54, .fad (.t 11) 2, none, [11]⟩,⟨some 55, .load 1 false (.t 54), none, [11]⟩,⟨some 56, .fad (.t 11) 3, none, [11]⟩,⟨some 57, .load 1 false (.t 56), none, [11]⟩,⟨some 58, .call 58 [.t 53, .t 55, .t 57], none, []⟩,⟨some 51, .mv (.t 58), none, []⟩,⟨some 59, .ext (.t 51) 0, none, []⟩,⟨some 60, .ext (.t 51) 1, none, []⟩,⟨some 13, .alloc [.int .i64 0, .int .i64 0, .int .i64 0, .int .i64 0, .int .i64 0, .int .i64 0, .int .i64 0, .int .i64 0, .int .i64 0, .int .i64 0], none, []⟩,⟨some 14, .alloc [.int .i64 0, .int .i64 0, .int .i64 0, .int .i64 0, .int .i64 0, .int .i64 0, .int .i64 0, .int .i64 0, .int .i64 0, .int .i64 0], none, []⟩,⟨none, .store (.t 13) 10 (.t 59), none, [13]⟩,⟨none, .store (.t 14) 10 (.t 60), none, [14]⟩] [0, 6, 7, 8, 9, 11, 13, 14]
theorem r85_13 : type_of% (@rr _ _ c85_13.eq_1) := rr rfl
def c85_14 : ACode := .ops [⟨some 61, .mv (.t 9), none, []⟩,⟨some 62, .fad (.t 11) 4, none, [11]⟩,⟨some 63, .load 1 false (.t 62), none, [11]⟩,⟨some 64, .load 10 true (.t 13), none, [13]⟩,⟨some 65, .build [.int .i64 0, .int .i64 0, .int .i64 0, .int .i64 0, .int .i64 0, .int .i64 0, .int .i64 0, .int .i64 0, .int .i64 0, .int .i64 0, .int .i64 0] [(0, 1, .t 63), (1, 10, .t 64)], none, []⟩,⟨some 66, .fad (.t 11) 5, none, [11]⟩,⟨some 67, .load 1 false (.t 66), none, [11]⟩,⟨some 68, .load 10 true (.t 14), none, [14]⟩,⟨some 69, .build [.int .i64 0, .int .i64 0, .int .i64 0, .int .i64 0, .int .i64 0, .int .i64 0, .int .i64 0, .int .i64 0, .int .i64 0, .int .i64 0, .int .i64 0] [(0, 1, .t 67), (1, 10, .t 68)], none, []⟩,⟨some 70, .mkrow 70 2 11 [.int .i64 0, .int .i64 0, .int .i64 0, .int .i64 0, .int .i64 0, .int .i64 0, .int .i64 0, .int .i64 0, .int .i64 0, .int .i64 0, .int .i64 0] [(0, 11, .t 65), (11, 11, .t 69)], none, []⟩,⟨some 71, .app 9 [9] (.t 61) (.t 70) 11, none, [9, 70]⟩,⟨some 9, .mv (.t 71), none, []⟩] [0, 6, 7, 8, 9]
theorem r85_14 : type_of% (@rr _ _ c85_14.eq_1) := rr rfl
def c85_15 : ACode := .seq c85_14 (.exit 1)
theorem r85_15 : type_of% (@rr _ _ c85_15.eq_1) := rr rfl
def c85_16 : ACode := .seq c85_13 c85_15
theorem r85_16 : type_of% (@rr _ _ c85_16.eq_1) := rr rfl
def c85_17 : ACode := .cond (.t 50) c85_16 .skip
theorem r85_17 : type_of% (@rr _ _ c85_17.eq_1) := rr rfl
def c85_18 : ACode := .seq c85_12 c85_17
theorem r85_18 : type_of% (@rr _ _ c85_18.eq_1) := rr rfl
def c85_19 : ACode := .ops [⟨some 72, .mv (.t 8), none, []⟩,⟨some 73, .un .not (.t 72), none, []⟩] [0, 6, 7, 8, 9, 11, 73]
theorem r85_19 : type_of% (@rr _ _ c85_19.eq_1) := rr rfl
def c85_20 : ACode := .ops [⟨some 74, .fad (.t 11) 1, none, [11]⟩,⟨some 75, .load 1 false (.t 74), none, [11]⟩,⟨some 76, .fad (.t 11) 1, none, [11]⟩,⟨some 77, .load 1 false (.t 76), none, [11]⟩,⟨some 6, .mv (.t 75), none, []⟩,⟨some 7, .mv (.t 77), none, []⟩,⟨some 8, .mv (.c (.bool true)), none, []⟩] [0, 6, 7, 8, 9, 11]
theorem r85_20 : type_of% (@rr _ _ c85_20.eq_1) := rr rfl
def c85_21 : ACode := .cond (.t 73) c85_20 .skip
theorem r85_21 : type_of% (@rr _ _ c85_21.eq_1) := rr rfl
def c85_22 : ACode := .seq c85_19 c85_21
theorem r85_22 : type_of% (@rr _ _ c85_22.eq_1) := rr rfl
def c85_23 : ACode := .ops [⟨some 78, .mv (.t 6), none, []⟩,⟨some 79, .fad (.t 11) 1, none, [11]⟩,⟨some 80, .load 1 false (.t 79), none, [11]⟩,⟨some 81, .mnmx false (.t 78) (.t 80), none, []⟩,⟨some 82, .mv (.t 7), none, []⟩,⟨some 83, .fad (.t 11) 1, none, [11]⟩,⟨some 84, .load 1 false (.t 83), none, [11]⟩,⟨some 85, .mnmx true (.t 82) (.t 84), none, []⟩,⟨some 6, .mv (.t 81), none, []⟩,⟨some 7, .mv (.t 85), none, []⟩] [0, 6, 7, 8, 9]
theorem r85_23 : type_of% (@rr _ _ c85_23.eq_1) := rr rfl
def c85_24 : ACode := .seq c85_22 c85_23
theorem r85_24 : type_of% (@rr _ _ c85_24.eq_1) := rr rfl
def c85_25 : ACode := .seq c85_18 c85_24
theorem r85_25 : type_of% (@rr _ _ c85_25.eq_1) := rr rfl
def c85_26 : ACode := .seq c85_11 c85_25
theorem r85_26 : type_of% (@rr _ _ c85_26.eq_1) := rr rfl
def c85_27 : ACode := .seq c85_8 c85_26
theorem r85_27 : type_of% (@rr _ _ c85_27.eq_1) := rr rfl
def c85_28 : ACode := .seq c85_7 c85_27
theorem r85_28 : type_of% (@rr _ _ c85_28.eq_1) := rr rfl
def c85_29 : ACode := .seq c85_6 c85_28
theorem r85_29 : type_of% (@rr _ _ c85_29.eq_1) := rr rfl
def c85_30 : ACode := .block 1 c85_29
theorem r85_30 : type_of% (@rr _ _ c85_30.eq_1) := rr rfl
def c85_31 : ACode := .seq c85_5 c85_30
theorem r85_31 : type_of% (@rr _ _ c85_31.eq_1) := rr rfl
def c85_32 : ACode := .keep [0, 6, 7, 8, 9] [9] c85_31
theorem r85_32 : type_of% (@rr _ _ c85_32.eq_1) := rr rfl
def c85_33 : ACode := .loop c85_32
theorem r85_33 : type_of% (@rr _ _ c85_33.eq_1) := rr rfl
def c85_34 : ACode := .block 0 c85_33
theorem r85_34 : type_of% (@rr _ _ c85_34.eq_1) := rr rfl
def c85_35 : ACode := .ops [⟨some 86, .mv (.t 6), none, []⟩,⟨some 87, .mv (.t 7), none, []⟩,⟨some 4, .mv (.t 86), none, []⟩,⟨some 5, .mv (.t 87), none, []⟩] [4, 5]
theorem r85_35 : type_of% (@rr _ _ c85_35.eq_1) := rr rfl
def c85_36 : ACode := .seq c85_35 .ret
theorem r85_36 : type_of% (@rr _ _ c85_36.eq_1) := rr rfl
def c85_37 : ACode := .seq c85_34 c85_36
theorem r85_37 : type_of% (@rr _ _ c85_37.eq_1) := rr rfl
def c85_38 : ACode := .seq c85_2 c85_37
theorem r85_38 : type_of% (@rr _ _ c85_38.eq_1) := rr rfl
def c85_39 : ACode := .seq c85_1 c85_38
theorem r85_39 : type_of% (@rr _ _ c85_39.eq_1) := rr rfl
def c85_40 : ACode := .seq c85_0 c85_39
theorem r85_40 : type_of% (@rr _ _ c85_40.eq_1) := rr rfl
def a85 : AFun := ⟨2, 88, c85_40, [.t 4, .t 5]⟩
attribute [simp] r85_0 r85_1 r85_2 r85_3 r85_4 r85_5 r85_6 r85_7 r85_8 r85_9 r85_10 r85_11 r85_12 r85_13 r85_14 r85_15 r85_16 r85_17 r85_18 r85_19 r85_20 r85_21 r85_22 r85_23 r85_24 r85_25 r85_26 r85_27 r85_28 r85_29 r85_30 r85_31 r85_32 r85_33 r85_34 r85_35 r85_36 r85_37 r85_38 r85_39 r85_40
theorem m85 : mFun Try.prog Try.f85 a85 = true := by decide +kernel
def c38_0 : ACode := .ops [⟨some 3, .box (.t 0) 6, none, []⟩,⟨some 5, .box (.t 2) 10, none, []⟩,⟨some 6, .mv (.c (.int .i64 0)), none, []⟩,⟨some 7, .mv (.c (.int .i64 0)), none, []⟩] [1, 3, 5]
theorem r38_0 : type_of% (@rr _ _ c38_0.eq_1) := rr rfl
def c38_1 : ACode := .ops [⟨some 14, .load 6 true (.t 3), none, [3]⟩,⟨some 15, .call 27 [.t 14], none, []⟩,⟨some 16, .un .not (.t 15), none, []⟩,⟨some 17, .mv (.t 16), none, []⟩,⟨some 18, .mv (.t 1), some (17, false), []⟩,⟨some 19, .bin .lss (.t 18) (.c (.int .i64 0)), some (17, false), []⟩,⟨some 20, .pick (.t 17) (.c (.bool true)) (.t 19), none, []⟩,⟨some 21, .mv (.t 20), none, []⟩,⟨some 22, .mv (.t 1), some (21, false), []⟩,⟨some 23, .fad (.t 3) 1, some (21, false), [3]⟩,⟨some 24, .load 1 false (.t 23), some (21, false), [3]⟩,⟨some 25, .bin .geq (.t 22) (.t 24), some (21, false), []⟩,⟨some 26, .pick (.t 21) (.c (.bool true)) (.t 25), none, []⟩,⟨some 27, .mv (.t 26), none, []⟩,⟨some 28, .load 10 true (.t 5), some (27, false), [5]⟩,⟨some 29, .call 66 [.t 28], some (27, false), []⟩,⟨some 30, .pick (.t 27) (.c (.bool true)) (.t 29), none, []⟩] [1, 3, 5, 30]
theorem r38_1 : type_of% (@rr _ _ c38_1.eq_1) := rr rfl
def c38_2 : ACode := .ops [⟨some 6, .mv (.c (.int .i64 0)), none, []⟩,⟨some 7, .mv (.c (.int .i64 0)), none, []⟩] [6, 7]
theorem r38_2 : type_of% (@rr _ _ c38_2.eq_1) := rr rfl
def c38_3 : ACode := .seq c38_2 .ret
theorem r38_3 : type_of% (@rr _ _ c38_3.eq_1) := rr rfl
def c38_4 : ACode := .cond (.t 30) c38_3 .skip
theorem r38_4 : type_of% (@rr _ _ c38_4.eq_1) := rr rfl
def c38_5 : ACode := .seq c38_1 c38_4
theorem r38_5 : type_of% (@rr _ _ c38_5.eq_1) := rr rfl
def c38_6 : ACode := .ops [⟨some 31, .mv (.t 1), none, []⟩,⟨some 32, .fad (.t 3) 2, none, [3]⟩,⟨some 33, .iad (.t 32) (.t 31) 1 3, none, [3]⟩,⟨some 34, .load 1 false (.t 33), none, [3]⟩,⟨some 35, .mv (.t 1), none, []⟩,⟨some 36, .fad (.t 3) 2, none, [3]⟩,⟨some 37, .iad (.t 36) (.t 35) 1 3, none, [3]⟩,⟨some 38, .load 1 false (.t 37), none, [3]⟩,⟨some 8, .mv (.t 34), none, []⟩,⟨some 9, .mv (.t 38), none, []⟩] [1, 3, 5, 8, 9]
theorem r38_6 : type_of% (@rr _ _ c38_6.eq_1) := rr rfl
def c38_7 : ACode := .ops [⟨some 39, .fad (.t 3) 5, none, [3]⟩,⟨some 40, .load 1 false (.t 39), none, [3]⟩,⟨some 41, .len (.t 40), none, []⟩,⟨some 42, .mv (.c (.int .i64 0)), none, []⟩] [1, 5, 8, 9, 40, 41, 42]
theorem r38_7 : type_of% (@rr _ _ c38_7.eq_1) := rr rfl
def c38_8 : ACode := .ops [⟨some 43, .bin .lss (.t 42) (.t 41), none, []⟩] [1, 5, 8, 9, 40, 41, 42, 43]
theorem r38_8 : type_of% (@rr _ _ c38_8.eq_1) := rr rfl
def c38_9 : ACode := .cond (.t 43) .skip (.exit 0)
theorem r38_9 : type_of% (@rr _ _ c38_9.eq_1) := rr rfl
def c38_10 : ACode := .ops [⟨some 44, .ias (.t 40) (.t 42) 2, none, []⟩,⟨some 45, .load 2 true (.t 44), none, []⟩,⟨some 11, .alloc [.int .i64 0, .nils], none, []⟩,⟨none, .store (.t 11) 2 (.t 45), none, [11]⟩] [1, 5, 8, 9, 11, 40, 41, 42]
theorem r38_10 : type_of% (@rr _ _ c38_10.eq_1) := rr rfl
def c38_11 : ACode := .ops [⟨some 46, .fad (.t 11) 0, none, [11]⟩,⟨some 47, .load 1 false (.t 46), none, [11]⟩,⟨some 48, .mv (.t 1), none, []⟩,⟨some 49, .bin .eql (.t 47) (.t 48), none, []⟩] [1, 5, 8, 9, 11, 40, 41, 42, 49]
theorem r38_11 : type_of% (@rr _ _ c38_11.eq_1) := rr rfl
def c38_12 : ACode := .ops [⟨some 51, .fad (.t 11) 1, none, [11]⟩,⟨some 52, .load 1 false (.t 51), none, [11]⟩,⟨some 53, .load 10 true (.t 5), none, [5]⟩,⟨some 54, .call 85 [.t 52, .t 53], none, []⟩,⟨some 50, .mv (.t 54), none, []⟩,⟨some 55, .ext (.t 50) 0, none, []⟩,⟨some 56, .ext (.t 50) 1, none, []⟩,⟨some 12, .mv (.t 55), none, []⟩,⟨some 13, .mv (.t 56), none, []⟩] [1, 5, 8, 9, 12, 13, 40, 41, 42]
theorem r38_12 : type_of% (@rr _ _ c38_12.eq_1) := rr rfl
def c38_13 : ACode := .ops [⟨some 57, .mv (.t 8), none, []⟩,⟨some 58, .mv (.t 12), none, []⟩,⟨some 59, .bin .add (.t 57) (.t 58), none, []⟩,⟨some 60, .mv (.t 9), none, []⟩,⟨some 61, .mv (.t 13), none, []⟩,⟨some 62, .bin .add (.t 60) (.t 61), none, []⟩,⟨some 8, .mv (.t 59), none, []⟩,⟨some 9, .mv (.t 62), none, []⟩] [1, 5, 8, 9, 40, 41, 42]
theorem r38_13 : type_of% (@rr _ _ c38_13.eq_1) := rr rfl
def c38_14 : ACode := .seq c38_12 c38_13
theorem r38_14 : type_of% (@rr _ _ c38_14.eq_1) := rr rfl
def c38_15 : ACode := .cond (.t 49) c38_14 .skip
theorem r38_15 : type_of% (@rr _ _ c38_15.eq_1) := rr rfl
def c38_16 : ACode := .seq c38_11 c38_15
theorem r38_16 : type_of% (@rr _ _ c38_16.eq_1) := rr rfl
def c38_17 : ACode := .seq c38_10 c38_16
theorem r38_17 : type_of% (@rr _ _ c38_17.eq_1) := rr rfl
def c38_18 : ACode := .block 1 c38_17
theorem r38_18 : type_of% (@rr _ _ c38_18.eq_1) := rr rfl
def c38_19 : ACode := .ops [⟨some 63, .bin .add (.t 42) (.c (.int .i64 1)), none, []⟩,⟨some 42, .mv (.t 63), none, []⟩] [1, 5, 8, 9, 40, 41, 42]
theorem r38_19 : type_of% (@rr _ _ c38_19.eq_1) := rr rfl
def c38_20 : ACode := .seq c38_18 c38_19
theorem r38_20 : type_of% (@rr _ _ c38_20.eq_1) := rr rfl
def c38_21 : ACode := .seq c38_9 c38_20
theorem r38_21 : type_of% (@rr _ _ c38_21.eq_1) := rr rfl
def c38_22 : ACode := .seq c38_8 c38_21
theorem r38_22 : type_of% (@rr _ _ c38_22.eq_1) := rr rfl
def c38_23 : ACode := .keep [1, 5, 8, 9, 40, 41, 42] [5] c38_22
theorem r38_23 : type_of% (@rr _ _ c38_23.eq_1) := rr rfl
def c38_24 : ACode := .loop c38_23
theorem r38_24 : type_of% (@rr _ _ c38_24.eq_1) := rr rfl
def c38_25 : ACode := .block 0 c38_24
theorem r38_25 : type_of% (@rr _ _ c38_25.eq_1) := rr rfl
def c38_26 : ACode := .seq c38_7 c38_25
theorem r38_26 : type_of% (@rr _ _ c38_26.eq_1) := rr rfl
def c38_27 : ACode := .ops [⟨some 64, .mv (.t 8), none, []⟩,⟨some 65, .mv (.t 9), none, []⟩,⟨some 6, .mv (.t 64), none, []⟩,⟨some 7, .mv (.t 65), none, []⟩] [6, 7]
theorem r38_27 : type_of% (@rr _ _ c38_27.eq_1) := rr rfl
def c38_28 : ACode := .seq c38_27 .ret
theorem r38_28 : type_of% (@rr _ _ c38_28.eq_1) := rr rfl
def c38_29 : ACode := .seq c38_26 c38_28
theorem r38_29 : type_of% (@rr _ _ c38_29.eq_1) := rr rfl
def c38_30 : ACode := .seq c38_6 c38_29
theorem r38_30 : type_of% (@rr _ _ c38_30.eq_1) := rr rfl
def c38_31 : ACode := .seq c38_5 c38_30
theorem r38_31 : type_of% (@rr _ _ c38_31.eq_1) := rr rfl
def c38_32 : ACode := .seq c38_0 c38_31
theorem r38_32 : type_of% (@rr _ _ c38_32.eq_1) := rr rfl
def a38 : AFun := ⟨3, 66, c38_32, [.t 6, .t 7]⟩
attribute [simp] r38_0 r38_1 r38_2 r38_3 r38_4 r38_5 r38_6 r38_7 r38_8 r38_9 r38_10 r38_11 r38_12 r38_13 r38_14 r38_15 r38_16 r38_17 r38_18 r38_19 r38_20 r38_21 r38_22 r38_23 r38_24 r38_25 r38_26 r38_27 r38_28 r38_29 r38_30 r38_31 r38_32
theorem m38 : mFun Try.prog Try.f38 a38 = true := by decide +kernel
structure Visit where
  at_ : Int
  box : Box
instance : Row Visit where
  sz := 11
  enc x := [.int .i64 x.at_, .int .i64 x.box.s0.lo, .int .i64 x.box.s0.hi, .int .i64 x.box.s1.lo, .int .i64 x.box.s1.hi, .int .i64 x.box.s2.lo, .int .i64 x.box.s2.hi, .int .i64 x.box.s3.lo, .int .i64 x.box.s3.hi, .int .i64 x.box.s4.lo, .int .i64 x.box.s4.hi]
  dec xs := match xs with
    | [.int .i64 v0, .int .i64 v1, .int .i64 v2, .int .i64 v3, .int .i64 v4, .int .i64 v5, .int .i64 v6, .int .i64 v7, .int .i64 v8, .int .i64 v9, .int .i64 v10] => some ⟨v0, ⟨⟨v1, v2⟩, ⟨v3, v4⟩, ⟨v5, v6⟩, ⟨v7, v8⟩, ⟨v9, v10⟩⟩⟩
    | _ => none
  pos := by decide
  len _ := rfl
  dec_enc _ := rfl
  enc_dec xs a h := by
    split at h
    · cases h; rfl
    · cases h
@[simp] theorem sz_Visit : Row.sz Visit = 11 := rfl
def vis (l : List Word) (b : Box) (s : Nat) : Visit := ⟨s, own l b s⟩
theorem rd_top {α : Type} [Row α] (X : List α) (v : α) (G : List AV) : rd (encL (X ++ [v]) ++ G) (X.length * Row.sz α) (Row.sz α) true = some (.agg (Row.enc v)) := by
  have h1 := encL_length X
  have h2 := Row.len v
  rw [encL_append, List.append_assoc]
  unfold rd
  rw [if_pos (by simp [encL_cons, encL_nil, h1, h2])]
  simp only [if_true]
  rw [← h1, List.drop_left]
  simp only [encL_cons, encL_nil, List.append_nil]
  rw [← h2, List.take_left]
inductive Desc (l : List Word) (i : Nat) : Nat → Prop
  | self : Desc l i i
  | left {j : Nat} : Desc l i j → (ndAt l j).leaf = false → Desc l i (ndAt l j).left.toNat
  | right {j : Nat} : Desc l i j → (ndAt l j).leaf = false → Desc l i (ndAt l j).right.toNat
theorem Desc.sub {l : List Word} {d : Int} (hr : RT l d) {b : Box} {i j : Nat} (h : Desc l i j) (hi : i < l.length) : j < l.length ∧ ∀ p t, InB (own l b j) p t → InB (own l b i) p t := by
  induction h with
  | self => exact ⟨hi, fun p t h => h⟩
  | @left j hd hl ih =>
    have ha := hr.at ih.1 hl
    have hf := hr.feature ih.1 hl
    have hc := own_child hr b ih.1 hl
    refine ⟨by omega, fun p t h => ih.2 p t ?_⟩
    rw [hc.1] at h
    exact ((cutB_1 _ hf _ p t).1 h).1
  | @right j hd hl ih =>
    have ha := hr.at ih.1 hl
    have hf := hr.feature ih.1 hl
    have hc := own_child hr b ih.1 hl
    refine ⟨by omega, fun p t h => ih.2 p t ?_⟩
    rw [hc.2] at h
    exact ((cutB_2 _ hf _ p t).1 h).1
theorem Desc.cases' {l : List Word} {i j : Nat} (h : Desc l i j) : j = i ∨ ((ndAt l i).leaf = false ∧ (Desc l (ndAt l i).left.toNat j ∨ Desc l (ndAt l i).right.toNat j)) := by
  induction h with
  | self => exact .inl rfl
  | left hd hl ih =>
    rcases ih with rfl | ⟨h1, h2 | h2⟩
    · exact .inr ⟨hl, .inl .self⟩
    · exact .inr ⟨h1, .inl (h2.left hl)⟩
    · exact .inr ⟨h1, .inr (h2.left hl)⟩
  | right hd hl ih =>
    rcases ih with rfl | ⟨h1, h2 | h2⟩
    · exact .inr ⟨hl, .inr .self⟩
    · exact .inr ⟨h1, .inl (h2.right hl)⟩
    · exact .inr ⟨h1, .inr (h2.right hl)⟩
theorem desc_root {l : List Word} {d : Int} (hr : RT l d) : ∀ j, j < l.length → Desc l 0 j := by
  intro j
  induction j using Nat.strongRecOn with
  | _ j ih =>
    intro hj
    by_cases h0 : j = 0
    · subst h0; exact .self
    · obtain ⟨i, hi, hl, hn⟩ := hr.parent (show 1 ≤ j by omega) hj
      have hd := ih i hi (by omega)
      have ha := hr.at (show i < l.length by omega) hl
      rcases hn with hn | hn
      · have := hd.left hl
        rw [show (ndAt l i).left.toNat = j by omega] at this
        exact this
      · have := hd.right hl
        rw [show (ndAt l i).right.toNat = j by omega] at this
        exact this
def wgt (s : Nat) : Nat := 2 ^ (32 - s) - 1
def wgts (S : List Nat) : Nat := (S.map wgt).sum
theorem wgts_app (S T : List Nat) : wgts (S ++ T) = wgts S + wgts T := by simp [wgts]
theorem wgt_pos {s : Nat} (h : s < 31) : 1 ≤ wgt s := by
  unfold wgt
  have : 2 ^ 1 ≤ 2 ^ (32 - s) := Nat.pow_le_pow_right (by omega) (by omega)
  omega
theorem wgt_two {s a b : Nat} (h1 : s < a) (h2 : s < b) (ha : a < 31) : wgt a + wgt b < wgt s := by
  unfold wgt
  have e : 32 - s = (31 - s) + 1 := by omega
  have p1 : 2 ^ (32 - a) ≤ 2 ^ (31 - s) := Nat.pow_le_pow_right (by omega) (by omega)
  have p2 : 2 ^ (32 - b) ≤ 2 ^ (31 - s) := Nat.pow_le_pow_right (by omega) (by omega)
  have p3 : 1 ≤ 2 ^ (31 - s) := Nat.one_le_two_pow
  have p4 : 1 ≤ 2 ^ (32 - a) := Nat.one_le_two_pow
  have p5 : 1 ≤ 2 ^ (32 - b) := Nat.one_le_two_pow
  rw [e, Nat.pow_succ]
  omega
theorem len_wgts : ∀ (S : List Nat), (∀ s ∈ S, s < 31) → S.length ≤ wgts S
  | [], _ => by simp [wgts]
  | s :: S, h => by
    have h1 := wgt_pos (h s (by simp))
    have h2 := len_wgts S (fun x hx => h x (by simp [hx]))
    simp only [wgts, List.map_cons, List.sum_cons, List.length_cons] at *
    omega
structure EI (l : List Word) (b : Box) (S : List Nat) (lo hi : Int) (sm : Bool) : Prop where
  lt : ∀ s ∈ S, s < l.length
  cover : ∀ j, j < l.length → (ndAt l j).leaf = true → (own l b j).empty = false → (sm = true ∧ lo ≤ (ndAt l j).value ∧ (ndAt l j).value ≤ hi) ∨ ∃ s ∈ S, Desc l s j
  att : sm = true → (∃ x ∈ pieces l b, x.value = lo) ∧ ∃ x ∈ pieces l b, x.value = hi
theorem EI.done {l : List Word} {d : Int} (hr : RT l d) {b : Box} (he : b.empty = false) {lo hi : Int} {sm : Bool} (h : EI l b [] lo hi sm) : lo = (boundT l b).a ∧ hi = (boundT l b).b := by
  have hb : boundT l b = ends (pieces l b) := by unfold boundT; rw [he]; rfl
  obtain ⟨h1, h2, ⟨x, hx, h3⟩, ⟨y, hy, h4⟩⟩ := ends_spec (pieces_ne hr he)
  rw [hb]
  have cov : ∀ z ∈ pieces l b, sm = true ∧ lo ≤ z.value ∧ z.value ≤ hi := by
    intro z hz
    obtain ⟨i, hi', hl, hE, rfl⟩ := mem_pieces.1 hz
    rcases h.cover i hi' hl hE with hc | ⟨s, hs, _⟩
    · exact hc
    · simp at hs
  have cx := cov x hx
  have cy := cov y hy
  obtain ⟨⟨u, hu, hu2⟩, ⟨v, hv, hv2⟩⟩ := h.att cx.1
  have k1 := h2 u hu
  have k2 := h2 v hv
  omega
noncomputable def EndsC (l : List Word) (b : Box) : Option (Int × Int) := Part ((∃ d, RT l d) ∧ okB b ∧ b.empty = false) ((boundT l b).a, (boundT l b).b)
theorem take_vis (X : List Visit) (G : List AV) (n : Nat) (h : n = X.length * 11) : List.take n (encL X ++ G) = encL X := by
  rw [h, ← show (encL X).length = X.length * 11 from encL_length X, List.take_left]
theorem runs_ends (l : List Word) (b : Box) (c : Int × Int) (h : EndsC l b = some c) : Runs (tbl [(20, sp1 Unpack), (66, sp1 fun (b : Box) => some b.empty), (58, sp3 CutB)]) a85 [Arg.enc l, Arg.enc b] (Arg.enc c) := by
  obtain ⟨⟨⟨d, hr⟩, hb, he⟩, rfl⟩ := part_some h
  clear h
  refine ⟨rfl, fun g => run_def ?_⟩
  unfold a85
  have hle := hr.le
  have b3 : l.length ≤ maxN := by unfold maxN; omega
  simp -implicitDefEqProofs [b3]
  refine run_while (c := c85_31) (fun n s => ∃ (S : List Nat) (lo hi : Int) (sm : Bool) (G : List AV) (g : Nat → Nat), n = wgts S ∧ n < 2 ^ 33 ∧ EI l b S lo hi sm ∧ s = ⟨[(0, .lst l.length (encL l)), (6, .int .i64 lo), (7, .int .i64 hi), (8, .bool sm), (9, .own 9 (g 9) 0 S.length)], [(9, ⟨encL (S.map (vis l b)) ++ G, false, 11⟩)], g⟩) (wgts [0]) ⟨[0], 0, 0, false, [], bump 9 (bump 3 g), rfl, by simp [wgts, wgt], ⟨fun s hs => by simp at hs; have := hr.pos; omega, fun j hj _ _ => .inr ⟨0, by simp, desc_root hr j hj⟩, fun h => by cases h⟩, by simp [encL_cons, encL_nil, vis, own_root]; rfl⟩ ?_
  rintro n s ⟨S, lo, hi, sm, G, g, hn, hn2, hE, rfl⟩
  rcases List.eq_nil_or_concat S with rfl | ⟨S, s, rfl⟩
  · obtain ⟨e1, e2⟩ := hE.done hr he
    simp -implicitDefEqProofs [e1, e2]
  rw [List.concat_eq_append] at *
  have hs : s < l.length := hE.lt s (by simp)
  have hsl := len_wgts S (fun x hx => by have := hE.lt x (by simp [hx]); omega)
  rw [wgts_app] at hn
  have hw1 := wgt_pos (show s < 31 by omega)
  have hws : wgts [s] = wgt s := by simp [wgts]
  have hL : S.length ≤ 8589934592 := by have : (2 : Nat) ^ 33 = 8589934592 := (by decide); omega
  have wL : IntKind.i64.wrap ((S.length : Nat) : Int) = S.length := wrap64 (by omega) (by omega)
  have c0 : S.length + 1 ≤ maxN := by unfold maxN; omega
  have hU := unpack_at hr hs
  have htop : rd (encL (S.map (vis l b)) ++ (Row.enc (vis l b s) ++ G)) (S.length * 11) 11 true = some (.agg (Row.enc (vis l b s))) := by
    have := rd_top (S.map (vis l b)) (vis l b s) G
    rw [encL_append, List.append_assoc] at this
    simpa [encL_cons, encL_nil] using this
  have e1 : encL ((S ++ [s]).map (vis l b)) ++ G = encL (S.map (vis l b)) ++ (Row.enc (vis l b s) ++ G) := by simp [encL_append, encL_cons, encL_nil]
  have e2 : (S ++ [s]).length = S.length + 1 := by simp
  rw [e1, e2]
  have htk : List.take (S.length * 11) (encL (S.map (vis l b)) ++ (Row.enc (vis l b s) ++ G)) = encL (S.map (vis l b)) := take_vis _ _ _ (by simp)
  have hlen : S.length * 11 ≤ (encL (S.map (vis l b)) ++ (Row.enc (vis l b s) ++ G)).length := by
    have := encL_length (S.map (vis l b))
    simp at this
    simp [this]
  generalize (Row.enc (vis l b s) ++ G) = G2 at *
  have hlen2 : S.length * 11 ≤ (encL (S.map (vis l b))).length + G2.length := by simpa using hlen
  have htop : rd (encL (S.map (vis l b)) ++ G2) (S.length * 11) 11 true = some (.agg [.int .i64 s, .int .i64 (own l b s).s0.lo, .int .i64 (own l b s).s0.hi, .int .i64 (own l b s).s1.lo, .int .i64 (own l b s).s1.hi, .int .i64 (own l b s).s2.lo, .int .i64 (own l b s).s2.hi, .int .i64 (own l b s).s3.lo, .int .i64 (own l b s).s3.hi, .int .i64 (own l b s).s4.lo, .int .i64 (own l b s).s4.hi]) := htop
  have hEc : ∀ j, j < l.length → (ndAt l j).leaf = true → (own l b j).empty = false → (sm = true ∧ lo ≤ (ndAt l j).value ∧ (ndAt l j).value ≤ hi) ∨ (∃ x ∈ S, Desc l x j) ∨ Desc l s j := by
    intro j h1 h2 h3
    rcases hE.cover j h1 h2 h3 with h | ⟨x, hx, hd⟩
    · exact .inl h
    · rcases List.mem_append.1 hx with hx | hx
      · exact .inr (.inl ⟨x, hx, hd⟩)
      · simp at hx; subst hx; exact .inr (.inr hd)
  have hlt : ∀ x ∈ S, x < l.length := fun x hx => hE.lt x (by simp [hx])
  have c9 : (S.length : Int) < (S.length : Int) + 1 := by omega
  have c10 : (S.length : Int) ≤ (S.length : Int) + 1 := by omega
  have hlw : wgts [s] = wgt s := hws
  cases hoe : (own l b s).empty
  case true =>
    have hE2 : EI l b S lo hi sm := by
      refine ⟨hlt, ?_, hE.att⟩
      intro j h1 h2 h3
      rcases hEc j h1 h2 h3 with h | h | h
      · exact .inl h
      · exact .inr h
      · exfalso
        obtain ⟨p, t, hp⟩ := empty_false.1 h3
        exact empty_true.1 hoe p t ((h.sub hr hs).2 p t hp)
    cases sm <;> simp -implicitDefEqProofs [c0, c9, c10, wL, htop, hU, hs, rd_words, hoe]
    all_goals exact ⟨wgts S, by omega, S, rfl, by omega, lo, hi, hE2, ⟨rfl, rfl, rfl⟩, G2, rfl⟩
  case false =>
    cases hl : (ndAt l s).leaf
    case false =>
      have ha := hr.at hs hl
      have hf := hr.feature hs hl
      have hC : CutB (own l b s) (ndAt l s).feature (ndAt l s).cut = some (cutB (own l b s) (ndAt l s).feature (ndAt l s).cut) := cutB_of (okB_own hr hb s s (by omega)) (ndAt l s).feature (ok64_fits (hr.cutOk hs))
      have hch := own_child hr b hs hl
      have hpr : cutB (own l b s) (ndAt l s).feature (ndAt l s).cut = (own l b (ndAt l s).left.toNat, own l b (ndAt l s).right.toNat) := Prod.ext hch.1.symm hch.2.symm
      rw [hpr] at hC
      have c11 : S.length ≤ 1099511627774 := by omega
      have hw2 := wgt_two (s := s) (a := (ndAt l s).left.toNat) (b := (ndAt l s).right.toNat) (by omega) (by omega) (by omega)
      have hw3 : wgts (S ++ [(ndAt l s).left.toNat, (ndAt l s).right.toNat]) = wgts S + (wgt (ndAt l s).left.toNat + wgt (ndAt l s).right.toNat) := by rw [wgts_app]; simp [wgts]
      have hE2 : EI l b (S ++ [(ndAt l s).left.toNat, (ndAt l s).right.toNat]) lo hi sm := by
        refine ⟨?_, ?_, hE.att⟩
        · intro x hx
          rcases List.mem_append.1 hx with hx | hx
          · exact hlt x hx
          · simp at hx
            omega
        · intro j h1 h2 h3
          rcases hEc j h1 h2 h3 with h | ⟨x, hx, h⟩ | h
          · exact .inl h
          · exact .inr ⟨x, by simp [hx], h⟩
          · rcases Desc.cases' h with h | ⟨_, h | h⟩
            · subst h; rw [hl] at h2; cases h2
            · exact .inr ⟨_, by simp, h⟩
            · exact .inr ⟨_, by simp, h⟩
      have el : (((ndAt l s).left.toNat : Nat) : Int) = (ndAt l s).left := by omega
      have er : (((ndAt l s).right.toNat : Nat) : Int) = (ndAt l s).right := by omega
      have hcell : encL (S.map (vis l b)) ++ (Row.enc (vis l b (ndAt l s).left.toNat) ++ Row.enc (vis l b (ndAt l s).right.toNat)) = encL ((S ++ [(ndAt l s).left.toNat, (ndAt l s).right.toNat]).map (vis l b)) ++ [] := by simp [encL_append, encL_cons, encL_nil]
      cases sm <;> simp -implicitDefEqProofs [c0, c9, c10, c11, wL, htop, hU, hs, rd_words, hoe, hl, hC, htk, hlen2]
      all_goals refine ⟨_, ?_, S ++ [(ndAt l s).left.toNat, (ndAt l s).right.toNat], rfl, ?_, lo, hi, hE2, ⟨rfl, rfl, ?_⟩, [], ?_⟩
      all_goals first
        | omega
        | (simp; done)
        | (rw [← hcell, ← el, ← er]; rfl)
    case true =>
      have hpc : (⟨own l b s, (ndAt l s).value⟩ : Piece) ∈ pieces l b := mem_pieces.2 ⟨s, hs, hl, hoe, rfl⟩
      cases sm
      case false =>
        have hE2 : EI l b S (ndAt l s).value (ndAt l s).value true := by
          refine ⟨hlt, ?_, fun _ => ⟨⟨_, hpc, rfl⟩, ⟨_, hpc, rfl⟩⟩⟩
          intro j h1 h2 h3
          rcases hEc j h1 h2 h3 with ⟨h, _⟩ | h | h
          · cases h
          · exact .inr h
          · rcases Desc.cases' h with h | ⟨h, _⟩
            · subst h; exact .inl ⟨rfl, Int.le_refl _, Int.le_refl _⟩
            · rw [hl] at h; cases h
        simp -implicitDefEqProofs [c0, c9, c10, wL, htop, hU, hs, rd_words, hoe, hl]
        exact ⟨wgts S, by omega, S, rfl, by omega, _, _, hE2, ⟨rfl, rfl, rfl⟩, G2, rfl⟩
      case true =>
        obtain ⟨⟨u, hu, hu2⟩, ⟨v, hv, hv2⟩⟩ := hE.att rfl
        have hE2 : EI l b S (if (ndAt l s).value < lo then (ndAt l s).value else lo) (if hi < (ndAt l s).value then (ndAt l s).value else hi) true := by
          refine ⟨hlt, ?_, ?_⟩
          · intro j h1 h2 h3
            rcases hEc j h1 h2 h3 with ⟨_, h, h'⟩ | h | h
            · refine .inl ⟨rfl, ?_, ?_⟩ <;> split <;> omega
            · exact .inr h
            · rcases Desc.cases' h with h | ⟨h, _⟩
              · subst h; refine .inl ⟨rfl, ?_, ?_⟩ <;> split <;> omega
              · rw [hl] at h; cases h
          · intro _
            constructor
            · split
              · exact ⟨_, hpc, rfl⟩
              · exact ⟨u, hu, hu2⟩
            · split
              · exact ⟨_, hpc, rfl⟩
              · exact ⟨v, hv, hv2⟩
        simp -implicitDefEqProofs [c0, c9, c10, wL, htop, hU, hs, rd_words, hoe, hl]
        exact ⟨wgts S, by omega, S, rfl, by omega, _, _, hE2, ⟨rfl, rfl, rfl⟩, G2, rfl⟩
theorem c_ends : Contract Try.prog 85 (sp2 EndsC) :=
  contract_of_runs mixed (tbl_cons c_Unpack (tbl_cons c_bEmpty (tbl_cons c_bCut tbl_nil))) Try.func85 m85 (sp2_runs runs_ends)
def sumsP (m : Model) (c : Int) (b : Box) : Int × Int := if c < 0 ∨ m.classes ≤ c ∨ b.empty = true then (0, 0) else boundP m c b
noncomputable def SumsC (m : Model) (c : Int) (b : Box) : Option (Int × Int) := Part (RM m ∧ okB b) (sumsP m c b)
theorem runs_sums (m : Model) (c : Int) (b : Box) (r : Int × Int) (h : SumsC m c b = some r) : Runs (tbl [(27, sp1 MRight), (66, sp1 fun (b : Box) => some b.empty), (85, sp2 EndsC)]) a38 [Arg.enc m, Arg.enc c, Arg.enc b] (Arg.enc r) := by
  obtain ⟨⟨hr, hb⟩, rfl⟩ := part_some h
  refine ⟨rfl, fun g => run_def ?_⟩
  unfold a38
  have hM : MRight m = some true := by unfold MRight; rw [if_neg (by have := hr.dim; omega)]; exact part_of hr _
  by_cases h0 : c < 0
  case pos => simp -implicitDefEqProofs [hM, h0, sumsP]
  by_cases h1 : m.classes ≤ c
  case pos => simp -implicitDefEqProofs [hM, h0, h1, sumsP]
  cases he : b.empty
  case true => simp -implicitDefEqProofs [hM, h0, h1, he, sumsP]
  have hle := hr.trees
  have b3 : m.trees.length ≤ maxN := by unfold maxN; omega
  have c0 : 0 ≤ c := by omega
  have c3 : c < 3 := by have := hr.classes; omega
  have hres : sumsP m c b = ((boundP m c b).1, (boundP m c b).2) := by unfold sumsP; rw [if_neg (by simp [he]; omega)]
  rw [hres]
  simp -implicitDefEqProofs [hM, h0, h1, he, b3, c0, c3]
  refine run_while (c := c38_22) (fun n s => ∃ (i : Nat) (g : Nat → Nat), i + n = m.trees.length ∧ s = ⟨[(1, .int .i64 c), (5, .ptr 5 (g 5) 0), (8, .int .i64 ((m.trees.take i).foldl (boundF c b) (m.bias.get c, m.bias.get c)).1), (9, .int .i64 ((m.trees.take i).foldl (boundF c b) (m.bias.get c, m.bias.get c)).2), (40, .lst m.trees.length (encL m.trees)), (41, .int .i64 m.trees.length), (42, .int .i64 i)],
    [(5, ⟨[.int .i64 b.s0.lo, .int .i64 b.s0.hi, .int .i64 b.s1.lo, .int .i64 b.s1.hi, .int .i64 b.s2.lo, .int .i64 b.s2.hi, .int .i64 b.s3.lo, .int .i64 b.s3.hi, .int .i64 b.s4.lo, .int .i64 b.s4.hi], false, 0⟩)], g⟩) m.trees.length ⟨0, bump 5 (bump 3 g), by omega, by simp⟩ ?_
  rintro n s ⟨i, g, hi, rfl⟩
  by_cases h1 : i < m.trees.length
  case pos =>
    have w1 : IntKind.i64.wrap ((i : Int) + 1) = (i : Int) + 1 := wrap64 (by omega) (by omega)
    have hrow := rd_tree m.trees i h1
    have hrt := hr.rt (List.getElem_mem h1)
    have hV : EndsC m.trees[i].nodes b = some ((boundT m.trees[i].nodes b).a, (boundT m.trees[i].nodes b).b) := part_of ⟨⟨_, hrt⟩, hb, he⟩ _
    have hbd := boundF_le (c := c) he (m.trees.take (i + 1)) (m.bias.get c, m.bias.get c) (fun t ht => ⟨_, hr.rt (List.mem_of_mem_take ht)⟩)
    have hb2 := of_fits (Bias.get_fits hr c)
    have hs : (m.trees.take (i + 1)).foldl (boundF c b) (m.bias.get c, m.bias.get c) = boundF c b ((m.trees.take i).foldl (boundF c b) (m.bias.get c, m.bias.get c)) m.trees[i] := by
      rw [List.take_succ_eq_append_getElem h1, List.foldl_append]
      rfl
    have hl : (m.trees.take (i + 1)).length ≤ 8 := by simp; omega
    simp only at hbd
    by_cases hc : m.trees[i].cls = c
    case pos =>
      have hs1 : ((m.trees.take (i + 1)).foldl (boundF c b) (m.bias.get c, m.bias.get c)).1 = ((m.trees.take i).foldl (boundF c b) (m.bias.get c, m.bias.get c)).1 + (boundT m.trees[i].nodes b).a := by rw [hs, boundF, if_pos hc]
      have hs2 : ((m.trees.take (i + 1)).foldl (boundF c b) (m.bias.get c, m.bias.get c)).2 = ((m.trees.take i).foldl (boundF c b) (m.bias.get c, m.bias.get c)).2 + (boundT m.trees[i].nodes b).b := by rw [hs, boundF, if_pos hc]
      have w2 : IntKind.i64.wrap (((m.trees.take i).foldl (boundF c b) (m.bias.get c, m.bias.get c)).1 + (boundT m.trees[i].nodes b).a) = ((m.trees.take (i + 1)).foldl (boundF c b) (m.bias.get c, m.bias.get c)).1 := by rw [← hs1]; exact wrap64 (by omega) (by omega)
      have w3 : IntKind.i64.wrap (((m.trees.take i).foldl (boundF c b) (m.bias.get c, m.bias.get c)).2 + (boundT m.trees[i].nodes b).b) = ((m.trees.take (i + 1)).foldl (boundF c b) (m.bias.get c, m.bias.get c)).2 := by rw [← hs2]; exact wrap64 (by omega) (by omega)
      simp -implicitDefEqProofs [h1, hrow, hc, hV, w1, w2, w3]
      exact ⟨n - 1, by omega, i + 1, by omega, rfl, rfl, by omega⟩
    case neg =>
      have hs2 : (m.trees.take (i + 1)).foldl (boundF c b) (m.bias.get c, m.bias.get c) = (m.trees.take i).foldl (boundF c b) (m.bias.get c, m.bias.get c) := by rw [hs, boundF, if_neg hc]
      simp -implicitDefEqProofs [h1, hrow, hc, hV, w1]
      exact ⟨n - 1, by omega, i + 1, by omega, by rw [hs2], by rw [hs2], by omega⟩
  case neg =>
    have hil : i = m.trees.length := by omega
    subst hil
    simp -implicitDefEqProofs [h1, boundP]
theorem c_sums : Contract Try.prog 38 (sp3 SumsC) :=
  contract_of_runs mixed (tbl_cons c_mRight (tbl_cons c_bEmpty (tbl_cons c_ends tbl_nil))) Try.func38 m38 (sp3_runs runs_sums)
end Go.Co
/- CO: a search, as it goes; the document's own search. -/
set_option maxHeartbeats 16000000
set_option maxRecDepth 100000
namespace Go.Co
open Go.Am Go.Proofs
set_option linter.unusedSimpArgs false
set_option linter.unusedVariables false
attribute [-simp] Go.Am.eff_gcall
def zeroP : Point := ⟨0, 0, 0, 0⟩
def sumS : Step := ⟨true, 0, 0⟩
def searchN (m : Model) (q : Query) : Nat → Int → List Box → List Step → Verdict
  | _, sp, [], pf => ⟨1, pf, zeroP, 0, sp⟩
  | 0, sp, _ :: _, _ => ⟨3, [], zeroP, 0, sp⟩
  | n + 1, sp, b :: bs, pf =>
    if closedM m q b then searchN m q n (sp + 1) bs (pf ++ [sumS]) else
    if corner m q b then ⟨2, [], lowB b, b.s4.hi, sp + 1⟩ else
    if (splitM m q b).c then searchN m q n (sp + 1) ((cutB b (splitM m q b).a (splitM m q b).b).1 :: (cutB b (splitM m q b).a (splitM m q b).b).2 :: bs) (pf ++ [⟨false, (splitM m q b).a, (splitM m q b).b⟩]) else ⟨3, [], zeroP, 0, sp + 1⟩
def searchM (m : Model) (q : Query) : Verdict := if okQuery m q then searchN m q q.budget.toNat 0 [startOf q] [] else ⟨4, [], zeroP, 0, 0⟩
theorem split_in {m : Model} {q : Query} {b : Box} (h : (splitM m q b).c = true) : 0 ≤ (splitM m q b).a ∧ (splitM m q b).a < 5 ∧ (splitM m q b).b ∈ cutsL m q b (splitM m q b).a := by
  unfold splitM at *
  rcases splitFrom_spec m q b [0, 1, 2, 3, 4] with ⟨h1, _⟩ | ⟨l, r, k, h1, h2, h3, h4⟩
  · rw [h1] at h; cases h
  · rw [h4]
    simp only
    have hk : k ∈ ([0, 1, 2, 3, 4] : List Int) := by rw [h1]; simp
    simp at hk
    refine ⟨by omega, by omega, ?_⟩
    unfold midL
    have hp : 0 < (cutsL m q b k).length := List.length_pos_iff.2 (by first | exact h2 | exact h3)
    have hlt : ((cutsL m q b k).length - 1) / 2 < (cutsL m q b k).length := by omega
    rw [List.getD_eq_getElem?_getD, List.getElem?_eq_getElem hlt]
    exact List.getElem_mem hlt
theorem okQuery_start {m : Model} {q : Query} (h : okQuery m q = true) : smallB (startOf q) ∧ okB (startOf q) ∧ (startOf q).empty = false := by
  have hs := (okQuery_spec h).2.2.2.2.1
  unfold okRegion okSpan at hs
  simp only [Bool.and_eq_true, Bool.not_eq_true'] at hs
  obtain ⟨⟨⟨⟨a0, a1⟩, a2⟩, a3⟩, a4⟩ := hs
  have key : ∀ s : Span, s.empty = false → fits s.lo = true → fits s.hi = true → small s ∧ s.lo ≤ s.hi := fun s h1 h2 h3 => by
    have h2 := of_fits h2
    have h3 := of_fits h3
    unfold Span.empty at h1
    rw [decide_eq_false_iff_not] at h1
    unfold small
    omega
  have k0 := key _ a0.1.1.2 a0.1.2 a0.2
  have k1 := key _ a1.1.1.2 a1.1.2 a1.2
  have k2 := key _ a2.1.1.2 a2.1.2 a2.2
  have k3 := key _ a3.1.1.2 a3.1.2 a3.2
  have k4 : small (startOf q).s4 ∧ (startOf q).s4.lo ≤ (startOf q).s4.hi := by
    unfold startOf
    simp only
    split
    · rename_i hp
      have hf := paired_feature hp
      rcases hf with hf | hf | hf | hf <;> rw [hf] <;> simp only [Box.get, reduceIte, Int.reduceEq] <;> assumption
    · unfold small; simp
  have hsm : smallB (startOf q) := ⟨k0.1, k1.1, k2.1, k3.1, k4.1⟩
  have hne : (startOf q).empty = false := by
    refine empty_get.2 fun i i0 i5 => ?_
    have hi : i = 0 ∨ i = 1 ∨ i = 2 ∨ i = 3 ∨ i = 4 := by omega
    rcases hi with rfl | rfl | rfl | rfl | rfl
    · exact k0.2
    · exact k1.2
    · exact k2.2
    · exact k3.2
    · exact k4.2
  exact ⟨hsm, small_ok hsm hne, hne⟩
def c34_0 : ACode := .ops [⟨some 2, .box (.t 0) 6, none, []⟩,⟨some 3, .box (.t 1) 17, none, []⟩,⟨some 4, .alloc [.int .i64 0, .nils, .int .i64 0, .int .i64 0, .int .i64 0, .int .i64 0, .int .i64 0, .int .i64 0], none, []⟩] [2, 3, 4]
theorem r34_0 : type_of% (@rr _ _ c34_0.eq_1) := rr rfl
def c34_1 : ACode := .ops [⟨some 13, .load 6 true (.t 2), none, [2]⟩,⟨some 14, .load 17 true (.t 3), none, [3]⟩,⟨some 15, .call 79 [.t 13, .t 14], none, []⟩,⟨some 16, .un .not (.t 15), none, []⟩] [2, 3, 4, 16]
theorem r34_1 : type_of% (@rr _ _ c34_1.eq_1) := rr rfl
def c34_2 : ACode := .ops [⟨some 17, .build [.int .i64 0, .nils, .int .i64 0, .int .i64 0, .int .i64 0, .int .i64 0, .int .i64 0, .int .i64 0] [(0, 1, .c (.int .i64 4))], none, []⟩,⟨none, .store (.t 4) 8 (.t 17), none, [4]⟩] [4]
theorem r34_2 : type_of% (@rr _ _ c34_2.eq_1) := rr rfl
def c34_3 : ACode := .seq c34_2 .ret
theorem r34_3 : type_of% (@rr _ _ c34_3.eq_1) := rr rfl
def c34_4 : ACode := .cond (.t 16) c34_3 .skip
theorem r34_4 : type_of% (@rr _ _ c34_4.eq_1) := rr rfl
def c34_5 : ACode := .seq c34_1 c34_4
theorem r34_5 : type_of% (@rr _ _ c34_5.eq_1) := rr rfl
def c34_6 : ACode := .ops [⟨some 18, .load 17 true (.t 3), none, [3]⟩,⟨some 19, .call 33 [.t 18], none, []⟩,⟨some 20, .mkrow 5 1 10 [.int .i64 0, .int .i64 0, .int .i64 0, .int .i64 0, .int .i64 0, .int .i64 0, .int .i64 0, .int .i64 0, .int .i64 0, .int .i64 0] [(0, 10, .t 19)], none, []⟩,⟨some 5, .mv (.t 20), none, []⟩] [2, 3, 4, 5]
theorem r34_6 : type_of% (@rr _ _ c34_6.eq_1) := rr rfl
def c34_7 : ACode := .ops [⟨some 21, .build [.int .i64 0, .nils, .int .i64 0, .int .i64 0, .int .i64 0, .int .i64 0, .int .i64 0, .int .i64 0] [(0, 1, .c (.int .i64 3))], none, []⟩,⟨some 6, .alloc [.int .i64 0, .nils, .int .i64 0, .int .i64 0, .int .i64 0, .int .i64 0, .int .i64 0, .int .i64 0], none, []⟩,⟨none, .store (.t 6) 8 (.t 21), none, [6]⟩] [2, 3, 4, 5, 6]
theorem r34_7 : type_of% (@rr _ _ c34_7.eq_1) := rr rfl
def c34_8 : ACode := .ops [⟨some 22, .mv (.t 5), none, []⟩,⟨some 23, .len (.t 22), none, [5]⟩,⟨some 24, .bin .gtr (.t 23) (.c (.int .i64 0)), none, []⟩] [2, 3, 4, 5, 6, 24]
theorem r34_8 : type_of% (@rr _ _ c34_8.eq_1) := rr rfl
def c34_9 : ACode := .cond (.t 24) .skip (.exit 0)
theorem r34_9 : type_of% (@rr _ _ c34_9.eq_1) := rr rfl
def c34_10 : ACode := .seq c34_8 c34_9
theorem r34_10 : type_of% (@rr _ _ c34_10.eq_1) := rr rfl
def c34_11 : ACode := .ops [⟨some 25, .fad (.t 6) 7, none, [6]⟩,⟨some 26, .load 1 false (.t 25), none, [6]⟩,⟨some 27, .fad (.t 3) 16, none, [3]⟩,⟨some 28, .load 1 false (.t 27), none, [3]⟩,⟨some 29, .bin .geq (.t 26) (.t 28), none, []⟩] [2, 3, 4, 5, 6, 29]
theorem r34_11 : type_of% (@rr _ _ c34_11.eq_1) := rr rfl
def c34_12 : ACode := .ops [⟨some 30, .fad (.t 6) 7, none, [6]⟩,⟨some 31, .load 1 false (.t 30), none, [6]⟩,⟨some 32, .build [.int .i64 0, .nils, .int .i64 0, .int .i64 0, .int .i64 0, .int .i64 0, .int .i64 0, .int .i64 0] [(0, 1, .c (.int .i64 3)), (7, 1, .t 31)], none, []⟩,⟨none, .store (.t 4) 8 (.t 32), none, [4]⟩] [4]
theorem r34_12 : type_of% (@rr _ _ c34_12.eq_1) := rr rfl
def c34_13 : ACode := .seq c34_12 .ret
theorem r34_13 : type_of% (@rr _ _ c34_13.eq_1) := rr rfl
def c34_14 : ACode := .cond (.t 29) c34_13 .skip
theorem r34_14 : type_of% (@rr _ _ c34_14.eq_1) := rr rfl
def c34_15 : ACode := .seq c34_11 c34_14
theorem r34_15 : type_of% (@rr _ _ c34_15.eq_1) := rr rfl
def c34_16 : ACode := .ops [⟨some 33, .fad (.t 6) 7, none, [6]⟩,⟨some 34, .load 1 false (.t 33), none, [6]⟩,⟨some 35, .bin .add (.t 34) (.c (.int .i64 1)), none, []⟩,⟨some 36, .fad (.t 6) 7, none, [6]⟩,⟨none, .store (.t 36) 1 (.t 35), none, [6]⟩] [2, 3, 4, 5, 6]
theorem r34_16 : type_of% (@rr _ _ c34_16.eq_1) := rr rfl
def c34_17 : ACode := .ops [⟨some 37, .mv (.t 5), none, []⟩,⟨some 38, .mv (.t 5), none, []⟩,⟨some 39, .len (.t 38), none, [5]⟩,⟨some 40, .bin .sub (.t 39) (.c (.int .i64 1)), none, []⟩,⟨some 41, .ias (.t 37) (.t 40) 10, none, [5]⟩,⟨some 42, .load 10 true (.t 41), none, [5]⟩,⟨some 7, .alloc [.int .i64 0, .int .i64 0, .int .i64 0, .int .i64 0, .int .i64 0, .int .i64 0, .int .i64 0, .int .i64 0, .int .i64 0, .int .i64 0], none, []⟩,⟨none, .store (.t 7) 10 (.t 42), none, [7]⟩] [2, 3, 4, 5, 6, 7]
theorem r34_17 : type_of% (@rr _ _ c34_17.eq_1) := rr rfl
def c34_18 : ACode := .ops [⟨some 43, .mv (.t 5), none, []⟩,⟨some 44, .mv (.t 5), none, []⟩,⟨some 45, .len (.t 44), none, [5]⟩,⟨some 46, .bin .sub (.t 45) (.c (.int .i64 1)), none, []⟩,⟨some 47, .sl (.t 43) none (some (.t 46)) 10, none, [5]⟩,⟨some 5, .mv (.t 47), none, []⟩] [2, 3, 4, 5, 6, 7]
theorem r34_18 : type_of% (@rr _ _ c34_18.eq_1) := rr rfl
def c34_19 : ACode := .ops [⟨some 48, .load 6 true (.t 2), none, [2]⟩,⟨some 49, .load 17 true (.t 3), none, [3]⟩,⟨some 50, .load 10 true (.t 7), none, [7]⟩,⟨some 51, .call 80 [.t 48, .t 49, .t 50], none, []⟩] [2, 3, 4, 5, 6, 7, 51]
theorem r34_19 : type_of% (@rr _ _ c34_19.eq_1) := rr rfl
def c34_20 : ACode := .ops [⟨some 52, .fad (.t 6) 1, none, [6]⟩,⟨some 53, .load 1 false (.t 52), none, [6]⟩,⟨some 54, .build [.bool false, .int .i64 0, .int .i64 0] [(0, 1, .c (.bool true))], none, []⟩,⟨some 55, .mkrow 55 1 3 [.bool false, .int .i64 0, .int .i64 0] [(0, 3, .t 54)], none, []⟩,⟨some 56, .app 10601 [10601] (.t 53) (.t 55) 3, none, [55, 10601]⟩,⟨some 57, .fad (.t 6) 1, none, [6]⟩,⟨none, .store (.t 57) 1 (.t 56), none, [6]⟩] [2, 3, 4, 5, 6]
theorem r34_20 : type_of% (@rr _ _ c34_20.eq_1) := rr rfl
def c34_21 : ACode := .seq c34_20 (.exit 1)
theorem r34_21 : type_of% (@rr _ _ c34_21.eq_1) := rr rfl
def c34_22 : ACode := .cond (.t 51) c34_21 .skip
theorem r34_22 : type_of% (@rr _ _ c34_22.eq_1) := rr rfl
def c34_23 : ACode := .seq c34_19 c34_22
theorem r34_23 : type_of% (@rr _ _ c34_23.eq_1) := rr rfl
def c34_24 : ACode := .ops [⟨some 58, .load 6 true (.t 2), none, [2]⟩,⟨some 59, .load 17 true (.t 3), none, [3]⟩,⟨some 60, .load 10 true (.t 7), none, [7]⟩,⟨some 61, .call 81 [.t 60], none, []⟩,⟨some 62, .iad (.t 7) (.c (.int .i64 4)) 2 5, none, [7]⟩,⟨some 63, .fad (.t 62) 1, none, [7]⟩,⟨some 64, .load 1 false (.t 63), none, [7]⟩,⟨some 65, .call 37 [.t 58, .t 59, .t 61, .t 64], none, []⟩] [2, 3, 4, 5, 6, 7, 65]
theorem r34_24 : type_of% (@rr _ _ c34_24.eq_1) := rr rfl
def c34_25 : ACode := .ops [⟨some 66, .load 10 true (.t 7), none, [7]⟩,⟨some 67, .call 81 [.t 66], none, []⟩,⟨some 68, .iad (.t 7) (.c (.int .i64 4)) 2 5, none, [7]⟩,⟨some 69, .fad (.t 68) 1, none, [7]⟩,⟨some 70, .load 1 false (.t 69), none, [7]⟩,⟨some 71, .fad (.t 6) 7, none, [6]⟩,⟨some 72, .load 1 false (.t 71), none, [6]⟩,⟨some 73, .build [.int .i64 0, .nils, .int .i64 0, .int .i64 0, .int .i64 0, .int .i64 0, .int .i64 0, .int .i64 0] [(0, 1, .c (.int .i64 2)), (2, 4, .t 67), (6, 1, .t 70), (7, 1, .t 72)], none, []⟩,⟨none, .store (.t 4) 8 (.t 73), none, [4]⟩] [4]
theorem r34_25 : type_of% (@rr _ _ c34_25.eq_1) := rr rfl
def c34_26 : ACode := .seq c34_25 .ret
theorem r34_26 : type_of% (@rr _ _ c34_26.eq_1) := rr rfl
def c34_27 : ACode := .cond (.t 65) c34_26 .skip
theorem r34_27 : type_of% (@rr _ _ c34_27.eq_1) := rr rfl
def c34_28 : ACode := .seq c34_24 c34_27
theorem r34_28 : type_of% (@rr _ _ c34_28.eq_1) := rr rfl
def c34_29 : ACode := .ops [⟨some 75, .load 6 true (.t 2), none, [2]⟩,⟨some 76, .load 17 true (.t 3), none, [3]⟩,⟨some 77, .load 10 true (.t 7), none, [7]⟩,⟨some 78, .call 82 [.t 75, .t 76, .t 77], none, []⟩,⟨some 74, .mv (.t 78), none, []⟩,⟨some 79, .ext (.t 74) 0, none, []⟩,⟨some 80, .ext (.t 74) 1, none, []⟩,⟨some 81, .ext (.t 74) 2, none, []⟩,⟨some 8, .mv (.t 79), none, []⟩,⟨some 9, .mv (.t 80), none, []⟩,⟨some 10, .mv (.t 81), none, []⟩] [2, 3, 4, 5, 6, 7, 8, 9, 10]
theorem r34_29 : type_of% (@rr _ _ c34_29.eq_1) := rr rfl
def c34_30 : ACode := .ops [⟨some 82, .mv (.t 10), none, []⟩,⟨some 83, .un .not (.t 82), none, []⟩] [2, 3, 4, 5, 6, 7, 8, 9, 83]
theorem r34_30 : type_of% (@rr _ _ c34_30.eq_1) := rr rfl
def c34_31 : ACode := .ops [⟨some 84, .fad (.t 6) 7, none, [6]⟩,⟨some 85, .load 1 false (.t 84), none, [6]⟩,⟨some 86, .build [.int .i64 0, .nils, .int .i64 0, .int .i64 0, .int .i64 0, .int .i64 0, .int .i64 0, .int .i64 0] [(0, 1, .c (.int .i64 3)), (7, 1, .t 85)], none, []⟩,⟨none, .store (.t 4) 8 (.t 86), none, [4]⟩] [4]
theorem r34_31 : type_of% (@rr _ _ c34_31.eq_1) := rr rfl
def c34_32 : ACode := .seq c34_31 .ret
theorem r34_32 : type_of% (@rr _ _ c34_32.eq_1) := rr rfl
def c34_33 : ACode := .cond (.t 83) c34_32 .skip
theorem r34_33 : type_of% (@rr _ _ c34_33.eq_1) := rr rfl
def c34_34 : ACode := .seq c34_30 c34_33
theorem r34_34 : type_of% (@rr _ _ c34_34.eq_1) := rr rfl
def c34_35 : ACode := .ops [⟨some 87, .fad (.t 6) 1, none, [6]⟩,⟨some 88, .load 1 false (.t 87), none, [6]⟩,⟨some 89, .mv (.t 8), none, []⟩,⟨some 90, .mv (.t 9), none, []⟩,⟨some 91, .build [.bool false, .int .i64 0, .int .i64 0] [(1, 1, .t 89), (2, 1, .t 90)], none, []⟩,⟨some 92, .mkrow 92 1 3 [.bool false, .int .i64 0, .int .i64 0] [(0, 3, .t 91)], none, []⟩,⟨some 93, .app 10601 [10601] (.t 88) (.t 92) 3, none, [92, 10601]⟩,⟨some 94, .fad (.t 6) 1, none, [6]⟩,⟨none, .store (.t 94) 1 (.t 93), none, [6]⟩] [2, 3, 4, 5, 6, 7, 8, 9]
theorem r34_35 : type_of% (@rr _ _ c34_35.eq_1) := rr rfl
def c34_36 : ACode := .ops [⟨some 96, .load 10 true (.t 7), none, [7]⟩,⟨some 97, .mv (.t 8), none, []⟩,⟨some 98, .mv (.t 9), none, []⟩,⟨some 99, .call 83 [.t 96, .t 97, .t 98], none, []⟩,⟨some 95, .mv (.t 99), none, []⟩,⟨some 100, .ext (.t 95) 0, none, []⟩,⟨some 101, .ext (.t 95) 1, none, []⟩,⟨some 11, .alloc [.int .i64 0, .int .i64 0, .int .i64 0, .int .i64 0, .int .i64 0, .int .i64 0, .int .i64 0, .int .i64 0, .int .i64 0, .int .i64 0], none, []⟩,⟨some 12, .alloc [.int .i64 0, .int .i64 0, .int .i64 0, .int .i64 0, .int .i64 0, .int .i64 0, .int .i64 0, .int .i64 0, .int .i64 0, .int .i64 0], none, []⟩,⟨none, .store (.t 11) 10 (.t 100), none, [11]⟩,⟨none, .store (.t 12) 10 (.t 101), none, [12]⟩] [2, 3, 4, 5, 6, 11, 12]
theorem r34_36 : type_of% (@rr _ _ c34_36.eq_1) := rr rfl
def c34_37 : ACode := .ops [⟨some 102, .mv (.t 5), none, []⟩,⟨some 103, .load 10 true (.t 12), none, [12]⟩,⟨some 104, .load 10 true (.t 11), none, [11]⟩,⟨some 105, .mkrow 105 2 10 [.int .i64 0, .int .i64 0, .int .i64 0, .int .i64 0, .int .i64 0, .int .i64 0, .int .i64 0, .int .i64 0, .int .i64 0, .int .i64 0] [(0, 10, .t 103), (10, 10, .t 104)], none, []⟩,⟨some 106, .app 5 [5] (.t 102) (.t 105) 10, none, [5, 105]⟩,⟨some 5, .mv (.t 106), none, []⟩] [2, 3, 4, 5, 6]
theorem r34_37 : type_of% (@rr _ _ c34_37.eq_1) := rr rfl
def c34_38 : ACode := .seq c34_36 c34_37
theorem r34_38 : type_of% (@rr _ _ c34_38.eq_1) := rr rfl
def c34_39 : ACode := .seq c34_35 c34_38
theorem r34_39 : type_of% (@rr _ _ c34_39.eq_1) := rr rfl
def c34_40 : ACode := .seq c34_34 c34_39
theorem r34_40 : type_of% (@rr _ _ c34_40.eq_1) := rr rfl
def c34_41 : ACode := .seq c34_29 c34_40
theorem r34_41 : type_of% (@rr _ _ c34_41.eq_1) := rr rfl
def c34_42 : ACode := .seq c34_28 c34_41
theorem r34_42 : type_of% (@rr _ _ c34_42.eq_1) := rr rfl
def c34_43 : ACode := .seq c34_23 c34_42
theorem r34_43 : type_of% (@rr _ _ c34_43.eq_1) := rr rfl
def c34_44 : ACode := .seq c34_18 c34_43
theorem r34_44 : type_of% (@rr _ _ c34_44.eq_1) := rr rfl
def c34_45 : ACode := .seq c34_17 c34_44
theorem r34_45 : type_of% (@rr _ _ c34_45.eq_1) := rr rfl
def c34_46 : ACode := .seq c34_16 c34_45
theorem r34_46 : type_of% (@rr _ _ c34_46.eq_1) := rr rfl
def c34_47 : ACode := .seq c34_15 c34_46
theorem r34_47 : type_of% (@rr _ _ c34_47.eq_1) := rr rfl
def c34_48 : ACode := .block 1 c34_47
theorem r34_48 : type_of% (@rr _ _ c34_48.eq_1) := rr rfl
def c34_49 : ACode := .seq c34_10 c34_48
theorem r34_49 : type_of% (@rr _ _ c34_49.eq_1) := rr rfl
def c34_50 : ACode := .keep [2, 3, 4, 5, 6] [2, 3, 4, 5, 6, 10601] c34_49
theorem r34_50 : type_of% (@rr _ _ c34_50.eq_1) := rr rfl
def c34_51 : ACode := .loop c34_50
theorem r34_51 : type_of% (@rr _ _ c34_51.eq_1) := rr rfl
def c34_52 : ACode := .block 0 c34_51
theorem r34_52 : type_of% (@rr _ _ c34_52.eq_1) := rr rfl
def c34_53 : ACode := .ops [⟨some 107, .fad (.t 6) 0, none, [6]⟩,⟨none, .store (.t 107) 1 (.c (.int .i64 1)), none, [6]⟩] [4, 6]
theorem r34_53 : type_of% (@rr _ _ c34_53.eq_1) := rr rfl
def c34_54 : ACode := .ops [⟨some 108, .load 8 true (.t 6), none, [6]⟩,⟨none, .store (.t 4) 8 (.t 108), none, [4]⟩] [4]
theorem r34_54 : type_of% (@rr _ _ c34_54.eq_1) := rr rfl
def c34_55 : ACode := .seq c34_54 .ret
theorem r34_55 : type_of% (@rr _ _ c34_55.eq_1) := rr rfl
def c34_56 : ACode := .seq c34_53 c34_55
theorem r34_56 : type_of% (@rr _ _ c34_56.eq_1) := rr rfl
def c34_57 : ACode := .seq c34_52 c34_56
theorem r34_57 : type_of% (@rr _ _ c34_57.eq_1) := rr rfl
def c34_58 : ACode := .seq c34_7 c34_57
theorem r34_58 : type_of% (@rr _ _ c34_58.eq_1) := rr rfl
def c34_59 : ACode := .seq c34_6 c34_58
theorem r34_59 : type_of% (@rr _ _ c34_59.eq_1) := rr rfl
def c34_60 : ACode := .seq c34_5 c34_59
theorem r34_60 : type_of% (@rr _ _ c34_60.eq_1) := rr rfl
def c34_61 : ACode := .seq c34_0 c34_60
theorem r34_61 : type_of% (@rr _ _ c34_61.eq_1) := rr rfl
def a34 : AFun := ⟨2, 109, c34_61, [.cell 4 8 true]⟩
attribute [simp] r34_0 r34_1 r34_2 r34_3 r34_4 r34_5 r34_6 r34_7 r34_8 r34_9 r34_10 r34_11 r34_12 r34_13 r34_14 r34_15 r34_16 r34_17 r34_18 r34_19 r34_20 r34_21 r34_22 r34_23 r34_24 r34_25 r34_26 r34_27 r34_28 r34_29 r34_30 r34_31 r34_32 r34_33 r34_34 r34_35 r34_36 r34_37 r34_38 r34_39 r34_40 r34_41 r34_42 r34_43 r34_44 r34_45 r34_46 r34_47 r34_48 r34_49 r34_50 r34_51 r34_52 r34_53 r34_54 r34_55 r34_56 r34_57 r34_58 r34_59 r34_60 r34_61
theorem m34 : mFun Try.prog Try.f34 a34 = true := by decide +kernel
def vCells (v : Verdict) (V : AV) : List AV := [.int .i64 v.kind, V, .int .i64 v.witness.p0, .int .i64 v.witness.p1, .int .i64 v.witness.p2, .int .i64 v.witness.p3, .int .i64 v.twin, .int .i64 v.spent]
structure SEnd (v : Verdict) (g0 : Nat) (h : Hp) (g : Nat → Nat) : Prop where
  zero : g 0 = g0
  val : (v.proof = [] ∧ hlook h 4 = some ⟨vCells v .nils, false, 0⟩) ∨ (v.proof ≠ [] ∧ hlook h 4 = some ⟨vCells v (.own 10601 (g 10601) 0 v.proof.length), false, 0⟩ ∧ hlook h 10601 = some ⟨encL v.proof, false, 3⟩)
noncomputable abbrev seT : Cs := tbl [(79, sp2 RQRight), (33, sp1 fun q => some (startOf q)), (80, sp3 ClosedC), (37, sp4 BreaksC), (81, sp1 fun b => some (lowB b)), (82, sp3 SplitC), (83, sp3 RcutC)]
theorem take_stepsE (X : List Step) : List.take (X.length * 3) (encL X) = encL X := take_rows _ _ (by simp)
theorem len_steps (X : List Step) : X.length * 3 ≤ (encL X).length := by rw [encL_length]; exact Nat.le_refl _
theorem take_boxG (X : List Box) (G : List AV) : List.take (X.length * 10) (encL X ++ G) = encL X := by
  have : (encL X).length = X.length * 10 := encL_length X
  rw [← this, List.take_left]
theorem len_boxG (X : List Box) (G : List AV) : X.length * 10 ≤ (encL X ++ G).length := by rw [List.length_append, encL_length]; exact Nat.le_add_right _ _
theorem run_rSearch (m : Model) (q : Query) (hm : RM m) (g : Nat → Nat) (Q : Post) (hQ : ∀ (h : Hp) (g' : Nat → Nat), SEnd (searchM m q) (g 0) h g' → Q .ret ⟨[(4, .ptr 4 (g' 4) 0)], h, g'⟩) :
    run seT a34.code [] ⟨argEnv 0 [Arg.enc m, Arg.enc q], [], g⟩ Q := by
  unfold a34
  have hM : RQRight m q = some (okQuery m q) := part_of hm _
  unfold searchM at hQ
  cases hq : okQuery m q
  case false =>
    rw [hq] at hM hQ
    rw [if_neg (by simp)] at hQ
    simp -implicitDefEqProofs [hM]
    refine hQ _ (bump 4 (bump 3 (bump 2 g))) ⟨by simp, .inl ⟨rfl, ?_⟩⟩
    simp [vCells, zeroP]
  rw [hq] at hM hQ
  rw [if_pos rfl] at hQ
  have hbu := okQuery_spec hq
  have hst := okQuery_start hq
  simp -implicitDefEqProofs [hM]
  generalize hg0 : g 0 = g00 at *
  generalize hR : searchN m q q.budget.toNat 0 [startOf q] [] = res at *
  refine run_while (c := c34_49) (fun n s => ∃ (R : List Box) (pf : List Step) (sp : Int) (V : AV) (hx : Hp) (G : List AV) (g : Nat → Nat), (n : Int) + sp = q.budget ∧ 0 ≤ sp ∧ (R.length : Int) ≤ sp + 1 ∧ (pf.length : Int) ≤ sp ∧ g 0 = g00 ∧ (∀ b ∈ R, okB b) ∧ searchN m q n sp R.reverse pf = res ∧
    ((V = .nils ∧ hx = [] ∧ pf = []) ∨ (pf ≠ [] ∧ V = .own 10601 (g 10601) 0 pf.length ∧ hx = [(10601, ⟨encL pf, false, 3⟩)])) ∧
    s = ⟨[(2, .ptr 2 (g 2) 0), (3, .ptr 3 (g 3) 0), (4, .ptr 4 (g 4) 0), (5, .own 5 (g 5) 0 R.length), (6, .ptr 6 (g 6) 0)],
      (2, ⟨Row.enc m, false, 0⟩) :: (3, ⟨Row.enc q, false, 0⟩) :: (4, ⟨[.int .i64 0, .nils, .int .i64 0, .int .i64 0, .int .i64 0, .int .i64 0, .int .i64 0, .int .i64 0], false, 0⟩) :: (5, ⟨encL R ++ G, false, 10⟩) :: (6, ⟨[.int .i64 3, V, .int .i64 0, .int .i64 0, .int .i64 0, .int .i64 0, .int .i64 0, .int .i64 sp], false, 0⟩) :: hx, g⟩) q.budget.toNat
    ⟨[startOf q], [], 0, .nils, [], [], bump 6 (bump 5 (bump 4 (bump 3 (bump 2 g)))), by omega, by omega, by simp, by simp, by simp [hg0], by simpa using hst.2.1, hR, .inl ⟨rfl, rfl, rfl⟩, by simp [encL_cons, encL_nil]⟩ ?_
  rintro n s ⟨R, pf, sp, V, hx, G, g, hn, hsp, hRl, hpl, hg1, hRok, hS, hV, rfl⟩
  rcases List.eq_nil_or_concat R with rfl | ⟨R, b, rfl⟩
  · have hres : res = ⟨1, pf, zeroP, 0, sp⟩ := by rw [← hS]; cases n <;> rfl
    subst hres
    rcases hV with ⟨rfl, rfl, rfl⟩ | ⟨hpn, rfl, rfl⟩
    · simp -implicitDefEqProofs []
      refine hQ _ _ ⟨by simp [hg1], .inl ⟨rfl, ?_⟩⟩
      simp [vCells, zeroP]
    · simp -implicitDefEqProofs []
      refine hQ _ _ ⟨by simp [hg1], .inr ⟨hpn, ?_, ?_⟩⟩
      · simp [vCells, zeroP]
      · simp
  rw [List.concat_eq_append] at *
  rw [List.reverse_append, List.reverse_singleton, List.singleton_append] at hS
  have hRl' : (R.length : Int) ≤ sp := by rw [List.length_append, List.length_singleton] at hRl; omega
  have hbok : okB b := hRok b (by simp)
  have hRok' : ∀ x ∈ R, okB x := fun x hx => hRok x (by simp [hx])
  have wL : IntKind.i64.wrap ((R.length : Nat) : Int) = R.length := wrap64 (by omega) (by omega)
  have c0 : R.length + 1 ≤ maxN := by unfold maxN; omega
  have c9 : (R.length : Int) < (R.length : Int) + 1 := by omega
  have c10 : (R.length : Int) ≤ (R.length : Int) + 1 := by omega
  have c11 : R.length ≤ 1099511627774 := by omega
  have c12 : pf.length ≤ 1099511627775 := by omega
  have htop : rd (encL R ++ (Row.enc b ++ G)) (R.length * 10) 10 true = some (.agg (Row.enc b)) := by
    have := rd_top R b G
    rw [encL_append, List.append_assoc] at this
    simpa [encL_cons, encL_nil] using this
  have e1 : encL (R ++ [b]) ++ G = encL R ++ (Row.enc b ++ G) := by simp [encL_append, encL_cons, encL_nil]
  have e2 : (R ++ [b]).length = R.length + 1 := by simp
  rw [e1, e2]
  have htk := take_boxG R (Row.enc b ++ G)
  have hlen := len_boxG R (Row.enc b ++ G)
  generalize (Row.enc b ++ G) = G2 at *
  have hlen2 : R.length * 10 ≤ (encL R).length + G2.length := by simpa using hlen
  have htop : rd (encL R ++ G2) (R.length * 10) 10 true = some (.agg [.int .i64 b.s0.lo, .int .i64 b.s0.hi, .int .i64 b.s1.lo, .int .i64 b.s1.hi, .int .i64 b.s2.lo, .int .i64 b.s2.hi, .int .i64 b.s3.lo, .int .i64 b.s3.hi, .int .i64 b.s4.lo, .int .i64 b.s4.hi]) := htop
  have hCl : ClosedC m q b = some (closedM m q b) := part_of ⟨hm, hbok⟩ _
  have hBr : BreaksC m q (lowB b) b.s4.hi = some (corner m q b) := part_of hm _
  have hSp : SplitC m q b = some (splitM m q b) := part_of hm _
  have hbu1 := hbu.2.2.2.1
  cases n with
  | zero =>
    have hres : res = ⟨3, [], zeroP, 0, sp⟩ := by rw [← hS]; rfl
    subst hres
    have hge : q.budget ≤ sp := by omega
    rcases hV with ⟨rfl, rfl, rfl⟩ | ⟨hpn, rfl, rfl⟩
    all_goals
      simp -implicitDefEqProofs [c0, hge]
      refine hQ _ _ ⟨by simp [hg1], .inl ⟨rfl, ?_⟩⟩
      simp [vCells, zeroP]
  | succ n =>
    have hge : ¬ q.budget ≤ sp := by omega
    have w1 : IntKind.i64.wrap (sp + 1) = sp + 1 := wrap64 (by omega) (by omega)
    rw [searchN] at hS
    cases hcl : closedM m q b
    case true =>
      rw [hcl] at hCl hS
      rw [if_pos rfl] at hS
      have hsn : encL (pf ++ [sumS]) = encL pf ++ [.bool true, .int .i64 0, .int .i64 0] := by rw [encL_append]; rfl
      have htkp := take_stepsE pf
      have hlnp := len_steps pf
      rcases hV with ⟨rfl, rfl, rfl⟩ | ⟨hpn, rfl, rfl⟩
      · simp -implicitDefEqProofs [c0, c9, c10, wL, hge, w1, htop, hlen2, hCl]
        exact ⟨n, by omega, R, [sumS], sp + 1, by omega, by omega, by omega, by simp; omega, .own 10601 (g 10601 + 1) 0 1, [(10601, ⟨encL [sumS], false, 3⟩)], G2, bump 10601 (bump 55 (bump 7 g)), by simp [hg1], hRok', by simpa using hS, .inr ⟨by simp, by simp, rfl⟩, ⟨by simp, by simp, by simp, ⟨by simp, rfl⟩, by simp⟩, ⟨rfl, ⟨rfl, rfl⟩, rfl⟩, rfl⟩
      · simp -implicitDefEqProofs [c0, c9, c10, c12, wL, hge, w1, htop, hlen2, hCl, htkp, hlnp]
        exact ⟨n, by omega, R, pf ++ [sumS], sp + 1, by omega, by omega, by omega, by simp; omega, .own 10601 (g 10601 + 1) 0 (pf.length + 1), [(10601, ⟨encL (pf ++ [sumS]), false, 3⟩)], G2, bump 10601 (bump 55 (bump 7 g)), by simp [hg1], hRok', hS, .inr ⟨by simp, by simp, rfl⟩, ⟨by simp, by simp, by simp, ⟨by simp, rfl⟩, by simp⟩, ⟨rfl, ⟨rfl, rfl⟩, by rw [hsn]⟩, rfl⟩
    case false =>
      rw [hcl] at hCl hS
      rw [if_neg (by simp)] at hS
      cases hco : corner m q b
      case true =>
        rw [hco] at hBr hS
        rw [if_pos rfl] at hS
        subst hS
        rcases hV with ⟨rfl, rfl, rfl⟩ | ⟨hpn, rfl, rfl⟩
        all_goals
          simp -implicitDefEqProofs [c0, c9, c10, wL, hge, w1, htop, hlen2, hCl, hBr]
          refine hQ _ (bump 7 g) ⟨by simp [hg1], .inl ⟨rfl, ?_⟩⟩
          simp [vCells]
      case false =>
        rw [hco] at hBr hS
        rw [if_neg (by simp)] at hS
        have hin := split_in (m := m) (q := q) (b := b)
        have hkok := fun i : Int => cuts_ok hm (q := q) (b := b) (i := i)
        have hkin := fun i : Int => cuts_in (m := m) (q := q) (b := b) (k := i)
        generalize splitM m q b = z at *
        obtain ⟨k, at_, ok⟩ := z
        simp only at hin hS
        cases ok
        case false =>
          rw [if_neg (by simp)] at hS
          subst hS
          rcases hV with ⟨rfl, rfl, rfl⟩ | ⟨hpn, rfl, rfl⟩
          all_goals
            simp -implicitDefEqProofs [c0, c9, c10, wL, hge, w1, htop, hlen2, hCl, hBr, hSp]
            refine hQ _ (bump 7 g) ⟨by simp [hg1], .inl ⟨rfl, ?_⟩⟩
            simp [vCells, zeroP]
        case true =>
          rw [if_pos rfl] at hS
          obtain ⟨k0, k5, kin⟩ := hin rfl
          have h1 := hkin _ _ kin
          have hCu : RcutC b k at_ = some (cutB b k at_) := part_of ⟨hbok, k0, k5, h1.1, h1.2⟩ _
          have hok2 := okB_cut hbok k (hkok _ _ kin)
          generalize cutB b k at_ = xy at *
          obtain ⟨x, y⟩ := xy
          simp only at hS hok2
          have hsn : encL (pf ++ [⟨false, k, at_⟩]) = encL pf ++ [.bool false, .int .i64 k, .int .i64 at_] := by rw [encL_append]; rfl
          have htkp := take_stepsE pf
          have hlnp := len_steps pf
          rcases hV with ⟨rfl, rfl, rfl⟩ | ⟨hpn, rfl, rfl⟩
          · simp -implicitDefEqProofs [c0, c9, c10, c11, wL, hge, w1, htop, hlen2, hCl, hBr, hSp, hCu, htk]
            have hok3 : ∀ b' ∈ R ++ [y, x], okB b' := fun b' hb' => by
              rcases List.mem_append.1 hb' with hb' | hb'
              · exact hRok' b' hb'
              · simp at hb'
                rcases hb' with rfl | rfl
                · exact hok2.2
                · exact hok2.1
            have hrow2 : encL (R ++ [y, x]) ++ [] = encL R ++ (Row.enc y ++ Row.enc x) := by simp [encL_append, encL_cons, encL_nil]
            exact ⟨n, by omega, R ++ [y, x], [⟨false, k, at_⟩], sp + 1, by omega, by omega, by simp; omega, by simp; omega, .own 10601 (g 10601 + 1) 0 1, [(10601, ⟨encL [(⟨false, k, at_⟩ : Step)], false, 3⟩)], [], bump 5 (bump 105 (bump 12 (bump 11 (bump 10601 (bump 92 (bump 7 g)))))), by simp [hg1], hok3, by simpa using hS, .inr ⟨by simp, by simp, rfl⟩, ⟨by simp, by simp, by simp, ⟨by simp, by simp⟩, by simp⟩, ⟨hrow2.symm, ⟨rfl, rfl⟩, rfl⟩, rfl⟩
          · simp -implicitDefEqProofs [c0, c9, c10, c11, c12, wL, hge, w1, htop, hlen2, hCl, hBr, hSp, hCu, htk, htkp, hlnp]
            have hok3 : ∀ b' ∈ R ++ [y, x], okB b' := fun b' hb' => by
              rcases List.mem_append.1 hb' with hb' | hb'
              · exact hRok' b' hb'
              · simp at hb'
                rcases hb' with rfl | rfl
                · exact hok2.2
                · exact hok2.1
            have hrow2 : encL (R ++ [y, x]) ++ [] = encL R ++ (Row.enc y ++ Row.enc x) := by simp [encL_append, encL_cons, encL_nil]
            exact ⟨n, by omega, R ++ [y, x], pf ++ [⟨false, k, at_⟩], sp + 1, by omega, by omega, by simp; omega, by simp; omega, .own 10601 (g 10601 + 1) 0 (pf.length + 1), [(10601, ⟨encL (pf ++ [⟨false, k, at_⟩]), false, 3⟩)], [], bump 5 (bump 105 (bump 12 (bump 11 (bump 10601 (bump 92 (bump 7 g)))))), by simp [hg1], hok3, by simpa using hS, .inr ⟨by simp, by simp, rfl⟩, ⟨by simp, by simp, by simp, ⟨by simp, by simp⟩, by simp⟩, ⟨hrow2.symm, ⟨rfl, rfl⟩, by rw [hsn]⟩, rfl⟩
theorem hlook_mem : ∀ {h : Hp} {b : Nat} {k : Blk}, hlook h b = some k → (b, k) ∈ h
  | [], _, _, hk => by cases hk
  | (a, v) :: l, b, k, hk => by
    unfold hlook at hk
    split at hk
    · rename_i e; subst e; cases hk; simp
    · exact List.mem_cons_of_mem _ (hlook_mem hk)
theorem mem_of_hlook {h : Hp} {b : Nat} {k : Blk} (hk : hlook h b = some k) : ∃ x, (b, x) ∈ h := ⟨k, hlook_mem hk⟩
theorem vCells_enc (v : Verdict) : Arg.enc v = .agg (vCells v (.lst v.proof.length (encL v.proof))) := rfl
theorem send_handed {v : Verdict} {g0 : Nat} {h : Hp} {g : Nat → Nat} (hE : SEnd v g0 h g) : fin [.cell 4 8 true] (Arg.enc v) .ret ⟨[(4, .ptr 4 (g 4) 0)], h, g⟩ := by
  rw [vCells_enc]
  rcases hE.val with ⟨h1, h2⟩ | ⟨h0, h1, h2⟩
  · rw [h1]
    simp -implicitDefEqProofs [h2, vCells, encL_nil]
  · have c2 := mem_of_hlook h2
    have hl := len_steps v.proof
    have ht := take_stepsE v.proof
    generalize v.proof = pf at *
    simp -implicitDefEqProofs [h1, h2, c2, vCells, ht, hl, -Go.Am.pure1, pure1_own, pure1_nils, pure1_int, pure1_bool, pure1_lst]
noncomputable def RSearchC (m : Model) (q : Query) : Option Verdict := Part (RM m) (searchM m q)
theorem runs_rSearch (m : Model) (q : Query) (r : Verdict) (h : RSearchC m q = some r) : Runs seT a34 [Arg.enc m, Arg.enc q] (Arg.enc r) := by
  obtain ⟨hm, rfl⟩ := part_some h
  exact ⟨rfl, fun g => run_def (run_rSearch m q hm g _ fun h g' hE => send_handed hE)⟩
theorem se_holds : ∀ f, Contract Try.prog f (seT f) := tbl_cons c_rRight' (tbl_cons c_rStart (tbl_cons c_rClosed (tbl_cons c_rBreaks (tbl_cons c_rLow (tbl_cons c_rSplit (tbl_cons c_rcut tbl_nil))))))
theorem c_rSearch : Contract Try.prog 34 (sp2 RSearchC) :=
  contract_of_runs mixed se_holds Try.func34 m34 (sp2_runs runs_rSearch)
end Go.Co
