/- CO: texts of this claim, one behind the other. -/
import Derived.Test.YtlbfmeijjgphfaaGreatCz6
import Derived.Test.YtlbfmeijjgphfaaGreatCz11
import Derived.Test.YtlbfmeijjgphfaaGreatCz9
set_option linter.unusedVariables false
set_option linter.unusedSimpArgs false
/- CO: the checker's own bounds. -/
set_option maxHeartbeats 16000000
set_option maxRecDepth 100000
namespace Go.Co
open Go.Am Go.Proofs
def c94_0 : ACode := .ops [⟨some 3, .box (.t 1) 10, none, []⟩,⟨some 4, .mv (.c (.int .i64 0)), none, []⟩,⟨some 5, .mv (.c (.int .i64 0)), none, []⟩] [0, 3]
theorem r94_0 : type_of% (rr c94_0.eq_1) := rr rfl
def c94_1 : ACode := .ops [⟨some 6, .mv (.c (.int .i64 0)), none, []⟩,⟨some 7, .mv (.c (.int .i64 0)), none, []⟩,⟨some 8, .mv (.c (.bool false)), none, []⟩] [0, 3, 6, 7, 8]
theorem r94_1 : type_of% (rr c94_1.eq_1) := rr rfl
def c94_2 : ACode := .ops [⟨some 15, .load 10 true (.t 3), none, [3]⟩,⟨some 16, .build [.int .i64 0, .int .i64 0, .int .i64 0, .int .i64 0, .int .i64 0, .int .i64 0, .int .i64 0, .int .i64 0, .int .i64 0, .int .i64 0, .int .i64 0] [(0, 1, .c (.int .i64 0)), (1, 10, .t 15)], none, []⟩,⟨some 17, .mkrow 9 1 11 [.int .i64 0, .int .i64 0, .int .i64 0, .int .i64 0, .int .i64 0, .int .i64 0, .int .i64 0, .int .i64 0, .int .i64 0, .int .i64 0, .int .i64 0] [(0, 11, .t 16)], none, []⟩,⟨some 9, .mv (.t 17), none, []⟩] [0, 6, 7, 8, 9]
theorem r94_2 : type_of% (rr c94_2.eq_1) := rr rfl
def c94_3 : ACode := .ops [⟨some 18, .mv (.t 9), none, []⟩,⟨some 19, .len (.t 18), none, [9]⟩,⟨some 20, .bin .gtr (.t 19) (.c (.int .i64 0)), none, []⟩] [0, 6, 7, 8, 9, 20]
theorem r94_3 : type_of% (rr c94_3.eq_1) := rr rfl
def c94_4 : ACode := .cond (.t 20) .skip (.exit 0)
theorem r94_4 : type_of% (rr c94_4.eq_1) := rr rfl
def c94_5 : ACode := .seq c94_3 c94_4
theorem r94_5 : type_of% (rr c94_5.eq_1) := rr rfl
def c94_6 : ACode := .ops [⟨some 21, .mv (.t 9), none, []⟩,⟨some 22, .mv (.t 9), none, []⟩,⟨some 23, .len (.t 22), none, [9]⟩,⟨some 24, .bin .sub (.t 23) (.c (.int .i64 1)), none, []⟩,⟨some 25, .ias (.t 21) (.t 24) 11, none, [9]⟩,⟨some 26, .load 11 true (.t 25), none, [9]⟩,⟨some 10, .alloc [.int .i64 0, .int .i64 0, .int .i64 0, .int .i64 0, .int .i64 0, .int .i64 0, .int .i64 0, .int .i64 0, .int .i64 0, .int .i64 0, .int .i64 0], none, []⟩,⟨none, .store (.t 10) 11 (.t 26), none, [10]⟩] [0, 6, 7, 8, 9, 10]
theorem r94_6 : type_of% (rr c94_6.eq_1) := rr rfl
def c94_7 : ACode := .ops [⟨some 27, .mv (.t 9), none, []⟩,⟨some 28, .mv (.t 9), none, []⟩,⟨some 29, .len (.t 28), none, [9]⟩,⟨some 30, .bin .sub (.t 29) (.c (.int .i64 1)), none, []⟩,⟨some 31, .sl (.t 27) none (some (.t 30)) 11, none, [9]⟩,⟨some 9, .mv (.t 31), none, []⟩] [0, 6, 7, 8, 9, 10]
theorem r94_7 : type_of% (rr c94_7.eq_1) := rr rfl
def c94_8 : ACode := .ops [⟨some 33, .mv (.t 0), none, []⟩,⟨some 34, .fad (.t 10) 0, none, [10]⟩,⟨some 35, .load 1 false (.t 34), none, [10]⟩,⟨some 36, .ias (.t 33) (.t 35) 1, none, []⟩,⟨some 37, .load 1 false (.t 36), none, []⟩,⟨some 38, .call 85 [.t 37], none, []⟩,⟨some 32, .mv (.t 38), none, []⟩,⟨some 39, .ext (.t 32) 0, none, []⟩,⟨some 40, .ext (.t 32) 1, none, []⟩,⟨some 11, .alloc [.bool false, .int .i64 0, .int .i64 0, .int .i64 0, .int .i64 0, .int .i64 0], none, []⟩,⟨none, .store (.t 11) 6 (.t 39), none, [11]⟩,⟨some 12, .mv (.t 40), none, []⟩] [0, 6, 7, 8, 9, 10, 11, 12]
theorem r94_8 : type_of% (rr c94_8.eq_1) := rr rfl
def c94_9 : ACode := .ops [⟨some 41, .mv (.t 12), none, []⟩,⟨some 42, .un .not (.t 41), none, []⟩,⟨some 43, .mv (.t 42), none, []⟩,⟨some 44, .fad (.t 10) 1, some (43, false), [10]⟩,⟨some 45, .load 10 true (.t 44), some (43, false), [10]⟩,⟨some 46, .call 26 [.t 45], some (43, false), []⟩,⟨some 47, .pick (.t 43) (.c (.bool true)) (.t 46), none, []⟩] [0, 6, 7, 8, 9, 10, 11, 47]
theorem r94_9 : type_of% (rr c94_9.eq_1) := rr rfl
def c94_10 : ACode := .cond (.t 47) (.exit 1) .skip
theorem r94_10 : type_of% (rr c94_10.eq_1) := rr rfl
def c94_11 : ACode := .seq c94_9 c94_10
theorem r94_11 : type_of% (rr c94_11.eq_1) := rr rfl
def c94_12 : ACode := .ops [⟨some 48, .fad (.t 11) 0, none, [11]⟩,⟨some 49, .load 1 false (.t 48), none, [11]⟩,⟨some 50, .un .not (.t 49), none, []⟩] [0, 6, 7, 8, 9, 10, 11, 50]
theorem r94_12 : type_of% (rr c94_12.eq_1) := rr rfl
def c94_13 : ACode := .ops [⟨some 52, .fad (.t 10) 1, none, [10]⟩,⟨some 53, .load 10 true (.t 52), none, [10]⟩,⟨some 54, .fad (.t 11) 2, none, [11]⟩,⟨some 55, .load 1 false (.t 54), none, [11]⟩,⟨some 56, .fad (.t 11) 3, none, [11]⟩,⟨some 57, .load 1 false (.t 56), none, [11]⟩,⟨some 58, .call 69 [.t 53, .t 55, .t 57], none, []⟩,⟨some 51, .mv (.t 58), none, []⟩,⟨some 59, .ext (.t 51) 0, none, []⟩,⟨some 60, .ext (.t 51) 1, none, []⟩,⟨some 13, .alloc [.int .i64 0, .int .i64 0, .int .i64 0, .int .i64 0, .int .i64 0, .int .i64 0, .int .i64 0, .int .i64 0, .int .i64 0, .int .i64 0], none, []⟩,⟨some 14, .alloc [.int .i64 0, .int .i64 0, .int .i64 0, .int .i64 0, .int .i64 0, .int .i64 0, .int .i64 0, .int .i64 0, .int .i64 0, .int .i64 0], none, []⟩,⟨none, .store (.t 13) 10 (.t 59), none, [13]⟩,⟨none, .store (.t 14) 10 (.t 60), none, [14]⟩] [0, 6, 7, 8, 9, 11, 13, 14]
theorem r94_13 : type_of% (rr c94_13.eq_1) := rr rfl
def c94_14 : ACode := .ops [⟨some 61, .mv (.t 9), none, []⟩,⟨some 62, .fad (.t 11) 4, none, [11]⟩,⟨some 63, .load 1 false (.t 62), none, [11]⟩,⟨some 64, .load 10 true (.t 13), none, [13]⟩,⟨some 65, .build [.int .i64 0, .int .i64 0, .int .i64 0, .int .i64 0, .int .i64 0, .int .i64 0, .int .i64 0, .int .i64 0, .int .i64 0, .int .i64 0, .int .i64 0] [(0, 1, .t 63), (1, 10, .t 64)], none, []⟩,⟨some 66, .fad (.t 11) 5, none, [11]⟩,⟨some 67, .load 1 false (.t 66), none, [11]⟩,⟨some 68, .load 10 true (.t 14), none, [14]⟩,⟨some 69, .build [.int .i64 0, .int .i64 0, .int .i64 0, .int .i64 0, .int .i64 0, .int .i64 0, .int .i64 0, .int .i64 0, .int .i64 0, .int .i64 0, .int .i64 0] [(0, 1, .t 67), (1, 10, .t 68)], none, []⟩,⟨some 70, .mkrow 70 2 11 [.int .i64 0, .int .i64 0, .int .i64 0, .int .i64 0, .int .i64 0, .int .i64 0, .int .i64 0, .int .i64 0, .int .i64 0, .int .i64 0, .int .i64 0] [(0, 11, .t 65), (11, 11, .t 69)], none, []⟩,⟨some 71, .app 9 [9] (.t 61) (.t 70) 11, none, [9, 70]⟩,⟨some 9, .mv (.t 71), none, []⟩] [0, 6, 7, 8, 9]
theorem r94_14 : type_of% (rr c94_14.eq_1) := rr rfl
def c94_15 : ACode := .seq c94_14 (.exit 1)
theorem r94_15 : type_of% (rr c94_15.eq_1) := rr rfl
def c94_16 : ACode := .seq c94_13 c94_15
theorem r94_16 : type_of% (rr c94_16.eq_1) := rr rfl
def c94_17 : ACode := .cond (.t 50) c94_16 .skip
theorem r94_17 : type_of% (rr c94_17.eq_1) := rr rfl
def c94_18 : ACode := .seq c94_12 c94_17
theorem r94_18 : type_of% (rr c94_18.eq_1) := rr rfl
def c94_19 : ACode := .ops [⟨some 72, .mv (.t 8), none, []⟩,⟨some 73, .un .not (.t 72), none, []⟩] [0, 6, 7, 8, 9, 11, 73]
theorem r94_19 : type_of% (rr c94_19.eq_1) := rr rfl
def c94_20 : ACode := .ops [⟨some 74, .fad (.t 11) 1, none, [11]⟩,⟨some 75, .load 1 false (.t 74), none, [11]⟩,⟨some 76, .fad (.t 11) 1, none, [11]⟩,⟨some 77, .load 1 false (.t 76), none, [11]⟩,⟨some 6, .mv (.t 75), none, []⟩,⟨some 7, .mv (.t 77), none, []⟩,⟨some 8, .mv (.c (.bool true)), none, []⟩] [0, 6, 7, 8, 9, 11]
theorem r94_20 : type_of% (rr c94_20.eq_1) := rr rfl
def c94_21 : ACode := .cond (.t 73) c94_20 .skip
theorem r94_21 : type_of% (rr c94_21.eq_1) := rr rfl
def c94_22 : ACode := .seq c94_19 c94_21
theorem r94_22 : type_of% (rr c94_22.eq_1) := rr rfl
def c94_23 : ACode := .ops [⟨some 78, .mv (.t 6), none, []⟩,⟨some 79, .fad (.t 11) 1, none, [11]⟩,⟨some 80, .load 1 false (.t 79), none, [11]⟩,⟨some 81, .mnmx false (.t 78) (.t 80), none, []⟩,⟨some 82, .mv (.t 7), none, []⟩,⟨some 83, .fad (.t 11) 1, none, [11]⟩,⟨some 84, .load 1 false (.t 83), none, [11]⟩,⟨some 85, .mnmx true (.t 82) (.t 84), none, []⟩,⟨some 6, .mv (.t 81), none, []⟩,⟨some 7, .mv (.t 85), none, []⟩] [0, 6, 7, 8, 9]
theorem r94_23 : type_of% (rr c94_23.eq_1) := rr rfl
def c94_24 : ACode := .seq c94_22 c94_23
theorem r94_24 : type_of% (rr c94_24.eq_1) := rr rfl
def c94_25 : ACode := .seq c94_18 c94_24
theorem r94_25 : type_of% (rr c94_25.eq_1) := rr rfl
def c94_26 : ACode := .seq c94_11 c94_25
theorem r94_26 : type_of% (rr c94_26.eq_1) := rr rfl
def c94_27 : ACode := .seq c94_8 c94_26
theorem r94_27 : type_of% (rr c94_27.eq_1) := rr rfl
def c94_28 : ACode := .seq c94_7 c94_27
theorem r94_28 : type_of% (rr c94_28.eq_1) := rr rfl
def c94_29 : ACode := .seq c94_6 c94_28
theorem r94_29 : type_of% (rr c94_29.eq_1) := rr rfl
def c94_30 : ACode := .block 1 c94_29
theorem r94_30 : type_of% (rr c94_30.eq_1) := rr rfl
def c94_31 : ACode := .seq c94_5 c94_30
theorem r94_31 : type_of% (rr c94_31.eq_1) := rr rfl
def c94_32 : ACode := .keep [0, 6, 7, 8, 9] [9] c94_31
theorem r94_32 : type_of% (rr c94_32.eq_1) := rr rfl
def c94_33 : ACode := .loop c94_32
theorem r94_33 : type_of% (rr c94_33.eq_1) := rr rfl
def c94_34 : ACode := .block 0 c94_33
theorem r94_34 : type_of% (rr c94_34.eq_1) := rr rfl
def c94_35 : ACode := .ops [⟨some 86, .mv (.t 6), none, []⟩,⟨some 87, .mv (.t 7), none, []⟩,⟨some 4, .mv (.t 86), none, []⟩,⟨some 5, .mv (.t 87), none, []⟩] [4, 5]
theorem r94_35 : type_of% (rr c94_35.eq_1) := rr rfl
def c94_36 : ACode := .seq c94_35 .ret
theorem r94_36 : type_of% (rr c94_36.eq_1) := rr rfl
def c94_37 : ACode := .seq c94_34 c94_36
theorem r94_37 : type_of% (rr c94_37.eq_1) := rr rfl
def c94_38 : ACode := .seq c94_2 c94_37
theorem r94_38 : type_of% (rr c94_38.eq_1) := rr rfl
def c94_39 : ACode := .seq c94_1 c94_38
theorem r94_39 : type_of% (rr c94_39.eq_1) := rr rfl
def c94_40 : ACode := .seq c94_0 c94_39
theorem r94_40 : type_of% (rr c94_40.eq_1) := rr rfl
def a94 : AFun := ⟨2, 88, c94_40, [.t 4, .t 5]⟩
attribute [simp] r94_0 r94_1 r94_2 r94_3 r94_4 r94_5 r94_6 r94_7 r94_8 r94_9 r94_10 r94_11 r94_12 r94_13 r94_14 r94_15 r94_16 r94_17 r94_18 r94_19 r94_20 r94_21 r94_22 r94_23 r94_24 r94_25 r94_26 r94_27 r94_28 r94_29 r94_30 r94_31 r94_32 r94_33 r94_34 r94_35 r94_36 r94_37 r94_38 r94_39 r94_40
theorem m94 : mFun Tryz.prog Tryz.f94 a94 = true := by decide +kernel
def c79_0 : ACode := .ops [⟨some 3, .box (.t 0) 6, none, []⟩,⟨some 5, .box (.t 2) 10, none, []⟩,⟨some 6, .mv (.c (.int .i64 0)), none, []⟩,⟨some 7, .mv (.c (.int .i64 0)), none, []⟩] [1, 3, 5]
theorem r79_0 : type_of% (rr c79_0.eq_1) := rr rfl
def c79_1 : ACode := .ops [⟨some 14, .load 6 true (.t 3), none, [3]⟩,⟨some 15, .call 43 [.t 14], none, []⟩,⟨some 16, .un .not (.t 15), none, []⟩,⟨some 17, .mv (.t 16), none, []⟩,⟨some 18, .mv (.t 1), some (17, false), []⟩,⟨some 19, .bin .lss (.t 18) (.c (.int .i64 0)), some (17, false), []⟩,⟨some 20, .pick (.t 17) (.c (.bool true)) (.t 19), none, []⟩,⟨some 21, .mv (.t 20), none, []⟩,⟨some 22, .mv (.t 1), some (21, false), []⟩,⟨some 23, .fad (.t 3) 1, some (21, false), [3]⟩,⟨some 24, .load 1 false (.t 23), some (21, false), [3]⟩,⟨some 25, .bin .geq (.t 22) (.t 24), some (21, false), []⟩,⟨some 26, .pick (.t 21) (.c (.bool true)) (.t 25), none, []⟩,⟨some 27, .mv (.t 26), none, []⟩,⟨some 28, .load 10 true (.t 5), some (27, false), [5]⟩,⟨some 29, .call 26 [.t 28], some (27, false), []⟩,⟨some 30, .pick (.t 27) (.c (.bool true)) (.t 29), none, []⟩] [1, 3, 5, 30]
theorem r79_1 : type_of% (rr c79_1.eq_1) := rr rfl
def c79_2 : ACode := .ops [⟨some 6, .mv (.c (.int .i64 0)), none, []⟩,⟨some 7, .mv (.c (.int .i64 0)), none, []⟩] [6, 7]
theorem r79_2 : type_of% (rr c79_2.eq_1) := rr rfl
def c79_3 : ACode := .seq c79_2 .ret
theorem r79_3 : type_of% (rr c79_3.eq_1) := rr rfl
def c79_4 : ACode := .cond (.t 30) c79_3 .skip
theorem r79_4 : type_of% (rr c79_4.eq_1) := rr rfl
def c79_5 : ACode := .seq c79_1 c79_4
theorem r79_5 : type_of% (rr c79_5.eq_1) := rr rfl
def c79_6 : ACode := .ops [⟨some 31, .mv (.t 1), none, []⟩,⟨some 32, .fad (.t 3) 2, none, [3]⟩,⟨some 33, .iad (.t 32) (.t 31) 1 3, none, [3]⟩,⟨some 34, .load 1 false (.t 33), none, [3]⟩,⟨some 35, .mv (.t 1), none, []⟩,⟨some 36, .fad (.t 3) 2, none, [3]⟩,⟨some 37, .iad (.t 36) (.t 35) 1 3, none, [3]⟩,⟨some 38, .load 1 false (.t 37), none, [3]⟩,⟨some 8, .mv (.t 34), none, []⟩,⟨some 9, .mv (.t 38), none, []⟩] [1, 3, 5, 8, 9]
theorem r79_6 : type_of% (rr c79_6.eq_1) := rr rfl
def c79_7 : ACode := .ops [⟨some 39, .fad (.t 3) 5, none, [3]⟩,⟨some 40, .load 1 false (.t 39), none, [3]⟩,⟨some 41, .len (.t 40), none, []⟩,⟨some 42, .mv (.c (.int .i64 0)), none, []⟩] [1, 5, 8, 9, 40, 41, 42]
theorem r79_7 : type_of% (rr c79_7.eq_1) := rr rfl
def c79_8 : ACode := .ops [⟨some 43, .bin .lss (.t 42) (.t 41), none, []⟩] [1, 5, 8, 9, 40, 41, 42, 43]
theorem r79_8 : type_of% (rr c79_8.eq_1) := rr rfl
def c79_9 : ACode := .cond (.t 43) .skip (.exit 0)
theorem r79_9 : type_of% (rr c79_9.eq_1) := rr rfl
def c79_10 : ACode := .ops [⟨some 44, .ias (.t 40) (.t 42) 2, none, []⟩,⟨some 45, .load 2 true (.t 44), none, []⟩,⟨some 11, .alloc [.int .i64 0, .nils], none, []⟩,⟨none, .store (.t 11) 2 (.t 45), none, [11]⟩] [1, 5, 8, 9, 11, 40, 41, 42]
theorem r79_10 : type_of% (rr c79_10.eq_1) := rr rfl
def c79_11 : ACode := .ops [⟨some 46, .fad (.t 11) 0, none, [11]⟩,⟨some 47, .load 1 false (.t 46), none, [11]⟩,⟨some 48, .mv (.t 1), none, []⟩,⟨some 49, .bin .eql (.t 47) (.t 48), none, []⟩] [1, 5, 8, 9, 11, 40, 41, 42, 49]
theorem r79_11 : type_of% (rr c79_11.eq_1) := rr rfl
def c79_12 : ACode := .ops [⟨some 51, .fad (.t 11) 1, none, [11]⟩,⟨some 52, .load 1 false (.t 51), none, [11]⟩,⟨some 53, .load 10 true (.t 5), none, [5]⟩,⟨some 54, .call 94 [.t 52, .t 53], none, []⟩,⟨some 50, .mv (.t 54), none, []⟩,⟨some 55, .ext (.t 50) 0, none, []⟩,⟨some 56, .ext (.t 50) 1, none, []⟩,⟨some 12, .mv (.t 55), none, []⟩,⟨some 13, .mv (.t 56), none, []⟩] [1, 5, 8, 9, 12, 13, 40, 41, 42]
theorem r79_12 : type_of% (rr c79_12.eq_1) := rr rfl
def c79_13 : ACode := .ops [⟨some 57, .mv (.t 8), none, []⟩,⟨some 58, .mv (.t 12), none, []⟩,⟨some 59, .bin .add (.t 57) (.t 58), none, []⟩,⟨some 60, .mv (.t 9), none, []⟩,⟨some 61, .mv (.t 13), none, []⟩,⟨some 62, .bin .add (.t 60) (.t 61), none, []⟩,⟨some 8, .mv (.t 59), none, []⟩,⟨some 9, .mv (.t 62), none, []⟩] [1, 5, 8, 9, 40, 41, 42]
theorem r79_13 : type_of% (rr c79_13.eq_1) := rr rfl
def c79_14 : ACode := .seq c79_12 c79_13
theorem r79_14 : type_of% (rr c79_14.eq_1) := rr rfl
def c79_15 : ACode := .cond (.t 49) c79_14 .skip
theorem r79_15 : type_of% (rr c79_15.eq_1) := rr rfl
def c79_16 : ACode := .seq c79_11 c79_15
theorem r79_16 : type_of% (rr c79_16.eq_1) := rr rfl
def c79_17 : ACode := .seq c79_10 c79_16
theorem r79_17 : type_of% (rr c79_17.eq_1) := rr rfl
def c79_18 : ACode := .block 1 c79_17
theorem r79_18 : type_of% (rr c79_18.eq_1) := rr rfl
def c79_19 : ACode := .ops [⟨some 63, .bin .add (.t 42) (.c (.int .i64 1)), none, []⟩,⟨some 42, .mv (.t 63), none, []⟩] [1, 5, 8, 9, 40, 41, 42]
theorem r79_19 : type_of% (rr c79_19.eq_1) := rr rfl
def c79_20 : ACode := .seq c79_18 c79_19
theorem r79_20 : type_of% (rr c79_20.eq_1) := rr rfl
def c79_21 : ACode := .seq c79_9 c79_20
theorem r79_21 : type_of% (rr c79_21.eq_1) := rr rfl
def c79_22 : ACode := .seq c79_8 c79_21
theorem r79_22 : type_of% (rr c79_22.eq_1) := rr rfl
def c79_23 : ACode := .keep [1, 5, 8, 9, 40, 41, 42] [5] c79_22
theorem r79_23 : type_of% (rr c79_23.eq_1) := rr rfl
def c79_24 : ACode := .loop c79_23
theorem r79_24 : type_of% (rr c79_24.eq_1) := rr rfl
def c79_25 : ACode := .block 0 c79_24
theorem r79_25 : type_of% (rr c79_25.eq_1) := rr rfl
def c79_26 : ACode := .seq c79_7 c79_25
theorem r79_26 : type_of% (rr c79_26.eq_1) := rr rfl
def c79_27 : ACode := .ops [⟨some 64, .mv (.t 8), none, []⟩,⟨some 65, .mv (.t 9), none, []⟩,⟨some 6, .mv (.t 64), none, []⟩,⟨some 7, .mv (.t 65), none, []⟩] [6, 7]
theorem r79_27 : type_of% (rr c79_27.eq_1) := rr rfl
def c79_28 : ACode := .seq c79_27 .ret
theorem r79_28 : type_of% (rr c79_28.eq_1) := rr rfl
def c79_29 : ACode := .seq c79_26 c79_28
theorem r79_29 : type_of% (rr c79_29.eq_1) := rr rfl
def c79_30 : ACode := .seq c79_6 c79_29
theorem r79_30 : type_of% (rr c79_30.eq_1) := rr rfl
def c79_31 : ACode := .seq c79_5 c79_30
theorem r79_31 : type_of% (rr c79_31.eq_1) := rr rfl
def c79_32 : ACode := .seq c79_0 c79_31
theorem r79_32 : type_of% (rr c79_32.eq_1) := rr rfl
def a79 : AFun := ⟨3, 66, c79_32, [.t 6, .t 7]⟩
attribute [simp] r79_0 r79_1 r79_2 r79_3 r79_4 r79_5 r79_6 r79_7 r79_8 r79_9 r79_10 r79_11 r79_12 r79_13 r79_14 r79_15 r79_16 r79_17 r79_18 r79_19 r79_20 r79_21 r79_22 r79_23 r79_24 r79_25 r79_26 r79_27 r79_28 r79_29 r79_30 r79_31 r79_32
theorem m79 : mFun Tryz.prog Tryz.f79 a79 = true := by decide +kernel
structure Visit where
  at_ : Int
  box : Box
instance : Row Visit where
  sz := 11
  enc x := [.int .i64 x.at_, .int .i64 x.box.s0.lo, .int .i64 x.box.s0.hi, .int .i64 x.box.s1.lo, .int .i64 x.box.s1.hi, .int .i64 x.box.s2.lo, .int .i64 x.box.s2.hi, .int .i64 x.box.s3.lo, .int .i64 x.box.s3.hi, .int .i64 x.box.s4.lo, .int .i64 x.box.s4.hi]
  dec xs := match xs with
    | [.int .i64 v0, .int .i64 v1, .int .i64 v2, .int .i64 v3, .int .i64 v4, .int .i64 v5, .int .i64 v6, .int .i64 v7, .int .i64 v8, .int .i64 v9, .int .i64 v10] => some ⟨v0, ⟨⟨v1, v2⟩, ⟨v3, v4⟩, ⟨v5, v6⟩, ⟨v7, v8⟩, ⟨v9, v10⟩⟩⟩
    | _ => none
  pos := by decide
  len _ := rfl
  dec_enc _ := rfl
  enc_dec xs a h := by
    split at h
    · cases h; rfl
    · cases h
@[simp] theorem sz_Visit : Row.sz Visit = 11 := rfl
def vis (l : List Word) (b : Box) (s : Nat) : Visit := ⟨s, own l b s⟩
theorem rd_top {α : Type} [Row α] (X : List α) (v : α) (G : List AV) : rd (encL (X ++ [v]) ++ G) (X.length * Row.sz α) (Row.sz α) true = some (.agg (Row.enc v)) := by
  have h1 := encL_length X
  have h2 := Row.len v
  rw [encL_append, List.append_assoc]
  unfold rd
  rw [if_pos (by simp [encL_cons, encL_nil, h1, h2])]
  simp only [if_true]
  rw [← h1, List.drop_left]
  simp only [encL_cons, encL_nil, List.append_nil]
  rw [← h2, List.take_left]
inductive Desc (l : List Word) (i : Nat) : Nat → Prop
  | self : Desc l i i
  | left {j : Nat} : Desc l i j → (ndAt l j).leaf = false → Desc l i (ndAt l j).left.toNat
  | right {j : Nat} : Desc l i j → (ndAt l j).leaf = false → Desc l i (ndAt l j).right.toNat
theorem Desc.sub {l : List Word} {d : Int} (hr : RT l d) {b : Box} {i j : Nat} (h : Desc l i j) (hi : i < l.length) : j < l.length ∧ ∀ p t, InB (own l b j) p t → InB (own l b i) p t := by
  induction h with
  | self => exact ⟨hi, fun p t h => h⟩
  | @left j hd hl ih =>
    have ha := hr.at ih.1 hl
    have hf := hr.feature ih.1 hl
    have hc := own_child hr b ih.1 hl
    refine ⟨by omega, fun p t h => ih.2 p t ?_⟩
    rw [hc.1] at h
    exact ((cutB_1 _ hf _ p t).1 h).1
  | @right j hd hl ih =>
    have ha := hr.at ih.1 hl
    have hf := hr.feature ih.1 hl
    have hc := own_child hr b ih.1 hl
    refine ⟨by omega, fun p t h => ih.2 p t ?_⟩
    rw [hc.2] at h
    exact ((cutB_2 _ hf _ p t).1 h).1
theorem Desc.cases' {l : List Word} {i j : Nat} (h : Desc l i j) : j = i ∨ ((ndAt l i).leaf = false ∧ (Desc l (ndAt l i).left.toNat j ∨ Desc l (ndAt l i).right.toNat j)) := by
  induction h with
  | self => exact .inl rfl
  | left hd hl ih =>
    rcases ih with rfl | ⟨h1, h2 | h2⟩
    · exact .inr ⟨hl, .inl .self⟩
    · exact .inr ⟨h1, .inl (h2.left hl)⟩
    · exact .inr ⟨h1, .inr (h2.left hl)⟩
  | right hd hl ih =>
    rcases ih with rfl | ⟨h1, h2 | h2⟩
    · exact .inr ⟨hl, .inr .self⟩
    · exact .inr ⟨h1, .inl (h2.right hl)⟩
    · exact .inr ⟨h1, .inr (h2.right hl)⟩
theorem desc_root {l : List Word} {d : Int} (hr : RT l d) : ∀ j, j < l.length → Desc l 0 j := by
  intro j
  induction j using Nat.strongRecOn with
  | _ j ih =>
    intro hj
    by_cases h0 : j = 0
    · subst h0; exact .self
    · obtain ⟨i, hi, hl, hn⟩ := hr.parent (show 1 ≤ j by omega) hj
      have hd := ih i hi (by omega)
      have ha := hr.at (show i < l.length by omega) hl
      rcases hn with hn | hn
      · have := hd.left hl
        rw [show (ndAt l i).left.toNat = j by omega] at this
        exact this
      · have := hd.right hl
        rw [show (ndAt l i).right.toNat = j by omega] at this
        exact this
def wgt (s : Nat) : Nat := 2 ^ (32 - s) - 1
def wgts (S : List Nat) : Nat := (S.map wgt).sum
theorem wgts_app (S T : List Nat) : wgts (S ++ T) = wgts S + wgts T := by simp [wgts]
theorem wgt_pos {s : Nat} (h : s < 31) : 1 ≤ wgt s := by
  unfold wgt
  have : 2 ^ 1 ≤ 2 ^ (32 - s) := Nat.pow_le_pow_right (by omega) (by omega)
  omega
theorem wgt_two {s a b : Nat} (h1 : s < a) (h2 : s < b) (ha : a < 31) : wgt a + wgt b < wgt s := by
  unfold wgt
  have e : 32 - s = (31 - s) + 1 := by omega
  have p1 : 2 ^ (32 - a) ≤ 2 ^ (31 - s) := Nat.pow_le_pow_right (by omega) (by omega)
  have p2 : 2 ^ (32 - b) ≤ 2 ^ (31 - s) := Nat.pow_le_pow_right (by omega) (by omega)
  have p3 : 1 ≤ 2 ^ (31 - s) := Nat.one_le_two_pow
  have p4 : 1 ≤ 2 ^ (32 - a) := Nat.one_le_two_pow
  have p5 : 1 ≤ 2 ^ (32 - b) := Nat.one_le_two_pow
  rw [e, Nat.pow_succ]
  omega
theorem len_wgts : ∀ (S : List Nat), (∀ s ∈ S, s < 31) → S.length ≤ wgts S
  | [], _ => by simp [wgts]
  | s :: S, h => by
    have h1 := wgt_pos (h s (by simp))
    have h2 := len_wgts S (fun x hx => h x (by simp [hx]))
    simp only [wgts, List.map_cons, List.sum_cons, List.length_cons] at *
    omega
structure EI (l : List Word) (b : Box) (S : List Nat) (lo hi : Int) (sm : Bool) : Prop where
  lt : ∀ s ∈ S, s < l.length
  cover : ∀ j, j < l.length → (ndAt l j).leaf = true → (own l b j).empty = false → (sm = true ∧ lo ≤ (ndAt l j).value ∧ (ndAt l j).value ≤ hi) ∨ ∃ s ∈ S, Desc l s j
  att : sm = true → (∃ x ∈ pieces l b, x.value = lo) ∧ ∃ x ∈ pieces l b, x.value = hi
theorem EI.done {l : List Word} {d : Int} (hr : RT l d) {b : Box} (he : b.empty = false) {lo hi : Int} {sm : Bool} (h : EI l b [] lo hi sm) : lo = (boundT l b).a ∧ hi = (boundT l b).b := by
  have hb : boundT l b = ends (pieces l b) := by unfold boundT; rw [he]; rfl
  obtain ⟨h1, h2, ⟨x, hx, h3⟩, ⟨y, hy, h4⟩⟩ := ends_spec (pieces_ne hr he)
  rw [hb]
  have cov : ∀ z ∈ pieces l b, sm = true ∧ lo ≤ z.value ∧ z.value ≤ hi := by
    intro z hz
    obtain ⟨i, hi', hl, hE, rfl⟩ := mem_pieces.1 hz
    rcases h.cover i hi' hl hE with hc | ⟨s, hs, _⟩
    · exact hc
    · simp at hs
  have cx := cov x hx
  have cy := cov y hy
  obtain ⟨⟨u, hu, hu2⟩, ⟨v, hv, hv2⟩⟩ := h.att cx.1
  have k1 := h2 u hu
  have k2 := h2 v hv
  omega
noncomputable def EndsC (l : List Word) (b : Box) : Option (Int × Int) := Part ((∃ d, RT l d) ∧ okB b ∧ b.empty = false) ((boundT l b).a, (boundT l b).b)
theorem take_vis (X : List Visit) (G : List AV) (n : Nat) (h : n = X.length * 11) : List.take n (encL X ++ G) = encL X := by
  rw [h, ← show (encL X).length = X.length * 11 from encL_length X, List.take_left]
theorem runs_ends (l : List Word) (b : Box) (c : Int × Int) (h : EndsC l b = some c) : Runs (tbl [(85, sp1 Unpack), (26, sp1 fun (b : Box) => some b.empty), (69, sp3 CutB)]) a94 [Arg.enc l, Arg.enc b] (Arg.enc c) := by
  obtain ⟨⟨⟨d, hr⟩, hb, he⟩, rfl⟩ := part_some h
  clear h
  refine ⟨rfl, fun g => run_def ?_⟩
  unfold a94
  have hle := hr.le
  have b3 : l.length ≤ maxN := by unfold maxN; omega
  simp -implicitDefEqProofs [b3]
  refine run_while (c := c94_31) (fun n s => ∃ (S : List Nat) (lo hi : Int) (sm : Bool) (G : List AV) (g : Nat → Nat), n = wgts S ∧ n < 2 ^ 33 ∧ EI l b S lo hi sm ∧ s = ⟨[(0, .lst l.length (encL l)), (6, .int .i64 lo), (7, .int .i64 hi), (8, .bool sm), (9, .own 9 (g 9) 0 S.length)], [(9, ⟨encL (S.map (vis l b)) ++ G, false, 11⟩)], g⟩) (wgts [0]) ⟨[0], 0, 0, false, [], bump 9 (bump 3 g), rfl, by simp [wgts, wgt], ⟨fun s hs => by simp at hs; have := hr.pos; omega, fun j hj _ _ => .inr ⟨0, by simp, desc_root hr j hj⟩, fun h => by cases h⟩, by simp [encL_cons, encL_nil, vis, own_root]; rfl⟩ ?_
  rintro n s ⟨S, lo, hi, sm, G, g, hn, hn2, hE, rfl⟩
  rcases List.eq_nil_or_concat S with rfl | ⟨S, s, rfl⟩
  · obtain ⟨e1, e2⟩ := hE.done hr he
    simp -implicitDefEqProofs [e1, e2]
  rw [List.concat_eq_append] at *
  have hs : s < l.length := hE.lt s (by simp)
  have hsl := len_wgts S (fun x hx => by have := hE.lt x (by simp [hx]); omega)
  rw [wgts_app] at hn
  have hw1 := wgt_pos (show s < 31 by omega)
  have hws : wgts [s] = wgt s := by simp [wgts]
  have hL : S.length ≤ 8589934592 := by have : (2 : Nat) ^ 33 = 8589934592 := (by decide); omega
  have wL : IntKind.i64.wrap ((S.length : Nat) : Int) = S.length := wrap64 (by omega) (by omega)
  have c0 : S.length + 1 ≤ maxN := by unfold maxN; omega
  have hU := unpack_at hr hs
  have htop : rd (encL (S.map (vis l b)) ++ (Row.enc (vis l b s) ++ G)) (S.length * 11) 11 true = some (.agg (Row.enc (vis l b s))) := by
    have := rd_top (S.map (vis l b)) (vis l b s) G
    rw [encL_append, List.append_assoc] at this
    simpa [encL_cons, encL_nil] using this
  have e1 : encL ((S ++ [s]).map (vis l b)) ++ G = encL (S.map (vis l b)) ++ (Row.enc (vis l b s) ++ G) := by simp [encL_append, encL_cons, encL_nil]
  have e2 : (S ++ [s]).length = S.length + 1 := by simp
  rw [e1, e2]
  have htk : List.take (S.length * 11) (encL (S.map (vis l b)) ++ (Row.enc (vis l b s) ++ G)) = encL (S.map (vis l b)) := take_vis _ _ _ (by simp)
  have hlen : S.length * 11 ≤ (encL (S.map (vis l b)) ++ (Row.enc (vis l b s) ++ G)).length := by
    have := encL_length (S.map (vis l b))
    simp at this
    simp [this]
  generalize (Row.enc (vis l b s) ++ G) = G2 at *
  have hlen2 : S.length * 11 ≤ (encL (S.map (vis l b))).length + G2.length := by simpa using hlen
  have htop : rd (encL (S.map (vis l b)) ++ G2) (S.length * 11) 11 true = some (.agg [.int .i64 s, .int .i64 (own l b s).s0.lo, .int .i64 (own l b s).s0.hi, .int .i64 (own l b s).s1.lo, .int .i64 (own l b s).s1.hi, .int .i64 (own l b s).s2.lo, .int .i64 (own l b s).s2.hi, .int .i64 (own l b s).s3.lo, .int .i64 (own l b s).s3.hi, .int .i64 (own l b s).s4.lo, .int .i64 (own l b s).s4.hi]) := htop
  have hEc : ∀ j, j < l.length → (ndAt l j).leaf = true → (own l b j).empty = false → (sm = true ∧ lo ≤ (ndAt l j).value ∧ (ndAt l j).value ≤ hi) ∨ (∃ x ∈ S, Desc l x j) ∨ Desc l s j := by
    intro j h1 h2 h3
    rcases hE.cover j h1 h2 h3 with h | ⟨x, hx, hd⟩
    · exact .inl h
    · rcases List.mem_append.1 hx with hx | hx
      · exact .inr (.inl ⟨x, hx, hd⟩)
      · simp at hx; subst hx; exact .inr (.inr hd)
  have hlt : ∀ x ∈ S, x < l.length := fun x hx => hE.lt x (by simp [hx])
  have c9 : (S.length : Int) < (S.length : Int) + 1 := by omega
  have c10 : (S.length : Int) ≤ (S.length : Int) + 1 := by omega
  have hlw : wgts [s] = wgt s := hws
  cases hoe : (own l b s).empty
  case true =>
    have hE2 : EI l b S lo hi sm := by
      refine ⟨hlt, ?_, hE.att⟩
      intro j h1 h2 h3
      rcases hEc j h1 h2 h3 with h | h | h
      · exact .inl h
      · exact .inr h
      · exfalso
        obtain ⟨p, t, hp⟩ := empty_false.1 h3
        exact empty_true.1 hoe p t ((h.sub hr hs).2 p t hp)
    cases sm <;> simp -implicitDefEqProofs [c0, c9, c10, wL, htop, hU, hs, rd_words, hoe]
    all_goals exact ⟨wgts S, by omega, S, rfl, by omega, lo, hi, hE2, ⟨rfl, rfl, rfl⟩, G2, rfl⟩
  case false =>
    cases hl : (ndAt l s).leaf
    case false =>
      have ha := hr.at hs hl
      have hf := hr.feature hs hl
      have hC : CutB (own l b s) (ndAt l s).feature (ndAt l s).cut = some (cutB (own l b s) (ndAt l s).feature (ndAt l s).cut) := cutB_of (okB_own hr hb s s (by omega)) (ndAt l s).feature (ok64_fits (hr.cutOk hs))
      have hch := own_child hr b hs hl
      have hpr : cutB (own l b s) (ndAt l s).feature (ndAt l s).cut = (own l b (ndAt l s).left.toNat, own l b (ndAt l s).right.toNat) := Prod.ext hch.1.symm hch.2.symm
      rw [hpr] at hC
      have c11 : S.length ≤ 1099511627774 := by omega
      have hw2 := wgt_two (s := s) (a := (ndAt l s).left.toNat) (b := (ndAt l s).right.toNat) (by omega) (by omega) (by omega)
      have hw3 : wgts (S ++ [(ndAt l s).left.toNat, (ndAt l s).right.toNat]) = wgts S + (wgt (ndAt l s).left.toNat + wgt (ndAt l s).right.toNat) := by rw [wgts_app]; simp [wgts]
      have hE2 : EI l b (S ++ [(ndAt l s).left.toNat, (ndAt l s).right.toNat]) lo hi sm := by
        refine ⟨?_, ?_, hE.att⟩
        · intro x hx
          rcases List.mem_append.1 hx with hx | hx
          · exact hlt x hx
          · simp at hx
            omega
        · intro j h1 h2 h3
          rcases hEc j h1 h2 h3 with h | ⟨x, hx, h⟩ | h
          · exact .inl h
          · exact .inr ⟨x, by simp [hx], h⟩
          · rcases Desc.cases' h with h | ⟨_, h | h⟩
            · subst h; rw [hl] at h2; cases h2
            · exact .inr ⟨_, by simp, h⟩
            · exact .inr ⟨_, by simp, h⟩
      have el : (((ndAt l s).left.toNat : Nat) : Int) = (ndAt l s).left := by omega
      have er : (((ndAt l s).right.toNat : Nat) : Int) = (ndAt l s).right := by omega
      have hcell : encL (S.map (vis l b)) ++ (Row.enc (vis l b (ndAt l s).left.toNat) ++ Row.enc (vis l b (ndAt l s).right.toNat)) = encL ((S ++ [(ndAt l s).left.toNat, (ndAt l s).right.toNat]).map (vis l b)) ++ [] := by simp [encL_append, encL_cons, encL_nil]
      cases sm <;> simp -implicitDefEqProofs [c0, c9, c10, c11, wL, htop, hU, hs, rd_words, hoe, hl, hC, htk, hlen2]
      all_goals refine ⟨_, ?_, S ++ [(ndAt l s).left.toNat, (ndAt l s).right.toNat], rfl, ?_, lo, hi, hE2, ⟨rfl, rfl, ?_⟩, [], ?_⟩
      all_goals first
        | omega
        | (simp; done)
        | (rw [← hcell, ← el, ← er]; rfl)
    case true =>
      have hpc : (⟨own l b s, (ndAt l s).value⟩ : Piece) ∈ pieces l b := mem_pieces.2 ⟨s, hs, hl, hoe, rfl⟩
      cases sm
      case false =>
        have hE2 : EI l b S (ndAt l s).value (ndAt l s).value true := by
          refine ⟨hlt, ?_, fun _ => ⟨⟨_, hpc, rfl⟩, ⟨_, hpc, rfl⟩⟩⟩
          intro j h1 h2 h3
          rcases hEc j h1 h2 h3 with ⟨h, _⟩ | h | h
          · cases h
          · exact .inr h
          · rcases Desc.cases' h with h | ⟨h, _⟩
            · subst h; exact .inl ⟨rfl, Int.le_refl _, Int.le_refl _⟩
            · rw [hl] at h; cases h
        simp -implicitDefEqProofs [c0, c9, c10, wL, htop, hU, hs, rd_words, hoe, hl]
        exact ⟨wgts S, by omega, S, rfl, by omega, _, _, hE2, ⟨rfl, rfl, rfl⟩, G2, rfl⟩
      case true =>
        obtain ⟨⟨u, hu, hu2⟩, ⟨v, hv, hv2⟩⟩ := hE.att rfl
        have hE2 : EI l b S (if (ndAt l s).value < lo then (ndAt l s).value else lo) (if hi < (ndAt l s).value then (ndAt l s).value else hi) true := by
          refine ⟨hlt, ?_, ?_⟩
          · intro j h1 h2 h3
            rcases hEc j h1 h2 h3 with ⟨_, h, h'⟩ | h | h
            · refine .inl ⟨rfl, ?_, ?_⟩ <;> split <;> omega
            · exact .inr h
            · rcases Desc.cases' h with h | ⟨h, _⟩
              · subst h; refine .inl ⟨rfl, ?_, ?_⟩ <;> split <;> omega
              · rw [hl] at h; cases h
          · intro _
            constructor
            · split
              · exact ⟨_, hpc, rfl⟩
              · exact ⟨u, hu, hu2⟩
            · split
              · exact ⟨_, hpc, rfl⟩
              · exact ⟨v, hv, hv2⟩
        simp -implicitDefEqProofs [c0, c9, c10, wL, htop, hU, hs, rd_words, hoe, hl]
        exact ⟨wgts S, by omega, S, rfl, by omega, _, _, hE2, ⟨rfl, rfl, rfl⟩, G2, rfl⟩
theorem c_ends : Contract Tryz.prog 94 (sp2 EndsC) :=
  contract_of_runs mixed (tbl_cons c_Unpack (tbl_cons c_bEmpty (tbl_cons c_bCut tbl_nil))) Tryz.func94 m94 (sp2_runs runs_ends)
def sumsP (m : Model) (c : Int) (b : Box) : Int × Int := if c < 0 ∨ m.classes ≤ c ∨ b.empty = true then (0, 0) else boundP m c b
noncomputable def SumsC (m : Model) (c : Int) (b : Box) : Option (Int × Int) := Part (RM m ∧ okB b) (sumsP m c b)
theorem runs_sums (m : Model) (c : Int) (b : Box) (r : Int × Int) (h : SumsC m c b = some r) : Runs (tbl [(43, sp1 MRight), (26, sp1 fun (b : Box) => some b.empty), (94, sp2 EndsC)]) a79 [Arg.enc m, Arg.enc c, Arg.enc b] (Arg.enc r) := by
  obtain ⟨⟨hr, hb⟩, rfl⟩ := part_some h
  refine ⟨rfl, fun g => run_def ?_⟩
  unfold a79
  have hM : MRight m = some true := by unfold MRight; rw [if_neg (by have := hr.dim; omega)]; exact part_of hr _
  by_cases h0 : c < 0
  case pos => simp -implicitDefEqProofs [hM, h0, sumsP]
  by_cases h1 : m.classes ≤ c
  case pos => simp -implicitDefEqProofs [hM, h0, h1, sumsP]
  cases he : b.empty
  case true => simp -implicitDefEqProofs [hM, h0, h1, he, sumsP]
  have hle := hr.trees
  have b3 : m.trees.length ≤ maxN := by unfold maxN; omega
  have c0 : 0 ≤ c := by omega
  have c3 : c < 3 := by have := hr.classes; omega
  have hres : sumsP m c b = ((boundP m c b).1, (boundP m c b).2) := by unfold sumsP; rw [if_neg (by simp [he]; omega)]
  rw [hres]
  simp -implicitDefEqProofs [hM, h0, h1, he, b3, c0, c3]
  refine run_while (c := c79_22) (fun n s => ∃ (i : Nat) (g : Nat → Nat), i + n = m.trees.length ∧ s = ⟨[(1, .int .i64 c), (5, .ptr 5 (g 5) 0), (8, .int .i64 ((m.trees.take i).foldl (boundF c b) (m.bias.get c, m.bias.get c)).1), (9, .int .i64 ((m.trees.take i).foldl (boundF c b) (m.bias.get c, m.bias.get c)).2), (40, .lst m.trees.length (encL m.trees)), (41, .int .i64 m.trees.length), (42, .int .i64 i)],
    [(5, ⟨[.int .i64 b.s0.lo, .int .i64 b.s0.hi, .int .i64 b.s1.lo, .int .i64 b.s1.hi, .int .i64 b.s2.lo, .int .i64 b.s2.hi, .int .i64 b.s3.lo, .int .i64 b.s3.hi, .int .i64 b.s4.lo, .int .i64 b.s4.hi], false, 0⟩)], g⟩) m.trees.length ⟨0, bump 5 (bump 3 g), by omega, by simp⟩ ?_
  rintro n s ⟨i, g, hi, rfl⟩
  by_cases h1 : i < m.trees.length
  case pos =>
    have w1 : IntKind.i64.wrap ((i : Int) + 1) = (i : Int) + 1 := wrap64 (by omega) (by omega)
    have hrow := rd_tree m.trees i h1
    have hrt := hr.rt (List.getElem_mem h1)
    have hV : EndsC m.trees[i].nodes b = some ((boundT m.trees[i].nodes b).a, (boundT m.trees[i].nodes b).b) := part_of ⟨⟨_, hrt⟩, hb, he⟩ _
    have hbd := boundF_le (c := c) he (m.trees.take (i + 1)) (m.bias.get c, m.bias.get c) (fun t ht => ⟨_, hr.rt (List.mem_of_mem_take ht)⟩)
    have hb2 := of_fits (Bias.get_fits hr c)
    have hs : (m.trees.take (i + 1)).foldl (boundF c b) (m.bias.get c, m.bias.get c) = boundF c b ((m.trees.take i).foldl (boundF c b) (m.bias.get c, m.bias.get c)) m.trees[i] := by
      rw [List.take_succ_eq_append_getElem h1, List.foldl_append]
      rfl
    have hl : (m.trees.take (i + 1)).length ≤ 8 := by simp; omega
    simp only at hbd
    by_cases hc : m.trees[i].cls = c
    case pos =>
      have hs1 : ((m.trees.take (i + 1)).foldl (boundF c b) (m.bias.get c, m.bias.get c)).1 = ((m.trees.take i).foldl (boundF c b) (m.bias.get c, m.bias.get c)).1 + (boundT m.trees[i].nodes b).a := by rw [hs, boundF, if_pos hc]
      have hs2 : ((m.trees.take (i + 1)).foldl (boundF c b) (m.bias.get c, m.bias.get c)).2 = ((m.trees.take i).foldl (boundF c b) (m.bias.get c, m.bias.get c)).2 + (boundT m.trees[i].nodes b).b := by rw [hs, boundF, if_pos hc]
      have w2 : IntKind.i64.wrap (((m.trees.take i).foldl (boundF c b) (m.bias.get c, m.bias.get c)).1 + (boundT m.trees[i].nodes b).a) = ((m.trees.take (i + 1)).foldl (boundF c b) (m.bias.get c, m.bias.get c)).1 := by rw [← hs1]; exact wrap64 (by omega) (by omega)
      have w3 : IntKind.i64.wrap (((m.trees.take i).foldl (boundF c b) (m.bias.get c, m.bias.get c)).2 + (boundT m.trees[i].nodes b).b) = ((m.trees.take (i + 1)).foldl (boundF c b) (m.bias.get c, m.bias.get c)).2 := by rw [← hs2]; exact wrap64 (by omega) (by omega)
      simp -implicitDefEqProofs [h1, hrow, hc, hV, w1, w2, w3]
      exact ⟨n - 1, by omega, i + 1, by omega, rfl, rfl, by omega⟩
    case neg =>
      have hs2 : (m.trees.take (i + 1)).foldl (boundF c b) (m.bias.get c, m.bias.get c) = (m.trees.take i).foldl (boundF c b) (m.bias.get c, m.bias.get c) := by rw [hs, boundF, if_neg hc]
      simp -implicitDefEqProofs [h1, hrow, hc, hV, w1]
      exact ⟨n - 1, by omega, i + 1, by omega, by rw [hs2], by rw [hs2], by omega⟩
  case neg =>
    have hil : i = m.trees.length := by omega
    subst hil
    simp -implicitDefEqProofs [h1, boundP]
theorem c_sums : Contract Tryz.prog 79 (sp3 SumsC) :=
  contract_of_runs mixed (tbl_cons c_mRight (tbl_cons c_bEmpty (tbl_cons c_ends tbl_nil))) Tryz.func79 m79 (sp3_runs runs_sums)
end Go.Co
/- CO: a search, as it goes; the document's own search. -/
namespace Go.Co
open Go.Am Go.Proofs
attribute [-simp] Go.Am.eff_gcall
def zeroP : Point := ⟨0, 0, 0, 0⟩
def sumS : Step := ⟨true, 0, 0⟩
def searchN (m : Model) (q : Query) : Nat → Int → List Box → List Step → Verdict
  | _, sp, [], pf => ⟨1, pf, zeroP, 0, sp⟩
  | 0, sp, _ :: _, _ => ⟨3, [], zeroP, 0, sp⟩
  | n + 1, sp, b :: bs, pf =>
    if closedM m q b then searchN m q n (sp + 1) bs (pf ++ [sumS]) else
    if corner m q b then ⟨2, [], lowB b, b.s4.hi, sp + 1⟩ else
    if (splitM m q b).c then searchN m q n (sp + 1) ((cutB b (splitM m q b).a (splitM m q b).b).1 :: (cutB b (splitM m q b).a (splitM m q b).b).2 :: bs) (pf ++ [⟨false, (splitM m q b).a, (splitM m q b).b⟩]) else ⟨3, [], zeroP, 0, sp + 1⟩
def searchM (m : Model) (q : Query) : Verdict := if okQuery m q then searchN m q q.budget.toNat 0 [startOf q] [] else ⟨4, [], zeroP, 0, 0⟩
theorem split_in {m : Model} {q : Query} {b : Box} (h : (splitM m q b).c = true) : 0 ≤ (splitM m q b).a ∧ (splitM m q b).a < 5 ∧ (splitM m q b).b ∈ cutsL m q b (splitM m q b).a := by
  unfold splitM at *
  rcases splitFrom_spec m q b [0, 1, 2, 3, 4] with ⟨h1, _⟩ | ⟨l, r, k, h1, h2, h3, h4⟩
  · rw [h1] at h; cases h
  · rw [h4]
    simp only
    have hk : k ∈ ([0, 1, 2, 3, 4] : List Int) := by rw [h1]; simp
    simp at hk
    refine ⟨by omega, by omega, ?_⟩
    unfold midL
    have hp : 0 < (cutsL m q b k).length := List.length_pos_iff.2 (by first | exact h2 | exact h3)
    have hlt : ((cutsL m q b k).length - 1) / 2 < (cutsL m q b k).length := by omega
    rw [List.getD_eq_getElem?_getD, List.getElem?_eq_getElem hlt]
    exact List.getElem_mem hlt
theorem okQuery_start {m : Model} {q : Query} (h : okQuery m q = true) : smallB (startOf q) ∧ okB (startOf q) ∧ (startOf q).empty = false := by
  have hs := (okQuery_spec h).2.2.2.2.1
  unfold okRegion okSpan at hs
  simp only [Bool.and_eq_true, Bool.not_eq_true'] at hs
  obtain ⟨⟨⟨⟨a0, a1⟩, a2⟩, a3⟩, a4⟩ := hs
  have key : ∀ s : Span, s.empty = false → fits s.lo = true → fits s.hi = true → small s ∧ s.lo ≤ s.hi := fun s h1 h2 h3 => by
    have h2 := of_fits h2
    have h3 := of_fits h3
    unfold Span.empty at h1
    rw [decide_eq_false_iff_not] at h1
    unfold small
    omega
  have k0 := key _ a0.1.1.2 a0.1.2 a0.2
  have k1 := key _ a1.1.1.2 a1.1.2 a1.2
  have k2 := key _ a2.1.1.2 a2.1.2 a2.2
  have k3 := key _ a3.1.1.2 a3.1.2 a3.2
  have k4 : small (startOf q).s4 ∧ (startOf q).s4.lo ≤ (startOf q).s4.hi := by
    unfold startOf
    simp only
    split
    · rename_i hp
      have hf := paired_feature hp
      rcases hf with hf | hf | hf | hf <;> rw [hf] <;> simp only [Box.get, reduceIte, Int.reduceEq] <;> assumption
    · unfold small; simp
  have hsm : smallB (startOf q) := ⟨k0.1, k1.1, k2.1, k3.1, k4.1⟩
  have hne : (startOf q).empty = false := by
    refine empty_get.2 fun i i0 i5 => ?_
    have hi : i = 0 ∨ i = 1 ∨ i = 2 ∨ i = 3 ∨ i = 4 := by omega
    rcases hi with rfl | rfl | rfl | rfl | rfl
    · exact k0.2
    · exact k1.2
    · exact k2.2
    · exact k3.2
    · exact k4.2
  exact ⟨hsm, small_ok hsm hne, hne⟩
def vCells (v : Verdict) (V : AV) : List AV := [.int .i64 v.kind, V, .int .i64 v.witness.p0, .int .i64 v.witness.p1, .int .i64 v.witness.p2, .int .i64 v.witness.p3, .int .i64 v.twin, .int .i64 v.spent]
structure SEnd (v : Verdict) (g0 : Nat) (h : Hp) (g : Nat → Nat) : Prop where
  zero : g 0 = g0
  val : (v.proof = [] ∧ hlook h 4 = some ⟨vCells v .nils, false, 0⟩) ∨ (v.proof ≠ [] ∧ hlook h 4 = some ⟨vCells v (.own 10601 (g 10601) 0 v.proof.length), false, 0⟩ ∧ hlook h 10601 = some ⟨encL v.proof, false, 3⟩)
theorem take_stepsE (X : List Step) : List.take (X.length * 3) (encL X) = encL X := take_rows _ _ (by simp)
theorem len_steps (X : List Step) : X.length * 3 ≤ (encL X).length := by rw [encL_length]; exact Nat.le_refl _
theorem take_boxG (X : List Box) (G : List AV) : List.take (X.length * 10) (encL X ++ G) = encL X := by
  have : (encL X).length = X.length * 10 := encL_length X
  rw [← this, List.take_left]
theorem len_boxG (X : List Box) (G : List AV) : X.length * 10 ≤ (encL X ++ G).length := by rw [List.length_append, encL_length]; exact Nat.le_add_right _ _
end Go.Co
