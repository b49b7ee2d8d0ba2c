/- CO: texts of this claim, one behind the other. -/
import Derived.Test.YtlbfmeijjgphfaaGreatCz7
import Derived.Test.YtlbfmeijjgphfaaGreatCz8
import Derived.Test.YtlbfmeijjgphfaaGreatCz5
set_option linter.unusedVariables false
set_option linter.unusedSimpArgs false
/- CO: right queries (written by mkCoJ.py). -/
set_option maxHeartbeats 16000000
set_option maxRecDepth 100000
namespace Go.Co
open Go.Am Go.Proofs
def c52_0 : ACode := .ops [⟨some 2, .box (.t 0) 10, none, []⟩,⟨some 4, .mv (.c (.bool false)), none, []⟩] [1, 2]
theorem r52_0 : type_of% (rr c52_0.eq_1) := rr rfl
def c52_1 : ACode := .ops [⟨some 7, .load 10 true (.t 2), none, [2]⟩,⟨some 8, .mv (.c (.int .i64 0)), none, []⟩] [1, 7, 8]
theorem r52_1 : type_of% (rr c52_1.eq_1) := rr rfl
def c52_2 : ACode := .ops [⟨some 9, .bin .lss (.t 8) (.c (.int .i64 5)), none, []⟩] [1, 7, 8, 9]
theorem r52_2 : type_of% (rr c52_2.eq_1) := rr rfl
def c52_3 : ACode := .cond (.t 9) .skip (.exit 0)
theorem r52_3 : type_of% (rr c52_3.eq_1) := rr rfl
def c52_4 : ACode := .ops [⟨some 10, .mv (.t 8), none, []⟩,⟨some 11, .idx (.t 7) (.t 8) 2 5 true, none, []⟩,⟨some 6, .alloc [.int .i64 0, .int .i64 0], none, []⟩,⟨some 5, .mv (.t 10), none, []⟩,⟨none, .store (.t 6) 2 (.t 11), none, [6]⟩] [1, 5, 6, 7, 8]
theorem r52_4 : type_of% (rr c52_4.eq_1) := rr rfl
def c52_5 : ACode := .ops [⟨some 12, .mv (.t 5), none, []⟩,⟨some 13, .mv (.t 1), none, []⟩,⟨some 14, .bin .geq (.t 12) (.t 13), none, []⟩,⟨some 15, .mv (.t 14), none, []⟩,⟨some 16, .load 2 true (.t 6), some (15, true), [6]⟩,⟨some 17, .build [.int .i64 0, .int .i64 0] [], some (15, true), []⟩,⟨some 18, .eqa true [false, false] (.t 16) (.t 17), some (15, true), []⟩,⟨some 19, .pick (.t 15) (.t 18) (.c (.bool false)), none, []⟩] [1, 6, 7, 8, 19]
theorem r52_5 : type_of% (rr c52_5.eq_1) := rr rfl
def c52_6 : ACode := .ops [⟨some 4, .mv (.c (.bool false)), none, []⟩] [4]
theorem r52_6 : type_of% (rr c52_6.eq_1) := rr rfl
def c52_7 : ACode := .seq c52_6 .ret
theorem r52_7 : type_of% (rr c52_7.eq_1) := rr rfl
def c52_8 : ACode := .cond (.t 19) c52_7 .skip
theorem r52_8 : type_of% (rr c52_8.eq_1) := rr rfl
def c52_9 : ACode := .seq c52_5 c52_8
theorem r52_9 : type_of% (rr c52_9.eq_1) := rr rfl
def c52_10 : ACode := .ops [⟨some 20, .load 2 true (.t 6), none, [6]⟩,⟨some 21, .call 54 [.t 20], none, []⟩,⟨some 22, .mv (.t 21), none, []⟩,⟨some 23, .fad (.t 6) 0, some (22, false), [6]⟩,⟨some 24, .load 1 false (.t 23), some (22, false), [6]⟩,⟨some 25, .call 71 [.t 24, .c (.int .i64 32)], some (22, false), []⟩,⟨some 26, .un .not (.t 25), some (22, false), []⟩,⟨some 27, .pick (.t 22) (.c (.bool true)) (.t 26), none, []⟩,⟨some 28, .mv (.t 27), none, []⟩,⟨some 29, .fad (.t 6) 1, some (28, false), [6]⟩,⟨some 30, .load 1 false (.t 29), some (28, false), [6]⟩,⟨some 31, .call 71 [.t 30, .c (.int .i64 32)], some (28, false), []⟩,⟨some 32, .un .not (.t 31), some (28, false), []⟩,⟨some 33, .pick (.t 28) (.c (.bool true)) (.t 32), none, []⟩] [1, 7, 8, 33]
theorem r52_10 : type_of% (rr c52_10.eq_1) := rr rfl
def c52_11 : ACode := .ops [⟨some 4, .mv (.c (.bool false)), none, []⟩] [4]
theorem r52_11 : type_of% (rr c52_11.eq_1) := rr rfl
def c52_12 : ACode := .seq c52_11 .ret
theorem r52_12 : type_of% (rr c52_12.eq_1) := rr rfl
def c52_13 : ACode := .cond (.t 33) c52_12 .skip
theorem r52_13 : type_of% (rr c52_13.eq_1) := rr rfl
def c52_14 : ACode := .seq c52_10 c52_13
theorem r52_14 : type_of% (rr c52_14.eq_1) := rr rfl
def c52_15 : ACode := .seq c52_9 c52_14
theorem r52_15 : type_of% (rr c52_15.eq_1) := rr rfl
def c52_16 : ACode := .seq c52_4 c52_15
theorem r52_16 : type_of% (rr c52_16.eq_1) := rr rfl
def c52_17 : ACode := .block 1 c52_16
theorem r52_17 : type_of% (rr c52_17.eq_1) := rr rfl
def c52_18 : ACode := .ops [⟨some 34, .bin .add (.t 8) (.c (.int .i64 1)), none, []⟩,⟨some 8, .mv (.t 34), none, []⟩] [1, 7, 8]
theorem r52_18 : type_of% (rr c52_18.eq_1) := rr rfl
def c52_19 : ACode := .seq c52_17 c52_18
theorem r52_19 : type_of% (rr c52_19.eq_1) := rr rfl
def c52_20 : ACode := .seq c52_3 c52_19
theorem r52_20 : type_of% (rr c52_20.eq_1) := rr rfl
def c52_21 : ACode := .seq c52_2 c52_20
theorem r52_21 : type_of% (rr c52_21.eq_1) := rr rfl
def c52_22 : ACode := .keep [1, 7, 8] [] c52_21
theorem r52_22 : type_of% (rr c52_22.eq_1) := rr rfl
def c52_23 : ACode := .loop c52_22
theorem r52_23 : type_of% (rr c52_23.eq_1) := rr rfl
def c52_24 : ACode := .block 0 c52_23
theorem r52_24 : type_of% (rr c52_24.eq_1) := rr rfl
def c52_25 : ACode := .seq c52_1 c52_24
theorem r52_25 : type_of% (rr c52_25.eq_1) := rr rfl
def c52_26 : ACode := .ops [⟨some 4, .mv (.c (.bool true)), none, []⟩] [4]
theorem r52_26 : type_of% (rr c52_26.eq_1) := rr rfl
def c52_27 : ACode := .seq c52_26 .ret
theorem r52_27 : type_of% (rr c52_27.eq_1) := rr rfl
def c52_28 : ACode := .seq c52_25 c52_27
theorem r52_28 : type_of% (rr c52_28.eq_1) := rr rfl
def c52_29 : ACode := .seq c52_0 c52_28
theorem r52_29 : type_of% (rr c52_29.eq_1) := rr rfl
def a52 : AFun := ⟨2, 35, c52_29, [.t 4]⟩
attribute [simp] r52_0 r52_1 r52_2 r52_3 r52_4 r52_5 r52_6 r52_7 r52_8 r52_9 r52_10 r52_11 r52_12 r52_13 r52_14 r52_15 r52_16 r52_17 r52_18 r52_19 r52_20 r52_21 r52_22 r52_23 r52_24 r52_25 r52_26 r52_27 r52_28 r52_29
theorem m52 : mFun Tryz.prog Tryz.f52 a52 = true := by decide +kernel
def c53_0 : ACode := .ops [⟨some 2, .box (.t 0) 6, none, []⟩,⟨some 3, .box (.t 1) 17, none, []⟩,⟨some 4, .mv (.c (.bool false)), none, []⟩] [2, 3]
theorem r53_0 : type_of% (rr c53_0.eq_1) := rr rfl
def c53_1 : ACode := .ops [⟨some 5, .fad (.t 3) 0, none, [3]⟩,⟨some 6, .load 1 false (.t 5), none, [3]⟩] [2, 3, 6]
theorem r53_1 : type_of% (rr c53_1.eq_1) := rr rfl
def c53_2 : ACode := .ops [⟨some 8, .bin .eql (.t 6) (.c (.int .i64 1)), none, []⟩,⟨some 7, .mv (.t 8), none, []⟩] [2, 3, 6, 7]
theorem r53_2 : type_of% (rr c53_2.eq_1) := rr rfl
def c53_3 : ACode := .ops [⟨some 9, .fad (.t 3) 12, none, [3]⟩,⟨some 10, .load 1 false (.t 9), none, [3]⟩,⟨some 11, .fad (.t 3) 13, none, [3]⟩,⟨some 12, .load 1 false (.t 11), none, [3]⟩,⟨some 13, .bin .leq (.t 10) (.t 12), none, []⟩,⟨some 14, .mv (.t 13), none, []⟩,⟨some 15, .fad (.t 3) 14, some (14, true), [3]⟩,⟨some 16, .load 1 false (.t 15), some (14, true), [3]⟩,⟨some 17, .bin .eql (.t 16) (.c (.int .i64 0)), some (14, true), []⟩,⟨some 18, .pick (.t 14) (.t 17) (.c (.bool false)), none, []⟩,⟨some 19, .mv (.t 18), none, []⟩,⟨some 20, .fad (.t 3) 15, some (19, true), [3]⟩,⟨some 21, .load 1 false (.t 20), some (19, true), [3]⟩,⟨some 22, .un .not (.t 21), some (19, true), []⟩,⟨some 23, .pick (.t 19) (.t 22) (.c (.bool false)), none, []⟩,⟨some 4, .mv (.t 23), none, []⟩] [4]
theorem r53_3 : type_of% (rr c53_3.eq_1) := rr rfl
def c53_4 : ACode := .seq c53_3 .ret
theorem r53_4 : type_of% (rr c53_4.eq_1) := rr rfl
def c53_5 : ACode := .ops [⟨some 25, .bin .eql (.t 6) (.c (.int .i64 2)), none, []⟩,⟨some 24, .mv (.t 25), none, []⟩] [2, 3, 6, 24]
theorem r53_5 : type_of% (rr c53_5.eq_1) := rr rfl
def c53_6 : ACode := .ops [⟨some 26, .fad (.t 2) 1, none, [2]⟩,⟨some 27, .load 1 false (.t 26), none, [2]⟩,⟨some 28, .bin .geq (.t 27) (.c (.int .i64 2)), none, []⟩,⟨some 29, .mv (.t 28), none, []⟩,⟨some 30, .fad (.t 3) 12, some (29, true), [3]⟩,⟨some 31, .load 1 false (.t 30), some (29, true), [3]⟩,⟨some 32, .bin .eql (.t 31) (.c (.int .i64 0)), some (29, true), []⟩,⟨some 33, .pick (.t 29) (.t 32) (.c (.bool false)), none, []⟩,⟨some 34, .mv (.t 33), none, []⟩,⟨some 35, .fad (.t 3) 13, some (34, true), [3]⟩,⟨some 36, .load 1 false (.t 35), some (34, true), [3]⟩,⟨some 37, .bin .eql (.t 36) (.c (.int .i64 0)), some (34, true), []⟩,⟨some 38, .pick (.t 34) (.t 37) (.c (.bool false)), none, []⟩,⟨some 39, .mv (.t 38), none, []⟩,⟨some 40, .fad (.t 3) 14, some (39, true), [3]⟩,⟨some 41, .load 1 false (.t 40), some (39, true), [3]⟩,⟨some 42, .bin .eql (.t 41) (.c (.int .i64 0)), some (39, true), []⟩,⟨some 43, .pick (.t 39) (.t 42) (.c (.bool false)), none, []⟩,⟨some 44, .mv (.t 43), none, []⟩,⟨some 45, .fad (.t 3) 15, some (44, true), [3]⟩,⟨some 46, .load 1 false (.t 45), some (44, true), [3]⟩,⟨some 47, .un .not (.t 46), some (44, true), []⟩,⟨some 48, .pick (.t 44) (.t 47) (.c (.bool false)), none, []⟩,⟨some 4, .mv (.t 48), none, []⟩] [4]
theorem r53_6 : type_of% (rr c53_6.eq_1) := rr rfl
def c53_7 : ACode := .seq c53_6 .ret
theorem r53_7 : type_of% (rr c53_7.eq_1) := rr rfl
def c53_8 : ACode := .ops [⟨some 50, .bin .eql (.t 6) (.c (.int .i64 3)), none, []⟩,⟨some 49, .mv (.t 50), none, []⟩] [2, 3, 49]
theorem r53_8 : type_of% (rr c53_8.eq_1) := rr rfl
def c53_9 : ACode := .ops [⟨some 51, .fad (.t 3) 14, none, [3]⟩,⟨some 52, .load 1 false (.t 51), none, [3]⟩,⟨some 53, .bin .geq (.t 52) (.c (.int .i64 0)), none, []⟩,⟨some 54, .mv (.t 53), none, []⟩,⟨some 55, .fad (.t 3) 14, some (54, true), [3]⟩,⟨some 56, .load 1 false (.t 55), some (54, true), [3]⟩,⟨some 57, .fad (.t 2) 0, some (54, true), [2]⟩,⟨some 58, .load 1 false (.t 57), some (54, true), [2]⟩,⟨some 59, .bin .lss (.t 56) (.t 58), some (54, true), []⟩,⟨some 60, .pick (.t 54) (.t 59) (.c (.bool false)), none, []⟩,⟨some 61, .mv (.t 60), none, []⟩,⟨some 62, .fad (.t 3) 12, some (61, true), [3]⟩,⟨some 63, .load 1 false (.t 62), some (61, true), [3]⟩,⟨some 64, .bin .eql (.t 63) (.c (.int .i64 0)), some (61, true), []⟩,⟨some 65, .pick (.t 61) (.t 64) (.c (.bool false)), none, []⟩,⟨some 66, .mv (.t 65), none, []⟩,⟨some 67, .fad (.t 3) 13, some (66, true), [3]⟩,⟨some 68, .load 1 false (.t 67), some (66, true), [3]⟩,⟨some 69, .bin .eql (.t 68) (.c (.int .i64 0)), some (66, true), []⟩,⟨some 70, .pick (.t 66) (.t 69) (.c (.bool false)), none, []⟩,⟨some 4, .mv (.t 70), none, []⟩] [4]
theorem r53_9 : type_of% (rr c53_9.eq_1) := rr rfl
def c53_10 : ACode := .seq c53_9 .ret
theorem r53_10 : type_of% (rr c53_10.eq_1) := rr rfl
def c53_11 : ACode := .cond (.t 49) c53_10 .skip
theorem r53_11 : type_of% (rr c53_11.eq_1) := rr rfl
def c53_12 : ACode := .seq c53_8 c53_11
theorem r53_12 : type_of% (rr c53_12.eq_1) := rr rfl
def c53_13 : ACode := .cond (.t 24) c53_7 c53_12
theorem r53_13 : type_of% (rr c53_13.eq_1) := rr rfl
def c53_14 : ACode := .seq c53_5 c53_13
theorem r53_14 : type_of% (rr c53_14.eq_1) := rr rfl
def c53_15 : ACode := .cond (.t 7) c53_4 c53_14
theorem r53_15 : type_of% (rr c53_15.eq_1) := rr rfl
def c53_16 : ACode := .seq c53_2 c53_15
theorem r53_16 : type_of% (rr c53_16.eq_1) := rr rfl
def c53_17 : ACode := .block 0 c53_16
theorem r53_17 : type_of% (rr c53_17.eq_1) := rr rfl
def c53_18 : ACode := .seq c53_1 c53_17
theorem r53_18 : type_of% (rr c53_18.eq_1) := rr rfl
def c53_19 : ACode := .ops [⟨some 4, .mv (.c (.bool false)), none, []⟩] [4]
theorem r53_19 : type_of% (rr c53_19.eq_1) := rr rfl
def c53_20 : ACode := .seq c53_19 .ret
theorem r53_20 : type_of% (rr c53_20.eq_1) := rr rfl
def c53_21 : ACode := .seq c53_18 c53_20
theorem r53_21 : type_of% (rr c53_21.eq_1) := rr rfl
def c53_22 : ACode := .seq c53_0 c53_21
theorem r53_22 : type_of% (rr c53_22.eq_1) := rr rfl
def a53 : AFun := ⟨2, 71, c53_22, [.t 4]⟩
attribute [simp] r53_0 r53_1 r53_2 r53_3 r53_4 r53_5 r53_6 r53_7 r53_8 r53_9 r53_10 r53_11 r53_12 r53_13 r53_14 r53_15 r53_16 r53_17 r53_18 r53_19 r53_20 r53_21 r53_22
theorem m53 : mFun Tryz.prog Tryz.f53 a53 = true := by decide +kernel
def c25_0 : ACode := .ops [⟨some 2, .box (.t 0) 6, none, []⟩,⟨some 3, .box (.t 1) 17, none, []⟩,⟨some 4, .mv (.c (.bool false)), none, []⟩] [2, 3]
theorem r25_0 : type_of% (rr c25_0.eq_1) := rr rfl
def c25_1 : ACode := .ops [⟨some 5, .load 6 true (.t 2), none, [2]⟩,⟨some 6, .call 43 [.t 5], none, []⟩,⟨some 7, .mv (.t 6), none, []⟩,⟨some 8, .fad (.t 3) 1, some (7, true), [3]⟩,⟨some 9, .load 1 false (.t 8), some (7, true), [3]⟩,⟨some 10, .bin .geq (.t 9) (.c (.int .i64 0)), some (7, true), []⟩,⟨some 11, .pick (.t 7) (.t 10) (.c (.bool false)), none, []⟩,⟨some 12, .mv (.t 11), none, []⟩,⟨some 13, .fad (.t 3) 1, some (12, true), [3]⟩,⟨some 14, .load 1 false (.t 13), some (12, true), [3]⟩,⟨some 15, .fad (.t 2) 1, some (12, true), [2]⟩,⟨some 16, .load 1 false (.t 15), some (12, true), [2]⟩,⟨some 17, .bin .lss (.t 14) (.t 16), some (12, true), []⟩,⟨some 18, .pick (.t 12) (.t 17) (.c (.bool false)), none, []⟩,⟨some 19, .mv (.t 18), none, []⟩,⟨some 20, .fad (.t 3) 16, some (19, true), [3]⟩,⟨some 21, .load 1 false (.t 20), some (19, true), [3]⟩,⟨some 22, .bin .geq (.t 21) (.c (.int .i64 0)), some (19, true), []⟩,⟨some 23, .pick (.t 19) (.t 22) (.c (.bool false)), none, []⟩,⟨some 24, .mv (.t 23), none, []⟩,⟨some 25, .fad (.t 3) 16, some (24, true), [3]⟩,⟨some 26, .load 1 false (.t 25), some (24, true), [3]⟩,⟨some 27, .bin .leq (.t 26) (.c (.int .i64 65536)), some (24, true), []⟩,⟨some 28, .pick (.t 24) (.t 27) (.c (.bool false)), none, []⟩,⟨some 29, .mv (.t 28), none, []⟩,⟨some 30, .fad (.t 3) 2, some (29, true), [3]⟩,⟨some 31, .load 10 true (.t 30), some (29, true), [3]⟩,⟨some 32, .fad (.t 2) 0, some (29, true), [2]⟩,⟨some 33, .load 1 false (.t 32), some (29, true), [2]⟩,⟨some 34, .call 52 [.t 31, .t 33], some (29, true), []⟩,⟨some 35, .pick (.t 29) (.t 34) (.c (.bool false)), none, []⟩,⟨some 36, .mv (.t 35), none, []⟩,⟨some 37, .load 6 true (.t 2), some (36, true), [2]⟩,⟨some 38, .load 17 true (.t 3), some (36, true), [3]⟩,⟨some 39, .call 53 [.t 37, .t 38], some (36, true), []⟩,⟨some 40, .pick (.t 36) (.t 39) (.c (.bool false)), none, []⟩,⟨some 4, .mv (.t 40), none, []⟩] [4]
theorem r25_1 : type_of% (rr c25_1.eq_1) := rr rfl
def c25_2 : ACode := .seq c25_1 .ret
theorem r25_2 : type_of% (rr c25_2.eq_1) := rr rfl
def c25_3 : ACode := .seq c25_0 c25_2
theorem r25_3 : type_of% (rr c25_3.eq_1) := rr rfl
def a25 : AFun := ⟨2, 41, c25_3, [.t 4]⟩
attribute [simp] r25_0 r25_1 r25_2 r25_3
theorem m25 : mFun Tryz.prog Tryz.f25 a25 = true := by decide +kernel
def c24_0 : ACode := .ops [⟨some 1, .box (.t 0) 17, none, []⟩,⟨some 2, .mv (.c (.bool false)), none, []⟩] [1]
theorem r24_0 : type_of% (rr c24_0.eq_1) := rr rfl
def c24_1 : ACode := .ops [⟨some 3, .fad (.t 1) 0, none, [1]⟩,⟨some 4, .load 1 false (.t 3), none, [1]⟩,⟨some 5, .bin .eql (.t 4) (.c (.int .i64 3)), none, []⟩,⟨some 6, .mv (.t 5), none, []⟩,⟨some 7, .fad (.t 1) 14, some (6, true), [1]⟩,⟨some 8, .load 1 false (.t 7), some (6, true), [1]⟩,⟨some 9, .bin .geq (.t 8) (.c (.int .i64 0)), some (6, true), []⟩,⟨some 10, .pick (.t 6) (.t 9) (.c (.bool false)), none, []⟩,⟨some 11, .mv (.t 10), none, []⟩,⟨some 12, .fad (.t 1) 14, some (11, true), [1]⟩,⟨some 13, .load 1 false (.t 12), some (11, true), [1]⟩,⟨some 14, .bin .lss (.t 13) (.c (.int .i64 4)), some (11, true), []⟩,⟨some 15, .pick (.t 11) (.t 14) (.c (.bool false)), none, []⟩,⟨some 2, .mv (.t 15), none, []⟩] [2]
theorem r24_1 : type_of% (rr c24_1.eq_1) := rr rfl
def c24_2 : ACode := .seq c24_1 .ret
theorem r24_2 : type_of% (rr c24_2.eq_1) := rr rfl
def c24_3 : ACode := .seq c24_0 c24_2
theorem r24_3 : type_of% (rr c24_3.eq_1) := rr rfl
def a24 : AFun := ⟨1, 16, c24_3, [.t 2]⟩
attribute [simp] r24_0 r24_1 r24_2 r24_3
theorem m24 : mFun Tryz.prog Tryz.f24 a24 = true := by decide +kernel
def c8_0 : ACode := .ops [⟨some 1, .box (.t 0) 17, none, []⟩,⟨some 2, .alloc [.int .i64 0, .int .i64 0, .int .i64 0, .int .i64 0, .int .i64 0, .int .i64 0, .int .i64 0, .int .i64 0, .int .i64 0, .int .i64 0], none, []⟩] [1, 2]
theorem r8_0 : type_of% (rr c8_0.eq_1) := rr rfl
def c8_1 : ACode := .ops [⟨some 4, .fad (.t 1) 2, none, [1]⟩,⟨some 5, .load 10 true (.t 4), none, [1]⟩,⟨some 3, .alloc [.int .i64 0, .int .i64 0, .int .i64 0, .int .i64 0, .int .i64 0, .int .i64 0, .int .i64 0, .int .i64 0, .int .i64 0, .int .i64 0], none, []⟩,⟨none, .store (.t 3) 10 (.t 5), none, [3]⟩] [1, 2, 3]
theorem r8_1 : type_of% (rr c8_1.eq_1) := rr rfl
def c8_2 : ACode := .ops [⟨some 6, .build [.int .i64 0, .int .i64 0] [], none, []⟩,⟨some 7, .iad (.t 3) (.c (.int .i64 4)) 2 5, none, [3]⟩,⟨none, .store (.t 7) 2 (.t 6), none, [3]⟩] [1, 2, 3]
theorem r8_2 : type_of% (rr c8_2.eq_1) := rr rfl
def c8_3 : ACode := .ops [⟨some 8, .load 17 true (.t 1), none, [1]⟩,⟨some 9, .call 24 [.t 8], none, []⟩] [1, 2, 3, 9]
theorem r8_3 : type_of% (rr c8_3.eq_1) := rr rfl
def c8_4 : ACode := .ops [⟨some 10, .fad (.t 1) 14, none, [1]⟩,⟨some 11, .load 1 false (.t 10), none, [1]⟩,⟨some 12, .iad (.t 3) (.t 11) 2 5, none, [3]⟩,⟨some 13, .load 2 true (.t 12), none, [3]⟩,⟨some 14, .iad (.t 3) (.c (.int .i64 4)) 2 5, none, [3]⟩,⟨none, .store (.t 14) 2 (.t 13), none, [3]⟩] [2, 3]
theorem r8_4 : type_of% (rr c8_4.eq_1) := rr rfl
def c8_5 : ACode := .cond (.t 9) c8_4 .skip
theorem r8_5 : type_of% (rr c8_5.eq_1) := rr rfl
def c8_6 : ACode := .seq c8_3 c8_5
theorem r8_6 : type_of% (rr c8_6.eq_1) := rr rfl
def c8_7 : ACode := .ops [⟨some 15, .load 10 true (.t 3), none, [3]⟩,⟨none, .store (.t 2) 10 (.t 15), none, [2]⟩] [2]
theorem r8_7 : type_of% (rr c8_7.eq_1) := rr rfl
def c8_8 : ACode := .seq c8_7 .ret
theorem r8_8 : type_of% (rr c8_8.eq_1) := rr rfl
def c8_9 : ACode := .seq c8_6 c8_8
theorem r8_9 : type_of% (rr c8_9.eq_1) := rr rfl
def c8_10 : ACode := .seq c8_2 c8_9
theorem r8_10 : type_of% (rr c8_10.eq_1) := rr rfl
def c8_11 : ACode := .seq c8_1 c8_10
theorem r8_11 : type_of% (rr c8_11.eq_1) := rr rfl
def c8_12 : ACode := .seq c8_0 c8_11
theorem r8_12 : type_of% (rr c8_12.eq_1) := rr rfl
def a8 : AFun := ⟨1, 16, c8_12, [.cell 2 10 true]⟩
attribute [simp] r8_0 r8_1 r8_2 r8_3 r8_4 r8_5 r8_6 r8_7 r8_8 r8_9 r8_10 r8_11 r8_12
theorem m8 : mFun Tryz.prog Tryz.f8 a8 = true := by decide +kernel
def c63_0 : ACode := .ops [⟨some 3, .box (.t 0) 17, none, []⟩,⟨some 4, .box (.t 1) 4, none, []⟩,⟨some 6, .alloc [.int .i64 0, .int .i64 0, .int .i64 0, .int .i64 0], none, []⟩] [2, 3, 4, 6]
theorem r63_0 : type_of% (rr c63_0.eq_1) := rr rfl
def c63_1 : ACode := .ops [⟨some 7, .load 17 true (.t 3), none, [3]⟩,⟨some 8, .call 24 [.t 7], none, []⟩] [2, 3, 4, 6, 8]
theorem r63_1 : type_of% (rr c63_1.eq_1) := rr rfl
def c63_2 : ACode := .ops [⟨some 9, .fad (.t 3) 14, none, [3]⟩,⟨some 10, .load 1 false (.t 9), none, [3]⟩,⟨some 11, .mv (.t 2), none, []⟩,⟨some 12, .iad (.t 4) (.t 10) 1 4, none, [4]⟩,⟨none, .store (.t 12) 1 (.t 11), none, [4]⟩] [4, 6]
theorem r63_2 : type_of% (rr c63_2.eq_1) := rr rfl
def c63_3 : ACode := .cond (.t 8) c63_2 .skip
theorem r63_3 : type_of% (rr c63_3.eq_1) := rr rfl
def c63_4 : ACode := .seq c63_1 c63_3
theorem r63_4 : type_of% (rr c63_4.eq_1) := rr rfl
def c63_5 : ACode := .ops [⟨some 13, .load 4 true (.t 4), none, [4]⟩,⟨none, .store (.t 6) 4 (.t 13), none, [6]⟩] [6]
theorem r63_5 : type_of% (rr c63_5.eq_1) := rr rfl
def c63_6 : ACode := .seq c63_5 .ret
theorem r63_6 : type_of% (rr c63_6.eq_1) := rr rfl
def c63_7 : ACode := .seq c63_4 c63_6
theorem r63_7 : type_of% (rr c63_7.eq_1) := rr rfl
def c63_8 : ACode := .seq c63_0 c63_7
theorem r63_8 : type_of% (rr c63_8.eq_1) := rr rfl
def a63 : AFun := ⟨3, 14, c63_8, [.cell 6 4 true]⟩
attribute [simp] r63_0 r63_1 r63_2 r63_3 r63_4 r63_5 r63_6 r63_7 r63_8
theorem m63 : mFun Tryz.prog Tryz.f63 a63 = true := by decide +kernel
def c62_0 : ACode := .ops [⟨some 2, .box (.t 0) 2, none, []⟩,⟨some 4, .mv (.c (.bool false)), none, []⟩] [1, 2]
theorem r62_0 : type_of% (rr c62_0.eq_1) := rr rfl
def c62_1 : ACode := .ops [⟨some 5, .fad (.t 2) 0, none, [2]⟩,⟨some 6, .load 1 false (.t 5), none, [2]⟩,⟨some 7, .mv (.t 1), none, []⟩,⟨some 8, .bin .leq (.t 6) (.t 7), none, []⟩,⟨some 9, .mv (.t 8), none, []⟩,⟨some 10, .mv (.t 1), some (9, true), []⟩,⟨some 11, .fad (.t 2) 1, some (9, true), [2]⟩,⟨some 12, .load 1 false (.t 11), some (9, true), [2]⟩,⟨some 13, .bin .leq (.t 10) (.t 12), some (9, true), []⟩,⟨some 14, .pick (.t 9) (.t 13) (.c (.bool false)), none, []⟩,⟨some 4, .mv (.t 14), none, []⟩] [4]
theorem r62_1 : type_of% (rr c62_1.eq_1) := rr rfl
def c62_2 : ACode := .seq c62_1 .ret
theorem r62_2 : type_of% (rr c62_2.eq_1) := rr rfl
def c62_3 : ACode := .seq c62_0 c62_2
theorem r62_3 : type_of% (rr c62_3.eq_1) := rr rfl
def a62 : AFun := ⟨2, 15, c62_3, [.t 4]⟩
attribute [simp] r62_0 r62_1 r62_2 r62_3
theorem m62 : mFun Tryz.prog Tryz.f62 a62 = true := by decide +kernel
noncomputable def RegOk (b : Box) (dim : Int) : Option Bool := Part (1 ≤ dim ∧ dim ≤ 4) (okRegion b dim)
theorem runs_region1 (b : Box) (dim : Int) (hd : dim = 1) : Runs (tbl [(54, sp1 fun (s : Span) => some s.empty), (71, sp2 Fits)]) a52 [Arg.enc b, Arg.enc dim] (Arg.enc (okRegion b dim)) := by
  refine ⟨rfl, fun g => run_def ?_⟩
  unfold a52
  have fz : fits 0 = true := rfl
  obtain ⟨⟨l0, h0⟩, ⟨l1, h1⟩, ⟨l2, h2⟩, ⟨l3, h3⟩, ⟨l4, h4⟩⟩ := b
  by_cases e0 : h0 < l0
  case pos => simp -implicitDefEqProofs [hd, run_round, Fits, fz, okRegion, okSpan, Span.empty, e0]
  cases f0 : fits l0
  case false => simp -implicitDefEqProofs [hd, run_round, Fits, fz, okRegion, okSpan, Span.empty, e0, f0]
  cases g0 : fits h0
  case false => simp -implicitDefEqProofs [hd, run_round, Fits, fz, okRegion, okSpan, Span.empty, e0, f0, g0]
  by_cases e1 : l1 = 0
  case neg => simp -implicitDefEqProofs [hd, run_round, Fits, fz, okRegion, okSpan, Span.empty, e0, f0, g0, e1]
  by_cases f1 : h1 = 0
  case neg => simp -implicitDefEqProofs [hd, run_round, Fits, fz, okRegion, okSpan, Span.empty, e0, f0, g0, e1, f1]
  by_cases e2 : l2 = 0
  case neg => simp -implicitDefEqProofs [hd, run_round, Fits, fz, okRegion, okSpan, Span.empty, e0, f0, g0, e1, f1, e2]
  by_cases f2 : h2 = 0
  case neg => simp -implicitDefEqProofs [hd, run_round, Fits, fz, okRegion, okSpan, Span.empty, e0, f0, g0, e1, f1, e2, f2]
  by_cases e3 : l3 = 0
  case neg => simp -implicitDefEqProofs [hd, run_round, Fits, fz, okRegion, okSpan, Span.empty, e0, f0, g0, e1, f1, e2, f2, e3]
  by_cases f3 : h3 = 0
  case neg => simp -implicitDefEqProofs [hd, run_round, Fits, fz, okRegion, okSpan, Span.empty, e0, f0, g0, e1, f1, e2, f2, e3, f3]
  by_cases e4 : l4 = 0
  case neg => simp -implicitDefEqProofs [hd, run_round, Fits, fz, okRegion, okSpan, Span.empty, e0, f0, g0, e1, f1, e2, f2, e3, f3, e4]
  by_cases f4 : h4 = 0
  case neg => simp -implicitDefEqProofs [hd, run_round, Fits, fz, okRegion, okSpan, Span.empty, e0, f0, g0, e1, f1, e2, f2, e3, f3, e4, f4]
  simp -implicitDefEqProofs [hd, run_round, Fits, fz, okRegion, okSpan, Span.empty, e0, f0, g0, e1, f1, e2, f2, e3, f3, e4, f4]
theorem runs_region2 (b : Box) (dim : Int) (hd : dim = 2) : Runs (tbl [(54, sp1 fun (s : Span) => some s.empty), (71, sp2 Fits)]) a52 [Arg.enc b, Arg.enc dim] (Arg.enc (okRegion b dim)) := by
  refine ⟨rfl, fun g => run_def ?_⟩
  unfold a52
  have fz : fits 0 = true := rfl
  obtain ⟨⟨l0, h0⟩, ⟨l1, h1⟩, ⟨l2, h2⟩, ⟨l3, h3⟩, ⟨l4, h4⟩⟩ := b
  by_cases e0 : h0 < l0
  case pos => simp -implicitDefEqProofs [hd, run_round, Fits, fz, okRegion, okSpan, Span.empty, e0]
  cases f0 : fits l0
  case false => simp -implicitDefEqProofs [hd, run_round, Fits, fz, okRegion, okSpan, Span.empty, e0, f0]
  cases g0 : fits h0
  case false => simp -implicitDefEqProofs [hd, run_round, Fits, fz, okRegion, okSpan, Span.empty, e0, f0, g0]
  by_cases e1 : h1 < l1
  case pos => simp -implicitDefEqProofs [hd, run_round, Fits, fz, okRegion, okSpan, Span.empty, e0, f0, g0, e1]
  cases f1 : fits l1
  case false => simp -implicitDefEqProofs [hd, run_round, Fits, fz, okRegion, okSpan, Span.empty, e0, f0, g0, e1, f1]
  cases g1 : fits h1
  case false => simp -implicitDefEqProofs [hd, run_round, Fits, fz, okRegion, okSpan, Span.empty, e0, f0, g0, e1, f1, g1]
  by_cases e2 : l2 = 0
  case neg => simp -implicitDefEqProofs [hd, run_round, Fits, fz, okRegion, okSpan, Span.empty, e0, f0, g0, e1, f1, g1, e2]
  by_cases f2 : h2 = 0
  case neg => simp -implicitDefEqProofs [hd, run_round, Fits, fz, okRegion, okSpan, Span.empty, e0, f0, g0, e1, f1, g1, e2, f2]
  by_cases e3 : l3 = 0
  case neg => simp -implicitDefEqProofs [hd, run_round, Fits, fz, okRegion, okSpan, Span.empty, e0, f0, g0, e1, f1, g1, e2, f2, e3]
  by_cases f3 : h3 = 0
  case neg => simp -implicitDefEqProofs [hd, run_round, Fits, fz, okRegion, okSpan, Span.empty, e0, f0, g0, e1, f1, g1, e2, f2, e3, f3]
  by_cases e4 : l4 = 0
  case neg => simp -implicitDefEqProofs [hd, run_round, Fits, fz, okRegion, okSpan, Span.empty, e0, f0, g0, e1, f1, g1, e2, f2, e3, f3, e4]
  by_cases f4 : h4 = 0
  case neg => simp -implicitDefEqProofs [hd, run_round, Fits, fz, okRegion, okSpan, Span.empty, e0, f0, g0, e1, f1, g1, e2, f2, e3, f3, e4, f4]
  simp -implicitDefEqProofs [hd, run_round, Fits, fz, okRegion, okSpan, Span.empty, e0, f0, g0, e1, f1, g1, e2, f2, e3, f3, e4, f4]
theorem runs_region3 (b : Box) (dim : Int) (hd : dim = 3) : Runs (tbl [(54, sp1 fun (s : Span) => some s.empty), (71, sp2 Fits)]) a52 [Arg.enc b, Arg.enc dim] (Arg.enc (okRegion b dim)) := by
  refine ⟨rfl, fun g => run_def ?_⟩
  unfold a52
  have fz : fits 0 = true := rfl
  obtain ⟨⟨l0, h0⟩, ⟨l1, h1⟩, ⟨l2, h2⟩, ⟨l3, h3⟩, ⟨l4, h4⟩⟩ := b
  by_cases e0 : h0 < l0
  case pos => simp -implicitDefEqProofs [hd, run_round, Fits, fz, okRegion, okSpan, Span.empty, e0]
  cases f0 : fits l0
  case false => simp -implicitDefEqProofs [hd, run_round, Fits, fz, okRegion, okSpan, Span.empty, e0, f0]
  cases g0 : fits h0
  case false => simp -implicitDefEqProofs [hd, run_round, Fits, fz, okRegion, okSpan, Span.empty, e0, f0, g0]
  by_cases e1 : h1 < l1
  case pos => simp -implicitDefEqProofs [hd, run_round, Fits, fz, okRegion, okSpan, Span.empty, e0, f0, g0, e1]
  cases f1 : fits l1
  case false => simp -implicitDefEqProofs [hd, run_round, Fits, fz, okRegion, okSpan, Span.empty, e0, f0, g0, e1, f1]
  cases g1 : fits h1
  case false => simp -implicitDefEqProofs [hd, run_round, Fits, fz, okRegion, okSpan, Span.empty, e0, f0, g0, e1, f1, g1]
  by_cases e2 : h2 < l2
  case pos => simp -implicitDefEqProofs [hd, run_round, Fits, fz, okRegion, okSpan, Span.empty, e0, f0, g0, e1, f1, g1, e2]
  cases f2 : fits l2
  case false => simp -implicitDefEqProofs [hd, run_round, Fits, fz, okRegion, okSpan, Span.empty, e0, f0, g0, e1, f1, g1, e2, f2]
  cases g2 : fits h2
  case false => simp -implicitDefEqProofs [hd, run_round, Fits, fz, okRegion, okSpan, Span.empty, e0, f0, g0, e1, f1, g1, e2, f2, g2]
  by_cases e3 : l3 = 0
  case neg => simp -implicitDefEqProofs [hd, run_round, Fits, fz, okRegion, okSpan, Span.empty, e0, f0, g0, e1, f1, g1, e2, f2, g2, e3]
  by_cases f3 : h3 = 0
  case neg => simp -implicitDefEqProofs [hd, run_round, Fits, fz, okRegion, okSpan, Span.empty, e0, f0, g0, e1, f1, g1, e2, f2, g2, e3, f3]
  by_cases e4 : l4 = 0
  case neg => simp -implicitDefEqProofs [hd, run_round, Fits, fz, okRegion, okSpan, Span.empty, e0, f0, g0, e1, f1, g1, e2, f2, g2, e3, f3, e4]
  by_cases f4 : h4 = 0
  case neg => simp -implicitDefEqProofs [hd, run_round, Fits, fz, okRegion, okSpan, Span.empty, e0, f0, g0, e1, f1, g1, e2, f2, g2, e3, f3, e4, f4]
  simp -implicitDefEqProofs [hd, run_round, Fits, fz, okRegion, okSpan, Span.empty, e0, f0, g0, e1, f1, g1, e2, f2, g2, e3, f3, e4, f4]
theorem runs_region4 (b : Box) (dim : Int) (hd : dim = 4) : Runs (tbl [(54, sp1 fun (s : Span) => some s.empty), (71, sp2 Fits)]) a52 [Arg.enc b, Arg.enc dim] (Arg.enc (okRegion b dim)) := by
  refine ⟨rfl, fun g => run_def ?_⟩
  unfold a52
  have fz : fits 0 = true := rfl
  obtain ⟨⟨l0, h0⟩, ⟨l1, h1⟩, ⟨l2, h2⟩, ⟨l3, h3⟩, ⟨l4, h4⟩⟩ := b
  by_cases e0 : h0 < l0
  case pos => simp -implicitDefEqProofs [hd, run_round, Fits, fz, okRegion, okSpan, Span.empty, e0]
  cases f0 : fits l0
  case false => simp -implicitDefEqProofs [hd, run_round, Fits, fz, okRegion, okSpan, Span.empty, e0, f0]
  cases g0 : fits h0
  case false => simp -implicitDefEqProofs [hd, run_round, Fits, fz, okRegion, okSpan, Span.empty, e0, f0, g0]
  by_cases e1 : h1 < l1
  case pos => simp -implicitDefEqProofs [hd, run_round, Fits, fz, okRegion, okSpan, Span.empty, e0, f0, g0, e1]
  cases f1 : fits l1
  case false => simp -implicitDefEqProofs [hd, run_round, Fits, fz, okRegion, okSpan, Span.empty, e0, f0, g0, e1, f1]
  cases g1 : fits h1
  case false => simp -implicitDefEqProofs [hd, run_round, Fits, fz, okRegion, okSpan, Span.empty, e0, f0, g0, e1, f1, g1]
  by_cases e2 : h2 < l2
  case pos => simp -implicitDefEqProofs [hd, run_round, Fits, fz, okRegion, okSpan, Span.empty, e0, f0, g0, e1, f1, g1, e2]
  cases f2 : fits l2
  case false => simp -implicitDefEqProofs [hd, run_round, Fits, fz, okRegion, okSpan, Span.empty, e0, f0, g0, e1, f1, g1, e2, f2]
  cases g2 : fits h2
  case false => simp -implicitDefEqProofs [hd, run_round, Fits, fz, okRegion, okSpan, Span.empty, e0, f0, g0, e1, f1, g1, e2, f2, g2]
  by_cases e3 : h3 < l3
  case pos => simp -implicitDefEqProofs [hd, run_round, Fits, fz, okRegion, okSpan, Span.empty, e0, f0, g0, e1, f1, g1, e2, f2, g2, e3]
  cases f3 : fits l3
  case false => simp -implicitDefEqProofs [hd, run_round, Fits, fz, okRegion, okSpan, Span.empty, e0, f0, g0, e1, f1, g1, e2, f2, g2, e3, f3]
  cases g3 : fits h3
  case false => simp -implicitDefEqProofs [hd, run_round, Fits, fz, okRegion, okSpan, Span.empty, e0, f0, g0, e1, f1, g1, e2, f2, g2, e3, f3, g3]
  by_cases e4 : l4 = 0
  case neg => simp -implicitDefEqProofs [hd, run_round, Fits, fz, okRegion, okSpan, Span.empty, e0, f0, g0, e1, f1, g1, e2, f2, g2, e3, f3, g3, e4]
  by_cases f4 : h4 = 0
  case neg => simp -implicitDefEqProofs [hd, run_round, Fits, fz, okRegion, okSpan, Span.empty, e0, f0, g0, e1, f1, g1, e2, f2, g2, e3, f3, g3, e4, f4]
  simp -implicitDefEqProofs [hd, run_round, Fits, fz, okRegion, okSpan, Span.empty, e0, f0, g0, e1, f1, g1, e2, f2, g2, e3, f3, g3, e4, f4]
theorem runs_region (b : Box) (dim : Int) (c : Bool) (h : RegOk b dim = some c) : Runs (tbl [(54, sp1 fun (s : Span) => some s.empty), (71, sp2 Fits)]) a52 [Arg.enc b, Arg.enc dim] (Arg.enc c) := by
  obtain ⟨hd, rfl⟩ := part_some h
  have hd : dim = 1 ∨ dim = 2 ∨ dim = 3 ∨ dim = 4 := by omega
  rcases hd with hd | hd | hd | hd
  · exact runs_region1 b dim hd
  · exact runs_region2 b dim hd
  · exact runs_region3 b dim hd
  · exact runs_region4 b dim hd
theorem c_region : Contract Tryz.prog 52 (sp2 RegOk) :=
  contract_of_runs mixed (tbl_cons c_sEmpty (tbl_cons c_Fits tbl_nil)) Tryz.func52 m52 (sp2_runs runs_region)
theorem runs_kind (m : Model) (q : Query) (c : Bool) (h : some (okKind m q) = some c) : Runs (tbl []) a53 [Arg.enc m, Arg.enc q] (Arg.enc c) := by
  cases h
  refine ⟨rfl, fun g => run_def ?_⟩
  unfold a53
  by_cases k1 : q.kind = 1
  case pos =>
    by_cases a0 : q.lo ≤ q.hi
    case neg => simp -implicitDefEqProofs [okKind, k1, a0]
    by_cases a1 : q.feature = 0
    case neg => simp -implicitDefEqProofs [okKind, k1, a0, a1]
    cases q.falls <;> simp -implicitDefEqProofs [okKind, k1, a0, a1]
  by_cases k2 : q.kind = 2
  case pos =>
    by_cases a0 : 2 ≤ m.classes
    case neg => simp -implicitDefEqProofs [okKind, k1, k2, a0]
    by_cases a1 : q.lo = 0
    case neg => simp -implicitDefEqProofs [okKind, k1, k2, a0, a1]
    by_cases a2 : q.hi = 0
    case neg => simp -implicitDefEqProofs [okKind, k1, k2, a0, a1, a2]
    by_cases a3 : q.feature = 0
    case neg => simp -implicitDefEqProofs [okKind, k1, k2, a0, a1, a2, a3]
    cases q.falls <;> simp -implicitDefEqProofs [okKind, k1, k2, a0, a1, a2, a3]
  by_cases k3 : q.kind = 3
  case pos =>
    by_cases a0 : 0 ≤ q.feature
    case neg => simp -implicitDefEqProofs [okKind, k1, k2, k3, a0]
    by_cases a1 : q.feature < m.dim
    case neg => simp -implicitDefEqProofs [okKind, k1, k2, k3, a0, a1]
    by_cases a2 : q.lo = 0
    case neg => simp -implicitDefEqProofs [okKind, k1, k2, k3, a0, a1, a2]
    simp -implicitDefEqProofs [okKind, k1, k2, k3, a0, a1, a2]
  simp -implicitDefEqProofs [okKind, k1, k2, k3]
theorem c_kind : Contract Tryz.prog 53 (sp2 fun m q => some (okKind m q)) :=
  contract_of_runs mixed tbl_nil Tryz.func53 m53 (sp2_runs runs_kind)
noncomputable def QRight (m : Model) (q : Query) : Option Bool := if m.dim < 1 then some false else Part (RM m) (okQuery m q)
theorem runs_qRight (m : Model) (q : Query) (c : Bool) (h : QRight m q = some c) : Runs (tbl [(43, sp1 MRight), (52, sp2 RegOk), (53, sp2 fun m q => some (okKind m q))]) a25 [Arg.enc m, Arg.enc q] (Arg.enc c) := by
  unfold QRight at h
  split at h
  · rename_i hd
    cases h
    refine ⟨rfl, fun g => run_def ?_⟩
    unfold a25
    have hM : MRight m = some false := by unfold MRight; rw [if_pos hd]
    simp -implicitDefEqProofs [hM]
  · rename_i hd
    obtain ⟨hr, rfl⟩ := part_some h
    refine ⟨rfl, fun g => run_def ?_⟩
    unfold a25
    have hM : MRight m = some true := by unfold MRight; rw [if_neg hd]; exact part_of hr _
    have hR : RegOk q.region m.dim = some (okRegion q.region m.dim) := part_of hr.dim _
    by_cases a0 : 0 ≤ q.cls
    case neg => simp -implicitDefEqProofs [okQuery, hM, hR, a0]
    by_cases a1 : q.cls < m.classes
    case neg => simp -implicitDefEqProofs [okQuery, hM, hR, a0, a1]
    by_cases a2 : 0 ≤ q.budget
    case neg => simp -implicitDefEqProofs [okQuery, hM, hR, a0, a1, a2]
    by_cases a3 : q.budget ≤ 65536
    case neg => simp -implicitDefEqProofs [okQuery, hM, hR, a0, a1, a2, a3]
    cases a4 : okRegion q.region m.dim
    case false => simp -implicitDefEqProofs [okQuery, hM, hR, a0, a1, a2, a3, a4]
    simp -implicitDefEqProofs [okQuery, hM, hR, a0, a1, a2, a3, a4]
theorem c_qRight : Contract Tryz.prog 25 (sp2 QRight) :=
  contract_of_runs mixed (tbl_cons c_mRight (tbl_cons c_region (tbl_cons c_kind tbl_nil))) Tryz.func25 m25 (sp2_runs runs_qRight)
theorem runs_paired (q : Query) (c : Bool) (h : some (paired q) = some c) : Runs (tbl []) a24 [Arg.enc q] (Arg.enc c) := by
  cases h
  refine ⟨rfl, fun g => run_def ?_⟩
  unfold a24
  by_cases k1 : q.kind = 3
  case neg => simp -implicitDefEqProofs [paired, k1]
  by_cases k2 : 0 ≤ q.feature
  case neg => simp -implicitDefEqProofs [paired, k1, k2]
  simp -implicitDefEqProofs [paired, k1, k2]
theorem c_paired : Contract Tryz.prog 24 (sp1 fun q => some (paired q)) :=
  contract_of_runs mixed tbl_nil Tryz.func24 m24 (sp1_runs runs_paired)
theorem paired_feature {q : Query} (h : paired q = true) : q.feature = 0 ∨ q.feature = 1 ∨ q.feature = 2 ∨ q.feature = 3 := by
  unfold paired at h
  simp only [Bool.and_eq_true, decide_eq_true_eq] at h
  omega
theorem runs_Start (q : Query) (c : Box) (h : some (startOf q) = some c) : Runs (tbl [(24, sp1 fun q => some (paired q))]) a8 [Arg.enc q] (Arg.enc c) := by
  cases h
  refine ⟨rfl, fun g => run_def ?_⟩
  unfold a8
  cases hp : paired q
  · simp -implicitDefEqProofs [startOf, hp]
  · have hf := paired_feature hp
    obtain ⟨kind, cls, region, lo, hi, feature, falls, budget⟩ := q
    simp only at hf
    rcases hf with rfl | rfl | rfl | rfl <;> simp -implicitDefEqProofs [startOf, hp, Box.get]
theorem c_Start : Contract Tryz.prog 8 (sp1 fun q => some (startOf q)) :=
  contract_of_runs mixed (tbl_cons c_paired tbl_nil) Tryz.func8 m8 (sp1_runs runs_Start)
theorem runs_Second (q : Query) (p : Point) (t : Int) (c : Point) (h : some (secondOf q p t) = some c) : Runs (tbl [(24, sp1 fun q => some (paired q))]) a63 [Arg.enc q, Arg.enc p, Arg.enc t] (Arg.enc c) := by
  cases h
  refine ⟨rfl, fun g => run_def ?_⟩
  unfold a63
  cases hp : paired q
  · simp -implicitDefEqProofs [secondOf, hp]
  · have hf := paired_feature hp
    obtain ⟨kind, cls, region, lo, hi, feature, falls, budget⟩ := q
    simp only at hf
    rcases hf with rfl | rfl | rfl | rfl <;> simp -implicitDefEqProofs [secondOf, hp, Point.set]
theorem c_Second : Contract Tryz.prog 63 (sp3 fun q p t => some (secondOf q p t)) :=
  contract_of_runs mixed (tbl_cons c_paired tbl_nil) Tryz.func63 m63 (sp3_runs runs_Second)
theorem runs_sHas (s : Span) (n : Int) (c : Bool) (h : some (s.has n) = some c) : Runs (tbl []) a62 [Arg.enc s, Arg.enc n] (Arg.enc c) := by
  cases h
  refine ⟨rfl, fun g => run_def ?_⟩
  unfold a62
  by_cases h1 : s.lo ≤ n <;> simp -implicitDefEqProofs [Span.has, h1]
theorem c_sHas : Contract Tryz.prog 62 (sp2 fun (s : Span) n => some (s.has n)) :=
  contract_of_runs mixed tbl_nil Tryz.func62 m62 (sp2_runs runs_sHas)
end Go.Co
/- CO: boxes of a query, cuts of boxes and their counts. -/
namespace Go.Co
open Go.Am Go.Proofs
def smallB (b : Box) : Prop := small b.s0 ∧ small b.s1 ∧ small b.s2 ∧ small b.s3 ∧ small b.s4
theorem get_spans {b : Box} (h : b.empty = false) (i : Int) : (b.get i).lo ≤ (b.get i).hi := by
  have := empty_spec h
  unfold Span.empty at this
  simp only [decide_eq_false_iff_not] at this
  unfold Box.get
  split
  · omega
  · split
    · omega
    · split
      · omega
      · split <;> omega
theorem get_small {b : Box} (h : smallB b) (i : Int) : small (b.get i) := by
  obtain ⟨h0, h1, h2, h3, h4⟩ := h
  unfold Box.get
  split
  · exact h0
  · split
    · exact h1
    · split
      · exact h2
      · split
        · exact h3
        · exact h4
theorem set_empty {b : Box} (h : b.empty = false) (i : Int) (s : Span) (h0 : 0 ≤ i) (h5 : i < 5) : (b.set i s).empty = s.empty := by
  obtain ⟨e0, e1, e2, e3, e4⟩ := empty_spec h
  have : i = 0 ∨ i = 1 ∨ i = 2 ∨ i = 3 ∨ i = 4 := by omega
  rcases this with rfl | rfl | rfl | rfl | rfl <;> simp [Box.set, Box.empty, e0, e1, e2, e3, e4]
end Go.Co
/- CO: the cells of a box, by places; points of one cell come to the same. -/
namespace Go.Co
open Go.Am Go.Proofs
theorem cuts_ok {m : Model} (hm : RM m) {q : Query} {b : Box} {i : Int} : ∀ t ∈ cutsL m q b i, ok64 t := by
  intro t ht
  unfold cutsL at ht
  split at ht
  · simp at ht
  · rw [List.mem_filter] at ht
    obtain ⟨ht, _⟩ := ht
    obtain ⟨tr, htr, w, hw, hl, _, rfl⟩ := mem_thr.1 ht
    have hr := hm.rt htr
    obtain ⟨j, hj, rfl⟩ := List.mem_iff_getElem.1 hw
    have := ok64_fits (hr.cutOk hj)
    rwa [ndAt_lt hj] at this
theorem set_get_ite (b : Box) {k i : Int} (s : Span) (h0 : 0 ≤ k) (h5 : k < 5) (i0 : 0 ≤ i) (i5 : i < 5) : (b.set k s).get i = if i = k then s else b.get i := by
  have h1 : k = 0 ∨ k = 1 ∨ k = 2 ∨ k = 3 ∨ k = 4 := by omega
  have h2 : i = 0 ∨ i = 1 ∨ i = 2 ∨ i = 3 ∨ i = 4 := by omega
  rcases h1 with rfl | rfl | rfl | rfl | rfl <;> rcases h2 with rfl | rfl | rfl | rfl | rfl <;> rfl
def ptG (p : Point) (t : Int) (i : Int) : Int := if i < 4 then p.get i else t
theorem inB_pt {b : Box} {p : Point} {t : Int} : InB b p t ↔ ∀ i : Int, 0 ≤ i → i < 5 → InS (b.get i) (ptG p t i) := by
  constructor
  · rintro ⟨h0, h1, h2, h3, h4⟩ i i0 i5
    have h1 : i = 0 ∨ i = 1 ∨ i = 2 ∨ i = 3 ∨ i = 4 := by omega
    rcases h1 with rfl | rfl | rfl | rfl | rfl <;> assumption
  · intro h
    exact ⟨h 0 (by omega) (by omega), h 1 (by omega) (by omega), h 2 (by omega) (by omega), h 3 (by omega) (by omega), h 4 (by omega) (by omega)⟩
theorem empty_get {b : Box} : b.empty = false ↔ ∀ i : Int, 0 ≤ i → i < 5 → (b.get i).lo ≤ (b.get i).hi := by
  constructor
  · intro h i _ _; exact get_spans h i
  · intro h
    have h0 := h 0 (by omega) (by omega)
    have h1 := h 1 (by omega) (by omega)
    have h2 := h 2 (by omega) (by omega)
    have h3 := h 3 (by omega) (by omega)
    have h4 := h 4 (by omega) (by omega)
    unfold Box.empty Span.empty
    simp only [Bool.or_eq_false_iff, decide_eq_false_iff_not]
    simp only [Box.get, Int.reduceEq, if_true, if_false] at h0 h1 h2 h3 h4
    omega
theorem cuts_in {m : Model} {q : Query} {b : Box} {k : Int} : ∀ t ∈ cutsL m q b k, (b.get k).lo ≤ t ∧ t < (b.get k).hi := by
  intro t ht
  unfold cutsL at ht
  split at ht
  · simp at ht
  · rw [List.mem_filter] at ht
    have := ht.2
    simp only [outS, Bool.not_eq_true', Bool.or_eq_false_iff, decide_eq_false_iff_not] at this
    omega
structure PartTo (m : Model) (q : Query) (b : Box) (j : Nat) (x : Box) : Prop where
  done : ∀ i : Int, 0 ≤ i → i < j → (x.get i).lo ≤ (x.get i).hi ∧ (b.get i).lo ≤ (x.get i).lo ∧ (x.get i).hi ≤ (b.get i).hi ∧ ∀ t ∈ cutsL m q b i, t < (x.get i).lo ∨ (x.get i).hi ≤ t
  rest : ∀ i : Int, (j : Int) ≤ i → i < 5 → x.get i = b.get i
def lowB (b : Box) : Point := ⟨b.s0.lo, b.s1.lo, b.s2.lo, b.s3.lo⟩
theorem low_in {x : Box} (h : x.empty = false) : InB x (lowB x) x.s4.hi := by
  have := empty_spec h
  unfold Span.empty at this
  simp only [decide_eq_false_iff_not] at this
  unfold InB InS lowB
  simp only
  omega
end Go.Co
/- CO: what breaks a query. -/
set_option maxHeartbeats 16000000
set_option maxRecDepth 100000
namespace Go.Co
open Go.Am Go.Proofs
def c36_0 : ACode := .ops [⟨some 4, .box (.t 0) 6, none, []⟩,⟨some 5, .box (.t 1) 17, none, []⟩,⟨some 6, .box (.t 2) 4, none, []⟩,⟨some 8, .mv (.c (.bool false)), none, []⟩] [3, 4, 5, 6]
theorem r36_0 : type_of% (rr c36_0.eq_1) := rr rfl
def c36_1 : ACode := .ops [⟨some 12, .load 6 true (.t 4), none, [4]⟩,⟨some 13, .load 17 true (.t 5), none, [5]⟩,⟨some 14, .call 25 [.t 12, .t 13], none, []⟩,⟨some 15, .un .not (.t 14), none, []⟩] [3, 4, 5, 6, 15]
theorem r36_1 : type_of% (rr c36_1.eq_1) := rr rfl
def c36_2 : ACode := .ops [⟨some 8, .mv (.c (.bool false)), none, []⟩] [8]
theorem r36_2 : type_of% (rr c36_2.eq_1) := rr rfl
def c36_3 : ACode := .seq c36_2 .ret
theorem r36_3 : type_of% (rr c36_3.eq_1) := rr rfl
def c36_4 : ACode := .cond (.t 15) c36_3 .skip
theorem r36_4 : type_of% (rr c36_4.eq_1) := rr rfl
def c36_5 : ACode := .seq c36_1 c36_4
theorem r36_5 : type_of% (rr c36_5.eq_1) := rr rfl
def c36_6 : ACode := .ops [⟨some 16, .load 6 true (.t 4), none, [4]⟩,⟨some 17, .fad (.t 5) 1, none, [5]⟩,⟨some 18, .load 1 false (.t 17), none, [5]⟩,⟨some 19, .load 4 true (.t 6), none, [6]⟩,⟨some 20, .call 46 [.t 16, .t 18, .t 19], none, []⟩,⟨some 9, .mv (.t 20), none, []⟩] [3, 4, 5, 6, 9]
theorem r36_6 : type_of% (rr c36_6.eq_1) := rr rfl
def c36_7 : ACode := .ops [⟨some 21, .fad (.t 5) 0, none, [5]⟩,⟨some 22, .load 1 false (.t 21), none, [5]⟩] [3, 4, 5, 6, 9, 22]
theorem r36_7 : type_of% (rr c36_7.eq_1) := rr rfl
def c36_8 : ACode := .ops [⟨some 24, .bin .eql (.t 22) (.c (.int .i64 1)), none, []⟩,⟨some 23, .mv (.t 24), none, []⟩] [3, 4, 5, 6, 9, 22, 23]
theorem r36_8 : type_of% (rr c36_8.eq_1) := rr rfl
def c36_9 : ACode := .ops [⟨some 25, .fad (.t 5) 12, none, [5]⟩,⟨some 26, .load 1 false (.t 25), none, [5]⟩,⟨some 27, .fad (.t 5) 13, none, [5]⟩,⟨some 28, .load 1 false (.t 27), none, [5]⟩,⟨some 29, .build [.int .i64 0, .int .i64 0] [(0, 1, .t 26), (1, 1, .t 28)], none, []⟩,⟨some 30, .mv (.t 9), none, []⟩,⟨some 31, .call 62 [.t 29, .t 30], none, []⟩,⟨some 32, .un .not (.t 31), none, []⟩,⟨some 8, .mv (.t 32), none, []⟩] [8]
theorem r36_9 : type_of% (rr c36_9.eq_1) := rr rfl
def c36_10 : ACode := .seq c36_9 .ret
theorem r36_10 : type_of% (rr c36_10.eq_1) := rr rfl
def c36_11 : ACode := .ops [⟨some 34, .bin .eql (.t 22) (.c (.int .i64 2)), none, []⟩,⟨some 33, .mv (.t 34), none, []⟩] [3, 4, 5, 6, 9, 33]
theorem r36_11 : type_of% (rr c36_11.eq_1) := rr rfl
def c36_12 : ACode := .ops [⟨some 35, .fad (.t 4) 1, none, [4]⟩,⟨some 36, .load 1 false (.t 35), none, [4]⟩,⟨some 37, .mv (.c (.int .i64 0)), none, []⟩] [4, 5, 6, 9, 36, 37]
theorem r36_12 : type_of% (rr c36_12.eq_1) := rr rfl
def c36_13 : ACode := .ops [⟨some 38, .bin .lss (.t 37) (.t 36), none, []⟩] [4, 5, 6, 9, 36, 37, 38]
theorem r36_13 : type_of% (rr c36_13.eq_1) := rr rfl
def c36_14 : ACode := .cond (.t 38) .skip (.exit 1)
theorem r36_14 : type_of% (rr c36_14.eq_1) := rr rfl
def c36_15 : ACode := .ops [⟨some 39, .mv (.t 37), none, []⟩,⟨some 10, .mv (.t 39), none, []⟩] [4, 5, 6, 9, 10, 36, 37]
theorem r36_15 : type_of% (rr c36_15.eq_1) := rr rfl
def c36_16 : ACode := .ops [⟨some 40, .mv (.t 10), none, []⟩,⟨some 41, .fad (.t 5) 1, none, [5]⟩,⟨some 42, .load 1 false (.t 41), none, [5]⟩,⟨some 43, .bin .neq (.t 40) (.t 42), none, []⟩,⟨some 44, .mv (.t 43), none, []⟩,⟨some 45, .load 6 true (.t 4), some (44, true), [4]⟩,⟨some 46, .mv (.t 10), some (44, true), []⟩,⟨some 47, .load 4 true (.t 6), some (44, true), [6]⟩,⟨some 48, .call 46 [.t 45, .t 46, .t 47], some (44, true), []⟩,⟨some 49, .mv (.t 9), some (44, true), []⟩,⟨some 50, .bin .geq (.t 48) (.t 49), some (44, true), []⟩,⟨some 51, .pick (.t 44) (.t 50) (.c (.bool false)), none, []⟩] [4, 5, 6, 9, 36, 37, 51]
theorem r36_16 : type_of% (rr c36_16.eq_1) := rr rfl
def c36_17 : ACode := .ops [⟨some 8, .mv (.c (.bool true)), none, []⟩] [8]
theorem r36_17 : type_of% (rr c36_17.eq_1) := rr rfl
def c36_18 : ACode := .seq c36_17 .ret
theorem r36_18 : type_of% (rr c36_18.eq_1) := rr rfl
def c36_19 : ACode := .cond (.t 51) c36_18 .skip
theorem r36_19 : type_of% (rr c36_19.eq_1) := rr rfl
def c36_20 : ACode := .seq c36_16 c36_19
theorem r36_20 : type_of% (rr c36_20.eq_1) := rr rfl
def c36_21 : ACode := .seq c36_15 c36_20
theorem r36_21 : type_of% (rr c36_21.eq_1) := rr rfl
def c36_22 : ACode := .block 2 c36_21
theorem r36_22 : type_of% (rr c36_22.eq_1) := rr rfl
def c36_23 : ACode := .ops [⟨some 52, .bin .add (.t 37) (.c (.int .i64 1)), none, []⟩,⟨some 37, .mv (.t 52), none, []⟩] [4, 5, 6, 9, 36, 37]
theorem r36_23 : type_of% (rr c36_23.eq_1) := rr rfl
def c36_24 : ACode := .seq c36_22 c36_23
theorem r36_24 : type_of% (rr c36_24.eq_1) := rr rfl
def c36_25 : ACode := .seq c36_14 c36_24
theorem r36_25 : type_of% (rr c36_25.eq_1) := rr rfl
def c36_26 : ACode := .seq c36_13 c36_25
theorem r36_26 : type_of% (rr c36_26.eq_1) := rr rfl
def c36_27 : ACode := .keep [4, 5, 6, 9, 36, 37] [4, 5, 6] c36_26
theorem r36_27 : type_of% (rr c36_27.eq_1) := rr rfl
def c36_28 : ACode := .loop c36_27
theorem r36_28 : type_of% (rr c36_28.eq_1) := rr rfl
def c36_29 : ACode := .block 1 c36_28
theorem r36_29 : type_of% (rr c36_29.eq_1) := rr rfl
def c36_30 : ACode := .seq c36_12 c36_29
theorem r36_30 : type_of% (rr c36_30.eq_1) := rr rfl
def c36_31 : ACode := .ops [⟨some 8, .mv (.c (.bool false)), none, []⟩] [8]
theorem r36_31 : type_of% (rr c36_31.eq_1) := rr rfl
def c36_32 : ACode := .seq c36_31 .ret
theorem r36_32 : type_of% (rr c36_32.eq_1) := rr rfl
def c36_33 : ACode := .seq c36_30 c36_32
theorem r36_33 : type_of% (rr c36_33.eq_1) := rr rfl
def c36_34 : ACode := .cond (.t 33) c36_33 .skip
theorem r36_34 : type_of% (rr c36_34.eq_1) := rr rfl
def c36_35 : ACode := .seq c36_11 c36_34
theorem r36_35 : type_of% (rr c36_35.eq_1) := rr rfl
def c36_36 : ACode := .cond (.t 23) c36_10 c36_35
theorem r36_36 : type_of% (rr c36_36.eq_1) := rr rfl
def c36_37 : ACode := .seq c36_8 c36_36
theorem r36_37 : type_of% (rr c36_37.eq_1) := rr rfl
def c36_38 : ACode := .block 0 c36_37
theorem r36_38 : type_of% (rr c36_38.eq_1) := rr rfl
def c36_39 : ACode := .seq c36_7 c36_38
theorem r36_39 : type_of% (rr c36_39.eq_1) := rr rfl
def c36_40 : ACode := .ops [⟨some 53, .fad (.t 5) 14, none, [5]⟩,⟨some 54, .load 1 false (.t 53), none, [5]⟩,⟨some 55, .iad (.t 6) (.t 54) 1 4, none, [6]⟩,⟨some 56, .load 1 false (.t 55), none, [6]⟩,⟨some 57, .mv (.t 3), none, []⟩,⟨some 58, .bin .geq (.t 56) (.t 57), none, []⟩] [3, 4, 5, 6, 9, 58]
theorem r36_40 : type_of% (rr c36_40.eq_1) := rr rfl
def c36_41 : ACode := .ops [⟨some 8, .mv (.c (.bool false)), none, []⟩] [8]
theorem r36_41 : type_of% (rr c36_41.eq_1) := rr rfl
def c36_42 : ACode := .seq c36_41 .ret
theorem r36_42 : type_of% (rr c36_42.eq_1) := rr rfl
def c36_43 : ACode := .cond (.t 58) c36_42 .skip
theorem r36_43 : type_of% (rr c36_43.eq_1) := rr rfl
def c36_44 : ACode := .seq c36_40 c36_43
theorem r36_44 : type_of% (rr c36_44.eq_1) := rr rfl
def c36_45 : ACode := .ops [⟨some 59, .load 6 true (.t 4), none, [4]⟩,⟨some 60, .fad (.t 5) 1, none, [5]⟩,⟨some 61, .load 1 false (.t 60), none, [5]⟩,⟨some 62, .load 17 true (.t 5), none, [5]⟩,⟨some 63, .load 4 true (.t 6), none, [6]⟩,⟨some 64, .mv (.t 3), none, []⟩,⟨some 65, .call 63 [.t 62, .t 63, .t 64], none, []⟩,⟨some 66, .call 46 [.t 59, .t 61, .t 65], none, []⟩,⟨some 11, .mv (.t 66), none, []⟩] [5, 9, 11]
theorem r36_45 : type_of% (rr c36_45.eq_1) := rr rfl
def c36_46 : ACode := .ops [⟨some 67, .fad (.t 5) 15, none, [5]⟩,⟨some 68, .load 1 false (.t 67), none, [5]⟩] [9, 11, 68]
theorem r36_46 : type_of% (rr c36_46.eq_1) := rr rfl
def c36_47 : ACode := .ops [⟨some 69, .mv (.t 11), none, []⟩,⟨some 70, .mv (.t 9), none, []⟩,⟨some 71, .bin .gtr (.t 69) (.t 70), none, []⟩,⟨some 8, .mv (.t 71), none, []⟩] [8]
theorem r36_47 : type_of% (rr c36_47.eq_1) := rr rfl
def c36_48 : ACode := .seq c36_47 .ret
theorem r36_48 : type_of% (rr c36_48.eq_1) := rr rfl
def c36_49 : ACode := .cond (.t 68) c36_48 .skip
theorem r36_49 : type_of% (rr c36_49.eq_1) := rr rfl
def c36_50 : ACode := .seq c36_46 c36_49
theorem r36_50 : type_of% (rr c36_50.eq_1) := rr rfl
def c36_51 : ACode := .ops [⟨some 72, .mv (.t 11), none, []⟩,⟨some 73, .mv (.t 9), none, []⟩,⟨some 74, .bin .lss (.t 72) (.t 73), none, []⟩,⟨some 8, .mv (.t 74), none, []⟩] [8]
theorem r36_51 : type_of% (rr c36_51.eq_1) := rr rfl
def c36_52 : ACode := .seq c36_51 .ret
theorem r36_52 : type_of% (rr c36_52.eq_1) := rr rfl
def c36_53 : ACode := .seq c36_50 c36_52
theorem r36_53 : type_of% (rr c36_53.eq_1) := rr rfl
def c36_54 : ACode := .seq c36_45 c36_53
theorem r36_54 : type_of% (rr c36_54.eq_1) := rr rfl
def c36_55 : ACode := .seq c36_44 c36_54
theorem r36_55 : type_of% (rr c36_55.eq_1) := rr rfl
def c36_56 : ACode := .seq c36_39 c36_55
theorem r36_56 : type_of% (rr c36_56.eq_1) := rr rfl
def c36_57 : ACode := .seq c36_6 c36_56
theorem r36_57 : type_of% (rr c36_57.eq_1) := rr rfl
def c36_58 : ACode := .seq c36_5 c36_57
theorem r36_58 : type_of% (rr c36_58.eq_1) := rr rfl
def c36_59 : ACode := .seq c36_0 c36_58
theorem r36_59 : type_of% (rr c36_59.eq_1) := rr rfl
def a36 : AFun := ⟨4, 75, c36_59, [.t 8]⟩
attribute [simp] r36_0 r36_1 r36_2 r36_3 r36_4 r36_5 r36_6 r36_7 r36_8 r36_9 r36_10 r36_11 r36_12 r36_13 r36_14 r36_15 r36_16 r36_17 r36_18 r36_19 r36_20 r36_21 r36_22 r36_23 r36_24 r36_25 r36_26 r36_27 r36_28 r36_29 r36_30 r36_31 r36_32 r36_33 r36_34 r36_35 r36_36 r36_37 r36_38 r36_39 r36_40 r36_41 r36_42 r36_43 r36_44 r36_45 r36_46 r36_47 r36_48 r36_49 r36_50 r36_51 r36_52 r36_53 r36_54 r36_55 r36_56 r36_57 r36_58 r36_59
theorem m36 : mFun Tryz.prog Tryz.f36 a36 = true := by decide +kernel
theorem okQuery_spec {m : Model} {q : Query} (h : okQuery m q = true) : 0 ≤ q.cls ∧ q.cls < m.classes ∧ 0 ≤ q.budget ∧ q.budget ≤ 65536 ∧ okRegion q.region m.dim = true ∧ okKind m q = true := by
  unfold okQuery at h
  simp only [Bool.and_eq_true, decide_eq_true_eq] at h
  exact ⟨h.1.1.1.1.1, h.1.1.1.1.2, h.1.1.1.2, h.1.1.2, h.1.2, h.2⟩
theorem okKind_spec {m : Model} {q : Query} (h : okKind m q = true) :
    (q.kind = 1 ∧ q.lo ≤ q.hi ∧ q.feature = 0 ∧ q.falls = false) ∨ (q.kind = 2 ∧ 2 ≤ m.classes ∧ q.lo = 0 ∧ q.hi = 0 ∧ q.feature = 0 ∧ q.falls = false) ∨ (q.kind = 3 ∧ 0 ≤ q.feature ∧ q.feature < m.dim ∧ q.lo = 0 ∧ q.hi = 0) := by
  unfold okKind at h
  split at h
  · simp only [Bool.and_eq_true, decide_eq_true_eq, Bool.not_eq_true'] at h
    exact .inl ⟨‹_›, h.1.1, h.1.2, h.2⟩
  · split at h
    · simp only [Bool.and_eq_true, decide_eq_true_eq, Bool.not_eq_true'] at h
      exact .inr (.inl ⟨‹_›, h.1.1.1.1, h.1.1.1.2, h.1.1.2, h.1.2, h.2⟩)
    · split at h
      · simp only [Bool.and_eq_true, decide_eq_true_eq] at h
        exact .inr (.inr ⟨‹_›, h.1.1.1, h.1.1.2, h.1.2, h.2⟩)
      · cases h
noncomputable def BreaksC (m : Model) (q : Query) (p : Point) (t : Int) : Option Bool := Part (RM m) (breaks m q p t)
theorem runs_Breaks (m : Model) (q : Query) (p : Point) (t : Int) (c : Bool) (h : BreaksC m q p t = some c) :
    Runs (tbl [(25, sp2 QRight), (46, sp3 Eval), (62, sp2 fun (s : Span) n => some (s.has n)), (63, sp3 fun q p t => some (secondOf q p t))]) a36 [Arg.enc m, Arg.enc q, Arg.enc p, Arg.enc t] (Arg.enc c) := by
  obtain ⟨hr, rfl⟩ := part_some h
  refine ⟨rfl, fun g => run_def ?_⟩
  unfold a36
  have hM : QRight m q = some (okQuery m q) := by unfold QRight; rw [if_neg (by have := hr.dim; omega)]; exact part_of hr _
  cases hq : okQuery m q
  case false => simp -implicitDefEqProofs [hM, hq, breaks]
  have hs := okQuery_spec hq
  have hE := eval_of hr hs.1 hs.2.1 p
  have hc3 := hr.classes
  have hks := okKind_spec hs.2.2.2.2.2
  obtain ⟨kind, cls, region, lo, hi, feature, falls, budget⟩ := q
  simp only at hE hks hs
  rcases hks with ⟨k, _⟩ | ⟨k, k2, _⟩ | ⟨k, f0, f1, _⟩
  · subst k
    simp -implicitDefEqProofs [hM, hq, breaks, hE]
  · subst k
    have e0 := eval_of hr (c := 0) (by omega) (by omega) p
    have e1 := eval_of hr (c := 1) (by omega) (by omega) p
    obtain ⟨dim, classes, bias, trees⟩ := m
    simp only at hE hc3 k2 hs
    have hcl : classes = 2 ∨ classes = 3 := by omega
    have hcs : cls = 0 ∨ cls = 1 ∨ cls = 2 := by omega
    have rg2 : List.range 2 = [0, 1] := rfl
    have rg3 : List.range 3 = [0, 1, 2] := rfl
    rcases hcl with rfl | rfl
    · have hcs : cls = 0 ∨ cls = 1 := by omega
      rcases hcs with rfl | rfl
      · by_cases g0 : evalM (⟨dim, 2, bias, trees⟩ : Model) 0 p ≤ evalM (⟨dim, 2, bias, trees⟩ : Model) 1 p <;> simp -implicitDefEqProofs [hM, hq, breaks, e0, e1, g0, run_round, beaten, rg2]
      · by_cases g0 : evalM (⟨dim, 2, bias, trees⟩ : Model) 1 p ≤ evalM (⟨dim, 2, bias, trees⟩ : Model) 0 p <;> simp -implicitDefEqProofs [hM, hq, breaks, e0, e1, g0, run_round, beaten, rg2]
    · have e2 := eval_of hr (c := 2) (by omega) (by simp) p
      rcases hcs with rfl | rfl | rfl
      · by_cases g0 : evalM (⟨dim, 3, bias, trees⟩ : Model) 0 p ≤ evalM (⟨dim, 3, bias, trees⟩ : Model) 1 p <;> by_cases g1 : evalM (⟨dim, 3, bias, trees⟩ : Model) 0 p ≤ evalM (⟨dim, 3, bias, trees⟩ : Model) 2 p <;> simp -implicitDefEqProofs [hM, hq, breaks, e0, e1, e2, g0, g1, run_round, beaten, rg3]
      · by_cases g0 : evalM (⟨dim, 3, bias, trees⟩ : Model) 1 p ≤ evalM (⟨dim, 3, bias, trees⟩ : Model) 0 p <;> by_cases g1 : evalM (⟨dim, 3, bias, trees⟩ : Model) 1 p ≤ evalM (⟨dim, 3, bias, trees⟩ : Model) 2 p <;> simp -implicitDefEqProofs [hM, hq, breaks, e0, e1, e2, g0, g1, run_round, beaten, rg3]
      · by_cases g0 : evalM (⟨dim, 3, bias, trees⟩ : Model) 2 p ≤ evalM (⟨dim, 3, bias, trees⟩ : Model) 0 p <;> by_cases g1 : evalM (⟨dim, 3, bias, trees⟩ : Model) 2 p ≤ evalM (⟨dim, 3, bias, trees⟩ : Model) 1 p <;> simp -implicitDefEqProofs [hM, hq, breaks, e0, e1, e2, g0, g1, run_round, beaten, rg3]
  · subst k
    have f2 : feature < 4 := by have := hr.dim; omega
    have hE2 := eval_of hr hs.1 hs.2.1 (secondOf ⟨3, cls, region, lo, hi, feature, falls, budget⟩ p t)
    by_cases g1 : t ≤ p.get feature
    · have g2 : ¬ p.get feature < t := by omega
      simp -implicitDefEqProofs [hM, hq, breaks, hE, f0, f2, g1, g2]
    · have g2 : p.get feature < t := by omega
      cases falls
      · simp -implicitDefEqProofs [hM, hq, breaks, hE, hE2, f0, f2, g1, g2]
      · simp -implicitDefEqProofs [hM, hq, breaks, hE, hE2, f0, f2, g1, g2]
theorem c_Breaks : Contract Tryz.prog 36 (sp4 BreaksC) :=
  contract_of_runs mixed (tbl_cons c_qRight (tbl_cons c_Eval (tbl_cons c_sHas (tbl_cons c_Second tbl_nil)))) Tryz.func36 m36 (sp4_runs runs_Breaks)
end Go.Co
/- CO: the cells of a box; does a query hold? -/
set_option maxHeartbeats 16000000
set_option maxRecDepth 100000
namespace Go.Co
open Go.Am Go.Proofs
attribute [-simp] Go.Am.eff_gcall
def c39_0 : ACode := .ops [⟨some 1, .box (.t 0) 10, none, []⟩,⟨some 2, .alloc [.int .i64 0, .int .i64 0, .int .i64 0, .int .i64 0], none, []⟩] [1, 2]
theorem r39_0 : type_of% (rr c39_0.eq_1) := rr rfl
def c39_1 : ACode := .ops [⟨some 3, .alloc [.int .i64 0, .int .i64 0, .int .i64 0, .int .i64 0], none, []⟩] [1, 2, 3]
theorem r39_1 : type_of% (rr c39_1.eq_1) := rr rfl
def c39_2 : ACode := .ops [⟨some 5, .mv (.c (.int .i64 0)), none, []⟩] [1, 2, 3, 5]
theorem r39_2 : type_of% (rr c39_2.eq_1) := rr rfl
def c39_3 : ACode := .ops [⟨some 6, .bin .lss (.t 5) (.c (.int .i64 4)), none, []⟩] [1, 2, 3, 5, 6]
theorem r39_3 : type_of% (rr c39_3.eq_1) := rr rfl
def c39_4 : ACode := .cond (.t 6) .skip (.exit 0)
theorem r39_4 : type_of% (rr c39_4.eq_1) := rr rfl
def c39_5 : ACode := .ops [⟨some 7, .mv (.t 5), none, []⟩,⟨some 4, .mv (.t 7), none, []⟩] [1, 2, 3, 4, 5]
theorem r39_5 : type_of% (rr c39_5.eq_1) := rr rfl
def c39_6 : ACode := .ops [⟨some 8, .mv (.t 4), none, []⟩,⟨some 9, .mv (.t 4), none, []⟩,⟨some 10, .iad (.t 1) (.t 9) 2 5, none, [1]⟩,⟨some 11, .fad (.t 10) 0, none, [1]⟩,⟨some 12, .load 1 false (.t 11), none, [1]⟩,⟨some 13, .iad (.t 3) (.t 8) 1 4, none, [3]⟩,⟨none, .store (.t 13) 1 (.t 12), none, [3]⟩] [1, 2, 3, 5]
theorem r39_6 : type_of% (rr c39_6.eq_1) := rr rfl
def c39_7 : ACode := .seq c39_5 c39_6
theorem r39_7 : type_of% (rr c39_7.eq_1) := rr rfl
def c39_8 : ACode := .block 1 c39_7
theorem r39_8 : type_of% (rr c39_8.eq_1) := rr rfl
def c39_9 : ACode := .ops [⟨some 14, .bin .add (.t 5) (.c (.int .i64 1)), none, []⟩,⟨some 5, .mv (.t 14), none, []⟩] [1, 2, 3, 5]
theorem r39_9 : type_of% (rr c39_9.eq_1) := rr rfl
def c39_10 : ACode := .seq c39_8 c39_9
theorem r39_10 : type_of% (rr c39_10.eq_1) := rr rfl
def c39_11 : ACode := .seq c39_4 c39_10
theorem r39_11 : type_of% (rr c39_11.eq_1) := rr rfl
def c39_12 : ACode := .seq c39_3 c39_11
theorem r39_12 : type_of% (rr c39_12.eq_1) := rr rfl
def c39_13 : ACode := .keep [1, 2, 3, 5] [1, 2, 3] c39_12
theorem r39_13 : type_of% (rr c39_13.eq_1) := rr rfl
def c39_14 : ACode := .loop c39_13
theorem r39_14 : type_of% (rr c39_14.eq_1) := rr rfl
def c39_15 : ACode := .block 0 c39_14
theorem r39_15 : type_of% (rr c39_15.eq_1) := rr rfl
def c39_16 : ACode := .seq c39_2 c39_15
theorem r39_16 : type_of% (rr c39_16.eq_1) := rr rfl
def c39_17 : ACode := .ops [⟨some 15, .load 4 true (.t 3), none, [3]⟩,⟨none, .store (.t 2) 4 (.t 15), none, [2]⟩] [2]
theorem r39_17 : type_of% (rr c39_17.eq_1) := rr rfl
def c39_18 : ACode := .seq c39_17 .ret
theorem r39_18 : type_of% (rr c39_18.eq_1) := rr rfl
def c39_19 : ACode := .seq c39_16 c39_18
theorem r39_19 : type_of% (rr c39_19.eq_1) := rr rfl
def c39_20 : ACode := .seq c39_1 c39_19
theorem r39_20 : type_of% (rr c39_20.eq_1) := rr rfl
def c39_21 : ACode := .seq c39_0 c39_20
theorem r39_21 : type_of% (rr c39_21.eq_1) := rr rfl
def a39 : AFun := ⟨1, 16, c39_21, [.cell 2 4 true]⟩
attribute [simp] r39_0 r39_1 r39_2 r39_3 r39_4 r39_5 r39_6 r39_7 r39_8 r39_9 r39_10 r39_11 r39_12 r39_13 r39_14 r39_15 r39_16 r39_17 r39_18 r39_19 r39_20 r39_21
theorem m39 : mFun Tryz.prog Tryz.f39 a39 = true := by decide +kernel
theorem lenB (l : List Box) : l.length * 10 ≤ (encL l).length := by rw [encL_length]; exact Nat.le_refl _
theorem takeB (l : List Box) : List.take (l.length * 10) (encL l) = encL l := by rw [List.take_of_length_le]; rw [encL_length]; exact Nat.le_refl _
theorem encL_snocB (X : List Box) (c : Box) : encL (X ++ [c]) = encL X ++ [.int .i64 c.s0.lo, .int .i64 c.s0.hi, .int .i64 c.s1.lo, .int .i64 c.s1.hi, .int .i64 c.s2.lo, .int .i64 c.s2.hi, .int .i64 c.s3.lo, .int .i64 c.s3.hi, .int .i64 c.s4.lo, .int .i64 c.s4.hi] := by rw [encL_append]; rfl
theorem runs_Low (b : Box) (r : Point) (h : some (lowB b) = some r) : Runs (tbl []) a39 [Arg.enc b] (Arg.enc r) := by
  cases h
  refine ⟨rfl, fun g => run_def ?_⟩
  unfold a39 lowB
  simp -implicitDefEqProofs [run_round]
theorem c_Low : Contract Tryz.prog 39 (sp1 fun b => some (lowB b)) :=
  contract_of_runs mixed tbl_nil Tryz.func39 m39 (sp1_runs runs_Low)
def corner (m : Model) (q : Query) (b : Box) : Bool := breaks m q (lowB b) b.s4.hi
@[simp] theorem dec_ref_query (q : Query) : (Arg.dec (.ipt 0 [.int .i64 q.kind, .int .i64 q.cls, .int .i64 q.region.s0.lo, .int .i64 q.region.s0.hi, .int .i64 q.region.s1.lo, .int .i64 q.region.s1.hi, .int .i64 q.region.s2.lo, .int .i64 q.region.s2.hi, .int .i64 q.region.s3.lo, .int .i64 q.region.s3.hi, .int .i64 q.region.s4.lo, .int .i64 q.region.s4.hi, .int .i64 q.lo, .int .i64 q.hi, .int .i64 q.feature, .bool q.falls, .int .i64 q.budget]) : Option (Ref Query)) = some ⟨q⟩ := Arg.dec_enc (⟨q⟩ : Ref Query)
structure CloH where
  m : Model
  q : Query
end Go.Co
