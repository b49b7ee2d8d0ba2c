/- CO: texts of this claim, one behind the other. -/
import Derived.Test.YtcjflbmpfmibbaaCz7
import Derived.Test.YtcjflbmpfmibbaaCz5
/- CO: right queries (written by mkCoJ.py). -/
set_option maxHeartbeats 16000000
set_option maxRecDepth 100000
namespace Go.Co
open Go.Am Go.Proofs
set_option linter.unusedSimpArgs false
set_option linter.unusedVariables false
def c132_0 : ACode := .ops [⟨some 2, .box (.t 0) 10, none, []⟩,⟨some 4, .mv (.c (.bool false)), none, []⟩] [1, 2]
theorem r132_0 : type_of% (@rr _ _ c132_0.eq_1) := rr rfl
def c132_1 : ACode := .ops [⟨some 7, .load 10 true (.t 2), none, [2]⟩,⟨some 8, .mv (.c (.int .i64 0)), none, []⟩] [1, 7, 8]
theorem r132_1 : type_of% (@rr _ _ c132_1.eq_1) := rr rfl
def c132_2 : ACode := .ops [⟨some 9, .bin .lss (.t 8) (.c (.int .i64 5)), none, []⟩] [1, 7, 8, 9]
theorem r132_2 : type_of% (@rr _ _ c132_2.eq_1) := rr rfl
def c132_3 : ACode := .cond (.t 9) .skip (.exit 0)
theorem r132_3 : type_of% (@rr _ _ c132_3.eq_1) := rr rfl
def c132_4 : ACode := .ops [⟨some 10, .mv (.t 8), none, []⟩,⟨some 11, .idx (.t 7) (.t 8) 2 5 true, none, []⟩,⟨some 6, .alloc [.int .i64 0, .int .i64 0], none, []⟩,⟨some 5, .mv (.t 10), none, []⟩,⟨none, .store (.t 6) 2 (.t 11), none, [6]⟩] [1, 5, 6, 7, 8]
theorem r132_4 : type_of% (@rr _ _ c132_4.eq_1) := rr rfl
def c132_5 : ACode := .ops [⟨some 12, .mv (.t 5), none, []⟩,⟨some 13, .mv (.t 1), none, []⟩,⟨some 14, .bin .geq (.t 12) (.t 13), none, []⟩,⟨some 15, .mv (.t 14), none, []⟩,⟨some 16, .load 2 true (.t 6), some (15, true), [6]⟩,⟨some 17, .build [.int .i64 0, .int .i64 0] [], some (15, true), []⟩,⟨some 18, .eqa true [false, false] (.t 16) (.t 17), some (15, true), []⟩,⟨some 19, .pick (.t 15) (.t 18) (.c (.bool false)), none, []⟩] [1, 6, 7, 8, 19]
theorem r132_5 : type_of% (@rr _ _ c132_5.eq_1) := rr rfl
def c132_6 : ACode := .ops [⟨some 4, .mv (.c (.bool false)), none, []⟩] [4]
theorem r132_6 : type_of% (@rr _ _ c132_6.eq_1) := rr rfl
def c132_7 : ACode := .seq c132_6 .ret
theorem r132_7 : type_of% (@rr _ _ c132_7.eq_1) := rr rfl
def c132_8 : ACode := .cond (.t 19) c132_7 .skip
theorem r132_8 : type_of% (@rr _ _ c132_8.eq_1) := rr rfl
def c132_9 : ACode := .seq c132_5 c132_8
theorem r132_9 : type_of% (@rr _ _ c132_9.eq_1) := rr rfl
def c132_10 : ACode := .ops [⟨some 20, .load 2 true (.t 6), none, [6]⟩,⟨some 21, .call 117 [.t 20], none, []⟩,⟨some 22, .mv (.t 21), none, []⟩,⟨some 23, .fad (.t 6) 0, some (22, false), [6]⟩,⟨some 24, .load 1 false (.t 23), some (22, false), [6]⟩,⟨some 25, .call 75 [.t 24, .c (.int .i64 32)], some (22, false), []⟩,⟨some 26, .un .not (.t 25), some (22, false), []⟩,⟨some 27, .pick (.t 22) (.c (.bool true)) (.t 26), none, []⟩,⟨some 28, .mv (.t 27), none, []⟩,⟨some 29, .fad (.t 6) 1, some (28, false), [6]⟩,⟨some 30, .load 1 false (.t 29), some (28, false), [6]⟩,⟨some 31, .call 75 [.t 30, .c (.int .i64 32)], some (28, false), []⟩,⟨some 32, .un .not (.t 31), some (28, false), []⟩,⟨some 33, .pick (.t 28) (.c (.bool true)) (.t 32), none, []⟩] [1, 7, 8, 33]
theorem r132_10 : type_of% (@rr _ _ c132_10.eq_1) := rr rfl
def c132_11 : ACode := .ops [⟨some 4, .mv (.c (.bool false)), none, []⟩] [4]
theorem r132_11 : type_of% (@rr _ _ c132_11.eq_1) := rr rfl
def c132_12 : ACode := .seq c132_11 .ret
theorem r132_12 : type_of% (@rr _ _ c132_12.eq_1) := rr rfl
def c132_13 : ACode := .cond (.t 33) c132_12 .skip
theorem r132_13 : type_of% (@rr _ _ c132_13.eq_1) := rr rfl
def c132_14 : ACode := .seq c132_10 c132_13
theorem r132_14 : type_of% (@rr _ _ c132_14.eq_1) := rr rfl
def c132_15 : ACode := .seq c132_9 c132_14
theorem r132_15 : type_of% (@rr _ _ c132_15.eq_1) := rr rfl
def c132_16 : ACode := .seq c132_4 c132_15
theorem r132_16 : type_of% (@rr _ _ c132_16.eq_1) := rr rfl
def c132_17 : ACode := .block 1 c132_16
theorem r132_17 : type_of% (@rr _ _ c132_17.eq_1) := rr rfl
def c132_18 : ACode := .ops [⟨some 34, .bin .add (.t 8) (.c (.int .i64 1)), none, []⟩,⟨some 8, .mv (.t 34), none, []⟩] [1, 7, 8]
theorem r132_18 : type_of% (@rr _ _ c132_18.eq_1) := rr rfl
def c132_19 : ACode := .seq c132_17 c132_18
theorem r132_19 : type_of% (@rr _ _ c132_19.eq_1) := rr rfl
def c132_20 : ACode := .seq c132_3 c132_19
theorem r132_20 : type_of% (@rr _ _ c132_20.eq_1) := rr rfl
def c132_21 : ACode := .seq c132_2 c132_20
theorem r132_21 : type_of% (@rr _ _ c132_21.eq_1) := rr rfl
def c132_22 : ACode := .keep [1, 7, 8] [] c132_21
theorem r132_22 : type_of% (@rr _ _ c132_22.eq_1) := rr rfl
def c132_23 : ACode := .loop c132_22
theorem r132_23 : type_of% (@rr _ _ c132_23.eq_1) := rr rfl
def c132_24 : ACode := .block 0 c132_23
theorem r132_24 : type_of% (@rr _ _ c132_24.eq_1) := rr rfl
def c132_25 : ACode := .seq c132_1 c132_24
theorem r132_25 : type_of% (@rr _ _ c132_25.eq_1) := rr rfl
def c132_26 : ACode := .ops [⟨some 4, .mv (.c (.bool true)), none, []⟩] [4]
theorem r132_26 : type_of% (@rr _ _ c132_26.eq_1) := rr rfl
def c132_27 : ACode := .seq c132_26 .ret
theorem r132_27 : type_of% (@rr _ _ c132_27.eq_1) := rr rfl
def c132_28 : ACode := .seq c132_25 c132_27
theorem r132_28 : type_of% (@rr _ _ c132_28.eq_1) := rr rfl
def c132_29 : ACode := .seq c132_0 c132_28
theorem r132_29 : type_of% (@rr _ _ c132_29.eq_1) := rr rfl
def a132 : AFun := ⟨2, 35, c132_29, [.t 4]⟩
attribute [simp] r132_0 r132_1 r132_2 r132_3 r132_4 r132_5 r132_6 r132_7 r132_8 r132_9 r132_10 r132_11 r132_12 r132_13 r132_14 r132_15 r132_16 r132_17 r132_18 r132_19 r132_20 r132_21 r132_22 r132_23 r132_24 r132_25 r132_26 r132_27 r132_28 r132_29
theorem m132 : mFun Try.prog Try.f132 a132 = true := by decide +kernel
def c133_0 : ACode := .ops [⟨some 2, .box (.t 0) 6, none, []⟩,⟨some 3, .box (.t 1) 17, none, []⟩,⟨some 4, .mv (.c (.bool false)), none, []⟩] [2, 3]
theorem r133_0 : type_of% (@rr _ _ c133_0.eq_1) := rr rfl
def c133_1 : ACode := .ops [⟨some 5, .fad (.t 3) 0, none, [3]⟩,⟨some 6, .load 1 false (.t 5), none, [3]⟩] [2, 3, 6]
theorem r133_1 : type_of% (@rr _ _ c133_1.eq_1) := rr rfl
def c133_2 : ACode := .ops [⟨some 8, .bin .eql (.t 6) (.c (.int .i64 1)), none, []⟩,⟨some 7, .mv (.t 8), none, []⟩] [2, 3, 6, 7]
theorem r133_2 : type_of% (@rr _ _ c133_2.eq_1) := rr rfl
def c133_3 : ACode := .ops [⟨some 9, .fad (.t 3) 12, none, [3]⟩,⟨some 10, .load 1 false (.t 9), none, [3]⟩,⟨some 11, .fad (.t 3) 13, none, [3]⟩,⟨some 12, .load 1 false (.t 11), none, [3]⟩,⟨some 13, .bin .leq (.t 10) (.t 12), none, []⟩,⟨some 14, .mv (.t 13), none, []⟩,⟨some 15, .fad (.t 3) 14, some (14, true), [3]⟩,⟨some 16, .load 1 false (.t 15), some (14, true), [3]⟩,⟨some 17, .bin .eql (.t 16) (.c (.int .i64 0)), some (14, true), []⟩,⟨some 18, .pick (.t 14) (.t 17) (.c (.bool false)), none, []⟩,⟨some 19, .mv (.t 18), none, []⟩,⟨some 20, .fad (.t 3) 15, some (19, true), [3]⟩,⟨some 21, .load 1 false (.t 20), some (19, true), [3]⟩,⟨some 22, .un .not (.t 21), some (19, true), []⟩,⟨some 23, .pick (.t 19) (.t 22) (.c (.bool false)), none, []⟩,⟨some 4, .mv (.t 23), none, []⟩] [4]
theorem r133_3 : type_of% (@rr _ _ c133_3.eq_1) := rr rfl
def c133_4 : ACode := .seq c133_3 .ret
theorem r133_4 : type_of% (@rr _ _ c133_4.eq_1) := rr rfl
def c133_5 : ACode := .ops [⟨some 25, .bin .eql (.t 6) (.c (.int .i64 2)), none, []⟩,⟨some 24, .mv (.t 25), none, []⟩] [2, 3, 6, 24]
theorem r133_5 : type_of% (@rr _ _ c133_5.eq_1) := rr rfl
def c133_6 : ACode := .ops [⟨some 26, .fad (.t 2) 1, none, [2]⟩,⟨some 27, .load 1 false (.t 26), none, [2]⟩,⟨some 28, .bin .geq (.t 27) (.c (.int .i64 2)), none, []⟩,⟨some 29, .mv (.t 28), none, []⟩,⟨some 30, .fad (.t 3) 12, some (29, true), [3]⟩,⟨some 31, .load 1 false (.t 30), some (29, true), [3]⟩,⟨some 32, .bin .eql (.t 31) (.c (.int .i64 0)), some (29, true), []⟩,⟨some 33, .pick (.t 29) (.t 32) (.c (.bool false)), none, []⟩,⟨some 34, .mv (.t 33), none, []⟩,⟨some 35, .fad (.t 3) 13, some (34, true), [3]⟩,⟨some 36, .load 1 false (.t 35), some (34, true), [3]⟩,⟨some 37, .bin .eql (.t 36) (.c (.int .i64 0)), some (34, true), []⟩,⟨some 38, .pick (.t 34) (.t 37) (.c (.bool false)), none, []⟩,⟨some 39, .mv (.t 38), none, []⟩,⟨some 40, .fad (.t 3) 14, some (39, true), [3]⟩,⟨some 41, .load 1 false (.t 40), some (39, true), [3]⟩,⟨some 42, .bin .eql (.t 41) (.c (.int .i64 0)), some (39, true), []⟩,⟨some 43, .pick (.t 39) (.t 42) (.c (.bool false)), none, []⟩,⟨some 44, .mv (.t 43), none, []⟩,⟨some 45, .fad (.t 3) 15, some (44, true), [3]⟩,⟨some 46, .load 1 false (.t 45), some (44, true), [3]⟩,⟨some 47, .un .not (.t 46), some (44, true), []⟩,⟨some 48, .pick (.t 44) (.t 47) (.c (.bool false)), none, []⟩,⟨some 4, .mv (.t 48), none, []⟩] [4]
theorem r133_6 : type_of% (@rr _ _ c133_6.eq_1) := rr rfl
def c133_7 : ACode := .seq c133_6 .ret
theorem r133_7 : type_of% (@rr _ _ c133_7.eq_1) := rr rfl
def c133_8 : ACode := .ops [⟨some 50, .bin .eql (.t 6) (.c (.int .i64 3)), none, []⟩,⟨some 49, .mv (.t 50), none, []⟩] [2, 3, 49]
theorem r133_8 : type_of% (@rr _ _ c133_8.eq_1) := rr rfl
def c133_9 : ACode := .ops [⟨some 51, .fad (.t 3) 14, none, [3]⟩,⟨some 52, .load 1 false (.t 51), none, [3]⟩,⟨some 53, .bin .geq (.t 52) (.c (.int .i64 0)), none, []⟩,⟨some 54, .mv (.t 53), none, []⟩,⟨some 55, .fad (.t 3) 14, some (54, true), [3]⟩,⟨some 56, .load 1 false (.t 55), some (54, true), [3]⟩,⟨some 57, .fad (.t 2) 0, some (54, true), [2]⟩,⟨some 58, .load 1 false (.t 57), some (54, true), [2]⟩,⟨some 59, .bin .lss (.t 56) (.t 58), some (54, true), []⟩,⟨some 60, .pick (.t 54) (.t 59) (.c (.bool false)), none, []⟩,⟨some 61, .mv (.t 60), none, []⟩,⟨some 62, .fad (.t 3) 12, some (61, true), [3]⟩,⟨some 63, .load 1 false (.t 62), some (61, true), [3]⟩,⟨some 64, .bin .eql (.t 63) (.c (.int .i64 0)), some (61, true), []⟩,⟨some 65, .pick (.t 61) (.t 64) (.c (.bool false)), none, []⟩,⟨some 66, .mv (.t 65), none, []⟩,⟨some 67, .fad (.t 3) 13, some (66, true), [3]⟩,⟨some 68, .load 1 false (.t 67), some (66, true), [3]⟩,⟨some 69, .bin .eql (.t 68) (.c (.int .i64 0)), some (66, true), []⟩,⟨some 70, .pick (.t 66) (.t 69) (.c (.bool false)), none, []⟩,⟨some 4, .mv (.t 70), none, []⟩] [4]
theorem r133_9 : type_of% (@rr _ _ c133_9.eq_1) := rr rfl
def c133_10 : ACode := .seq c133_9 .ret
theorem r133_10 : type_of% (@rr _ _ c133_10.eq_1) := rr rfl
def c133_11 : ACode := .cond (.t 49) c133_10 .skip
theorem r133_11 : type_of% (@rr _ _ c133_11.eq_1) := rr rfl
def c133_12 : ACode := .seq c133_8 c133_11
theorem r133_12 : type_of% (@rr _ _ c133_12.eq_1) := rr rfl
def c133_13 : ACode := .cond (.t 24) c133_7 c133_12
theorem r133_13 : type_of% (@rr _ _ c133_13.eq_1) := rr rfl
def c133_14 : ACode := .seq c133_5 c133_13
theorem r133_14 : type_of% (@rr _ _ c133_14.eq_1) := rr rfl
def c133_15 : ACode := .cond (.t 7) c133_4 c133_14
theorem r133_15 : type_of% (@rr _ _ c133_15.eq_1) := rr rfl
def c133_16 : ACode := .seq c133_2 c133_15
theorem r133_16 : type_of% (@rr _ _ c133_16.eq_1) := rr rfl
def c133_17 : ACode := .block 0 c133_16
theorem r133_17 : type_of% (@rr _ _ c133_17.eq_1) := rr rfl
def c133_18 : ACode := .seq c133_1 c133_17
theorem r133_18 : type_of% (@rr _ _ c133_18.eq_1) := rr rfl
def c133_19 : ACode := .ops [⟨some 4, .mv (.c (.bool false)), none, []⟩] [4]
theorem r133_19 : type_of% (@rr _ _ c133_19.eq_1) := rr rfl
def c133_20 : ACode := .seq c133_19 .ret
theorem r133_20 : type_of% (@rr _ _ c133_20.eq_1) := rr rfl
def c133_21 : ACode := .seq c133_18 c133_20
theorem r133_21 : type_of% (@rr _ _ c133_21.eq_1) := rr rfl
def c133_22 : ACode := .seq c133_0 c133_21
theorem r133_22 : type_of% (@rr _ _ c133_22.eq_1) := rr rfl
def a133 : AFun := ⟨2, 71, c133_22, [.t 4]⟩
attribute [simp] r133_0 r133_1 r133_2 r133_3 r133_4 r133_5 r133_6 r133_7 r133_8 r133_9 r133_10 r133_11 r133_12 r133_13 r133_14 r133_15 r133_16 r133_17 r133_18 r133_19 r133_20 r133_21 r133_22
theorem m133 : mFun Try.prog Try.f133 a133 = true := by decide +kernel
def c89_0 : ACode := .ops [⟨some 2, .box (.t 0) 6, none, []⟩,⟨some 3, .box (.t 1) 17, none, []⟩,⟨some 4, .mv (.c (.bool false)), none, []⟩] [2, 3]
theorem r89_0 : type_of% (@rr _ _ c89_0.eq_1) := rr rfl
def c89_1 : ACode := .ops [⟨some 5, .load 6 true (.t 2), none, [2]⟩,⟨some 6, .call 27 [.t 5], none, []⟩,⟨some 7, .mv (.t 6), none, []⟩,⟨some 8, .fad (.t 3) 1, some (7, true), [3]⟩,⟨some 9, .load 1 false (.t 8), some (7, true), [3]⟩,⟨some 10, .bin .geq (.t 9) (.c (.int .i64 0)), some (7, true), []⟩,⟨some 11, .pick (.t 7) (.t 10) (.c (.bool false)), none, []⟩,⟨some 12, .mv (.t 11), none, []⟩,⟨some 13, .fad (.t 3) 1, some (12, true), [3]⟩,⟨some 14, .load 1 false (.t 13), some (12, true), [3]⟩,⟨some 15, .fad (.t 2) 1, some (12, true), [2]⟩,⟨some 16, .load 1 false (.t 15), some (12, true), [2]⟩,⟨some 17, .bin .lss (.t 14) (.t 16), some (12, true), []⟩,⟨some 18, .pick (.t 12) (.t 17) (.c (.bool false)), none, []⟩,⟨some 19, .mv (.t 18), none, []⟩,⟨some 20, .fad (.t 3) 16, some (19, true), [3]⟩,⟨some 21, .load 1 false (.t 20), some (19, true), [3]⟩,⟨some 22, .bin .geq (.t 21) (.c (.int .i64 0)), some (19, true), []⟩,⟨some 23, .pick (.t 19) (.t 22) (.c (.bool false)), none, []⟩,⟨some 24, .mv (.t 23), none, []⟩,⟨some 25, .fad (.t 3) 16, some (24, true), [3]⟩,⟨some 26, .load 1 false (.t 25), some (24, true), [3]⟩,⟨some 27, .bin .leq (.t 26) (.c (.int .i64 65536)), some (24, true), []⟩,⟨some 28, .pick (.t 24) (.t 27) (.c (.bool false)), none, []⟩,⟨some 29, .mv (.t 28), none, []⟩,⟨some 30, .fad (.t 3) 2, some (29, true), [3]⟩,⟨some 31, .load 10 true (.t 30), some (29, true), [3]⟩,⟨some 32, .fad (.t 2) 0, some (29, true), [2]⟩,⟨some 33, .load 1 false (.t 32), some (29, true), [2]⟩,⟨some 34, .call 132 [.t 31, .t 33], some (29, true), []⟩,⟨some 35, .pick (.t 29) (.t 34) (.c (.bool false)), none, []⟩,⟨some 36, .mv (.t 35), none, []⟩,⟨some 37, .load 6 true (.t 2), some (36, true), [2]⟩,⟨some 38, .load 17 true (.t 3), some (36, true), [3]⟩,⟨some 39, .call 133 [.t 37, .t 38], some (36, true), []⟩,⟨some 40, .pick (.t 36) (.t 39) (.c (.bool false)), none, []⟩,⟨some 4, .mv (.t 40), none, []⟩] [4]
theorem r89_1 : type_of% (@rr _ _ c89_1.eq_1) := rr rfl
def c89_2 : ACode := .seq c89_1 .ret
theorem r89_2 : type_of% (@rr _ _ c89_2.eq_1) := rr rfl
def c89_3 : ACode := .seq c89_0 c89_2
theorem r89_3 : type_of% (@rr _ _ c89_3.eq_1) := rr rfl
def a89 : AFun := ⟨2, 41, c89_3, [.t 4]⟩
attribute [simp] r89_0 r89_1 r89_2 r89_3
theorem m89 : mFun Try.prog Try.f89 a89 = true := by decide +kernel
def c97_0 : ACode := .ops [⟨some 1, .box (.t 0) 17, none, []⟩,⟨some 2, .mv (.c (.bool false)), none, []⟩] [1]
theorem r97_0 : type_of% (@rr _ _ c97_0.eq_1) := rr rfl
def c97_1 : ACode := .ops [⟨some 3, .fad (.t 1) 0, none, [1]⟩,⟨some 4, .load 1 false (.t 3), none, [1]⟩,⟨some 5, .bin .eql (.t 4) (.c (.int .i64 3)), none, []⟩,⟨some 6, .mv (.t 5), none, []⟩,⟨some 7, .fad (.t 1) 14, some (6, true), [1]⟩,⟨some 8, .load 1 false (.t 7), some (6, true), [1]⟩,⟨some 9, .bin .geq (.t 8) (.c (.int .i64 0)), some (6, true), []⟩,⟨some 10, .pick (.t 6) (.t 9) (.c (.bool false)), none, []⟩,⟨some 11, .mv (.t 10), none, []⟩,⟨some 12, .fad (.t 1) 14, some (11, true), [1]⟩,⟨some 13, .load 1 false (.t 12), some (11, true), [1]⟩,⟨some 14, .bin .lss (.t 13) (.c (.int .i64 4)), some (11, true), []⟩,⟨some 15, .pick (.t 11) (.t 14) (.c (.bool false)), none, []⟩,⟨some 2, .mv (.t 15), none, []⟩] [2]
theorem r97_1 : type_of% (@rr _ _ c97_1.eq_1) := rr rfl
def c97_2 : ACode := .seq c97_1 .ret
theorem r97_2 : type_of% (@rr _ _ c97_2.eq_1) := rr rfl
def c97_3 : ACode := .seq c97_0 c97_2
theorem r97_3 : type_of% (@rr _ _ c97_3.eq_1) := rr rfl
def a97 : AFun := ⟨1, 16, c97_3, [.t 2]⟩
attribute [simp] r97_0 r97_1 r97_2 r97_3
theorem m97 : mFun Try.prog Try.f97 a97 = true := by decide +kernel
def c45_0 : ACode := .ops [⟨some 1, .box (.t 0) 17, none, []⟩,⟨some 2, .alloc [.int .i64 0, .int .i64 0, .int .i64 0, .int .i64 0, .int .i64 0, .int .i64 0, .int .i64 0, .int .i64 0, .int .i64 0, .int .i64 0], none, []⟩] [1, 2]
theorem r45_0 : type_of% (@rr _ _ c45_0.eq_1) := rr rfl
def c45_1 : ACode := .ops [⟨some 4, .fad (.t 1) 2, none, [1]⟩,⟨some 5, .load 10 true (.t 4), none, [1]⟩,⟨some 3, .alloc [.int .i64 0, .int .i64 0, .int .i64 0, .int .i64 0, .int .i64 0, .int .i64 0, .int .i64 0, .int .i64 0, .int .i64 0, .int .i64 0], none, []⟩,⟨none, .store (.t 3) 10 (.t 5), none, [3]⟩] [1, 2, 3]
theorem r45_1 : type_of% (@rr _ _ c45_1.eq_1) := rr rfl
def c45_2 : ACode := .ops [⟨some 6, .build [.int .i64 0, .int .i64 0] [], none, []⟩,⟨some 7, .iad (.t 3) (.c (.int .i64 4)) 2 5, none, [3]⟩,⟨none, .store (.t 7) 2 (.t 6), none, [3]⟩] [1, 2, 3]
theorem r45_2 : type_of% (@rr _ _ c45_2.eq_1) := rr rfl
def c45_3 : ACode := .ops [⟨some 8, .load 17 true (.t 1), none, [1]⟩,⟨some 9, .call 97 [.t 8], none, []⟩] [1, 2, 3, 9]
theorem r45_3 : type_of% (@rr _ _ c45_3.eq_1) := rr rfl
def c45_4 : ACode := .ops [⟨some 10, .fad (.t 1) 14, none, [1]⟩,⟨some 11, .load 1 false (.t 10), none, [1]⟩,⟨some 12, .iad (.t 3) (.t 11) 2 5, none, [3]⟩,⟨some 13, .load 2 true (.t 12), none, [3]⟩,⟨some 14, .iad (.t 3) (.c (.int .i64 4)) 2 5, none, [3]⟩,⟨none, .store (.t 14) 2 (.t 13), none, [3]⟩] [2, 3]
theorem r45_4 : type_of% (@rr _ _ c45_4.eq_1) := rr rfl
def c45_5 : ACode := .cond (.t 9) c45_4 .skip
theorem r45_5 : type_of% (@rr _ _ c45_5.eq_1) := rr rfl
def c45_6 : ACode := .seq c45_3 c45_5
theorem r45_6 : type_of% (@rr _ _ c45_6.eq_1) := rr rfl
def c45_7 : ACode := .ops [⟨some 15, .load 10 true (.t 3), none, [3]⟩,⟨none, .store (.t 2) 10 (.t 15), none, [2]⟩] [2]
theorem r45_7 : type_of% (@rr _ _ c45_7.eq_1) := rr rfl
def c45_8 : ACode := .seq c45_7 .ret
theorem r45_8 : type_of% (@rr _ _ c45_8.eq_1) := rr rfl
def c45_9 : ACode := .seq c45_6 c45_8
theorem r45_9 : type_of% (@rr _ _ c45_9.eq_1) := rr rfl
def c45_10 : ACode := .seq c45_2 c45_9
theorem r45_10 : type_of% (@rr _ _ c45_10.eq_1) := rr rfl
def c45_11 : ACode := .seq c45_1 c45_10
theorem r45_11 : type_of% (@rr _ _ c45_11.eq_1) := rr rfl
def c45_12 : ACode := .seq c45_0 c45_11
theorem r45_12 : type_of% (@rr _ _ c45_12.eq_1) := rr rfl
def a45 : AFun := ⟨1, 16, c45_12, [.cell 2 10 true]⟩
attribute [simp] r45_0 r45_1 r45_2 r45_3 r45_4 r45_5 r45_6 r45_7 r45_8 r45_9 r45_10 r45_11 r45_12
theorem m45 : mFun Try.prog Try.f45 a45 = true := by decide +kernel
def c109_0 : ACode := .ops [⟨some 3, .box (.t 0) 17, none, []⟩,⟨some 4, .box (.t 1) 4, none, []⟩,⟨some 6, .alloc [.int .i64 0, .int .i64 0, .int .i64 0, .int .i64 0], none, []⟩] [2, 3, 4, 6]
theorem r109_0 : type_of% (@rr _ _ c109_0.eq_1) := rr rfl
def c109_1 : ACode := .ops [⟨some 7, .load 17 true (.t 3), none, [3]⟩,⟨some 8, .call 97 [.t 7], none, []⟩] [2, 3, 4, 6, 8]
theorem r109_1 : type_of% (@rr _ _ c109_1.eq_1) := rr rfl
def c109_2 : ACode := .ops [⟨some 9, .fad (.t 3) 14, none, [3]⟩,⟨some 10, .load 1 false (.t 9), none, [3]⟩,⟨some 11, .mv (.t 2), none, []⟩,⟨some 12, .iad (.t 4) (.t 10) 1 4, none, [4]⟩,⟨none, .store (.t 12) 1 (.t 11), none, [4]⟩] [4, 6]
theorem r109_2 : type_of% (@rr _ _ c109_2.eq_1) := rr rfl
def c109_3 : ACode := .cond (.t 8) c109_2 .skip
theorem r109_3 : type_of% (@rr _ _ c109_3.eq_1) := rr rfl
def c109_4 : ACode := .seq c109_1 c109_3
theorem r109_4 : type_of% (@rr _ _ c109_4.eq_1) := rr rfl
def c109_5 : ACode := .ops [⟨some 13, .load 4 true (.t 4), none, [4]⟩,⟨none, .store (.t 6) 4 (.t 13), none, [6]⟩] [6]
theorem r109_5 : type_of% (@rr _ _ c109_5.eq_1) := rr rfl
def c109_6 : ACode := .seq c109_5 .ret
theorem r109_6 : type_of% (@rr _ _ c109_6.eq_1) := rr rfl
def c109_7 : ACode := .seq c109_4 c109_6
theorem r109_7 : type_of% (@rr _ _ c109_7.eq_1) := rr rfl
def c109_8 : ACode := .seq c109_0 c109_7
theorem r109_8 : type_of% (@rr _ _ c109_8.eq_1) := rr rfl
def a109 : AFun := ⟨3, 14, c109_8, [.cell 6 4 true]⟩
attribute [simp] r109_0 r109_1 r109_2 r109_3 r109_4 r109_5 r109_6 r109_7 r109_8
theorem m109 : mFun Try.prog Try.f109 a109 = true := by decide +kernel
def c108_0 : ACode := .ops [⟨some 2, .box (.t 0) 2, none, []⟩,⟨some 4, .mv (.c (.bool false)), none, []⟩] [1, 2]
theorem r108_0 : type_of% (@rr _ _ c108_0.eq_1) := rr rfl
def c108_1 : ACode := .ops [⟨some 5, .fad (.t 2) 0, none, [2]⟩,⟨some 6, .load 1 false (.t 5), none, [2]⟩,⟨some 7, .mv (.t 1), none, []⟩,⟨some 8, .bin .leq (.t 6) (.t 7), none, []⟩,⟨some 9, .mv (.t 8), none, []⟩,⟨some 10, .mv (.t 1), some (9, true), []⟩,⟨some 11, .fad (.t 2) 1, some (9, true), [2]⟩,⟨some 12, .load 1 false (.t 11), some (9, true), [2]⟩,⟨some 13, .bin .leq (.t 10) (.t 12), some (9, true), []⟩,⟨some 14, .pick (.t 9) (.t 13) (.c (.bool false)), none, []⟩,⟨some 4, .mv (.t 14), none, []⟩] [4]
theorem r108_1 : type_of% (@rr _ _ c108_1.eq_1) := rr rfl
def c108_2 : ACode := .seq c108_1 .ret
theorem r108_2 : type_of% (@rr _ _ c108_2.eq_1) := rr rfl
def c108_3 : ACode := .seq c108_0 c108_2
theorem r108_3 : type_of% (@rr _ _ c108_3.eq_1) := rr rfl
def a108 : AFun := ⟨2, 15, c108_3, [.t 4]⟩
attribute [simp] r108_0 r108_1 r108_2 r108_3
theorem m108 : mFun Try.prog Try.f108 a108 = true := by decide +kernel
noncomputable def RegOk (b : Box) (dim : Int) : Option Bool := Part (1 ≤ dim ∧ dim ≤ 4) (okRegion b dim)
theorem runs_region1 (b : Box) (dim : Int) (hd : dim = 1) : Runs (tbl [(117, sp1 fun (s : Span) => some s.empty), (75, sp2 Fits)]) a132 [Arg.enc b, Arg.enc dim] (Arg.enc (okRegion b dim)) := by
  refine ⟨rfl, fun g => run_def ?_⟩
  unfold a132
  have fz : fits 0 = true := rfl
  obtain ⟨⟨l0, h0⟩, ⟨l1, h1⟩, ⟨l2, h2⟩, ⟨l3, h3⟩, ⟨l4, h4⟩⟩ := b
  by_cases e0 : h0 < l0
  case pos => simp -implicitDefEqProofs [hd, run_round, Fits, fz, okRegion, okSpan, Span.empty, e0]
  cases f0 : fits l0
  case false => simp -implicitDefEqProofs [hd, run_round, Fits, fz, okRegion, okSpan, Span.empty, e0, f0]
  cases g0 : fits h0
  case false => simp -implicitDefEqProofs [hd, run_round, Fits, fz, okRegion, okSpan, Span.empty, e0, f0, g0]
  by_cases e1 : l1 = 0
  case neg => simp -implicitDefEqProofs [hd, run_round, Fits, fz, okRegion, okSpan, Span.empty, e0, f0, g0, e1]
  by_cases f1 : h1 = 0
  case neg => simp -implicitDefEqProofs [hd, run_round, Fits, fz, okRegion, okSpan, Span.empty, e0, f0, g0, e1, f1]
  by_cases e2 : l2 = 0
  case neg => simp -implicitDefEqProofs [hd, run_round, Fits, fz, okRegion, okSpan, Span.empty, e0, f0, g0, e1, f1, e2]
  by_cases f2 : h2 = 0
  case neg => simp -implicitDefEqProofs [hd, run_round, Fits, fz, okRegion, okSpan, Span.empty, e0, f0, g0, e1, f1, e2, f2]
  by_cases e3 : l3 = 0
  case neg => simp -implicitDefEqProofs [hd, run_round, Fits, fz, okRegion, okSpan, Span.empty, e0, f0, g0, e1, f1, e2, f2, e3]
  by_cases f3 : h3 = 0
  case neg => simp -implicitDefEqProofs [hd, run_round, Fits, fz, okRegion, okSpan, Span.empty, e0, f0, g0, e1, f1, e2, f2, e3, f3]
  by_cases e4 : l4 = 0
  case neg => simp -implicitDefEqProofs [hd, run_round, Fits, fz, okRegion, okSpan, Span.empty, e0, f0, g0, e1, f1, e2, f2, e3, f3, e4]
  by_cases f4 : h4 = 0
  case neg => simp -implicitDefEqProofs [hd, run_round, Fits, fz, okRegion, okSpan, Span.empty, e0, f0, g0, e1, f1, e2, f2, e3, f3, e4, f4]
  simp -implicitDefEqProofs [hd, run_round, Fits, fz, okRegion, okSpan, Span.empty, e0, f0, g0, e1, f1, e2, f2, e3, f3, e4, f4]
theorem runs_region2 (b : Box) (dim : Int) (hd : dim = 2) : Runs (tbl [(117, sp1 fun (s : Span) => some s.empty), (75, sp2 Fits)]) a132 [Arg.enc b, Arg.enc dim] (Arg.enc (okRegion b dim)) := by
  refine ⟨rfl, fun g => run_def ?_⟩
  unfold a132
  have fz : fits 0 = true := rfl
  obtain ⟨⟨l0, h0⟩, ⟨l1, h1⟩, ⟨l2, h2⟩, ⟨l3, h3⟩, ⟨l4, h4⟩⟩ := b
  by_cases e0 : h0 < l0
  case pos => simp -implicitDefEqProofs [hd, run_round, Fits, fz, okRegion, okSpan, Span.empty, e0]
  cases f0 : fits l0
  case false => simp -implicitDefEqProofs [hd, run_round, Fits, fz, okRegion, okSpan, Span.empty, e0, f0]
  cases g0 : fits h0
  case false => simp -implicitDefEqProofs [hd, run_round, Fits, fz, okRegion, okSpan, Span.empty, e0, f0, g0]
  by_cases e1 : h1 < l1
  case pos => simp -implicitDefEqProofs [hd, run_round, Fits, fz, okRegion, okSpan, Span.empty, e0, f0, g0, e1]
  cases f1 : fits l1
  case false => simp -implicitDefEqProofs [hd, run_round, Fits, fz, okRegion, okSpan, Span.empty, e0, f0, g0, e1, f1]
  cases g1 : fits h1
  case false => simp -implicitDefEqProofs [hd, run_round, Fits, fz, okRegion, okSpan, Span.empty, e0, f0, g0, e1, f1, g1]
  by_cases e2 : l2 = 0
  case neg => simp -implicitDefEqProofs [hd, run_round, Fits, fz, okRegion, okSpan, Span.empty, e0, f0, g0, e1, f1, g1, e2]
  by_cases f2 : h2 = 0
  case neg => simp -implicitDefEqProofs [hd, run_round, Fits, fz, okRegion, okSpan, Span.empty, e0, f0, g0, e1, f1, g1, e2, f2]
  by_cases e3 : l3 = 0
  case neg => simp -implicitDefEqProofs [hd, run_round, Fits, fz, okRegion, okSpan, Span.empty, e0, f0, g0, e1, f1, g1, e2, f2, e3]
  by_cases f3 : h3 = 0
  case neg => simp -implicitDefEqProofs [hd, run_round, Fits, fz, okRegion, okSpan, Span.empty, e0, f0, g0, e1, f1, g1, e2, f2, e3, f3]
  by_cases e4 : l4 = 0
  case neg => simp -implicitDefEqProofs [hd, run_round, Fits, fz, okRegion, okSpan, Span.empty, e0, f0, g0, e1, f1, g1, e2, f2, e3, f3, e4]
  by_cases f4 : h4 = 0
  case neg => simp -implicitDefEqProofs [hd, run_round, Fits, fz, okRegion, okSpan, Span.empty, e0, f0, g0, e1, f1, g1, e2, f2, e3, f3, e4, f4]
  simp -implicitDefEqProofs [hd, run_round, Fits, fz, okRegion, okSpan, Span.empty, e0, f0, g0, e1, f1, g1, e2, f2, e3, f3, e4, f4]
theorem runs_region3 (b : Box) (dim : Int) (hd : dim = 3) : Runs (tbl [(117, sp1 fun (s : Span) => some s.empty), (75, sp2 Fits)]) a132 [Arg.enc b, Arg.enc dim] (Arg.enc (okRegion b dim)) := by
  refine ⟨rfl, fun g => run_def ?_⟩
  unfold a132
  have fz : fits 0 = true := rfl
  obtain ⟨⟨l0, h0⟩, ⟨l1, h1⟩, ⟨l2, h2⟩, ⟨l3, h3⟩, ⟨l4, h4⟩⟩ := b
  by_cases e0 : h0 < l0
  case pos => simp -implicitDefEqProofs [hd, run_round, Fits, fz, okRegion, okSpan, Span.empty, e0]
  cases f0 : fits l0
  case false => simp -implicitDefEqProofs [hd, run_round, Fits, fz, okRegion, okSpan, Span.empty, e0, f0]
  cases g0 : fits h0
  case false => simp -implicitDefEqProofs [hd, run_round, Fits, fz, okRegion, okSpan, Span.empty, e0, f0, g0]
  by_cases e1 : h1 < l1
  case pos => simp -implicitDefEqProofs [hd, run_round, Fits, fz, okRegion, okSpan, Span.empty, e0, f0, g0, e1]
  cases f1 : fits l1
  case false => simp -implicitDefEqProofs [hd, run_round, Fits, fz, okRegion, okSpan, Span.empty, e0, f0, g0, e1, f1]
  cases g1 : fits h1
  case false => simp -implicitDefEqProofs [hd, run_round, Fits, fz, okRegion, okSpan, Span.empty, e0, f0, g0, e1, f1, g1]
  by_cases e2 : h2 < l2
  case pos => simp -implicitDefEqProofs [hd, run_round, Fits, fz, okRegion, okSpan, Span.empty, e0, f0, g0, e1, f1, g1, e2]
  cases f2 : fits l2
  case false => simp -implicitDefEqProofs [hd, run_round, Fits, fz, okRegion, okSpan, Span.empty, e0, f0, g0, e1, f1, g1, e2, f2]
  cases g2 : fits h2
  case false => simp -implicitDefEqProofs [hd, run_round, Fits, fz, okRegion, okSpan, Span.empty, e0, f0, g0, e1, f1, g1, e2, f2, g2]
  by_cases e3 : l3 = 0
  case neg => simp -implicitDefEqProofs [hd, run_round, Fits, fz, okRegion, okSpan, Span.empty, e0, f0, g0, e1, f1, g1, e2, f2, g2, e3]
  by_cases f3 : h3 = 0
  case neg => simp -implicitDefEqProofs [hd, run_round, Fits, fz, okRegion, okSpan, Span.empty, e0, f0, g0, e1, f1, g1, e2, f2, g2, e3, f3]
  by_cases e4 : l4 = 0
  case neg => simp -implicitDefEqProofs [hd, run_round, Fits, fz, okRegion, okSpan, Span.empty, e0, f0, g0, e1, f1, g1, e2, f2, g2, e3, f3, e4]
  by_cases f4 : h4 = 0
  case neg => simp -implicitDefEqProofs [hd, run_round, Fits, fz, okRegion, okSpan, Span.empty, e0, f0, g0, e1, f1, g1, e2, f2, g2, e3, f3, e4, f4]
  simp -implicitDefEqProofs [hd, run_round, Fits, fz, okRegion, okSpan, Span.empty, e0, f0, g0, e1, f1, g1, e2, f2, g2, e3, f3, e4, f4]
theorem runs_region4 (b : Box) (dim : Int) (hd : dim = 4) : Runs (tbl [(117, sp1 fun (s : Span) => some s.empty), (75, sp2 Fits)]) a132 [Arg.enc b, Arg.enc dim] (Arg.enc (okRegion b dim)) := by
  refine ⟨rfl, fun g => run_def ?_⟩
  unfold a132
  have fz : fits 0 = true := rfl
  obtain ⟨⟨l0, h0⟩, ⟨l1, h1⟩, ⟨l2, h2⟩, ⟨l3, h3⟩, ⟨l4, h4⟩⟩ := b
  by_cases e0 : h0 < l0
  case pos => simp -implicitDefEqProofs [hd, run_round, Fits, fz, okRegion, okSpan, Span.empty, e0]
  cases f0 : fits l0
  case false => simp -implicitDefEqProofs [hd, run_round, Fits, fz, okRegion, okSpan, Span.empty, e0, f0]
  cases g0 : fits h0
  case false => simp -implicitDefEqProofs [hd, run_round, Fits, fz, okRegion, okSpan, Span.empty, e0, f0, g0]
  by_cases e1 : h1 < l1
  case pos => simp -implicitDefEqProofs [hd, run_round, Fits, fz, okRegion, okSpan, Span.empty, e0, f0, g0, e1]
  cases f1 : fits l1
  case false => simp -implicitDefEqProofs [hd, run_round, Fits, fz, okRegion, okSpan, Span.empty, e0, f0, g0, e1, f1]
  cases g1 : fits h1
  case false => simp -implicitDefEqProofs [hd, run_round, Fits, fz, okRegion, okSpan, Span.empty, e0, f0, g0, e1, f1, g1]
  by_cases e2 : h2 < l2
  case pos => simp -implicitDefEqProofs [hd, run_round, Fits, fz, okRegion, okSpan, Span.empty, e0, f0, g0, e1, f1, g1, e2]
  cases f2 : fits l2
  case false => simp -implicitDefEqProofs [hd, run_round, Fits, fz, okRegion, okSpan, Span.empty, e0, f0, g0, e1, f1, g1, e2, f2]
  cases g2 : fits h2
  case false => simp -implicitDefEqProofs [hd, run_round, Fits, fz, okRegion, okSpan, Span.empty, e0, f0, g0, e1, f1, g1, e2, f2, g2]
  by_cases e3 : h3 < l3
  case pos => simp -implicitDefEqProofs [hd, run_round, Fits, fz, okRegion, okSpan, Span.empty, e0, f0, g0, e1, f1, g1, e2, f2, g2, e3]
  cases f3 : fits l3
  case false => simp -implicitDefEqProofs [hd, run_round, Fits, fz, okRegion, okSpan, Span.empty, e0, f0, g0, e1, f1, g1, e2, f2, g2, e3, f3]
  cases g3 : fits h3
  case false => simp -implicitDefEqProofs [hd, run_round, Fits, fz, okRegion, okSpan, Span.empty, e0, f0, g0, e1, f1, g1, e2, f2, g2, e3, f3, g3]
  by_cases e4 : l4 = 0
  case neg => simp -implicitDefEqProofs [hd, run_round, Fits, fz, okRegion, okSpan, Span.empty, e0, f0, g0, e1, f1, g1, e2, f2, g2, e3, f3, g3, e4]
  by_cases f4 : h4 = 0
  case neg => simp -implicitDefEqProofs [hd, run_round, Fits, fz, okRegion, okSpan, Span.empty, e0, f0, g0, e1, f1, g1, e2, f2, g2, e3, f3, g3, e4, f4]
  simp -implicitDefEqProofs [hd, run_round, Fits, fz, okRegion, okSpan, Span.empty, e0, f0, g0, e1, f1, g1, e2, f2, g2, e3, f3, g3, e4, f4]
theorem runs_region (b : Box) (dim : Int) (c : Bool) (h : RegOk b dim = some c) : Runs (tbl [(117, sp1 fun (s : Span) => some s.empty), (75, sp2 Fits)]) a132 [Arg.enc b, Arg.enc dim] (Arg.enc c) := by
  obtain ⟨hd, rfl⟩ := part_some h
  have hd : dim = 1 ∨ dim = 2 ∨ dim = 3 ∨ dim = 4 := by omega
  rcases hd with hd | hd | hd | hd
  · exact runs_region1 b dim hd
  · exact runs_region2 b dim hd
  · exact runs_region3 b dim hd
  · exact runs_region4 b dim hd
theorem c_region : Contract Try.prog 132 (sp2 RegOk) :=
  contract_of_runs mixed (tbl_cons c_sEmpty (tbl_cons c_Fits tbl_nil)) Try.func132 m132 (sp2_runs runs_region)
theorem runs_kind (m : Model) (q : Query) (c : Bool) (h : some (okKind m q) = some c) : Runs (tbl []) a133 [Arg.enc m, Arg.enc q] (Arg.enc c) := by
  cases h
  refine ⟨rfl, fun g => run_def ?_⟩
  unfold a133
  by_cases k1 : q.kind = 1
  case pos =>
    by_cases a0 : q.lo ≤ q.hi
    case neg => simp -implicitDefEqProofs [okKind, k1, a0]
    by_cases a1 : q.feature = 0
    case neg => simp -implicitDefEqProofs [okKind, k1, a0, a1]
    cases q.falls <;> simp -implicitDefEqProofs [okKind, k1, a0, a1]
  by_cases k2 : q.kind = 2
  case pos =>
    by_cases a0 : 2 ≤ m.classes
    case neg => simp -implicitDefEqProofs [okKind, k1, k2, a0]
    by_cases a1 : q.lo = 0
    case neg => simp -implicitDefEqProofs [okKind, k1, k2, a0, a1]
    by_cases a2 : q.hi = 0
    case neg => simp -implicitDefEqProofs [okKind, k1, k2, a0, a1, a2]
    by_cases a3 : q.feature = 0
    case neg => simp -implicitDefEqProofs [okKind, k1, k2, a0, a1, a2, a3]
    cases q.falls <;> simp -implicitDefEqProofs [okKind, k1, k2, a0, a1, a2, a3]
  by_cases k3 : q.kind = 3
  case pos =>
    by_cases a0 : 0 ≤ q.feature
    case neg => simp -implicitDefEqProofs [okKind, k1, k2, k3, a0]
    by_cases a1 : q.feature < m.dim
    case neg => simp -implicitDefEqProofs [okKind, k1, k2, k3, a0, a1]
    by_cases a2 : q.lo = 0
    case neg => simp -implicitDefEqProofs [okKind, k1, k2, k3, a0, a1, a2]
    simp -implicitDefEqProofs [okKind, k1, k2, k3, a0, a1, a2]
  simp -implicitDefEqProofs [okKind, k1, k2, k3]
theorem c_kind : Contract Try.prog 133 (sp2 fun m q => some (okKind m q)) :=
  contract_of_runs mixed tbl_nil Try.func133 m133 (sp2_runs runs_kind)
noncomputable def QRight (m : Model) (q : Query) : Option Bool := if m.dim < 1 then some false else Part (RM m) (okQuery m q)
theorem runs_qRight (m : Model) (q : Query) (c : Bool) (h : QRight m q = some c) : Runs (tbl [(27, sp1 MRight), (132, sp2 RegOk), (133, sp2 fun m q => some (okKind m q))]) a89 [Arg.enc m, Arg.enc q] (Arg.enc c) := by
  unfold QRight at h
  split at h
  · rename_i hd
    cases h
    refine ⟨rfl, fun g => run_def ?_⟩
    unfold a89
    have hM : MRight m = some false := by unfold MRight; rw [if_pos hd]
    simp -implicitDefEqProofs [hM]
  · rename_i hd
    obtain ⟨hr, rfl⟩ := part_some h
    refine ⟨rfl, fun g => run_def ?_⟩
    unfold a89
    have hM : MRight m = some true := by unfold MRight; rw [if_neg hd]; exact part_of hr _
    have hR : RegOk q.region m.dim = some (okRegion q.region m.dim) := part_of hr.dim _
    by_cases a0 : 0 ≤ q.cls
    case neg => simp -implicitDefEqProofs [okQuery, hM, hR, a0]
    by_cases a1 : q.cls < m.classes
    case neg => simp -implicitDefEqProofs [okQuery, hM, hR, a0, a1]
    by_cases a2 : 0 ≤ q.budget
    case neg => simp -implicitDefEqProofs [okQuery, hM, hR, a0, a1, a2]
    by_cases a3 : q.budget ≤ 65536
    case neg => simp -implicitDefEqProofs [okQuery, hM, hR, a0, a1, a2, a3]
    cases a4 : okRegion q.region m.dim
    case false => simp -implicitDefEqProofs [okQuery, hM, hR, a0, a1, a2, a3, a4]
    simp -implicitDefEqProofs [okQuery, hM, hR, a0, a1, a2, a3, a4]
theorem c_qRight : Contract Try.prog 89 (sp2 QRight) :=
  contract_of_runs mixed (tbl_cons c_mRight (tbl_cons c_region (tbl_cons c_kind tbl_nil))) Try.func89 m89 (sp2_runs runs_qRight)
theorem runs_paired (q : Query) (c : Bool) (h : some (paired q) = some c) : Runs (tbl []) a97 [Arg.enc q] (Arg.enc c) := by
  cases h
  refine ⟨rfl, fun g => run_def ?_⟩
  unfold a97
  by_cases k1 : q.kind = 3
  case neg => simp -implicitDefEqProofs [paired, k1]
  by_cases k2 : 0 ≤ q.feature
  case neg => simp -implicitDefEqProofs [paired, k1, k2]
  simp -implicitDefEqProofs [paired, k1, k2]
theorem c_paired : Contract Try.prog 97 (sp1 fun q => some (paired q)) :=
  contract_of_runs mixed tbl_nil Try.func97 m97 (sp1_runs runs_paired)
theorem paired_feature {q : Query} (h : paired q = true) : q.feature = 0 ∨ q.feature = 1 ∨ q.feature = 2 ∨ q.feature = 3 := by
  unfold paired at h
  simp only [Bool.and_eq_true, decide_eq_true_eq] at h
  omega
theorem runs_Start (q : Query) (c : Box) (h : some (startOf q) = some c) : Runs (tbl [(97, sp1 fun q => some (paired q))]) a45 [Arg.enc q] (Arg.enc c) := by
  cases h
  refine ⟨rfl, fun g => run_def ?_⟩
  unfold a45
  cases hp : paired q
  · simp -implicitDefEqProofs [startOf, hp]
  · have hf := paired_feature hp
    obtain ⟨kind, cls, region, lo, hi, feature, falls, budget⟩ := q
    simp only at hf
    rcases hf with rfl | rfl | rfl | rfl <;> simp -implicitDefEqProofs [startOf, hp, Box.get]
theorem c_Start : Contract Try.prog 45 (sp1 fun q => some (startOf q)) :=
  contract_of_runs mixed (tbl_cons c_paired tbl_nil) Try.func45 m45 (sp1_runs runs_Start)
theorem runs_Second (q : Query) (p : Point) (t : Int) (c : Point) (h : some (secondOf q p t) = some c) : Runs (tbl [(97, sp1 fun q => some (paired q))]) a109 [Arg.enc q, Arg.enc p, Arg.enc t] (Arg.enc c) := by
  cases h
  refine ⟨rfl, fun g => run_def ?_⟩
  unfold a109
  cases hp : paired q
  · simp -implicitDefEqProofs [secondOf, hp]
  · have hf := paired_feature hp
    obtain ⟨kind, cls, region, lo, hi, feature, falls, budget⟩ := q
    simp only at hf
    rcases hf with rfl | rfl | rfl | rfl <;> simp -implicitDefEqProofs [secondOf, hp, Point.set]
theorem c_Second : Contract Try.prog 109 (sp3 fun q p t => some (secondOf q p t)) :=
  contract_of_runs mixed (tbl_cons c_paired tbl_nil) Try.func109 m109 (sp3_runs runs_Second)
theorem runs_sHas (s : Span) (n : Int) (c : Bool) (h : some (s.has n) = some c) : Runs (tbl []) a108 [Arg.enc s, Arg.enc n] (Arg.enc c) := by
  cases h
  refine ⟨rfl, fun g => run_def ?_⟩
  unfold a108
  by_cases h1 : s.lo ≤ n <;> simp -implicitDefEqProofs [Span.has, h1]
theorem c_sHas : Contract Try.prog 108 (sp2 fun (s : Span) n => some (s.has n)) :=
  contract_of_runs mixed tbl_nil Try.func108 m108 (sp2_runs runs_sHas)
end Go.Co
/- CO: boxes of a query, cuts of boxes and their counts. -/
namespace Go.Co
open Go.Am Go.Proofs
set_option linter.unusedSimpArgs false
set_option linter.unusedVariables false
def smallB (b : Box) : Prop := small b.s0 ∧ small b.s1 ∧ small b.s2 ∧ small b.s3 ∧ small b.s4
theorem get_spans {b : Box} (h : b.empty = false) (i : Int) : (b.get i).lo ≤ (b.get i).hi := by
  have := empty_spec h
  unfold Span.empty at this
  simp only [decide_eq_false_iff_not] at this
  unfold Box.get
  split
  · omega
  · split
    · omega
    · split
      · omega
      · split <;> omega
theorem get_small {b : Box} (h : smallB b) (i : Int) : small (b.get i) := by
  obtain ⟨h0, h1, h2, h3, h4⟩ := h
  unfold Box.get
  split
  · exact h0
  · split
    · exact h1
    · split
      · exact h2
      · split
        · exact h3
        · exact h4
theorem set_empty {b : Box} (h : b.empty = false) (i : Int) (s : Span) (h0 : 0 ≤ i) (h5 : i < 5) : (b.set i s).empty = s.empty := by
  obtain ⟨e0, e1, e2, e3, e4⟩ := empty_spec h
  have : i = 0 ∨ i = 1 ∨ i = 2 ∨ i = 3 ∨ i = 4 := by omega
  rcases this with rfl | rfl | rfl | rfl | rfl <;> simp [Box.set, Box.empty, e0, e1, e2, e3, e4]
end Go.Co
/- CO: the cells of a box, by places; points of one cell come to the same. -/
namespace Go.Co
open Go.Am Go.Proofs
set_option linter.unusedSimpArgs false
set_option linter.unusedVariables false
theorem cuts_ok {m : Model} (hm : RM m) {q : Query} {b : Box} {i : Int} : ∀ t ∈ cutsL m q b i, ok64 t := by
  intro t ht
  unfold cutsL at ht
  split at ht
  · simp at ht
  · rw [List.mem_filter] at ht
    obtain ⟨ht, _⟩ := ht
    obtain ⟨tr, htr, w, hw, hl, _, rfl⟩ := mem_thr.1 ht
    have hr := hm.rt htr
    obtain ⟨j, hj, rfl⟩ := List.mem_iff_getElem.1 hw
    have := ok64_fits (hr.cutOk hj)
    rwa [ndAt_lt hj] at this
theorem set_get_ite (b : Box) {k i : Int} (s : Span) (h0 : 0 ≤ k) (h5 : k < 5) (i0 : 0 ≤ i) (i5 : i < 5) : (b.set k s).get i = if i = k then s else b.get i := by
  have h1 : k = 0 ∨ k = 1 ∨ k = 2 ∨ k = 3 ∨ k = 4 := by omega
  have h2 : i = 0 ∨ i = 1 ∨ i = 2 ∨ i = 3 ∨ i = 4 := by omega
  rcases h1 with rfl | rfl | rfl | rfl | rfl <;> rcases h2 with rfl | rfl | rfl | rfl | rfl <;> rfl
def ptG (p : Point) (t : Int) (i : Int) : Int := if i < 4 then p.get i else t
theorem inB_pt {b : Box} {p : Point} {t : Int} : InB b p t ↔ ∀ i : Int, 0 ≤ i → i < 5 → InS (b.get i) (ptG p t i) := by
  constructor
  · rintro ⟨h0, h1, h2, h3, h4⟩ i i0 i5
    have h1 : i = 0 ∨ i = 1 ∨ i = 2 ∨ i = 3 ∨ i = 4 := by omega
    rcases h1 with rfl | rfl | rfl | rfl | rfl <;> assumption
  · intro h
    exact ⟨h 0 (by omega) (by omega), h 1 (by omega) (by omega), h 2 (by omega) (by omega), h 3 (by omega) (by omega), h 4 (by omega) (by omega)⟩
theorem empty_get {b : Box} : b.empty = false ↔ ∀ i : Int, 0 ≤ i → i < 5 → (b.get i).lo ≤ (b.get i).hi := by
  constructor
  · intro h i _ _; exact get_spans h i
  · intro h
    have h0 := h 0 (by omega) (by omega)
    have h1 := h 1 (by omega) (by omega)
    have h2 := h 2 (by omega) (by omega)
    have h3 := h 3 (by omega) (by omega)
    have h4 := h 4 (by omega) (by omega)
    unfold Box.empty Span.empty
    simp only [Bool.or_eq_false_iff, decide_eq_false_iff_not]
    simp only [Box.get, Int.reduceEq, if_true, if_false] at h0 h1 h2 h3 h4
    omega
theorem cuts_sorted (m : Model) (q : Query) (b : Box) (k : Int) : (cutsL m q b k).Pairwise (· < ·) := by
  unfold cutsL
  split
  · exact .nil
  · exact (thr_sorted m _).filter _
theorem cuts_in {m : Model} {q : Query} {b : Box} {k : Int} : ∀ t ∈ cutsL m q b k, (b.get k).lo ≤ t ∧ t < (b.get k).hi := by
  intro t ht
  unfold cutsL at ht
  split at ht
  · simp at ht
  · rw [List.mem_filter] at ht
    have := ht.2
    simp only [outS, Bool.not_eq_true', Bool.or_eq_false_iff, decide_eq_false_iff_not] at this
    omega
structure PartTo (m : Model) (q : Query) (b : Box) (j : Nat) (x : Box) : Prop where
  done : ∀ i : Int, 0 ≤ i → i < j → (x.get i).lo ≤ (x.get i).hi ∧ (b.get i).lo ≤ (x.get i).lo ∧ (x.get i).hi ≤ (b.get i).hi ∧ ∀ t ∈ cutsL m q b i, t < (x.get i).lo ∨ (x.get i).hi ≤ t
  rest : ∀ i : Int, (j : Int) ≤ i → i < 5 → x.get i = b.get i
def lowB (b : Box) : Point := ⟨b.s0.lo, b.s1.lo, b.s2.lo, b.s3.lo⟩
theorem low_in {x : Box} (h : x.empty = false) : InB x (lowB x) x.s4.hi := by
  have := empty_spec h
  unfold Span.empty at this
  simp only [decide_eq_false_iff_not] at this
  unfold InB InS lowB
  simp only
  omega
end Go.Co
/- CO: what breaks a query. -/
set_option maxHeartbeats 16000000
set_option maxRecDepth 100000
namespace Go.Co
open Go.Am Go.Proofs
set_option linter.unusedSimpArgs false
set_option linter.unusedVariables false
def c57_0 : ACode := .ops [⟨some 4, .box (.t 0) 6, none, []⟩,⟨some 5, .box (.t 1) 17, none, []⟩,⟨some 6, .box (.t 2) 4, none, []⟩,⟨some 8, .mv (.c (.bool false)), none, []⟩] [3, 4, 5, 6]
theorem r57_0 : type_of% (@rr _ _ c57_0.eq_1) := rr rfl
def c57_1 : ACode := .ops [⟨some 12, .load 6 true (.t 4), none, [4]⟩,⟨some 13, .load 17 true (.t 5), none, [5]⟩,⟨some 14, .call 89 [.t 12, .t 13], none, []⟩,⟨some 15, .un .not (.t 14), none, []⟩] [3, 4, 5, 6, 15]
theorem r57_1 : type_of% (@rr _ _ c57_1.eq_1) := rr rfl
def c57_2 : ACode := .ops [⟨some 8, .mv (.c (.bool false)), none, []⟩] [8]
theorem r57_2 : type_of% (@rr _ _ c57_2.eq_1) := rr rfl
def c57_3 : ACode := .seq c57_2 .ret
theorem r57_3 : type_of% (@rr _ _ c57_3.eq_1) := rr rfl
def c57_4 : ACode := .cond (.t 15) c57_3 .skip
theorem r57_4 : type_of% (@rr _ _ c57_4.eq_1) := rr rfl
def c57_5 : ACode := .seq c57_1 c57_4
theorem r57_5 : type_of% (@rr _ _ c57_5.eq_1) := rr rfl
def c57_6 : ACode := .ops [⟨some 16, .load 6 true (.t 4), none, [4]⟩,⟨some 17, .fad (.t 5) 1, none, [5]⟩,⟨some 18, .load 1 false (.t 17), none, [5]⟩,⟨some 19, .load 4 true (.t 6), none, [6]⟩,⟨some 20, .call 28 [.t 16, .t 18, .t 19], none, []⟩,⟨some 9, .mv (.t 20), none, []⟩] [3, 4, 5, 6, 9]
theorem r57_6 : type_of% (@rr _ _ c57_6.eq_1) := rr rfl
def c57_7 : ACode := .ops [⟨some 21, .fad (.t 5) 0, none, [5]⟩,⟨some 22, .load 1 false (.t 21), none, [5]⟩] [3, 4, 5, 6, 9, 22]
theorem r57_7 : type_of% (@rr _ _ c57_7.eq_1) := rr rfl
def c57_8 : ACode := .ops [⟨some 24, .bin .eql (.t 22) (.c (.int .i64 1)), none, []⟩,⟨some 23, .mv (.t 24), none, []⟩] [3, 4, 5, 6, 9, 22, 23]
theorem r57_8 : type_of% (@rr _ _ c57_8.eq_1) := rr rfl
def c57_9 : ACode := .ops [⟨some 25, .fad (.t 5) 12, none, [5]⟩,⟨some 26, .load 1 false (.t 25), none, [5]⟩,⟨some 27, .fad (.t 5) 13, none, [5]⟩,⟨some 28, .load 1 false (.t 27), none, [5]⟩,⟨some 29, .build [.int .i64 0, .int .i64 0] [(0, 1, .t 26), (1, 1, .t 28)], none, []⟩,⟨some 30, .mv (.t 9), none, []⟩,⟨some 31, .call 108 [.t 29, .t 30], none, []⟩,⟨some 32, .un .not (.t 31), none, []⟩,⟨some 8, .mv (.t 32), none, []⟩] [8]
theorem r57_9 : type_of% (@rr _ _ c57_9.eq_1) := rr rfl
def c57_10 : ACode := .seq c57_9 .ret
theorem r57_10 : type_of% (@rr _ _ c57_10.eq_1) := rr rfl
def c57_11 : ACode := .ops [⟨some 34, .bin .eql (.t 22) (.c (.int .i64 2)), none, []⟩,⟨some 33, .mv (.t 34), none, []⟩] [3, 4, 5, 6, 9, 33]
theorem r57_11 : type_of% (@rr _ _ c57_11.eq_1) := rr rfl
def c57_12 : ACode := .ops [⟨some 35, .fad (.t 4) 1, none, [4]⟩,⟨some 36, .load 1 false (.t 35), none, [4]⟩,⟨some 37, .mv (.c (.int .i64 0)), none, []⟩] [4, 5, 6, 9, 36, 37]
theorem r57_12 : type_of% (@rr _ _ c57_12.eq_1) := rr rfl
def c57_13 : ACode := .ops [⟨some 38, .bin .lss (.t 37) (.t 36), none, []⟩] [4, 5, 6, 9, 36, 37, 38]
theorem r57_13 : type_of% (@rr _ _ c57_13.eq_1) := rr rfl
def c57_14 : ACode := .cond (.t 38) .skip (.exit 1)
theorem r57_14 : type_of% (@rr _ _ c57_14.eq_1) := rr rfl
def c57_15 : ACode := .ops [⟨some 39, .mv (.t 37), none, []⟩,⟨some 10, .mv (.t 39), none, []⟩] [4, 5, 6, 9, 10, 36, 37]
theorem r57_15 : type_of% (@rr _ _ c57_15.eq_1) := rr rfl
def c57_16 : ACode := .ops [⟨some 40, .mv (.t 10), none, []⟩,⟨some 41, .fad (.t 5) 1, none, [5]⟩,⟨some 42, .load 1 false (.t 41), none, [5]⟩,⟨some 43, .bin .neq (.t 40) (.t 42), none, []⟩,⟨some 44, .mv (.t 43), none, []⟩,⟨some 45, .load 6 true (.t 4), some (44, true), [4]⟩,⟨some 46, .mv (.t 10), some (44, true), []⟩,⟨some 47, .load 4 true (.t 6), some (44, true), [6]⟩,⟨some 48, .call 28 [.t 45, .t 46, .t 47], some (44, true), []⟩,⟨some 49, .mv (.t 9), some (44, true), []⟩,⟨some 50, .bin .geq (.t 48) (.t 49), some (44, true), []⟩,⟨some 51, .pick (.t 44) (.t 50) (.c (.bool false)), none, []⟩] [4, 5, 6, 9, 36, 37, 51]
theorem r57_16 : type_of% (@rr _ _ c57_16.eq_1) := rr rfl
def c57_17 : ACode := .ops [⟨some 8, .mv (.c (.bool true)), none, []⟩] [8]
theorem r57_17 : type_of% (@rr _ _ c57_17.eq_1) := rr rfl
def c57_18 : ACode := .seq c57_17 .ret
theorem r57_18 : type_of% (@rr _ _ c57_18.eq_1) := rr rfl
def c57_19 : ACode := .cond (.t 51) c57_18 .skip
theorem r57_19 : type_of% (@rr _ _ c57_19.eq_1) := rr rfl
def c57_20 : ACode := .seq c57_16 c57_19
theorem r57_20 : type_of% (@rr _ _ c57_20.eq_1) := rr rfl
def c57_21 : ACode := .seq c57_15 c57_20
theorem r57_21 : type_of% (@rr _ _ c57_21.eq_1) := rr rfl
def c57_22 : ACode := .block 2 c57_21
theorem r57_22 : type_of% (@rr _ _ c57_22.eq_1) := rr rfl
def c57_23 : ACode := .ops [⟨some 52, .bin .add (.t 37) (.c (.int .i64 1)), none, []⟩,⟨some 37, .mv (.t 52), none, []⟩] [4, 5, 6, 9, 36, 37]
theorem r57_23 : type_of% (@rr _ _ c57_23.eq_1) := rr rfl
def c57_24 : ACode := .seq c57_22 c57_23
theorem r57_24 : type_of% (@rr _ _ c57_24.eq_1) := rr rfl
def c57_25 : ACode := .seq c57_14 c57_24
theorem r57_25 : type_of% (@rr _ _ c57_25.eq_1) := rr rfl
def c57_26 : ACode := .seq c57_13 c57_25
theorem r57_26 : type_of% (@rr _ _ c57_26.eq_1) := rr rfl
def c57_27 : ACode := .keep [4, 5, 6, 9, 36, 37] [4, 5, 6] c57_26
theorem r57_27 : type_of% (@rr _ _ c57_27.eq_1) := rr rfl
def c57_28 : ACode := .loop c57_27
theorem r57_28 : type_of% (@rr _ _ c57_28.eq_1) := rr rfl
def c57_29 : ACode := .block 1 c57_28
theorem r57_29 : type_of% (@rr _ _ c57_29.eq_1) := rr rfl
def c57_30 : ACode := .seq c57_12 c57_29
theorem r57_30 : type_of% (@rr _ _ c57_30.eq_1) := rr rfl
def c57_31 : ACode := .ops [⟨some 8, .mv (.c (.bool false)), none, []⟩] [8]
theorem r57_31 : type_of% (@rr _ _ c57_31.eq_1) := rr rfl
def c57_32 : ACode := .seq c57_31 .ret
theorem r57_32 : type_of% (@rr _ _ c57_32.eq_1) := rr rfl
def c57_33 : ACode := .seq c57_30 c57_32
theorem r57_33 : type_of% (@rr _ _ c57_33.eq_1) := rr rfl
def c57_34 : ACode := .cond (.t 33) c57_33 .skip
theorem r57_34 : type_of% (@rr _ _ c57_34.eq_1) := rr rfl
def c57_35 : ACode := .seq c57_11 c57_34
theorem r57_35 : type_of% (@rr _ _ c57_35.eq_1) := rr rfl
def c57_36 : ACode := .cond (.t 23) c57_10 c57_35
theorem r57_36 : type_of% (@rr _ _ c57_36.eq_1) := rr rfl
def c57_37 : ACode := .seq c57_8 c57_36
theorem r57_37 : type_of% (@rr _ _ c57_37.eq_1) := rr rfl
def c57_38 : ACode := .block 0 c57_37
theorem r57_38 : type_of% (@rr _ _ c57_38.eq_1) := rr rfl
def c57_39 : ACode := .seq c57_7 c57_38
theorem r57_39 : type_of% (@rr _ _ c57_39.eq_1) := rr rfl
def c57_40 : ACode := .ops [⟨some 53, .fad (.t 5) 14, none, [5]⟩,⟨some 54, .load 1 false (.t 53), none, [5]⟩,⟨some 55, .iad (.t 6) (.t 54) 1 4, none, [6]⟩,⟨some 56, .load 1 false (.t 55), none, [6]⟩,⟨some 57, .mv (.t 3), none, []⟩,⟨some 58, .bin .geq (.t 56) (.t 57), none, []⟩] [3, 4, 5, 6, 9, 58]
theorem r57_40 : type_of% (@rr _ _ c57_40.eq_1) := rr rfl
def c57_41 : ACode := .ops [⟨some 8, .mv (.c (.bool false)), none, []⟩] [8]
theorem r57_41 : type_of% (@rr _ _ c57_41.eq_1) := rr rfl
def c57_42 : ACode := .seq c57_41 .ret
theorem r57_42 : type_of% (@rr _ _ c57_42.eq_1) := rr rfl
def c57_43 : ACode := .cond (.t 58) c57_42 .skip
theorem r57_43 : type_of% (@rr _ _ c57_43.eq_1) := rr rfl
def c57_44 : ACode := .seq c57_40 c57_43
theorem r57_44 : type_of% (@rr _ _ c57_44.eq_1) := rr rfl
def c57_45 : ACode := .ops [⟨some 59, .load 6 true (.t 4), none, [4]⟩,⟨some 60, .fad (.t 5) 1, none, [5]⟩,⟨some 61, .load 1 false (.t 60), none, [5]⟩,⟨some 62, .load 17 true (.t 5), none, [5]⟩,⟨some 63, .load 4 true (.t 6), none, [6]⟩,⟨some 64, .mv (.t 3), none, []⟩,⟨some 65, .call 109 [.t 62, .t 63, .t 64], none, []⟩,⟨some 66, .call 28 [.t 59, .t 61, .t 65], none, []⟩,⟨some 11, .mv (.t 66), none, []⟩] [5, 9, 11]
theorem r57_45 : type_of% (@rr _ _ c57_45.eq_1) := rr rfl
def c57_46 : ACode := .ops [⟨some 67, .fad (.t 5) 15, none, [5]⟩,⟨some 68, .load 1 false (.t 67), none, [5]⟩] [9, 11, 68]
theorem r57_46 : type_of% (@rr _ _ c57_46.eq_1) := rr rfl
def c57_47 : ACode := .ops [⟨some 69, .mv (.t 11), none, []⟩,⟨some 70, .mv (.t 9), none, []⟩,⟨some 71, .bin .gtr (.t 69) (.t 70), none, []⟩,⟨some 8, .mv (.t 71), none, []⟩] [8]
theorem r57_47 : type_of% (@rr _ _ c57_47.eq_1) := rr rfl
def c57_48 : ACode := .seq c57_47 .ret
theorem r57_48 : type_of% (@rr _ _ c57_48.eq_1) := rr rfl
def c57_49 : ACode := .cond (.t 68) c57_48 .skip
theorem r57_49 : type_of% (@rr _ _ c57_49.eq_1) := rr rfl
def c57_50 : ACode := .seq c57_46 c57_49
theorem r57_50 : type_of% (@rr _ _ c57_50.eq_1) := rr rfl
def c57_51 : ACode := .ops [⟨some 72, .mv (.t 11), none, []⟩,⟨some 73, .mv (.t 9), none, []⟩,⟨some 74, .bin .lss (.t 72) (.t 73), none, []⟩,⟨some 8, .mv (.t 74), none, []⟩] [8]
theorem r57_51 : type_of% (@rr _ _ c57_51.eq_1) := rr rfl
def c57_52 : ACode := .seq c57_51 .ret
theorem r57_52 : type_of% (@rr _ _ c57_52.eq_1) := rr rfl
def c57_53 : ACode := .seq c57_50 c57_52
theorem r57_53 : type_of% (@rr _ _ c57_53.eq_1) := rr rfl
def c57_54 : ACode := .seq c57_45 c57_53
theorem r57_54 : type_of% (@rr _ _ c57_54.eq_1) := rr rfl
def c57_55 : ACode := .seq c57_44 c57_54
theorem r57_55 : type_of% (@rr _ _ c57_55.eq_1) := rr rfl
def c57_56 : ACode := .seq c57_39 c57_55
theorem r57_56 : type_of% (@rr _ _ c57_56.eq_1) := rr rfl
def c57_57 : ACode := .seq c57_6 c57_56
theorem r57_57 : type_of% (@rr _ _ c57_57.eq_1) := rr rfl
def c57_58 : ACode := .seq c57_5 c57_57
theorem r57_58 : type_of% (@rr _ _ c57_58.eq_1) := rr rfl
def c57_59 : ACode := .seq c57_0 c57_58
theorem r57_59 : type_of% (@rr _ _ c57_59.eq_1) := rr rfl
def a57 : AFun := ⟨4, 75, c57_59, [.t 8]⟩
attribute [simp] r57_0 r57_1 r57_2 r57_3 r57_4 r57_5 r57_6 r57_7 r57_8 r57_9 r57_10 r57_11 r57_12 r57_13 r57_14 r57_15 r57_16 r57_17 r57_18 r57_19 r57_20 r57_21 r57_22 r57_23 r57_24 r57_25 r57_26 r57_27 r57_28 r57_29 r57_30 r57_31 r57_32 r57_33 r57_34 r57_35 r57_36 r57_37 r57_38 r57_39 r57_40 r57_41 r57_42 r57_43 r57_44 r57_45 r57_46 r57_47 r57_48 r57_49 r57_50 r57_51 r57_52 r57_53 r57_54 r57_55 r57_56 r57_57 r57_58 r57_59
theorem m57 : mFun Try.prog Try.f57 a57 = true := by decide +kernel
theorem okQuery_spec {m : Model} {q : Query} (h : okQuery m q = true) : 0 ≤ q.cls ∧ q.cls < m.classes ∧ 0 ≤ q.budget ∧ q.budget ≤ 65536 ∧ okRegion q.region m.dim = true ∧ okKind m q = true := by
  unfold okQuery at h
  simp only [Bool.and_eq_true, decide_eq_true_eq] at h
  exact ⟨h.1.1.1.1.1, h.1.1.1.1.2, h.1.1.1.2, h.1.1.2, h.1.2, h.2⟩
theorem okKind_spec {m : Model} {q : Query} (h : okKind m q = true) :
    (q.kind = 1 ∧ q.lo ≤ q.hi ∧ q.feature = 0 ∧ q.falls = false) ∨ (q.kind = 2 ∧ 2 ≤ m.classes ∧ q.lo = 0 ∧ q.hi = 0 ∧ q.feature = 0 ∧ q.falls = false) ∨ (q.kind = 3 ∧ 0 ≤ q.feature ∧ q.feature < m.dim ∧ q.lo = 0 ∧ q.hi = 0) := by
  unfold okKind at h
  split at h
  · simp only [Bool.and_eq_true, decide_eq_true_eq, Bool.not_eq_true'] at h
    exact .inl ⟨‹_›, h.1.1, h.1.2, h.2⟩
  · split at h
    · simp only [Bool.and_eq_true, decide_eq_true_eq, Bool.not_eq_true'] at h
      exact .inr (.inl ⟨‹_›, h.1.1.1.1, h.1.1.1.2, h.1.1.2, h.1.2, h.2⟩)
    · split at h
      · simp only [Bool.and_eq_true, decide_eq_true_eq] at h
        exact .inr (.inr ⟨‹_›, h.1.1.1, h.1.1.2, h.1.2, h.2⟩)
      · cases h
noncomputable def BreaksC (m : Model) (q : Query) (p : Point) (t : Int) : Option Bool := Part (RM m) (breaks m q p t)
theorem runs_Breaks (m : Model) (q : Query) (p : Point) (t : Int) (c : Bool) (h : BreaksC m q p t = some c) :
    Runs (tbl [(89, sp2 QRight), (28, sp3 Eval), (108, sp2 fun (s : Span) n => some (s.has n)), (109, sp3 fun q p t => some (secondOf q p t))]) a57 [Arg.enc m, Arg.enc q, Arg.enc p, Arg.enc t] (Arg.enc c) := by
  obtain ⟨hr, rfl⟩ := part_some h
  refine ⟨rfl, fun g => run_def ?_⟩
  unfold a57
  have hM : QRight m q = some (okQuery m q) := by unfold QRight; rw [if_neg (by have := hr.dim; omega)]; exact part_of hr _
  cases hq : okQuery m q
  case false => simp -implicitDefEqProofs [hM, hq, breaks]
  have hs := okQuery_spec hq
  have hE := eval_of hr hs.1 hs.2.1 p
  have hc3 := hr.classes
  have hks := okKind_spec hs.2.2.2.2.2
  obtain ⟨kind, cls, region, lo, hi, feature, falls, budget⟩ := q
  simp only at hE hks hs
  rcases hks with ⟨k, _⟩ | ⟨k, k2, _⟩ | ⟨k, f0, f1, _⟩
  · subst k
    simp -implicitDefEqProofs [hM, hq, breaks, hE]
  · subst k
    have e0 := eval_of hr (c := 0) (by omega) (by omega) p
    have e1 := eval_of hr (c := 1) (by omega) (by omega) p
    obtain ⟨dim, classes, bias, trees⟩ := m
    simp only at hE hc3 k2 hs
    have hcl : classes = 2 ∨ classes = 3 := by omega
    have hcs : cls = 0 ∨ cls = 1 ∨ cls = 2 := by omega
    have rg2 : List.range 2 = [0, 1] := rfl
    have rg3 : List.range 3 = [0, 1, 2] := rfl
    rcases hcl with rfl | rfl
    · have hcs : cls = 0 ∨ cls = 1 := by omega
      rcases hcs with rfl | rfl
      · by_cases g0 : evalM (⟨dim, 2, bias, trees⟩ : Model) 0 p ≤ evalM (⟨dim, 2, bias, trees⟩ : Model) 1 p <;> simp -implicitDefEqProofs [hM, hq, breaks, e0, e1, g0, run_round, beaten, rg2]
      · by_cases g0 : evalM (⟨dim, 2, bias, trees⟩ : Model) 1 p ≤ evalM (⟨dim, 2, bias, trees⟩ : Model) 0 p <;> simp -implicitDefEqProofs [hM, hq, breaks, e0, e1, g0, run_round, beaten, rg2]
    · have e2 := eval_of hr (c := 2) (by omega) (by simp) p
      rcases hcs with rfl | rfl | rfl
      · by_cases g0 : evalM (⟨dim, 3, bias, trees⟩ : Model) 0 p ≤ evalM (⟨dim, 3, bias, trees⟩ : Model) 1 p <;> by_cases g1 : evalM (⟨dim, 3, bias, trees⟩ : Model) 0 p ≤ evalM (⟨dim, 3, bias, trees⟩ : Model) 2 p <;> simp -implicitDefEqProofs [hM, hq, breaks, e0, e1, e2, g0, g1, run_round, beaten, rg3]
      · by_cases g0 : evalM (⟨dim, 3, bias, trees⟩ : Model) 1 p ≤ evalM (⟨dim, 3, bias, trees⟩ : Model) 0 p <;> by_cases g1 : evalM (⟨dim, 3, bias, trees⟩ : Model) 1 p ≤ evalM (⟨dim, 3, bias, trees⟩ : Model) 2 p <;> simp -implicitDefEqProofs [hM, hq, breaks, e0, e1, e2, g0, g1, run_round, beaten, rg3]
      · by_cases g0 : evalM (⟨dim, 3, bias, trees⟩ : Model) 2 p ≤ evalM (⟨dim, 3, bias, trees⟩ : Model) 0 p <;> by_cases g1 : evalM (⟨dim, 3, bias, trees⟩ : Model) 2 p ≤ evalM (⟨dim, 3, bias, trees⟩ : Model) 1 p <;> simp -implicitDefEqProofs [hM, hq, breaks, e0, e1, e2, g0, g1, run_round, beaten, rg3]
  · subst k
    have f2 : feature < 4 := by have := hr.dim; omega
    have hE2 := eval_of hr hs.1 hs.2.1 (secondOf ⟨3, cls, region, lo, hi, feature, falls, budget⟩ p t)
    by_cases g1 : t ≤ p.get feature
    · have g2 : ¬ p.get feature < t := by omega
      simp -implicitDefEqProofs [hM, hq, breaks, hE, f0, f2, g1, g2]
    · have g2 : p.get feature < t := by omega
      cases falls
      · simp -implicitDefEqProofs [hM, hq, breaks, hE, hE2, f0, f2, g1, g2]
      · simp -implicitDefEqProofs [hM, hq, breaks, hE, hE2, f0, f2, g1, g2]
theorem c_Breaks : Contract Try.prog 57 (sp4 BreaksC) :=
  contract_of_runs mixed (tbl_cons c_qRight (tbl_cons c_Eval (tbl_cons c_sHas (tbl_cons c_Second tbl_nil)))) Try.func57 m57 (sp4_runs runs_Breaks)
end Go.Co
/- CO: the cells of a box; does a query hold? -/
namespace Go.Co
open Go.Am Go.Proofs
set_option linter.unusedSimpArgs false
set_option linter.unusedVariables false
attribute [-simp] Go.Am.eff_gcall
theorem lenB (l : List Box) : l.length * 10 ≤ (encL l).length := by rw [encL_length]; exact Nat.le_refl _
theorem takeB (l : List Box) : List.take (l.length * 10) (encL l) = encL l := by rw [List.take_of_length_le]; rw [encL_length]; exact Nat.le_refl _
theorem encL_snocB (X : List Box) (c : Box) : encL (X ++ [c]) = encL X ++ [.int .i64 c.s0.lo, .int .i64 c.s0.hi, .int .i64 c.s1.lo, .int .i64 c.s1.hi, .int .i64 c.s2.lo, .int .i64 c.s2.hi, .int .i64 c.s3.lo, .int .i64 c.s3.hi, .int .i64 c.s4.lo, .int .i64 c.s4.hi] := by rw [encL_append]; rfl
def corner (m : Model) (q : Query) (b : Box) : Bool := breaks m q (lowB b) b.s4.hi
@[simp] theorem dec_ref_query (q : Query) : (Arg.dec (.ipt 0 [.int .i64 q.kind, .int .i64 q.cls, .int .i64 q.region.s0.lo, .int .i64 q.region.s0.hi, .int .i64 q.region.s1.lo, .int .i64 q.region.s1.hi, .int .i64 q.region.s2.lo, .int .i64 q.region.s2.hi, .int .i64 q.region.s3.lo, .int .i64 q.region.s3.hi, .int .i64 q.region.s4.lo, .int .i64 q.region.s4.hi, .int .i64 q.lo, .int .i64 q.hi, .int .i64 q.feature, .bool q.falls, .int .i64 q.budget]) : Option (Ref Query)) = some ⟨q⟩ := Arg.dec_enc (⟨q⟩ : Ref Query)
structure CloH where
  m : Model
  q : Query
instance : Arg CloH where
  enc r := .clo 99 [.ipt 0 (Row.enc r.m), .ipt 0 (Row.enc r.q)]
  dec x := match x with
    | .clo f [.ipt 0 xs, .ipt 0 ys] => if f = 99 then (Row.dec xs).bind fun m => (Row.dec ys).map fun q => CloH.mk m q else none
    | _ => none
  dec_enc r := by simp only [if_true, Row.dec_enc]; rfl
  enc_dec x r h := by
    split at h
    · split at h
      · rename_i he
        rw [Option.bind_eq_some_iff] at h
        obtain ⟨a, ha, h⟩ := h
        rw [Option.map_eq_some_iff] at h
        obtain ⟨c, hc, rfl⟩ := h
        rw [Row.enc_dec _ _ ha, Row.enc_dec _ _ hc, he]
      · cases h
    · cases h
@[simp] theorem enc_cloh (r : CloH) : Arg.enc r = .clo 99 [.ipt 0 (Row.enc r.m), .ipt 0 (Row.enc r.q)] := rfl
@[simp] theorem dec_cloh (m : Model) (q : Query) : (Arg.dec (.clo 99 [.ipt 0 [.int .i64 m.dim, .int .i64 m.classes, .int .i64 m.bias.b0, .int .i64 m.bias.b1, .int .i64 m.bias.b2, .lst m.trees.length (encL m.trees)], .ipt 0 [.int .i64 q.kind, .int .i64 q.cls, .int .i64 q.region.s0.lo, .int .i64 q.region.s0.hi, .int .i64 q.region.s1.lo, .int .i64 q.region.s1.hi, .int .i64 q.region.s2.lo, .int .i64 q.region.s2.hi, .int .i64 q.region.s3.lo, .int .i64 q.region.s3.hi, .int .i64 q.region.s4.lo, .int .i64 q.region.s4.hi, .int .i64 q.lo, .int .i64 q.hi, .int .i64 q.feature, .bool q.falls, .int .i64 q.budget]]) : Option CloH) = some ⟨m, q⟩ := Arg.dec_enc (⟨m, q⟩ : CloH)
end Go.Co
