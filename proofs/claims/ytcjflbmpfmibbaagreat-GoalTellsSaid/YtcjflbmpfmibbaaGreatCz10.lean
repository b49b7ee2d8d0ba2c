/- CO: texts of this claim, one behind the other. -/
import Derived.Test.YtcjflbmpfmibbaaGreatCz7
import Derived.Test.YtcjflbmpfmibbaaGreatCz9
import Derived.Test.YtcjflbmpfmibbaaGreatCz5
import Derived.Test.YtcjflbmpfmibbaaGreatCz1
import Derived.Test.YtcjflbmpfmibbaaGreatCz2
import Derived.Test.YtcjflbmpfmibbaaGreatAm4
/- CO: right queries (written by mkCoJ.py). -/
namespace Go.Co
open Go.Am Go.Proofs
set_option linter.unusedSimpArgs false
set_option linter.unusedVariables false
def c52_0 : ACode := .ops [⟨some 2, .box (.t 0) 10, none, []⟩,
  ⟨some 4, .mv (.c (.bool false)), none, []⟩] [1, 2]
theorem r52_0 : type_of% (@rr _ _ c52_0.eq_1) := rr c52_0.eq_1
def c52_1 : ACode := .ops [⟨some 7, .load 10 true (.t 2), none, [2]⟩,
  ⟨some 8, .mv (.c (.int .i64 0)), none, []⟩] [1, 7, 8]
theorem r52_1 : type_of% (@rr _ _ c52_1.eq_1) := rr c52_1.eq_1
def c52_2 : ACode := .ops [⟨some 9, .bin .lss (.t 8) (.c (.int .i64 5)), none, []⟩] [1, 7, 8, 9]
theorem r52_2 : type_of% (@rr _ _ c52_2.eq_1) := rr c52_2.eq_1
def c52_3 : ACode := .cond (.t 9) .skip (.exit 0)
theorem r52_3 : type_of% (@rr _ _ c52_3.eq_1) := rr c52_3.eq_1
def c52_4 : ACode := .ops [⟨some 10, .mv (.t 8), none, []⟩,
  ⟨some 11, .idx (.t 7) (.t 8) 2 5 true, none, []⟩,
  ⟨some 6, .alloc [.int .i64 0, .int .i64 0], none, []⟩,
  ⟨some 5, .mv (.t 10), none, []⟩,
  ⟨none, .store (.t 6) 2 (.t 11), none, [6]⟩] [1, 5, 6, 7, 8]
theorem r52_4 : type_of% (@rr _ _ c52_4.eq_1) := rr c52_4.eq_1
def c52_5 : ACode := .ops [⟨some 12, .mv (.t 5), none, []⟩,
  ⟨some 13, .mv (.t 1), none, []⟩,
  ⟨some 14, .bin .geq (.t 12) (.t 13), none, []⟩,
  ⟨some 15, .mv (.t 14), none, []⟩,
  ⟨some 16, .load 2 true (.t 6), some (15, true), [6]⟩,
  ⟨some 17, .build [.int .i64 0, .int .i64 0] [], some (15, true), []⟩,
  ⟨some 18, .eqa true [false, false] (.t 16) (.t 17), some (15, true), []⟩,
  ⟨some 19, .pick (.t 15) (.t 18) (.c (.bool false)), none, []⟩] [1, 6, 7, 8, 19]
theorem r52_5 : type_of% (@rr _ _ c52_5.eq_1) := rr c52_5.eq_1
def c52_6 : ACode := .ops [⟨some 4, .mv (.c (.bool false)), none, []⟩] [4]
theorem r52_6 : type_of% (@rr _ _ c52_6.eq_1) := rr c52_6.eq_1
def c52_7 : ACode := .seq c52_6 .ret
theorem r52_7 : type_of% (@rr _ _ c52_7.eq_1) := rr c52_7.eq_1
def c52_8 : ACode := .cond (.t 19) c52_7 .skip
theorem r52_8 : type_of% (@rr _ _ c52_8.eq_1) := rr c52_8.eq_1
def c52_9 : ACode := .seq c52_5 c52_8
theorem r52_9 : type_of% (@rr _ _ c52_9.eq_1) := rr c52_9.eq_1
def c52_10 : ACode := .ops [⟨some 20, .load 2 true (.t 6), none, [6]⟩,
  ⟨some 21, .call 54 [.t 20], none, []⟩,
  ⟨some 22, .mv (.t 21), none, []⟩,
  ⟨some 23, .fad (.t 6) 0, some (22, false), [6]⟩,
  ⟨some 24, .load 1 false (.t 23), some (22, false), [6]⟩,
  ⟨some 25, .call 71 [.t 24, .c (.int .i64 32)], some (22, false), []⟩,
  ⟨some 26, .un .not (.t 25), some (22, false), []⟩,
  ⟨some 27, .pick (.t 22) (.c (.bool true)) (.t 26), none, []⟩,
  ⟨some 28, .mv (.t 27), none, []⟩,
  ⟨some 29, .fad (.t 6) 1, some (28, false), [6]⟩,
  ⟨some 30, .load 1 false (.t 29), some (28, false), [6]⟩,
  ⟨some 31, .call 71 [.t 30, .c (.int .i64 32)], some (28, false), []⟩,
  ⟨some 32, .un .not (.t 31), some (28, false), []⟩,
  ⟨some 33, .pick (.t 28) (.c (.bool true)) (.t 32), none, []⟩] [1, 7, 8, 33]
theorem r52_10 : type_of% (@rr _ _ c52_10.eq_1) := rr c52_10.eq_1
def c52_11 : ACode := .ops [⟨some 4, .mv (.c (.bool false)), none, []⟩] [4]
theorem r52_11 : type_of% (@rr _ _ c52_11.eq_1) := rr c52_11.eq_1
def c52_12 : ACode := .seq c52_11 .ret
theorem r52_12 : type_of% (@rr _ _ c52_12.eq_1) := rr c52_12.eq_1
def c52_13 : ACode := .cond (.t 33) c52_12 .skip
theorem r52_13 : type_of% (@rr _ _ c52_13.eq_1) := rr c52_13.eq_1
def c52_14 : ACode := .seq c52_10 c52_13
theorem r52_14 : type_of% (@rr _ _ c52_14.eq_1) := rr c52_14.eq_1
def c52_15 : ACode := .seq c52_9 c52_14
theorem r52_15 : type_of% (@rr _ _ c52_15.eq_1) := rr c52_15.eq_1
def c52_16 : ACode := .seq c52_4 c52_15
theorem r52_16 : type_of% (@rr _ _ c52_16.eq_1) := rr c52_16.eq_1
def c52_17 : ACode := .block 1 c52_16
theorem r52_17 : type_of% (@rr _ _ c52_17.eq_1) := rr c52_17.eq_1
def c52_18 : ACode := .ops [⟨some 34, .bin .add (.t 8) (.c (.int .i64 1)), none, []⟩,
  ⟨some 8, .mv (.t 34), none, []⟩] [1, 7, 8]
theorem r52_18 : type_of% (@rr _ _ c52_18.eq_1) := rr c52_18.eq_1
def c52_19 : ACode := .seq c52_17 c52_18
theorem r52_19 : type_of% (@rr _ _ c52_19.eq_1) := rr c52_19.eq_1
def c52_20 : ACode := .seq c52_3 c52_19
theorem r52_20 : type_of% (@rr _ _ c52_20.eq_1) := rr c52_20.eq_1
def c52_21 : ACode := .seq c52_2 c52_20
theorem r52_21 : type_of% (@rr _ _ c52_21.eq_1) := rr c52_21.eq_1
def c52_22 : ACode := .keep [1, 7, 8] [] c52_21
theorem r52_22 : type_of% (@rr _ _ c52_22.eq_1) := rr c52_22.eq_1
def c52_23 : ACode := .loop c52_22
theorem r52_23 : type_of% (@rr _ _ c52_23.eq_1) := rr c52_23.eq_1
def c52_24 : ACode := .block 0 c52_23
theorem r52_24 : type_of% (@rr _ _ c52_24.eq_1) := rr c52_24.eq_1
def c52_25 : ACode := .seq c52_1 c52_24
theorem r52_25 : type_of% (@rr _ _ c52_25.eq_1) := rr c52_25.eq_1
def c52_26 : ACode := .ops [⟨some 4, .mv (.c (.bool true)), none, []⟩] [4]
theorem r52_26 : type_of% (@rr _ _ c52_26.eq_1) := rr c52_26.eq_1
def c52_27 : ACode := .seq c52_26 .ret
theorem r52_27 : type_of% (@rr _ _ c52_27.eq_1) := rr c52_27.eq_1
def c52_28 : ACode := .seq c52_25 c52_27
theorem r52_28 : type_of% (@rr _ _ c52_28.eq_1) := rr c52_28.eq_1
def c52_29 : ACode := .seq c52_0 c52_28
theorem r52_29 : type_of% (@rr _ _ c52_29.eq_1) := rr c52_29.eq_1
def a52 : AFun := ⟨2, 35, c52_29, [.t 4]⟩
attribute [simp] r52_0 r52_1 r52_2 r52_3 r52_4 r52_5 r52_6 r52_7 r52_8 r52_9 r52_10 r52_11 r52_12 r52_13 r52_14 r52_15 r52_16 r52_17 r52_18 r52_19 r52_20 r52_21 r52_22 r52_23 r52_24 r52_25 r52_26 r52_27 r52_28 r52_29
theorem m52 : mFun Tryz.prog Tryz.f52 a52 = true := by decide +kernel
def c53_0 : ACode := .ops [⟨some 2, .box (.t 0) 6, none, []⟩,
  ⟨some 3, .box (.t 1) 17, none, []⟩,
  ⟨some 4, .mv (.c (.bool false)), none, []⟩] [2, 3]
theorem r53_0 : type_of% (@rr _ _ c53_0.eq_1) := rr c53_0.eq_1
def c53_1 : ACode := .ops [⟨some 5, .fad (.t 3) 0, none, [3]⟩,
  ⟨some 6, .load 1 false (.t 5), none, [3]⟩] [2, 3, 6]
theorem r53_1 : type_of% (@rr _ _ c53_1.eq_1) := rr c53_1.eq_1
def c53_2 : ACode := .ops [⟨some 8, .bin .eql (.t 6) (.c (.int .i64 1)), none, []⟩,
  ⟨some 7, .mv (.t 8), none, []⟩] [2, 3, 6, 7]
theorem r53_2 : type_of% (@rr _ _ c53_2.eq_1) := rr c53_2.eq_1
def c53_3 : ACode := .ops [⟨some 9, .fad (.t 3) 12, none, [3]⟩,
  ⟨some 10, .load 1 false (.t 9), none, [3]⟩,
  ⟨some 11, .fad (.t 3) 13, none, [3]⟩,
  ⟨some 12, .load 1 false (.t 11), none, [3]⟩,
  ⟨some 13, .bin .leq (.t 10) (.t 12), none, []⟩,
  ⟨some 14, .mv (.t 13), none, []⟩,
  ⟨some 15, .fad (.t 3) 14, some (14, true), [3]⟩,
  ⟨some 16, .load 1 false (.t 15), some (14, true), [3]⟩,
  ⟨some 17, .bin .eql (.t 16) (.c (.int .i64 0)), some (14, true), []⟩,
  ⟨some 18, .pick (.t 14) (.t 17) (.c (.bool false)), none, []⟩,
  ⟨some 19, .mv (.t 18), none, []⟩,
  ⟨some 20, .fad (.t 3) 15, some (19, true), [3]⟩,
  ⟨some 21, .load 1 false (.t 20), some (19, true), [3]⟩,
  ⟨some 22, .un .not (.t 21), some (19, true), []⟩,
  ⟨some 23, .pick (.t 19) (.t 22) (.c (.bool false)), none, []⟩,
  ⟨some 4, .mv (.t 23), none, []⟩] [4]
theorem r53_3 : type_of% (@rr _ _ c53_3.eq_1) := rr c53_3.eq_1
def c53_4 : ACode := .seq c53_3 .ret
theorem r53_4 : type_of% (@rr _ _ c53_4.eq_1) := rr c53_4.eq_1
def c53_5 : ACode := .ops [⟨some 25, .bin .eql (.t 6) (.c (.int .i64 2)), none, []⟩,
  ⟨some 24, .mv (.t 25), none, []⟩] [2, 3, 6, 24]
theorem r53_5 : type_of% (@rr _ _ c53_5.eq_1) := rr c53_5.eq_1
def c53_6 : ACode := .ops [⟨some 26, .fad (.t 2) 1, none, [2]⟩,
  ⟨some 27, .load 1 false (.t 26), none, [2]⟩,
  ⟨some 28, .bin .geq (.t 27) (.c (.int .i64 2)), none, []⟩,
  ⟨some 29, .mv (.t 28), none, []⟩,
  ⟨some 30, .fad (.t 3) 12, some (29, true), [3]⟩,
  ⟨some 31, .load 1 false (.t 30), some (29, true), [3]⟩,
  ⟨some 32, .bin .eql (.t 31) (.c (.int .i64 0)), some (29, true), []⟩,
  ⟨some 33, .pick (.t 29) (.t 32) (.c (.bool false)), none, []⟩,
  ⟨some 34, .mv (.t 33), none, []⟩,
  ⟨some 35, .fad (.t 3) 13, some (34, true), [3]⟩,
  ⟨some 36, .load 1 false (.t 35), some (34, true), [3]⟩,
  ⟨some 37, .bin .eql (.t 36) (.c (.int .i64 0)), some (34, true), []⟩,
  ⟨some 38, .pick (.t 34) (.t 37) (.c (.bool false)), none, []⟩,
  ⟨some 39, .mv (.t 38), none, []⟩,
  ⟨some 40, .fad (.t 3) 14, some (39, true), [3]⟩,
  ⟨some 41, .load 1 false (.t 40), some (39, true), [3]⟩,
  ⟨some 42, .bin .eql (.t 41) (.c (.int .i64 0)), some (39, true), []⟩,
  ⟨some 43, .pick (.t 39) (.t 42) (.c (.bool false)), none, []⟩,
  ⟨some 44, .mv (.t 43), none, []⟩,
  ⟨some 45, .fad (.t 3) 15, some (44, true), [3]⟩,
  ⟨some 46, .load 1 false (.t 45), some (44, true), [3]⟩,
  ⟨some 47, .un .not (.t 46), some (44, true), []⟩,
  ⟨some 48, .pick (.t 44) (.t 47) (.c (.bool false)), none, []⟩,
  ⟨some 4, .mv (.t 48), none, []⟩] [4]
theorem r53_6 : type_of% (@rr _ _ c53_6.eq_1) := rr c53_6.eq_1
def c53_7 : ACode := .seq c53_6 .ret
theorem r53_7 : type_of% (@rr _ _ c53_7.eq_1) := rr c53_7.eq_1
def c53_8 : ACode := .ops [⟨some 50, .bin .eql (.t 6) (.c (.int .i64 3)), none, []⟩,
  ⟨some 49, .mv (.t 50), none, []⟩] [2, 3, 49]
theorem r53_8 : type_of% (@rr _ _ c53_8.eq_1) := rr c53_8.eq_1
def c53_9 : ACode := .ops [⟨some 51, .fad (.t 3) 14, none, [3]⟩,
  ⟨some 52, .load 1 false (.t 51), none, [3]⟩,
  ⟨some 53, .bin .geq (.t 52) (.c (.int .i64 0)), none, []⟩,
  ⟨some 54, .mv (.t 53), none, []⟩,
  ⟨some 55, .fad (.t 3) 14, some (54, true), [3]⟩,
  ⟨some 56, .load 1 false (.t 55), some (54, true), [3]⟩,
  ⟨some 57, .fad (.t 2) 0, some (54, true), [2]⟩,
  ⟨some 58, .load 1 false (.t 57), some (54, true), [2]⟩,
  ⟨some 59, .bin .lss (.t 56) (.t 58), some (54, true), []⟩,
  ⟨some 60, .pick (.t 54) (.t 59) (.c (.bool false)), none, []⟩,
  ⟨some 61, .mv (.t 60), none, []⟩,
  ⟨some 62, .fad (.t 3) 12, some (61, true), [3]⟩,
  ⟨some 63, .load 1 false (.t 62), some (61, true), [3]⟩,
  ⟨some 64, .bin .eql (.t 63) (.c (.int .i64 0)), some (61, true), []⟩,
  ⟨some 65, .pick (.t 61) (.t 64) (.c (.bool false)), none, []⟩,
  ⟨some 66, .mv (.t 65), none, []⟩,
  ⟨some 67, .fad (.t 3) 13, some (66, true), [3]⟩,
  ⟨some 68, .load 1 false (.t 67), some (66, true), [3]⟩,
  ⟨some 69, .bin .eql (.t 68) (.c (.int .i64 0)), some (66, true), []⟩,
  ⟨some 70, .pick (.t 66) (.t 69) (.c (.bool false)), none, []⟩,
  ⟨some 4, .mv (.t 70), none, []⟩] [4]
theorem r53_9 : type_of% (@rr _ _ c53_9.eq_1) := rr c53_9.eq_1
def c53_10 : ACode := .seq c53_9 .ret
theorem r53_10 : type_of% (@rr _ _ c53_10.eq_1) := rr c53_10.eq_1
def c53_11 : ACode := .cond (.t 49) c53_10 .skip
theorem r53_11 : type_of% (@rr _ _ c53_11.eq_1) := rr c53_11.eq_1
def c53_12 : ACode := .seq c53_8 c53_11
theorem r53_12 : type_of% (@rr _ _ c53_12.eq_1) := rr c53_12.eq_1
def c53_13 : ACode := .cond (.t 24) c53_7 c53_12
theorem r53_13 : type_of% (@rr _ _ c53_13.eq_1) := rr c53_13.eq_1
def c53_14 : ACode := .seq c53_5 c53_13
theorem r53_14 : type_of% (@rr _ _ c53_14.eq_1) := rr c53_14.eq_1
def c53_15 : ACode := .cond (.t 7) c53_4 c53_14
theorem r53_15 : type_of% (@rr _ _ c53_15.eq_1) := rr c53_15.eq_1
def c53_16 : ACode := .seq c53_2 c53_15
theorem r53_16 : type_of% (@rr _ _ c53_16.eq_1) := rr c53_16.eq_1
def c53_17 : ACode := .block 0 c53_16
theorem r53_17 : type_of% (@rr _ _ c53_17.eq_1) := rr c53_17.eq_1
def c53_18 : ACode := .seq c53_1 c53_17
theorem r53_18 : type_of% (@rr _ _ c53_18.eq_1) := rr c53_18.eq_1
def c53_19 : ACode := .ops [⟨some 4, .mv (.c (.bool false)), none, []⟩] [4]
theorem r53_19 : type_of% (@rr _ _ c53_19.eq_1) := rr c53_19.eq_1
def c53_20 : ACode := .seq c53_19 .ret
theorem r53_20 : type_of% (@rr _ _ c53_20.eq_1) := rr c53_20.eq_1
def c53_21 : ACode := .seq c53_18 c53_20
theorem r53_21 : type_of% (@rr _ _ c53_21.eq_1) := rr c53_21.eq_1
def c53_22 : ACode := .seq c53_0 c53_21
theorem r53_22 : type_of% (@rr _ _ c53_22.eq_1) := rr c53_22.eq_1
def a53 : AFun := ⟨2, 71, c53_22, [.t 4]⟩
attribute [simp] r53_0 r53_1 r53_2 r53_3 r53_4 r53_5 r53_6 r53_7 r53_8 r53_9 r53_10 r53_11 r53_12 r53_13 r53_14 r53_15 r53_16 r53_17 r53_18 r53_19 r53_20 r53_21 r53_22
theorem m53 : mFun Tryz.prog Tryz.f53 a53 = true := by decide +kernel
def c25_0 : ACode := .ops [⟨some 2, .box (.t 0) 6, none, []⟩,
  ⟨some 3, .box (.t 1) 17, none, []⟩,
  ⟨some 4, .mv (.c (.bool false)), none, []⟩] [2, 3]
theorem r25_0 : type_of% (@rr _ _ c25_0.eq_1) := rr c25_0.eq_1
def c25_1 : ACode := .ops [⟨some 5, .load 6 true (.t 2), none, [2]⟩,
  ⟨some 6, .call 43 [.t 5], none, []⟩,
  ⟨some 7, .mv (.t 6), none, []⟩,
  ⟨some 8, .fad (.t 3) 1, some (7, true), [3]⟩,
  ⟨some 9, .load 1 false (.t 8), some (7, true), [3]⟩,
  ⟨some 10, .bin .geq (.t 9) (.c (.int .i64 0)), some (7, true), []⟩,
  ⟨some 11, .pick (.t 7) (.t 10) (.c (.bool false)), none, []⟩,
  ⟨some 12, .mv (.t 11), none, []⟩,
  ⟨some 13, .fad (.t 3) 1, some (12, true), [3]⟩,
  ⟨some 14, .load 1 false (.t 13), some (12, true), [3]⟩,
  ⟨some 15, .fad (.t 2) 1, some (12, true), [2]⟩,
  ⟨some 16, .load 1 false (.t 15), some (12, true), [2]⟩,
  ⟨some 17, .bin .lss (.t 14) (.t 16), some (12, true), []⟩,
  ⟨some 18, .pick (.t 12) (.t 17) (.c (.bool false)), none, []⟩,
  ⟨some 19, .mv (.t 18), none, []⟩,
  ⟨some 20, .fad (.t 3) 16, some (19, true), [3]⟩,
  ⟨some 21, .load 1 false (.t 20), some (19, true), [3]⟩,
  ⟨some 22, .bin .geq (.t 21) (.c (.int .i64 0)), some (19, true), []⟩,
  ⟨some 23, .pick (.t 19) (.t 22) (.c (.bool false)), none, []⟩,
  ⟨some 24, .mv (.t 23), none, []⟩,
  ⟨some 25, .fad (.t 3) 16, some (24, true), [3]⟩,
  ⟨some 26, .load 1 false (.t 25), some (24, true), [3]⟩,
  ⟨some 27, .bin .leq (.t 26) (.c (.int .i64 65536)), some (24, true), []⟩,
  ⟨some 28, .pick (.t 24) (.t 27) (.c (.bool false)), none, []⟩,
  ⟨some 29, .mv (.t 28), none, []⟩,
  ⟨some 30, .fad (.t 3) 2, some (29, true), [3]⟩,
  ⟨some 31, .load 10 true (.t 30), some (29, true), [3]⟩,
  ⟨some 32, .fad (.t 2) 0, some (29, true), [2]⟩,
  ⟨some 33, .load 1 false (.t 32), some (29, true), [2]⟩,
  ⟨some 34, .call 52 [.t 31, .t 33], some (29, true), []⟩,
  ⟨some 35, .pick (.t 29) (.t 34) (.c (.bool false)), none, []⟩,
  ⟨some 36, .mv (.t 35), none, []⟩,
  ⟨some 37, .load 6 true (.t 2), some (36, true), [2]⟩,
  ⟨some 38, .load 17 true (.t 3), some (36, true), [3]⟩,
  ⟨some 39, .call 53 [.t 37, .t 38], some (36, true), []⟩,
  ⟨some 40, .pick (.t 36) (.t 39) (.c (.bool false)), none, []⟩,
  ⟨some 4, .mv (.t 40), none, []⟩] [4]
theorem r25_1 : type_of% (@rr _ _ c25_1.eq_1) := rr c25_1.eq_1
def c25_2 : ACode := .seq c25_1 .ret
theorem r25_2 : type_of% (@rr _ _ c25_2.eq_1) := rr c25_2.eq_1
def c25_3 : ACode := .seq c25_0 c25_2
theorem r25_3 : type_of% (@rr _ _ c25_3.eq_1) := rr c25_3.eq_1
def a25 : AFun := ⟨2, 41, c25_3, [.t 4]⟩
attribute [simp] r25_0 r25_1 r25_2 r25_3
theorem m25 : mFun Tryz.prog Tryz.f25 a25 = true := by decide +kernel
def c24_0 : ACode := .ops [⟨some 1, .box (.t 0) 17, none, []⟩,
  ⟨some 2, .mv (.c (.bool false)), none, []⟩] [1]
theorem r24_0 : type_of% (@rr _ _ c24_0.eq_1) := rr c24_0.eq_1
def c24_1 : ACode := .ops [⟨some 3, .fad (.t 1) 0, none, [1]⟩,
  ⟨some 4, .load 1 false (.t 3), none, [1]⟩,
  ⟨some 5, .bin .eql (.t 4) (.c (.int .i64 3)), none, []⟩,
  ⟨some 6, .mv (.t 5), none, []⟩,
  ⟨some 7, .fad (.t 1) 14, some (6, true), [1]⟩,
  ⟨some 8, .load 1 false (.t 7), some (6, true), [1]⟩,
  ⟨some 9, .bin .geq (.t 8) (.c (.int .i64 0)), some (6, true), []⟩,
  ⟨some 10, .pick (.t 6) (.t 9) (.c (.bool false)), none, []⟩,
  ⟨some 11, .mv (.t 10), none, []⟩,
  ⟨some 12, .fad (.t 1) 14, some (11, true), [1]⟩,
  ⟨some 13, .load 1 false (.t 12), some (11, true), [1]⟩,
  ⟨some 14, .bin .lss (.t 13) (.c (.int .i64 4)), some (11, true), []⟩,
  ⟨some 15, .pick (.t 11) (.t 14) (.c (.bool false)), none, []⟩,
  ⟨some 2, .mv (.t 15), none, []⟩] [2]
theorem r24_1 : type_of% (@rr _ _ c24_1.eq_1) := rr c24_1.eq_1
def c24_2 : ACode := .seq c24_1 .ret
theorem r24_2 : type_of% (@rr _ _ c24_2.eq_1) := rr c24_2.eq_1
def c24_3 : ACode := .seq c24_0 c24_2
theorem r24_3 : type_of% (@rr _ _ c24_3.eq_1) := rr c24_3.eq_1
def a24 : AFun := ⟨1, 16, c24_3, [.t 2]⟩
attribute [simp] r24_0 r24_1 r24_2 r24_3
theorem m24 : mFun Tryz.prog Tryz.f24 a24 = true := by decide +kernel
def c8_0 : ACode := .ops [⟨some 1, .box (.t 0) 17, none, []⟩,
  ⟨some 2, .alloc [.int .i64 0, .int .i64 0, .int .i64 0, .int .i64 0, .int .i64 0, .int .i64 0, .int .i64 0, .int .i64 0, .int .i64 0, .int .i64 0], none, []⟩] [1, 2]
theorem r8_0 : type_of% (@rr _ _ c8_0.eq_1) := rr c8_0.eq_1
def c8_1 : ACode := .ops [⟨some 4, .fad (.t 1) 2, none, [1]⟩,
  ⟨some 5, .load 10 true (.t 4), none, [1]⟩,
  ⟨some 3, .alloc [.int .i64 0, .int .i64 0, .int .i64 0, .int .i64 0, .int .i64 0, .int .i64 0, .int .i64 0, .int .i64 0, .int .i64 0, .int .i64 0], none, []⟩,
  ⟨none, .store (.t 3) 10 (.t 5), none, [3]⟩] [1, 2, 3]
theorem r8_1 : type_of% (@rr _ _ c8_1.eq_1) := rr c8_1.eq_1
def c8_2 : ACode := .ops [⟨some 6, .build [.int .i64 0, .int .i64 0] [], none, []⟩,
  ⟨some 7, .iad (.t 3) (.c (.int .i64 4)) 2 5, none, [3]⟩,
  ⟨none, .store (.t 7) 2 (.t 6), none, [3]⟩] [1, 2, 3]
theorem r8_2 : type_of% (@rr _ _ c8_2.eq_1) := rr c8_2.eq_1
def c8_3 : ACode := .ops [⟨some 8, .load 17 true (.t 1), none, [1]⟩,
  ⟨some 9, .call 24 [.t 8], none, []⟩] [1, 2, 3, 9]
theorem r8_3 : type_of% (@rr _ _ c8_3.eq_1) := rr c8_3.eq_1
def c8_4 : ACode := .ops [⟨some 10, .fad (.t 1) 14, none, [1]⟩,
  ⟨some 11, .load 1 false (.t 10), none, [1]⟩,
  ⟨some 12, .iad (.t 3) (.t 11) 2 5, none, [3]⟩,
  ⟨some 13, .load 2 true (.t 12), none, [3]⟩,
  ⟨some 14, .iad (.t 3) (.c (.int .i64 4)) 2 5, none, [3]⟩,
  ⟨none, .store (.t 14) 2 (.t 13), none, [3]⟩] [2, 3]
theorem r8_4 : type_of% (@rr _ _ c8_4.eq_1) := rr c8_4.eq_1
def c8_5 : ACode := .cond (.t 9) c8_4 .skip
theorem r8_5 : type_of% (@rr _ _ c8_5.eq_1) := rr c8_5.eq_1
def c8_6 : ACode := .seq c8_3 c8_5
theorem r8_6 : type_of% (@rr _ _ c8_6.eq_1) := rr c8_6.eq_1
def c8_7 : ACode := .ops [⟨some 15, .load 10 true (.t 3), none, [3]⟩,
  ⟨none, .store (.t 2) 10 (.t 15), none, [2]⟩] [2]
theorem r8_7 : type_of% (@rr _ _ c8_7.eq_1) := rr c8_7.eq_1
def c8_8 : ACode := .seq c8_7 .ret
theorem r8_8 : type_of% (@rr _ _ c8_8.eq_1) := rr c8_8.eq_1
def c8_9 : ACode := .seq c8_6 c8_8
theorem r8_9 : type_of% (@rr _ _ c8_9.eq_1) := rr c8_9.eq_1
def c8_10 : ACode := .seq c8_2 c8_9
theorem r8_10 : type_of% (@rr _ _ c8_10.eq_1) := rr c8_10.eq_1
def c8_11 : ACode := .seq c8_1 c8_10
theorem r8_11 : type_of% (@rr _ _ c8_11.eq_1) := rr c8_11.eq_1
def c8_12 : ACode := .seq c8_0 c8_11
theorem r8_12 : type_of% (@rr _ _ c8_12.eq_1) := rr c8_12.eq_1
def a8 : AFun := ⟨1, 16, c8_12, [.cell 2 10 true]⟩
attribute [simp] r8_0 r8_1 r8_2 r8_3 r8_4 r8_5 r8_6 r8_7 r8_8 r8_9 r8_10 r8_11 r8_12
theorem m8 : mFun Tryz.prog Tryz.f8 a8 = true := by decide +kernel
def c63_0 : ACode := .ops [⟨some 3, .box (.t 0) 17, none, []⟩,
  ⟨some 4, .box (.t 1) 4, none, []⟩,
  ⟨some 6, .alloc [.int .i64 0, .int .i64 0, .int .i64 0, .int .i64 0], none, []⟩] [2, 3, 4, 6]
def c63_1 : ACode := .ops [⟨some 7, .load 17 true (.t 3), none, [3]⟩,
  ⟨some 8, .call 24 [.t 7], none, []⟩] [2, 3, 4, 6, 8]
def c63_2 : ACode := .ops [⟨some 9, .fad (.t 3) 14, none, [3]⟩,
  ⟨some 10, .load 1 false (.t 9), none, [3]⟩,
  ⟨some 11, .mv (.t 2), none, []⟩,
  ⟨some 12, .iad (.t 4) (.t 10) 1 4, none, [4]⟩,
  ⟨none, .store (.t 12) 1 (.t 11), none, [4]⟩] [4, 6]
def c63_3 : ACode := .cond (.t 8) c63_2 .skip
def c63_4 : ACode := .seq c63_1 c63_3
def c63_5 : ACode := .ops [⟨some 13, .load 4 true (.t 4), none, [4]⟩,
  ⟨none, .store (.t 6) 4 (.t 13), none, [6]⟩] [6]
def c63_6 : ACode := .seq c63_5 .ret
def c63_7 : ACode := .seq c63_4 c63_6
def c63_8 : ACode := .seq c63_0 c63_7
def a63 : AFun := ⟨3, 14, c63_8, [.cell 6 4 true]⟩
theorem m63 : mFun Tryz.prog Tryz.f63 a63 = true := by decide +kernel
def c62_0 : ACode := .ops [⟨some 2, .box (.t 0) 2, none, []⟩,
  ⟨some 4, .mv (.c (.bool false)), none, []⟩] [1, 2]
def c62_1 : ACode := .ops [⟨some 5, .fad (.t 2) 0, none, [2]⟩,
  ⟨some 6, .load 1 false (.t 5), none, [2]⟩,
  ⟨some 7, .mv (.t 1), none, []⟩,
  ⟨some 8, .bin .leq (.t 6) (.t 7), none, []⟩,
  ⟨some 9, .mv (.t 8), none, []⟩,
  ⟨some 10, .mv (.t 1), some (9, true), []⟩,
  ⟨some 11, .fad (.t 2) 1, some (9, true), [2]⟩,
  ⟨some 12, .load 1 false (.t 11), some (9, true), [2]⟩,
  ⟨some 13, .bin .leq (.t 10) (.t 12), some (9, true), []⟩,
  ⟨some 14, .pick (.t 9) (.t 13) (.c (.bool false)), none, []⟩,
  ⟨some 4, .mv (.t 14), none, []⟩] [4]
def c62_2 : ACode := .seq c62_1 .ret
def c62_3 : ACode := .seq c62_0 c62_2
def a62 : AFun := ⟨2, 15, c62_3, [.t 4]⟩
theorem m62 : mFun Tryz.prog Tryz.f62 a62 = true := by decide +kernel
noncomputable def RegOk (b : Box) (dim : Int) : Option Bool := Part (1 ≤ dim ∧ dim ≤ 4) (okRegion b dim)
set_option maxRecDepth 8000 in
theorem runs_region1 (b : Box) (dim : Int) (hd : dim = 1) : Runs (tbl [(54, sp1 fun (s : Span) => some s.empty), (71, sp2 Fits)]) a52 [Arg.enc b, Arg.enc dim] (Arg.enc (okRegion b dim)) := by
  refine ⟨rfl, fun g => run_def ?_⟩
  unfold a52
  have fz : fits 0 = true := rfl
  obtain ⟨⟨l0, h0⟩, ⟨l1, h1⟩, ⟨l2, h2⟩, ⟨l3, h3⟩, ⟨l4, h4⟩⟩ := b
  by_cases e0 : h0 < l0
  case pos => simp -implicitDefEqProofs [hd, run_round, Fits, fz, okRegion, okSpan, Span.empty, e0]
  cases f0 : fits l0
  case false => simp -implicitDefEqProofs [hd, run_round, Fits, fz, okRegion, okSpan, Span.empty, e0, f0]
  cases g0 : fits h0
  case false => simp -implicitDefEqProofs [hd, run_round, Fits, fz, okRegion, okSpan, Span.empty, e0, f0, g0]
  by_cases e1 : l1 = 0
  case neg => simp -implicitDefEqProofs [hd, run_round, Fits, fz, okRegion, okSpan, Span.empty, e0, f0, g0, e1]
  by_cases f1 : h1 = 0
  case neg => simp -implicitDefEqProofs [hd, run_round, Fits, fz, okRegion, okSpan, Span.empty, e0, f0, g0, e1, f1]
  by_cases e2 : l2 = 0
  case neg => simp -implicitDefEqProofs [hd, run_round, Fits, fz, okRegion, okSpan, Span.empty, e0, f0, g0, e1, f1, e2]
  by_cases f2 : h2 = 0
  case neg => simp -implicitDefEqProofs [hd, run_round, Fits, fz, okRegion, okSpan, Span.empty, e0, f0, g0, e1, f1, e2, f2]
  by_cases e3 : l3 = 0
  case neg => simp -implicitDefEqProofs [hd, run_round, Fits, fz, okRegion, okSpan, Span.empty, e0, f0, g0, e1, f1, e2, f2, e3]
  by_cases f3 : h3 = 0
  case neg => simp -implicitDefEqProofs [hd, run_round, Fits, fz, okRegion, okSpan, Span.empty, e0, f0, g0, e1, f1, e2, f2, e3, f3]
  by_cases e4 : l4 = 0
  case neg => simp -implicitDefEqProofs [hd, run_round, Fits, fz, okRegion, okSpan, Span.empty, e0, f0, g0, e1, f1, e2, f2, e3, f3, e4]
  by_cases f4 : h4 = 0
  case neg => simp -implicitDefEqProofs [hd, run_round, Fits, fz, okRegion, okSpan, Span.empty, e0, f0, g0, e1, f1, e2, f2, e3, f3, e4, f4]
  simp -implicitDefEqProofs [hd, run_round, Fits, fz, okRegion, okSpan, Span.empty, e0, f0, g0, e1, f1, e2, f2, e3, f3, e4, f4]
set_option maxRecDepth 8000 in
theorem runs_region2 (b : Box) (dim : Int) (hd : dim = 2) : Runs (tbl [(54, sp1 fun (s : Span) => some s.empty), (71, sp2 Fits)]) a52 [Arg.enc b, Arg.enc dim] (Arg.enc (okRegion b dim)) := by
  refine ⟨rfl, fun g => run_def ?_⟩
  unfold a52
  have fz : fits 0 = true := rfl
  obtain ⟨⟨l0, h0⟩, ⟨l1, h1⟩, ⟨l2, h2⟩, ⟨l3, h3⟩, ⟨l4, h4⟩⟩ := b
  by_cases e0 : h0 < l0
  case pos => simp -implicitDefEqProofs [hd, run_round, Fits, fz, okRegion, okSpan, Span.empty, e0]
  cases f0 : fits l0
  case false => simp -implicitDefEqProofs [hd, run_round, Fits, fz, okRegion, okSpan, Span.empty, e0, f0]
  cases g0 : fits h0
  case false => simp -implicitDefEqProofs [hd, run_round, Fits, fz, okRegion, okSpan, Span.empty, e0, f0, g0]
  by_cases e1 : h1 < l1
  case pos => simp -implicitDefEqProofs [hd, run_round, Fits, fz, okRegion, okSpan, Span.empty, e0, f0, g0, e1]
  cases f1 : fits l1
  case false => simp -implicitDefEqProofs [hd, run_round, Fits, fz, okRegion, okSpan, Span.empty, e0, f0, g0, e1, f1]
  cases g1 : fits h1
  case false => simp -implicitDefEqProofs [hd, run_round, Fits, fz, okRegion, okSpan, Span.empty, e0, f0, g0, e1, f1, g1]
  by_cases e2 : l2 = 0
  case neg => simp -implicitDefEqProofs [hd, run_round, Fits, fz, okRegion, okSpan, Span.empty, e0, f0, g0, e1, f1, g1, e2]
  by_cases f2 : h2 = 0
  case neg => simp -implicitDefEqProofs [hd, run_round, Fits, fz, okRegion, okSpan, Span.empty, e0, f0, g0, e1, f1, g1, e2, f2]
  by_cases e3 : l3 = 0
  case neg => simp -implicitDefEqProofs [hd, run_round, Fits, fz, okRegion, okSpan, Span.empty, e0, f0, g0, e1, f1, g1, e2, f2, e3]
  by_cases f3 : h3 = 0
  case neg => simp -implicitDefEqProofs [hd, run_round, Fits, fz, okRegion, okSpan, Span.empty, e0, f0, g0, e1, f1, g1, e2, f2, e3, f3]
  by_cases e4 : l4 = 0
  case neg => simp -implicitDefEqProofs [hd, run_round, Fits, fz, okRegion, okSpan, Span.empty, e0, f0, g0, e1, f1, g1, e2, f2, e3, f3, e4]
  by_cases f4 : h4 = 0
  case neg => simp -implicitDefEqProofs [hd, run_round, Fits, fz, okRegion, okSpan, Span.empty, e0, f0, g0, e1, f1, g1, e2, f2, e3, f3, e4, f4]
  simp -implicitDefEqProofs [hd, run_round, Fits, fz, okRegion, okSpan, Span.empty, e0, f0, g0, e1, f1, g1, e2, f2, e3, f3, e4, f4]
set_option maxRecDepth 8000 in
theorem runs_region3 (b : Box) (dim : Int) (hd : dim = 3) : Runs (tbl [(54, sp1 fun (s : Span) => some s.empty), (71, sp2 Fits)]) a52 [Arg.enc b, Arg.enc dim] (Arg.enc (okRegion b dim)) := by
  refine ⟨rfl, fun g => run_def ?_⟩
  unfold a52
  have fz : fits 0 = true := rfl
  obtain ⟨⟨l0, h0⟩, ⟨l1, h1⟩, ⟨l2, h2⟩, ⟨l3, h3⟩, ⟨l4, h4⟩⟩ := b
  by_cases e0 : h0 < l0
  case pos => simp -implicitDefEqProofs [hd, run_round, Fits, fz, okRegion, okSpan, Span.empty, e0]
  cases f0 : fits l0
  case false => simp -implicitDefEqProofs [hd, run_round, Fits, fz, okRegion, okSpan, Span.empty, e0, f0]
  cases g0 : fits h0
  case false => simp -implicitDefEqProofs [hd, run_round, Fits, fz, okRegion, okSpan, Span.empty, e0, f0, g0]
  by_cases e1 : h1 < l1
  case pos => simp -implicitDefEqProofs [hd, run_round, Fits, fz, okRegion, okSpan, Span.empty, e0, f0, g0, e1]
  cases f1 : fits l1
  case false => simp -implicitDefEqProofs [hd, run_round, Fits, fz, okRegion, okSpan, Span.empty, e0, f0, g0, e1, f1]
  cases g1 : fits h1
  case false => simp -implicitDefEqProofs [hd, run_round, Fits, fz, okRegion, okSpan, Span.empty, e0, f0, g0, e1, f1, g1]
  by_cases e2 : h2 < l2
  case pos => simp -implicitDefEqProofs [hd, run_round, Fits, fz, okRegion, okSpan, Span.empty, e0, f0, g0, e1, f1, g1, e2]
  cases f2 : fits l2
  case false => simp -implicitDefEqProofs [hd, run_round, Fits, fz, okRegion, okSpan, Span.empty, e0, f0, g0, e1, f1, g1, e2, f2]
  cases g2 : fits h2
  case false => simp -implicitDefEqProofs [hd, run_round, Fits, fz, okRegion, okSpan, Span.empty, e0, f0, g0, e1, f1, g1, e2, f2, g2]
  by_cases e3 : l3 = 0
  case neg => simp -implicitDefEqProofs [hd, run_round, Fits, fz, okRegion, okSpan, Span.empty, e0, f0, g0, e1, f1, g1, e2, f2, g2, e3]
  by_cases f3 : h3 = 0
  case neg => simp -implicitDefEqProofs [hd, run_round, Fits, fz, okRegion, okSpan, Span.empty, e0, f0, g0, e1, f1, g1, e2, f2, g2, e3, f3]
  by_cases e4 : l4 = 0
  case neg => simp -implicitDefEqProofs [hd, run_round, Fits, fz, okRegion, okSpan, Span.empty, e0, f0, g0, e1, f1, g1, e2, f2, g2, e3, f3, e4]
  by_cases f4 : h4 = 0
  case neg => simp -implicitDefEqProofs [hd, run_round, Fits, fz, okRegion, okSpan, Span.empty, e0, f0, g0, e1, f1, g1, e2, f2, g2, e3, f3, e4, f4]
  simp -implicitDefEqProofs [hd, run_round, Fits, fz, okRegion, okSpan, Span.empty, e0, f0, g0, e1, f1, g1, e2, f2, g2, e3, f3, e4, f4]
set_option maxRecDepth 8000 in
theorem runs_region4 (b : Box) (dim : Int) (hd : dim = 4) : Runs (tbl [(54, sp1 fun (s : Span) => some s.empty), (71, sp2 Fits)]) a52 [Arg.enc b, Arg.enc dim] (Arg.enc (okRegion b dim)) := by
  refine ⟨rfl, fun g => run_def ?_⟩
  unfold a52
  have fz : fits 0 = true := rfl
  obtain ⟨⟨l0, h0⟩, ⟨l1, h1⟩, ⟨l2, h2⟩, ⟨l3, h3⟩, ⟨l4, h4⟩⟩ := b
  by_cases e0 : h0 < l0
  case pos => simp -implicitDefEqProofs [hd, run_round, Fits, fz, okRegion, okSpan, Span.empty, e0]
  cases f0 : fits l0
  case false => simp -implicitDefEqProofs [hd, run_round, Fits, fz, okRegion, okSpan, Span.empty, e0, f0]
  cases g0 : fits h0
  case false => simp -implicitDefEqProofs [hd, run_round, Fits, fz, okRegion, okSpan, Span.empty, e0, f0, g0]
  by_cases e1 : h1 < l1
  case pos => simp -implicitDefEqProofs [hd, run_round, Fits, fz, okRegion, okSpan, Span.empty, e0, f0, g0, e1]
  cases f1 : fits l1
  case false => simp -implicitDefEqProofs [hd, run_round, Fits, fz, okRegion, okSpan, Span.empty, e0, f0, g0, e1, f1]
  cases g1 : fits h1
  case false => simp -implicitDefEqProofs [hd, run_round, Fits, fz, okRegion, okSpan, Span.empty, e0, f0, g0, e1, f1, g1]
  by_cases e2 : h2 < l2
  case pos => simp -implicitDefEqProofs [hd, run_round, Fits, fz, okRegion, okSpan, Span.empty, e0, f0, g0, e1, f1, g1, e2]
  cases f2 : fits l2
  case false => simp -implicitDefEqProofs [hd, run_round, Fits, fz, okRegion, okSpan, Span.empty, e0, f0, g0, e1, f1, g1, e2, f2]
  cases g2 : fits h2
  case false => simp -implicitDefEqProofs [hd, run_round, Fits, fz, okRegion, okSpan, Span.empty, e0, f0, g0, e1, f1, g1, e2, f2, g2]
  by_cases e3 : h3 < l3
  case pos => simp -implicitDefEqProofs [hd, run_round, Fits, fz, okRegion, okSpan, Span.empty, e0, f0, g0, e1, f1, g1, e2, f2, g2, e3]
  cases f3 : fits l3
  case false => simp -implicitDefEqProofs [hd, run_round, Fits, fz, okRegion, okSpan, Span.empty, e0, f0, g0, e1, f1, g1, e2, f2, g2, e3, f3]
  cases g3 : fits h3
  case false => simp -implicitDefEqProofs [hd, run_round, Fits, fz, okRegion, okSpan, Span.empty, e0, f0, g0, e1, f1, g1, e2, f2, g2, e3, f3, g3]
  by_cases e4 : l4 = 0
  case neg => simp -implicitDefEqProofs [hd, run_round, Fits, fz, okRegion, okSpan, Span.empty, e0, f0, g0, e1, f1, g1, e2, f2, g2, e3, f3, g3, e4]
  by_cases f4 : h4 = 0
  case neg => simp -implicitDefEqProofs [hd, run_round, Fits, fz, okRegion, okSpan, Span.empty, e0, f0, g0, e1, f1, g1, e2, f2, g2, e3, f3, g3, e4, f4]
  simp -implicitDefEqProofs [hd, run_round, Fits, fz, okRegion, okSpan, Span.empty, e0, f0, g0, e1, f1, g1, e2, f2, g2, e3, f3, g3, e4, f4]
theorem runs_region (b : Box) (dim : Int) (c : Bool) (h : RegOk b dim = some c) : Runs (tbl [(54, sp1 fun (s : Span) => some s.empty), (71, sp2 Fits)]) a52 [Arg.enc b, Arg.enc dim] (Arg.enc c) := by
  obtain ⟨hd, rfl⟩ := part_some h
  have hd : dim = 1 ∨ dim = 2 ∨ dim = 3 ∨ dim = 4 := by omega
  rcases hd with hd | hd | hd | hd
  · exact runs_region1 b dim hd
  · exact runs_region2 b dim hd
  · exact runs_region3 b dim hd
  · exact runs_region4 b dim hd
theorem c_region : Contract Tryz.prog 52 (sp2 RegOk) :=
  contract_of_runs mixed (tbl_cons c_sEmpty (tbl_cons c_Fits tbl_nil)) Tryz.func52 m52 (sp2_runs runs_region)
theorem runs_kind (m : Model) (q : Query) (c : Bool) (h : some (okKind m q) = some c) : Runs (tbl []) a53 [Arg.enc m, Arg.enc q] (Arg.enc c) := by
  cases h
  refine ⟨rfl, fun g => run_def ?_⟩
  unfold a53
  by_cases k1 : q.kind = 1
  case pos =>
    by_cases a0 : q.lo ≤ q.hi
    case neg => simp -implicitDefEqProofs [okKind, k1, a0]
    by_cases a1 : q.feature = 0
    case neg => simp -implicitDefEqProofs [okKind, k1, a0, a1]
    cases q.falls <;> simp -implicitDefEqProofs [okKind, k1, a0, a1]
  by_cases k2 : q.kind = 2
  case pos =>
    by_cases a0 : 2 ≤ m.classes
    case neg => simp -implicitDefEqProofs [okKind, k1, k2, a0]
    by_cases a1 : q.lo = 0
    case neg => simp -implicitDefEqProofs [okKind, k1, k2, a0, a1]
    by_cases a2 : q.hi = 0
    case neg => simp -implicitDefEqProofs [okKind, k1, k2, a0, a1, a2]
    by_cases a3 : q.feature = 0
    case neg => simp -implicitDefEqProofs [okKind, k1, k2, a0, a1, a2, a3]
    cases q.falls <;> simp -implicitDefEqProofs [okKind, k1, k2, a0, a1, a2, a3]
  by_cases k3 : q.kind = 3
  case pos =>
    by_cases a0 : 0 ≤ q.feature
    case neg => simp -implicitDefEqProofs [okKind, k1, k2, k3, a0]
    by_cases a1 : q.feature < m.dim
    case neg => simp -implicitDefEqProofs [okKind, k1, k2, k3, a0, a1]
    by_cases a2 : q.lo = 0
    case neg => simp -implicitDefEqProofs [okKind, k1, k2, k3, a0, a1, a2]
    simp -implicitDefEqProofs [okKind, k1, k2, k3, a0, a1, a2]
  simp -implicitDefEqProofs [okKind, k1, k2, k3]
theorem c_kind : Contract Tryz.prog 53 (sp2 fun m q => some (okKind m q)) :=
  contract_of_runs mixed tbl_nil Tryz.func53 m53 (sp2_runs runs_kind)
noncomputable def QRight (m : Model) (q : Query) : Option Bool := if m.dim < 1 then some false else Part (RM m) (okQuery m q)
theorem runs_qRight (m : Model) (q : Query) (c : Bool) (h : QRight m q = some c) : Runs (tbl [(43, sp1 MRight), (52, sp2 RegOk), (53, sp2 fun m q => some (okKind m q))]) a25 [Arg.enc m, Arg.enc q] (Arg.enc c) := by
  unfold QRight at h
  split at h
  · rename_i hd
    cases h
    refine ⟨rfl, fun g => run_def ?_⟩
    unfold a25
    have hM : MRight m = some false := by unfold MRight; rw [if_pos hd]
    simp -implicitDefEqProofs [hM]
  · rename_i hd
    obtain ⟨hr, rfl⟩ := part_some h
    refine ⟨rfl, fun g => run_def ?_⟩
    unfold a25
    have hM : MRight m = some true := by unfold MRight; rw [if_neg hd]; exact part_of hr _
    have hR : RegOk q.region m.dim = some (okRegion q.region m.dim) := part_of hr.dim _
    by_cases a0 : 0 ≤ q.cls
    case neg => simp -implicitDefEqProofs [okQuery, hM, hR, a0]
    by_cases a1 : q.cls < m.classes
    case neg => simp -implicitDefEqProofs [okQuery, hM, hR, a0, a1]
    by_cases a2 : 0 ≤ q.budget
    case neg => simp -implicitDefEqProofs [okQuery, hM, hR, a0, a1, a2]
    by_cases a3 : q.budget ≤ 65536
    case neg => simp -implicitDefEqProofs [okQuery, hM, hR, a0, a1, a2, a3]
    cases a4 : okRegion q.region m.dim
    case false => simp -implicitDefEqProofs [okQuery, hM, hR, a0, a1, a2, a3, a4]
    simp -implicitDefEqProofs [okQuery, hM, hR, a0, a1, a2, a3, a4]
theorem c_qRight : Contract Tryz.prog 25 (sp2 QRight) :=
  contract_of_runs mixed (tbl_cons c_mRight (tbl_cons c_region (tbl_cons c_kind tbl_nil))) Tryz.func25 m25 (sp2_runs runs_qRight)
theorem runs_paired (q : Query) (c : Bool) (h : some (paired q) = some c) : Runs (tbl []) a24 [Arg.enc q] (Arg.enc c) := by
  cases h
  refine ⟨rfl, fun g => run_def ?_⟩
  unfold a24
  by_cases k1 : q.kind = 3
  case neg => simp -implicitDefEqProofs [paired, k1]
  by_cases k2 : 0 ≤ q.feature
  case neg => simp -implicitDefEqProofs [paired, k1, k2]
  simp -implicitDefEqProofs [paired, k1, k2]
theorem c_paired : Contract Tryz.prog 24 (sp1 fun q => some (paired q)) :=
  contract_of_runs mixed tbl_nil Tryz.func24 m24 (sp1_runs runs_paired)
theorem paired_feature {q : Query} (h : paired q = true) : q.feature = 0 ∨ q.feature = 1 ∨ q.feature = 2 ∨ q.feature = 3 := by
  unfold paired at h
  simp only [Bool.and_eq_true, decide_eq_true_eq] at h
  omega
theorem runs_Start (q : Query) (c : Box) (h : some (startOf q) = some c) : Runs (tbl [(24, sp1 fun q => some (paired q))]) a8 [Arg.enc q] (Arg.enc c) := by
  cases h
  refine ⟨rfl, fun g => run_def ?_⟩
  unfold a8
  cases hp : paired q
  · simp -implicitDefEqProofs [startOf, hp]
  · have hf := paired_feature hp
    obtain ⟨kind, cls, region, lo, hi, feature, falls, budget⟩ := q
    simp only at hf
    rcases hf with rfl | rfl | rfl | rfl <;> simp -implicitDefEqProofs [startOf, hp, Box.get]
theorem c_Start : Contract Tryz.prog 8 (sp1 fun q => some (startOf q)) :=
  contract_of_runs mixed (tbl_cons c_paired tbl_nil) Tryz.func8 m8 (sp1_runs runs_Start)
end Go.Co
/- CO: boxes of a query, cuts of boxes and their counts. -/
namespace Go.Co
open Go.Am Go.Proofs
set_option linter.unusedSimpArgs false
set_option linter.unusedVariables false
def smallB (b : Box) : Prop := small b.s0 ∧ small b.s1 ∧ small b.s2 ∧ small b.s3 ∧ small b.s4
theorem start_facts (m : Model) (a : Ask) : smallB (startOf (queryOf m a)) ∧ okB (startOf (queryOf m a)) ∧ (startOf (queryOf m a)).empty = false := by
  have hreg : (queryOf m a).region = regionOf m.dim a.spans := rfl
  generalize queryOf m a = q at *
  have h0 := rSpan_le m.dim a.spans 0
  have h1 := rSpan_le m.dim a.spans 1
  have h2 := rSpan_le m.dim a.spans 2
  have h3 := rSpan_le m.dim a.spans 3
  unfold startOf
  rw [hreg]
  by_cases hp : paired q = true
  · rw [if_pos hp]
    have hf := paired_feature hp
    unfold smallB small okB okS64 ok64 Box.empty Span.empty regionOf Box.get
    simp only [Bool.or_eq_false_iff, decide_eq_false_iff_not]
    rcases hf with e | e | e | e <;> rw [e] <;> simp <;> omega
  · rw [if_neg hp]
    unfold smallB small okB okS64 ok64 Box.empty Span.empty regionOf
    simp only [Bool.or_eq_false_iff, decide_eq_false_iff_not]
    omega
theorem get_spans {b : Box} (h : b.empty = false) (i : Int) : (b.get i).lo ≤ (b.get i).hi := by
  have := empty_spec h
  unfold Span.empty at this
  simp only [decide_eq_false_iff_not] at this
  unfold Box.get
  split
  · omega
  · split
    · omega
    · split
      · omega
      · split <;> omega
theorem get_small {b : Box} (h : smallB b) (i : Int) : small (b.get i) := by
  obtain ⟨h0, h1, h2, h3, h4⟩ := h
  unfold Box.get
  split
  · exact h0
  · split
    · exact h1
    · split
      · exact h2
      · split
        · exact h3
        · exact h4
theorem set_empty {b : Box} (h : b.empty = false) (i : Int) (s : Span) (h0 : 0 ≤ i) (h5 : i < 5) : (b.set i s).empty = s.empty := by
  obtain ⟨e0, e1, e2, e3, e4⟩ := empty_spec h
  have : i = 0 ∨ i = 1 ∨ i = 2 ∨ i = 3 ∨ i = 4 := by omega
  rcases this with rfl | rfl | rfl | rfl | rfl <;> simp [Box.set, Box.empty, e0, e1, e2, e3, e4]
end Go.Co
/- CO: the cells of a box, by places; points of one cell come to the same. -/
namespace Go.Co
open Go.Am Go.Proofs
set_option linter.unusedSimpArgs false
set_option linter.unusedVariables false
/-! ### points that no threshold parts -/
/-! ### places of boxes -/
theorem set_get_ite (b : Box) {k i : Int} (s : Span) (h0 : 0 ≤ k) (h5 : k < 5) (i0 : 0 ≤ i) (i5 : i < 5) : (b.set k s).get i = if i = k then s else b.get i := by
  have h1 : k = 0 ∨ k = 1 ∨ k = 2 ∨ k = 3 ∨ k = 4 := by omega
  have h2 : i = 0 ∨ i = 1 ∨ i = 2 ∨ i = 3 ∨ i = 4 := by omega
  rcases h1 with rfl | rfl | rfl | rfl | rfl <;> rcases h2 with rfl | rfl | rfl | rfl | rfl <;> rfl
theorem empty_get {b : Box} : b.empty = false ↔ ∀ i : Int, 0 ≤ i → i < 5 → (b.get i).lo ≤ (b.get i).hi := by
  constructor
  · intro h i _ _; exact get_spans h i
  · intro h
    have h0 := h 0 (by omega) (by omega)
    have h1 := h 1 (by omega) (by omega)
    have h2 := h 2 (by omega) (by omega)
    have h3 := h 3 (by omega) (by omega)
    have h4 := h 4 (by omega) (by omega)
    unfold Box.empty Span.empty
    simp only [Bool.or_eq_false_iff, decide_eq_false_iff_not]
    simp only [Box.get, Int.reduceEq, if_true, if_false] at h0 h1 h2 h3 h4
    omega
/-! ### one place -/
/-! ### all places -/
theorem cuts_sorted (m : Model) (q : Query) (b : Box) (k : Int) : (cutsL m q b k).Pairwise (· < ·) := by
  unfold cutsL
  split
  · exact .nil
  · exact (thr_sorted m _).filter _
structure PartTo (m : Model) (q : Query) (b : Box) (j : Nat) (x : Box) : Prop where
  done : ∀ i : Int, 0 ≤ i → i < j → (x.get i).lo ≤ (x.get i).hi ∧ (b.get i).lo ≤ (x.get i).lo ∧ (x.get i).hi ≤ (b.get i).hi ∧ ∀ t ∈ cutsL m q b i, t < (x.get i).lo ∨ (x.get i).hi ≤ t
  rest : ∀ i : Int, (j : Int) ≤ i → i < 5 → x.get i = b.get i
def lowB (b : Box) : Point := ⟨b.s0.lo, b.s1.lo, b.s2.lo, b.s3.lo⟩
end Go.Co
/- CO: what breaks a query. -/
namespace Go.Co
open Go.Am Go.Proofs
set_option linter.unusedSimpArgs false
set_option linter.unusedVariables false
def c36_0 : ACode := .ops [⟨some 4, .box (.t 0) 6, none, []⟩,
  ⟨some 5, .box (.t 1) 17, none, []⟩,
  ⟨some 6, .box (.t 2) 4, none, []⟩,
  ⟨some 8, .mv (.c (.bool false)), none, []⟩] [3, 4, 5, 6]
def c36_1 : ACode := .ops [⟨some 12, .load 6 true (.t 4), none, [4]⟩,
  ⟨some 13, .load 17 true (.t 5), none, [5]⟩,
  ⟨some 14, .call 25 [.t 12, .t 13], none, []⟩,
  ⟨some 15, .un .not (.t 14), none, []⟩] [3, 4, 5, 6, 15]
def c36_2 : ACode := .ops [⟨some 8, .mv (.c (.bool false)), none, []⟩] [8]
def c36_3 : ACode := .seq c36_2 .ret
def c36_4 : ACode := .cond (.t 15) c36_3 .skip
def c36_5 : ACode := .seq c36_1 c36_4
def c36_6 : ACode := .ops [⟨some 16, .load 6 true (.t 4), none, [4]⟩,
  ⟨some 17, .fad (.t 5) 1, none, [5]⟩,
  ⟨some 18, .load 1 false (.t 17), none, [5]⟩,
  ⟨some 19, .load 4 true (.t 6), none, [6]⟩,
  ⟨some 20, .call 46 [.t 16, .t 18, .t 19], none, []⟩,
  ⟨some 9, .mv (.t 20), none, []⟩] [3, 4, 5, 6, 9]
def c36_7 : ACode := .ops [⟨some 21, .fad (.t 5) 0, none, [5]⟩,
  ⟨some 22, .load 1 false (.t 21), none, [5]⟩] [3, 4, 5, 6, 9, 22]
def c36_8 : ACode := .ops [⟨some 24, .bin .eql (.t 22) (.c (.int .i64 1)), none, []⟩,
  ⟨some 23, .mv (.t 24), none, []⟩] [3, 4, 5, 6, 9, 22, 23]
def c36_9 : ACode := .ops [⟨some 25, .fad (.t 5) 12, none, [5]⟩,
  ⟨some 26, .load 1 false (.t 25), none, [5]⟩,
  ⟨some 27, .fad (.t 5) 13, none, [5]⟩,
  ⟨some 28, .load 1 false (.t 27), none, [5]⟩,
  ⟨some 29, .build [.int .i64 0, .int .i64 0] [(0, 1, .t 26), (1, 1, .t 28)], none, []⟩,
  ⟨some 30, .mv (.t 9), none, []⟩,
  ⟨some 31, .call 62 [.t 29, .t 30], none, []⟩,
  ⟨some 32, .un .not (.t 31), none, []⟩,
  ⟨some 8, .mv (.t 32), none, []⟩] [8]
def c36_10 : ACode := .seq c36_9 .ret
def c36_11 : ACode := .ops [⟨some 34, .bin .eql (.t 22) (.c (.int .i64 2)), none, []⟩,
  ⟨some 33, .mv (.t 34), none, []⟩] [3, 4, 5, 6, 9, 33]
def c36_12 : ACode := .ops [⟨some 35, .fad (.t 4) 1, none, [4]⟩,
  ⟨some 36, .load 1 false (.t 35), none, [4]⟩,
  ⟨some 37, .mv (.c (.int .i64 0)), none, []⟩] [4, 5, 6, 9, 36, 37]
def c36_13 : ACode := .ops [⟨some 38, .bin .lss (.t 37) (.t 36), none, []⟩] [4, 5, 6, 9, 36, 37, 38]
def c36_14 : ACode := .cond (.t 38) .skip (.exit 1)
def c36_15 : ACode := .ops [⟨some 39, .mv (.t 37), none, []⟩,
  ⟨some 10, .mv (.t 39), none, []⟩] [4, 5, 6, 9, 10, 36, 37]
def c36_16 : ACode := .ops [⟨some 40, .mv (.t 10), none, []⟩,
  ⟨some 41, .fad (.t 5) 1, none, [5]⟩,
  ⟨some 42, .load 1 false (.t 41), none, [5]⟩,
  ⟨some 43, .bin .neq (.t 40) (.t 42), none, []⟩,
  ⟨some 44, .mv (.t 43), none, []⟩,
  ⟨some 45, .load 6 true (.t 4), some (44, true), [4]⟩,
  ⟨some 46, .mv (.t 10), some (44, true), []⟩,
  ⟨some 47, .load 4 true (.t 6), some (44, true), [6]⟩,
  ⟨some 48, .call 46 [.t 45, .t 46, .t 47], some (44, true), []⟩,
  ⟨some 49, .mv (.t 9), some (44, true), []⟩,
  ⟨some 50, .bin .geq (.t 48) (.t 49), some (44, true), []⟩,
  ⟨some 51, .pick (.t 44) (.t 50) (.c (.bool false)), none, []⟩] [4, 5, 6, 9, 36, 37, 51]
def c36_17 : ACode := .ops [⟨some 8, .mv (.c (.bool true)), none, []⟩] [8]
def c36_18 : ACode := .seq c36_17 .ret
def c36_19 : ACode := .cond (.t 51) c36_18 .skip
def c36_20 : ACode := .seq c36_16 c36_19
def c36_21 : ACode := .seq c36_15 c36_20
def c36_22 : ACode := .block 2 c36_21
def c36_23 : ACode := .ops [⟨some 52, .bin .add (.t 37) (.c (.int .i64 1)), none, []⟩,
  ⟨some 37, .mv (.t 52), none, []⟩] [4, 5, 6, 9, 36, 37]
def c36_24 : ACode := .seq c36_22 c36_23
def c36_25 : ACode := .seq c36_14 c36_24
def c36_26 : ACode := .seq c36_13 c36_25
def c36_27 : ACode := .keep [4, 5, 6, 9, 36, 37] [4, 5, 6] c36_26
def c36_28 : ACode := .loop c36_27
def c36_29 : ACode := .block 1 c36_28
def c36_30 : ACode := .seq c36_12 c36_29
def c36_31 : ACode := .ops [⟨some 8, .mv (.c (.bool false)), none, []⟩] [8]
def c36_32 : ACode := .seq c36_31 .ret
def c36_33 : ACode := .seq c36_30 c36_32
def c36_34 : ACode := .cond (.t 33) c36_33 .skip
def c36_35 : ACode := .seq c36_11 c36_34
def c36_36 : ACode := .cond (.t 23) c36_10 c36_35
def c36_37 : ACode := .seq c36_8 c36_36
def c36_38 : ACode := .block 0 c36_37
def c36_39 : ACode := .seq c36_7 c36_38
def c36_40 : ACode := .ops [⟨some 53, .fad (.t 5) 14, none, [5]⟩,
  ⟨some 54, .load 1 false (.t 53), none, [5]⟩,
  ⟨some 55, .iad (.t 6) (.t 54) 1 4, none, [6]⟩,
  ⟨some 56, .load 1 false (.t 55), none, [6]⟩,
  ⟨some 57, .mv (.t 3), none, []⟩,
  ⟨some 58, .bin .geq (.t 56) (.t 57), none, []⟩] [3, 4, 5, 6, 9, 58]
def c36_41 : ACode := .ops [⟨some 8, .mv (.c (.bool false)), none, []⟩] [8]
def c36_42 : ACode := .seq c36_41 .ret
def c36_43 : ACode := .cond (.t 58) c36_42 .skip
def c36_44 : ACode := .seq c36_40 c36_43
def c36_45 : ACode := .ops [⟨some 59, .load 6 true (.t 4), none, [4]⟩,
  ⟨some 60, .fad (.t 5) 1, none, [5]⟩,
  ⟨some 61, .load 1 false (.t 60), none, [5]⟩,
  ⟨some 62, .load 17 true (.t 5), none, [5]⟩,
  ⟨some 63, .load 4 true (.t 6), none, [6]⟩,
  ⟨some 64, .mv (.t 3), none, []⟩,
  ⟨some 65, .call 63 [.t 62, .t 63, .t 64], none, []⟩,
  ⟨some 66, .call 46 [.t 59, .t 61, .t 65], none, []⟩,
  ⟨some 11, .mv (.t 66), none, []⟩] [5, 9, 11]
def c36_46 : ACode := .ops [⟨some 67, .fad (.t 5) 15, none, [5]⟩,
  ⟨some 68, .load 1 false (.t 67), none, [5]⟩] [9, 11, 68]
def c36_47 : ACode := .ops [⟨some 69, .mv (.t 11), none, []⟩,
  ⟨some 70, .mv (.t 9), none, []⟩,
  ⟨some 71, .bin .gtr (.t 69) (.t 70), none, []⟩,
  ⟨some 8, .mv (.t 71), none, []⟩] [8]
def c36_48 : ACode := .seq c36_47 .ret
def c36_49 : ACode := .cond (.t 68) c36_48 .skip
def c36_50 : ACode := .seq c36_46 c36_49
def c36_51 : ACode := .ops [⟨some 72, .mv (.t 11), none, []⟩,
  ⟨some 73, .mv (.t 9), none, []⟩,
  ⟨some 74, .bin .lss (.t 72) (.t 73), none, []⟩,
  ⟨some 8, .mv (.t 74), none, []⟩] [8]
def c36_52 : ACode := .seq c36_51 .ret
def c36_53 : ACode := .seq c36_50 c36_52
def c36_54 : ACode := .seq c36_45 c36_53
def c36_55 : ACode := .seq c36_44 c36_54
def c36_56 : ACode := .seq c36_39 c36_55
def c36_57 : ACode := .seq c36_6 c36_56
def c36_58 : ACode := .seq c36_5 c36_57
def c36_59 : ACode := .seq c36_0 c36_58
def a36 : AFun := ⟨4, 75, c36_59, [.t 8]⟩
theorem m36 : mFun Tryz.prog Tryz.f36 a36 = true := by decide +kernel
theorem okQuery_spec {m : Model} {q : Query} (h : okQuery m q = true) : 0 ≤ q.cls ∧ q.cls < m.classes ∧ 0 ≤ q.budget ∧ q.budget ≤ 65536 ∧ okRegion q.region m.dim = true ∧ okKind m q = true := by
  unfold okQuery at h
  simp only [Bool.and_eq_true, decide_eq_true_eq] at h
  exact ⟨h.1.1.1.1.1, h.1.1.1.1.2, h.1.1.1.2, h.1.1.2, h.1.2, h.2⟩
theorem okKind_spec {m : Model} {q : Query} (h : okKind m q = true) :
    (q.kind = 1 ∧ q.lo ≤ q.hi ∧ q.feature = 0 ∧ q.falls = false) ∨ (q.kind = 2 ∧ 2 ≤ m.classes ∧ q.lo = 0 ∧ q.hi = 0 ∧ q.feature = 0 ∧ q.falls = false) ∨ (q.kind = 3 ∧ 0 ≤ q.feature ∧ q.feature < m.dim ∧ q.lo = 0 ∧ q.hi = 0) := by
  unfold okKind at h
  split at h
  · simp only [Bool.and_eq_true, decide_eq_true_eq, Bool.not_eq_true'] at h
    exact .inl ⟨‹_›, h.1.1, h.1.2, h.2⟩
  · split at h
    · simp only [Bool.and_eq_true, decide_eq_true_eq, Bool.not_eq_true'] at h
      exact .inr (.inl ⟨‹_›, h.1.1.1.1, h.1.1.1.2, h.1.1.2, h.1.2, h.2⟩)
    · split at h
      · simp only [Bool.and_eq_true, decide_eq_true_eq] at h
        exact .inr (.inr ⟨‹_›, h.1.1.1, h.1.1.2, h.1.2, h.2⟩)
      · cases h
end Go.Co
/- CO: the cells of a box; does a query hold? -/
namespace Go.Co
open Go.Am Go.Proofs
set_option linter.unusedSimpArgs false
set_option linter.unusedVariables false
attribute [-simp] Go.Am.eff_gcall
def c39_0 : ACode := .ops [⟨some 1, .box (.t 0) 10, none, []⟩,
  ⟨some 2, .alloc [.int .i64 0, .int .i64 0, .int .i64 0, .int .i64 0], none, []⟩] [1, 2]
theorem r39_0 : type_of% (@rr _ _ c39_0.eq_1) := rr c39_0.eq_1
def c39_1 : ACode := .ops [⟨some 3, .alloc [.int .i64 0, .int .i64 0, .int .i64 0, .int .i64 0], none, []⟩] [1, 2, 3]
theorem r39_1 : type_of% (@rr _ _ c39_1.eq_1) := rr c39_1.eq_1
def c39_2 : ACode := .ops [⟨some 5, .mv (.c (.int .i64 0)), none, []⟩] [1, 2, 3, 5]
theorem r39_2 : type_of% (@rr _ _ c39_2.eq_1) := rr c39_2.eq_1
def c39_3 : ACode := .ops [⟨some 6, .bin .lss (.t 5) (.c (.int .i64 4)), none, []⟩] [1, 2, 3, 5, 6]
theorem r39_3 : type_of% (@rr _ _ c39_3.eq_1) := rr c39_3.eq_1
def c39_4 : ACode := .cond (.t 6) .skip (.exit 0)
theorem r39_4 : type_of% (@rr _ _ c39_4.eq_1) := rr c39_4.eq_1
def c39_5 : ACode := .ops [⟨some 7, .mv (.t 5), none, []⟩,
  ⟨some 4, .mv (.t 7), none, []⟩] [1, 2, 3, 4, 5]
theorem r39_5 : type_of% (@rr _ _ c39_5.eq_1) := rr c39_5.eq_1
def c39_6 : ACode := .ops [⟨some 8, .mv (.t 4), none, []⟩,
  ⟨some 9, .mv (.t 4), none, []⟩,
  ⟨some 10, .iad (.t 1) (.t 9) 2 5, none, [1]⟩,
  ⟨some 11, .fad (.t 10) 0, none, [1]⟩,
  ⟨some 12, .load 1 false (.t 11), none, [1]⟩,
  ⟨some 13, .iad (.t 3) (.t 8) 1 4, none, [3]⟩,
  ⟨none, .store (.t 13) 1 (.t 12), none, [3]⟩] [1, 2, 3, 5]
theorem r39_6 : type_of% (@rr _ _ c39_6.eq_1) := rr c39_6.eq_1
def c39_7 : ACode := .seq c39_5 c39_6
theorem r39_7 : type_of% (@rr _ _ c39_7.eq_1) := rr c39_7.eq_1
def c39_8 : ACode := .block 1 c39_7
theorem r39_8 : type_of% (@rr _ _ c39_8.eq_1) := rr c39_8.eq_1
def c39_9 : ACode := .ops [⟨some 14, .bin .add (.t 5) (.c (.int .i64 1)), none, []⟩,
  ⟨some 5, .mv (.t 14), none, []⟩] [1, 2, 3, 5]
theorem r39_9 : type_of% (@rr _ _ c39_9.eq_1) := rr c39_9.eq_1
def c39_10 : ACode := .seq c39_8 c39_9
theorem r39_10 : type_of% (@rr _ _ c39_10.eq_1) := rr c39_10.eq_1
def c39_11 : ACode := .seq c39_4 c39_10
theorem r39_11 : type_of% (@rr _ _ c39_11.eq_1) := rr c39_11.eq_1
def c39_12 : ACode := .seq c39_3 c39_11
theorem r39_12 : type_of% (@rr _ _ c39_12.eq_1) := rr c39_12.eq_1
def c39_13 : ACode := .keep [1, 2, 3, 5] [1, 2, 3] c39_12
theorem r39_13 : type_of% (@rr _ _ c39_13.eq_1) := rr c39_13.eq_1
def c39_14 : ACode := .loop c39_13
theorem r39_14 : type_of% (@rr _ _ c39_14.eq_1) := rr c39_14.eq_1
def c39_15 : ACode := .block 0 c39_14
theorem r39_15 : type_of% (@rr _ _ c39_15.eq_1) := rr c39_15.eq_1
def c39_16 : ACode := .seq c39_2 c39_15
theorem r39_16 : type_of% (@rr _ _ c39_16.eq_1) := rr c39_16.eq_1
def c39_17 : ACode := .ops [⟨some 15, .load 4 true (.t 3), none, [3]⟩,
  ⟨none, .store (.t 2) 4 (.t 15), none, [2]⟩] [2]
theorem r39_17 : type_of% (@rr _ _ c39_17.eq_1) := rr c39_17.eq_1
def c39_18 : ACode := .seq c39_17 .ret
theorem r39_18 : type_of% (@rr _ _ c39_18.eq_1) := rr c39_18.eq_1
def c39_19 : ACode := .seq c39_16 c39_18
theorem r39_19 : type_of% (@rr _ _ c39_19.eq_1) := rr c39_19.eq_1
def c39_20 : ACode := .seq c39_1 c39_19
theorem r39_20 : type_of% (@rr _ _ c39_20.eq_1) := rr c39_20.eq_1
def c39_21 : ACode := .seq c39_0 c39_20
theorem r39_21 : type_of% (@rr _ _ c39_21.eq_1) := rr c39_21.eq_1
def a39 : AFun := ⟨1, 16, c39_21, [.cell 2 4 true]⟩
attribute [simp] r39_0 r39_1 r39_2 r39_3 r39_4 r39_5 r39_6 r39_7 r39_8 r39_9 r39_10 r39_11 r39_12 r39_13 r39_14 r39_15 r39_16 r39_17 r39_18 r39_19 r39_20 r39_21
theorem m39 : mFun Tryz.prog Tryz.f39 a39 = true := by decide +kernel
set_option maxRecDepth 8000 in
theorem runs_Low (b : Box) (r : Point) (h : some (lowB b) = some r) : Runs (tbl []) a39 [Arg.enc b] (Arg.enc r) := by
  cases h
  refine ⟨rfl, fun g => run_def ?_⟩
  unfold a39 lowB
  simp -implicitDefEqProofs [run_round]
theorem c_Low : Contract Tryz.prog 39 (sp1 fun b => some (lowB b)) :=
  contract_of_runs mixed tbl_nil Tryz.func39 m39 (sp1_runs runs_Low)
def corner (m : Model) (q : Query) (b : Box) : Bool := breaks m q (lowB b) b.s4.hi
@[simp] theorem dec_ref_query (q : Query) : (Arg.dec (.ipt 0 [.int .i64 q.kind, .int .i64 q.cls, .int .i64 q.region.s0.lo, .int .i64 q.region.s0.hi, .int .i64 q.region.s1.lo, .int .i64 q.region.s1.hi, .int .i64 q.region.s2.lo, .int .i64 q.region.s2.hi, .int .i64 q.region.s3.lo, .int .i64 q.region.s3.hi, .int .i64 q.region.s4.lo, .int .i64 q.region.s4.hi, .int .i64 q.lo, .int .i64 q.hi, .int .i64 q.feature, .bool q.falls, .int .i64 q.budget]) : Option (Ref Query)) = some ⟨q⟩ := Arg.dec_enc (⟨q⟩ : Ref Query)
structure CloH where
  m : Model
  q : Query
end Go.Co
/- CO: what a statement's reading of an argument says, type by type (written by mkCoSh.py). -/
namespace Go.Co
open Go.Am Go.RowKit
set_option linter.unusedVariables false
theorem okR_nil {xs : List AV} (h : okR [] xs) : xs = [] := by
  cases xs with
  | nil => rfl
  | cons x xs => simp [okR] at h
theorem okR_cons {s : Shp} {ss : List Shp} {xs : List AV} (h : okR (s :: ss) xs) : ∃ x ys, xs = x :: ys ∧ okS s x ∧ okR ss ys := by
  cases xs with
  | nil => simp [okR] at h
  | cons x xs => simp only [okR] at h; exact ⟨x, xs, rfl, h.1, h.2⟩
theorem okS_int {x : AV} (h : okS (.int .i64) x) : ∃ n, x = .int .i64 n ∧ ok64 n := by
  cases x <;> simp only [okS] at h
  obtain ⟨rfl, h1, h2⟩ := h
  exact ⟨_, rfl, h1, h2⟩
theorem okS_word {x : AV} (h : okS (.int .u64) x) : ∃ n, x = .int .u64 n ∧ okW n := by
  cases x <;> simp only [okS] at h
  obtain ⟨rfl, h1, h2⟩ := h
  exact ⟨_, rfl, h1, Int.lt_of_le_of_lt h2 (by decide)⟩
theorem okS_bool {x : AV} (h : okS .bool x) : ∃ b, x = .bool b := by
  cases x <;> simp only [okS] at h
  exact ⟨_, rfl⟩
class Sh (α : Type) [Row α] where
  ss : List Shp
  good : α → Prop
  len : ss.length = Row.sz α
  read : ∀ xs, okR ss xs → ∃ a, xs = Row.enc a ∧ good a
theorem rows_read {α : Type} [Row α] [Sh α] : ∀ (n : Nat) (xs : List AV), xs.length = n * Row.sz α → (∀ i, i < n → okR (Sh.ss α) ((xs.drop (i * Row.sz α)).take (Row.sz α))) → ∃ l : List α, l.length = n ∧ xs = encL l ∧ ∀ a ∈ l, Sh.good a
  | 0, xs, h, _ => ⟨[], rfl, by rw [encL_nil]; exact List.eq_nil_of_length_eq_zero (by simpa using h), by simp⟩
  | n + 1, xs, h, hr => by
    have hp := Row.pos (α := α)
    obtain ⟨a, ha, hg⟩ := Sh.read _ (hr 0 (by omega))
    rw [Nat.succ_mul] at h
    obtain ⟨l, hl, hx, hgl⟩ := rows_read (α := α) n (xs.drop (Row.sz α)) (by rw [List.length_drop]; omega) (fun i hi => by
      have := hr (i + 1) (by omega)
      rw [Nat.succ_mul, Nat.add_comm, ← List.drop_drop] at this
      exact this)
    refine ⟨a :: l, by simp [hl], ?_, ?_⟩
    · rw [encL_cons, ← hx]
      simp only [Nat.zero_mul, List.drop_zero] at ha
      rw [← ha, List.take_append_drop]
    · intro b hb
      rcases List.mem_cons.1 hb with rfl | hb
      · exact hg
      · exact hgl b hb
theorem okS_list {α : Type} [Row α] [Sh α] {x : AV} (h : okS (.sl (Sh.ss α)) x) : ∃ l : List α, x = .lst l.length (encL l) ∧ (∀ a ∈ l, Sh.good a) ∧ l.length ≤ maxLen := by
  cases x <;> simp only [okS] at h
  rename_i n xs
  rw [Sh.len] at h
  obtain ⟨l, rfl, rfl, hg⟩ := rows_read (α := α) n xs h.2.1 h.2.2
  exact ⟨l, rfl, hg, h.1⟩
instance : Sh Int where
  ss := [.int .i64]
  good n := ok64 n
  len := rfl
  read xs h := by
    obtain ⟨x, xs, rfl, h0, h⟩ := okR_cons h
    obtain rfl := okR_nil h
    obtain ⟨n, rfl, b⟩ := okS_int h0
    exact ⟨n, rfl, b⟩
instance : Sh Word where
  ss := [.int .u64]
  good n := okW n.v
  len := rfl
  read xs h := by
    obtain ⟨x, xs, rfl, h0, h⟩ := okR_cons h
    obtain rfl := okR_nil h
    obtain ⟨n, rfl, b⟩ := okS_word h0
    exact ⟨⟨n⟩, rfl, b⟩
instance : Sh Span where
  ss := [.int .i64, .int .i64]
  good a := ok64 a.lo ∧ ok64 a.hi
  len := rfl
  read xs h := by
    obtain ⟨x0, xs, rfl, h0, h⟩ := okR_cons h
    obtain ⟨x1, xs, rfl, h1, h⟩ := okR_cons h
    obtain rfl := okR_nil h
    obtain ⟨v0, rfl, b0⟩ := okS_int h0
    obtain ⟨v1, rfl, b1⟩ := okS_int h1
    exact ⟨⟨v0, v1⟩, rfl, b0, b1⟩
instance : Sh Box where
  ss := [.int .i64, .int .i64, .int .i64, .int .i64, .int .i64, .int .i64, .int .i64, .int .i64, .int .i64, .int .i64]
  good a := ok64 a.s0.lo ∧ ok64 a.s0.hi ∧ ok64 a.s1.lo ∧ ok64 a.s1.hi ∧ ok64 a.s2.lo ∧ ok64 a.s2.hi ∧ ok64 a.s3.lo ∧ ok64 a.s3.hi ∧ ok64 a.s4.lo ∧ ok64 a.s4.hi
  len := rfl
  read xs h := by
    obtain ⟨x0, xs, rfl, h0, h⟩ := okR_cons h
    obtain ⟨x1, xs, rfl, h1, h⟩ := okR_cons h
    obtain ⟨x2, xs, rfl, h2, h⟩ := okR_cons h
    obtain ⟨x3, xs, rfl, h3, h⟩ := okR_cons h
    obtain ⟨x4, xs, rfl, h4, h⟩ := okR_cons h
    obtain ⟨x5, xs, rfl, h5, h⟩ := okR_cons h
    obtain ⟨x6, xs, rfl, h6, h⟩ := okR_cons h
    obtain ⟨x7, xs, rfl, h7, h⟩ := okR_cons h
    obtain ⟨x8, xs, rfl, h8, h⟩ := okR_cons h
    obtain ⟨x9, xs, rfl, h9, h⟩ := okR_cons h
    obtain rfl := okR_nil h
    obtain ⟨v0, rfl, b0⟩ := okS_int h0
    obtain ⟨v1, rfl, b1⟩ := okS_int h1
    obtain ⟨v2, rfl, b2⟩ := okS_int h2
    obtain ⟨v3, rfl, b3⟩ := okS_int h3
    obtain ⟨v4, rfl, b4⟩ := okS_int h4
    obtain ⟨v5, rfl, b5⟩ := okS_int h5
    obtain ⟨v6, rfl, b6⟩ := okS_int h6
    obtain ⟨v7, rfl, b7⟩ := okS_int h7
    obtain ⟨v8, rfl, b8⟩ := okS_int h8
    obtain ⟨v9, rfl, b9⟩ := okS_int h9
    exact ⟨⟨⟨v0, v1⟩, ⟨v2, v3⟩, ⟨v4, v5⟩, ⟨v6, v7⟩, ⟨v8, v9⟩⟩, rfl, b0, b1, b2, b3, b4, b5, b6, b7, b8, b9⟩
instance : Sh Point where
  ss := [.int .i64, .int .i64, .int .i64, .int .i64]
  good a := ok64 a.p0 ∧ ok64 a.p1 ∧ ok64 a.p2 ∧ ok64 a.p3
  len := rfl
  read xs h := by
    obtain ⟨x0, xs, rfl, h0, h⟩ := okR_cons h
    obtain ⟨x1, xs, rfl, h1, h⟩ := okR_cons h
    obtain ⟨x2, xs, rfl, h2, h⟩ := okR_cons h
    obtain ⟨x3, xs, rfl, h3, h⟩ := okR_cons h
    obtain rfl := okR_nil h
    obtain ⟨v0, rfl, b0⟩ := okS_int h0
    obtain ⟨v1, rfl, b1⟩ := okS_int h1
    obtain ⟨v2, rfl, b2⟩ := okS_int h2
    obtain ⟨v3, rfl, b3⟩ := okS_int h3
    exact ⟨⟨v0, v1, v2, v3⟩, rfl, b0, b1, b2, b3⟩
instance : Sh Bias where
  ss := [.int .i64, .int .i64, .int .i64]
  good a := ok64 a.b0 ∧ ok64 a.b1 ∧ ok64 a.b2
  len := rfl
  read xs h := by
    obtain ⟨x0, xs, rfl, h0, h⟩ := okR_cons h
    obtain ⟨x1, xs, rfl, h1, h⟩ := okR_cons h
    obtain ⟨x2, xs, rfl, h2, h⟩ := okR_cons h
    obtain rfl := okR_nil h
    obtain ⟨v0, rfl, b0⟩ := okS_int h0
    obtain ⟨v1, rfl, b1⟩ := okS_int h1
    obtain ⟨v2, rfl, b2⟩ := okS_int h2
    exact ⟨⟨v0, v1, v2⟩, rfl, b0, b1, b2⟩
instance : Sh Node where
  ss := [.bool, .int .i64, .int .i64, .int .i64, .int .i64, .int .i64]
  good a := True ∧ ok64 a.value ∧ ok64 a.feature ∧ ok64 a.cut ∧ ok64 a.left ∧ ok64 a.right
  len := rfl
  read xs h := by
    obtain ⟨x0, xs, rfl, h0, h⟩ := okR_cons h
    obtain ⟨x1, xs, rfl, h1, h⟩ := okR_cons h
    obtain ⟨x2, xs, rfl, h2, h⟩ := okR_cons h
    obtain ⟨x3, xs, rfl, h3, h⟩ := okR_cons h
    obtain ⟨x4, xs, rfl, h4, h⟩ := okR_cons h
    obtain ⟨x5, xs, rfl, h5, h⟩ := okR_cons h
    obtain rfl := okR_nil h
    obtain ⟨v0, rfl⟩ := okS_bool h0
    obtain ⟨v1, rfl, b1⟩ := okS_int h1
    obtain ⟨v2, rfl, b2⟩ := okS_int h2
    obtain ⟨v3, rfl, b3⟩ := okS_int h3
    obtain ⟨v4, rfl, b4⟩ := okS_int h4
    obtain ⟨v5, rfl, b5⟩ := okS_int h5
    exact ⟨⟨v0, v1, v2, v3, v4, v5⟩, rfl, trivial, b1, b2, b3, b4, b5⟩
instance : Sh Tree where
  ss := [.int .i64, .sl (Sh.ss Word)]
  good a := ok64 a.cls ∧ ((∀ x ∈ a.nodes, Sh.good x) ∧ a.nodes.length ≤ maxLen)
  len := rfl
  read xs h := by
    obtain ⟨x0, xs, rfl, h0, h⟩ := okR_cons h
    obtain ⟨x1, xs, rfl, h1, h⟩ := okR_cons h
    obtain rfl := okR_nil h
    obtain ⟨v0, rfl, b0⟩ := okS_int h0
    obtain ⟨v1, rfl, b1⟩ := okS_list (α := Word) h1
    exact ⟨⟨v0, v1⟩, rfl, b0, b1⟩
instance : Sh Model where
  ss := [.int .i64, .int .i64, .int .i64, .int .i64, .int .i64, .sl (Sh.ss Tree)]
  good a := ok64 a.dim ∧ ok64 a.classes ∧ ok64 a.bias.b0 ∧ ok64 a.bias.b1 ∧ ok64 a.bias.b2 ∧ ((∀ x ∈ a.trees, Sh.good x) ∧ a.trees.length ≤ maxLen)
  len := rfl
  read xs h := by
    obtain ⟨x0, xs, rfl, h0, h⟩ := okR_cons h
    obtain ⟨x1, xs, rfl, h1, h⟩ := okR_cons h
    obtain ⟨x2, xs, rfl, h2, h⟩ := okR_cons h
    obtain ⟨x3, xs, rfl, h3, h⟩ := okR_cons h
    obtain ⟨x4, xs, rfl, h4, h⟩ := okR_cons h
    obtain ⟨x5, xs, rfl, h5, h⟩ := okR_cons h
    obtain rfl := okR_nil h
    obtain ⟨v0, rfl, b0⟩ := okS_int h0
    obtain ⟨v1, rfl, b1⟩ := okS_int h1
    obtain ⟨v2, rfl, b2⟩ := okS_int h2
    obtain ⟨v3, rfl, b3⟩ := okS_int h3
    obtain ⟨v4, rfl, b4⟩ := okS_int h4
    obtain ⟨v5, rfl, b5⟩ := okS_list (α := Tree) h5
    exact ⟨⟨v0, v1, ⟨v2, v3, v4⟩, v5⟩, rfl, b0, b1, b2, b3, b4, b5⟩
instance : Sh Piece where
  ss := [.int .i64, .int .i64, .int .i64, .int .i64, .int .i64, .int .i64, .int .i64, .int .i64, .int .i64, .int .i64, .int .i64]
  good a := ok64 a.box.s0.lo ∧ ok64 a.box.s0.hi ∧ ok64 a.box.s1.lo ∧ ok64 a.box.s1.hi ∧ ok64 a.box.s2.lo ∧ ok64 a.box.s2.hi ∧ ok64 a.box.s3.lo ∧ ok64 a.box.s3.hi ∧ ok64 a.box.s4.lo ∧ ok64 a.box.s4.hi ∧ ok64 a.value
  len := rfl
  read xs h := by
    obtain ⟨x0, xs, rfl, h0, h⟩ := okR_cons h
    obtain ⟨x1, xs, rfl, h1, h⟩ := okR_cons h
    obtain ⟨x2, xs, rfl, h2, h⟩ := okR_cons h
    obtain ⟨x3, xs, rfl, h3, h⟩ := okR_cons h
    obtain ⟨x4, xs, rfl, h4, h⟩ := okR_cons h
    obtain ⟨x5, xs, rfl, h5, h⟩ := okR_cons h
    obtain ⟨x6, xs, rfl, h6, h⟩ := okR_cons h
    obtain ⟨x7, xs, rfl, h7, h⟩ := okR_cons h
    obtain ⟨x8, xs, rfl, h8, h⟩ := okR_cons h
    obtain ⟨x9, xs, rfl, h9, h⟩ := okR_cons h
    obtain ⟨x10, xs, rfl, h10, h⟩ := okR_cons h
    obtain rfl := okR_nil h
    obtain ⟨v0, rfl, b0⟩ := okS_int h0
    obtain ⟨v1, rfl, b1⟩ := okS_int h1
    obtain ⟨v2, rfl, b2⟩ := okS_int h2
    obtain ⟨v3, rfl, b3⟩ := okS_int h3
    obtain ⟨v4, rfl, b4⟩ := okS_int h4
    obtain ⟨v5, rfl, b5⟩ := okS_int h5
    obtain ⟨v6, rfl, b6⟩ := okS_int h6
    obtain ⟨v7, rfl, b7⟩ := okS_int h7
    obtain ⟨v8, rfl, b8⟩ := okS_int h8
    obtain ⟨v9, rfl, b9⟩ := okS_int h9
    obtain ⟨v10, rfl, b10⟩ := okS_int h10
    exact ⟨⟨⟨⟨v0, v1⟩, ⟨v2, v3⟩, ⟨v4, v5⟩, ⟨v6, v7⟩, ⟨v8, v9⟩⟩, v10⟩, rfl, b0, b1, b2, b3, b4, b5, b6, b7, b8, b9, b10⟩
instance : Sh Step where
  ss := [.bool, .int .i64, .int .i64]
  good a := True ∧ ok64 a.place ∧ ok64 a.cut
  len := rfl
  read xs h := by
    obtain ⟨x0, xs, rfl, h0, h⟩ := okR_cons h
    obtain ⟨x1, xs, rfl, h1, h⟩ := okR_cons h
    obtain ⟨x2, xs, rfl, h2, h⟩ := okR_cons h
    obtain rfl := okR_nil h
    obtain ⟨v0, rfl⟩ := okS_bool h0
    obtain ⟨v1, rfl, b1⟩ := okS_int h1
    obtain ⟨v2, rfl, b2⟩ := okS_int h2
    exact ⟨⟨v0, v1, v2⟩, rfl, trivial, b1, b2⟩
instance : Sh Query where
  ss := [.int .i64, .int .i64, .int .i64, .int .i64, .int .i64, .int .i64, .int .i64, .int .i64, .int .i64, .int .i64, .int .i64, .int .i64, .int .i64, .int .i64, .int .i64, .bool, .int .i64]
  good a := ok64 a.kind ∧ ok64 a.cls ∧ ok64 a.region.s0.lo ∧ ok64 a.region.s0.hi ∧ ok64 a.region.s1.lo ∧ ok64 a.region.s1.hi ∧ ok64 a.region.s2.lo ∧ ok64 a.region.s2.hi ∧ ok64 a.region.s3.lo ∧ ok64 a.region.s3.hi ∧ ok64 a.region.s4.lo ∧ ok64 a.region.s4.hi ∧ ok64 a.lo ∧ ok64 a.hi ∧ ok64 a.feature ∧ True ∧ ok64 a.budget
  len := rfl
  read xs h := by
    obtain ⟨x0, xs, rfl, h0, h⟩ := okR_cons h
    obtain ⟨x1, xs, rfl, h1, h⟩ := okR_cons h
    obtain ⟨x2, xs, rfl, h2, h⟩ := okR_cons h
    obtain ⟨x3, xs, rfl, h3, h⟩ := okR_cons h
    obtain ⟨x4, xs, rfl, h4, h⟩ := okR_cons h
    obtain ⟨x5, xs, rfl, h5, h⟩ := okR_cons h
    obtain ⟨x6, xs, rfl, h6, h⟩ := okR_cons h
    obtain ⟨x7, xs, rfl, h7, h⟩ := okR_cons h
    obtain ⟨x8, xs, rfl, h8, h⟩ := okR_cons h
    obtain ⟨x9, xs, rfl, h9, h⟩ := okR_cons h
    obtain ⟨x10, xs, rfl, h10, h⟩ := okR_cons h
    obtain ⟨x11, xs, rfl, h11, h⟩ := okR_cons h
    obtain ⟨x12, xs, rfl, h12, h⟩ := okR_cons h
    obtain ⟨x13, xs, rfl, h13, h⟩ := okR_cons h
    obtain ⟨x14, xs, rfl, h14, h⟩ := okR_cons h
    obtain ⟨x15, xs, rfl, h15, h⟩ := okR_cons h
    obtain ⟨x16, xs, rfl, h16, h⟩ := okR_cons h
    obtain rfl := okR_nil h
    obtain ⟨v0, rfl, b0⟩ := okS_int h0
    obtain ⟨v1, rfl, b1⟩ := okS_int h1
    obtain ⟨v2, rfl, b2⟩ := okS_int h2
    obtain ⟨v3, rfl, b3⟩ := okS_int h3
    obtain ⟨v4, rfl, b4⟩ := okS_int h4
    obtain ⟨v5, rfl, b5⟩ := okS_int h5
    obtain ⟨v6, rfl, b6⟩ := okS_int h6
    obtain ⟨v7, rfl, b7⟩ := okS_int h7
    obtain ⟨v8, rfl, b8⟩ := okS_int h8
    obtain ⟨v9, rfl, b9⟩ := okS_int h9
    obtain ⟨v10, rfl, b10⟩ := okS_int h10
    obtain ⟨v11, rfl, b11⟩ := okS_int h11
    obtain ⟨v12, rfl, b12⟩ := okS_int h12
    obtain ⟨v13, rfl, b13⟩ := okS_int h13
    obtain ⟨v14, rfl, b14⟩ := okS_int h14
    obtain ⟨v15, rfl⟩ := okS_bool h15
    obtain ⟨v16, rfl, b16⟩ := okS_int h16
    exact ⟨⟨v0, v1, ⟨⟨v2, v3⟩, ⟨v4, v5⟩, ⟨v6, v7⟩, ⟨v8, v9⟩, ⟨v10, v11⟩⟩, v12, v13, v14, v15, v16⟩, rfl, b0, b1, b2, b3, b4, b5, b6, b7, b8, b9, b10, b11, b12, b13, b14, trivial, b16⟩
instance : Sh Verdict where
  ss := [.int .i64, .sl (Sh.ss Step), .int .i64, .int .i64, .int .i64, .int .i64, .int .i64, .int .i64]
  good a := ok64 a.kind ∧ ((∀ x ∈ a.proof, Sh.good x) ∧ a.proof.length ≤ maxLen) ∧ ok64 a.witness.p0 ∧ ok64 a.witness.p1 ∧ ok64 a.witness.p2 ∧ ok64 a.witness.p3 ∧ ok64 a.twin ∧ ok64 a.spent
  len := rfl
  read xs h := by
    obtain ⟨x0, xs, rfl, h0, h⟩ := okR_cons h
    obtain ⟨x1, xs, rfl, h1, h⟩ := okR_cons h
    obtain ⟨x2, xs, rfl, h2, h⟩ := okR_cons h
    obtain ⟨x3, xs, rfl, h3, h⟩ := okR_cons h
    obtain ⟨x4, xs, rfl, h4, h⟩ := okR_cons h
    obtain ⟨x5, xs, rfl, h5, h⟩ := okR_cons h
    obtain ⟨x6, xs, rfl, h6, h⟩ := okR_cons h
    obtain ⟨x7, xs, rfl, h7, h⟩ := okR_cons h
    obtain rfl := okR_nil h
    obtain ⟨v0, rfl, b0⟩ := okS_int h0
    obtain ⟨v1, rfl, b1⟩ := okS_list (α := Step) h1
    obtain ⟨v2, rfl, b2⟩ := okS_int h2
    obtain ⟨v3, rfl, b3⟩ := okS_int h3
    obtain ⟨v4, rfl, b4⟩ := okS_int h4
    obtain ⟨v5, rfl, b5⟩ := okS_int h5
    obtain ⟨v6, rfl, b6⟩ := okS_int h6
    obtain ⟨v7, rfl, b7⟩ := okS_int h7
    exact ⟨⟨v0, v1, ⟨v2, v3, v4, v5⟩, v6, v7⟩, rfl, b0, b1, b2, b3, b4, b5, b6, b7⟩
instance : Sh KTree where
  ss := [.int .i64, .sl (Sh.ss Int), .sl (Sh.ss Int), .sl (Sh.ss Int), .sl (Sh.ss Int)]
  good a := ok64 a.cls ∧ ((∀ x ∈ a.part, Sh.good x) ∧ a.part.length ≤ maxLen) ∧ ((∀ x ∈ a.dir, Sh.good x) ∧ a.dir.length ≤ maxLen) ∧ ((∀ x ∈ a.cut, Sh.good x) ∧ a.cut.length ≤ maxLen) ∧ ((∀ x ∈ a.val, Sh.good x) ∧ a.val.length ≤ maxLen)
  len := rfl
  read xs h := by
    obtain ⟨x0, xs, rfl, h0, h⟩ := okR_cons h
    obtain ⟨x1, xs, rfl, h1, h⟩ := okR_cons h
    obtain ⟨x2, xs, rfl, h2, h⟩ := okR_cons h
    obtain ⟨x3, xs, rfl, h3, h⟩ := okR_cons h
    obtain ⟨x4, xs, rfl, h4, h⟩ := okR_cons h
    obtain rfl := okR_nil h
    obtain ⟨v0, rfl, b0⟩ := okS_int h0
    obtain ⟨v1, rfl, b1⟩ := okS_list (α := Int) h1
    obtain ⟨v2, rfl, b2⟩ := okS_list (α := Int) h2
    obtain ⟨v3, rfl, b3⟩ := okS_list (α := Int) h3
    obtain ⟨v4, rfl, b4⟩ := okS_list (α := Int) h4
    exact ⟨⟨v0, v1, v2, v3, v4⟩, rfl, b0, b1, b2, b3, b4⟩
instance : Sh Forest where
  ss := [.int .i64, .int .i64, .sl (Sh.ss Int), .sl (Sh.ss KTree)]
  good a := ok64 a.dim ∧ ok64 a.classes ∧ ((∀ x ∈ a.bias, Sh.good x) ∧ a.bias.length ≤ maxLen) ∧ ((∀ x ∈ a.trees, Sh.good x) ∧ a.trees.length ≤ maxLen)
  len := rfl
  read xs h := by
    obtain ⟨x0, xs, rfl, h0, h⟩ := okR_cons h
    obtain ⟨x1, xs, rfl, h1, h⟩ := okR_cons h
    obtain ⟨x2, xs, rfl, h2, h⟩ := okR_cons h
    obtain ⟨x3, xs, rfl, h3, h⟩ := okR_cons h
    obtain rfl := okR_nil h
    obtain ⟨v0, rfl, b0⟩ := okS_int h0
    obtain ⟨v1, rfl, b1⟩ := okS_int h1
    obtain ⟨v2, rfl, b2⟩ := okS_list (α := Int) h2
    obtain ⟨v3, rfl, b3⟩ := okS_list (α := KTree) h3
    exact ⟨⟨v0, v1, v2, v3⟩, rfl, b0, b1, b2, b3⟩
instance : Sh Ask where
  ss := [.int .i64, .int .i64, .int .i64, .int .i64, .int .i64, .int .i64, .bool, .sl (Sh.ss Int)]
  good a := ok64 a.kind ∧ ok64 a.cls ∧ ok64 a.lo ∧ ok64 a.size ∧ ok64 a.feature ∧ ok64 a.budget ∧ True ∧ ((∀ x ∈ a.spans, Sh.good x) ∧ a.spans.length ≤ maxLen)
  len := rfl
  read xs h := by
    obtain ⟨x0, xs, rfl, h0, h⟩ := okR_cons h
    obtain ⟨x1, xs, rfl, h1, h⟩ := okR_cons h
    obtain ⟨x2, xs, rfl, h2, h⟩ := okR_cons h
    obtain ⟨x3, xs, rfl, h3, h⟩ := okR_cons h
    obtain ⟨x4, xs, rfl, h4, h⟩ := okR_cons h
    obtain ⟨x5, xs, rfl, h5, h⟩ := okR_cons h
    obtain ⟨x6, xs, rfl, h6, h⟩ := okR_cons h
    obtain ⟨x7, xs, rfl, h7, h⟩ := okR_cons h
    obtain rfl := okR_nil h
    obtain ⟨v0, rfl, b0⟩ := okS_int h0
    obtain ⟨v1, rfl, b1⟩ := okS_int h1
    obtain ⟨v2, rfl, b2⟩ := okS_int h2
    obtain ⟨v3, rfl, b3⟩ := okS_int h3
    obtain ⟨v4, rfl, b4⟩ := okS_int h4
    obtain ⟨v5, rfl, b5⟩ := okS_int h5
    obtain ⟨v6, rfl⟩ := okS_bool h6
    obtain ⟨v7, rfl, b7⟩ := okS_list (α := Int) h7
    exact ⟨⟨v0, v1, v2, v3, v4, v5, v6, v7⟩, rfl, b0, b1, b2, b3, b4, b5, trivial, b7⟩
instance : Sh Cutting where
  ss := [.sl (Sh.ss Int), .sl (Sh.ss Int)]
  good a := ((∀ x ∈ a.place, Sh.good x) ∧ a.place.length ≤ maxLen) ∧ ((∀ x ∈ a.cut, Sh.good x) ∧ a.cut.length ≤ maxLen)
  len := rfl
  read xs h := by
    obtain ⟨x0, xs, rfl, h0, h⟩ := okR_cons h
    obtain ⟨x1, xs, rfl, h1, h⟩ := okR_cons h
    obtain rfl := okR_nil h
    obtain ⟨v0, rfl, b0⟩ := okS_list (α := Int) h0
    obtain ⟨v1, rfl, b1⟩ := okS_list (α := Int) h1
    exact ⟨⟨v0, v1⟩, rfl, b0, b1⟩
variable {P : Program} {t : TypeId} {x : AV}
theorem arg_agg {α : Type} [Row α] [Sh α] (h1 : isAggT P t = true) (h2 : shp P 20 t = some (Sh.ss α)) (h : argOk P t x) : ∃ a : α, x = .agg (Row.enc a) ∧ Sh.good a := by
  unfold argOk at h
  rw [h1] at h
  obtain ⟨xs, ss, rfl, hs, hr⟩ := h
  rw [h2] at hs
  cases hs
  obtain ⟨a, rfl, hg⟩ := Sh.read _ hr
  exact ⟨a, rfl, hg⟩
theorem arg_cell {s : Shp} (h1 : isAggT P t = false) (h2 : shp P 20 t = some [s]) (h : argOk P t x) : okS s x := by
  unfold argOk at h
  rw [h1] at h
  obtain ⟨s', hs, hr⟩ := h
  rw [h2] at hs
  cases hs
  exact hr
theorem arg_bool (h1 : isAggT P t = false) (h2 : shp P 20 t = some [.bool]) (h : argOk P t x) : ∃ b, x = .bool b := okS_bool (arg_cell h1 h2 h)
theorem arg_list {α : Type} [Row α] [Sh α] (h1 : isAggT P t = false) (h2 : shp P 20 t = some [.sl (Sh.ss α)]) (h : argOk P t x) : ∃ l : List α, x = .lst l.length (encL l) ∧ (∀ a ∈ l, Sh.good a) ∧ l.length ≤ maxLen := okS_list (arg_cell h1 h2 h)
theorem argsOk_cons {t : TypeId} {ts : List TypeId} {xs : List AV} (h : argsOk P (t :: ts) xs) : ∃ x ys, xs = x :: ys ∧ argOk P t x ∧ argsOk P ts ys := by
  cases xs with
  | nil => simp [argsOk] at h
  | cons x xs => simp only [argsOk] at h; exact ⟨x, xs, rfl, h.1, h.2⟩
theorem argsOk_nil {xs : List AV} (h : argsOk P [] xs) : xs = [] := by
  cases xs with
  | nil => rfl
  | cons x xs => simp [argsOk] at h
end Go.Co
