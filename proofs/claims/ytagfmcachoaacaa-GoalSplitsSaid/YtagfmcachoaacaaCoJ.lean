/- CO: right queries (written by mkCoJ.py). -/
import Derived.Test.YtagfmcachoaacaaCoI
namespace Go.Co
open Go.Am Go.Proofs
set_option linter.unusedSimpArgs false
set_option linter.unusedVariables false
def c57_0 : ACode := .ops [⟨some 2, .box (.t 0) 10, none, []⟩,
  ⟨some 4, .mv (.c (.bool false)), none, []⟩] [1, 2]
def c57_1 : ACode := .ops [⟨some 7, .load 10 true (.t 2), none, [2]⟩,
  ⟨some 8, .mv (.c (.int .i64 0)), none, []⟩] [1, 7, 8]
def c57_2 : ACode := .ops [⟨some 9, .bin .lss (.t 8) (.c (.int .i64 5)), none, []⟩] [1, 7, 8, 9]
def c57_3 : ACode := .cond (.t 9) .skip (.exit 0)
def c57_4 : ACode := .ops [⟨some 10, .mv (.t 8), none, []⟩,
  ⟨some 11, .idx (.t 7) (.t 8) 2 5 true, none, []⟩,
  ⟨some 6, .alloc [.int .i64 0, .int .i64 0], none, []⟩,
  ⟨some 5, .mv (.t 10), none, []⟩,
  ⟨none, .store (.t 6) 2 (.t 11), none, [6]⟩] [1, 5, 6, 7, 8]
def c57_5 : ACode := .ops [⟨some 12, .mv (.t 5), none, []⟩,
  ⟨some 13, .mv (.t 1), none, []⟩,
  ⟨some 14, .bin .geq (.t 12) (.t 13), none, []⟩,
  ⟨some 15, .mv (.t 14), none, []⟩,
  ⟨some 16, .load 2 true (.t 6), some (15, true), [6]⟩,
  ⟨some 17, .build [.int .i64 0, .int .i64 0] [], some (15, true), []⟩,
  ⟨some 18, .eqa true [false, false] (.t 16) (.t 17), some (15, true), []⟩,
  ⟨some 19, .pick (.t 15) (.t 18) (.c (.bool false)), none, []⟩] [1, 6, 7, 8, 19]
def c57_6 : ACode := .ops [⟨some 4, .mv (.c (.bool false)), none, []⟩] [4]
def c57_7 : ACode := .seq c57_6 .ret
def c57_8 : ACode := .cond (.t 19) c57_7 .skip
def c57_9 : ACode := .seq c57_5 c57_8
def c57_10 : ACode := .ops [⟨some 20, .load 2 true (.t 6), none, [6]⟩,
  ⟨some 21, .call 43 [.t 20], none, []⟩,
  ⟨some 22, .mv (.t 21), none, []⟩,
  ⟨some 23, .fad (.t 6) 0, some (22, false), [6]⟩,
  ⟨some 24, .load 1 false (.t 23), some (22, false), [6]⟩,
  ⟨some 25, .call 70 [.t 24, .c (.int .i64 32)], some (22, false), []⟩,
  ⟨some 26, .un .not (.t 25), some (22, false), []⟩,
  ⟨some 27, .pick (.t 22) (.c (.bool true)) (.t 26), none, []⟩,
  ⟨some 28, .mv (.t 27), none, []⟩,
  ⟨some 29, .fad (.t 6) 1, some (28, false), [6]⟩,
  ⟨some 30, .load 1 false (.t 29), some (28, false), [6]⟩,
  ⟨some 31, .call 70 [.t 30, .c (.int .i64 32)], some (28, false), []⟩,
  ⟨some 32, .un .not (.t 31), some (28, false), []⟩,
  ⟨some 33, .pick (.t 28) (.c (.bool true)) (.t 32), none, []⟩] [1, 7, 8, 33]
def c57_11 : ACode := .ops [⟨some 4, .mv (.c (.bool false)), none, []⟩] [4]
def c57_12 : ACode := .seq c57_11 .ret
def c57_13 : ACode := .cond (.t 33) c57_12 .skip
def c57_14 : ACode := .seq c57_10 c57_13
def c57_15 : ACode := .seq c57_9 c57_14
def c57_16 : ACode := .seq c57_4 c57_15
def c57_17 : ACode := .block 1 c57_16
def c57_18 : ACode := .ops [⟨some 34, .bin .add (.t 8) (.c (.int .i64 1)), none, []⟩,
  ⟨some 8, .mv (.t 34), none, []⟩] [1, 7, 8]
def c57_19 : ACode := .seq c57_17 c57_18
def c57_20 : ACode := .seq c57_3 c57_19
def c57_21 : ACode := .seq c57_2 c57_20
def c57_22 : ACode := .keep [1, 7, 8] [] c57_21
def c57_23 : ACode := .loop c57_22
def c57_24 : ACode := .block 0 c57_23
def c57_25 : ACode := .seq c57_1 c57_24
def c57_26 : ACode := .ops [⟨some 4, .mv (.c (.bool true)), none, []⟩] [4]
def c57_27 : ACode := .seq c57_26 .ret
def c57_28 : ACode := .seq c57_25 c57_27
def c57_29 : ACode := .seq c57_0 c57_28
def a57 : AFun := ⟨2, 35, c57_29, [.t 4]⟩
theorem m57 : mFun Try.prog Try.f57 a57 = true := by decide +kernel
def c58_0 : ACode := .ops [⟨some 2, .box (.t 0) 6, none, []⟩,
  ⟨some 3, .box (.t 1) 17, none, []⟩,
  ⟨some 4, .mv (.c (.bool false)), none, []⟩] [2, 3]
def c58_1 : ACode := .ops [⟨some 5, .fad (.t 3) 0, none, [3]⟩,
  ⟨some 6, .load 1 false (.t 5), none, [3]⟩] [2, 3, 6]
def c58_2 : ACode := .ops [⟨some 8, .bin .eql (.t 6) (.c (.int .i64 1)), none, []⟩,
  ⟨some 7, .mv (.t 8), none, []⟩] [2, 3, 6, 7]
def c58_3 : ACode := .ops [⟨some 9, .fad (.t 3) 12, none, [3]⟩,
  ⟨some 10, .load 1 false (.t 9), none, [3]⟩,
  ⟨some 11, .fad (.t 3) 13, none, [3]⟩,
  ⟨some 12, .load 1 false (.t 11), none, [3]⟩,
  ⟨some 13, .bin .leq (.t 10) (.t 12), none, []⟩,
  ⟨some 14, .mv (.t 13), none, []⟩,
  ⟨some 15, .fad (.t 3) 14, some (14, true), [3]⟩,
  ⟨some 16, .load 1 false (.t 15), some (14, true), [3]⟩,
  ⟨some 17, .bin .eql (.t 16) (.c (.int .i64 0)), some (14, true), []⟩,
  ⟨some 18, .pick (.t 14) (.t 17) (.c (.bool false)), none, []⟩,
  ⟨some 19, .mv (.t 18), none, []⟩,
  ⟨some 20, .fad (.t 3) 15, some (19, true), [3]⟩,
  ⟨some 21, .load 1 false (.t 20), some (19, true), [3]⟩,
  ⟨some 22, .un .not (.t 21), some (19, true), []⟩,
  ⟨some 23, .pick (.t 19) (.t 22) (.c (.bool false)), none, []⟩,
  ⟨some 4, .mv (.t 23), none, []⟩] [4]
def c58_4 : ACode := .seq c58_3 .ret
def c58_5 : ACode := .ops [⟨some 25, .bin .eql (.t 6) (.c (.int .i64 2)), none, []⟩,
  ⟨some 24, .mv (.t 25), none, []⟩] [2, 3, 6, 24]
def c58_6 : ACode := .ops [⟨some 26, .fad (.t 2) 1, none, [2]⟩,
  ⟨some 27, .load 1 false (.t 26), none, [2]⟩,
  ⟨some 28, .bin .geq (.t 27) (.c (.int .i64 2)), none, []⟩,
  ⟨some 29, .mv (.t 28), none, []⟩,
  ⟨some 30, .fad (.t 3) 12, some (29, true), [3]⟩,
  ⟨some 31, .load 1 false (.t 30), some (29, true), [3]⟩,
  ⟨some 32, .bin .eql (.t 31) (.c (.int .i64 0)), some (29, true), []⟩,
  ⟨some 33, .pick (.t 29) (.t 32) (.c (.bool false)), none, []⟩,
  ⟨some 34, .mv (.t 33), none, []⟩,
  ⟨some 35, .fad (.t 3) 13, some (34, true), [3]⟩,
  ⟨some 36, .load 1 false (.t 35), some (34, true), [3]⟩,
  ⟨some 37, .bin .eql (.t 36) (.c (.int .i64 0)), some (34, true), []⟩,
  ⟨some 38, .pick (.t 34) (.t 37) (.c (.bool false)), none, []⟩,
  ⟨some 39, .mv (.t 38), none, []⟩,
  ⟨some 40, .fad (.t 3) 14, some (39, true), [3]⟩,
  ⟨some 41, .load 1 false (.t 40), some (39, true), [3]⟩,
  ⟨some 42, .bin .eql (.t 41) (.c (.int .i64 0)), some (39, true), []⟩,
  ⟨some 43, .pick (.t 39) (.t 42) (.c (.bool false)), none, []⟩,
  ⟨some 44, .mv (.t 43), none, []⟩,
  ⟨some 45, .fad (.t 3) 15, some (44, true), [3]⟩,
  ⟨some 46, .load 1 false (.t 45), some (44, true), [3]⟩,
  ⟨some 47, .un .not (.t 46), some (44, true), []⟩,
  ⟨some 48, .pick (.t 44) (.t 47) (.c (.bool false)), none, []⟩,
  ⟨some 4, .mv (.t 48), none, []⟩] [4]
def c58_7 : ACode := .seq c58_6 .ret
def c58_8 : ACode := .ops [⟨some 50, .bin .eql (.t 6) (.c (.int .i64 3)), none, []⟩,
  ⟨some 49, .mv (.t 50), none, []⟩] [2, 3, 49]
def c58_9 : ACode := .ops [⟨some 51, .fad (.t 3) 14, none, [3]⟩,
  ⟨some 52, .load 1 false (.t 51), none, [3]⟩,
  ⟨some 53, .bin .geq (.t 52) (.c (.int .i64 0)), none, []⟩,
  ⟨some 54, .mv (.t 53), none, []⟩,
  ⟨some 55, .fad (.t 3) 14, some (54, true), [3]⟩,
  ⟨some 56, .load 1 false (.t 55), some (54, true), [3]⟩,
  ⟨some 57, .fad (.t 2) 0, some (54, true), [2]⟩,
  ⟨some 58, .load 1 false (.t 57), some (54, true), [2]⟩,
  ⟨some 59, .bin .lss (.t 56) (.t 58), some (54, true), []⟩,
  ⟨some 60, .pick (.t 54) (.t 59) (.c (.bool false)), none, []⟩,
  ⟨some 61, .mv (.t 60), none, []⟩,
  ⟨some 62, .fad (.t 3) 12, some (61, true), [3]⟩,
  ⟨some 63, .load 1 false (.t 62), some (61, true), [3]⟩,
  ⟨some 64, .bin .eql (.t 63) (.c (.int .i64 0)), some (61, true), []⟩,
  ⟨some 65, .pick (.t 61) (.t 64) (.c (.bool false)), none, []⟩,
  ⟨some 66, .mv (.t 65), none, []⟩,
  ⟨some 67, .fad (.t 3) 13, some (66, true), [3]⟩,
  ⟨some 68, .load 1 false (.t 67), some (66, true), [3]⟩,
  ⟨some 69, .bin .eql (.t 68) (.c (.int .i64 0)), some (66, true), []⟩,
  ⟨some 70, .pick (.t 66) (.t 69) (.c (.bool false)), none, []⟩,
  ⟨some 4, .mv (.t 70), none, []⟩] [4]
def c58_10 : ACode := .seq c58_9 .ret
def c58_11 : ACode := .cond (.t 49) c58_10 .skip
def c58_12 : ACode := .seq c58_8 c58_11
def c58_13 : ACode := .cond (.t 24) c58_7 c58_12
def c58_14 : ACode := .seq c58_5 c58_13
def c58_15 : ACode := .cond (.t 7) c58_4 c58_14
def c58_16 : ACode := .seq c58_2 c58_15
def c58_17 : ACode := .block 0 c58_16
def c58_18 : ACode := .seq c58_1 c58_17
def c58_19 : ACode := .ops [⟨some 4, .mv (.c (.bool false)), none, []⟩] [4]
def c58_20 : ACode := .seq c58_19 .ret
def c58_21 : ACode := .seq c58_18 c58_20
def c58_22 : ACode := .seq c58_0 c58_21
def a58 : AFun := ⟨2, 71, c58_22, [.t 4]⟩
theorem m58 : mFun Try.prog Try.f58 a58 = true := by decide +kernel
def c30_0 : ACode := .ops [⟨some 2, .box (.t 0) 6, none, []⟩,
  ⟨some 3, .box (.t 1) 17, none, []⟩,
  ⟨some 4, .mv (.c (.bool false)), none, []⟩] [2, 3]
def c30_1 : ACode := .ops [⟨some 5, .load 6 true (.t 2), none, [2]⟩,
  ⟨some 6, .call 47 [.t 5], none, []⟩,
  ⟨some 7, .mv (.t 6), none, []⟩,
  ⟨some 8, .fad (.t 3) 1, some (7, true), [3]⟩,
  ⟨some 9, .load 1 false (.t 8), some (7, true), [3]⟩,
  ⟨some 10, .bin .geq (.t 9) (.c (.int .i64 0)), some (7, true), []⟩,
  ⟨some 11, .pick (.t 7) (.t 10) (.c (.bool false)), none, []⟩,
  ⟨some 12, .mv (.t 11), none, []⟩,
  ⟨some 13, .fad (.t 3) 1, some (12, true), [3]⟩,
  ⟨some 14, .load 1 false (.t 13), some (12, true), [3]⟩,
  ⟨some 15, .fad (.t 2) 1, some (12, true), [2]⟩,
  ⟨some 16, .load 1 false (.t 15), some (12, true), [2]⟩,
  ⟨some 17, .bin .lss (.t 14) (.t 16), some (12, true), []⟩,
  ⟨some 18, .pick (.t 12) (.t 17) (.c (.bool false)), none, []⟩,
  ⟨some 19, .mv (.t 18), none, []⟩,
  ⟨some 20, .fad (.t 3) 16, some (19, true), [3]⟩,
  ⟨some 21, .load 1 false (.t 20), some (19, true), [3]⟩,
  ⟨some 22, .bin .geq (.t 21) (.c (.int .i64 0)), some (19, true), []⟩,
  ⟨some 23, .pick (.t 19) (.t 22) (.c (.bool false)), none, []⟩,
  ⟨some 24, .mv (.t 23), none, []⟩,
  ⟨some 25, .fad (.t 3) 16, some (24, true), [3]⟩,
  ⟨some 26, .load 1 false (.t 25), some (24, true), [3]⟩,
  ⟨some 27, .bin .leq (.t 26) (.c (.int .i64 65536)), some (24, true), []⟩,
  ⟨some 28, .pick (.t 24) (.t 27) (.c (.bool false)), none, []⟩,
  ⟨some 29, .mv (.t 28), none, []⟩,
  ⟨some 30, .fad (.t 3) 2, some (29, true), [3]⟩,
  ⟨some 31, .load 10 true (.t 30), some (29, true), [3]⟩,
  ⟨some 32, .fad (.t 2) 0, some (29, true), [2]⟩,
  ⟨some 33, .load 1 false (.t 32), some (29, true), [2]⟩,
  ⟨some 34, .call 57 [.t 31, .t 33], some (29, true), []⟩,
  ⟨some 35, .pick (.t 29) (.t 34) (.c (.bool false)), none, []⟩,
  ⟨some 36, .mv (.t 35), none, []⟩,
  ⟨some 37, .load 6 true (.t 2), some (36, true), [2]⟩,
  ⟨some 38, .load 17 true (.t 3), some (36, true), [3]⟩,
  ⟨some 39, .call 58 [.t 37, .t 38], some (36, true), []⟩,
  ⟨some 40, .pick (.t 36) (.t 39) (.c (.bool false)), none, []⟩,
  ⟨some 4, .mv (.t 40), none, []⟩] [4]
def c30_2 : ACode := .seq c30_1 .ret
def c30_3 : ACode := .seq c30_0 c30_2
def a30 : AFun := ⟨2, 41, c30_3, [.t 4]⟩
theorem m30 : mFun Try.prog Try.f30 a30 = true := by decide +kernel
def c29_0 : ACode := .ops [⟨some 1, .box (.t 0) 17, none, []⟩,
  ⟨some 2, .mv (.c (.bool false)), none, []⟩] [1]
theorem r29_0 : type_of% (@rr _ _ c29_0.eq_1) := rr c29_0.eq_1
def c29_1 : ACode := .ops [⟨some 3, .fad (.t 1) 0, none, [1]⟩,
  ⟨some 4, .load 1 false (.t 3), none, [1]⟩,
  ⟨some 5, .bin .eql (.t 4) (.c (.int .i64 3)), none, []⟩,
  ⟨some 6, .mv (.t 5), none, []⟩,
  ⟨some 7, .fad (.t 1) 14, some (6, true), [1]⟩,
  ⟨some 8, .load 1 false (.t 7), some (6, true), [1]⟩,
  ⟨some 9, .bin .geq (.t 8) (.c (.int .i64 0)), some (6, true), []⟩,
  ⟨some 10, .pick (.t 6) (.t 9) (.c (.bool false)), none, []⟩,
  ⟨some 11, .mv (.t 10), none, []⟩,
  ⟨some 12, .fad (.t 1) 14, some (11, true), [1]⟩,
  ⟨some 13, .load 1 false (.t 12), some (11, true), [1]⟩,
  ⟨some 14, .bin .lss (.t 13) (.c (.int .i64 4)), some (11, true), []⟩,
  ⟨some 15, .pick (.t 11) (.t 14) (.c (.bool false)), none, []⟩,
  ⟨some 2, .mv (.t 15), none, []⟩] [2]
theorem r29_1 : type_of% (@rr _ _ c29_1.eq_1) := rr c29_1.eq_1
def c29_2 : ACode := .seq c29_1 .ret
theorem r29_2 : type_of% (@rr _ _ c29_2.eq_1) := rr c29_2.eq_1
def c29_3 : ACode := .seq c29_0 c29_2
theorem r29_3 : type_of% (@rr _ _ c29_3.eq_1) := rr c29_3.eq_1
def a29 : AFun := ⟨1, 16, c29_3, [.t 2]⟩
attribute [simp] r29_0 r29_1 r29_2 r29_3
theorem m29 : mFun Try.prog Try.f29 a29 = true := by decide +kernel
def c10_0 : ACode := .ops [⟨some 1, .box (.t 0) 17, none, []⟩,
  ⟨some 2, .alloc [.int .i64 0, .int .i64 0, .int .i64 0, .int .i64 0, .int .i64 0, .int .i64 0, .int .i64 0, .int .i64 0, .int .i64 0, .int .i64 0], none, []⟩] [1, 2]
theorem r10_0 : type_of% (@rr _ _ c10_0.eq_1) := rr c10_0.eq_1
def c10_1 : ACode := .ops [⟨some 4, .fad (.t 1) 2, none, [1]⟩,
  ⟨some 5, .load 10 true (.t 4), none, [1]⟩,
  ⟨some 3, .alloc [.int .i64 0, .int .i64 0, .int .i64 0, .int .i64 0, .int .i64 0, .int .i64 0, .int .i64 0, .int .i64 0, .int .i64 0, .int .i64 0], none, []⟩,
  ⟨none, .store (.t 3) 10 (.t 5), none, [3]⟩] [1, 2, 3]
theorem r10_1 : type_of% (@rr _ _ c10_1.eq_1) := rr c10_1.eq_1
def c10_2 : ACode := .ops [⟨some 6, .build [.int .i64 0, .int .i64 0] [], none, []⟩,
  ⟨some 7, .iad (.t 3) (.c (.int .i64 4)) 2 5, none, [3]⟩,
  ⟨none, .store (.t 7) 2 (.t 6), none, [3]⟩] [1, 2, 3]
theorem r10_2 : type_of% (@rr _ _ c10_2.eq_1) := rr c10_2.eq_1
def c10_3 : ACode := .ops [⟨some 8, .load 17 true (.t 1), none, [1]⟩,
  ⟨some 9, .call 29 [.t 8], none, []⟩] [1, 2, 3, 9]
theorem r10_3 : type_of% (@rr _ _ c10_3.eq_1) := rr c10_3.eq_1
def c10_4 : ACode := .ops [⟨some 10, .fad (.t 1) 14, none, [1]⟩,
  ⟨some 11, .load 1 false (.t 10), none, [1]⟩,
  ⟨some 12, .iad (.t 3) (.t 11) 2 5, none, [3]⟩,
  ⟨some 13, .load 2 true (.t 12), none, [3]⟩,
  ⟨some 14, .iad (.t 3) (.c (.int .i64 4)) 2 5, none, [3]⟩,
  ⟨none, .store (.t 14) 2 (.t 13), none, [3]⟩] [2, 3]
theorem r10_4 : type_of% (@rr _ _ c10_4.eq_1) := rr c10_4.eq_1
def c10_5 : ACode := .cond (.t 9) c10_4 .skip
theorem r10_5 : type_of% (@rr _ _ c10_5.eq_1) := rr c10_5.eq_1
def c10_6 : ACode := .seq c10_3 c10_5
theorem r10_6 : type_of% (@rr _ _ c10_6.eq_1) := rr c10_6.eq_1
def c10_7 : ACode := .ops [⟨some 15, .load 10 true (.t 3), none, [3]⟩,
  ⟨none, .store (.t 2) 10 (.t 15), none, [2]⟩] [2]
theorem r10_7 : type_of% (@rr _ _ c10_7.eq_1) := rr c10_7.eq_1
def c10_8 : ACode := .seq c10_7 .ret
theorem r10_8 : type_of% (@rr _ _ c10_8.eq_1) := rr c10_8.eq_1
def c10_9 : ACode := .seq c10_6 c10_8
theorem r10_9 : type_of% (@rr _ _ c10_9.eq_1) := rr c10_9.eq_1
def c10_10 : ACode := .seq c10_2 c10_9
theorem r10_10 : type_of% (@rr _ _ c10_10.eq_1) := rr c10_10.eq_1
def c10_11 : ACode := .seq c10_1 c10_10
theorem r10_11 : type_of% (@rr _ _ c10_11.eq_1) := rr c10_11.eq_1
def c10_12 : ACode := .seq c10_0 c10_11
theorem r10_12 : type_of% (@rr _ _ c10_12.eq_1) := rr c10_12.eq_1
def a10 : AFun := ⟨1, 16, c10_12, [.cell 2 10 true]⟩
attribute [simp] r10_0 r10_1 r10_2 r10_3 r10_4 r10_5 r10_6 r10_7 r10_8 r10_9 r10_10 r10_11 r10_12
theorem m10 : mFun Try.prog Try.f10 a10 = true := by decide +kernel
def c35_0 : ACode := .ops [⟨some 3, .box (.t 0) 17, none, []⟩,
  ⟨some 4, .box (.t 1) 4, none, []⟩,
  ⟨some 6, .alloc [.int .i64 0, .int .i64 0, .int .i64 0, .int .i64 0], none, []⟩] [2, 3, 4, 6]
def c35_1 : ACode := .ops [⟨some 7, .load 17 true (.t 3), none, [3]⟩,
  ⟨some 8, .call 29 [.t 7], none, []⟩] [2, 3, 4, 6, 8]
def c35_2 : ACode := .ops [⟨some 9, .fad (.t 3) 14, none, [3]⟩,
  ⟨some 10, .load 1 false (.t 9), none, [3]⟩,
  ⟨some 11, .mv (.t 2), none, []⟩,
  ⟨some 12, .iad (.t 4) (.t 10) 1 4, none, [4]⟩,
  ⟨none, .store (.t 12) 1 (.t 11), none, [4]⟩] [4, 6]
def c35_3 : ACode := .cond (.t 8) c35_2 .skip
def c35_4 : ACode := .seq c35_1 c35_3
def c35_5 : ACode := .ops [⟨some 13, .load 4 true (.t 4), none, [4]⟩,
  ⟨none, .store (.t 6) 4 (.t 13), none, [6]⟩] [6]
def c35_6 : ACode := .seq c35_5 .ret
def c35_7 : ACode := .seq c35_4 c35_6
def c35_8 : ACode := .seq c35_0 c35_7
def a35 : AFun := ⟨3, 14, c35_8, [.cell 6 4 true]⟩
theorem m35 : mFun Try.prog Try.f35 a35 = true := by decide +kernel
def c34_0 : ACode := .ops [⟨some 2, .box (.t 0) 2, none, []⟩,
  ⟨some 4, .mv (.c (.bool false)), none, []⟩] [1, 2]
def c34_1 : ACode := .ops [⟨some 5, .fad (.t 2) 0, none, [2]⟩,
  ⟨some 6, .load 1 false (.t 5), none, [2]⟩,
  ⟨some 7, .mv (.t 1), none, []⟩,
  ⟨some 8, .bin .leq (.t 6) (.t 7), none, []⟩,
  ⟨some 9, .mv (.t 8), none, []⟩,
  ⟨some 10, .mv (.t 1), some (9, true), []⟩,
  ⟨some 11, .fad (.t 2) 1, some (9, true), [2]⟩,
  ⟨some 12, .load 1 false (.t 11), some (9, true), [2]⟩,
  ⟨some 13, .bin .leq (.t 10) (.t 12), some (9, true), []⟩,
  ⟨some 14, .pick (.t 9) (.t 13) (.c (.bool false)), none, []⟩,
  ⟨some 4, .mv (.t 14), none, []⟩] [4]
def c34_2 : ACode := .seq c34_1 .ret
def c34_3 : ACode := .seq c34_0 c34_2
def a34 : AFun := ⟨2, 15, c34_3, [.t 4]⟩
theorem m34 : mFun Try.prog Try.f34 a34 = true := by decide +kernel
theorem runs_paired (q : Query) (c : Bool) (h : some (paired q) = some c) : Runs (tbl []) a29 [Arg.enc q] (Arg.enc c) := by
  cases h
  refine ⟨rfl, fun g => run_def ?_⟩
  unfold a29
  by_cases k1 : q.kind = 3
  case neg => simp -implicitDefEqProofs [paired, k1]
  by_cases k2 : 0 ≤ q.feature
  case neg => simp -implicitDefEqProofs [paired, k1, k2]
  simp -implicitDefEqProofs [paired, k1, k2]
theorem c_paired : Contract Try.prog 29 (sp1 fun q => some (paired q)) :=
  contract_of_runs mixed tbl_nil Try.func29 m29 (sp1_runs runs_paired)
theorem paired_feature {q : Query} (h : paired q = true) : q.feature = 0 ∨ q.feature = 1 ∨ q.feature = 2 ∨ q.feature = 3 := by
  unfold paired at h
  simp only [Bool.and_eq_true, decide_eq_true_eq] at h
  omega
theorem runs_Start (q : Query) (c : Box) (h : some (startOf q) = some c) : Runs (tbl [(29, sp1 fun q => some (paired q))]) a10 [Arg.enc q] (Arg.enc c) := by
  cases h
  refine ⟨rfl, fun g => run_def ?_⟩
  unfold a10
  cases hp : paired q
  · simp -implicitDefEqProofs [startOf, hp]
  · have hf := paired_feature hp
    obtain ⟨kind, cls, region, lo, hi, feature, falls, budget⟩ := q
    simp only at hf
    rcases hf with rfl | rfl | rfl | rfl <;> simp -implicitDefEqProofs [startOf, hp, Box.get]
theorem c_Start : Contract Try.prog 10 (sp1 fun q => some (startOf q)) :=
  contract_of_runs mixed (tbl_cons c_paired tbl_nil) Try.func10 m10 (sp1_runs runs_Start)
end Go.Co
