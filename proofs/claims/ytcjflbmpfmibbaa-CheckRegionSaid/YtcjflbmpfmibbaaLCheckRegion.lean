/- The law CheckRegion: what its text computes. -/
import Derived.Test.YtcjflbmpfmibbaaCz16
import Derived.Test.YtcjflbmpfmibbaaCz7
import Derived.Test.YtcjflbmpfmibbaaCz9
namespace Go.Co
open Go.Am Go.Proofs
set_option linter.unusedSimpArgs false
set_option linter.unusedVariables false
attribute [-simp] Go.Am.eff_gcall
def c9_0 : ACode := .ops [⟨some 5, .box (.t 0) 4, none, []⟩,
  ⟨some 6, .box (.t 1) 8, none, []⟩,
  ⟨some 10, .mv (.c (.bool false)), none, []⟩] [2, 3, 4, 5, 6]
theorem r9_0 : type_of% (@rr _ _ c9_0.eq_1) := rr c9_0.eq_1
def c9_1 : ACode := .ops [⟨some 18, .load 4 true (.t 5), none, [5]⟩,
  ⟨some 19, .call 15 [.t 18], none, []⟩,
  ⟨some 11, .alloc [.int .i64 0, .int .i64 0, .int .i64 0, .int .i64 0, .int .i64 0, .nils], none, []⟩,
  ⟨none, .store (.t 11) 6 (.t 19), none, [11]⟩] [2, 3, 4, 6, 11]
theorem r9_1 : type_of% (@rr _ _ c9_1.eq_1) := rr c9_1.eq_1
def c9_2 : ACode := .ops [⟨some 20, .load 8 true (.t 6), none, [6]⟩,
  ⟨some 21, .load 6 true (.t 11), none, [11]⟩,
  ⟨some 22, .call 31 [.t 20, .t 21], none, []⟩,
  ⟨some 12, .alloc [.int .i64 0, .int .i64 0, .int .i64 0, .int .i64 0, .int .i64 0, .int .i64 0, .int .i64 0, .int .i64 0, .int .i64 0, .int .i64 0, .int .i64 0, .int .i64 0, .int .i64 0, .int .i64 0, .int .i64 0, .bool false, .int .i64 0], none, []⟩,
  ⟨none, .store (.t 12) 17 (.t 22), none, [12]⟩] [2, 3, 4, 11, 12]
theorem r9_2 : type_of% (@rr _ _ c9_2.eq_1) := rr c9_2.eq_1
def c9_3 : ACode := .ops [⟨some 23, .fad (.t 12) 16, none, [12]⟩,
  ⟨none, .store (.t 23) 1 (.c (.int .i64 400)), none, [12]⟩] [2, 3, 4, 11, 12]
theorem r9_3 : type_of% (@rr _ _ c9_3.eq_1) := rr c9_3.eq_1
def c9_4 : ACode := .ops [⟨some 24, .load 6 true (.t 11), none, [11]⟩,
  ⟨some 25, .load 17 true (.t 12), none, [12]⟩,
  ⟨some 26, .call 34 [.t 24, .t 25], none, []⟩,
  ⟨some 13, .alloc [.int .i64 0, .nils, .int .i64 0, .int .i64 0, .int .i64 0, .int .i64 0, .int .i64 0, .int .i64 0], none, []⟩,
  ⟨none, .store (.t 13) 8 (.t 26), none, [13]⟩] [2, 3, 4, 11, 12, 13]
theorem r9_4 : type_of% (@rr _ _ c9_4.eq_1) := rr c9_4.eq_1
def c9_5 : ACode := .ops [⟨some 27, .mv (.t 2), none, []⟩,
  ⟨some 28, .fad (.t 11) 0, none, [11]⟩,
  ⟨some 29, .load 1 false (.t 28), none, [11]⟩,
  ⟨some 30, .bin .sub (.t 29) (.c (.int .i64 1)), none, []⟩,
  ⟨some 31, .call 24 [.t 27, .c (.int .i64 0), .t 30], none, []⟩,
  ⟨some 14, .mv (.t 31), none, []⟩] [3, 4, 11, 12, 13, 14]
theorem r9_5 : type_of% (@rr _ _ c9_5.eq_1) := rr c9_5.eq_1
def c9_6 : ACode := .ops [⟨some 32, .load 17 true (.t 12), none, [12]⟩,
  ⟨some 33, .load 17 true (.t 12), none, [12]⟩,
  ⟨some 15, .alloc [.int .i64 0, .int .i64 0, .int .i64 0, .int .i64 0, .int .i64 0, .int .i64 0, .int .i64 0, .int .i64 0, .int .i64 0, .int .i64 0, .int .i64 0, .int .i64 0, .int .i64 0, .int .i64 0, .int .i64 0, .bool false, .int .i64 0], none, []⟩,
  ⟨some 16, .alloc [.int .i64 0, .int .i64 0, .int .i64 0, .int .i64 0, .int .i64 0, .int .i64 0, .int .i64 0, .int .i64 0, .int .i64 0, .int .i64 0, .int .i64 0, .int .i64 0, .int .i64 0, .int .i64 0, .int .i64 0, .bool false, .int .i64 0], none, []⟩,
  ⟨none, .store (.t 15) 17 (.t 32), none, [15]⟩,
  ⟨none, .store (.t 16) 17 (.t 33), none, [16]⟩] [3, 4, 11, 12, 13, 14, 15, 16]
theorem r9_6 : type_of% (@rr _ _ c9_6.eq_1) := rr c9_6.eq_1
def c9_7 : ACode := .ops [⟨some 34, .mv (.t 14), none, []⟩,
  ⟨some 35, .mv (.t 14), none, []⟩,
  ⟨some 36, .fad (.t 12) 2, none, [12]⟩,
  ⟨some 37, .iad (.t 36) (.t 35) 2 5, none, [12]⟩,
  ⟨some 38, .fad (.t 37) 0, none, [12]⟩,
  ⟨some 39, .load 1 false (.t 38), none, [12]⟩,
  ⟨some 40, .mv (.t 3), none, []⟩,
  ⟨some 41, .call 24 [.t 40, .c (.int .i64 0), .c (.int .i64 50)], none, []⟩,
  ⟨some 42, .bin .sub (.t 39) (.t 41), none, []⟩,
  ⟨some 43, .fad (.t 15) 2, none, [15]⟩,
  ⟨some 44, .iad (.t 43) (.t 34) 2 5, none, [15]⟩,
  ⟨some 45, .fad (.t 44) 0, none, [15]⟩,
  ⟨none, .store (.t 45) 1 (.t 42), none, [15]⟩] [3, 4, 11, 12, 13, 14, 15, 16]
theorem r9_7 : type_of% (@rr _ _ c9_7.eq_1) := rr c9_7.eq_1
def c9_8 : ACode := .ops [⟨some 46, .mv (.t 14), none, []⟩,
  ⟨some 47, .mv (.t 14), none, []⟩,
  ⟨some 48, .fad (.t 12) 2, none, [12]⟩,
  ⟨some 49, .iad (.t 48) (.t 47) 2 5, none, [12]⟩,
  ⟨some 50, .fad (.t 49) 1, none, [12]⟩,
  ⟨some 51, .load 1 false (.t 50), none, [12]⟩,
  ⟨some 52, .mv (.t 4), none, []⟩,
  ⟨some 53, .call 24 [.t 52, .c (.int .i64 0), .c (.int .i64 50)], none, []⟩,
  ⟨some 54, .bin .add (.t 51) (.t 53), none, []⟩,
  ⟨some 55, .fad (.t 15) 2, none, [15]⟩,
  ⟨some 56, .iad (.t 55) (.t 46) 2 5, none, [15]⟩,
  ⟨some 57, .fad (.t 56) 1, none, [15]⟩,
  ⟨none, .store (.t 57) 1 (.t 54), none, [15]⟩] [3, 4, 11, 12, 13, 14, 15, 16]
theorem r9_8 : type_of% (@rr _ _ c9_8.eq_1) := rr c9_8.eq_1
def c9_9 : ACode := .ops [⟨some 58, .mv (.t 14), none, []⟩,
  ⟨some 59, .mv (.t 3), none, []⟩,
  ⟨some 60, .mv (.t 14), none, []⟩,
  ⟨some 61, .fad (.t 12) 2, none, [12]⟩,
  ⟨some 62, .iad (.t 61) (.t 60) 2 5, none, [12]⟩,
  ⟨some 63, .fad (.t 62) 0, none, [12]⟩,
  ⟨some 64, .load 1 false (.t 63), none, [12]⟩,
  ⟨some 65, .mv (.t 14), none, []⟩,
  ⟨some 66, .fad (.t 12) 2, none, [12]⟩,
  ⟨some 67, .iad (.t 66) (.t 65) 2 5, none, [12]⟩,
  ⟨some 68, .fad (.t 67) 1, none, [12]⟩,
  ⟨some 69, .load 1 false (.t 68), none, [12]⟩,
  ⟨some 70, .call 24 [.t 59, .t 64, .t 69], none, []⟩,
  ⟨some 71, .fad (.t 16) 2, none, [16]⟩,
  ⟨some 72, .iad (.t 71) (.t 58) 2 5, none, [16]⟩,
  ⟨some 73, .fad (.t 72) 0, none, [16]⟩,
  ⟨none, .store (.t 73) 1 (.t 70), none, [16]⟩] [4, 11, 12, 13, 14, 15, 16]
theorem r9_9 : type_of% (@rr _ _ c9_9.eq_1) := rr c9_9.eq_1
def c9_10 : ACode := .ops [⟨some 74, .mv (.t 14), none, []⟩,
  ⟨some 75, .mv (.t 4), none, []⟩,
  ⟨some 76, .mv (.t 14), none, []⟩,
  ⟨some 77, .fad (.t 16) 2, none, [16]⟩,
  ⟨some 78, .iad (.t 77) (.t 76) 2 5, none, [16]⟩,
  ⟨some 79, .fad (.t 78) 0, none, [16]⟩,
  ⟨some 80, .load 1 false (.t 79), none, [16]⟩,
  ⟨some 81, .mv (.t 14), none, []⟩,
  ⟨some 82, .fad (.t 12) 2, none, [12]⟩,
  ⟨some 83, .iad (.t 82) (.t 81) 2 5, none, [12]⟩,
  ⟨some 84, .fad (.t 83) 1, none, [12]⟩,
  ⟨some 85, .load 1 false (.t 84), none, [12]⟩,
  ⟨some 86, .call 24 [.t 75, .t 80, .t 85], none, []⟩,
  ⟨some 87, .fad (.t 16) 2, none, [16]⟩,
  ⟨some 88, .iad (.t 87) (.t 74) 2 5, none, [16]⟩,
  ⟨some 89, .fad (.t 88) 1, none, [16]⟩,
  ⟨none, .store (.t 89) 1 (.t 86), none, [16]⟩] [11, 12, 13, 15, 16]
theorem r9_10 : type_of% (@rr _ _ c9_10.eq_1) := rr c9_10.eq_1
def c9_11 : ACode := .ops [⟨some 90, .build [.bool false, .int .i64 0, .int .i64 0] [(0, 1, .c (.bool true))], none, []⟩,
  ⟨some 91, .mkrow 91 1 3 [.bool false, .int .i64 0, .int .i64 0] [(0, 3, .t 90)], none, []⟩,
  ⟨some 92, .build [.int .i64 0, .nils, .int .i64 0, .int .i64 0, .int .i64 0, .int .i64 0, .int .i64 0, .int .i64 0] [(0, 1, .c (.int .i64 1)), (1, 1, .t 91)], none, []⟩,
  ⟨some 17, .alloc [.int .i64 0, .nils, .int .i64 0, .int .i64 0, .int .i64 0, .int .i64 0, .int .i64 0, .int .i64 0], none, []⟩,
  ⟨none, .store (.t 17) 8 (.t 92), none, [17]⟩] [11, 12, 13, 15, 16, 17]
theorem r9_11 : type_of% (@rr _ _ c9_11.eq_1) := rr c9_11.eq_1
def c9_12 : ACode := .ops [⟨some 93, .fad (.t 13) 0, none, [13]⟩,
  ⟨some 94, .load 1 false (.t 93), none, [13]⟩,
  ⟨some 95, .bin .eql (.t 94) (.c (.int .i64 2)), none, []⟩,
  ⟨some 96, .mv (.t 95), none, []⟩,
  ⟨some 97, .load 6 true (.t 11), some (96, true), [11]⟩,
  ⟨some 98, .load 17 true (.t 12), some (96, true), [12]⟩,
  ⟨some 99, .load 8 true (.t 13), some (96, true), [13]⟩,
  ⟨some 100, .call 40 [.t 97, .t 98, .t 99], some (96, true), []⟩,
  ⟨some 101, .un .not (.t 100), some (96, true), []⟩,
  ⟨some 102, .mv (.t 101), some (96, true), []⟩,
  ⟨some 103, .load 6 true (.t 11), some (102, false), [11]⟩,
  ⟨some 104, .load 17 true (.t 15), some (102, false), [15]⟩,
  ⟨some 105, .load 8 true (.t 13), some (102, false), [13]⟩,
  ⟨some 106, .call 40 [.t 103, .t 104, .t 105], some (102, false), []⟩,
  ⟨some 107, .un .not (.t 106), some (102, false), []⟩,
  ⟨some 108, .pick (.t 102) (.c (.bool true)) (.t 107), some (96, true), []⟩,
  ⟨some 109, .pick (.t 96) (.t 108) (.c (.bool false)), none, []⟩] [11, 12, 13, 16, 17, 109]
theorem r9_12 : type_of% (@rr _ _ c9_12.eq_1) := rr c9_12.eq_1
def c9_13 : ACode := .ops [⟨some 10, .mv (.c (.bool false)), none, []⟩] [10]
theorem r9_13 : type_of% (@rr _ _ c9_13.eq_1) := rr c9_13.eq_1
def c9_14 : ACode := .seq c9_13 .ret
theorem r9_14 : type_of% (@rr _ _ c9_14.eq_1) := rr c9_14.eq_1
def c9_15 : ACode := .cond (.t 109) c9_14 .skip
theorem r9_15 : type_of% (@rr _ _ c9_15.eq_1) := rr c9_15.eq_1
def c9_16 : ACode := .seq c9_12 c9_15
theorem r9_16 : type_of% (@rr _ _ c9_16.eq_1) := rr c9_16.eq_1
def c9_17 : ACode := .ops [⟨some 110, .load 6 true (.t 11), none, [11]⟩,
  ⟨some 111, .load 17 true (.t 12), none, [12]⟩,
  ⟨some 112, .load 8 true (.t 17), none, [17]⟩,
  ⟨some 113, .call 40 [.t 110, .t 111, .t 112], none, [91]⟩,
  ⟨some 114, .un .not (.t 113), none, []⟩,
  ⟨some 115, .mv (.t 114), none, []⟩,
  ⟨some 116, .load 6 true (.t 11), some (115, false), [11]⟩,
  ⟨some 117, .load 17 true (.t 16), some (115, false), [16]⟩,
  ⟨some 118, .load 8 true (.t 17), some (115, false), [17]⟩,
  ⟨some 119, .call 40 [.t 116, .t 117, .t 118], some (115, false), [91]⟩,
  ⟨some 120, .pick (.t 115) (.c (.bool true)) (.t 119), none, []⟩,
  ⟨some 121, .mv (.t 120), none, []⟩,
  ⟨some 122, .fad (.t 13) 0, some (121, true), [13]⟩,
  ⟨some 123, .load 1 false (.t 122), some (121, true), [13]⟩,
  ⟨some 124, .bin .eql (.t 123) (.c (.int .i64 1)), some (121, true), []⟩,
  ⟨some 125, .mv (.t 124), some (121, true), []⟩,
  ⟨some 126, .fad (.t 13) 1, some (125, true), [13]⟩,
  ⟨some 127, .load 1 false (.t 126), some (125, true), [13]⟩,
  ⟨some 128, .len (.t 127), some (125, true), []⟩,
  ⟨some 129, .bin .eql (.t 128) (.c (.int .i64 1)), some (125, true), []⟩,
  ⟨some 130, .pick (.t 125) (.t 129) (.c (.bool false)), some (121, true), []⟩,
  ⟨some 131, .load 6 true (.t 11), some (121, true), [11]⟩,
  ⟨some 132, .load 17 true (.t 12), some (121, true), [12]⟩,
  ⟨some 133, .load 8 true (.t 17), some (121, true), [17]⟩,
  ⟨some 134, .call 40 [.t 131, .t 132, .t 133], some (121, true), [91]⟩,
  ⟨some 135, .eqb false (.t 130) (.t 134), some (121, true), []⟩,
  ⟨some 136, .pick (.t 121) (.t 135) (.c (.bool false)), none, []⟩,
  ⟨some 137, .mv (.t 136), none, []⟩,
  ⟨some 138, .call 41 [], some (137, true), []⟩,
  ⟨some 139, .pick (.t 137) (.t 138) (.c (.bool false)), none, []⟩,
  ⟨some 10, .mv (.t 139), none, []⟩] [10]
theorem r9_17 : type_of% (@rr _ _ c9_17.eq_1) := rr c9_17.eq_1
def c9_18 : ACode := .seq c9_17 .ret
theorem r9_18 : type_of% (@rr _ _ c9_18.eq_1) := rr c9_18.eq_1
def c9_19 : ACode := .seq c9_16 c9_18
theorem r9_19 : type_of% (@rr _ _ c9_19.eq_1) := rr c9_19.eq_1
def c9_20 : ACode := .seq c9_11 c9_19
theorem r9_20 : type_of% (@rr _ _ c9_20.eq_1) := rr c9_20.eq_1
def c9_21 : ACode := .seq c9_10 c9_20
theorem r9_21 : type_of% (@rr _ _ c9_21.eq_1) := rr c9_21.eq_1
def c9_22 : ACode := .seq c9_9 c9_21
theorem r9_22 : type_of% (@rr _ _ c9_22.eq_1) := rr c9_22.eq_1
def c9_23 : ACode := .seq c9_8 c9_22
theorem r9_23 : type_of% (@rr _ _ c9_23.eq_1) := rr c9_23.eq_1
def c9_24 : ACode := .seq c9_7 c9_23
theorem r9_24 : type_of% (@rr _ _ c9_24.eq_1) := rr c9_24.eq_1
def c9_25 : ACode := .seq c9_6 c9_24
theorem r9_25 : type_of% (@rr _ _ c9_25.eq_1) := rr c9_25.eq_1
def c9_26 : ACode := .seq c9_5 c9_25
theorem r9_26 : type_of% (@rr _ _ c9_26.eq_1) := rr c9_26.eq_1
def c9_27 : ACode := .seq c9_4 c9_26
theorem r9_27 : type_of% (@rr _ _ c9_27.eq_1) := rr c9_27.eq_1
def c9_28 : ACode := .seq c9_3 c9_27
theorem r9_28 : type_of% (@rr _ _ c9_28.eq_1) := rr c9_28.eq_1
def c9_29 : ACode := .seq c9_2 c9_28
theorem r9_29 : type_of% (@rr _ _ c9_29.eq_1) := rr c9_29.eq_1
def c9_30 : ACode := .seq c9_1 c9_29
theorem r9_30 : type_of% (@rr _ _ c9_30.eq_1) := rr c9_30.eq_1
def c9_31 : ACode := .seq c9_0 c9_30
theorem r9_31 : type_of% (@rr _ _ c9_31.eq_1) := rr c9_31.eq_1
def a9 : AFun := ⟨5, 140, c9_31, [.t 10]⟩
attribute [simp] r9_0 r9_1 r9_2 r9_3 r9_4 r9_5 r9_6 r9_7 r9_8 r9_9 r9_10 r9_11 r9_12 r9_13 r9_14 r9_15 r9_16 r9_17 r9_18 r9_19 r9_20 r9_21 r9_22 r9_23 r9_24 r9_25 r9_26 r9_27 r9_28 r9_29 r9_30 r9_31
theorem m9 : mFun Try.prog Try.f9 a9 = true := by decide +kernel
def c41_0 : ACode := .ops [⟨some 0, .mv (.c (.bool false)), none, []⟩] []
def c41_1 : ACode := .ops [⟨some 9, .call 74 [], none, []⟩,
  ⟨some 1, .alloc [.int .i64 0, .int .i64 0, .int .i64 0, .int .i64 0, .int .i64 0, .nils], none, []⟩,
  ⟨none, .store (.t 1) 6 (.t 9), none, [1]⟩] [1]
def c41_2 : ACode := .ops [⟨some 10, .build [.int .i64 0, .int .i64 0] [(0, 1, .c (.int .i64 0)), (1, 1, .c (.int .i64 9))], none, []⟩,
  ⟨some 11, .build [.int .i64 0, .int .i64 0, .int .i64 0, .int .i64 0, .int .i64 0, .int .i64 0, .int .i64 0, .int .i64 0, .int .i64 0, .int .i64 0] [(0, 2, .t 10)], none, []⟩,
  ⟨some 12, .build [.int .i64 0, .int .i64 0, .int .i64 0, .int .i64 0, .int .i64 0, .int .i64 0, .int .i64 0, .int .i64 0, .int .i64 0, .int .i64 0, .int .i64 0, .int .i64 0, .int .i64 0, .int .i64 0, .int .i64 0, .bool false, .int .i64 0] [(0, 1, .c (.int .i64 3)), (2, 10, .t 11)], none, []⟩,
  ⟨some 2, .alloc [.int .i64 0, .int .i64 0, .int .i64 0, .int .i64 0, .int .i64 0, .int .i64 0, .int .i64 0, .int .i64 0, .int .i64 0, .int .i64 0, .int .i64 0, .int .i64 0, .int .i64 0, .int .i64 0, .int .i64 0, .bool false, .int .i64 0], none, []⟩,
  ⟨none, .store (.t 2) 17 (.t 12), none, [2]⟩] [1, 2]
def c41_3 : ACode := .ops [⟨some 13, .build [.bool false, .int .i64 0, .int .i64 0] [(2, 1, .c (.int .i64 5))], none, []⟩,
  ⟨some 14, .build [.bool false, .int .i64 0, .int .i64 0] [(0, 1, .c (.bool true))], none, []⟩,
  ⟨some 15, .build [.bool false, .int .i64 0, .int .i64 0] [(1, 1, .c (.int .i64 4)), (2, 1, .c (.int .i64 5))], none, []⟩,
  ⟨some 16, .build [.bool false, .int .i64 0, .int .i64 0] [(0, 1, .c (.bool true))], none, []⟩,
  ⟨some 17, .build [.bool false, .int .i64 0, .int .i64 0] [(0, 1, .c (.bool true))], none, []⟩,
  ⟨some 18, .mkrow 18 5 3 [.bool false, .int .i64 0, .int .i64 0] [(0, 3, .t 13), (3, 3, .t 14), (6, 3, .t 15), (9, 3, .t 16), (12, 3, .t 17)], none, []⟩,
  ⟨some 19, .build [.int .i64 0, .nils, .int .i64 0, .int .i64 0, .int .i64 0, .int .i64 0, .int .i64 0, .int .i64 0] [(0, 1, .c (.int .i64 1)), (1, 1, .t 18)], none, []⟩,
  ⟨some 3, .alloc [.int .i64 0, .nils, .int .i64 0, .int .i64 0, .int .i64 0, .int .i64 0, .int .i64 0, .int .i64 0], none, []⟩,
  ⟨none, .store (.t 3) 8 (.t 19), none, [3]⟩] [1, 2, 3]
def c41_4 : ACode := .ops [⟨some 20, .build [.bool false, .int .i64 0, .int .i64 0] [(0, 1, .c (.bool true))], none, []⟩,
  ⟨some 21, .mkrow 21 1 3 [.bool false, .int .i64 0, .int .i64 0] [(0, 3, .t 20)], none, []⟩,
  ⟨some 22, .build [.int .i64 0, .nils, .int .i64 0, .int .i64 0, .int .i64 0, .int .i64 0, .int .i64 0, .int .i64 0] [(0, 1, .c (.int .i64 1)), (1, 1, .t 21)], none, []⟩,
  ⟨some 4, .alloc [.int .i64 0, .nils, .int .i64 0, .int .i64 0, .int .i64 0, .int .i64 0, .int .i64 0, .int .i64 0], none, []⟩,
  ⟨none, .store (.t 4) 8 (.t 22), none, [4]⟩] [1, 2, 3, 4]
def c41_5 : ACode := .ops [⟨some 23, .build [.int .i64 0, .nils, .int .i64 0, .int .i64 0, .int .i64 0, .int .i64 0, .int .i64 0, .int .i64 0] [(0, 1, .c (.int .i64 2)), (6, 1, .c (.int .i64 9))], none, []⟩,
  ⟨some 5, .alloc [.int .i64 0, .nils, .int .i64 0, .int .i64 0, .int .i64 0, .int .i64 0, .int .i64 0, .int .i64 0], none, []⟩,
  ⟨none, .store (.t 5) 8 (.t 23), none, [5]⟩] [1, 2, 3, 4, 5]
def c41_6 : ACode := .ops [⟨some 24, .load 6 true (.t 1), none, [1]⟩,
  ⟨some 25, .load 17 true (.t 2), none, [2]⟩,
  ⟨some 26, .load 8 true (.t 3), none, [3]⟩,
  ⟨some 27, .call 40 [.t 24, .t 25, .t 26], none, [18]⟩,
  ⟨some 28, .load 6 true (.t 1), none, [1]⟩,
  ⟨some 29, .load 17 true (.t 2), none, [2]⟩,
  ⟨some 30, .load 8 true (.t 4), none, [4]⟩,
  ⟨some 31, .call 40 [.t 28, .t 29, .t 30], none, [21]⟩,
  ⟨some 32, .load 6 true (.t 1), none, [1]⟩,
  ⟨some 33, .load 17 true (.t 2), none, [2]⟩,
  ⟨some 34, .load 8 true (.t 5), none, [5]⟩,
  ⟨some 35, .call 40 [.t 32, .t 33, .t 34], none, []⟩,
  ⟨some 6, .mv (.t 27), none, []⟩,
  ⟨some 7, .mv (.t 31), none, []⟩,
  ⟨some 8, .mv (.t 35), none, []⟩] [1, 2, 3, 5, 6, 7, 8]
def c41_7 : ACode := .ops [⟨some 36, .fad (.t 2) 15, none, [2]⟩,
  ⟨none, .store (.t 36) 1 (.c (.bool true)), none, [2]⟩] [1, 2, 3, 5, 6, 7, 8]
def c41_8 : ACode := .ops [⟨some 37, .mv (.t 6), none, []⟩,
  ⟨some 38, .mv (.t 37), none, []⟩,
  ⟨some 39, .mv (.t 7), some (38, true), []⟩,
  ⟨some 40, .un .not (.t 39), some (38, true), []⟩,
  ⟨some 41, .pick (.t 38) (.t 40) (.c (.bool false)), none, []⟩,
  ⟨some 42, .mv (.t 41), none, []⟩,
  ⟨some 43, .mv (.t 8), some (42, true), []⟩,
  ⟨some 44, .un .not (.t 43), some (42, true), []⟩,
  ⟨some 45, .pick (.t 42) (.t 44) (.c (.bool false)), none, []⟩,
  ⟨some 46, .mv (.t 45), none, []⟩,
  ⟨some 47, .load 6 true (.t 1), some (46, true), [1]⟩,
  ⟨some 48, .load 17 true (.t 2), some (46, true), [2]⟩,
  ⟨some 49, .load 8 true (.t 5), some (46, true), [5]⟩,
  ⟨some 50, .call 40 [.t 47, .t 48, .t 49], some (46, true), []⟩,
  ⟨some 51, .pick (.t 46) (.t 50) (.c (.bool false)), none, []⟩,
  ⟨some 52, .mv (.t 51), none, []⟩,
  ⟨some 53, .load 6 true (.t 1), some (52, true), [1]⟩,
  ⟨some 54, .load 17 true (.t 2), some (52, true), [2]⟩,
  ⟨some 55, .load 8 true (.t 3), some (52, true), [3]⟩,
  ⟨some 56, .call 40 [.t 53, .t 54, .t 55], some (52, true), [18]⟩,
  ⟨some 57, .un .not (.t 56), some (52, true), []⟩,
  ⟨some 58, .pick (.t 52) (.t 57) (.c (.bool false)), none, []⟩,
  ⟨some 0, .mv (.t 58), none, []⟩] [0]
def c41_9 : ACode := .seq c41_8 .ret
def c41_10 : ACode := .seq c41_7 c41_9
def c41_11 : ACode := .seq c41_6 c41_10
def c41_12 : ACode := .seq c41_5 c41_11
def c41_13 : ACode := .seq c41_4 c41_12
def c41_14 : ACode := .seq c41_3 c41_13
def c41_15 : ACode := .seq c41_2 c41_14
def c41_16 : ACode := .seq c41_1 c41_15
def c41_17 : ACode := .seq c41_0 c41_16
def a41 : AFun := ⟨0, 59, c41_17, [.t 0]⟩
theorem m41 : mFun Try.prog Try.f41 a41 = true := by decide +kernel
def c74_0 : ACode := .ops [⟨some 0, .alloc [.int .i64 0, .int .i64 0, .int .i64 0, .int .i64 0, .int .i64 0, .nils], none, []⟩] [0]
def c74_1 : ACode := .ops [⟨some 2, .build [.bool false, .int .i64 0, .int .i64 0, .int .i64 0, .int .i64 0, .int .i64 0] [(3, 1, .c (.int .i64 5)), (4, 1, .c (.int .i64 1)), (5, 1, .c (.int .i64 2))], none, []⟩,
  ⟨some 3, .call 68 [.t 2], none, []⟩,
  ⟨some 4, .build [.bool false, .int .i64 0, .int .i64 0, .int .i64 0, .int .i64 0, .int .i64 0] [(0, 1, .c (.bool true)), (1, 1, .c (.int .i64 10))], none, []⟩,
  ⟨some 5, .call 68 [.t 4], none, []⟩,
  ⟨some 6, .build [.bool false, .int .i64 0, .int .i64 0, .int .i64 0, .int .i64 0, .int .i64 0] [(0, 1, .c (.bool true)), (1, 1, .c (.int .i64 20))], none, []⟩,
  ⟨some 7, .call 68 [.t 6], none, []⟩,
  ⟨some 8, .mkrow 1 3 1 [.int .u64 0] [(0, 1, .t 3), (1, 1, .t 5), (2, 1, .t 7)], none, []⟩,
  ⟨some 1, .mv (.t 8), none, []⟩] [0, 1]
def c74_2 : ACode := .ops [⟨some 9, .build [.int .i64 0, .int .i64 0, .int .i64 0] [(0, 1, .c (.int .i64 3))], none, []⟩,
  ⟨some 10, .mv (.t 1), none, []⟩,
  ⟨some 11, .build [.int .i64 0, .nils] [(1, 1, .t 10)], none, []⟩,
  ⟨some 12, .mkrow 12 1 2 [.int .i64 0, .nils] [(0, 2, .t 11)], none, []⟩,
  ⟨some 13, .build [.int .i64 0, .int .i64 0, .int .i64 0, .int .i64 0, .int .i64 0, .nils] [(0, 1, .c (.int .i64 1)), (1, 1, .c (.int .i64 1)), (2, 3, .t 9), (5, 1, .t 12)], none, []⟩,
  ⟨none, .store (.t 0) 6 (.t 13), none, [0]⟩] [0]
def c74_3 : ACode := .seq c74_2 .ret
def c74_4 : ACode := .seq c74_1 c74_3
def c74_5 : ACode := .seq c74_0 c74_4
def a74 : AFun := ⟨0, 14, c74_5, [.cell 0 6 true]⟩
theorem m74 : mFun Try.prog Try.f74 a74 = true := by decide +kernel
def texts41 : List (Nat × AFun) := [(19, a19), (20, a20), (27, a27), (28, a28), (38, a38), (40, a40), (41, a41), (45, a45), (57, a57), (58, a58), (66, a66), (68, a68), (69, a69), (70, a70), (71, a71), (72, a72), (74, a74), (75, a75), (76, a76), (77, a77), (78, a78), (85, a85), (89, a89), (90, a90), (91, a91), (92, a92), (97, a97), (108, a108), (109, a109), (110, a110), (117, a117), (118, a118), (119, a119), (120, a120), (121, a121), (122, a122), (123, a123), (124, a124), (125, a125), (126, a126), (132, a132), (133, a133), (134, a134), (143, a143), (144, a144), (146, a146), (147, a147), (149, a149), (162, a162)]
theorem texts41_good : Go.Am.Good Try.prog texts41 :=
  good_cons Try.func19 m19 <| good_cons Try.func20 m20 <| good_cons Try.func27 m27 <| good_cons Try.func28 m28 <| good_cons Try.func38 m38 <| good_cons Try.func40 m40 <| good_cons Try.func41 m41 <| good_cons Try.func45 m45 <| good_cons Try.func57 m57 <| good_cons Try.func58 m58 <| good_cons Try.func66 m66 <| good_cons Try.func68 m68 <| good_cons Try.func69 m69 <| good_cons Try.func70 m70 <| good_cons Try.func71 m71 <| good_cons Try.func72 m72 <| good_cons Try.func74 m74 <| good_cons Try.func75 m75 <| good_cons Try.func76 m76 <| good_cons Try.func77 m77 <| good_cons Try.func78 m78 <| good_cons Try.func85 m85 <| good_cons Try.func89 m89 <| good_cons Try.func90 m90 <| good_cons Try.func91 m91 <| good_cons Try.func92 m92 <| good_cons Try.func97 m97 <| good_cons Try.func108 m108 <| good_cons Try.func109 m109 <| good_cons Try.func110 m110 <| good_cons Try.func117 m117 <| good_cons Try.func118 m118 <| good_cons Try.func119 m119 <| good_cons Try.func120 m120 <| good_cons Try.func121 m121 <| good_cons Try.func122 m122 <| good_cons Try.func123 m123 <| good_cons Try.func124 m124 <| good_cons Try.func125 m125 <| good_cons Try.func126 m126 <| good_cons Try.func132 m132 <| good_cons Try.func133 m133 <| good_cons Try.func134 m134 <| good_cons Try.func143 m143 <| good_cons Try.func144 m144 <| good_cons Try.func146 m146 <| good_cons Try.func147 m147 <| good_cons Try.func149 m149 <| good_cons Try.func162 m162 <| good_nil
theorem c_closed41 : Contract Try.prog 41 (sp0 (some true)) := contract_closed mixed texts41_good (m := 2000) (n := 80) (by decide +kernel)
def oneV : Verdict := ⟨1, [sumS], zeroP, 0, 0⟩
set_option maxHeartbeats 16000000 in
set_option maxRecDepth 100000 in
theorem runs_law (f : Forest) (a : Ask) (place lo hi : Int) (c : Bool) (h : some true = some c) : Runs (tbl [(15, sp1 ModelC), (31, sp2 QueryC), (34, sp2 RSearchC), (24, sp3 Within), (40, sp3 ProvesC), (41, sp0 (some true))]) a9 [Arg.enc f, Arg.enc a, Arg.enc place, Arg.enc lo, Arg.enc hi] (Arg.enc c) := by
  cases h
  refine ⟨rfl, fun g => run_def ?_⟩
  unfold a9
  have hm := rm_modelOf f
  have hM : ModelC f = some (modelOf f) := rfl
  generalize modelOf f = m at *
  have hQ : QueryC a m = some (queryOf m a) := part_of ⟨hm.dim.1, hm.dim.2, hm.classes.1, hm.classes.2⟩ _
  have hq0 := ok_queryOf m a hm
  have hrs : ∀ i : Int, 0 ≤ i → i < 4 → -2 ≤ ((queryOf m a).region.get i).lo ∧ ((queryOf m a).region.get i).lo ≤ ((queryOf m a).region.get i).hi ∧ ((queryOf m a).region.get i).hi ≤ 20 := by
    intro i i0 i4
    have e : i = 0 ∨ i = 1 ∨ i = 2 ∨ i = 3 := by omega
    have k0 := rSpan_le m.dim a.spans 0
    have k1 := rSpan_le m.dim a.spans 1
    have k2 := rSpan_le m.dim a.spans 2
    have k3 := rSpan_le m.dim a.spans 3
    rcases e with rfl | rfl | rfl | rfl <;> assumption
  generalize queryOf m a = q0 at *
  have hq := okQuery_budget hq0 (n := 400) (by omega) (by omega)
  have hqr : (withBudget q0 400).region = q0.region := rfl
  generalize hQQ : withBudget q0 400 = q at *
  have hqb : q.budget = 400 := by rw [← hQQ]; rfl
  have hS : RSearchC m q = some (searchM m q) := part_of hm _
  have hd := hm.dim
  have hWk := within_of place 0 (m.dim - 1) (by omega)
  have hwk := within_le place 0 (m.dim - 1) (by omega)
  have wd : IntKind.i64.wrap (m.dim - 1) = m.dim - 1 := wrap64 (by omega) (by omega)
  generalize within place 0 (m.dim - 1) = k at *
  have hW1 := within_of lo 0 50 (by omega)
  have hw1 := within_le lo 0 50 (by omega)
  have hW2 := within_of hi 0 50 (by omega)
  have hw2 := within_le hi 0 50 (by omega)
  generalize within lo 0 50 = x1 at *
  generalize within hi 0 50 = x2 at *
  have hsp := hrs k (by omega) (by omega)
  have hW3 := within_of lo (q0.region.get k).lo (q0.region.get k).hi (by omega)
  have hw3 := within_le lo (q0.region.get k).lo (q0.region.get k).hi (by omega)
  generalize within lo (q0.region.get k).lo (q0.region.get k).hi = x3 at *
  have hW4 := within_of hi x3 (q0.region.get k).hi (by omega)
  have hw4 := within_le hi x3 (q0.region.get k).hi (by omega)
  generalize within hi x3 (q0.region.get k).hi = x4 at *
  have hqw := okQuery_region hm hq (k := k) (by omega) (by omega) (s := ⟨(q0.region.get k).lo - x1, (q0.region.get k).hi + x2⟩) (by simp only; omega) (fits_of (by simp only; omega)) (fits_of (by simp only; omega))
  have hqp := okQuery_region hm hq (k := k) (by omega) (by omega) (s := ⟨x3, x4⟩) (by simp only; omega) (fits_of (by simp only; omega)) (fits_of (by simp only; omega))
  have w1 : IntKind.i64.wrap ((q0.region.get k).lo - x1) = (q0.region.get k).lo - x1 := wrap64 (by omega) (by omega)
  have w2 : IntKind.i64.wrap ((q0.region.get k).hi + x2) = (q0.region.get k).hi + x2 := wrap64 (by omega) (by omega)
  rw [hqr] at hqw hqp
  have hsubw : Sub (startOf q) (startOf (withRegion q (q0.region.set k ⟨(q0.region.get k).lo - x1, (q0.region.get k).hi + x2⟩))) := by
    have := @start_sub (withRegion q (q0.region.set k ⟨(q0.region.get k).lo - x1, (q0.region.get k).hi + x2⟩)) q0.region (fun i i0 i4 => by
      show ((q0.region.set k ⟨(q0.region.get k).lo - x1, (q0.region.get k).hi + x2⟩).get i).lo ≤ _ ∧ _ ≤ ((q0.region.set k ⟨(q0.region.get k).lo - x1, (q0.region.get k).hi + x2⟩).get i).hi
      rw [set_get_ite _ _ (by omega) (by omega) i0 (by omega)]
      split
      · rename_i e; subst e; simp only; omega
      · omega)
    have e : withRegion (withRegion q (q0.region.set k ⟨(q0.region.get k).lo - x1, (q0.region.get k).hi + x2⟩)) q0.region = q := by
      rw [← hqr]; rfl
    rw [e] at this
    exact this
  have hsubp : Sub (startOf (withRegion q (q0.region.set k ⟨x3, x4⟩))) (startOf q) := by
    refine start_sub fun i i0 i4 => ?_
    rw [hqr, set_get_ite _ _ (by omega) (by omega) i0 (by omega)]
    split
    · rename_i e; subst e; simp only; omega
    · omega
  have hdm : ¬ m.dim < 1 := by omega
  have hP : ∀ q v, ProvesC m q v = some (provesM m q v) := fun q v => by unfold ProvesC; rw [if_neg hdm, part_of hm]
  have hF := fails_proven (m := m) (q := q) hq
  have hP1 := hP q (searchM m q)
  have hP2 := hP (withRegion q (q0.region.set k ⟨(q0.region.get k).lo - x1, (q0.region.get k).hi + x2⟩)) (searchM m q)
  have hFw : (searchM m q).kind = 2 → provesM m (withRegion q (q0.region.set k ⟨(q0.region.get k).lo - x1, (q0.region.get k).hi + x2⟩)) (searchM m q) = true := fun hk => by
    obtain ⟨_, g1, g2⟩ := hF hk
    unfold provesM
    rw [hqw, hk]
    rw [breaks_region hq hqw, g2, hasB_of (hsubw _ _ g1)]
    rfl
  have hO1 := hP q oneV
  have hO2 := hP (withRegion q (q0.region.set k ⟨x3, x4⟩)) oneV
  have ho1 : provesM m q oneV = closedM m q (startOf q) := one_proof hm hq _ _ _
  have ho2 : provesM m (withRegion q (q0.region.set k ⟨x3, x4⟩)) oneV = closedM m q (startOf (withRegion q (q0.region.set k ⟨x3, x4⟩))) := by rw [← closed_region hq hqp]; exact one_proof hm hqp _ _ _
  have hone := search_one hq (by omega)
  have himp : closedM m q (startOf q) = true → closedM m q (startOf (withRegion q (q0.region.set k ⟨x3, x4⟩))) = true := fun h => closed_part hm h hsubp
  rw [ho1] at hO1
  rw [ho2] at hO2
  generalize closedM m q (startOf q) = c1 at *
  generalize closedM m q (startOf (withRegion q (q0.region.set k ⟨x3, x4⟩))) = c2 at *
  have hF1 := fun h => (hF h).1
  generalize provesM m q (searchM m q) = d1 at *
  generalize provesM m (withRegion q (q0.region.set k ⟨(q0.region.get k).lo - x1, (q0.region.get k).hi + x2⟩)) (searchM m q) = d2 at *
  generalize searchM m q = v at *
  have hdec : (Arg.dec (.agg [.int .i64 1, .lst 1 [.bool true, .int .i64 0, .int .i64 0], .int .i64 0, .int .i64 0, .int .i64 0, .int .i64 0, .int .i64 0, .int .i64 0]) : Option Verdict) = some oneV := rfl
  obtain ⟨vk, vp, vw, vt, vs⟩ := v
  simp only at hF hF1 hFw hone
  clear hF ho1 ho2 hrs hsubw hsubp hqw hqp hP hq hq0 hqr hqb
  subst hQQ
  have hk : k = 0 ∨ k = 1 ∨ k = 2 ∨ k = 3 := by omega
  by_cases b1 : vp.length ≤ maxN
  case neg =>
    by_cases k2 : vk = 2
    · have e1 := hF1 k2
      have e2 := hFw k2
      subst e1
      subst e2
      subst k2
      have e3 : c1 = false := by rw [← hone]; rfl
      subst e3
      rcases hk with rfl | rfl | rfl | rfl <;> simp only [withBudget, withRegion, Box.set, Box.get, reduceIte, Int.reduceEq] at hS hP1 hP2 hO1 hO2 hW3 hW4 w1 w2 <;> simp -implicitDefEqProofs [hM, hQ, hS, hWk, wd, hW1, hW2, hW3, hW4, w1, w2, hP1, hP2, hO1, hO2, hdec]
    · by_cases k1 : vk = 1
      · subst k1
        rcases hk with rfl | rfl | rfl | rfl <;> simp only [withBudget, withRegion, Box.set, Box.get, reduceIte, Int.reduceEq] at hS hP1 hP2 hO1 hO2 hW3 hW4 w1 w2 <;> cases c1 <;> cases c2 <;> simp -implicitDefEqProofs [hM, hQ, hS, hWk, wd, hW1, hW2, hW3, hW4, w1, w2, hP1, hP2, hO1, hO2, hdec, b1]
        all_goals exact absurd (himp rfl) (by simp)
      · have e3 : c1 = false := by rw [← hone]; simp [k1]
        subst e3
        rcases hk with rfl | rfl | rfl | rfl <;> simp only [withBudget, withRegion, Box.set, Box.get, reduceIte, Int.reduceEq] at hS hP1 hP2 hO1 hO2 hW3 hW4 w1 w2 <;> simp -implicitDefEqProofs [hM, hQ, hS, hWk, wd, hW1, hW2, hW3, hW4, w1, w2, hP1, hP2, hO1, hO2, hdec, k1, k2]
  case pos =>
    by_cases k2 : vk = 2
    · have e1 := hF1 k2
      have e2 := hFw k2
      subst e1
      subst e2
      subst k2
      have e3 : c1 = false := by rw [← hone]; rfl
      subst e3
      rcases hk with rfl | rfl | rfl | rfl <;> simp only [withBudget, withRegion, Box.set, Box.get, reduceIte, Int.reduceEq] at hS hP1 hP2 hO1 hO2 hW3 hW4 w1 w2 <;> simp -implicitDefEqProofs [hM, hQ, hS, hWk, wd, hW1, hW2, hW3, hW4, w1, w2, hP1, hP2, hO1, hO2, hdec]
    · by_cases k1 : vk = 1
      · subst k1
        cases c1
        · have hl : ¬ vp.length = 1 := fun e => by simp [e] at hone
          have hl' : ¬ (vp.length : Int) = 1 := by omega
          rcases hk with rfl | rfl | rfl | rfl <;> simp only [withBudget, withRegion, Box.set, Box.get, reduceIte, Int.reduceEq] at hS hP1 hP2 hO1 hO2 hW3 hW4 w1 w2 <;> simp -implicitDefEqProofs [hM, hQ, hS, hWk, wd, hW1, hW2, hW3, hW4, w1, w2, hP1, hP2, hO1, hO2, hdec, b1, hl, hl']
        · have hl : vp.length = 1 := by simpa using hone
          have e2 := himp rfl
          subst e2
          rcases hk with rfl | rfl | rfl | rfl <;> simp only [withBudget, withRegion, Box.set, Box.get, reduceIte, Int.reduceEq] at hS hP1 hP2 hO1 hO2 hW3 hW4 w1 w2 <;> simp -implicitDefEqProofs [hM, hQ, hS, hWk, wd, hW1, hW2, hW3, hW4, w1, w2, hP1, hP2, hO1, hO2, hdec, b1, hl]
      · have e3 : c1 = false := by rw [← hone]; simp [k1]
        subst e3
        rcases hk with rfl | rfl | rfl | rfl <;> simp only [withBudget, withRegion, Box.set, Box.get, reduceIte, Int.reduceEq] at hS hP1 hP2 hO1 hO2 hW3 hW4 w1 w2 <;> simp -implicitDefEqProofs [hM, hQ, hS, hWk, wd, hW1, hW2, hW3, hW4, w1, w2, hP1, hP2, hO1, hO2, hdec, k1, k2]
noncomputable def law_sp : List AV → Option AV := sp5 fun (_ : Forest) (_ : Ask) (_ _ _ : Int) => some true
theorem law_holds : Contract Try.prog 9 law_sp :=
  contract_of_runs mixed (tbl_cons c_Model (tbl_cons c_Query (tbl_cons c_rSearch (tbl_cons c_Within (tbl_cons c_Proves (tbl_cons c_closed41 tbl_nil)))))) Try.func9 m9 (sp5_runs runs_law)
theorem law_says (f : Forest) (a : Ask) (x y z : Int) : law_sp [Arg.enc f, Arg.enc a, Arg.enc x, Arg.enc y, Arg.enc z] = some (.bool true) := by
  simp only [law_sp, sp5, Arg.dec_enc, Option.bind_some]
  rfl
end Go.Co
