/- The law GoalSound: what its text computes. -/
import Derived.Test.YtcjflbmpfmibbaaCoPt
import Derived.Test.YtcjflbmpfmibbaaCoH
import Derived.Test.YtcjflbmpfmibbaaCoLib
import Derived.Test.YtcjflbmpfmibbaaCoSh
namespace Go.Co
open Go.Am Go.Proofs
set_option linter.unusedSimpArgs false
set_option linter.unusedVariables false
attribute [-simp] Go.Am.eff_gcall
def c12_0 : ACode := .ops [⟨some 7, .box (.t 0) 4, none, []⟩,
  ⟨some 8, .box (.t 1) 8, none, []⟩,
  ⟨some 14, .mv (.c (.bool false)), none, []⟩] [2, 3, 4, 5, 6, 7, 8]
theorem r12_0 : type_of% (@rr _ _ c12_0.eq_1) := rr c12_0.eq_1
def c12_1 : ACode := .ops [⟨some 26, .load 4 true (.t 7), none, [7]⟩,
  ⟨some 27, .call 15 [.t 26], none, []⟩,
  ⟨some 15, .alloc [.int .i64 0, .int .i64 0, .int .i64 0, .int .i64 0, .int .i64 0, .nils], none, []⟩,
  ⟨none, .store (.t 15) 6 (.t 27), none, [15]⟩] [2, 3, 4, 5, 6, 8, 15]
theorem r12_1 : type_of% (@rr _ _ c12_1.eq_1) := rr c12_1.eq_1
def c12_2 : ACode := .ops [⟨some 28, .load 8 true (.t 8), none, [8]⟩,
  ⟨some 29, .load 6 true (.t 15), none, [15]⟩,
  ⟨some 30, .call 31 [.t 28, .t 29], none, []⟩,
  ⟨some 16, .alloc [.int .i64 0, .int .i64 0, .int .i64 0, .int .i64 0, .int .i64 0, .int .i64 0, .int .i64 0, .int .i64 0, .int .i64 0, .int .i64 0, .int .i64 0, .int .i64 0, .int .i64 0, .int .i64 0, .int .i64 0, .bool false, .int .i64 0], none, []⟩,
  ⟨none, .store (.t 16) 17 (.t 30), none, [16]⟩] [2, 3, 4, 5, 6, 15, 16]
theorem r12_2 : type_of% (@rr _ _ c12_2.eq_1) := rr c12_2.eq_1
def c12_3 : ACode := .ops [⟨some 31, .load 17 true (.t 16), none, [16]⟩,
  ⟨some 32, .call 45 [.t 31], none, []⟩,
  ⟨some 33, .mv (.t 2), none, []⟩,
  ⟨some 34, .call 55 [.t 32, .t 33], none, []⟩,
  ⟨some 17, .alloc [.int .i64 0, .int .i64 0, .int .i64 0, .int .i64 0, .int .i64 0, .int .i64 0, .int .i64 0, .int .i64 0, .int .i64 0, .int .i64 0], none, []⟩,
  ⟨none, .store (.t 17) 10 (.t 34), none, [17]⟩] [3, 4, 5, 6, 15, 16, 17]
theorem r12_3 : type_of% (@rr _ _ c12_3.eq_1) := rr c12_3.eq_1
def c12_4 : ACode := .ops [⟨some 35, .load 6 true (.t 15), none, [15]⟩,
  ⟨some 36, .load 17 true (.t 16), none, [16]⟩,
  ⟨some 37, .load 10 true (.t 17), none, [17]⟩,
  ⟨some 38, .call 56 [.t 35, .t 36, .t 37], none, []⟩,
  ⟨some 18, .mv (.t 38), none, []⟩] [3, 4, 5, 6, 15, 16, 17, 18]
theorem r12_4 : type_of% (@rr _ _ c12_4.eq_1) := rr c12_4.eq_1
def c12_5 : ACode := .ops [⟨some 39, .mv (.t 18), none, []⟩,
  ⟨some 40, .mv (.t 39), none, []⟩,
  ⟨some 41, .load 6 true (.t 15), some (40, true), [15]⟩,
  ⟨some 42, .load 17 true (.t 16), some (40, true), [16]⟩,
  ⟨some 43, .load 10 true (.t 17), some (40, true), [17]⟩,
  ⟨some 44, .mv (.t 3), some (40, true), []⟩,
  ⟨some 45, .call 26 [.t 43, .t 44], some (40, true), []⟩,
  ⟨some 46, .mv (.t 4), some (40, true), []⟩,
  ⟨some 47, .iad (.t 17) (.c (.int .i64 4)) 2 5, some (40, true), [17]⟩,
  ⟨some 48, .fad (.t 47) 0, some (40, true), [17]⟩,
  ⟨some 49, .load 1 false (.t 48), some (40, true), [17]⟩,
  ⟨some 50, .iad (.t 17) (.c (.int .i64 4)) 2 5, some (40, true), [17]⟩,
  ⟨some 51, .fad (.t 50) 1, some (40, true), [17]⟩,
  ⟨some 52, .load 1 false (.t 51), some (40, true), [17]⟩,
  ⟨some 53, .call 24 [.t 46, .t 49, .t 52], some (40, true), []⟩,
  ⟨some 54, .call 57 [.t 41, .t 42, .t 45, .t 53], some (40, true), []⟩,
  ⟨some 55, .pick (.t 40) (.t 54) (.c (.bool false)), none, []⟩] [5, 6, 15, 16, 17, 18, 55]
theorem r12_5 : type_of% (@rr _ _ c12_5.eq_1) := rr c12_5.eq_1
def c12_6 : ACode := .ops [⟨some 14, .mv (.c (.bool false)), none, []⟩] [14]
theorem r12_6 : type_of% (@rr _ _ c12_6.eq_1) := rr c12_6.eq_1
def c12_7 : ACode := .seq c12_6 .ret
theorem r12_7 : type_of% (@rr _ _ c12_7.eq_1) := rr c12_7.eq_1
def c12_8 : ACode := .cond (.t 55) c12_7 .skip
theorem r12_8 : type_of% (@rr _ _ c12_8.eq_1) := rr c12_8.eq_1
def c12_9 : ACode := .seq c12_5 c12_8
theorem r12_9 : type_of% (@rr _ _ c12_9.eq_1) := rr c12_9.eq_1
def c12_10 : ACode := .ops [⟨some 57, .load 10 true (.t 17), none, [17]⟩,
  ⟨some 58, .mv (.t 5), none, []⟩,
  ⟨some 59, .call 24 [.t 58, .c (.int .i64 0), .c (.int .i64 4)], none, []⟩,
  ⟨some 60, .mv (.t 6), none, []⟩,
  ⟨some 61, .call 58 [.t 57, .t 59, .t 60], none, []⟩,
  ⟨some 56, .mv (.t 61), none, []⟩,
  ⟨some 62, .ext (.t 56) 0, none, []⟩,
  ⟨some 63, .ext (.t 56) 1, none, []⟩,
  ⟨some 19, .alloc [.int .i64 0, .int .i64 0, .int .i64 0, .int .i64 0, .int .i64 0, .int .i64 0, .int .i64 0, .int .i64 0, .int .i64 0, .int .i64 0], none, []⟩,
  ⟨some 20, .alloc [.int .i64 0, .int .i64 0, .int .i64 0, .int .i64 0, .int .i64 0, .int .i64 0, .int .i64 0, .int .i64 0, .int .i64 0, .int .i64 0], none, []⟩,
  ⟨none, .store (.t 19) 10 (.t 62), none, [19]⟩,
  ⟨none, .store (.t 20) 10 (.t 63), none, [20]⟩] [15, 16, 17, 18, 19, 20]
theorem r12_10 : type_of% (@rr _ _ c12_10.eq_1) := rr c12_10.eq_1
def c12_11 : ACode := .ops [⟨some 64, .mv (.t 18), none, []⟩,
  ⟨some 65, .mv (.t 64), none, []⟩,
  ⟨some 66, .load 6 true (.t 15), some (65, true), [15]⟩,
  ⟨some 67, .load 17 true (.t 16), some (65, true), [16]⟩,
  ⟨some 68, .load 10 true (.t 19), some (65, true), [19]⟩,
  ⟨some 69, .call 56 [.t 66, .t 67, .t 68], some (65, true), []⟩,
  ⟨some 70, .un .not (.t 69), some (65, true), []⟩,
  ⟨some 71, .mv (.t 70), some (65, true), []⟩,
  ⟨some 72, .load 6 true (.t 15), some (71, false), [15]⟩,
  ⟨some 73, .load 17 true (.t 16), some (71, false), [16]⟩,
  ⟨some 74, .load 10 true (.t 20), some (71, false), [20]⟩,
  ⟨some 75, .call 56 [.t 72, .t 73, .t 74], some (71, false), []⟩,
  ⟨some 76, .un .not (.t 75), some (71, false), []⟩,
  ⟨some 77, .pick (.t 71) (.c (.bool true)) (.t 76), some (65, true), []⟩,
  ⟨some 78, .pick (.t 65) (.t 77) (.c (.bool false)), none, []⟩] [15, 16, 17, 18, 78]
theorem r12_11 : type_of% (@rr _ _ c12_11.eq_1) := rr c12_11.eq_1
def c12_12 : ACode := .ops [⟨some 14, .mv (.c (.bool false)), none, []⟩] [14]
theorem r12_12 : type_of% (@rr _ _ c12_12.eq_1) := rr c12_12.eq_1
def c12_13 : ACode := .seq c12_12 .ret
theorem r12_13 : type_of% (@rr _ _ c12_13.eq_1) := rr c12_13.eq_1
def c12_14 : ACode := .cond (.t 78) c12_13 .skip
theorem r12_14 : type_of% (@rr _ _ c12_14.eq_1) := rr c12_14.eq_1
def c12_15 : ACode := .seq c12_11 c12_14
theorem r12_15 : type_of% (@rr _ _ c12_15.eq_1) := rr c12_15.eq_1
def c12_16 : ACode := .ops [⟨some 80, .load 6 true (.t 15), none, [15]⟩,
  ⟨some 81, .load 17 true (.t 16), none, [16]⟩,
  ⟨some 82, .load 10 true (.t 17), none, [17]⟩,
  ⟨some 83, .call 59 [.t 80, .t 81, .t 82], none, []⟩,
  ⟨some 79, .mv (.t 83), none, []⟩,
  ⟨some 84, .ext (.t 79) 0, none, []⟩,
  ⟨some 85, .ext (.t 79) 1, none, []⟩,
  ⟨some 86, .ext (.t 79) 2, none, []⟩,
  ⟨some 21, .mv (.t 84), none, []⟩,
  ⟨some 22, .mv (.t 85), none, []⟩,
  ⟨some 23, .mv (.t 86), none, []⟩] [15, 16, 17, 18, 21, 23]
theorem r12_16 : type_of% (@rr _ _ c12_16.eq_1) := rr c12_16.eq_1
def c12_17 : ACode := .ops [⟨some 88, .load 10 true (.t 17), none, [17]⟩,
  ⟨some 89, .call 60 [.t 88], none, []⟩,
  ⟨some 87, .mv (.t 89), none, []⟩,
  ⟨some 90, .ext (.t 87) 0, none, []⟩,
  ⟨some 91, .ext (.t 87) 1, none, []⟩,
  ⟨some 24, .alloc [.int .i64 0, .int .i64 0, .int .i64 0, .int .i64 0], none, []⟩,
  ⟨none, .store (.t 24) 4 (.t 90), none, [24]⟩,
  ⟨some 25, .mv (.t 91), none, []⟩] [15, 16, 17, 18, 21, 23, 24, 25]
theorem r12_17 : type_of% (@rr _ _ c12_17.eq_1) := rr c12_17.eq_1
def c12_18 : ACode := .ops [⟨some 92, .mv (.t 23), none, []⟩,
  ⟨some 93, .un .not (.t 92), none, []⟩,
  ⟨some 94, .mv (.t 93), none, []⟩,
  ⟨some 95, .mv (.t 18), some (94, true), []⟩,
  ⟨some 96, .load 6 true (.t 15), some (94, true), [15]⟩,
  ⟨some 97, .load 17 true (.t 16), some (94, true), [16]⟩,
  ⟨some 98, .load 4 true (.t 24), some (94, true), [24]⟩,
  ⟨some 99, .mv (.t 25), some (94, true), []⟩,
  ⟨some 100, .call 57 [.t 96, .t 97, .t 98, .t 99], some (94, true), []⟩,
  ⟨some 101, .eqb false (.t 95) (.t 100), some (94, true), []⟩,
  ⟨some 102, .pick (.t 94) (.t 101) (.c (.bool false)), none, []⟩] [15, 16, 17, 21, 23, 102]
theorem r12_18 : type_of% (@rr _ _ c12_18.eq_1) := rr c12_18.eq_1
def c12_19 : ACode := .ops [⟨some 14, .mv (.c (.bool false)), none, []⟩] [14]
theorem r12_19 : type_of% (@rr _ _ c12_19.eq_1) := rr c12_19.eq_1
def c12_20 : ACode := .seq c12_19 .ret
theorem r12_20 : type_of% (@rr _ _ c12_20.eq_1) := rr c12_20.eq_1
def c12_21 : ACode := .cond (.t 102) c12_20 .skip
theorem r12_21 : type_of% (@rr _ _ c12_21.eq_1) := rr c12_21.eq_1
def c12_22 : ACode := .seq c12_18 c12_21
theorem r12_22 : type_of% (@rr _ _ c12_22.eq_1) := rr c12_22.eq_1
def c12_23 : ACode := .ops [⟨some 103, .fad (.t 16) 1, none, [16]⟩,
  ⟨none, .store (.t 103) 1 (.c (.int .i64 (-1))), none, [16]⟩] [15, 16, 17, 21, 23]
theorem r12_23 : type_of% (@rr _ _ c12_23.eq_1) := rr c12_23.eq_1
def c12_24 : ACode := .ops [⟨some 104, .mv (.t 23), none, []⟩,
  ⟨some 105, .un .not (.t 104), none, []⟩,
  ⟨some 106, .mv (.t 105), none, []⟩,
  ⟨some 107, .mv (.t 21), some (106, false), []⟩,
  ⟨some 108, .bin .geq (.t 107) (.c (.int .i64 0)), some (106, false), []⟩,
  ⟨some 109, .mv (.t 108), some (106, false), []⟩,
  ⟨some 110, .mv (.t 21), some (109, true), []⟩,
  ⟨some 111, .bin .leq (.t 110) (.c (.int .i64 4)), some (109, true), []⟩,
  ⟨some 112, .pick (.t 109) (.t 111) (.c (.bool false)), some (106, false), []⟩,
  ⟨some 113, .pick (.t 106) (.c (.bool true)) (.t 112), none, []⟩,
  ⟨some 114, .mv (.t 113), none, []⟩,
  ⟨some 115, .load 6 true (.t 15), some (114, true), [15]⟩,
  ⟨some 116, .load 17 true (.t 16), some (114, true), [16]⟩,
  ⟨some 117, .load 10 true (.t 17), some (114, true), [17]⟩,
  ⟨some 118, .call 56 [.t 115, .t 116, .t 117], some (114, true), []⟩,
  ⟨some 119, .un .not (.t 118), some (114, true), []⟩,
  ⟨some 120, .pick (.t 114) (.t 119) (.c (.bool false)), none, []⟩,
  ⟨some 121, .mv (.t 120), none, []⟩,
  ⟨some 122, .call 61 [], some (121, true), []⟩,
  ⟨some 123, .pick (.t 121) (.t 122) (.c (.bool false)), none, []⟩,
  ⟨some 14, .mv (.t 123), none, []⟩] [14]
theorem r12_24 : type_of% (@rr _ _ c12_24.eq_1) := rr c12_24.eq_1
def c12_25 : ACode := .seq c12_24 .ret
theorem r12_25 : type_of% (@rr _ _ c12_25.eq_1) := rr c12_25.eq_1
def c12_26 : ACode := .seq c12_23 c12_25
theorem r12_26 : type_of% (@rr _ _ c12_26.eq_1) := rr c12_26.eq_1
def c12_27 : ACode := .seq c12_22 c12_26
theorem r12_27 : type_of% (@rr _ _ c12_27.eq_1) := rr c12_27.eq_1
def c12_28 : ACode := .seq c12_17 c12_27
theorem r12_28 : type_of% (@rr _ _ c12_28.eq_1) := rr c12_28.eq_1
def c12_29 : ACode := .seq c12_16 c12_28
theorem r12_29 : type_of% (@rr _ _ c12_29.eq_1) := rr c12_29.eq_1
def c12_30 : ACode := .seq c12_15 c12_29
theorem r12_30 : type_of% (@rr _ _ c12_30.eq_1) := rr c12_30.eq_1
def c12_31 : ACode := .seq c12_10 c12_30
theorem r12_31 : type_of% (@rr _ _ c12_31.eq_1) := rr c12_31.eq_1
def c12_32 : ACode := .seq c12_9 c12_31
theorem r12_32 : type_of% (@rr _ _ c12_32.eq_1) := rr c12_32.eq_1
def c12_33 : ACode := .seq c12_4 c12_32
theorem r12_33 : type_of% (@rr _ _ c12_33.eq_1) := rr c12_33.eq_1
def c12_34 : ACode := .seq c12_3 c12_33
theorem r12_34 : type_of% (@rr _ _ c12_34.eq_1) := rr c12_34.eq_1
def c12_35 : ACode := .seq c12_2 c12_34
theorem r12_35 : type_of% (@rr _ _ c12_35.eq_1) := rr c12_35.eq_1
def c12_36 : ACode := .seq c12_1 c12_35
theorem r12_36 : type_of% (@rr _ _ c12_36.eq_1) := rr c12_36.eq_1
def c12_37 : ACode := .seq c12_0 c12_36
theorem r12_37 : type_of% (@rr _ _ c12_37.eq_1) := rr c12_37.eq_1
def a12 : AFun := ⟨7, 124, c12_37, [.t 14]⟩
attribute [simp] r12_0 r12_1 r12_2 r12_3 r12_4 r12_5 r12_6 r12_7 r12_8 r12_9 r12_10 r12_11 r12_12 r12_13 r12_14 r12_15 r12_16 r12_17 r12_18 r12_19 r12_20 r12_21 r12_22 r12_23 r12_24 r12_25 r12_26 r12_27 r12_28 r12_29 r12_30 r12_31 r12_32 r12_33 r12_34 r12_35 r12_36 r12_37
theorem m12 : mFun Try.prog Try.f12 a12 = true := by decide +kernel
def c61_0 : ACode := .ops [⟨some 0, .mv (.c (.bool false)), none, []⟩] []
def c61_1 : ACode := .ops [⟨some 11, .call 74 [], none, []⟩,
  ⟨some 1, .alloc [.int .i64 0, .int .i64 0, .int .i64 0, .int .i64 0, .int .i64 0, .nils], none, []⟩,
  ⟨none, .store (.t 1) 6 (.t 11), none, [1]⟩] [1]
def c61_2 : ACode := .ops [⟨some 12, .build [.int .i64 0, .int .i64 0] [(0, 1, .c (.int .i64 0)), (1, 1, .c (.int .i64 9))], none, []⟩,
  ⟨some 13, .build [.int .i64 0, .int .i64 0, .int .i64 0, .int .i64 0, .int .i64 0, .int .i64 0, .int .i64 0, .int .i64 0, .int .i64 0, .int .i64 0] [(0, 2, .t 12)], none, []⟩,
  ⟨some 14, .build [.int .i64 0, .int .i64 0, .int .i64 0, .int .i64 0, .int .i64 0, .int .i64 0, .int .i64 0, .int .i64 0, .int .i64 0, .int .i64 0, .int .i64 0, .int .i64 0, .int .i64 0, .int .i64 0, .int .i64 0, .bool false, .int .i64 0] [(0, 1, .c (.int .i64 3)), (2, 10, .t 13)], none, []⟩,
  ⟨some 2, .alloc [.int .i64 0, .int .i64 0, .int .i64 0, .int .i64 0, .int .i64 0, .int .i64 0, .int .i64 0, .int .i64 0, .int .i64 0, .int .i64 0, .int .i64 0, .int .i64 0, .int .i64 0, .int .i64 0, .int .i64 0, .bool false, .int .i64 0], none, []⟩,
  ⟨none, .store (.t 2) 17 (.t 14), none, [2]⟩] [1, 2]
def c61_3 : ACode := .ops [⟨some 15, .load 17 true (.t 2), none, [2]⟩,
  ⟨some 16, .call 45 [.t 15], none, []⟩,
  ⟨some 3, .alloc [.int .i64 0, .int .i64 0, .int .i64 0, .int .i64 0, .int .i64 0, .int .i64 0, .int .i64 0, .int .i64 0, .int .i64 0, .int .i64 0], none, []⟩,
  ⟨none, .store (.t 3) 10 (.t 16), none, [3]⟩] [1, 2, 3]
def c61_4 : ACode := .ops [⟨some 18, .load 6 true (.t 1), none, [1]⟩,
  ⟨some 19, .load 17 true (.t 2), none, [2]⟩,
  ⟨some 20, .load 10 true (.t 3), none, [3]⟩,
  ⟨some 21, .call 59 [.t 18, .t 19, .t 20], none, []⟩,
  ⟨some 17, .mv (.t 21), none, []⟩,
  ⟨some 22, .ext (.t 17) 0, none, []⟩,
  ⟨some 23, .ext (.t 17) 1, none, []⟩,
  ⟨some 24, .ext (.t 17) 2, none, []⟩,
  ⟨some 4, .mv (.t 22), none, []⟩,
  ⟨some 5, .mv (.t 23), none, []⟩,
  ⟨some 6, .mv (.t 24), none, []⟩] [1, 2, 3, 4, 5, 6]
def c61_5 : ACode := .ops [⟨some 25, .load 10 true (.t 3), none, [3]⟩,
  ⟨some 7, .alloc [.int .i64 0, .int .i64 0, .int .i64 0, .int .i64 0, .int .i64 0, .int .i64 0, .int .i64 0, .int .i64 0, .int .i64 0, .int .i64 0], none, []⟩,
  ⟨none, .store (.t 7) 10 (.t 25), none, [7]⟩] [1, 2, 3, 4, 5, 6, 7]
def c61_6 : ACode := .ops [⟨some 26, .iad (.t 7) (.c (.int .i64 0)) 2 5, none, [7]⟩,
  ⟨some 27, .fad (.t 26) 1, none, [7]⟩,
  ⟨none, .store (.t 27) 1 (.c (.int .i64 5)), none, [7]⟩] [1, 2, 3, 4, 5, 6, 7]
def c61_7 : ACode := .ops [⟨some 28, .load 6 true (.t 1), none, [1]⟩,
  ⟨some 29, .load 17 true (.t 2), none, [2]⟩,
  ⟨some 30, .load 10 true (.t 7), none, [7]⟩,
  ⟨some 31, .call 56 [.t 28, .t 29, .t 30], none, []⟩,
  ⟨some 8, .mv (.t 31), none, []⟩] [1, 2, 3, 4, 5, 6, 7, 8]
def c61_8 : ACode := .ops [⟨some 32, .fad (.t 2) 15, none, [2]⟩,
  ⟨none, .store (.t 32) 1 (.c (.bool true)), none, [2]⟩] [1, 2, 3, 4, 5, 6, 7, 8]
def c61_9 : ACode := .ops [⟨some 34, .load 10 true (.t 7), none, [7]⟩,
  ⟨some 35, .call 60 [.t 34], none, []⟩,
  ⟨some 33, .mv (.t 35), none, []⟩,
  ⟨some 36, .ext (.t 33) 0, none, []⟩,
  ⟨some 37, .ext (.t 33) 1, none, []⟩,
  ⟨some 9, .alloc [.int .i64 0, .int .i64 0, .int .i64 0, .int .i64 0], none, []⟩,
  ⟨none, .store (.t 9) 4 (.t 36), none, [9]⟩,
  ⟨some 10, .mv (.t 37), none, []⟩] [1, 2, 3, 4, 5, 6, 7, 8, 9, 10]
def c61_10 : ACode := .ops [⟨some 38, .load 6 true (.t 1), none, [1]⟩,
  ⟨some 39, .fad (.t 2) 2, none, [2]⟩,
  ⟨some 40, .load 10 true (.t 39), none, [2]⟩,
  ⟨some 41, .build [.int .i64 0, .int .i64 0, .int .i64 0, .int .i64 0, .int .i64 0, .int .i64 0, .int .i64 0, .int .i64 0, .int .i64 0, .int .i64 0, .int .i64 0, .int .i64 0, .int .i64 0, .int .i64 0, .int .i64 0, .bool false, .int .i64 0] [(0, 1, .c (.int .i64 3)), (2, 10, .t 40)], none, []⟩,
  ⟨some 42, .load 10 true (.t 3), none, [3]⟩,
  ⟨some 43, .call 56 [.t 38, .t 41, .t 42], none, []⟩,
  ⟨some 44, .un .not (.t 43), none, []⟩,
  ⟨some 45, .mv (.t 44), none, []⟩,
  ⟨some 46, .mv (.t 4), some (45, true), []⟩,
  ⟨some 47, .bin .eql (.t 46) (.c (.int .i64 0)), some (45, true), []⟩,
  ⟨some 48, .pick (.t 45) (.t 47) (.c (.bool false)), none, []⟩,
  ⟨some 49, .mv (.t 48), none, []⟩,
  ⟨some 50, .mv (.t 5), some (49, true), []⟩,
  ⟨some 51, .bin .eql (.t 50) (.c (.int .i64 5)), some (49, true), []⟩,
  ⟨some 52, .pick (.t 49) (.t 51) (.c (.bool false)), none, []⟩,
  ⟨some 53, .mv (.t 52), none, []⟩,
  ⟨some 54, .mv (.t 6), some (53, true), []⟩,
  ⟨some 55, .pick (.t 53) (.t 54) (.c (.bool false)), none, []⟩,
  ⟨some 56, .mv (.t 55), none, []⟩,
  ⟨some 57, .mv (.t 8), some (56, true), []⟩,
  ⟨some 58, .pick (.t 56) (.t 57) (.c (.bool false)), none, []⟩,
  ⟨some 59, .mv (.t 58), none, []⟩,
  ⟨some 60, .load 6 true (.t 1), some (59, true), [1]⟩,
  ⟨some 61, .load 17 true (.t 2), some (59, true), [2]⟩,
  ⟨some 62, .load 10 true (.t 7), some (59, true), [7]⟩,
  ⟨some 63, .call 56 [.t 60, .t 61, .t 62], some (59, true), []⟩,
  ⟨some 64, .un .not (.t 63), some (59, true), []⟩,
  ⟨some 65, .pick (.t 59) (.t 64) (.c (.bool false)), none, []⟩,
  ⟨some 66, .mv (.t 65), none, []⟩,
  ⟨some 67, .load 6 true (.t 1), some (66, true), [1]⟩,
  ⟨some 68, .load 17 true (.t 2), some (66, true), [2]⟩,
  ⟨some 69, .load 4 true (.t 9), some (66, true), [9]⟩,
  ⟨some 70, .mv (.t 10), some (66, true), []⟩,
  ⟨some 71, .call 57 [.t 67, .t 68, .t 69, .t 70], some (66, true), []⟩,
  ⟨some 72, .pick (.t 66) (.t 71) (.c (.bool false)), none, []⟩,
  ⟨some 0, .mv (.t 72), none, []⟩] [0]
def c61_11 : ACode := .seq c61_10 .ret
def c61_12 : ACode := .seq c61_9 c61_11
def c61_13 : ACode := .seq c61_8 c61_12
def c61_14 : ACode := .seq c61_7 c61_13
def c61_15 : ACode := .seq c61_6 c61_14
def c61_16 : ACode := .seq c61_5 c61_15
def c61_17 : ACode := .seq c61_4 c61_16
def c61_18 : ACode := .seq c61_3 c61_17
def c61_19 : ACode := .seq c61_2 c61_18
def c61_20 : ACode := .seq c61_1 c61_19
def c61_21 : ACode := .seq c61_0 c61_20
def a61 : AFun := ⟨0, 73, c61_21, [.t 0]⟩
theorem m61 : mFun Try.prog Try.f61 a61 = true := by decide +kernel
def c74_0 : ACode := .ops [⟨some 0, .alloc [.int .i64 0, .int .i64 0, .int .i64 0, .int .i64 0, .int .i64 0, .nils], none, []⟩] [0]
def c74_1 : ACode := .ops [⟨some 2, .build [.bool false, .int .i64 0, .int .i64 0, .int .i64 0, .int .i64 0, .int .i64 0] [(3, 1, .c (.int .i64 5)), (4, 1, .c (.int .i64 1)), (5, 1, .c (.int .i64 2))], none, []⟩,
  ⟨some 3, .call 68 [.t 2], none, []⟩,
  ⟨some 4, .build [.bool false, .int .i64 0, .int .i64 0, .int .i64 0, .int .i64 0, .int .i64 0] [(0, 1, .c (.bool true)), (1, 1, .c (.int .i64 10))], none, []⟩,
  ⟨some 5, .call 68 [.t 4], none, []⟩,
  ⟨some 6, .build [.bool false, .int .i64 0, .int .i64 0, .int .i64 0, .int .i64 0, .int .i64 0] [(0, 1, .c (.bool true)), (1, 1, .c (.int .i64 20))], none, []⟩,
  ⟨some 7, .call 68 [.t 6], none, []⟩,
  ⟨some 8, .mkrow 1 3 1 [.int .u64 0] [(0, 1, .t 3), (1, 1, .t 5), (2, 1, .t 7)], none, []⟩,
  ⟨some 1, .mv (.t 8), none, []⟩] [0, 1]
def c74_2 : ACode := .ops [⟨some 9, .build [.int .i64 0, .int .i64 0, .int .i64 0] [(0, 1, .c (.int .i64 3))], none, []⟩,
  ⟨some 10, .mv (.t 1), none, []⟩,
  ⟨some 11, .build [.int .i64 0, .nils] [(1, 1, .t 10)], none, []⟩,
  ⟨some 12, .mkrow 12 1 2 [.int .i64 0, .nils] [(0, 2, .t 11)], none, []⟩,
  ⟨some 13, .build [.int .i64 0, .int .i64 0, .int .i64 0, .int .i64 0, .int .i64 0, .nils] [(0, 1, .c (.int .i64 1)), (1, 1, .c (.int .i64 1)), (2, 3, .t 9), (5, 1, .t 12)], none, []⟩,
  ⟨none, .store (.t 0) 6 (.t 13), none, [0]⟩] [0]
def c74_3 : ACode := .seq c74_2 .ret
def c74_4 : ACode := .seq c74_1 c74_3
def c74_5 : ACode := .seq c74_0 c74_4
def a74 : AFun := ⟨0, 14, c74_5, [.cell 0 6 true]⟩
theorem m74 : mFun Try.prog Try.f74 a74 = true := by decide +kernel
def texts61 : List (Nat × AFun) := [(19, a19), (20, a20), (27, a27), (28, a28), (29, a29), (43, a43), (45, a45), (51, a51), (56, a56), (57, a57), (58, a58), (59, a59), (60, a60), (61, a61), (63, a63), (66, a66), (68, a68), (69, a69), (70, a70), (71, a71), (72, a72), (74, a74), (75, a75), (76, a76), (77, a77), (78, a78), (89, a89), (97, a97), (100, a100), (101, a101), (102, a102), (103, a103), (105, a105), (106, a106), (107, a107), (108, a108), (109, a109), (110, a110), (114, a114), (117, a117), (118, a118), (119, a119), (120, a120), (121, a121), (122, a122), (123, a123), (124, a124), (125, a125), (126, a126), (132, a132), (133, a133), (138, a138), (140, a140), (141, a141), (142, a142), (143, a143), (144, a144), (146, a146), (147, a147)]
theorem texts61_good : Go.Am.Good Try.prog texts61 :=
  good_cons Try.func19 m19 <| good_cons Try.func20 m20 <| good_cons Try.func27 m27 <| good_cons Try.func28 m28 <| good_cons Try.func29 m29 <| good_cons Try.func43 m43 <| good_cons Try.func45 m45 <| good_cons Try.func51 m51 <| good_cons Try.func56 m56 <| good_cons Try.func57 m57 <| good_cons Try.func58 m58 <| good_cons Try.func59 m59 <| good_cons Try.func60 m60 <| good_cons Try.func61 m61 <| good_cons Try.func63 m63 <| good_cons Try.func66 m66 <| good_cons Try.func68 m68 <| good_cons Try.func69 m69 <| good_cons Try.func70 m70 <| good_cons Try.func71 m71 <| good_cons Try.func72 m72 <| good_cons Try.func74 m74 <| good_cons Try.func75 m75 <| good_cons Try.func76 m76 <| good_cons Try.func77 m77 <| good_cons Try.func78 m78 <| good_cons Try.func89 m89 <| good_cons Try.func97 m97 <| good_cons Try.func100 m100 <| good_cons Try.func101 m101 <| good_cons Try.func102 m102 <| good_cons Try.func103 m103 <| good_cons Try.func105 m105 <| good_cons Try.func106 m106 <| good_cons Try.func107 m107 <| good_cons Try.func108 m108 <| good_cons Try.func109 m109 <| good_cons Try.func110 m110 <| good_cons Try.func114 m114 <| good_cons Try.func117 m117 <| good_cons Try.func118 m118 <| good_cons Try.func119 m119 <| good_cons Try.func120 m120 <| good_cons Try.func121 m121 <| good_cons Try.func122 m122 <| good_cons Try.func123 m123 <| good_cons Try.func124 m124 <| good_cons Try.func125 m125 <| good_cons Try.func126 m126 <| good_cons Try.func132 m132 <| good_cons Try.func133 m133 <| good_cons Try.func138 m138 <| good_cons Try.func140 m140 <| good_cons Try.func141 m141 <| good_cons Try.func142 m142 <| good_cons Try.func143 m143 <| good_cons Try.func144 m144 <| good_cons Try.func146 m146 <| good_cons Try.func147 m147 <| good_nil
theorem c_closed61 : Contract Try.prog 61 (sp0 (some true)) := contract_closedG mixed texts61_good lib (NW := fun f => if f = 43 then some 5 else if f = 67 then some 10001 else none) (m := 2000) (n := 80) (by decide +kernel)
set_option maxHeartbeats 4000000 in
set_option maxRecDepth 100000 in
theorem runs_law (f : Forest) (a : Ask) (spans l : List Int) (twin place at_ : Int) (c : Bool) (h : Part (ok64 at_) true = some c) : Runs (tbl [(15, sp1 ModelC), (31, sp2 QueryC), (24, sp3 Within), (45, sp1 fun q => some (startOf q)), (55, sp2 PartC), (56, sp3 ClosedC), (59, sp3 SplitC), (60, sp1 fun b => some (lowB b, b.s4.hi)), (57, sp4 BreaksC), (26, sp2 InsideC), (58, sp3 CutB), (61, sp0 (some true))]) a12 [Arg.enc f, Arg.enc a, Arg.enc spans, Arg.enc l, Arg.enc twin, Arg.enc place, Arg.enc at_] (Arg.enc c) := by
  obtain ⟨hat, rfl⟩ := part_some h
  clear h
  refine ⟨rfl, fun g => run_def ?_⟩
  unfold a12
  have hm := rm_modelOf f
  have hM : ModelC f = some (modelOf f) := rfl
  generalize modelOf f = m at *
  have hQ : QueryC a m = some (queryOf m a) := part_of ⟨hm.dim.1, hm.dim.2, hm.classes.1, hm.classes.2⟩ _
  obtain ⟨hsm0, hok0, hne0⟩ := start_facts m a
  have hqok := ok_queryOf m a hm
  generalize queryOf m a = q at *
  have hP : PartC (startOf q) spans = some (partTo (startOf q) spans 5) := part_of ⟨hsm0, hne0⟩ _
  have hpo := partTo_ok hne0 spans (Nat.le_refl 5)
  have hsm := hpo.small hsm0
  have hne := hpo.some
  have hok := small_ok hsm hne
  clear hpo hsm0 hok0 hne0
  generalize partTo (startOf q) spans 5 = b at *
  have hI : InsideC b l = some (insideOf b l) := part_of ⟨hsm.1, hsm.2.1, hsm.2.2.1, hsm.2.2.2.1⟩ _
  have hes := (empty_spec hne).2.2.2.2
  unfold Span.empty at hes
  rw [decide_eq_false_iff_not] at hes
  have hs4 := hsm.2.2.2.2
  unfold small at hs4
  have hWt := within_of twin b.s4.lo b.s4.hi (by omega)
  have hwt := within_le twin b.s4.lo b.s4.hi (by omega)
  have hin := inside_in hne l
  generalize within twin b.s4.lo b.s4.hi = t at *
  generalize insideOf b l = p at *
  have hpb : InB b p t := ⟨hin.1, hin.2.1, hin.2.2.1, hin.2.2.2.1, hwt⟩
  have hWk := within_of place 0 4 (by omega)
  have hwk := within_le place 0 4 (by omega)
  generalize within place 0 4 = k at *
  have hCu := cutB_of hok k hat
  have hokc := okB_cut hok k hat
  have hsub := cut_sub b (k := k) (by omega) (by omega) at_
  generalize cutB b k at_ = z at *
  obtain ⟨x, y⟩ := z
  simp only at hokc hsub
  have hCl : ∀ w, okB w → ClosedC m q w = some (closedM m q w) := fun w hw => part_of ⟨hm, hw⟩ _
  have hB := hCl b hok
  have hX := hCl x hokc.1
  have hY := hCl y hokc.2
  have hbx : closedM m q b = true → closedM m q x = true ∧ closedM m q y = true := fun h => ⟨closed_part hm h hsub.1, closed_part hm h hsub.2⟩
  have hbr : closedM m q b = true → BreaksC m q p t = some false := fun h => by rw [← closed_sound hm h hpb]; exact part_of hm _
  have hSp : SplitC m q b = some (splitM m q b) := part_of hm _
  have hBc : BreaksC m q (lowB b) b.s4.hi = some (corner m q b) := part_of hm _
  have hspec := splitFrom_spec m q b [0, 1, 2, 3, 4]
  have hun : (splitM m q b).c = false → closedM m q b = !(corner m q b) := fun h => by
    rcases hspec with ⟨_, _, h3⟩ | ⟨l1, r1, k1, _, _, _, h4⟩
    · exact closed_uncut hm hqok hne fun i i0 i5 => h3 i (by simp; omega)
    · unfold splitM at h; rw [h4] at h; cases h
  have hkk : (splitM m q b).c = true → 0 ≤ (splitM m q b).a ∧ (splitM m q b).a ≤ 4 := fun h => by
    rcases hspec with ⟨h1, h2, _⟩ | ⟨l1, r1, k1, h1, _, _, h4⟩
    · unfold splitM at h; rw [h1] at h; cases h
    · have : k1 ∈ ([0, 1, 2, 3, 4] : List Int) := by rw [h1]; simp
      unfold splitM
      rw [h4]
      simp at this
      simp only
      omega
  have hW : ClosedC m ⟨q.kind, -1, q.region, q.lo, q.hi, q.feature, q.falls, q.budget⟩ b = some false := by
    have := part_of (p := RM m ∧ okB b) ⟨hm, hok⟩ (closedM m ⟨q.kind, -1, q.region, q.lo, q.hi, q.feature, q.falls, q.budget⟩ b)
    rw [closed_wrong (show okQuery m ⟨q.kind, -1, q.region, q.lo, q.hi, q.feature, q.falls, q.budget⟩ = false from by unfold okQuery; simp)] at this
    unfold ClosedC
    rw [closed_wrong (show okQuery m ⟨q.kind, -1, q.region, q.lo, q.hi, q.feature, q.falls, q.budget⟩ = false from by unfold okQuery; simp)]
    exact this
  clear hspec
  generalize splitM m q b = sp at *
  obtain ⟨s1, s2, s3⟩ := sp
  simp only at hun hkk
  generalize corner m q b = co at *
  generalize closedM m q b = cl at *
  cases s3
  case false =>
    have hun := hun rfl
    subst hun
    cases co
    case false =>
      have hbr := hbr rfl
      obtain ⟨e1, e2⟩ := hbx rfl
      rw [e1] at hX
      rw [e2] at hY
      simp -implicitDefEqProofs [hM, hQ, hP, hB, hI, hWt, hbr, hWk, hCu, hX, hY, hSp, hBc, hW]
    case true =>
      simp -implicitDefEqProofs [hM, hQ, hP, hB, hI, hWt, hWk, hCu, hSp, hBc, hW]
  case true =>
    obtain ⟨k0, k4⟩ := hkk rfl
    cases cl
    case true =>
      have hbr := hbr rfl
      obtain ⟨e1, e2⟩ := hbx rfl
      rw [e1] at hX
      rw [e2] at hY
      simp -implicitDefEqProofs [hM, hQ, hP, hB, hI, hWt, hbr, hWk, hCu, hX, hY, hSp, hBc, hW, k0, k4]
    case false =>
      simp -implicitDefEqProofs [hM, hQ, hP, hB, hI, hWt, hWk, hCu, hSp, hBc, hW, k0, k4]
noncomputable def law_sp : List AV → Option AV := sp7 fun (_ : Forest) (_ : Ask) (_ _ : List Int) (_ _ n : Int) => Part (ok64 n) true
theorem law_holds : Contract Try.prog 12 law_sp :=
  contract_of_runs mixed (tbl_cons c_Model (tbl_cons c_Query (tbl_cons c_Within (tbl_cons c_Start (tbl_cons c_part (tbl_cons c_Closed (tbl_cons c_Split (tbl_cons c_gCorner (tbl_cons c_Breaks (tbl_cons c_Inside (tbl_cons c_bCut (tbl_cons c_closed61 tbl_nil)))))))))))) Try.func12 m12 (sp7_runs runs_law)
/- GOOD 6 -/
theorem law_says (f : Forest) (a : Ask) (l1 l2 : List Int) (x y z : Int) (h : ok64 z) : law_sp [Arg.enc f, Arg.enc a, Arg.enc l1, Arg.enc l2, Arg.enc x, Arg.enc y, Arg.enc z] = some (.bool true) := by
  simp only [law_sp, sp7, Arg.dec_enc, Option.bind_some]
  rw [part_of h]
  rfl
end Go.Co
