/- The law GoalOne: what its text computes. -/
import Derived.Test.YtcjflbmpfmibbaaCoPt
import Derived.Test.YtcjflbmpfmibbaaCoH
import Derived.Test.YtcjflbmpfmibbaaCoLib
import Derived.Test.YtcjflbmpfmibbaaCoSh
namespace Go.Co
open Go.Am Go.Proofs
set_option linter.unusedSimpArgs false
set_option linter.unusedVariables false
attribute [-simp] Go.Am.eff_gcall
def c13_0 : ACode := .ops [⟨some 4, .box (.t 0) 4, none, []⟩,
  ⟨some 5, .box (.t 1) 8, none, []⟩,
  ⟨some 8, .mv (.c (.bool false)), none, []⟩] [2, 3, 4, 5]
theorem r13_0 : type_of% (@rr _ _ c13_0.eq_1) := rr c13_0.eq_1
def c13_1 : ACode := .ops [⟨some 20, .load 4 true (.t 4), none, [4]⟩,
  ⟨some 21, .call 15 [.t 20], none, []⟩,
  ⟨some 9, .alloc [.int .i64 0, .int .i64 0, .int .i64 0, .int .i64 0, .int .i64 0, .nils], none, []⟩,
  ⟨none, .store (.t 9) 6 (.t 21), none, [9]⟩] [2, 3, 5, 9]
theorem r13_1 : type_of% (@rr _ _ c13_1.eq_1) := rr c13_1.eq_1
def c13_2 : ACode := .ops [⟨some 22, .load 8 true (.t 5), none, [5]⟩,
  ⟨some 23, .load 6 true (.t 9), none, [9]⟩,
  ⟨some 24, .call 31 [.t 22, .t 23], none, []⟩,
  ⟨some 10, .alloc [.int .i64 0, .int .i64 0, .int .i64 0, .int .i64 0, .int .i64 0, .int .i64 0, .int .i64 0, .int .i64 0, .int .i64 0, .int .i64 0, .int .i64 0, .int .i64 0, .int .i64 0, .int .i64 0, .int .i64 0, .bool false, .int .i64 0], none, []⟩,
  ⟨none, .store (.t 10) 17 (.t 24), none, [10]⟩] [2, 3, 9, 10]
theorem r13_2 : type_of% (@rr _ _ c13_2.eq_1) := rr c13_2.eq_1
def c13_3 : ACode := .ops [⟨some 25, .load 17 true (.t 10), none, [10]⟩,
  ⟨some 26, .call 45 [.t 25], none, []⟩,
  ⟨some 11, .alloc [.int .i64 0, .int .i64 0, .int .i64 0, .int .i64 0, .int .i64 0, .int .i64 0, .int .i64 0, .int .i64 0, .int .i64 0, .int .i64 0], none, []⟩,
  ⟨none, .store (.t 11) 10 (.t 26), none, [11]⟩] [2, 3, 9, 10, 11]
theorem r13_3 : type_of% (@rr _ _ c13_3.eq_1) := rr c13_3.eq_1
def c13_4 : ACode := .ops [⟨some 27, .load 10 true (.t 11), none, [11]⟩,
  ⟨some 28, .mv (.t 2), none, []⟩,
  ⟨some 29, .call 26 [.t 27, .t 28], none, []⟩,
  ⟨some 12, .alloc [.int .i64 0, .int .i64 0, .int .i64 0, .int .i64 0], none, []⟩,
  ⟨none, .store (.t 12) 4 (.t 29), none, [12]⟩] [3, 9, 10, 11, 12]
theorem r13_4 : type_of% (@rr _ _ c13_4.eq_1) := rr c13_4.eq_1
def c13_5 : ACode := .ops [⟨some 30, .mv (.t 3), none, []⟩,
  ⟨some 31, .iad (.t 11) (.c (.int .i64 4)) 2 5, none, [11]⟩,
  ⟨some 32, .fad (.t 31) 0, none, [11]⟩,
  ⟨some 33, .load 1 false (.t 32), none, [11]⟩,
  ⟨some 34, .iad (.t 11) (.c (.int .i64 4)) 2 5, none, [11]⟩,
  ⟨some 35, .fad (.t 34) 1, none, [11]⟩,
  ⟨some 36, .load 1 false (.t 35), none, [11]⟩,
  ⟨some 37, .call 24 [.t 30, .t 33, .t 36], none, []⟩,
  ⟨some 13, .mv (.t 37), none, []⟩] [9, 10, 11, 12, 13]
theorem r13_5 : type_of% (@rr _ _ c13_5.eq_1) := rr c13_5.eq_1
def c13_6 : ACode := .ops [⟨some 38, .mv (.c (.int .i64 0)), none, []⟩] [9, 10, 11, 12, 13, 38]
theorem r13_6 : type_of% (@rr _ _ c13_6.eq_1) := rr c13_6.eq_1
def c13_7 : ACode := .ops [⟨some 39, .bin .lss (.t 38) (.c (.int .i64 4)), none, []⟩] [9, 10, 11, 12, 13, 38, 39]
theorem r13_7 : type_of% (@rr _ _ c13_7.eq_1) := rr c13_7.eq_1
def c13_8 : ACode := .cond (.t 39) .skip (.exit 0)
theorem r13_8 : type_of% (@rr _ _ c13_8.eq_1) := rr c13_8.eq_1
def c13_9 : ACode := .ops [⟨some 40, .mv (.t 38), none, []⟩,
  ⟨some 14, .mv (.t 40), none, []⟩] [9, 10, 11, 12, 13, 14, 38]
theorem r13_9 : type_of% (@rr _ _ c13_9.eq_1) := rr c13_9.eq_1
def c13_10 : ACode := .ops [⟨some 41, .mv (.t 14), none, []⟩,
  ⟨some 42, .mv (.t 14), none, []⟩,
  ⟨some 43, .iad (.t 12) (.t 42) 1 4, none, [12]⟩,
  ⟨some 44, .load 1 false (.t 43), none, [12]⟩,
  ⟨some 45, .mv (.t 14), none, []⟩,
  ⟨some 46, .iad (.t 12) (.t 45) 1 4, none, [12]⟩,
  ⟨some 47, .load 1 false (.t 46), none, [12]⟩,
  ⟨some 48, .build [.int .i64 0, .int .i64 0] [(0, 1, .t 44), (1, 1, .t 47)], none, []⟩,
  ⟨some 49, .iad (.t 11) (.t 41) 2 5, none, [11]⟩,
  ⟨none, .store (.t 49) 2 (.t 48), none, [11]⟩] [9, 10, 11, 12, 13, 38]
theorem r13_10 : type_of% (@rr _ _ c13_10.eq_1) := rr c13_10.eq_1
def c13_11 : ACode := .seq c13_9 c13_10
theorem r13_11 : type_of% (@rr _ _ c13_11.eq_1) := rr c13_11.eq_1
def c13_12 : ACode := .block 1 c13_11
theorem r13_12 : type_of% (@rr _ _ c13_12.eq_1) := rr c13_12.eq_1
def c13_13 : ACode := .ops [⟨some 50, .bin .add (.t 38) (.c (.int .i64 1)), none, []⟩,
  ⟨some 38, .mv (.t 50), none, []⟩] [9, 10, 11, 12, 13, 38]
theorem r13_13 : type_of% (@rr _ _ c13_13.eq_1) := rr c13_13.eq_1
def c13_14 : ACode := .seq c13_12 c13_13
theorem r13_14 : type_of% (@rr _ _ c13_14.eq_1) := rr c13_14.eq_1
def c13_15 : ACode := .seq c13_8 c13_14
theorem r13_15 : type_of% (@rr _ _ c13_15.eq_1) := rr c13_15.eq_1
def c13_16 : ACode := .seq c13_7 c13_15
theorem r13_16 : type_of% (@rr _ _ c13_16.eq_1) := rr c13_16.eq_1
def c13_17 : ACode := .keep [9, 10, 11, 12, 13, 38] [9, 10, 11, 12] c13_16
theorem r13_17 : type_of% (@rr _ _ c13_17.eq_1) := rr c13_17.eq_1
def c13_18 : ACode := .loop c13_17
theorem r13_18 : type_of% (@rr _ _ c13_18.eq_1) := rr c13_18.eq_1
def c13_19 : ACode := .block 0 c13_18
theorem r13_19 : type_of% (@rr _ _ c13_19.eq_1) := rr c13_19.eq_1
def c13_20 : ACode := .seq c13_6 c13_19
theorem r13_20 : type_of% (@rr _ _ c13_20.eq_1) := rr c13_20.eq_1
def c13_21 : ACode := .ops [⟨some 51, .mv (.t 13), none, []⟩,
  ⟨some 52, .mv (.t 13), none, []⟩,
  ⟨some 53, .build [.int .i64 0, .int .i64 0] [(0, 1, .t 51), (1, 1, .t 52)], none, []⟩,
  ⟨some 54, .iad (.t 11) (.c (.int .i64 4)) 2 5, none, [11]⟩,
  ⟨none, .store (.t 54) 2 (.t 53), none, [11]⟩] [9, 10, 11, 12, 13]
theorem r13_21 : type_of% (@rr _ _ c13_21.eq_1) := rr c13_21.eq_1
def c13_22 : ACode := .ops [⟨some 56, .load 10 true (.t 11), none, [11]⟩,
  ⟨some 57, .call 60 [.t 56], none, []⟩,
  ⟨some 55, .mv (.t 57), none, []⟩,
  ⟨some 58, .ext (.t 55) 0, none, []⟩,
  ⟨some 59, .ext (.t 55) 1, none, []⟩,
  ⟨some 15, .alloc [.int .i64 0, .int .i64 0, .int .i64 0, .int .i64 0], none, []⟩,
  ⟨none, .store (.t 15) 4 (.t 58), none, [15]⟩,
  ⟨some 16, .mv (.t 59), none, []⟩] [9, 10, 11, 12, 13, 15, 16]
theorem r13_22 : type_of% (@rr _ _ c13_22.eq_1) := rr c13_22.eq_1
def c13_23 : ACode := .ops [⟨some 61, .load 6 true (.t 9), none, [9]⟩,
  ⟨some 62, .load 17 true (.t 10), none, [10]⟩,
  ⟨some 63, .load 10 true (.t 11), none, [11]⟩,
  ⟨some 64, .call 59 [.t 61, .t 62, .t 63], none, []⟩,
  ⟨some 60, .mv (.t 64), none, []⟩,
  ⟨some 65, .ext (.t 60) 0, none, []⟩,
  ⟨some 66, .ext (.t 60) 1, none, []⟩,
  ⟨some 67, .ext (.t 60) 2, none, []⟩,
  ⟨some 17, .mv (.t 65), none, []⟩,
  ⟨some 18, .mv (.t 66), none, []⟩,
  ⟨some 19, .mv (.t 67), none, []⟩] [9, 10, 11, 12, 13, 15, 16, 19]
theorem r13_23 : type_of% (@rr _ _ c13_23.eq_1) := rr c13_23.eq_1
def c13_24 : ACode := .ops [⟨some 68, .load 4 true (.t 15), none, [15]⟩,
  ⟨some 69, .load 4 true (.t 12), none, [12]⟩,
  ⟨some 70, .eqa false [false, false, false, false] (.t 68) (.t 69), none, []⟩,
  ⟨some 71, .mv (.t 70), none, []⟩,
  ⟨some 72, .mv (.t 16), some (71, true), []⟩,
  ⟨some 73, .mv (.t 13), some (71, true), []⟩,
  ⟨some 74, .bin .eql (.t 72) (.t 73), some (71, true), []⟩,
  ⟨some 75, .pick (.t 71) (.t 74) (.c (.bool false)), none, []⟩,
  ⟨some 76, .mv (.t 75), none, []⟩,
  ⟨some 77, .mv (.t 19), some (76, true), []⟩,
  ⟨some 78, .un .not (.t 77), some (76, true), []⟩,
  ⟨some 79, .pick (.t 76) (.t 78) (.c (.bool false)), none, []⟩,
  ⟨some 80, .mv (.t 79), none, []⟩,
  ⟨some 81, .load 6 true (.t 9), some (80, true), [9]⟩,
  ⟨some 82, .load 17 true (.t 10), some (80, true), [10]⟩,
  ⟨some 83, .load 10 true (.t 11), some (80, true), [11]⟩,
  ⟨some 84, .call 56 [.t 81, .t 82, .t 83], some (80, true), []⟩,
  ⟨some 85, .load 6 true (.t 9), some (80, true), [9]⟩,
  ⟨some 86, .load 17 true (.t 10), some (80, true), [10]⟩,
  ⟨some 87, .load 4 true (.t 12), some (80, true), [12]⟩,
  ⟨some 88, .mv (.t 13), some (80, true), []⟩,
  ⟨some 89, .call 57 [.t 85, .t 86, .t 87, .t 88], some (80, true), []⟩,
  ⟨some 90, .un .not (.t 89), some (80, true), []⟩,
  ⟨some 91, .eqb false (.t 84) (.t 90), some (80, true), []⟩,
  ⟨some 92, .pick (.t 80) (.t 91) (.c (.bool false)), none, []⟩,
  ⟨some 93, .mv (.t 92), none, []⟩,
  ⟨some 94, .call 61 [], some (93, true), []⟩,
  ⟨some 95, .pick (.t 93) (.t 94) (.c (.bool false)), none, []⟩,
  ⟨some 8, .mv (.t 95), none, []⟩] [8]
theorem r13_24 : type_of% (@rr _ _ c13_24.eq_1) := rr c13_24.eq_1
def c13_25 : ACode := .seq c13_24 .ret
theorem r13_25 : type_of% (@rr _ _ c13_25.eq_1) := rr c13_25.eq_1
def c13_26 : ACode := .seq c13_23 c13_25
theorem r13_26 : type_of% (@rr _ _ c13_26.eq_1) := rr c13_26.eq_1
def c13_27 : ACode := .seq c13_22 c13_26
theorem r13_27 : type_of% (@rr _ _ c13_27.eq_1) := rr c13_27.eq_1
def c13_28 : ACode := .seq c13_21 c13_27
theorem r13_28 : type_of% (@rr _ _ c13_28.eq_1) := rr c13_28.eq_1
def c13_29 : ACode := .seq c13_20 c13_28
theorem r13_29 : type_of% (@rr _ _ c13_29.eq_1) := rr c13_29.eq_1
def c13_30 : ACode := .seq c13_5 c13_29
theorem r13_30 : type_of% (@rr _ _ c13_30.eq_1) := rr c13_30.eq_1
def c13_31 : ACode := .seq c13_4 c13_30
theorem r13_31 : type_of% (@rr _ _ c13_31.eq_1) := rr c13_31.eq_1
def c13_32 : ACode := .seq c13_3 c13_31
theorem r13_32 : type_of% (@rr _ _ c13_32.eq_1) := rr c13_32.eq_1
def c13_33 : ACode := .seq c13_2 c13_32
theorem r13_33 : type_of% (@rr _ _ c13_33.eq_1) := rr c13_33.eq_1
def c13_34 : ACode := .seq c13_1 c13_33
theorem r13_34 : type_of% (@rr _ _ c13_34.eq_1) := rr c13_34.eq_1
def c13_35 : ACode := .seq c13_0 c13_34
theorem r13_35 : type_of% (@rr _ _ c13_35.eq_1) := rr c13_35.eq_1
def a13 : AFun := ⟨4, 96, c13_35, [.t 8]⟩
attribute [simp] r13_0 r13_1 r13_2 r13_3 r13_4 r13_5 r13_6 r13_7 r13_8 r13_9 r13_10 r13_11 r13_12 r13_13 r13_14 r13_15 r13_16 r13_17 r13_18 r13_19 r13_20 r13_21 r13_22 r13_23 r13_24 r13_25 r13_26 r13_27 r13_28 r13_29 r13_30 r13_31 r13_32 r13_33 r13_34 r13_35
theorem m13 : mFun Try.prog Try.f13 a13 = true := by decide +kernel
def c61_0 : ACode := .ops [⟨some 0, .mv (.c (.bool false)), none, []⟩] []
def c61_1 : ACode := .ops [⟨some 11, .call 74 [], none, []⟩,
  ⟨some 1, .alloc [.int .i64 0, .int .i64 0, .int .i64 0, .int .i64 0, .int .i64 0, .nils], none, []⟩,
  ⟨none, .store (.t 1) 6 (.t 11), none, [1]⟩] [1]
def c61_2 : ACode := .ops [⟨some 12, .build [.int .i64 0, .int .i64 0] [(0, 1, .c (.int .i64 0)), (1, 1, .c (.int .i64 9))], none, []⟩,
  ⟨some 13, .build [.int .i64 0, .int .i64 0, .int .i64 0, .int .i64 0, .int .i64 0, .int .i64 0, .int .i64 0, .int .i64 0, .int .i64 0, .int .i64 0] [(0, 2, .t 12)], none, []⟩,
  ⟨some 14, .build [.int .i64 0, .int .i64 0, .int .i64 0, .int .i64 0, .int .i64 0, .int .i64 0, .int .i64 0, .int .i64 0, .int .i64 0, .int .i64 0, .int .i64 0, .int .i64 0, .int .i64 0, .int .i64 0, .int .i64 0, .bool false, .int .i64 0] [(0, 1, .c (.int .i64 3)), (2, 10, .t 13)], none, []⟩,
  ⟨some 2, .alloc [.int .i64 0, .int .i64 0, .int .i64 0, .int .i64 0, .int .i64 0, .int .i64 0, .int .i64 0, .int .i64 0, .int .i64 0, .int .i64 0, .int .i64 0, .int .i64 0, .int .i64 0, .int .i64 0, .int .i64 0, .bool false, .int .i64 0], none, []⟩,
  ⟨none, .store (.t 2) 17 (.t 14), none, [2]⟩] [1, 2]
def c61_3 : ACode := .ops [⟨some 15, .load 17 true (.t 2), none, [2]⟩,
  ⟨some 16, .call 45 [.t 15], none, []⟩,
  ⟨some 3, .alloc [.int .i64 0, .int .i64 0, .int .i64 0, .int .i64 0, .int .i64 0, .int .i64 0, .int .i64 0, .int .i64 0, .int .i64 0, .int .i64 0], none, []⟩,
  ⟨none, .store (.t 3) 10 (.t 16), none, [3]⟩] [1, 2, 3]
def c61_4 : ACode := .ops [⟨some 18, .load 6 true (.t 1), none, [1]⟩,
  ⟨some 19, .load 17 true (.t 2), none, [2]⟩,
  ⟨some 20, .load 10 true (.t 3), none, [3]⟩,
  ⟨some 21, .call 59 [.t 18, .t 19, .t 20], none, []⟩,
  ⟨some 17, .mv (.t 21), none, []⟩,
  ⟨some 22, .ext (.t 17) 0, none, []⟩,
  ⟨some 23, .ext (.t 17) 1, none, []⟩,
  ⟨some 24, .ext (.t 17) 2, none, []⟩,
  ⟨some 4, .mv (.t 22), none, []⟩,
  ⟨some 5, .mv (.t 23), none, []⟩,
  ⟨some 6, .mv (.t 24), none, []⟩] [1, 2, 3, 4, 5, 6]
def c61_5 : ACode := .ops [⟨some 25, .load 10 true (.t 3), none, [3]⟩,
  ⟨some 7, .alloc [.int .i64 0, .int .i64 0, .int .i64 0, .int .i64 0, .int .i64 0, .int .i64 0, .int .i64 0, .int .i64 0, .int .i64 0, .int .i64 0], none, []⟩,
  ⟨none, .store (.t 7) 10 (.t 25), none, [7]⟩] [1, 2, 3, 4, 5, 6, 7]
def c61_6 : ACode := .ops [⟨some 26, .iad (.t 7) (.c (.int .i64 0)) 2 5, none, [7]⟩,
  ⟨some 27, .fad (.t 26) 1, none, [7]⟩,
  ⟨none, .store (.t 27) 1 (.c (.int .i64 5)), none, [7]⟩] [1, 2, 3, 4, 5, 6, 7]
def c61_7 : ACode := .ops [⟨some 28, .load 6 true (.t 1), none, [1]⟩,
  ⟨some 29, .load 17 true (.t 2), none, [2]⟩,
  ⟨some 30, .load 10 true (.t 7), none, [7]⟩,
  ⟨some 31, .call 56 [.t 28, .t 29, .t 30], none, []⟩,
  ⟨some 8, .mv (.t 31), none, []⟩] [1, 2, 3, 4, 5, 6, 7, 8]
def c61_8 : ACode := .ops [⟨some 32, .fad (.t 2) 15, none, [2]⟩,
  ⟨none, .store (.t 32) 1 (.c (.bool true)), none, [2]⟩] [1, 2, 3, 4, 5, 6, 7, 8]
def c61_9 : ACode := .ops [⟨some 34, .load 10 true (.t 7), none, [7]⟩,
  ⟨some 35, .call 60 [.t 34], none, []⟩,
  ⟨some 33, .mv (.t 35), none, []⟩,
  ⟨some 36, .ext (.t 33) 0, none, []⟩,
  ⟨some 37, .ext (.t 33) 1, none, []⟩,
  ⟨some 9, .alloc [.int .i64 0, .int .i64 0, .int .i64 0, .int .i64 0], none, []⟩,
  ⟨none, .store (.t 9) 4 (.t 36), none, [9]⟩,
  ⟨some 10, .mv (.t 37), none, []⟩] [1, 2, 3, 4, 5, 6, 7, 8, 9, 10]
def c61_10 : ACode := .ops [⟨some 38, .load 6 true (.t 1), none, [1]⟩,
  ⟨some 39, .fad (.t 2) 2, none, [2]⟩,
  ⟨some 40, .load 10 true (.t 39), none, [2]⟩,
  ⟨some 41, .build [.int .i64 0, .int .i64 0, .int .i64 0, .int .i64 0, .int .i64 0, .int .i64 0, .int .i64 0, .int .i64 0, .int .i64 0, .int .i64 0, .int .i64 0, .int .i64 0, .int .i64 0, .int .i64 0, .int .i64 0, .bool false, .int .i64 0] [(0, 1, .c (.int .i64 3)), (2, 10, .t 40)], none, []⟩,
  ⟨some 42, .load 10 true (.t 3), none, [3]⟩,
  ⟨some 43, .call 56 [.t 38, .t 41, .t 42], none, []⟩,
  ⟨some 44, .un .not (.t 43), none, []⟩,
  ⟨some 45, .mv (.t 44), none, []⟩,
  ⟨some 46, .mv (.t 4), some (45, true), []⟩,
  ⟨some 47, .bin .eql (.t 46) (.c (.int .i64 0)), some (45, true), []⟩,
  ⟨some 48, .pick (.t 45) (.t 47) (.c (.bool false)), none, []⟩,
  ⟨some 49, .mv (.t 48), none, []⟩,
  ⟨some 50, .mv (.t 5), some (49, true), []⟩,
  ⟨some 51, .bin .eql (.t 50) (.c (.int .i64 5)), some (49, true), []⟩,
  ⟨some 52, .pick (.t 49) (.t 51) (.c (.bool false)), none, []⟩,
  ⟨some 53, .mv (.t 52), none, []⟩,
  ⟨some 54, .mv (.t 6), some (53, true), []⟩,
  ⟨some 55, .pick (.t 53) (.t 54) (.c (.bool false)), none, []⟩,
  ⟨some 56, .mv (.t 55), none, []⟩,
  ⟨some 57, .mv (.t 8), some (56, true), []⟩,
  ⟨some 58, .pick (.t 56) (.t 57) (.c (.bool false)), none, []⟩,
  ⟨some 59, .mv (.t 58), none, []⟩,
  ⟨some 60, .load 6 true (.t 1), some (59, true), [1]⟩,
  ⟨some 61, .load 17 true (.t 2), some (59, true), [2]⟩,
  ⟨some 62, .load 10 true (.t 7), some (59, true), [7]⟩,
  ⟨some 63, .call 56 [.t 60, .t 61, .t 62], some (59, true), []⟩,
  ⟨some 64, .un .not (.t 63), some (59, true), []⟩,
  ⟨some 65, .pick (.t 59) (.t 64) (.c (.bool false)), none, []⟩,
  ⟨some 66, .mv (.t 65), none, []⟩,
  ⟨some 67, .load 6 true (.t 1), some (66, true), [1]⟩,
  ⟨some 68, .load 17 true (.t 2), some (66, true), [2]⟩,
  ⟨some 69, .load 4 true (.t 9), some (66, true), [9]⟩,
  ⟨some 70, .mv (.t 10), some (66, true), []⟩,
  ⟨some 71, .call 57 [.t 67, .t 68, .t 69, .t 70], some (66, true), []⟩,
  ⟨some 72, .pick (.t 66) (.t 71) (.c (.bool false)), none, []⟩,
  ⟨some 0, .mv (.t 72), none, []⟩] [0]
def c61_11 : ACode := .seq c61_10 .ret
def c61_12 : ACode := .seq c61_9 c61_11
def c61_13 : ACode := .seq c61_8 c61_12
def c61_14 : ACode := .seq c61_7 c61_13
def c61_15 : ACode := .seq c61_6 c61_14
def c61_16 : ACode := .seq c61_5 c61_15
def c61_17 : ACode := .seq c61_4 c61_16
def c61_18 : ACode := .seq c61_3 c61_17
def c61_19 : ACode := .seq c61_2 c61_18
def c61_20 : ACode := .seq c61_1 c61_19
def c61_21 : ACode := .seq c61_0 c61_20
def a61 : AFun := ⟨0, 73, c61_21, [.t 0]⟩
theorem m61 : mFun Try.prog Try.f61 a61 = true := by decide +kernel
def c74_0 : ACode := .ops [⟨some 0, .alloc [.int .i64 0, .int .i64 0, .int .i64 0, .int .i64 0, .int .i64 0, .nils], none, []⟩] [0]
def c74_1 : ACode := .ops [⟨some 2, .build [.bool false, .int .i64 0, .int .i64 0, .int .i64 0, .int .i64 0, .int .i64 0] [(3, 1, .c (.int .i64 5)), (4, 1, .c (.int .i64 1)), (5, 1, .c (.int .i64 2))], none, []⟩,
  ⟨some 3, .call 68 [.t 2], none, []⟩,
  ⟨some 4, .build [.bool false, .int .i64 0, .int .i64 0, .int .i64 0, .int .i64 0, .int .i64 0] [(0, 1, .c (.bool true)), (1, 1, .c (.int .i64 10))], none, []⟩,
  ⟨some 5, .call 68 [.t 4], none, []⟩,
  ⟨some 6, .build [.bool false, .int .i64 0, .int .i64 0, .int .i64 0, .int .i64 0, .int .i64 0] [(0, 1, .c (.bool true)), (1, 1, .c (.int .i64 20))], none, []⟩,
  ⟨some 7, .call 68 [.t 6], none, []⟩,
  ⟨some 8, .mkrow 1 3 1 [.int .u64 0] [(0, 1, .t 3), (1, 1, .t 5), (2, 1, .t 7)], none, []⟩,
  ⟨some 1, .mv (.t 8), none, []⟩] [0, 1]
def c74_2 : ACode := .ops [⟨some 9, .build [.int .i64 0, .int .i64 0, .int .i64 0] [(0, 1, .c (.int .i64 3))], none, []⟩,
  ⟨some 10, .mv (.t 1), none, []⟩,
  ⟨some 11, .build [.int .i64 0, .nils] [(1, 1, .t 10)], none, []⟩,
  ⟨some 12, .mkrow 12 1 2 [.int .i64 0, .nils] [(0, 2, .t 11)], none, []⟩,
  ⟨some 13, .build [.int .i64 0, .int .i64 0, .int .i64 0, .int .i64 0, .int .i64 0, .nils] [(0, 1, .c (.int .i64 1)), (1, 1, .c (.int .i64 1)), (2, 3, .t 9), (5, 1, .t 12)], none, []⟩,
  ⟨none, .store (.t 0) 6 (.t 13), none, [0]⟩] [0]
def c74_3 : ACode := .seq c74_2 .ret
def c74_4 : ACode := .seq c74_1 c74_3
def c74_5 : ACode := .seq c74_0 c74_4
def a74 : AFun := ⟨0, 14, c74_5, [.cell 0 6 true]⟩
theorem m74 : mFun Try.prog Try.f74 a74 = true := by decide +kernel
def texts61 : List (Nat × AFun) := [(19, a19), (20, a20), (27, a27), (28, a28), (29, a29), (43, a43), (45, a45), (51, a51), (56, a56), (57, a57), (58, a58), (59, a59), (60, a60), (61, a61), (63, a63), (66, a66), (68, a68), (69, a69), (70, a70), (71, a71), (72, a72), (74, a74), (75, a75), (76, a76), (77, a77), (78, a78), (89, a89), (97, a97), (100, a100), (101, a101), (102, a102), (103, a103), (105, a105), (106, a106), (107, a107), (108, a108), (109, a109), (110, a110), (114, a114), (117, a117), (118, a118), (119, a119), (120, a120), (121, a121), (122, a122), (123, a123), (124, a124), (125, a125), (126, a126), (132, a132), (133, a133), (138, a138), (140, a140), (141, a141), (142, a142), (143, a143), (144, a144), (146, a146), (147, a147)]
theorem texts61_good : Go.Am.Good Try.prog texts61 :=
  good_cons Try.func19 m19 <| good_cons Try.func20 m20 <| good_cons Try.func27 m27 <| good_cons Try.func28 m28 <| good_cons Try.func29 m29 <| good_cons Try.func43 m43 <| good_cons Try.func45 m45 <| good_cons Try.func51 m51 <| good_cons Try.func56 m56 <| good_cons Try.func57 m57 <| good_cons Try.func58 m58 <| good_cons Try.func59 m59 <| good_cons Try.func60 m60 <| good_cons Try.func61 m61 <| good_cons Try.func63 m63 <| good_cons Try.func66 m66 <| good_cons Try.func68 m68 <| good_cons Try.func69 m69 <| good_cons Try.func70 m70 <| good_cons Try.func71 m71 <| good_cons Try.func72 m72 <| good_cons Try.func74 m74 <| good_cons Try.func75 m75 <| good_cons Try.func76 m76 <| good_cons Try.func77 m77 <| good_cons Try.func78 m78 <| good_cons Try.func89 m89 <| good_cons Try.func97 m97 <| good_cons Try.func100 m100 <| good_cons Try.func101 m101 <| good_cons Try.func102 m102 <| good_cons Try.func103 m103 <| good_cons Try.func105 m105 <| good_cons Try.func106 m106 <| good_cons Try.func107 m107 <| good_cons Try.func108 m108 <| good_cons Try.func109 m109 <| good_cons Try.func110 m110 <| good_cons Try.func114 m114 <| good_cons Try.func117 m117 <| good_cons Try.func118 m118 <| good_cons Try.func119 m119 <| good_cons Try.func120 m120 <| good_cons Try.func121 m121 <| good_cons Try.func122 m122 <| good_cons Try.func123 m123 <| good_cons Try.func124 m124 <| good_cons Try.func125 m125 <| good_cons Try.func126 m126 <| good_cons Try.func132 m132 <| good_cons Try.func133 m133 <| good_cons Try.func138 m138 <| good_cons Try.func140 m140 <| good_cons Try.func141 m141 <| good_cons Try.func142 m142 <| good_cons Try.func143 m143 <| good_cons Try.func144 m144 <| good_cons Try.func146 m146 <| good_cons Try.func147 m147 <| good_nil
theorem c_closed61 : Contract Try.prog 61 (sp0 (some true)) := contract_closedG mixed texts61_good lib (NW := fun f => if f = 43 then some 5 else if f = 67 then some 10001 else none) (m := 2000) (n := 80) (by decide +kernel)
set_option maxHeartbeats 4000000 in
set_option maxRecDepth 100000 in
theorem runs_law (f : Forest) (a : Ask) (l : List Int) (twin : Int) (c : Bool) (h : some true = some c) : Runs (tbl [(15, sp1 ModelC), (31, sp2 QueryC), (24, sp3 Within), (45, sp1 fun q => some (startOf q)), (56, sp3 ClosedC), (59, sp3 SplitC), (60, sp1 fun b => some (lowB b, b.s4.hi)), (57, sp4 BreaksC), (26, sp2 InsideC), (61, sp0 (some true))]) a13 [Arg.enc f, Arg.enc a, Arg.enc l, Arg.enc twin] (Arg.enc c) := by
  cases h
  refine ⟨rfl, fun g => run_def ?_⟩
  unfold a13
  have hm := rm_modelOf f
  have hM : ModelC f = some (modelOf f) := rfl
  generalize modelOf f = m at *
  have hQ : QueryC a m = some (queryOf m a) := part_of ⟨hm.dim.1, hm.dim.2, hm.classes.1, hm.classes.2⟩ _
  obtain ⟨hsm0, hok0, hne0⟩ := start_facts m a
  have hqok := ok_queryOf m a hm
  generalize queryOf m a = q at *
  have hI : InsideC (startOf q) l = some (insideOf (startOf q) l) := part_of ⟨hsm0.1, hsm0.2.1, hsm0.2.2.1, hsm0.2.2.2.1⟩ _
  have hes := (empty_spec hne0).2.2.2.2
  unfold Span.empty at hes
  rw [decide_eq_false_iff_not] at hes
  have hs4 := hsm0.2.2.2.2
  unfold small at hs4
  have hWt := within_of twin (startOf q).s4.lo (startOf q).s4.hi (by omega)
  have hwt := within_le twin (startOf q).s4.lo (startOf q).s4.hi (by omega)
  have hin := inside_in hne0 l
  generalize within twin (startOf q).s4.lo (startOf q).s4.hi = t at *
  generalize insideOf (startOf q) l = p at *
  have hpb : InB (startOf q) p t := ⟨hin.1, hin.2.1, hin.2.2.1, hin.2.2.2.1, hwt⟩
  have hne : (⟨⟨p.p0, p.p0⟩, ⟨p.p1, p.p1⟩, ⟨p.p2, p.p2⟩, ⟨p.p3, p.p3⟩, ⟨t, t⟩⟩ : Box).empty = false := by simp [Box.empty, Span.empty]
  have hok : okB (⟨⟨p.p0, p.p0⟩, ⟨p.p1, p.p1⟩, ⟨p.p2, p.p2⟩, ⟨p.p3, p.p3⟩, ⟨t, t⟩⟩ : Box) := by
    obtain ⟨a0, a1, a2, a3, a4⟩ := hpb
    obtain ⟨g0, g1, g2, g3, g4⟩ := hsm0
    unfold InS at *
    unfold small at *
    unfold okB okS64 ok64
    simp only
    omega
  have hn : ∀ i : Int, 0 ≤ i → i < 5 → cutsL m q (⟨⟨p.p0, p.p0⟩, ⟨p.p1, p.p1⟩, ⟨p.p2, p.p2⟩, ⟨p.p3, p.p3⟩, ⟨t, t⟩⟩ : Box) i = [] := fun i i0 i5 => by
    rw [← List.length_eq_zero_iff, cutsL_len]
    unfold cutN
    split
    · rfl
    · have : i = 0 ∨ i = 1 ∨ i = 2 ∨ i = 3 ∨ i = 4 := by omega
      rcases this with rfl | rfl | rfl | rfl | rfl <;> exact inN_none _ (Int.le_refl _)
  have hcl := closed_uncut hm hqok hne hn
  have hco : corner m q (⟨⟨p.p0, p.p0⟩, ⟨p.p1, p.p1⟩, ⟨p.p2, p.p2⟩, ⟨p.p3, p.p3⟩, ⟨t, t⟩⟩ : Box) = breaks m q p t := rfl
  rw [hco] at hcl
  have hC : ClosedC m q (⟨⟨p.p0, p.p0⟩, ⟨p.p1, p.p1⟩, ⟨p.p2, p.p2⟩, ⟨p.p3, p.p3⟩, ⟨t, t⟩⟩ : Box) = some (!(breaks m q p t)) := by rw [← hcl]; exact part_of ⟨hm, hok⟩ _
  have hB : BreaksC m q p t = some (breaks m q p t) := part_of hm _
  have hS : SplitC m q (⟨⟨p.p0, p.p0⟩, ⟨p.p1, p.p1⟩, ⟨p.p2, p.p2⟩, ⟨p.p3, p.p3⟩, ⟨t, t⟩⟩ : Box) = some ⟨0, 0, false⟩ := by
    have : splitM m q (⟨⟨p.p0, p.p0⟩, ⟨p.p1, p.p1⟩, ⟨p.p2, p.p2⟩, ⟨p.p3, p.p3⟩, ⟨t, t⟩⟩ : Box) = ⟨0, 0, false⟩ := by
      rcases splitFrom_spec m q (⟨⟨p.p0, p.p0⟩, ⟨p.p1, p.p1⟩, ⟨p.p2, p.p2⟩, ⟨p.p3, p.p3⟩, ⟨t, t⟩⟩ : Box) [0, 1, 2, 3, 4] with ⟨_, h2, _⟩ | ⟨l1, r1, k1, h1, h2, _, _⟩
      · exact h2
      · have : k1 ∈ ([0, 1, 2, 3, 4] : List Int) := by rw [h1]; simp
        simp at this
        exact absurd (hn k1 (by omega) (by omega)) h2
    rw [← this]
    exact part_of hm _
  clear hcl hco hn
  generalize breaks m q p t = br at *
  cases br
  · simp -implicitDefEqProofs [hM, hQ, hI, hWt, run_round, hC, hB, hS, lowB]
  · simp -implicitDefEqProofs [hM, hQ, hI, hWt, run_round, hC, hB, hS, lowB]
noncomputable def law_sp : List AV → Option AV := sp4 fun (_ : Forest) (_ : Ask) (_ : List Int) (_ : Int) => some true
theorem law_holds : Contract Try.prog 13 law_sp :=
  contract_of_runs mixed (tbl_cons c_Model (tbl_cons c_Query (tbl_cons c_Within (tbl_cons c_Start (tbl_cons c_Closed (tbl_cons c_Split (tbl_cons c_gCorner (tbl_cons c_Breaks (tbl_cons c_Inside (tbl_cons c_closed61 tbl_nil)))))))))) Try.func13 m13 (sp4_runs runs_law)
theorem law_says (f : Forest) (a : Ask) (l : List Int) (x : Int) : law_sp [Arg.enc f, Arg.enc a, Arg.enc l, Arg.enc x] = some (.bool true) := by
  simp only [law_sp, sp4, Arg.dec_enc, Option.bind_some]
  rfl
end Go.Co
