/- The law GoalTells: what its text computes. -/
import Derived.Test.YtcjflbmpfmibbaaGreatCz14
import Derived.Test.YtcjflbmpfmibbaaGreatCz11
import Derived.Test.YtcjflbmpfmibbaaGreatCz7
import Derived.Test.YtcjflbmpfmibbaaGreatCz10
namespace Go.Co
open Go.Am Go.Proofs
set_option linter.unusedSimpArgs false
set_option linter.unusedVariables false
attribute [-simp] Go.Am.eff_gcall
def c3_0 : ACode := .ops [⟨some 5, .box (.t 0) 4, none, []⟩,
  ⟨some 6, .box (.t 1) 8, none, []⟩,
  ⟨some 8, .box (.t 3) 10, none, []⟩,
  ⟨some 10, .mv (.c (.bool false)), none, []⟩] [2, 4, 5, 6, 8]
theorem r3_0 : type_of% (@rr _ _ c3_0.eq_1) := rr c3_0.eq_1
def c3_1 : ACode := .ops [⟨some 22, .load 4 true (.t 5), none, [5]⟩,
  ⟨some 23, .call 5 [.t 22], none, []⟩,
  ⟨some 11, .alloc [.int .i64 0, .int .i64 0, .int .i64 0, .int .i64 0, .int .i64 0, .nils], none, []⟩,
  ⟨none, .store (.t 11) 6 (.t 23), none, [11]⟩] [2, 4, 6, 8, 11]
theorem r3_1 : type_of% (@rr _ _ c3_1.eq_1) := rr c3_1.eq_1
def c3_2 : ACode := .ops [⟨some 24, .load 8 true (.t 6), none, [6]⟩,
  ⟨some 25, .load 6 true (.t 11), none, [11]⟩,
  ⟨some 26, .call 6 [.t 24, .t 25], none, []⟩,
  ⟨some 12, .alloc [.int .i64 0, .int .i64 0, .int .i64 0, .int .i64 0, .int .i64 0, .int .i64 0, .int .i64 0, .int .i64 0, .int .i64 0, .int .i64 0, .int .i64 0, .int .i64 0, .int .i64 0, .int .i64 0, .int .i64 0, .bool false, .int .i64 0], none, []⟩,
  ⟨none, .store (.t 12) 17 (.t 26), none, [12]⟩] [2, 4, 8, 11, 12]
theorem r3_2 : type_of% (@rr _ _ c3_2.eq_1) := rr c3_2.eq_1
def c3_3 : ACode := .ops [⟨some 27, .load 17 true (.t 12), none, [12]⟩,
  ⟨some 28, .call 8 [.t 27], none, []⟩,
  ⟨some 29, .mv (.t 2), none, []⟩,
  ⟨some 30, .call 7 [.t 28, .t 29], none, []⟩,
  ⟨some 13, .alloc [.int .i64 0, .int .i64 0, .int .i64 0, .int .i64 0, .int .i64 0, .int .i64 0, .int .i64 0, .int .i64 0, .int .i64 0, .int .i64 0], none, []⟩,
  ⟨none, .store (.t 13) 10 (.t 30), none, [13]⟩] [4, 8, 11, 12, 13]
theorem r3_3 : type_of% (@rr _ _ c3_3.eq_1) := rr c3_3.eq_1
def c3_4 : ACode := .ops [⟨some 31, .mv (.t 4), none, []⟩] [8, 11, 12, 13, 31]
theorem r3_4 : type_of% (@rr _ _ c3_4.eq_1) := rr c3_4.eq_1
def c3_5 : ACode := .ops [⟨some 32, .load 6 true (.t 11), none, [11]⟩,
  ⟨some 33, .load 17 true (.t 12), none, [12]⟩,
  ⟨some 34, .load 10 true (.t 8), none, [8]⟩,
  ⟨some 35, .call 9 [.t 32, .t 33, .t 34], none, []⟩,
  ⟨some 36, .load 6 true (.t 11), none, [11]⟩,
  ⟨some 37, .load 17 true (.t 12), none, [12]⟩,
  ⟨some 38, .load 10 true (.t 8), none, [8]⟩,
  ⟨some 39, .call 10 [.t 36, .t 37, .t 38], none, []⟩,
  ⟨some 40, .eqb false (.t 35) (.t 39), none, []⟩,
  ⟨some 41, .mv (.t 40), none, []⟩,
  ⟨some 42, .call 11 [], some (41, true), []⟩,
  ⟨some 43, .pick (.t 41) (.t 42) (.c (.bool false)), none, []⟩,
  ⟨some 10, .mv (.t 43), none, []⟩] [10]
theorem r3_5 : type_of% (@rr _ _ c3_5.eq_1) := rr c3_5.eq_1
def c3_6 : ACode := .seq c3_5 .ret
theorem r3_6 : type_of% (@rr _ _ c3_6.eq_1) := rr c3_6.eq_1
def c3_7 : ACode := .cond (.t 31) c3_6 .skip
theorem r3_7 : type_of% (@rr _ _ c3_7.eq_1) := rr c3_7.eq_1
def c3_8 : ACode := .seq c3_4 c3_7
theorem r3_8 : type_of% (@rr _ _ c3_8.eq_1) := rr c3_8.eq_1
def c3_9 : ACode := .ops [⟨some 45, .load 6 true (.t 11), none, [11]⟩,
  ⟨some 46, .load 17 true (.t 12), none, [12]⟩,
  ⟨some 47, .load 10 true (.t 13), none, [13]⟩,
  ⟨some 48, .call 12 [.t 45, .t 46, .t 47], none, []⟩,
  ⟨some 44, .mv (.t 48), none, []⟩,
  ⟨some 49, .ext (.t 44) 0, none, []⟩,
  ⟨some 50, .ext (.t 44) 1, none, []⟩,
  ⟨some 51, .ext (.t 44) 2, none, []⟩,
  ⟨some 14, .mv (.t 49), none, []⟩,
  ⟨some 15, .mv (.t 50), none, []⟩,
  ⟨some 16, .mv (.t 51), none, []⟩] [11, 12, 13, 14, 15, 16]
theorem r3_9 : type_of% (@rr _ _ c3_9.eq_1) := rr c3_9.eq_1
def c3_10 : ACode := .ops [⟨some 53, .load 6 true (.t 11), none, [11]⟩,
  ⟨some 54, .load 17 true (.t 12), none, [12]⟩,
  ⟨some 55, .load 10 true (.t 13), none, [13]⟩,
  ⟨some 56, .call 13 [.t 53, .t 54, .t 55], none, []⟩,
  ⟨some 52, .mv (.t 56), none, []⟩,
  ⟨some 57, .ext (.t 52) 0, none, []⟩,
  ⟨some 58, .ext (.t 52) 1, none, []⟩,
  ⟨some 59, .ext (.t 52) 2, none, []⟩,
  ⟨some 17, .mv (.t 57), none, []⟩,
  ⟨some 18, .mv (.t 58), none, []⟩,
  ⟨some 19, .mv (.t 59), none, []⟩] [11, 12, 13, 14, 15, 16, 17, 18, 19]
theorem r3_10 : type_of% (@rr _ _ c3_10.eq_1) := rr c3_10.eq_1
def c3_11 : ACode := .ops [⟨some 61, .load 10 true (.t 13), none, [13]⟩,
  ⟨some 62, .call 14 [.t 61], none, []⟩,
  ⟨some 60, .mv (.t 62), none, []⟩,
  ⟨some 63, .ext (.t 60) 0, none, []⟩,
  ⟨some 64, .ext (.t 60) 1, none, []⟩,
  ⟨some 20, .alloc [.int .i64 0, .int .i64 0, .int .i64 0, .int .i64 0], none, []⟩,
  ⟨none, .store (.t 20) 4 (.t 63), none, [20]⟩,
  ⟨some 21, .mv (.t 64), none, []⟩] [11, 12, 13, 14, 15, 16, 17, 18, 19, 20, 21]
theorem r3_11 : type_of% (@rr _ _ c3_11.eq_1) := rr c3_11.eq_1
def c3_12 : ACode := .ops [⟨some 65, .load 6 true (.t 11), none, [11]⟩,
  ⟨some 66, .load 17 true (.t 12), none, [12]⟩,
  ⟨some 67, .load 10 true (.t 13), none, [13]⟩,
  ⟨some 68, .call 9 [.t 65, .t 66, .t 67], none, []⟩,
  ⟨some 69, .load 6 true (.t 11), none, [11]⟩,
  ⟨some 70, .load 17 true (.t 12), none, [12]⟩,
  ⟨some 71, .load 10 true (.t 13), none, [13]⟩,
  ⟨some 72, .call 10 [.t 69, .t 70, .t 71], none, []⟩,
  ⟨some 73, .eqb false (.t 68) (.t 72), none, []⟩,
  ⟨some 74, .mv (.t 73), none, []⟩,
  ⟨some 75, .mv (.t 14), some (74, true), []⟩,
  ⟨some 76, .mv (.t 17), some (74, true), []⟩,
  ⟨some 77, .bin .eql (.t 75) (.t 76), some (74, true), []⟩,
  ⟨some 78, .pick (.t 74) (.t 77) (.c (.bool false)), none, []⟩,
  ⟨some 79, .mv (.t 78), none, []⟩,
  ⟨some 80, .mv (.t 15), some (79, true), []⟩,
  ⟨some 81, .mv (.t 18), some (79, true), []⟩,
  ⟨some 82, .bin .eql (.t 80) (.t 81), some (79, true), []⟩,
  ⟨some 83, .pick (.t 79) (.t 82) (.c (.bool false)), none, []⟩,
  ⟨some 84, .mv (.t 83), none, []⟩,
  ⟨some 85, .mv (.t 16), some (84, true), []⟩,
  ⟨some 86, .mv (.t 19), some (84, true), []⟩,
  ⟨some 87, .eqb false (.t 85) (.t 86), some (84, true), []⟩,
  ⟨some 88, .pick (.t 84) (.t 87) (.c (.bool false)), none, []⟩,
  ⟨some 89, .mv (.t 88), none, []⟩,
  ⟨some 90, .load 4 true (.t 20), some (89, true), [20]⟩,
  ⟨some 91, .load 10 true (.t 13), some (89, true), [13]⟩,
  ⟨some 92, .call 15 [.t 91], some (89, true), []⟩,
  ⟨some 93, .eqa false [false, false, false, false] (.t 90) (.t 92), some (89, true), []⟩,
  ⟨some 94, .pick (.t 89) (.t 93) (.c (.bool false)), none, []⟩,
  ⟨some 95, .mv (.t 94), none, []⟩,
  ⟨some 96, .mv (.t 21), some (95, true), []⟩,
  ⟨some 97, .iad (.t 13) (.c (.int .i64 4)) 2 5, some (95, true), [13]⟩,
  ⟨some 98, .fad (.t 97) 1, some (95, true), [13]⟩,
  ⟨some 99, .load 1 false (.t 98), some (95, true), [13]⟩,
  ⟨some 100, .bin .eql (.t 96) (.t 99), some (95, true), []⟩,
  ⟨some 101, .pick (.t 95) (.t 100) (.c (.bool false)), none, []⟩,
  ⟨some 102, .mv (.t 101), none, []⟩,
  ⟨some 103, .call 11 [], some (102, true), []⟩,
  ⟨some 104, .pick (.t 102) (.t 103) (.c (.bool false)), none, []⟩,
  ⟨some 10, .mv (.t 104), none, []⟩] [10]
theorem r3_12 : type_of% (@rr _ _ c3_12.eq_1) := rr c3_12.eq_1
def c3_13 : ACode := .seq c3_12 .ret
theorem r3_13 : type_of% (@rr _ _ c3_13.eq_1) := rr c3_13.eq_1
def c3_14 : ACode := .seq c3_11 c3_13
theorem r3_14 : type_of% (@rr _ _ c3_14.eq_1) := rr c3_14.eq_1
def c3_15 : ACode := .seq c3_10 c3_14
theorem r3_15 : type_of% (@rr _ _ c3_15.eq_1) := rr c3_15.eq_1
def c3_16 : ACode := .seq c3_9 c3_15
theorem r3_16 : type_of% (@rr _ _ c3_16.eq_1) := rr c3_16.eq_1
def c3_17 : ACode := .seq c3_8 c3_16
theorem r3_17 : type_of% (@rr _ _ c3_17.eq_1) := rr c3_17.eq_1
def c3_18 : ACode := .seq c3_3 c3_17
theorem r3_18 : type_of% (@rr _ _ c3_18.eq_1) := rr c3_18.eq_1
def c3_19 : ACode := .seq c3_2 c3_18
theorem r3_19 : type_of% (@rr _ _ c3_19.eq_1) := rr c3_19.eq_1
def c3_20 : ACode := .seq c3_1 c3_19
theorem r3_20 : type_of% (@rr _ _ c3_20.eq_1) := rr c3_20.eq_1
def c3_21 : ACode := .seq c3_0 c3_20
theorem r3_21 : type_of% (@rr _ _ c3_21.eq_1) := rr c3_21.eq_1
def a3 : AFun := ⟨5, 105, c3_21, [.t 10]⟩
attribute [simp] r3_0 r3_1 r3_2 r3_3 r3_4 r3_5 r3_6 r3_7 r3_8 r3_9 r3_10 r3_11 r3_12 r3_13 r3_14 r3_15 r3_16 r3_17 r3_18 r3_19 r3_20 r3_21
theorem m3 : mFun Tryz.prog Tryz.f3 a3 = true := by decide +kernel
def c11_0 : ACode := .ops [⟨some 0, .mv (.c (.bool false)), none, []⟩] []
def c11_1 : ACode := .ops [⟨some 11, .call 35 [], none, []⟩,
  ⟨some 1, .alloc [.int .i64 0, .int .i64 0, .int .i64 0, .int .i64 0, .int .i64 0, .nils], none, []⟩,
  ⟨none, .store (.t 1) 6 (.t 11), none, [1]⟩] [1]
def c11_2 : ACode := .ops [⟨some 12, .build [.int .i64 0, .int .i64 0] [(0, 1, .c (.int .i64 0)), (1, 1, .c (.int .i64 9))], none, []⟩,
  ⟨some 13, .build [.int .i64 0, .int .i64 0, .int .i64 0, .int .i64 0, .int .i64 0, .int .i64 0, .int .i64 0, .int .i64 0, .int .i64 0, .int .i64 0] [(0, 2, .t 12)], none, []⟩,
  ⟨some 14, .build [.int .i64 0, .int .i64 0, .int .i64 0, .int .i64 0, .int .i64 0, .int .i64 0, .int .i64 0, .int .i64 0, .int .i64 0, .int .i64 0, .int .i64 0, .int .i64 0, .int .i64 0, .int .i64 0, .int .i64 0, .bool false, .int .i64 0] [(0, 1, .c (.int .i64 3)), (2, 10, .t 13)], none, []⟩,
  ⟨some 2, .alloc [.int .i64 0, .int .i64 0, .int .i64 0, .int .i64 0, .int .i64 0, .int .i64 0, .int .i64 0, .int .i64 0, .int .i64 0, .int .i64 0, .int .i64 0, .int .i64 0, .int .i64 0, .int .i64 0, .int .i64 0, .bool false, .int .i64 0], none, []⟩,
  ⟨none, .store (.t 2) 17 (.t 14), none, [2]⟩] [1, 2]
def c11_3 : ACode := .ops [⟨some 15, .load 17 true (.t 2), none, [2]⟩,
  ⟨some 16, .call 8 [.t 15], none, []⟩,
  ⟨some 3, .alloc [.int .i64 0, .int .i64 0, .int .i64 0, .int .i64 0, .int .i64 0, .int .i64 0, .int .i64 0, .int .i64 0, .int .i64 0, .int .i64 0], none, []⟩,
  ⟨none, .store (.t 3) 10 (.t 16), none, [3]⟩] [1, 2, 3]
def c11_4 : ACode := .ops [⟨some 18, .load 6 true (.t 1), none, [1]⟩,
  ⟨some 19, .load 17 true (.t 2), none, [2]⟩,
  ⟨some 20, .load 10 true (.t 3), none, [3]⟩,
  ⟨some 21, .call 12 [.t 18, .t 19, .t 20], none, []⟩,
  ⟨some 17, .mv (.t 21), none, []⟩,
  ⟨some 22, .ext (.t 17) 0, none, []⟩,
  ⟨some 23, .ext (.t 17) 1, none, []⟩,
  ⟨some 24, .ext (.t 17) 2, none, []⟩,
  ⟨some 4, .mv (.t 22), none, []⟩,
  ⟨some 5, .mv (.t 23), none, []⟩,
  ⟨some 6, .mv (.t 24), none, []⟩] [1, 2, 3, 4, 5, 6]
def c11_5 : ACode := .ops [⟨some 25, .load 10 true (.t 3), none, [3]⟩,
  ⟨some 7, .alloc [.int .i64 0, .int .i64 0, .int .i64 0, .int .i64 0, .int .i64 0, .int .i64 0, .int .i64 0, .int .i64 0, .int .i64 0, .int .i64 0], none, []⟩,
  ⟨none, .store (.t 7) 10 (.t 25), none, [7]⟩] [1, 2, 3, 4, 5, 6, 7]
def c11_6 : ACode := .ops [⟨some 26, .iad (.t 7) (.c (.int .i64 0)) 2 5, none, [7]⟩,
  ⟨some 27, .fad (.t 26) 1, none, [7]⟩,
  ⟨none, .store (.t 27) 1 (.c (.int .i64 5)), none, [7]⟩] [1, 2, 3, 4, 5, 6, 7]
def c11_7 : ACode := .ops [⟨some 28, .load 6 true (.t 1), none, [1]⟩,
  ⟨some 29, .load 17 true (.t 2), none, [2]⟩,
  ⟨some 30, .load 10 true (.t 7), none, [7]⟩,
  ⟨some 31, .call 9 [.t 28, .t 29, .t 30], none, []⟩,
  ⟨some 8, .mv (.t 31), none, []⟩] [1, 2, 3, 4, 5, 6, 7, 8]
def c11_8 : ACode := .ops [⟨some 32, .fad (.t 2) 15, none, [2]⟩,
  ⟨none, .store (.t 32) 1 (.c (.bool true)), none, [2]⟩] [1, 2, 3, 4, 5, 6, 7, 8]
def c11_9 : ACode := .ops [⟨some 34, .load 10 true (.t 7), none, [7]⟩,
  ⟨some 35, .call 14 [.t 34], none, []⟩,
  ⟨some 33, .mv (.t 35), none, []⟩,
  ⟨some 36, .ext (.t 33) 0, none, []⟩,
  ⟨some 37, .ext (.t 33) 1, none, []⟩,
  ⟨some 9, .alloc [.int .i64 0, .int .i64 0, .int .i64 0, .int .i64 0], none, []⟩,
  ⟨none, .store (.t 9) 4 (.t 36), none, [9]⟩,
  ⟨some 10, .mv (.t 37), none, []⟩] [1, 2, 3, 4, 5, 6, 7, 8, 9, 10]
def c11_10 : ACode := .ops [⟨some 38, .load 6 true (.t 1), none, [1]⟩,
  ⟨some 39, .fad (.t 2) 2, none, [2]⟩,
  ⟨some 40, .load 10 true (.t 39), none, [2]⟩,
  ⟨some 41, .build [.int .i64 0, .int .i64 0, .int .i64 0, .int .i64 0, .int .i64 0, .int .i64 0, .int .i64 0, .int .i64 0, .int .i64 0, .int .i64 0, .int .i64 0, .int .i64 0, .int .i64 0, .int .i64 0, .int .i64 0, .bool false, .int .i64 0] [(0, 1, .c (.int .i64 3)), (2, 10, .t 40)], none, []⟩,
  ⟨some 42, .load 10 true (.t 3), none, [3]⟩,
  ⟨some 43, .call 9 [.t 38, .t 41, .t 42], none, []⟩,
  ⟨some 44, .un .not (.t 43), none, []⟩,
  ⟨some 45, .mv (.t 44), none, []⟩,
  ⟨some 46, .mv (.t 4), some (45, true), []⟩,
  ⟨some 47, .bin .eql (.t 46) (.c (.int .i64 0)), some (45, true), []⟩,
  ⟨some 48, .pick (.t 45) (.t 47) (.c (.bool false)), none, []⟩,
  ⟨some 49, .mv (.t 48), none, []⟩,
  ⟨some 50, .mv (.t 5), some (49, true), []⟩,
  ⟨some 51, .bin .eql (.t 50) (.c (.int .i64 5)), some (49, true), []⟩,
  ⟨some 52, .pick (.t 49) (.t 51) (.c (.bool false)), none, []⟩,
  ⟨some 53, .mv (.t 52), none, []⟩,
  ⟨some 54, .mv (.t 6), some (53, true), []⟩,
  ⟨some 55, .pick (.t 53) (.t 54) (.c (.bool false)), none, []⟩,
  ⟨some 56, .mv (.t 55), none, []⟩,
  ⟨some 57, .mv (.t 8), some (56, true), []⟩,
  ⟨some 58, .pick (.t 56) (.t 57) (.c (.bool false)), none, []⟩,
  ⟨some 59, .mv (.t 58), none, []⟩,
  ⟨some 60, .load 6 true (.t 1), some (59, true), [1]⟩,
  ⟨some 61, .load 17 true (.t 2), some (59, true), [2]⟩,
  ⟨some 62, .load 10 true (.t 7), some (59, true), [7]⟩,
  ⟨some 63, .call 9 [.t 60, .t 61, .t 62], some (59, true), []⟩,
  ⟨some 64, .un .not (.t 63), some (59, true), []⟩,
  ⟨some 65, .pick (.t 59) (.t 64) (.c (.bool false)), none, []⟩,
  ⟨some 66, .mv (.t 65), none, []⟩,
  ⟨some 67, .load 6 true (.t 1), some (66, true), [1]⟩,
  ⟨some 68, .load 17 true (.t 2), some (66, true), [2]⟩,
  ⟨some 69, .load 4 true (.t 9), some (66, true), [9]⟩,
  ⟨some 70, .mv (.t 10), some (66, true), []⟩,
  ⟨some 71, .call 36 [.t 67, .t 68, .t 69, .t 70], some (66, true), []⟩,
  ⟨some 72, .pick (.t 66) (.t 71) (.c (.bool false)), none, []⟩,
  ⟨some 0, .mv (.t 72), none, []⟩] [0]
def c11_11 : ACode := .seq c11_10 .ret
def c11_12 : ACode := .seq c11_9 c11_11
def c11_13 : ACode := .seq c11_8 c11_12
def c11_14 : ACode := .seq c11_7 c11_13
def c11_15 : ACode := .seq c11_6 c11_14
def c11_16 : ACode := .seq c11_5 c11_15
def c11_17 : ACode := .seq c11_4 c11_16
def c11_18 : ACode := .seq c11_3 c11_17
def c11_19 : ACode := .seq c11_2 c11_18
def c11_20 : ACode := .seq c11_1 c11_19
def c11_21 : ACode := .seq c11_0 c11_20
def a11 : AFun := ⟨0, 73, c11_21, [.t 0]⟩
theorem m11 : mFun Tryz.prog Tryz.f11 a11 = true := by decide +kernel
def c35_0 : ACode := .ops [⟨some 0, .alloc [.int .i64 0, .int .i64 0, .int .i64 0, .int .i64 0, .int .i64 0, .nils], none, []⟩] [0]
def c35_1 : ACode := .ops [⟨some 2, .build [.bool false, .int .i64 0, .int .i64 0, .int .i64 0, .int .i64 0, .int .i64 0] [(3, 1, .c (.int .i64 5)), (4, 1, .c (.int .i64 1)), (5, 1, .c (.int .i64 2))], none, []⟩,
  ⟨some 3, .call 51 [.t 2], none, []⟩,
  ⟨some 4, .build [.bool false, .int .i64 0, .int .i64 0, .int .i64 0, .int .i64 0, .int .i64 0] [(0, 1, .c (.bool true)), (1, 1, .c (.int .i64 10))], none, []⟩,
  ⟨some 5, .call 51 [.t 4], none, []⟩,
  ⟨some 6, .build [.bool false, .int .i64 0, .int .i64 0, .int .i64 0, .int .i64 0, .int .i64 0] [(0, 1, .c (.bool true)), (1, 1, .c (.int .i64 20))], none, []⟩,
  ⟨some 7, .call 51 [.t 6], none, []⟩,
  ⟨some 8, .mkrow 1 3 1 [.int .u64 0] [(0, 1, .t 3), (1, 1, .t 5), (2, 1, .t 7)], none, []⟩,
  ⟨some 1, .mv (.t 8), none, []⟩] [0, 1]
def c35_2 : ACode := .ops [⟨some 9, .build [.int .i64 0, .int .i64 0, .int .i64 0] [(0, 1, .c (.int .i64 3))], none, []⟩,
  ⟨some 10, .mv (.t 1), none, []⟩,
  ⟨some 11, .build [.int .i64 0, .nils] [(1, 1, .t 10)], none, []⟩,
  ⟨some 12, .mkrow 12 1 2 [.int .i64 0, .nils] [(0, 2, .t 11)], none, []⟩,
  ⟨some 13, .build [.int .i64 0, .int .i64 0, .int .i64 0, .int .i64 0, .int .i64 0, .nils] [(0, 1, .c (.int .i64 1)), (1, 1, .c (.int .i64 1)), (2, 3, .t 9), (5, 1, .t 12)], none, []⟩,
  ⟨none, .store (.t 0) 6 (.t 13), none, [0]⟩] [0]
def c35_3 : ACode := .seq c35_2 .ret
def c35_4 : ACode := .seq c35_1 c35_3
def c35_5 : ACode := .seq c35_0 c35_4
def a35 : AFun := ⟨0, 14, c35_5, [.cell 0 6 true]⟩
theorem m35 : mFun Tryz.prog Tryz.f35 a35 = true := by decide +kernel
def texts11 : List (Nat × AFun) := [(8, a8), (9, a9), (11, a11), (12, a12), (14, a14), (24, a24), (25, a25), (26, a26), (27, a27), (28, a28), (29, a29), (30, a30), (35, a35), (36, a36), (37, a37), (39, a39), (43, a43), (46, a46), (51, a51), (52, a52), (53, a53), (54, a54), (55, a55), (56, a56), (57, a57), (58, a58), (60, a60), (62, a62), (63, a63), (64, a64), (65, a65), (66, a66), (67, a67), (69, a69), (71, a71), (72, a72), (73, a73), (74, a74), (76, a76), (80, a80), (81, a81), (84, a84), (85, a85), (89, a89), (90, a90), (91, a91), (92, a92), (96, a96), (97, a97), (98, a98), (101, a101), (102, a102), (103, a103), (104, a104), (105, a105), (107, a107), (108, a108), (109, a109), (121, a121)]
theorem texts11_good : Go.Am.Good Tryz.prog texts11 :=
  good_cons Tryz.func8 m8 <| good_cons Tryz.func9 m9 <| good_cons Tryz.func11 m11 <| good_cons Tryz.func12 m12 <| good_cons Tryz.func14 m14 <| good_cons Tryz.func24 m24 <| good_cons Tryz.func25 m25 <| good_cons Tryz.func26 m26 <| good_cons Tryz.func27 m27 <| good_cons Tryz.func28 m28 <| good_cons Tryz.func29 m29 <| good_cons Tryz.func30 m30 <| good_cons Tryz.func35 m35 <| good_cons Tryz.func36 m36 <| good_cons Tryz.func37 m37 <| good_cons Tryz.func39 m39 <| good_cons Tryz.func43 m43 <| good_cons Tryz.func46 m46 <| good_cons Tryz.func51 m51 <| good_cons Tryz.func52 m52 <| good_cons Tryz.func53 m53 <| good_cons Tryz.func54 m54 <| good_cons Tryz.func55 m55 <| good_cons Tryz.func56 m56 <| good_cons Tryz.func57 m57 <| good_cons Tryz.func58 m58 <| good_cons Tryz.func60 m60 <| good_cons Tryz.func62 m62 <| good_cons Tryz.func63 m63 <| good_cons Tryz.func64 m64 <| good_cons Tryz.func65 m65 <| good_cons Tryz.func66 m66 <| good_cons Tryz.func67 m67 <| good_cons Tryz.func69 m69 <| good_cons Tryz.func71 m71 <| good_cons Tryz.func72 m72 <| good_cons Tryz.func73 m73 <| good_cons Tryz.func74 m74 <| good_cons Tryz.func76 m76 <| good_cons Tryz.func80 m80 <| good_cons Tryz.func81 m81 <| good_cons Tryz.func84 m84 <| good_cons Tryz.func85 m85 <| good_cons Tryz.func89 m89 <| good_cons Tryz.func90 m90 <| good_cons Tryz.func91 m91 <| good_cons Tryz.func92 m92 <| good_cons Tryz.func96 m96 <| good_cons Tryz.func97 m97 <| good_cons Tryz.func98 m98 <| good_cons Tryz.func101 m101 <| good_cons Tryz.func102 m102 <| good_cons Tryz.func103 m103 <| good_cons Tryz.func104 m104 <| good_cons Tryz.func105 m105 <| good_cons Tryz.func107 m107 <| good_cons Tryz.func108 m108 <| good_cons Tryz.func109 m109 <| good_cons Tryz.func121 m121 <| good_nil
theorem c_closed11 : Contract Tryz.prog 11 (sp0 (some true)) := contract_closedG mixed texts11_good lib (NW := fun f => if f = 66 then some 5 else if f = 75 then some 10001 else none) (m := 2000) (n := 80) (by decide +kernel)
set_option maxHeartbeats 4000000 in
set_option maxRecDepth 100000 in
theorem runs_law (f : Forest) (a : Ask) (spans : List Int) (raw : Box) (any : Bool) (c : Bool) (h : Part (okB raw) true = some c) : Runs (tbl [(5, sp1 ModelC), (6, sp2 QueryC), (8, sp1 fun q => some (startOf q)), (7, sp2 PartC), (9, sp3 ClosedC), (10, sp3 ClosedC), (12, sp3 SplitC), (13, sp3 SplitC), (14, sp1 fun b => some (lowB b, b.s4.hi)), (15, sp1 fun b => some (lowB b)), (11, sp0 (some true))]) a3 [Arg.enc f, Arg.enc a, Arg.enc spans, Arg.enc raw, Arg.enc any] (Arg.enc c) := by
  obtain ⟨hraw, rfl⟩ := part_some h
  clear h
  refine ⟨rfl, fun g => run_def ?_⟩
  unfold a3
  have hm := rm_modelOf f
  have hM : ModelC f = some (modelOf f) := rfl
  generalize modelOf f = m at *
  have hQ : QueryC a m = some (queryOf m a) := part_of ⟨hm.dim.1, hm.dim.2, hm.classes.1, hm.classes.2⟩ _
  obtain ⟨hsm0, hok0, hne0⟩ := start_facts m a
  have hqok := ok_queryOf m a hm
  generalize queryOf m a = q at *
  have hP : PartC (startOf q) spans = some (partTo (startOf q) spans 5) := part_of ⟨hsm0, hne0⟩ _
  have hpo := partTo_ok hne0 spans (Nat.le_refl 5)
  have hsm := hpo.small hsm0
  have hne := hpo.some
  have hok := small_ok hsm hne
  clear hpo hsm0 hok0 hne0
  generalize partTo (startOf q) spans 5 = b at *
  have hCl : ∀ w, okB w → ClosedC m q w = some (closedM m q w) := fun w hw => part_of ⟨hm, hw⟩ _
  have hB := hCl b hok
  have hR := hCl raw hraw
  have hSp : SplitC m q b = some (splitM m q b) := part_of hm _
  generalize splitM m q b = sp at *
  obtain ⟨s1, s2, s3⟩ := sp
  generalize closedM m q b = c1 at *
  generalize closedM m q raw = c2 at *
  cases any
  · cases c1 <;> cases s3 <;> simp -implicitDefEqProofs [hM, hQ, hP, hB, hSp]
  · cases c2 <;> simp -implicitDefEqProofs [hM, hQ, hP, hR]
noncomputable def law_sp : List AV → Option AV := sp5 fun (_ : Forest) (_ : Ask) (_ : List Int) (b : Box) (_ : Bool) => Part (okB b) true
theorem law_holds : Contract Tryz.prog 3 law_sp :=
  contract_of_runs mixed (tbl_cons c_Model (tbl_cons c_Query (tbl_cons c_Start (tbl_cons c_part (tbl_cons c_Closed (tbl_cons c_rClosed (tbl_cons c_Split (tbl_cons c_rSplit (tbl_cons c_gCorner (tbl_cons c_rLow (tbl_cons c_closed11 tbl_nil))))))))))) Tryz.func3 m3 (sp5_runs runs_law)
/- GOOD 3 -/
theorem law_says (f : Forest) (a : Ask) (l : List Int) (b : Box) (y : Bool) (h : Sh.good b) : law_sp [Arg.enc f, Arg.enc a, Arg.enc l, Arg.enc b, Arg.enc y] = some (.bool true) := by
  obtain ⟨h0, h1, h2, h3, h4, h5, h6, h7, h8, h9⟩ := h
  have hb : okB b := ⟨⟨h0, h1⟩, ⟨h2, h3⟩, ⟨h4, h5⟩, ⟨h6, h7⟩, h8, h9⟩
  simp only [law_sp, sp5, Arg.dec_enc, Option.bind_some, part_of hb]
  rfl
end Go.Co
