/- The code of the functions that this claim reaches, as AM reads it (written by a program of ours). -/
import Derived.Test.YtbjnmbbhlaghaaaAmDefs
namespace Go.Am
/- copse/copselaw18.GoalRuns -/
def c42_0 : ACode := .ops [⟨some 0, .mv (.c (.bool false)), none, []⟩] []
def c42_1 : ACode := .ops [⟨some 11, .call 43 [], none, []⟩,
  ⟨some 1, .alloc [.int .i64 0, .int .i64 0, .int .i64 0, .int .i64 0, .int .i64 0, .nils], none, []⟩,
  ⟨none, .store (.t 1) 6 (.t 11), none, [1]⟩] [1]
def c42_2 : ACode := .ops [⟨some 12, .build [.int .i64 0, .int .i64 0] [(0, 1, .c (.int .i64 0)), (1, 1, .c (.int .i64 9))], none, []⟩,
  ⟨some 13, .build [.int .i64 0, .int .i64 0, .int .i64 0, .int .i64 0, .int .i64 0, .int .i64 0, .int .i64 0, .int .i64 0, .int .i64 0, .int .i64 0] [(0, 2, .t 12)], none, []⟩,
  ⟨some 14, .build [.int .i64 0, .int .i64 0, .int .i64 0, .int .i64 0, .int .i64 0, .int .i64 0, .int .i64 0, .int .i64 0, .int .i64 0, .int .i64 0, .int .i64 0, .int .i64 0, .int .i64 0, .int .i64 0, .int .i64 0, .bool false, .int .i64 0] [(0, 1, .c (.int .i64 3)), (2, 10, .t 13)], none, []⟩,
  ⟨some 2, .alloc [.int .i64 0, .int .i64 0, .int .i64 0, .int .i64 0, .int .i64 0, .int .i64 0, .int .i64 0, .int .i64 0, .int .i64 0, .int .i64 0, .int .i64 0, .int .i64 0, .int .i64 0, .int .i64 0, .int .i64 0, .bool false, .int .i64 0], none, []⟩,
  ⟨none, .store (.t 2) 17 (.t 14), none, [2]⟩] [1, 2]
def c42_3 : ACode := .ops [⟨some 15, .load 17 true (.t 2), none, [2]⟩,
  ⟨some 16, .call 58 [.t 15], none, []⟩,
  ⟨some 3, .alloc [.int .i64 0, .int .i64 0, .int .i64 0, .int .i64 0, .int .i64 0, .int .i64 0, .int .i64 0, .int .i64 0, .int .i64 0, .int .i64 0], none, []⟩,
  ⟨none, .store (.t 3) 10 (.t 16), none, [3]⟩] [1, 2, 3]
def c42_4 : ACode := .ops [⟨some 18, .load 6 true (.t 1), none, [1]⟩,
  ⟨some 19, .load 17 true (.t 2), none, [2]⟩,
  ⟨some 20, .load 10 true (.t 3), none, [3]⟩,
  ⟨some 21, .call 108 [.t 18, .t 19, .t 20], none, []⟩,
  ⟨some 17, .mv (.t 21), none, []⟩,
  ⟨some 22, .ext (.t 17) 0, none, []⟩,
  ⟨some 23, .ext (.t 17) 1, none, []⟩,
  ⟨some 24, .ext (.t 17) 2, none, []⟩,
  ⟨some 4, .mv (.t 22), none, []⟩,
  ⟨some 5, .mv (.t 23), none, []⟩,
  ⟨some 6, .mv (.t 24), none, []⟩] [1, 2, 3, 4, 5, 6]
def c42_5 : ACode := .ops [⟨some 25, .load 10 true (.t 3), none, [3]⟩,
  ⟨some 7, .alloc [.int .i64 0, .int .i64 0, .int .i64 0, .int .i64 0, .int .i64 0, .int .i64 0, .int .i64 0, .int .i64 0, .int .i64 0, .int .i64 0], none, []⟩,
  ⟨none, .store (.t 7) 10 (.t 25), none, [7]⟩] [1, 2, 3, 4, 5, 6, 7]
def c42_6 : ACode := .ops [⟨some 26, .iad (.t 7) (.c (.int .i64 0)) 2 5, none, [7]⟩,
  ⟨some 27, .fad (.t 26) 1, none, [7]⟩,
  ⟨none, .store (.t 27) 1 (.c (.int .i64 5)), none, [7]⟩] [1, 2, 3, 4, 5, 6, 7]
def c42_7 : ACode := .ops [⟨some 28, .load 6 true (.t 1), none, [1]⟩,
  ⟨some 29, .load 17 true (.t 2), none, [2]⟩,
  ⟨some 30, .load 10 true (.t 7), none, [7]⟩,
  ⟨some 31, .call 109 [.t 28, .t 29, .t 30], none, []⟩,
  ⟨some 8, .mv (.t 31), none, []⟩] [1, 2, 3, 4, 5, 6, 7, 8]
def c42_8 : ACode := .ops [⟨some 32, .fad (.t 2) 15, none, [2]⟩,
  ⟨none, .store (.t 32) 1 (.c (.bool true)), none, [2]⟩] [1, 2, 3, 4, 5, 6, 7, 8]
def c42_9 : ACode := .ops [⟨some 34, .load 10 true (.t 7), none, [7]⟩,
  ⟨some 35, .call 110 [.t 34], none, []⟩,
  ⟨some 33, .mv (.t 35), none, []⟩,
  ⟨some 36, .ext (.t 33) 0, none, []⟩,
  ⟨some 37, .ext (.t 33) 1, none, []⟩,
  ⟨some 9, .alloc [.int .i64 0, .int .i64 0, .int .i64 0, .int .i64 0], none, []⟩,
  ⟨none, .store (.t 9) 4 (.t 36), none, [9]⟩,
  ⟨some 10, .mv (.t 37), none, []⟩] [1, 2, 3, 4, 5, 6, 7, 8, 9, 10]
def c42_10 : ACode := .ops [⟨some 38, .load 6 true (.t 1), none, [1]⟩,
  ⟨some 39, .fad (.t 2) 2, none, [2]⟩,
  ⟨some 40, .load 10 true (.t 39), none, [2]⟩,
  ⟨some 41, .build [.int .i64 0, .int .i64 0, .int .i64 0, .int .i64 0, .int .i64 0, .int .i64 0, .int .i64 0, .int .i64 0, .int .i64 0, .int .i64 0, .int .i64 0, .int .i64 0, .int .i64 0, .int .i64 0, .int .i64 0, .bool false, .int .i64 0] [(0, 1, .c (.int .i64 3)), (2, 10, .t 40)], none, []⟩,
  ⟨some 42, .load 10 true (.t 3), none, [3]⟩,
  ⟨some 43, .call 109 [.t 38, .t 41, .t 42], none, []⟩,
  ⟨some 44, .un .not (.t 43), none, []⟩,
  ⟨some 45, .mv (.t 44), none, []⟩,
  ⟨some 46, .mv (.t 4), some (45, true), []⟩,
  ⟨some 47, .bin .eql (.t 46) (.c (.int .i64 0)), some (45, true), []⟩,
  ⟨some 48, .pick (.t 45) (.t 47) (.c (.bool false)), none, []⟩,
  ⟨some 49, .mv (.t 48), none, []⟩,
  ⟨some 50, .mv (.t 5), some (49, true), []⟩,
  ⟨some 51, .bin .eql (.t 50) (.c (.int .i64 5)), some (49, true), []⟩,
  ⟨some 52, .pick (.t 49) (.t 51) (.c (.bool false)), none, []⟩,
  ⟨some 53, .mv (.t 52), none, []⟩,
  ⟨some 54, .mv (.t 6), some (53, true), []⟩,
  ⟨some 55, .pick (.t 53) (.t 54) (.c (.bool false)), none, []⟩,
  ⟨some 56, .mv (.t 55), none, []⟩,
  ⟨some 57, .mv (.t 8), some (56, true), []⟩,
  ⟨some 58, .pick (.t 56) (.t 57) (.c (.bool false)), none, []⟩,
  ⟨some 59, .mv (.t 58), none, []⟩,
  ⟨some 60, .load 6 true (.t 1), some (59, true), [1]⟩,
  ⟨some 61, .load 17 true (.t 2), some (59, true), [2]⟩,
  ⟨some 62, .load 10 true (.t 7), some (59, true), [7]⟩,
  ⟨some 63, .call 109 [.t 60, .t 61, .t 62], some (59, true), []⟩,
  ⟨some 64, .un .not (.t 63), some (59, true), []⟩,
  ⟨some 65, .pick (.t 59) (.t 64) (.c (.bool false)), none, []⟩,
  ⟨some 66, .mv (.t 65), none, []⟩,
  ⟨some 67, .load 6 true (.t 1), some (66, true), [1]⟩,
  ⟨some 68, .load 17 true (.t 2), some (66, true), [2]⟩,
  ⟨some 69, .load 4 true (.t 9), some (66, true), [9]⟩,
  ⟨some 70, .mv (.t 10), some (66, true), []⟩,
  ⟨some 71, .call 57 [.t 67, .t 68, .t 69, .t 70], some (66, true), []⟩,
  ⟨some 72, .pick (.t 66) (.t 71) (.c (.bool false)), none, []⟩,
  ⟨some 0, .mv (.t 72), none, []⟩] [0]
def c42_11 : ACode := .seq c42_10 .ret
def c42_12 : ACode := .seq c42_9 c42_11
def c42_13 : ACode := .seq c42_8 c42_12
def c42_14 : ACode := .seq c42_7 c42_13
def c42_15 : ACode := .seq c42_6 c42_14
def c42_16 : ACode := .seq c42_5 c42_15
def c42_17 : ACode := .seq c42_4 c42_16
def c42_18 : ACode := .seq c42_3 c42_17
def c42_19 : ACode := .seq c42_2 c42_18
def c42_20 : ACode := .seq c42_1 c42_19
def c42_21 : ACode := .seq c42_0 c42_20
def a42 : AFun := ⟨0, 73, c42_21, [.t 0]⟩

/- copse/copsekeep.Three -/
def c43_0 : ACode := .ops [⟨some 0, .alloc [.int .i64 0, .int .i64 0, .int .i64 0, .int .i64 0, .int .i64 0, .nils], none, []⟩] [0]
def c43_1 : ACode := .ops [⟨some 2, .build [.bool false, .int .i64 0, .int .i64 0, .int .i64 0, .int .i64 0, .int .i64 0] [(3, 1, .c (.int .i64 5)), (4, 1, .c (.int .i64 1)), (5, 1, .c (.int .i64 2))], none, []⟩,
  ⟨some 3, .call 111 [.t 2], none, []⟩,
  ⟨some 4, .build [.bool false, .int .i64 0, .int .i64 0, .int .i64 0, .int .i64 0, .int .i64 0] [(0, 1, .c (.bool true)), (1, 1, .c (.int .i64 10))], none, []⟩,
  ⟨some 5, .call 111 [.t 4], none, []⟩,
  ⟨some 6, .build [.bool false, .int .i64 0, .int .i64 0, .int .i64 0, .int .i64 0, .int .i64 0] [(0, 1, .c (.bool true)), (1, 1, .c (.int .i64 20))], none, []⟩,
  ⟨some 7, .call 111 [.t 6], none, []⟩,
  ⟨some 8, .mkrow 1 3 1 [.int .u64 0] [(0, 1, .t 3), (1, 1, .t 5), (2, 1, .t 7)], none, []⟩,
  ⟨some 1, .mv (.t 8), none, []⟩] [0, 1]
def c43_2 : ACode := .ops [⟨some 9, .build [.int .i64 0, .int .i64 0, .int .i64 0] [(0, 1, .c (.int .i64 3))], none, []⟩,
  ⟨some 10, .mv (.t 1), none, []⟩,
  ⟨some 11, .build [.int .i64 0, .nils] [(1, 1, .t 10)], none, []⟩,
  ⟨some 12, .mkrow 12 1 2 [.int .i64 0, .nils] [(0, 2, .t 11)], none, []⟩,
  ⟨some 13, .build [.int .i64 0, .int .i64 0, .int .i64 0, .int .i64 0, .int .i64 0, .nils] [(0, 1, .c (.int .i64 1)), (1, 1, .c (.int .i64 1)), (2, 3, .t 9), (5, 1, .t 12)], none, []⟩,
  ⟨none, .store (.t 0) 6 (.t 13), none, [0]⟩] [0]
def c43_3 : ACode := .seq c43_2 .ret
def c43_4 : ACode := .seq c43_1 c43_3
def c43_5 : ACode := .seq c43_0 c43_4
def a43 : AFun := ⟨0, 14, c43_5, [.cell 0 6 true]⟩

/- copse/bound.Sum -/
def c44_0 : ACode := .ops [⟨some 3, .box (.t 0) 6, none, []⟩,
  ⟨some 5, .box (.t 2) 10, none, []⟩,
  ⟨some 6, .mv (.c (.int .i64 0)), none, []⟩,
  ⟨some 7, .mv (.c (.int .i64 0)), none, []⟩,
  ⟨some 8, .mv (.c (.bool false)), none, []⟩] [1, 3, 5]
def c44_1 : ACode := .ops [⟨some 16, .load 6 true (.t 3), none, [3]⟩,
  ⟨some 17, .call 71 [.t 16], none, []⟩,
  ⟨some 18, .un .not (.t 17), none, []⟩,
  ⟨some 19, .mv (.t 18), none, []⟩,
  ⟨some 20, .mv (.t 1), some (19, false), []⟩,
  ⟨some 21, .bin .lss (.t 20) (.c (.int .i64 0)), some (19, false), []⟩,
  ⟨some 22, .pick (.t 19) (.c (.bool true)) (.t 21), none, []⟩,
  ⟨some 23, .mv (.t 22), none, []⟩,
  ⟨some 24, .mv (.t 1), some (23, false), []⟩,
  ⟨some 25, .fad (.t 3) 1, some (23, false), [3]⟩,
  ⟨some 26, .load 1 false (.t 25), some (23, false), [3]⟩,
  ⟨some 27, .bin .geq (.t 24) (.t 26), some (23, false), []⟩,
  ⟨some 28, .pick (.t 23) (.c (.bool true)) (.t 27), none, []⟩,
  ⟨some 29, .mv (.t 28), none, []⟩,
  ⟨some 30, .load 10 true (.t 5), some (29, false), [5]⟩,
  ⟨some 31, .call 68 [.t 30], some (29, false), []⟩,
  ⟨some 32, .pick (.t 29) (.c (.bool true)) (.t 31), none, []⟩] [1, 3, 5, 32]
def c44_2 : ACode := .ops [⟨some 6, .mv (.c (.int .i64 0)), none, []⟩,
  ⟨some 7, .mv (.c (.int .i64 0)), none, []⟩,
  ⟨some 8, .mv (.c (.bool false)), none, []⟩] [6, 7, 8]
def c44_3 : ACode := .seq c44_2 .ret
def c44_4 : ACode := .cond (.t 32) c44_3 .skip
def c44_5 : ACode := .seq c44_1 c44_4
def c44_6 : ACode := .ops [⟨some 33, .mv (.t 1), none, []⟩,
  ⟨some 34, .fad (.t 3) 2, none, [3]⟩,
  ⟨some 35, .iad (.t 34) (.t 33) 1 3, none, [3]⟩,
  ⟨some 36, .load 1 false (.t 35), none, [3]⟩,
  ⟨some 37, .mv (.t 1), none, []⟩,
  ⟨some 38, .fad (.t 3) 2, none, [3]⟩,
  ⟨some 39, .iad (.t 38) (.t 37) 1 3, none, [3]⟩,
  ⟨some 40, .load 1 false (.t 39), none, [3]⟩,
  ⟨some 9, .mv (.t 36), none, []⟩,
  ⟨some 10, .mv (.t 40), none, []⟩] [1, 3, 5, 9, 10]
def c44_7 : ACode := .ops [⟨some 41, .fad (.t 3) 5, none, [3]⟩,
  ⟨some 42, .load 1 false (.t 41), none, [3]⟩,
  ⟨some 43, .len (.t 42), none, []⟩,
  ⟨some 44, .mv (.c (.int .i64 0)), none, []⟩] [1, 5, 9, 10, 42, 43, 44]
def c44_8 : ACode := .ops [⟨some 45, .bin .lss (.t 44) (.t 43), none, []⟩] [1, 5, 9, 10, 42, 43, 44, 45]
def c44_9 : ACode := .cond (.t 45) .skip (.exit 0)
def c44_10 : ACode := .ops [⟨some 46, .ias (.t 42) (.t 44) 2, none, []⟩,
  ⟨some 47, .load 2 true (.t 46), none, []⟩,
  ⟨some 12, .alloc [.int .i64 0, .nils], none, []⟩,
  ⟨none, .store (.t 12) 2 (.t 47), none, [12]⟩] [1, 5, 9, 10, 12, 42, 43, 44]
def c44_11 : ACode := .ops [⟨some 48, .fad (.t 12) 0, none, [12]⟩,
  ⟨some 49, .load 1 false (.t 48), none, [12]⟩,
  ⟨some 50, .mv (.t 1), none, []⟩,
  ⟨some 51, .bin .neq (.t 49) (.t 50), none, []⟩] [1, 5, 9, 10, 12, 42, 43, 44, 51]
def c44_12 : ACode := .cond (.t 51) (.exit 1) .skip
def c44_13 : ACode := .seq c44_11 c44_12
def c44_14 : ACode := .ops [⟨some 53, .fad (.t 12) 1, none, [12]⟩,
  ⟨some 54, .load 1 false (.t 53), none, [12]⟩,
  ⟨some 55, .load 10 true (.t 5), none, [5]⟩,
  ⟨some 56, .call 48 [.t 54, .t 55], none, []⟩,
  ⟨some 52, .mv (.t 56), none, []⟩,
  ⟨some 57, .ext (.t 52) 0, none, []⟩,
  ⟨some 58, .ext (.t 52) 1, none, []⟩,
  ⟨some 59, .ext (.t 52) 2, none, []⟩,
  ⟨some 13, .mv (.t 57), none, []⟩,
  ⟨some 14, .mv (.t 58), none, []⟩,
  ⟨some 15, .mv (.t 59), none, []⟩] [1, 5, 9, 10, 13, 14, 42, 43, 44]
def c44_15 : ACode := .ops [⟨some 60, .mv (.t 9), none, []⟩,
  ⟨some 61, .mv (.t 13), none, []⟩,
  ⟨some 62, .bin .add (.t 60) (.t 61), none, []⟩,
  ⟨some 63, .mv (.t 10), none, []⟩,
  ⟨some 64, .mv (.t 14), none, []⟩,
  ⟨some 65, .bin .add (.t 63) (.t 64), none, []⟩,
  ⟨some 9, .mv (.t 62), none, []⟩,
  ⟨some 10, .mv (.t 65), none, []⟩] [1, 5, 9, 10, 42, 43, 44]
def c44_16 : ACode := .seq c44_14 c44_15
def c44_17 : ACode := .seq c44_13 c44_16
def c44_18 : ACode := .seq c44_10 c44_17
def c44_19 : ACode := .block 1 c44_18
def c44_20 : ACode := .ops [⟨some 66, .bin .add (.t 44) (.c (.int .i64 1)), none, []⟩,
  ⟨some 44, .mv (.t 66), none, []⟩] [1, 5, 9, 10, 42, 43, 44]
def c44_21 : ACode := .seq c44_19 c44_20
def c44_22 : ACode := .seq c44_9 c44_21
def c44_23 : ACode := .seq c44_8 c44_22
def c44_24 : ACode := .keep [1, 5, 9, 10, 42, 43, 44] [5] c44_23
def c44_25 : ACode := .loop c44_24
def c44_26 : ACode := .block 0 c44_25
def c44_27 : ACode := .seq c44_7 c44_26
def c44_28 : ACode := .ops [⟨some 67, .mv (.t 9), none, []⟩,
  ⟨some 68, .mv (.t 10), none, []⟩,
  ⟨some 6, .mv (.t 67), none, []⟩,
  ⟨some 7, .mv (.t 68), none, []⟩,
  ⟨some 8, .mv (.c (.bool true)), none, []⟩] [6, 7, 8]
def c44_29 : ACode := .seq c44_28 .ret
def c44_30 : ACode := .seq c44_27 c44_29
def c44_31 : ACode := .seq c44_6 c44_30
def c44_32 : ACode := .seq c44_5 c44_31
def c44_33 : ACode := .seq c44_0 c44_32
def a44 : AFun := ⟨3, 69, c44_33, [.t 6, .t 7, .t 8]⟩

/- copse/bound.Tree -/
def c48_0 : ACode := .ops [⟨some 3, .box (.t 1) 10, none, []⟩,
  ⟨some 4, .mv (.c (.int .i64 0)), none, []⟩,
  ⟨some 5, .mv (.c (.int .i64 0)), none, []⟩,
  ⟨some 6, .mv (.c (.bool false)), none, []⟩] [0, 3]
def c48_1 : ACode := .ops [⟨some 12, .mv (.t 0), none, []⟩,
  ⟨some 13, .load 10 true (.t 3), none, [3]⟩,
  ⟨some 14, .call 51 [.t 12, .t 13], none, []⟩,
  ⟨some 7, .mv (.t 14), none, []⟩] [7]
def c48_2 : ACode := .ops [⟨some 15, .mv (.t 7), none, []⟩,
  ⟨some 16, .len (.t 15), none, []⟩,
  ⟨some 17, .bin .eql (.t 16) (.c (.int .i64 0)), none, []⟩] [7, 17]
def c48_3 : ACode := .ops [⟨some 4, .mv (.c (.int .i64 0)), none, []⟩,
  ⟨some 5, .mv (.c (.int .i64 0)), none, []⟩,
  ⟨some 6, .mv (.c (.bool false)), none, []⟩] [4, 5, 6]
def c48_4 : ACode := .seq c48_3 .ret
def c48_5 : ACode := .cond (.t 17) c48_4 .skip
def c48_6 : ACode := .seq c48_2 c48_5
def c48_7 : ACode := .ops [⟨some 18, .mv (.t 7), none, []⟩,
  ⟨some 19, .ias (.t 18) (.c (.int .i64 0)) 11, none, []⟩,
  ⟨some 20, .fad (.t 19) 10, none, []⟩,
  ⟨some 21, .load 1 false (.t 20), none, []⟩,
  ⟨some 22, .mv (.t 7), none, []⟩,
  ⟨some 23, .ias (.t 22) (.c (.int .i64 0)) 11, none, []⟩,
  ⟨some 24, .fad (.t 23) 10, none, []⟩,
  ⟨some 25, .load 1 false (.t 24), none, []⟩,
  ⟨some 8, .mv (.t 21), none, []⟩,
  ⟨some 9, .mv (.t 25), none, []⟩] [7, 8, 9]
def c48_8 : ACode := .ops [⟨some 26, .mv (.t 7), none, []⟩,
  ⟨some 27, .len (.t 26), none, []⟩,
  ⟨some 28, .mv (.c (.int .i64 0)), none, []⟩] [8, 9, 26, 27, 28]
def c48_9 : ACode := .ops [⟨some 29, .bin .lss (.t 28) (.t 27), none, []⟩] [8, 9, 26, 27, 28, 29]
def c48_10 : ACode := .cond (.t 29) .skip (.exit 0)
def c48_11 : ACode := .ops [⟨some 30, .ias (.t 26) (.t 28) 11, none, []⟩,
  ⟨some 31, .load 11 true (.t 30), none, []⟩,
  ⟨some 11, .alloc [.int .i64 0, .int .i64 0, .int .i64 0, .int .i64 0, .int .i64 0, .int .i64 0, .int .i64 0, .int .i64 0, .int .i64 0, .int .i64 0, .int .i64 0], none, []⟩,
  ⟨none, .store (.t 11) 11 (.t 31), none, [11]⟩] [8, 9, 11, 26, 27, 28]
def c48_12 : ACode := .ops [⟨some 32, .mv (.t 8), none, []⟩,
  ⟨some 33, .fad (.t 11) 10, none, [11]⟩,
  ⟨some 34, .load 1 false (.t 33), none, [11]⟩,
  ⟨some 35, .mnmx false (.t 32) (.t 34), none, []⟩,
  ⟨some 36, .mv (.t 9), none, []⟩,
  ⟨some 37, .fad (.t 11) 10, none, [11]⟩,
  ⟨some 38, .load 1 false (.t 37), none, [11]⟩,
  ⟨some 39, .mnmx true (.t 36) (.t 38), none, []⟩,
  ⟨some 8, .mv (.t 35), none, []⟩,
  ⟨some 9, .mv (.t 39), none, []⟩] [8, 9, 26, 27, 28]
def c48_13 : ACode := .seq c48_11 c48_12
def c48_14 : ACode := .block 1 c48_13
def c48_15 : ACode := .ops [⟨some 40, .bin .add (.t 28) (.c (.int .i64 1)), none, []⟩,
  ⟨some 28, .mv (.t 40), none, []⟩] [8, 9, 26, 27, 28]
def c48_16 : ACode := .seq c48_14 c48_15
def c48_17 : ACode := .seq c48_10 c48_16
def c48_18 : ACode := .seq c48_9 c48_17
def c48_19 : ACode := .keep [8, 9, 26, 27, 28] [] c48_18
def c48_20 : ACode := .loop c48_19
def c48_21 : ACode := .block 0 c48_20
def c48_22 : ACode := .seq c48_8 c48_21
def c48_23 : ACode := .ops [⟨some 41, .mv (.t 8), none, []⟩,
  ⟨some 42, .mv (.t 9), none, []⟩,
  ⟨some 4, .mv (.t 41), none, []⟩,
  ⟨some 5, .mv (.t 42), none, []⟩,
  ⟨some 6, .mv (.c (.bool true)), none, []⟩] [4, 5, 6]
def c48_24 : ACode := .seq c48_23 .ret
def c48_25 : ACode := .seq c48_22 c48_24
def c48_26 : ACode := .seq c48_7 c48_25
def c48_27 : ACode := .seq c48_6 c48_26
def c48_28 : ACode := .seq c48_1 c48_27
def c48_29 : ACode := .seq c48_0 c48_28
def a48 : AFun := ⟨2, 43, c48_29, [.t 4, .t 5, .t 6]⟩

/- copse/leaves.List -/
def c51_0 : ACode := .ops [⟨some 3, .box (.t 1) 10, none, []⟩,
  ⟨some 4, .mv (.c (.nils)), none, []⟩] [0, 3]
def c51_1 : ACode := .ops [⟨some 11, .mv (.t 0), none, []⟩,
  ⟨some 12, .call 76 [.t 11, .c (.int .i64 4)], none, []⟩,
  ⟨some 13, .un .not (.t 12), none, []⟩,
  ⟨some 14, .mv (.t 13), none, []⟩,
  ⟨some 15, .load 10 true (.t 3), some (14, false), [3]⟩,
  ⟨some 16, .call 68 [.t 15], some (14, false), []⟩,
  ⟨some 17, .pick (.t 14) (.c (.bool true)) (.t 16), none, []⟩] [0, 3, 17]
def c51_2 : ACode := .ops [⟨some 4, .mv (.c (.nils)), none, []⟩] [4]
def c51_3 : ACode := .seq c51_2 .ret
def c51_4 : ACode := .cond (.t 17) c51_3 .skip
def c51_5 : ACode := .seq c51_1 c51_4
def c51_6 : ACode := .ops [⟨some 18, .mv (.t 0), none, []⟩,
  ⟨some 19, .len (.t 18), none, []⟩,
  ⟨some 20, .mks 5 (.t 19) 10 [.int .i64 0, .int .i64 0, .int .i64 0, .int .i64 0, .int .i64 0, .int .i64 0, .int .i64 0, .int .i64 0, .int .i64 0, .int .i64 0], none, []⟩,
  ⟨some 5, .mv (.t 20), none, []⟩] [0, 3, 5]
def c51_7 : ACode := .ops [⟨some 21, .mv (.t 5), none, []⟩,
  ⟨some 22, .load 10 true (.t 3), none, [3]⟩,
  ⟨some 23, .ias (.t 21) (.c (.int .i64 0)) 10, none, [5]⟩,
  ⟨none, .store (.t 23) 10 (.t 22), none, [5]⟩] [0, 5]
def c51_8 : ACode := .ops [⟨some 6, .nil0 6 11, none, []⟩] [0, 5, 6]
def c51_9 : ACode := .ops [⟨some 24, .mv (.t 0), none, []⟩,
  ⟨some 25, .len (.t 24), none, []⟩,
  ⟨some 26, .mv (.c (.int .i64 0)), none, []⟩] [5, 6, 24, 25, 26]
def c51_10 : ACode := .ops [⟨some 27, .bin .lss (.t 26) (.t 25), none, []⟩] [5, 6, 24, 25, 26, 27]
def c51_11 : ACode := .cond (.t 27) .skip (.exit 0)
def c51_12 : ACode := .ops [⟨some 28, .mv (.t 26), none, []⟩,
  ⟨some 29, .ias (.t 24) (.t 26) 1, none, []⟩,
  ⟨some 30, .load 1 false (.t 29), none, []⟩,
  ⟨some 7, .mv (.t 28), none, []⟩,
  ⟨some 8, .mv (.t 30), none, []⟩] [5, 6, 7, 8, 24, 25, 26]
def c51_13 : ACode := .ops [⟨some 32, .mv (.t 8), none, []⟩,
  ⟨some 33, .call 77 [.t 32], none, []⟩,
  ⟨some 31, .mv (.t 33), none, []⟩,
  ⟨some 34, .ext (.t 31) 0, none, []⟩,
  ⟨some 35, .ext (.t 31) 1, none, []⟩,
  ⟨some 9, .alloc [.bool false, .int .i64 0, .int .i64 0, .int .i64 0, .int .i64 0, .int .i64 0], none, []⟩,
  ⟨none, .store (.t 9) 6 (.t 34), none, [9]⟩,
  ⟨some 10, .mv (.t 35), none, []⟩] [5, 6, 7, 9, 24, 25, 26]
def c51_14 : ACode := .ops [⟨some 37, .fad (.t 9) 0, none, [9]⟩,
  ⟨some 38, .load 1 false (.t 37), none, [9]⟩,
  ⟨some 39, .un .not (.t 38), none, []⟩,
  ⟨some 36, .mv (.t 39), none, []⟩] [5, 6, 7, 9, 24, 25, 26, 36]
def c51_15 : ACode := .ops [⟨some 41, .mv (.t 5), none, []⟩,
  ⟨some 42, .fad (.t 9) 4, none, [9]⟩,
  ⟨some 43, .load 1 false (.t 42), none, [9]⟩,
  ⟨some 44, .mv (.t 5), none, []⟩,
  ⟨some 45, .fad (.t 9) 5, none, [9]⟩,
  ⟨some 46, .load 1 false (.t 45), none, [9]⟩,
  ⟨some 47, .mv (.t 5), none, []⟩,
  ⟨some 48, .mv (.t 7), none, []⟩,
  ⟨some 49, .ias (.t 47) (.t 48) 10, none, [5]⟩,
  ⟨some 50, .load 10 true (.t 49), none, [5]⟩,
  ⟨some 51, .fad (.t 9) 2, none, [9]⟩,
  ⟨some 52, .load 1 false (.t 51), none, [9]⟩,
  ⟨some 53, .fad (.t 9) 3, none, [9]⟩,
  ⟨some 54, .load 1 false (.t 53), none, [9]⟩,
  ⟨some 55, .call 67 [.t 50, .t 52, .t 54], none, []⟩,
  ⟨some 40, .mv (.t 55), none, []⟩,
  ⟨some 56, .ext (.t 40) 0, none, []⟩,
  ⟨some 57, .ext (.t 40) 1, none, []⟩,
  ⟨some 58, .ias (.t 41) (.t 43) 10, none, [5]⟩,
  ⟨none, .store (.t 58) 10 (.t 56), none, [5]⟩,
  ⟨some 59, .ias (.t 44) (.t 46) 10, none, [5]⟩,
  ⟨none, .store (.t 59) 10 (.t 57), none, [5]⟩] [5, 6, 24, 25, 26]
def c51_16 : ACode := .ops [⟨some 61, .mv (.t 5), none, []⟩,
  ⟨some 62, .mv (.t 7), none, []⟩,
  ⟨some 63, .ias (.t 61) (.t 62) 10, none, [5]⟩,
  ⟨some 64, .load 10 true (.t 63), none, [5]⟩,
  ⟨some 65, .call 68 [.t 64], none, []⟩,
  ⟨some 66, .un .not (.t 65), none, []⟩,
  ⟨some 60, .mv (.t 66), none, []⟩] [5, 6, 7, 9, 24, 25, 26, 60]
def c51_17 : ACode := .ops [⟨some 67, .mv (.t 6), none, []⟩,
  ⟨some 68, .mv (.t 5), none, []⟩,
  ⟨some 69, .mv (.t 7), none, []⟩,
  ⟨some 70, .ias (.t 68) (.t 69) 10, none, [5]⟩,
  ⟨some 71, .load 10 true (.t 70), none, [5]⟩,
  ⟨some 72, .fad (.t 9) 1, none, [9]⟩,
  ⟨some 73, .load 1 false (.t 72), none, [9]⟩,
  ⟨some 74, .build [.int .i64 0, .int .i64 0, .int .i64 0, .int .i64 0, .int .i64 0, .int .i64 0, .int .i64 0, .int .i64 0, .int .i64 0, .int .i64 0, .int .i64 0] [(0, 10, .t 71), (10, 1, .t 73)], none, []⟩,
  ⟨some 75, .mkrow 75 1 11 [.int .i64 0, .int .i64 0, .int .i64 0, .int .i64 0, .int .i64 0, .int .i64 0, .int .i64 0, .int .i64 0, .int .i64 0, .int .i64 0, .int .i64 0] [(0, 11, .t 74)], none, []⟩,
  ⟨some 76, .app 6 [6] (.t 67) (.t 75) 11, none, [6, 75]⟩,
  ⟨some 6, .mv (.t 76), none, []⟩] [5, 6, 24, 25, 26]
def c51_18 : ACode := .cond (.t 60) c51_17 .skip
def c51_19 : ACode := .seq c51_16 c51_18
def c51_20 : ACode := .cond (.t 36) c51_15 c51_19
def c51_21 : ACode := .seq c51_14 c51_20
def c51_22 : ACode := .block 2 c51_21
def c51_23 : ACode := .seq c51_13 c51_22
def c51_24 : ACode := .seq c51_12 c51_23
def c51_25 : ACode := .block 1 c51_24
def c51_26 : ACode := .ops [⟨some 77, .bin .add (.t 26) (.c (.int .i64 1)), none, []⟩,
  ⟨some 26, .mv (.t 77), none, []⟩] [5, 6, 24, 25, 26]
def c51_27 : ACode := .seq c51_25 c51_26
def c51_28 : ACode := .seq c51_11 c51_27
def c51_29 : ACode := .seq c51_10 c51_28
def c51_30 : ACode := .keep [5, 6, 24, 25, 26] [5, 6] c51_29
def c51_31 : ACode := .loop c51_30
def c51_32 : ACode := .block 0 c51_31
def c51_33 : ACode := .seq c51_9 c51_32
def c51_34 : ACode := .ops [⟨some 78, .mv (.t 6), none, []⟩,
  ⟨some 4, .mv (.t 78), none, []⟩] [4]
def c51_35 : ACode := .seq c51_34 .ret
def c51_36 : ACode := .seq c51_33 c51_35
def c51_37 : ACode := .seq c51_8 c51_36
def c51_38 : ACode := .seq c51_7 c51_37
def c51_39 : ACode := .seq c51_6 c51_38
def c51_40 : ACode := .seq c51_5 c51_39
def c51_41 : ACode := .seq c51_0 c51_40
def a51 : AFun := ⟨2, 79, c51_41, [.t 4]⟩

/- copse/couple.Change -/
def c52_0 : ACode := .ops [⟨some 3, .box (.t 0) 6, none, []⟩,
  ⟨some 4, .box (.t 1) 17, none, []⟩,
  ⟨some 5, .box (.t 2) 10, none, []⟩,
  ⟨some 6, .mv (.c (.int .i64 0)), none, []⟩,
  ⟨some 7, .mv (.c (.int .i64 0)), none, []⟩,
  ⟨some 8, .mv (.c (.bool false)), none, []⟩] [3, 4, 5]
def c52_1 : ACode := .ops [⟨some 16, .load 6 true (.t 3), none, [3]⟩,
  ⟨some 17, .fad (.t 4) 1, none, [4]⟩,
  ⟨some 18, .load 1 false (.t 17), none, [4]⟩,
  ⟨some 19, .load 17 true (.t 4), none, [4]⟩,
  ⟨some 20, .load 10 true (.t 5), none, [5]⟩,
  ⟨some 21, .call 55 [.t 19, .t 20], none, []⟩,
  ⟨some 22, .call 44 [.t 16, .t 18, .t 21], none, []⟩,
  ⟨some 15, .mv (.t 22), none, []⟩,
  ⟨some 23, .ext (.t 15) 0, none, []⟩,
  ⟨some 24, .ext (.t 15) 1, none, []⟩,
  ⟨some 25, .ext (.t 15) 2, none, []⟩,
  ⟨some 9, .mv (.t 23), none, []⟩,
  ⟨some 10, .mv (.t 24), none, []⟩,
  ⟨some 11, .mv (.t 25), none, []⟩] [3, 4, 5, 9, 10, 11]
def c52_2 : ACode := .ops [⟨some 27, .load 6 true (.t 3), none, [3]⟩,
  ⟨some 28, .fad (.t 4) 1, none, [4]⟩,
  ⟨some 29, .load 1 false (.t 28), none, [4]⟩,
  ⟨some 30, .load 17 true (.t 4), none, [4]⟩,
  ⟨some 31, .load 10 true (.t 5), none, [5]⟩,
  ⟨some 32, .call 54 [.t 30, .t 31], none, []⟩,
  ⟨some 33, .call 44 [.t 27, .t 29, .t 32], none, []⟩,
  ⟨some 26, .mv (.t 33), none, []⟩,
  ⟨some 34, .ext (.t 26) 0, none, []⟩,
  ⟨some 35, .ext (.t 26) 1, none, []⟩,
  ⟨some 36, .ext (.t 26) 2, none, []⟩,
  ⟨some 12, .mv (.t 34), none, []⟩,
  ⟨some 13, .mv (.t 35), none, []⟩,
  ⟨some 14, .mv (.t 36), none, []⟩] [4, 9, 10, 11, 12, 13, 14]
def c52_3 : ACode := .ops [⟨some 37, .load 17 true (.t 4), none, [4]⟩,
  ⟨some 38, .call 114 [.t 37], none, []⟩,
  ⟨some 39, .un .not (.t 38), none, []⟩,
  ⟨some 40, .mv (.t 39), none, []⟩,
  ⟨some 41, .mv (.t 11), some (40, false), []⟩,
  ⟨some 42, .un .not (.t 41), some (40, false), []⟩,
  ⟨some 43, .pick (.t 40) (.c (.bool true)) (.t 42), none, []⟩,
  ⟨some 44, .mv (.t 43), none, []⟩,
  ⟨some 45, .mv (.t 14), some (44, false), []⟩,
  ⟨some 46, .un .not (.t 45), some (44, false), []⟩,
  ⟨some 47, .pick (.t 44) (.c (.bool true)) (.t 46), none, []⟩] [9, 10, 12, 13, 47]
def c52_4 : ACode := .ops [⟨some 6, .mv (.c (.int .i64 0)), none, []⟩,
  ⟨some 7, .mv (.c (.int .i64 0)), none, []⟩,
  ⟨some 8, .mv (.c (.bool false)), none, []⟩] [6, 7, 8]
def c52_5 : ACode := .seq c52_4 .ret
def c52_6 : ACode := .cond (.t 47) c52_5 .skip
def c52_7 : ACode := .seq c52_3 c52_6
def c52_8 : ACode := .ops [⟨some 48, .mv (.t 12), none, []⟩,
  ⟨some 49, .mv (.t 10), none, []⟩,
  ⟨some 50, .bin .sub (.t 48) (.t 49), none, []⟩,
  ⟨some 51, .mv (.t 13), none, []⟩,
  ⟨some 52, .mv (.t 9), none, []⟩,
  ⟨some 53, .bin .sub (.t 51) (.t 52), none, []⟩,
  ⟨some 6, .mv (.t 50), none, []⟩,
  ⟨some 7, .mv (.t 53), none, []⟩,
  ⟨some 8, .mv (.c (.bool true)), none, []⟩] [6, 7, 8]
def c52_9 : ACode := .seq c52_8 .ret
def c52_10 : ACode := .seq c52_7 c52_9
def c52_11 : ACode := .seq c52_2 c52_10
def c52_12 : ACode := .seq c52_1 c52_11
def c52_13 : ACode := .seq c52_0 c52_12
def a52 : AFun := ⟨3, 54, c52_13, [.t 6, .t 7, .t 8]⟩

/- copse/couple.Ordered -/
def c53_0 : ACode := .ops [⟨some 2, .box (.t 0) 17, none, []⟩,
  ⟨some 3, .box (.t 1) 10, none, []⟩,
  ⟨some 4, .mv (.c (.bool false)), none, []⟩] [2, 3]
def c53_1 : ACode := .ops [⟨some 5, .load 17 true (.t 2), none, [2]⟩,
  ⟨some 6, .call 114 [.t 5], none, []⟩,
  ⟨some 7, .mv (.t 6), none, []⟩,
  ⟨some 8, .load 10 true (.t 3), some (7, true), [3]⟩,
  ⟨some 9, .call 68 [.t 8], some (7, true), []⟩,
  ⟨some 10, .un .not (.t 9), some (7, true), []⟩,
  ⟨some 11, .pick (.t 7) (.t 10) (.c (.bool false)), none, []⟩,
  ⟨some 12, .mv (.t 11), none, []⟩,
  ⟨some 13, .fad (.t 2) 14, some (12, true), [2]⟩,
  ⟨some 14, .load 1 false (.t 13), some (12, true), [2]⟩,
  ⟨some 15, .iad (.t 3) (.t 14) 2 5, some (12, true), [3]⟩,
  ⟨some 16, .fad (.t 15) 0, some (12, true), [3]⟩,
  ⟨some 17, .load 1 false (.t 16), some (12, true), [3]⟩,
  ⟨some 18, .iad (.t 3) (.c (.int .i64 4)) 2 5, some (12, true), [3]⟩,
  ⟨some 19, .fad (.t 18) 1, some (12, true), [3]⟩,
  ⟨some 20, .load 1 false (.t 19), some (12, true), [3]⟩,
  ⟨some 21, .bin .lss (.t 17) (.t 20), some (12, true), []⟩,
  ⟨some 22, .pick (.t 12) (.t 21) (.c (.bool false)), none, []⟩,
  ⟨some 4, .mv (.t 22), none, []⟩] [4]
def c53_2 : ACode := .seq c53_1 .ret
def c53_3 : ACode := .seq c53_0 c53_2
def a53 : AFun := ⟨2, 23, c53_3, [.t 4]⟩

/- copse/couple.Second -/
def c54_0 : ACode := .ops [⟨some 2, .box (.t 0) 17, none, []⟩,
  ⟨some 3, .box (.t 1) 10, none, []⟩,
  ⟨some 4, .alloc [.int .i64 0, .int .i64 0, .int .i64 0, .int .i64 0, .int .i64 0, .int .i64 0, .int .i64 0, .int .i64 0, .int .i64 0, .int .i64 0], none, []⟩] [2, 3, 4]
def c54_1 : ACode := .ops [⟨some 5, .load 17 true (.t 2), none, [2]⟩,
  ⟨some 6, .call 114 [.t 5], none, []⟩] [2, 3, 4, 6]
def c54_2 : ACode := .ops [⟨some 7, .fad (.t 2) 14, none, [2]⟩,
  ⟨some 8, .load 1 false (.t 7), none, [2]⟩,
  ⟨some 9, .iad (.t 3) (.c (.int .i64 4)) 2 5, none, [3]⟩,
  ⟨some 10, .load 2 true (.t 9), none, [3]⟩,
  ⟨some 11, .build [.int .i64 0, .int .i64 0] [], none, []⟩,
  ⟨some 12, .iad (.t 3) (.t 8) 2 5, none, [3]⟩,
  ⟨none, .store (.t 12) 2 (.t 10), none, [3]⟩,
  ⟨some 13, .iad (.t 3) (.c (.int .i64 4)) 2 5, none, [3]⟩,
  ⟨none, .store (.t 13) 2 (.t 11), none, [3]⟩] [3, 4]
def c54_3 : ACode := .cond (.t 6) c54_2 .skip
def c54_4 : ACode := .seq c54_1 c54_3
def c54_5 : ACode := .ops [⟨some 14, .load 10 true (.t 3), none, [3]⟩,
  ⟨none, .store (.t 4) 10 (.t 14), none, [4]⟩] [4]
def c54_6 : ACode := .seq c54_5 .ret
def c54_7 : ACode := .seq c54_4 c54_6
def c54_8 : ACode := .seq c54_0 c54_7
def a54 : AFun := ⟨2, 15, c54_8, [.cell 4 10 true]⟩

/- copse/couple.First -/
def c55_0 : ACode := .ops [⟨some 2, .box (.t 0) 17, none, []⟩,
  ⟨some 3, .box (.t 1) 10, none, []⟩,
  ⟨some 4, .alloc [.int .i64 0, .int .i64 0, .int .i64 0, .int .i64 0, .int .i64 0, .int .i64 0, .int .i64 0, .int .i64 0, .int .i64 0, .int .i64 0], none, []⟩] [2, 3, 4]
def c55_1 : ACode := .ops [⟨some 5, .load 17 true (.t 2), none, [2]⟩,
  ⟨some 6, .call 114 [.t 5], none, []⟩] [3, 4, 6]
def c55_2 : ACode := .ops [⟨some 7, .build [.int .i64 0, .int .i64 0] [], none, []⟩,
  ⟨some 8, .iad (.t 3) (.c (.int .i64 4)) 2 5, none, [3]⟩,
  ⟨none, .store (.t 8) 2 (.t 7), none, [3]⟩] [3, 4]
def c55_3 : ACode := .cond (.t 6) c55_2 .skip
def c55_4 : ACode := .seq c55_1 c55_3
def c55_5 : ACode := .ops [⟨some 9, .load 10 true (.t 3), none, [3]⟩,
  ⟨none, .store (.t 4) 10 (.t 9), none, [4]⟩] [4]
def c55_6 : ACode := .seq c55_5 .ret
def c55_7 : ACode := .seq c55_4 c55_6
def c55_8 : ACode := .seq c55_0 c55_7
def a55 : AFun := ⟨2, 10, c55_8, [.cell 4 10 true]⟩

/- copse/query.Right -/
def c56_0 : ACode := .ops [⟨some 2, .box (.t 0) 6, none, []⟩,
  ⟨some 3, .box (.t 1) 17, none, []⟩,
  ⟨some 4, .mv (.c (.bool false)), none, []⟩] [2, 3]
def c56_1 : ACode := .ops [⟨some 5, .load 6 true (.t 2), none, [2]⟩,
  ⟨some 6, .call 71 [.t 5], none, []⟩,
  ⟨some 7, .mv (.t 6), none, []⟩,
  ⟨some 8, .fad (.t 3) 1, some (7, true), [3]⟩,
  ⟨some 9, .load 1 false (.t 8), some (7, true), [3]⟩,
  ⟨some 10, .bin .geq (.t 9) (.c (.int .i64 0)), some (7, true), []⟩,
  ⟨some 11, .pick (.t 7) (.t 10) (.c (.bool false)), none, []⟩,
  ⟨some 12, .mv (.t 11), none, []⟩,
  ⟨some 13, .fad (.t 3) 1, some (12, true), [3]⟩,
  ⟨some 14, .load 1 false (.t 13), some (12, true), [3]⟩,
  ⟨some 15, .fad (.t 2) 1, some (12, true), [2]⟩,
  ⟨some 16, .load 1 false (.t 15), some (12, true), [2]⟩,
  ⟨some 17, .bin .lss (.t 14) (.t 16), some (12, true), []⟩,
  ⟨some 18, .pick (.t 12) (.t 17) (.c (.bool false)), none, []⟩,
  ⟨some 19, .mv (.t 18), none, []⟩,
  ⟨some 20, .fad (.t 3) 16, some (19, true), [3]⟩,
  ⟨some 21, .load 1 false (.t 20), some (19, true), [3]⟩,
  ⟨some 22, .bin .geq (.t 21) (.c (.int .i64 0)), some (19, true), []⟩,
  ⟨some 23, .pick (.t 19) (.t 22) (.c (.bool false)), none, []⟩,
  ⟨some 24, .mv (.t 23), none, []⟩,
  ⟨some 25, .fad (.t 3) 16, some (24, true), [3]⟩,
  ⟨some 26, .load 1 false (.t 25), some (24, true), [3]⟩,
  ⟨some 27, .bin .leq (.t 26) (.c (.int .i64 65536)), some (24, true), []⟩,
  ⟨some 28, .pick (.t 24) (.t 27) (.c (.bool false)), none, []⟩,
  ⟨some 29, .mv (.t 28), none, []⟩,
  ⟨some 30, .fad (.t 3) 2, some (29, true), [3]⟩,
  ⟨some 31, .load 10 true (.t 30), some (29, true), [3]⟩,
  ⟨some 32, .fad (.t 2) 0, some (29, true), [2]⟩,
  ⟨some 33, .load 1 false (.t 32), some (29, true), [2]⟩,
  ⟨some 34, .call 115 [.t 31, .t 33], some (29, true), []⟩,
  ⟨some 35, .pick (.t 29) (.t 34) (.c (.bool false)), none, []⟩,
  ⟨some 36, .mv (.t 35), none, []⟩,
  ⟨some 37, .load 6 true (.t 2), some (36, true), [2]⟩,
  ⟨some 38, .load 17 true (.t 3), some (36, true), [3]⟩,
  ⟨some 39, .call 116 [.t 37, .t 38], some (36, true), []⟩,
  ⟨some 40, .pick (.t 36) (.t 39) (.c (.bool false)), none, []⟩,
  ⟨some 4, .mv (.t 40), none, []⟩] [4]
def c56_2 : ACode := .seq c56_1 .ret
def c56_3 : ACode := .seq c56_0 c56_2
def a56 : AFun := ⟨2, 41, c56_3, [.t 4]⟩

/- copse/query.Breaks -/
def c57_0 : ACode := .ops [⟨some 4, .box (.t 0) 6, none, []⟩,
  ⟨some 5, .box (.t 1) 17, none, []⟩,
  ⟨some 6, .box (.t 2) 4, none, []⟩,
  ⟨some 8, .mv (.c (.bool false)), none, []⟩] [3, 4, 5, 6]
def c57_1 : ACode := .ops [⟨some 12, .load 6 true (.t 4), none, [4]⟩,
  ⟨some 13, .load 17 true (.t 5), none, [5]⟩,
  ⟨some 14, .call 56 [.t 12, .t 13], none, []⟩,
  ⟨some 15, .un .not (.t 14), none, []⟩] [3, 4, 5, 6, 15]
def c57_2 : ACode := .ops [⟨some 8, .mv (.c (.bool false)), none, []⟩] [8]
def c57_3 : ACode := .seq c57_2 .ret
def c57_4 : ACode := .cond (.t 15) c57_3 .skip
def c57_5 : ACode := .seq c57_1 c57_4
def c57_6 : ACode := .ops [⟨some 16, .load 6 true (.t 4), none, [4]⟩,
  ⟨some 17, .fad (.t 5) 1, none, [5]⟩,
  ⟨some 18, .load 1 false (.t 17), none, [5]⟩,
  ⟨some 19, .load 4 true (.t 6), none, [6]⟩,
  ⟨some 20, .call 69 [.t 16, .t 18, .t 19], none, []⟩,
  ⟨some 9, .mv (.t 20), none, []⟩] [3, 4, 5, 6, 9]
def c57_7 : ACode := .ops [⟨some 21, .fad (.t 5) 0, none, [5]⟩,
  ⟨some 22, .load 1 false (.t 21), none, [5]⟩] [3, 4, 5, 6, 9, 22]
def c57_8 : ACode := .ops [⟨some 24, .bin .eql (.t 22) (.c (.int .i64 1)), none, []⟩,
  ⟨some 23, .mv (.t 24), none, []⟩] [3, 4, 5, 6, 9, 22, 23]
def c57_9 : ACode := .ops [⟨some 25, .fad (.t 5) 12, none, [5]⟩,
  ⟨some 26, .load 1 false (.t 25), none, [5]⟩,
  ⟨some 27, .fad (.t 5) 13, none, [5]⟩,
  ⟨some 28, .load 1 false (.t 27), none, [5]⟩,
  ⟨some 29, .build [.int .i64 0, .int .i64 0] [(0, 1, .t 26), (1, 1, .t 28)], none, []⟩,
  ⟨some 30, .mv (.t 9), none, []⟩,
  ⟨some 31, .call 117 [.t 29, .t 30], none, []⟩,
  ⟨some 32, .un .not (.t 31), none, []⟩,
  ⟨some 8, .mv (.t 32), none, []⟩] [8]
def c57_10 : ACode := .seq c57_9 .ret
def c57_11 : ACode := .ops [⟨some 34, .bin .eql (.t 22) (.c (.int .i64 2)), none, []⟩,
  ⟨some 33, .mv (.t 34), none, []⟩] [3, 4, 5, 6, 9, 33]
def c57_12 : ACode := .ops [⟨some 35, .fad (.t 4) 1, none, [4]⟩,
  ⟨some 36, .load 1 false (.t 35), none, [4]⟩,
  ⟨some 37, .mv (.c (.int .i64 0)), none, []⟩] [4, 5, 6, 9, 36, 37]
def c57_13 : ACode := .ops [⟨some 38, .bin .lss (.t 37) (.t 36), none, []⟩] [4, 5, 6, 9, 36, 37, 38]
def c57_14 : ACode := .cond (.t 38) .skip (.exit 1)
def c57_15 : ACode := .ops [⟨some 39, .mv (.t 37), none, []⟩,
  ⟨some 10, .mv (.t 39), none, []⟩] [4, 5, 6, 9, 10, 36, 37]
def c57_16 : ACode := .ops [⟨some 40, .mv (.t 10), none, []⟩,
  ⟨some 41, .fad (.t 5) 1, none, [5]⟩,
  ⟨some 42, .load 1 false (.t 41), none, [5]⟩,
  ⟨some 43, .bin .neq (.t 40) (.t 42), none, []⟩,
  ⟨some 44, .mv (.t 43), none, []⟩,
  ⟨some 45, .load 6 true (.t 4), some (44, true), [4]⟩,
  ⟨some 46, .mv (.t 10), some (44, true), []⟩,
  ⟨some 47, .load 4 true (.t 6), some (44, true), [6]⟩,
  ⟨some 48, .call 69 [.t 45, .t 46, .t 47], some (44, true), []⟩,
  ⟨some 49, .mv (.t 9), some (44, true), []⟩,
  ⟨some 50, .bin .geq (.t 48) (.t 49), some (44, true), []⟩,
  ⟨some 51, .pick (.t 44) (.t 50) (.c (.bool false)), none, []⟩] [4, 5, 6, 9, 36, 37, 51]
def c57_17 : ACode := .ops [⟨some 8, .mv (.c (.bool true)), none, []⟩] [8]
def c57_18 : ACode := .seq c57_17 .ret
def c57_19 : ACode := .cond (.t 51) c57_18 .skip
def c57_20 : ACode := .seq c57_16 c57_19
def c57_21 : ACode := .seq c57_15 c57_20
def c57_22 : ACode := .block 2 c57_21
def c57_23 : ACode := .ops [⟨some 52, .bin .add (.t 37) (.c (.int .i64 1)), none, []⟩,
  ⟨some 37, .mv (.t 52), none, []⟩] [4, 5, 6, 9, 36, 37]
def c57_24 : ACode := .seq c57_22 c57_23
def c57_25 : ACode := .seq c57_14 c57_24
def c57_26 : ACode := .seq c57_13 c57_25
def c57_27 : ACode := .keep [4, 5, 6, 9, 36, 37] [4, 5, 6] c57_26
def c57_28 : ACode := .loop c57_27
def c57_29 : ACode := .block 1 c57_28
def c57_30 : ACode := .seq c57_12 c57_29
def c57_31 : ACode := .ops [⟨some 8, .mv (.c (.bool false)), none, []⟩] [8]
def c57_32 : ACode := .seq c57_31 .ret
def c57_33 : ACode := .seq c57_30 c57_32
def c57_34 : ACode := .cond (.t 33) c57_33 .skip
def c57_35 : ACode := .seq c57_11 c57_34
def c57_36 : ACode := .cond (.t 23) c57_10 c57_35
def c57_37 : ACode := .seq c57_8 c57_36
def c57_38 : ACode := .block 0 c57_37
def c57_39 : ACode := .seq c57_7 c57_38
def c57_40 : ACode := .ops [⟨some 53, .fad (.t 5) 14, none, [5]⟩,
  ⟨some 54, .load 1 false (.t 53), none, [5]⟩,
  ⟨some 55, .iad (.t 6) (.t 54) 1 4, none, [6]⟩,
  ⟨some 56, .load 1 false (.t 55), none, [6]⟩,
  ⟨some 57, .mv (.t 3), none, []⟩,
  ⟨some 58, .bin .geq (.t 56) (.t 57), none, []⟩] [3, 4, 5, 6, 9, 58]
def c57_41 : ACode := .ops [⟨some 8, .mv (.c (.bool false)), none, []⟩] [8]
def c57_42 : ACode := .seq c57_41 .ret
def c57_43 : ACode := .cond (.t 58) c57_42 .skip
def c57_44 : ACode := .seq c57_40 c57_43
def c57_45 : ACode := .ops [⟨some 59, .load 6 true (.t 4), none, [4]⟩,
  ⟨some 60, .fad (.t 5) 1, none, [5]⟩,
  ⟨some 61, .load 1 false (.t 60), none, [5]⟩,
  ⟨some 62, .load 17 true (.t 5), none, [5]⟩,
  ⟨some 63, .load 4 true (.t 6), none, [6]⟩,
  ⟨some 64, .mv (.t 3), none, []⟩,
  ⟨some 65, .call 64 [.t 62, .t 63, .t 64], none, []⟩,
  ⟨some 66, .call 69 [.t 59, .t 61, .t 65], none, []⟩,
  ⟨some 11, .mv (.t 66), none, []⟩] [5, 9, 11]
def c57_46 : ACode := .ops [⟨some 67, .fad (.t 5) 15, none, [5]⟩,
  ⟨some 68, .load 1 false (.t 67), none, [5]⟩] [9, 11, 68]
def c57_47 : ACode := .ops [⟨some 69, .mv (.t 11), none, []⟩,
  ⟨some 70, .mv (.t 9), none, []⟩,
  ⟨some 71, .bin .gtr (.t 69) (.t 70), none, []⟩,
  ⟨some 8, .mv (.t 71), none, []⟩] [8]
def c57_48 : ACode := .seq c57_47 .ret
def c57_49 : ACode := .cond (.t 68) c57_48 .skip
def c57_50 : ACode := .seq c57_46 c57_49
def c57_51 : ACode := .ops [⟨some 72, .mv (.t 11), none, []⟩,
  ⟨some 73, .mv (.t 9), none, []⟩,
  ⟨some 74, .bin .lss (.t 72) (.t 73), none, []⟩,
  ⟨some 8, .mv (.t 74), none, []⟩] [8]
def c57_52 : ACode := .seq c57_51 .ret
def c57_53 : ACode := .seq c57_50 c57_52
def c57_54 : ACode := .seq c57_45 c57_53
def c57_55 : ACode := .seq c57_44 c57_54
def c57_56 : ACode := .seq c57_39 c57_55
def c57_57 : ACode := .seq c57_6 c57_56
def c57_58 : ACode := .seq c57_5 c57_57
def c57_59 : ACode := .seq c57_0 c57_58
def a57 : AFun := ⟨4, 75, c57_59, [.t 8]⟩

/- copse/query.Start -/
def c58_0 : ACode := .ops [⟨some 1, .box (.t 0) 17, none, []⟩,
  ⟨some 2, .alloc [.int .i64 0, .int .i64 0, .int .i64 0, .int .i64 0, .int .i64 0, .int .i64 0, .int .i64 0, .int .i64 0, .int .i64 0, .int .i64 0], none, []⟩] [1, 2]
def c58_1 : ACode := .ops [⟨some 4, .fad (.t 1) 2, none, [1]⟩,
  ⟨some 5, .load 10 true (.t 4), none, [1]⟩,
  ⟨some 3, .alloc [.int .i64 0, .int .i64 0, .int .i64 0, .int .i64 0, .int .i64 0, .int .i64 0, .int .i64 0, .int .i64 0, .int .i64 0, .int .i64 0], none, []⟩,
  ⟨none, .store (.t 3) 10 (.t 5), none, [3]⟩] [1, 2, 3]
def c58_2 : ACode := .ops [⟨some 6, .build [.int .i64 0, .int .i64 0] [], none, []⟩,
  ⟨some 7, .iad (.t 3) (.c (.int .i64 4)) 2 5, none, [3]⟩,
  ⟨none, .store (.t 7) 2 (.t 6), none, [3]⟩] [1, 2, 3]
def c58_3 : ACode := .ops [⟨some 8, .load 17 true (.t 1), none, [1]⟩,
  ⟨some 9, .call 118 [.t 8], none, []⟩] [1, 2, 3, 9]
def c58_4 : ACode := .ops [⟨some 10, .fad (.t 1) 14, none, [1]⟩,
  ⟨some 11, .load 1 false (.t 10), none, [1]⟩,
  ⟨some 12, .iad (.t 3) (.t 11) 2 5, none, [3]⟩,
  ⟨some 13, .load 2 true (.t 12), none, [3]⟩,
  ⟨some 14, .iad (.t 3) (.c (.int .i64 4)) 2 5, none, [3]⟩,
  ⟨none, .store (.t 14) 2 (.t 13), none, [3]⟩] [2, 3]
def c58_5 : ACode := .cond (.t 9) c58_4 .skip
def c58_6 : ACode := .seq c58_3 c58_5
def c58_7 : ACode := .ops [⟨some 15, .load 10 true (.t 3), none, [3]⟩,
  ⟨none, .store (.t 2) 10 (.t 15), none, [2]⟩] [2]
def c58_8 : ACode := .seq c58_7 .ret
def c58_9 : ACode := .seq c58_6 c58_8
def c58_10 : ACode := .seq c58_2 c58_9
def c58_11 : ACode := .seq c58_1 c58_10
def c58_12 : ACode := .seq c58_0 c58_11
def a58 : AFun := ⟨1, 16, c58_12, [.cell 2 10 true]⟩

/- copse/query.Second -/
def c64_0 : ACode := .ops [⟨some 3, .box (.t 0) 17, none, []⟩,
  ⟨some 4, .box (.t 1) 4, none, []⟩,
  ⟨some 6, .alloc [.int .i64 0, .int .i64 0, .int .i64 0, .int .i64 0], none, []⟩] [2, 3, 4, 6]
def c64_1 : ACode := .ops [⟨some 7, .load 17 true (.t 3), none, [3]⟩,
  ⟨some 8, .call 118 [.t 7], none, []⟩] [2, 3, 4, 6, 8]
def c64_2 : ACode := .ops [⟨some 9, .fad (.t 3) 14, none, [3]⟩,
  ⟨some 10, .load 1 false (.t 9), none, [3]⟩,
  ⟨some 11, .mv (.t 2), none, []⟩,
  ⟨some 12, .iad (.t 4) (.t 10) 1 4, none, [4]⟩,
  ⟨none, .store (.t 12) 1 (.t 11), none, [4]⟩] [4, 6]
def c64_3 : ACode := .cond (.t 8) c64_2 .skip
def c64_4 : ACode := .seq c64_1 c64_3
def c64_5 : ACode := .ops [⟨some 13, .load 4 true (.t 4), none, [4]⟩,
  ⟨none, .store (.t 6) 4 (.t 13), none, [6]⟩] [6]
def c64_6 : ACode := .seq c64_5 .ret
def c64_7 : ACode := .seq c64_4 c64_6
def c64_8 : ACode := .seq c64_0 c64_7
def a64 : AFun := ⟨3, 14, c64_8, [.cell 6 4 true]⟩

/- copse/box.Cut -/
def c67_0 : ACode := .ops [⟨some 3, .box (.t 0) 10, none, []⟩,
  ⟨some 6, .alloc [.int .i64 0, .int .i64 0, .int .i64 0, .int .i64 0, .int .i64 0, .int .i64 0, .int .i64 0, .int .i64 0, .int .i64 0, .int .i64 0], none, []⟩,
  ⟨some 7, .alloc [.int .i64 0, .int .i64 0, .int .i64 0, .int .i64 0, .int .i64 0, .int .i64 0, .int .i64 0, .int .i64 0, .int .i64 0, .int .i64 0], none, []⟩] [1, 2, 3, 6, 7]
def c67_1 : ACode := .ops [⟨some 10, .load 10 true (.t 3), none, [3]⟩,
  ⟨some 11, .load 10 true (.t 3), none, [3]⟩,
  ⟨some 8, .alloc [.int .i64 0, .int .i64 0, .int .i64 0, .int .i64 0, .int .i64 0, .int .i64 0, .int .i64 0, .int .i64 0, .int .i64 0, .int .i64 0], none, []⟩,
  ⟨some 9, .alloc [.int .i64 0, .int .i64 0, .int .i64 0, .int .i64 0, .int .i64 0, .int .i64 0, .int .i64 0, .int .i64 0, .int .i64 0, .int .i64 0], none, []⟩,
  ⟨none, .store (.t 8) 10 (.t 10), none, [8]⟩,
  ⟨none, .store (.t 9) 10 (.t 11), none, [9]⟩] [1, 2, 3, 6, 7, 8, 9]
def c67_2 : ACode := .ops [⟨some 12, .mv (.t 1), none, []⟩,
  ⟨some 13, .bin .geq (.t 12) (.c (.int .i64 0)), none, []⟩,
  ⟨some 14, .mv (.t 13), none, []⟩,
  ⟨some 15, .mv (.t 1), some (14, true), []⟩,
  ⟨some 16, .bin .lss (.t 15) (.c (.int .i64 5)), some (14, true), []⟩,
  ⟨some 17, .pick (.t 14) (.t 16) (.c (.bool false)), none, []⟩] [1, 2, 3, 6, 7, 8, 9, 17]
def c67_3 : ACode := .ops [⟨some 19, .mv (.t 1), none, []⟩,
  ⟨some 20, .mv (.t 1), none, []⟩,
  ⟨some 21, .mv (.t 1), none, []⟩,
  ⟨some 22, .iad (.t 3) (.t 21) 2 5, none, [3]⟩,
  ⟨some 23, .load 2 true (.t 22), none, [3]⟩,
  ⟨some 24, .mv (.t 2), none, []⟩,
  ⟨some 25, .call 120 [.t 23, .t 24], none, []⟩,
  ⟨some 18, .mv (.t 25), none, []⟩,
  ⟨some 26, .ext (.t 18) 0, none, []⟩,
  ⟨some 27, .ext (.t 18) 1, none, []⟩,
  ⟨some 28, .iad (.t 8) (.t 19) 2 5, none, [8]⟩,
  ⟨none, .store (.t 28) 2 (.t 26), none, [8]⟩,
  ⟨some 29, .iad (.t 9) (.t 20) 2 5, none, [9]⟩,
  ⟨none, .store (.t 29) 2 (.t 27), none, [9]⟩] [6, 7, 8, 9]
def c67_4 : ACode := .cond (.t 17) c67_3 .skip
def c67_5 : ACode := .seq c67_2 c67_4
def c67_6 : ACode := .ops [⟨some 30, .load 10 true (.t 8), none, [8]⟩,
  ⟨some 31, .load 10 true (.t 9), none, [9]⟩,
  ⟨none, .store (.t 6) 10 (.t 30), none, [6]⟩,
  ⟨none, .store (.t 7) 10 (.t 31), none, [7]⟩] [6, 7]
def c67_7 : ACode := .seq c67_6 .ret
def c67_8 : ACode := .seq c67_5 c67_7
def c67_9 : ACode := .seq c67_1 c67_8
def c67_10 : ACode := .seq c67_0 c67_9
def a67 : AFun := ⟨3, 32, c67_10, [.cell 6 10 true, .cell 7 10 true]⟩

/- copse/box.Empty -/
def c68_0 : ACode := .ops [⟨some 1, .box (.t 0) 10, none, []⟩,
  ⟨some 2, .mv (.c (.bool false)), none, []⟩] [1]
def c68_1 : ACode := .ops [⟨some 5, .load 10 true (.t 1), none, [1]⟩,
  ⟨some 6, .mv (.c (.int .i64 0)), none, []⟩] [5, 6]
def c68_2 : ACode := .ops [⟨some 7, .bin .lss (.t 6) (.c (.int .i64 5)), none, []⟩] [5, 6, 7]
def c68_3 : ACode := .cond (.t 7) .skip (.exit 0)
def c68_4 : ACode := .ops [⟨some 8, .idx (.t 5) (.t 6) 2 5 true, none, []⟩,
  ⟨some 4, .alloc [.int .i64 0, .int .i64 0], none, []⟩,
  ⟨none, .store (.t 4) 2 (.t 8), none, [4]⟩] [4, 5, 6]
def c68_5 : ACode := .ops [⟨some 9, .load 2 true (.t 4), none, [4]⟩,
  ⟨some 10, .call 121 [.t 9], none, []⟩] [5, 6, 10]
def c68_6 : ACode := .ops [⟨some 2, .mv (.c (.bool true)), none, []⟩] [2]
def c68_7 : ACode := .seq c68_6 .ret
def c68_8 : ACode := .cond (.t 10) c68_7 .skip
def c68_9 : ACode := .seq c68_5 c68_8
def c68_10 : ACode := .seq c68_4 c68_9
def c68_11 : ACode := .block 1 c68_10
def c68_12 : ACode := .ops [⟨some 11, .bin .add (.t 6) (.c (.int .i64 1)), none, []⟩,
  ⟨some 6, .mv (.t 11), none, []⟩] [5, 6]
def c68_13 : ACode := .seq c68_11 c68_12
def c68_14 : ACode := .seq c68_3 c68_13
def c68_15 : ACode := .seq c68_2 c68_14
def c68_16 : ACode := .keep [5, 6] [] c68_15
def c68_17 : ACode := .loop c68_16
def c68_18 : ACode := .block 0 c68_17
def c68_19 : ACode := .seq c68_1 c68_18
def c68_20 : ACode := .ops [⟨some 2, .mv (.c (.bool false)), none, []⟩] [2]
def c68_21 : ACode := .seq c68_20 .ret
def c68_22 : ACode := .seq c68_19 c68_21
def c68_23 : ACode := .seq c68_0 c68_22
def a68 : AFun := ⟨1, 12, c68_23, [.t 2]⟩

/- copse/model.Eval -/
def c69_0 : ACode := .ops [⟨some 3, .box (.t 0) 6, none, []⟩,
  ⟨some 5, .box (.t 2) 4, none, []⟩,
  ⟨some 6, .mv (.c (.int .i64 0)), none, []⟩] [1, 3, 5]
def c69_1 : ACode := .ops [⟨some 7, .load 6 true (.t 3), none, [3]⟩,
  ⟨some 8, .call 71 [.t 7], none, []⟩,
  ⟨some 9, .un .not (.t 8), none, []⟩,
  ⟨some 10, .mv (.t 9), none, []⟩,
  ⟨some 11, .mv (.t 1), some (10, false), []⟩,
  ⟨some 12, .bin .lss (.t 11) (.c (.int .i64 0)), some (10, false), []⟩,
  ⟨some 13, .pick (.t 10) (.c (.bool true)) (.t 12), none, []⟩,
  ⟨some 14, .mv (.t 13), none, []⟩,
  ⟨some 15, .mv (.t 1), some (14, false), []⟩,
  ⟨some 16, .fad (.t 3) 1, some (14, false), [3]⟩,
  ⟨some 17, .load 1 false (.t 16), some (14, false), [3]⟩,
  ⟨some 18, .bin .geq (.t 15) (.t 17), some (14, false), []⟩,
  ⟨some 19, .pick (.t 14) (.c (.bool true)) (.t 18), none, []⟩] [1, 3, 5, 19]
def c69_2 : ACode := .ops [⟨some 6, .mv (.c (.int .i64 0)), none, []⟩] [6]
def c69_3 : ACode := .seq c69_2 .ret
def c69_4 : ACode := .cond (.t 19) c69_3 .skip
def c69_5 : ACode := .seq c69_1 c69_4
def c69_6 : ACode := .ops [⟨some 20, .load 6 true (.t 3), none, [3]⟩,
  ⟨some 21, .mv (.t 1), none, []⟩,
  ⟨some 22, .load 4 true (.t 5), none, [5]⟩,
  ⟨some 23, .call 122 [.t 20, .t 21, .t 22], none, []⟩,
  ⟨some 6, .mv (.t 23), none, []⟩] [6]
def c69_7 : ACode := .seq c69_6 .ret
def c69_8 : ACode := .seq c69_5 c69_7
def c69_9 : ACode := .seq c69_0 c69_8
def a69 : AFun := ⟨3, 24, c69_9, [.t 6]⟩

/- copse/model.Right -/
def c71_0 : ACode := .ops [⟨some 1, .box (.t 0) 6, none, []⟩,
  ⟨some 2, .mv (.c (.bool false)), none, []⟩] [1]
def c71_1 : ACode := .ops [⟨some 5, .fad (.t 1) 0, none, [1]⟩,
  ⟨some 6, .load 1 false (.t 5), none, [1]⟩,
  ⟨some 7, .bin .lss (.t 6) (.c (.int .i64 1)), none, []⟩,
  ⟨some 8, .mv (.t 7), none, []⟩,
  ⟨some 9, .fad (.t 1) 0, some (8, false), [1]⟩,
  ⟨some 10, .load 1 false (.t 9), some (8, false), [1]⟩,
  ⟨some 11, .bin .gtr (.t 10) (.c (.int .i64 4)), some (8, false), []⟩,
  ⟨some 12, .pick (.t 8) (.c (.bool true)) (.t 11), none, []⟩,
  ⟨some 13, .mv (.t 12), none, []⟩,
  ⟨some 14, .fad (.t 1) 1, some (13, false), [1]⟩,
  ⟨some 15, .load 1 false (.t 14), some (13, false), [1]⟩,
  ⟨some 16, .bin .lss (.t 15) (.c (.int .i64 1)), some (13, false), []⟩,
  ⟨some 17, .pick (.t 13) (.c (.bool true)) (.t 16), none, []⟩,
  ⟨some 18, .mv (.t 17), none, []⟩,
  ⟨some 19, .fad (.t 1) 1, some (18, false), [1]⟩,
  ⟨some 20, .load 1 false (.t 19), some (18, false), [1]⟩,
  ⟨some 21, .bin .gtr (.t 20) (.c (.int .i64 3)), some (18, false), []⟩,
  ⟨some 22, .pick (.t 18) (.c (.bool true)) (.t 21), none, []⟩,
  ⟨some 23, .mv (.t 22), none, []⟩,
  ⟨some 24, .fad (.t 1) 5, some (23, false), [1]⟩,
  ⟨some 25, .load 1 false (.t 24), some (23, false), [1]⟩,
  ⟨some 26, .len (.t 25), some (23, false), []⟩,
  ⟨some 27, .bin .gtr (.t 26) (.c (.int .i64 8)), some (23, false), []⟩,
  ⟨some 28, .pick (.t 23) (.c (.bool true)) (.t 27), none, []⟩] [1, 28]
def c71_2 : ACode := .ops [⟨some 2, .mv (.c (.bool false)), none, []⟩] [2]
def c71_3 : ACode := .seq c71_2 .ret
def c71_4 : ACode := .cond (.t 28) c71_3 .skip
def c71_5 : ACode := .seq c71_1 c71_4
def c71_6 : ACode := .ops [⟨some 29, .fad (.t 1) 2, none, [1]⟩,
  ⟨some 30, .load 3 true (.t 29), none, [1]⟩,
  ⟨some 31, .mv (.c (.int .i64 0)), none, []⟩] [1, 30, 31]
def c71_7 : ACode := .ops [⟨some 32, .bin .lss (.t 31) (.c (.int .i64 3)), none, []⟩] [1, 30, 31, 32]
def c71_8 : ACode := .cond (.t 32) .skip (.exit 0)
def c71_9 : ACode := .ops [⟨some 33, .mv (.t 31), none, []⟩,
  ⟨some 34, .idx (.t 30) (.t 31) 1 3 false, none, []⟩,
  ⟨some 3, .mv (.t 33), none, []⟩,
  ⟨some 4, .mv (.t 34), none, []⟩] [1, 3, 4, 30, 31]
def c71_10 : ACode := .ops [⟨some 35, .mv (.t 4), none, []⟩,
  ⟨some 36, .call 123 [.t 35, .c (.int .i64 32)], none, []⟩,
  ⟨some 37, .un .not (.t 36), none, []⟩,
  ⟨some 38, .mv (.t 37), none, []⟩,
  ⟨some 39, .mv (.t 3), some (38, false), []⟩,
  ⟨some 40, .fad (.t 1) 1, some (38, false), [1]⟩,
  ⟨some 41, .load 1 false (.t 40), some (38, false), [1]⟩,
  ⟨some 42, .bin .geq (.t 39) (.t 41), some (38, false), []⟩,
  ⟨some 43, .mv (.t 42), some (38, false), []⟩,
  ⟨some 44, .mv (.t 4), some (43, true), []⟩,
  ⟨some 45, .bin .neq (.t 44) (.c (.int .i64 0)), some (43, true), []⟩,
  ⟨some 46, .pick (.t 43) (.t 45) (.c (.bool false)), some (38, false), []⟩,
  ⟨some 47, .pick (.t 38) (.c (.bool true)) (.t 46), none, []⟩] [1, 30, 31, 47]
def c71_11 : ACode := .ops [⟨some 2, .mv (.c (.bool false)), none, []⟩] [2]
def c71_12 : ACode := .seq c71_11 .ret
def c71_13 : ACode := .cond (.t 47) c71_12 .skip
def c71_14 : ACode := .seq c71_10 c71_13
def c71_15 : ACode := .seq c71_9 c71_14
def c71_16 : ACode := .block 1 c71_15
def c71_17 : ACode := .ops [⟨some 48, .bin .add (.t 31) (.c (.int .i64 1)), none, []⟩,
  ⟨some 31, .mv (.t 48), none, []⟩] [1, 30, 31]
def c71_18 : ACode := .seq c71_16 c71_17
def c71_19 : ACode := .seq c71_8 c71_18
def c71_20 : ACode := .seq c71_7 c71_19
def c71_21 : ACode := .keep [1, 30, 31] [1] c71_20
def c71_22 : ACode := .loop c71_21
def c71_23 : ACode := .block 0 c71_22
def c71_24 : ACode := .seq c71_6 c71_23
def c71_25 : ACode := .ops [⟨some 49, .fad (.t 1) 5, none, [1]⟩,
  ⟨some 50, .load 1 false (.t 49), none, [1]⟩,
  ⟨some 51, .clo 125 [.t 1], none, [1]⟩,
  ⟨some 52, .call 124 [.t 50, .t 51], none, []⟩,
  ⟨some 53, .un .not (.t 52), none, []⟩,
  ⟨some 2, .mv (.t 53), none, []⟩] [2]
def c71_26 : ACode := .seq c71_25 .ret
def c71_27 : ACode := .seq c71_24 c71_26
def c71_28 : ACode := .seq c71_5 c71_27
def c71_29 : ACode := .seq c71_0 c71_28
def a71 : AFun := ⟨1, 54, c71_29, [.t 2]⟩

/- copse/tree.Right -/
def c76_0 : ACode := .ops [⟨some 4, .mv (.c (.bool false)), none, []⟩] [0, 1]
def c76_1 : ACode := .ops [⟨some 12, .mv (.t 0), none, []⟩,
  ⟨some 13, .len (.t 12), none, []⟩,
  ⟨some 14, .bin .lss (.t 13) (.c (.int .i64 1)), none, []⟩,
  ⟨some 15, .mv (.t 14), none, []⟩,
  ⟨some 16, .mv (.t 0), some (15, false), []⟩,
  ⟨some 17, .len (.t 16), some (15, false), []⟩,
  ⟨some 18, .bin .gtr (.t 17) (.c (.int .i64 31)), some (15, false), []⟩,
  ⟨some 19, .pick (.t 15) (.c (.bool true)) (.t 18), none, []⟩] [0, 1, 19]
def c76_2 : ACode := .ops [⟨some 4, .mv (.c (.bool false)), none, []⟩] [4]
def c76_3 : ACode := .seq c76_2 .ret
def c76_4 : ACode := .cond (.t 19) c76_3 .skip
def c76_5 : ACode := .seq c76_1 c76_4
def c76_6 : ACode := .ops [⟨some 20, .mv (.t 0), none, []⟩,
  ⟨some 21, .len (.t 20), none, []⟩,
  ⟨some 22, .mks 5 (.t 21) 1 [.int .i64 0], none, []⟩,
  ⟨some 5, .mv (.t 22), none, []⟩] [0, 1, 5]
def c76_7 : ACode := .ops [⟨some 23, .mv (.t 0), none, []⟩,
  ⟨some 24, .len (.t 23), none, []⟩,
  ⟨some 25, .mv (.c (.int .i64 0)), none, []⟩] [0, 1, 5, 23, 24, 25]
def c76_8 : ACode := .ops [⟨some 26, .bin .lss (.t 25) (.t 24), none, []⟩] [0, 1, 5, 23, 24, 25, 26]
def c76_9 : ACode := .cond (.t 26) .skip (.exit 0)
def c76_10 : ACode := .ops [⟨some 27, .mv (.t 25), none, []⟩,
  ⟨some 28, .ias (.t 23) (.t 25) 1, none, []⟩,
  ⟨some 29, .load 1 false (.t 28), none, []⟩,
  ⟨some 6, .mv (.t 27), none, []⟩,
  ⟨some 7, .mv (.t 29), none, []⟩] [0, 1, 5, 6, 7, 23, 24, 25]
def c76_11 : ACode := .ops [⟨some 31, .mv (.t 7), none, []⟩,
  ⟨some 32, .call 77 [.t 31], none, []⟩,
  ⟨some 30, .mv (.t 32), none, []⟩,
  ⟨some 33, .ext (.t 30) 0, none, []⟩,
  ⟨some 34, .ext (.t 30) 1, none, []⟩,
  ⟨some 8, .alloc [.bool false, .int .i64 0, .int .i64 0, .int .i64 0, .int .i64 0, .int .i64 0], none, []⟩,
  ⟨none, .store (.t 8) 6 (.t 33), none, [8]⟩,
  ⟨some 9, .mv (.t 34), none, []⟩] [0, 1, 5, 6, 8, 9, 23, 24, 25]
def c76_12 : ACode := .ops [⟨some 35, .mv (.t 9), none, []⟩,
  ⟨some 36, .un .not (.t 35), none, []⟩] [0, 1, 5, 6, 8, 23, 24, 25, 36]
def c76_13 : ACode := .ops [⟨some 4, .mv (.c (.bool false)), none, []⟩] [4]
def c76_14 : ACode := .seq c76_13 .ret
def c76_15 : ACode := .cond (.t 36) c76_14 .skip
def c76_16 : ACode := .seq c76_12 c76_15
def c76_17 : ACode := .ops [⟨some 37, .fad (.t 8) 0, none, [8]⟩,
  ⟨some 38, .load 1 false (.t 37), none, [8]⟩] [0, 1, 5, 6, 8, 23, 24, 25, 38]
def c76_18 : ACode := .cond (.t 38) (.exit 1) .skip
def c76_19 : ACode := .seq c76_17 c76_18
def c76_20 : ACode := .ops [⟨some 39, .fad (.t 8) 2, none, [8]⟩,
  ⟨some 40, .load 1 false (.t 39), none, [8]⟩,
  ⟨some 41, .mv (.t 1), none, []⟩,
  ⟨some 42, .bin .geq (.t 40) (.t 41), none, []⟩,
  ⟨some 43, .mv (.t 42), none, []⟩,
  ⟨some 44, .fad (.t 8) 4, some (43, false), [8]⟩,
  ⟨some 45, .load 1 false (.t 44), some (43, false), [8]⟩,
  ⟨some 46, .fad (.t 8) 5, some (43, false), [8]⟩,
  ⟨some 47, .load 1 false (.t 46), some (43, false), [8]⟩,
  ⟨some 48, .bin .eql (.t 45) (.t 47), some (43, false), []⟩,
  ⟨some 49, .pick (.t 43) (.c (.bool true)) (.t 48), none, []⟩,
  ⟨some 50, .mv (.t 49), none, []⟩,
  ⟨some 51, .fad (.t 8) 4, some (50, false), [8]⟩,
  ⟨some 52, .load 1 false (.t 51), some (50, false), [8]⟩,
  ⟨some 53, .fad (.t 8) 5, some (50, false), [8]⟩,
  ⟨some 54, .load 1 false (.t 53), some (50, false), [8]⟩,
  ⟨some 55, .mnmx false (.t 52) (.t 54), some (50, false), []⟩,
  ⟨some 56, .mv (.t 6), some (50, false), []⟩,
  ⟨some 57, .bin .leq (.t 55) (.t 56), some (50, false), []⟩,
  ⟨some 58, .pick (.t 50) (.c (.bool true)) (.t 57), none, []⟩,
  ⟨some 59, .mv (.t 58), none, []⟩,
  ⟨some 60, .fad (.t 8) 4, some (59, false), [8]⟩,
  ⟨some 61, .load 1 false (.t 60), some (59, false), [8]⟩,
  ⟨some 62, .fad (.t 8) 5, some (59, false), [8]⟩,
  ⟨some 63, .load 1 false (.t 62), some (59, false), [8]⟩,
  ⟨some 64, .mnmx true (.t 61) (.t 63), some (59, false), []⟩,
  ⟨some 65, .mv (.t 0), some (59, false), []⟩,
  ⟨some 66, .len (.t 65), some (59, false), []⟩,
  ⟨some 67, .bin .geq (.t 64) (.t 66), some (59, false), []⟩,
  ⟨some 68, .pick (.t 59) (.c (.bool true)) (.t 67), none, []⟩] [0, 1, 5, 8, 23, 24, 25, 68]
def c76_21 : ACode := .ops [⟨some 4, .mv (.c (.bool false)), none, []⟩] [4]
def c76_22 : ACode := .seq c76_21 .ret
def c76_23 : ACode := .cond (.t 68) c76_22 .skip
def c76_24 : ACode := .seq c76_20 c76_23
def c76_25 : ACode := .ops [⟨some 69, .mv (.t 5), none, []⟩,
  ⟨some 70, .fad (.t 8) 4, none, [8]⟩,
  ⟨some 71, .load 1 false (.t 70), none, [8]⟩,
  ⟨some 72, .ias (.t 69) (.t 71) 1, none, [5]⟩,
  ⟨some 73, .load 1 false (.t 72), none, [5]⟩,
  ⟨some 74, .bin .add (.t 73) (.c (.int .i64 1)), none, []⟩,
  ⟨some 75, .ias (.t 69) (.t 71) 1, none, [5]⟩,
  ⟨none, .store (.t 75) 1 (.t 74), none, [5]⟩] [0, 1, 5, 8, 23, 24, 25]
def c76_26 : ACode := .ops [⟨some 76, .mv (.t 5), none, []⟩,
  ⟨some 77, .fad (.t 8) 5, none, [8]⟩,
  ⟨some 78, .load 1 false (.t 77), none, [8]⟩,
  ⟨some 79, .ias (.t 76) (.t 78) 1, none, [5]⟩,
  ⟨some 80, .load 1 false (.t 79), none, [5]⟩,
  ⟨some 81, .bin .add (.t 80) (.c (.int .i64 1)), none, []⟩,
  ⟨some 82, .ias (.t 76) (.t 78) 1, none, [5]⟩,
  ⟨none, .store (.t 82) 1 (.t 81), none, [5]⟩] [0, 1, 5, 23, 24, 25]
def c76_27 : ACode := .seq c76_25 c76_26
def c76_28 : ACode := .seq c76_24 c76_27
def c76_29 : ACode := .seq c76_19 c76_28
def c76_30 : ACode := .seq c76_16 c76_29
def c76_31 : ACode := .seq c76_11 c76_30
def c76_32 : ACode := .seq c76_10 c76_31
def c76_33 : ACode := .block 1 c76_32
def c76_34 : ACode := .ops [⟨some 83, .bin .add (.t 25) (.c (.int .i64 1)), none, []⟩,
  ⟨some 25, .mv (.t 83), none, []⟩] [0, 1, 5, 23, 24, 25]
def c76_35 : ACode := .seq c76_33 c76_34
def c76_36 : ACode := .seq c76_9 c76_35
def c76_37 : ACode := .seq c76_8 c76_36
def c76_38 : ACode := .keep [0, 1, 5, 23, 24, 25] [5] c76_37
def c76_39 : ACode := .loop c76_38
def c76_40 : ACode := .block 0 c76_39
def c76_41 : ACode := .seq c76_7 c76_40
def c76_42 : ACode := .ops [⟨some 84, .mv (.t 5), none, []⟩,
  ⟨some 85, .sl (.t 84) (some (.c (.int .i64 1))) none 1, none, [5]⟩,
  ⟨some 86, .len (.t 85), none, [5]⟩,
  ⟨some 87, .mv (.c (.int .i64 0)), none, []⟩] [85, 86, 87]
def c76_43 : ACode := .ops [⟨some 88, .bin .lss (.t 87) (.t 86), none, []⟩] [85, 86, 87, 88]
def c76_44 : ACode := .cond (.t 88) .skip (.exit 2)
def c76_45 : ACode := .ops [⟨some 89, .ias (.t 85) (.t 87) 1, none, [5]⟩,
  ⟨some 90, .load 1 false (.t 89), none, [5]⟩,
  ⟨some 11, .mv (.t 90), none, []⟩] [11, 85, 86, 87]
def c76_46 : ACode := .ops [⟨some 91, .mv (.t 11), none, []⟩,
  ⟨some 92, .bin .neq (.t 91) (.c (.int .i64 1)), none, []⟩] [85, 86, 87, 92]
def c76_47 : ACode := .ops [⟨some 4, .mv (.c (.bool false)), none, []⟩] [4]
def c76_48 : ACode := .seq c76_47 .ret
def c76_49 : ACode := .cond (.t 92) c76_48 .skip
def c76_50 : ACode := .seq c76_46 c76_49
def c76_51 : ACode := .seq c76_45 c76_50
def c76_52 : ACode := .block 3 c76_51
def c76_53 : ACode := .ops [⟨some 93, .bin .add (.t 87) (.c (.int .i64 1)), none, []⟩,
  ⟨some 87, .mv (.t 93), none, []⟩] [85, 86, 87]
def c76_54 : ACode := .seq c76_52 c76_53
def c76_55 : ACode := .seq c76_44 c76_54
def c76_56 : ACode := .seq c76_43 c76_55
def c76_57 : ACode := .keep [85, 86, 87] [5] c76_56
def c76_58 : ACode := .loop c76_57
def c76_59 : ACode := .block 2 c76_58
def c76_60 : ACode := .seq c76_42 c76_59
def c76_61 : ACode := .ops [⟨some 4, .mv (.c (.bool true)), none, []⟩] [4]
def c76_62 : ACode := .seq c76_61 .ret
def c76_63 : ACode := .seq c76_60 c76_62
def c76_64 : ACode := .seq c76_41 c76_63
def c76_65 : ACode := .seq c76_6 c76_64
def c76_66 : ACode := .seq c76_5 c76_65
def c76_67 : ACode := .seq c76_0 c76_66
def a76 : AFun := ⟨2, 94, c76_67, [.t 4]⟩

/- copse/node.Unpack -/
def c77_0 : ACode := .ops [⟨some 1, .box (.t 0) 1, none, []⟩,
  ⟨some 2, .alloc [.bool false, .int .i64 0, .int .i64 0, .int .i64 0, .int .i64 0, .int .i64 0], none, []⟩,
  ⟨some 3, .mv (.c (.bool false)), none, []⟩] [1, 2]
def c77_1 : ACode := .ops [⟨some 7, .load 1 false (.t 1), none, [1]⟩,
  ⟨some 8, .call 128 [.t 7, .c (.int .i64 0), .c (.int .i64 32)], none, []⟩,
  ⟨some 4, .mv (.t 8), none, []⟩] [1, 2, 4]
def c77_2 : ACode := .ops [⟨some 9, .mv (.t 4), none, []⟩,
  ⟨some 10, .build [.bool false, .int .i64 0, .int .i64 0, .int .i64 0, .int .i64 0, .int .i64 0] [(0, 1, .c (.bool true)), (1, 1, .t 9)], none, []⟩,
  ⟨some 5, .alloc [.bool false, .int .i64 0, .int .i64 0, .int .i64 0, .int .i64 0, .int .i64 0], none, []⟩,
  ⟨none, .store (.t 5) 6 (.t 10), none, [5]⟩] [1, 2, 4, 5]
def c77_3 : ACode := .ops [⟨some 11, .load 1 false (.t 1), none, [1]⟩,
  ⟨some 12, .call 129 [.t 11, .c (.int .i64 63), .c (.int .i64 1)], none, []⟩,
  ⟨some 13, .bin .eql (.t 12) (.c (.int .u64 0)), none, []⟩] [1, 2, 4, 5, 13]
def c77_4 : ACode := .ops [⟨some 14, .clo 130 [.t 1], none, [1]⟩,
  ⟨some 6, .mv (.t 14), none, []⟩] [1, 2, 4, 5, 6]
def c77_5 : ACode := .ops [⟨some 15, .mv (.t 4), none, []⟩,
  ⟨some 16, .mv (.t 6), none, []⟩,
  ⟨some 17, .dyn (.t 16) [.c (.int .i64 32), .c (.int .i64 4)], none, []⟩,
  ⟨some 18, .mv (.t 6), none, []⟩,
  ⟨some 19, .dyn (.t 18) [.c (.int .i64 40), .c (.int .i64 8)], none, []⟩,
  ⟨some 20, .mv (.t 6), none, []⟩,
  ⟨some 21, .dyn (.t 20) [.c (.int .i64 48), .c (.int .i64 8)], none, []⟩,
  ⟨some 22, .build [.bool false, .int .i64 0, .int .i64 0, .int .i64 0, .int .i64 0, .int .i64 0] [(3, 1, .t 15), (2, 1, .t 17), (4, 1, .t 19), (5, 1, .t 21)], none, []⟩,
  ⟨none, .store (.t 5) 6 (.t 22), none, [5]⟩] [1, 2, 5]
def c77_6 : ACode := .seq c77_4 c77_5
def c77_7 : ACode := .cond (.t 13) c77_6 .skip
def c77_8 : ACode := .seq c77_3 c77_7
def c77_9 : ACode := .ops [⟨some 23, .load 1 false (.t 1), none, [1]⟩,
  ⟨some 24, .bin .eql (.t 23) (.c (.int .u64 0)), none, []⟩,
  ⟨some 25, .mv (.t 24), none, []⟩,
  ⟨some 26, .load 6 true (.t 5), some (25, false), [5]⟩,
  ⟨some 27, .call 131 [.t 26], some (25, false), []⟩,
  ⟨some 28, .load 1 false (.t 1), some (25, false), [1]⟩,
  ⟨some 29, .bin .neq (.t 27) (.t 28), some (25, false), []⟩,
  ⟨some 30, .pick (.t 25) (.c (.bool true)) (.t 29), none, []⟩] [2, 5, 30]
def c77_10 : ACode := .ops [⟨some 31, .build [.bool false, .int .i64 0, .int .i64 0, .int .i64 0, .int .i64 0, .int .i64 0] [], none, []⟩,
  ⟨none, .store (.t 2) 6 (.t 31), none, [2]⟩,
  ⟨some 3, .mv (.c (.bool false)), none, []⟩] [2, 3]
def c77_11 : ACode := .seq c77_10 .ret
def c77_12 : ACode := .cond (.t 30) c77_11 .skip
def c77_13 : ACode := .seq c77_9 c77_12
def c77_14 : ACode := .ops [⟨some 32, .load 6 true (.t 5), none, [5]⟩,
  ⟨none, .store (.t 2) 6 (.t 32), none, [2]⟩,
  ⟨some 3, .mv (.c (.bool true)), none, []⟩] [2, 3]
def c77_15 : ACode := .seq c77_14 .ret
def c77_16 : ACode := .seq c77_13 c77_15
def c77_17 : ACode := .seq c77_8 c77_16
def c77_18 : ACode := .seq c77_2 c77_17
def c77_19 : ACode := .seq c77_1 c77_18
def c77_20 : ACode := .seq c77_0 c77_19
def a77 : AFun := ⟨1, 33, c77_20, [.cell 2 6 true, .t 3]⟩

/- copse/bound.Margin -/
def c79_0 : ACode := .ops [⟨some 3, .box (.t 0) 6, none, []⟩,
  ⟨some 5, .box (.t 2) 10, none, []⟩,
  ⟨some 6, .mv (.c (.int .i64 0)), none, []⟩,
  ⟨some 7, .mv (.c (.bool false)), none, []⟩] [1, 3, 5]
def c79_1 : ACode := .ops [⟨some 18, .load 6 true (.t 3), none, [3]⟩,
  ⟨some 19, .mv (.t 1), none, []⟩,
  ⟨some 20, .load 10 true (.t 5), none, [5]⟩,
  ⟨some 21, .call 44 [.t 18, .t 19, .t 20], none, []⟩,
  ⟨some 17, .mv (.t 21), none, []⟩,
  ⟨some 22, .ext (.t 17) 0, none, []⟩,
  ⟨some 23, .ext (.t 17) 1, none, []⟩,
  ⟨some 24, .ext (.t 17) 2, none, []⟩,
  ⟨some 8, .mv (.t 22), none, []⟩,
  ⟨some 9, .mv (.t 23), none, []⟩,
  ⟨some 10, .mv (.t 24), none, []⟩] [1, 3, 5, 8, 10]
def c79_2 : ACode := .ops [⟨some 25, .mv (.t 10), none, []⟩,
  ⟨some 26, .un .not (.t 25), none, []⟩,
  ⟨some 27, .mv (.t 26), none, []⟩,
  ⟨some 28, .fad (.t 3) 1, some (27, false), [3]⟩,
  ⟨some 29, .load 1 false (.t 28), some (27, false), [3]⟩,
  ⟨some 30, .bin .lss (.t 29) (.c (.int .i64 2)), some (27, false), []⟩,
  ⟨some 31, .pick (.t 27) (.c (.bool true)) (.t 30), none, []⟩] [1, 3, 5, 8, 31]
def c79_3 : ACode := .ops [⟨some 6, .mv (.c (.int .i64 0)), none, []⟩,
  ⟨some 7, .mv (.c (.bool false)), none, []⟩] [6, 7]
def c79_4 : ACode := .seq c79_3 .ret
def c79_5 : ACode := .cond (.t 31) c79_4 .skip
def c79_6 : ACode := .seq c79_2 c79_5
def c79_7 : ACode := .ops [⟨some 11, .mv (.c (.int .i64 0)), none, []⟩,
  ⟨some 12, .mv (.c (.bool false)), none, []⟩] [1, 3, 5, 8, 11, 12]
def c79_8 : ACode := .ops [⟨some 32, .fad (.t 3) 1, none, [3]⟩,
  ⟨some 33, .load 1 false (.t 32), none, [3]⟩,
  ⟨some 34, .mv (.c (.int .i64 0)), none, []⟩] [1, 3, 5, 8, 11, 12, 33, 34]
def c79_9 : ACode := .ops [⟨some 35, .bin .lss (.t 34) (.t 33), none, []⟩] [1, 3, 5, 8, 11, 12, 33, 34, 35]
def c79_10 : ACode := .cond (.t 35) .skip (.exit 0)
def c79_11 : ACode := .ops [⟨some 36, .mv (.t 34), none, []⟩,
  ⟨some 13, .mv (.t 36), none, []⟩] [1, 3, 5, 8, 11, 12, 13, 33, 34]
def c79_12 : ACode := .ops [⟨some 37, .mv (.t 13), none, []⟩,
  ⟨some 38, .mv (.t 1), none, []⟩,
  ⟨some 39, .bin .eql (.t 37) (.t 38), none, []⟩] [1, 3, 5, 8, 11, 12, 13, 33, 34, 39]
def c79_13 : ACode := .cond (.t 39) (.exit 1) .skip
def c79_14 : ACode := .seq c79_12 c79_13
def c79_15 : ACode := .ops [⟨some 41, .load 6 true (.t 3), none, [3]⟩,
  ⟨some 42, .mv (.t 13), none, []⟩,
  ⟨some 43, .load 10 true (.t 5), none, [5]⟩,
  ⟨some 44, .call 44 [.t 41, .t 42, .t 43], none, []⟩,
  ⟨some 40, .mv (.t 44), none, []⟩,
  ⟨some 45, .ext (.t 40) 0, none, []⟩,
  ⟨some 46, .ext (.t 40) 1, none, []⟩,
  ⟨some 47, .ext (.t 40) 2, none, []⟩,
  ⟨some 14, .mv (.t 45), none, []⟩,
  ⟨some 15, .mv (.t 46), none, []⟩,
  ⟨some 16, .mv (.t 47), none, []⟩] [1, 3, 5, 8, 11, 12, 15, 33, 34]
def c79_16 : ACode := .ops [⟨some 48, .mv (.t 12), none, []⟩,
  ⟨some 49, .un .not (.t 48), none, []⟩,
  ⟨some 50, .mv (.t 49), none, []⟩,
  ⟨some 51, .mv (.t 8), some (50, false), []⟩,
  ⟨some 52, .mv (.t 15), some (50, false), []⟩,
  ⟨some 53, .bin .sub (.t 51) (.t 52), some (50, false), []⟩,
  ⟨some 54, .mv (.t 11), some (50, false), []⟩,
  ⟨some 55, .bin .lss (.t 53) (.t 54), some (50, false), []⟩,
  ⟨some 56, .pick (.t 50) (.c (.bool true)) (.t 55), none, []⟩] [1, 3, 5, 8, 11, 12, 15, 33, 34, 56]
def c79_17 : ACode := .ops [⟨some 57, .mv (.t 8), none, []⟩,
  ⟨some 58, .mv (.t 15), none, []⟩,
  ⟨some 59, .bin .sub (.t 57) (.t 58), none, []⟩,
  ⟨some 11, .mv (.t 59), none, []⟩,
  ⟨some 12, .mv (.c (.bool true)), none, []⟩] [1, 3, 5, 8, 11, 12, 33, 34]
def c79_18 : ACode := .cond (.t 56) c79_17 .skip
def c79_19 : ACode := .seq c79_16 c79_18
def c79_20 : ACode := .seq c79_15 c79_19
def c79_21 : ACode := .seq c79_14 c79_20
def c79_22 : ACode := .seq c79_11 c79_21
def c79_23 : ACode := .block 1 c79_22
def c79_24 : ACode := .ops [⟨some 60, .bin .add (.t 34) (.c (.int .i64 1)), none, []⟩,
  ⟨some 34, .mv (.t 60), none, []⟩] [1, 3, 5, 8, 11, 12, 33, 34]
def c79_25 : ACode := .seq c79_23 c79_24
def c79_26 : ACode := .seq c79_10 c79_25
def c79_27 : ACode := .seq c79_9 c79_26
def c79_28 : ACode := .keep [1, 3, 5, 8, 11, 12, 33, 34] [3, 5] c79_27
def c79_29 : ACode := .loop c79_28
def c79_30 : ACode := .block 0 c79_29
def c79_31 : ACode := .seq c79_8 c79_30
def c79_32 : ACode := .ops [⟨some 61, .mv (.t 11), none, []⟩,
  ⟨some 6, .mv (.t 61), none, []⟩,
  ⟨some 7, .mv (.c (.bool true)), none, []⟩] [6, 7]
def c79_33 : ACode := .seq c79_32 .ret
def c79_34 : ACode := .seq c79_31 c79_33
def c79_35 : ACode := .seq c79_7 c79_34
def c79_36 : ACode := .seq c79_6 c79_35
def c79_37 : ACode := .seq c79_1 c79_36
def c79_38 : ACode := .seq c79_0 c79_37
def a79 : AFun := ⟨3, 62, c79_38, [.t 6, .t 7]⟩

/- copse/model.Thresholds -/
def c96_0 : ACode := .ops [⟨some 2, .box (.t 0) 6, none, []⟩,
  ⟨some 4, .mv (.c (.nils)), none, []⟩] [1, 2]
def c96_1 : ACode := .ops [⟨some 12, .load 6 true (.t 2), none, [2]⟩,
  ⟨some 13, .call 71 [.t 12], none, []⟩,
  ⟨some 14, .un .not (.t 13), none, []⟩] [1, 2, 14]
def c96_2 : ACode := .ops [⟨some 4, .mv (.c (.nils)), none, []⟩] [4]
def c96_3 : ACode := .seq c96_2 .ret
def c96_4 : ACode := .cond (.t 14) c96_3 .skip
def c96_5 : ACode := .seq c96_1 c96_4
def c96_6 : ACode := .ops [⟨some 5, .nil0 5 1, none, []⟩] [1, 2, 5]
def c96_7 : ACode := .ops [⟨some 15, .fad (.t 2) 5, none, [2]⟩,
  ⟨some 16, .load 1 false (.t 15), none, [2]⟩,
  ⟨some 17, .len (.t 16), none, []⟩,
  ⟨some 18, .mv (.c (.int .i64 0)), none, []⟩] [1, 5, 16, 17, 18]
def c96_8 : ACode := .ops [⟨some 19, .bin .lss (.t 18) (.t 17), none, []⟩] [1, 5, 16, 17, 18, 19]
def c96_9 : ACode := .cond (.t 19) .skip (.exit 0)
def c96_10 : ACode := .ops [⟨some 20, .ias (.t 16) (.t 18) 2, none, []⟩,
  ⟨some 21, .load 2 true (.t 20), none, []⟩,
  ⟨some 7, .alloc [.int .i64 0, .nils], none, []⟩,
  ⟨none, .store (.t 7) 2 (.t 21), none, [7]⟩] [1, 5, 7, 16, 17, 18]
def c96_11 : ACode := .ops [⟨some 22, .fad (.t 7) 1, none, [7]⟩,
  ⟨some 23, .load 1 false (.t 22), none, [7]⟩,
  ⟨some 24, .len (.t 23), none, []⟩,
  ⟨some 25, .mv (.c (.int .i64 0)), none, []⟩] [1, 5, 16, 17, 18, 23, 24, 25]
def c96_12 : ACode := .ops [⟨some 26, .bin .lss (.t 25) (.t 24), none, []⟩] [1, 5, 16, 17, 18, 23, 24, 25, 26]
def c96_13 : ACode := .cond (.t 26) .skip (.exit 2)
def c96_14 : ACode := .ops [⟨some 27, .ias (.t 23) (.t 25) 1, none, []⟩,
  ⟨some 28, .load 1 false (.t 27), none, []⟩,
  ⟨some 9, .mv (.t 28), none, []⟩] [1, 5, 9, 16, 17, 18, 23, 24, 25]
def c96_15 : ACode := .ops [⟨some 30, .mv (.t 9), none, []⟩,
  ⟨some 31, .call 77 [.t 30], none, []⟩,
  ⟨some 29, .mv (.t 31), none, []⟩,
  ⟨some 32, .ext (.t 29) 0, none, []⟩,
  ⟨some 33, .ext (.t 29) 1, none, []⟩,
  ⟨some 10, .alloc [.bool false, .int .i64 0, .int .i64 0, .int .i64 0, .int .i64 0, .int .i64 0], none, []⟩,
  ⟨none, .store (.t 10) 6 (.t 32), none, [10]⟩,
  ⟨some 11, .mv (.t 33), none, []⟩] [1, 5, 10, 16, 17, 18, 23, 24, 25]
def c96_16 : ACode := .ops [⟨some 34, .fad (.t 10) 0, none, [10]⟩,
  ⟨some 35, .load 1 false (.t 34), none, [10]⟩,
  ⟨some 36, .un .not (.t 35), none, []⟩,
  ⟨some 37, .mv (.t 36), none, []⟩,
  ⟨some 38, .fad (.t 10) 2, some (37, true), [10]⟩,
  ⟨some 39, .load 1 false (.t 38), some (37, true), [10]⟩,
  ⟨some 40, .mv (.t 1), some (37, true), []⟩,
  ⟨some 41, .bin .eql (.t 39) (.t 40), some (37, true), []⟩,
  ⟨some 42, .pick (.t 37) (.t 41) (.c (.bool false)), none, []⟩] [1, 5, 10, 16, 17, 18, 23, 24, 25, 42]
def c96_17 : ACode := .ops [⟨some 43, .mv (.t 5), none, []⟩,
  ⟨some 44, .fad (.t 10) 3, none, [10]⟩,
  ⟨some 45, .load 1 false (.t 44), none, [10]⟩,
  ⟨some 46, .mkrow 46 1 1 [.int .i64 0] [(0, 1, .t 45)], none, []⟩,
  ⟨some 47, .app 5 [5] (.t 43) (.t 46) 1, none, [5, 46]⟩,
  ⟨some 5, .mv (.t 47), none, []⟩] [1, 5, 16, 17, 18, 23, 24, 25]
def c96_18 : ACode := .cond (.t 42) c96_17 .skip
def c96_19 : ACode := .seq c96_16 c96_18
def c96_20 : ACode := .seq c96_15 c96_19
def c96_21 : ACode := .seq c96_14 c96_20
def c96_22 : ACode := .block 3 c96_21
def c96_23 : ACode := .ops [⟨some 48, .bin .add (.t 25) (.c (.int .i64 1)), none, []⟩,
  ⟨some 25, .mv (.t 48), none, []⟩] [1, 5, 16, 17, 18, 23, 24, 25]
def c96_24 : ACode := .seq c96_22 c96_23
def c96_25 : ACode := .seq c96_13 c96_24
def c96_26 : ACode := .seq c96_12 c96_25
def c96_27 : ACode := .keep [1, 5, 16, 17, 18, 23, 24, 25] [5] c96_26
def c96_28 : ACode := .loop c96_27
def c96_29 : ACode := .block 2 c96_28
def c96_30 : ACode := .seq c96_11 c96_29
def c96_31 : ACode := .seq c96_10 c96_30
def c96_32 : ACode := .block 1 c96_31
def c96_33 : ACode := .ops [⟨some 49, .bin .add (.t 18) (.c (.int .i64 1)), none, []⟩,
  ⟨some 18, .mv (.t 49), none, []⟩] [1, 5, 16, 17, 18]
def c96_34 : ACode := .seq c96_32 c96_33
def c96_35 : ACode := .seq c96_9 c96_34
def c96_36 : ACode := .seq c96_8 c96_35
def c96_37 : ACode := .keep [1, 5, 16, 17, 18] [5] c96_36
def c96_38 : ACode := .loop c96_37
def c96_39 : ACode := .block 0 c96_38
def c96_40 : ACode := .seq c96_7 c96_39
def c96_41 : ACode := .ops [⟨some 50, .mv (.t 5), none, []⟩,
  ⟨some 51, .gcall 144 [.t 50] [5] 5, none, [5]⟩] [5]
def c96_42 : ACode := .ops [⟨some 52, .mv (.t 5), none, []⟩,
  ⟨some 53, .gcall 145 [.t 52] [5] 5, none, [5]⟩,
  ⟨some 4, .mv (.t 53), none, []⟩] [4]
def c96_43 : ACode := .seq c96_42 .ret
def c96_44 : ACode := .seq c96_41 c96_43
def c96_45 : ACode := .seq c96_40 c96_44
def c96_46 : ACode := .seq c96_6 c96_45
def c96_47 : ACode := .seq c96_5 c96_46
def c96_48 : ACode := .seq c96_0 c96_47
def a96 : AFun := ⟨2, 54, c96_48, [.t 4]⟩

/- copse/tree.Value -/
def c99_0 : ACode := .ops [⟨some 3, .box (.t 1) 4, none, []⟩,
  ⟨some 4, .mv (.c (.int .i64 0)), none, []⟩] [0, 3]
def c99_1 : ACode := .ops [⟨some 8, .mv (.t 0), none, []⟩,
  ⟨some 9, .load 4 true (.t 3), none, [3]⟩,
  ⟨some 10, .call 148 [.t 8, .t 9], none, []⟩,
  ⟨some 7, .mv (.t 10), none, []⟩,
  ⟨some 11, .ext (.t 7) 0, none, []⟩,
  ⟨some 12, .ext (.t 7) 1, none, []⟩,
  ⟨some 6, .alloc [.bool false, .int .i64 0, .int .i64 0, .int .i64 0, .int .i64 0, .int .i64 0], none, []⟩,
  ⟨some 5, .mv (.t 11), none, []⟩,
  ⟨none, .store (.t 6) 6 (.t 12), none, [6]⟩] [6]
def c99_2 : ACode := .ops [⟨some 13, .fad (.t 6) 1, none, [6]⟩,
  ⟨some 14, .load 1 false (.t 13), none, [6]⟩,
  ⟨some 4, .mv (.t 14), none, []⟩] [4]
def c99_3 : ACode := .seq c99_2 .ret
def c99_4 : ACode := .seq c99_1 c99_3
def c99_5 : ACode := .seq c99_0 c99_4
def a99 : AFun := ⟨2, 15, c99_5, [.t 4]⟩

/- copse/grid.Cuts -/
def c102_0 : ACode := .ops [⟨some 4, .box (.t 0) 6, none, []⟩,
  ⟨some 5, .box (.t 1) 17, none, []⟩,
  ⟨some 6, .box (.t 2) 10, none, []⟩,
  ⟨some 8, .mv (.c (.nils)), none, []⟩] [3, 4, 5, 6]
def c102_1 : ACode := .ops [⟨some 11, .load 17 true (.t 5), none, [5]⟩,
  ⟨some 12, .mv (.t 3), none, []⟩,
  ⟨some 13, .call 152 [.t 11, .t 12], none, []⟩,
  ⟨some 9, .mv (.t 13), none, []⟩] [3, 4, 6, 9]
def c102_2 : ACode := .ops [⟨some 14, .mv (.t 9), none, []⟩,
  ⟨some 15, .bin .lss (.t 14) (.c (.int .i64 0)), none, []⟩] [3, 4, 6, 9, 15]
def c102_3 : ACode := .ops [⟨some 8, .mv (.c (.nils)), none, []⟩] [8]
def c102_4 : ACode := .seq c102_3 .ret
def c102_5 : ACode := .cond (.t 15) c102_4 .skip
def c102_6 : ACode := .seq c102_2 c102_5
def c102_7 : ACode := .ops [⟨some 16, .mv (.t 3), none, []⟩,
  ⟨some 17, .iad (.t 6) (.t 16) 2 5, none, [6]⟩,
  ⟨some 18, .load 2 true (.t 17), none, [6]⟩,
  ⟨some 10, .alloc [.int .i64 0, .int .i64 0], none, []⟩,
  ⟨none, .store (.t 10) 2 (.t 18), none, [10]⟩] [4, 9, 10]
def c102_8 : ACode := .ops [⟨some 19, .load 6 true (.t 4), none, [4]⟩,
  ⟨some 20, .mv (.t 9), none, []⟩,
  ⟨some 21, .gcall 96 [.t 19, .t 20] [] 21, none, []⟩,
  ⟨some 22, .clo 154 [.t 10], none, [10]⟩,
  ⟨some 23, .gcall 153 [.t 21, .t 22] [21] 21, none, [21]⟩,
  ⟨some 8, .mv (.t 23), none, []⟩] [8]
def c102_9 : ACode := .seq c102_8 .ret
def c102_10 : ACode := .seq c102_7 c102_9
def c102_11 : ACode := .seq c102_6 c102_10
def c102_12 : ACode := .seq c102_1 c102_11
def c102_13 : ACode := .seq c102_0 c102_12
def a102 : AFun := ⟨4, 24, c102_13, [.t 8]⟩

/- copse/goal.Split -/
def c108_0 : ACode := .ops [⟨some 3, .box (.t 0) 6, none, []⟩,
  ⟨some 4, .box (.t 1) 17, none, []⟩,
  ⟨some 5, .box (.t 2) 10, none, []⟩,
  ⟨some 6, .mv (.c (.int .i64 0)), none, []⟩,
  ⟨some 7, .mv (.c (.int .i64 0)), none, []⟩,
  ⟨some 8, .mv (.c (.bool false)), none, []⟩] [3, 4, 5]
def c108_1 : ACode := .ops [⟨some 11, .mv (.c (.int .i64 0)), none, []⟩] [3, 4, 5, 11]
def c108_2 : ACode := .ops [⟨some 12, .bin .lss (.t 11) (.c (.int .i64 5)), none, []⟩] [3, 4, 5, 11, 12]
def c108_3 : ACode := .cond (.t 12) .skip (.exit 0)
def c108_4 : ACode := .ops [⟨some 13, .mv (.t 11), none, []⟩,
  ⟨some 9, .mv (.t 13), none, []⟩] [3, 4, 5, 9, 11]
def c108_5 : ACode := .ops [⟨some 14, .load 6 true (.t 3), none, [3]⟩,
  ⟨some 15, .load 17 true (.t 4), none, [4]⟩,
  ⟨some 16, .load 10 true (.t 5), none, [5]⟩,
  ⟨some 17, .mv (.t 9), none, []⟩,
  ⟨some 18, .call 102 [.t 14, .t 15, .t 16, .t 17], none, []⟩,
  ⟨some 10, .mv (.t 18), none, []⟩] [3, 4, 5, 9, 10, 11]
def c108_6 : ACode := .ops [⟨some 19, .mv (.t 10), none, []⟩,
  ⟨some 20, .len (.t 19), none, []⟩,
  ⟨some 21, .bin .gtr (.t 20) (.c (.int .i64 0)), none, []⟩] [3, 4, 5, 9, 10, 11, 21]
def c108_7 : ACode := .ops [⟨some 22, .mv (.t 9), none, []⟩,
  ⟨some 23, .mv (.t 10), none, []⟩,
  ⟨some 24, .mv (.t 10), none, []⟩,
  ⟨some 25, .len (.t 24), none, []⟩,
  ⟨some 26, .bin .sub (.t 25) (.c (.int .i64 1)), none, []⟩,
  ⟨some 27, .bin .quo (.t 26) (.c (.int .i64 2)), none, []⟩,
  ⟨some 28, .ias (.t 23) (.t 27) 1, none, []⟩,
  ⟨some 29, .load 1 false (.t 28), none, []⟩,
  ⟨some 6, .mv (.t 22), none, []⟩,
  ⟨some 7, .mv (.t 29), none, []⟩,
  ⟨some 8, .mv (.c (.bool true)), none, []⟩] [6, 7, 8]
def c108_8 : ACode := .seq c108_7 .ret
def c108_9 : ACode := .cond (.t 21) c108_8 .skip
def c108_10 : ACode := .seq c108_6 c108_9
def c108_11 : ACode := .seq c108_5 c108_10
def c108_12 : ACode := .seq c108_4 c108_11
def c108_13 : ACode := .block 1 c108_12
def c108_14 : ACode := .ops [⟨some 30, .bin .add (.t 11) (.c (.int .i64 1)), none, []⟩,
  ⟨some 11, .mv (.t 30), none, []⟩] [3, 4, 5, 11]
def c108_15 : ACode := .seq c108_13 c108_14
def c108_16 : ACode := .seq c108_3 c108_15
def c108_17 : ACode := .seq c108_2 c108_16
def c108_18 : ACode := .keep [3, 4, 5, 11] [3, 4, 5] c108_17
def c108_19 : ACode := .loop c108_18
def c108_20 : ACode := .block 0 c108_19
def c108_21 : ACode := .seq c108_1 c108_20
def c108_22 : ACode := .ops [⟨some 6, .mv (.c (.int .i64 0)), none, []⟩,
  ⟨some 7, .mv (.c (.int .i64 0)), none, []⟩,
  ⟨some 8, .mv (.c (.bool false)), none, []⟩] [6, 7, 8]
def c108_23 : ACode := .seq c108_22 .ret
def c108_24 : ACode := .seq c108_21 c108_23
def c108_25 : ACode := .seq c108_0 c108_24
def a108 : AFun := ⟨3, 31, c108_25, [.t 6, .t 7, .t 8]⟩

/- copse/goal.Closed -/
def c109_0 : ACode := .ops [⟨some 3, .box (.t 0) 6, none, []⟩,
  ⟨some 4, .box (.t 1) 17, none, []⟩,
  ⟨some 5, .box (.t 2) 10, none, []⟩,
  ⟨some 6, .mv (.c (.bool false)), none, []⟩] [3, 4, 5]
def c109_1 : ACode := .ops [⟨some 15, .load 6 true (.t 3), none, [3]⟩,
  ⟨some 16, .load 17 true (.t 4), none, [4]⟩,
  ⟨some 17, .call 56 [.t 15, .t 16], none, []⟩,
  ⟨some 18, .un .not (.t 17), none, []⟩] [3, 4, 5, 18]
def c109_2 : ACode := .ops [⟨some 6, .mv (.c (.bool false)), none, []⟩] [6]
def c109_3 : ACode := .seq c109_2 .ret
def c109_4 : ACode := .cond (.t 18) c109_3 .skip
def c109_5 : ACode := .seq c109_1 c109_4
def c109_6 : ACode := .ops [⟨some 19, .load 10 true (.t 5), none, [5]⟩,
  ⟨some 20, .call 68 [.t 19], none, []⟩] [3, 4, 5, 20]
def c109_7 : ACode := .ops [⟨some 6, .mv (.c (.bool true)), none, []⟩] [6]
def c109_8 : ACode := .seq c109_7 .ret
def c109_9 : ACode := .cond (.t 20) c109_8 .skip
def c109_10 : ACode := .seq c109_6 c109_9
def c109_11 : ACode := .ops [⟨some 21, .fad (.t 4) 0, none, [4]⟩,
  ⟨some 22, .load 1 false (.t 21), none, [4]⟩] [3, 4, 5, 22]
def c109_12 : ACode := .ops [⟨some 24, .bin .eql (.t 22) (.c (.int .i64 1)), none, []⟩,
  ⟨some 23, .mv (.t 24), none, []⟩] [3, 4, 5, 22, 23]
def c109_13 : ACode := .ops [⟨some 26, .load 6 true (.t 3), none, [3]⟩,
  ⟨some 27, .fad (.t 4) 1, none, [4]⟩,
  ⟨some 28, .load 1 false (.t 27), none, [4]⟩,
  ⟨some 29, .load 10 true (.t 5), none, [5]⟩,
  ⟨some 30, .call 44 [.t 26, .t 28, .t 29], none, []⟩,
  ⟨some 25, .mv (.t 30), none, []⟩,
  ⟨some 31, .ext (.t 25) 0, none, []⟩,
  ⟨some 32, .ext (.t 25) 1, none, []⟩,
  ⟨some 33, .ext (.t 25) 2, none, []⟩,
  ⟨some 7, .mv (.t 31), none, []⟩,
  ⟨some 8, .mv (.t 32), none, []⟩,
  ⟨some 9, .mv (.t 33), none, []⟩] [4, 7, 8, 9]
def c109_14 : ACode := .ops [⟨some 34, .mv (.t 9), none, []⟩,
  ⟨some 35, .mv (.t 34), none, []⟩,
  ⟨some 36, .fad (.t 4) 12, some (35, true), [4]⟩,
  ⟨some 37, .load 1 false (.t 36), some (35, true), [4]⟩,
  ⟨some 38, .mv (.t 7), some (35, true), []⟩,
  ⟨some 39, .bin .leq (.t 37) (.t 38), some (35, true), []⟩,
  ⟨some 40, .pick (.t 35) (.t 39) (.c (.bool false)), none, []⟩,
  ⟨some 41, .mv (.t 40), none, []⟩,
  ⟨some 42, .mv (.t 8), some (41, true), []⟩,
  ⟨some 43, .fad (.t 4) 13, some (41, true), [4]⟩,
  ⟨some 44, .load 1 false (.t 43), some (41, true), [4]⟩,
  ⟨some 45, .bin .leq (.t 42) (.t 44), some (41, true), []⟩,
  ⟨some 46, .pick (.t 41) (.t 45) (.c (.bool false)), none, []⟩,
  ⟨some 6, .mv (.t 46), none, []⟩] [6]
def c109_15 : ACode := .seq c109_14 .ret
def c109_16 : ACode := .seq c109_13 c109_15
def c109_17 : ACode := .ops [⟨some 48, .bin .eql (.t 22) (.c (.int .i64 2)), none, []⟩,
  ⟨some 47, .mv (.t 48), none, []⟩] [3, 4, 5, 47]
def c109_18 : ACode := .ops [⟨some 50, .load 6 true (.t 3), none, [3]⟩,
  ⟨some 51, .fad (.t 4) 1, none, [4]⟩,
  ⟨some 52, .load 1 false (.t 51), none, [4]⟩,
  ⟨some 53, .load 10 true (.t 5), none, [5]⟩,
  ⟨some 54, .call 79 [.t 50, .t 52, .t 53], none, []⟩,
  ⟨some 49, .mv (.t 54), none, []⟩,
  ⟨some 55, .ext (.t 49) 0, none, []⟩,
  ⟨some 56, .ext (.t 49) 1, none, []⟩,
  ⟨some 10, .mv (.t 55), none, []⟩,
  ⟨some 11, .mv (.t 56), none, []⟩] [10, 11]
def c109_19 : ACode := .ops [⟨some 57, .mv (.t 11), none, []⟩,
  ⟨some 58, .mv (.t 57), none, []⟩,
  ⟨some 59, .mv (.t 10), some (58, true), []⟩,
  ⟨some 60, .bin .gtr (.t 59) (.c (.int .i64 0)), some (58, true), []⟩,
  ⟨some 61, .pick (.t 58) (.t 60) (.c (.bool false)), none, []⟩,
  ⟨some 6, .mv (.t 61), none, []⟩] [6]
def c109_20 : ACode := .seq c109_19 .ret
def c109_21 : ACode := .seq c109_18 c109_20
def c109_22 : ACode := .cond (.t 47) c109_21 .skip
def c109_23 : ACode := .seq c109_17 c109_22
def c109_24 : ACode := .cond (.t 23) c109_16 c109_23
def c109_25 : ACode := .seq c109_12 c109_24
def c109_26 : ACode := .block 0 c109_25
def c109_27 : ACode := .seq c109_11 c109_26
def c109_28 : ACode := .ops [⟨some 62, .load 17 true (.t 4), none, [4]⟩,
  ⟨some 63, .load 10 true (.t 5), none, [5]⟩,
  ⟨some 64, .call 53 [.t 62, .t 63], none, []⟩,
  ⟨some 65, .un .not (.t 64), none, []⟩] [3, 4, 5, 65]
def c109_29 : ACode := .ops [⟨some 6, .mv (.c (.bool true)), none, []⟩] [6]
def c109_30 : ACode := .seq c109_29 .ret
def c109_31 : ACode := .cond (.t 65) c109_30 .skip
def c109_32 : ACode := .seq c109_28 c109_31
def c109_33 : ACode := .ops [⟨some 67, .load 6 true (.t 3), none, [3]⟩,
  ⟨some 68, .load 17 true (.t 4), none, [4]⟩,
  ⟨some 69, .load 10 true (.t 5), none, [5]⟩,
  ⟨some 70, .call 52 [.t 67, .t 68, .t 69], none, []⟩,
  ⟨some 66, .mv (.t 70), none, []⟩,
  ⟨some 71, .ext (.t 66) 0, none, []⟩,
  ⟨some 72, .ext (.t 66) 1, none, []⟩,
  ⟨some 73, .ext (.t 66) 2, none, []⟩,
  ⟨some 12, .mv (.t 71), none, []⟩,
  ⟨some 13, .mv (.t 72), none, []⟩,
  ⟨some 14, .mv (.t 73), none, []⟩] [4, 12, 13, 14]
def c109_34 : ACode := .ops [⟨some 74, .fad (.t 4) 15, none, [4]⟩,
  ⟨some 75, .load 1 false (.t 74), none, [4]⟩] [12, 13, 14, 75]
def c109_35 : ACode := .ops [⟨some 76, .mv (.t 14), none, []⟩,
  ⟨some 77, .mv (.t 76), none, []⟩,
  ⟨some 78, .mv (.t 13), some (77, true), []⟩,
  ⟨some 79, .bin .leq (.t 78) (.c (.int .i64 0)), some (77, true), []⟩,
  ⟨some 80, .pick (.t 77) (.t 79) (.c (.bool false)), none, []⟩,
  ⟨some 6, .mv (.t 80), none, []⟩] [6]
def c109_36 : ACode := .seq c109_35 .ret
def c109_37 : ACode := .cond (.t 75) c109_36 .skip
def c109_38 : ACode := .seq c109_34 c109_37
def c109_39 : ACode := .ops [⟨some 81, .mv (.t 14), none, []⟩,
  ⟨some 82, .mv (.t 81), none, []⟩,
  ⟨some 83, .mv (.t 12), some (82, true), []⟩,
  ⟨some 84, .bin .geq (.t 83) (.c (.int .i64 0)), some (82, true), []⟩,
  ⟨some 85, .pick (.t 82) (.t 84) (.c (.bool false)), none, []⟩,
  ⟨some 6, .mv (.t 85), none, []⟩] [6]
def c109_40 : ACode := .seq c109_39 .ret
def c109_41 : ACode := .seq c109_38 c109_40
def c109_42 : ACode := .seq c109_33 c109_41
def c109_43 : ACode := .seq c109_32 c109_42
def c109_44 : ACode := .seq c109_27 c109_43
def c109_45 : ACode := .seq c109_10 c109_44
def c109_46 : ACode := .seq c109_5 c109_45
def c109_47 : ACode := .seq c109_0 c109_46
def a109 : AFun := ⟨3, 86, c109_47, [.t 6]⟩

/- copse/goal.Corner -/
def c110_0 : ACode := .ops [⟨some 1, .box (.t 0) 10, none, []⟩,
  ⟨some 2, .alloc [.int .i64 0, .int .i64 0, .int .i64 0, .int .i64 0], none, []⟩,
  ⟨some 3, .mv (.c (.int .i64 0)), none, []⟩] [1, 2]
def c110_1 : ACode := .ops [⟨some 4, .load 10 true (.t 1), none, [1]⟩,
  ⟨some 5, .call 151 [.t 4], none, []⟩,
  ⟨some 6, .iad (.t 1) (.c (.int .i64 4)) 2 5, none, [1]⟩,
  ⟨some 7, .fad (.t 6) 1, none, [1]⟩,
  ⟨some 8, .load 1 false (.t 7), none, [1]⟩,
  ⟨none, .store (.t 2) 4 (.t 5), none, [2]⟩,
  ⟨some 3, .mv (.t 8), none, []⟩] [2, 3]
def c110_2 : ACode := .seq c110_1 .ret
def c110_3 : ACode := .seq c110_0 c110_2
def a110 : AFun := ⟨1, 9, c110_3, [.cell 2 4 true, .t 3]⟩

/- copse/copseref6.Pack -/
def c111_0 : ACode := .ops [⟨some 1, .box (.t 0) 6, none, []⟩,
  ⟨some 2, .mv (.c (.int .u64 0)), none, []⟩] [1]
def c111_1 : ACode := .ops [⟨some 3, .load 6 true (.t 1), none, [1]⟩,
  ⟨some 4, .call 156 [.t 3], none, []⟩,
  ⟨some 5, .un .not (.t 4), none, []⟩] [1, 5]
def c111_2 : ACode := .ops [⟨some 2, .mv (.c (.int .u64 0)), none, []⟩] [2]
def c111_3 : ACode := .seq c111_2 .ret
def c111_4 : ACode := .cond (.t 5) c111_3 .skip
def c111_5 : ACode := .seq c111_1 c111_4
def c111_6 : ACode := .ops [⟨some 6, .fad (.t 1) 0, none, [1]⟩,
  ⟨some 7, .load 1 false (.t 6), none, [1]⟩] [1, 7]
def c111_7 : ACode := .ops [⟨some 8, .fad (.t 1) 1, none, [1]⟩,
  ⟨some 9, .load 1 false (.t 8), none, [1]⟩,
  ⟨some 10, .conv .u64 (.t 9), none, []⟩,
  ⟨some 11, .bin .and (.t 10) (.c (.int .u64 4294967295)), none, []⟩,
  ⟨some 12, .bin .or (.c (.int .u64 9223372036854775808)) (.t 11), none, []⟩,
  ⟨some 2, .mv (.t 12), none, []⟩] [2]
def c111_8 : ACode := .seq c111_7 .ret
def c111_9 : ACode := .cond (.t 7) c111_8 .skip
def c111_10 : ACode := .seq c111_6 c111_9
def c111_11 : ACode := .ops [⟨some 13, .fad (.t 1) 3, none, [1]⟩,
  ⟨some 14, .load 1 false (.t 13), none, [1]⟩,
  ⟨some 15, .conv .u64 (.t 14), none, []⟩,
  ⟨some 16, .bin .and (.t 15) (.c (.int .u64 4294967295)), none, []⟩,
  ⟨some 17, .fad (.t 1) 2, none, [1]⟩,
  ⟨some 18, .load 1 false (.t 17), none, [1]⟩,
  ⟨some 19, .conv .u64 (.t 18), none, []⟩,
  ⟨some 20, .bin .shl (.t 19) (.c (.int .u64 32)), none, []⟩,
  ⟨some 21, .bin .or (.t 16) (.t 20), none, []⟩,
  ⟨some 22, .fad (.t 1) 4, none, [1]⟩,
  ⟨some 23, .load 1 false (.t 22), none, [1]⟩,
  ⟨some 24, .conv .u64 (.t 23), none, []⟩,
  ⟨some 25, .bin .shl (.t 24) (.c (.int .u64 40)), none, []⟩,
  ⟨some 26, .bin .or (.t 21) (.t 25), none, []⟩,
  ⟨some 27, .fad (.t 1) 5, none, [1]⟩,
  ⟨some 28, .load 1 false (.t 27), none, [1]⟩,
  ⟨some 29, .conv .u64 (.t 28), none, []⟩,
  ⟨some 30, .bin .shl (.t 29) (.c (.int .u64 48)), none, []⟩,
  ⟨some 31, .bin .or (.t 26) (.t 30), none, []⟩,
  ⟨some 2, .mv (.t 31), none, []⟩] [2]
def c111_12 : ACode := .seq c111_11 .ret
def c111_13 : ACode := .seq c111_10 c111_12
def c111_14 : ACode := .seq c111_5 c111_13
def c111_15 : ACode := .seq c111_0 c111_14
def a111 : AFun := ⟨1, 32, c111_15, [.t 2]⟩

/- copse/couple.pairs -/
def c114_0 : ACode := .ops [⟨some 1, .box (.t 0) 17, none, []⟩,
  ⟨some 2, .mv (.c (.bool false)), none, []⟩] [1]
def c114_1 : ACode := .ops [⟨some 3, .fad (.t 1) 0, none, [1]⟩,
  ⟨some 4, .load 1 false (.t 3), none, [1]⟩,
  ⟨some 5, .bin .eql (.t 4) (.c (.int .i64 3)), none, []⟩,
  ⟨some 6, .mv (.t 5), none, []⟩,
  ⟨some 7, .fad (.t 1) 14, some (6, true), [1]⟩,
  ⟨some 8, .load 1 false (.t 7), some (6, true), [1]⟩,
  ⟨some 9, .bin .geq (.t 8) (.c (.int .i64 0)), some (6, true), []⟩,
  ⟨some 10, .pick (.t 6) (.t 9) (.c (.bool false)), none, []⟩,
  ⟨some 11, .mv (.t 10), none, []⟩,
  ⟨some 12, .fad (.t 1) 14, some (11, true), [1]⟩,
  ⟨some 13, .load 1 false (.t 12), some (11, true), [1]⟩,
  ⟨some 14, .bin .lss (.t 13) (.c (.int .i64 4)), some (11, true), []⟩,
  ⟨some 15, .pick (.t 11) (.t 14) (.c (.bool false)), none, []⟩,
  ⟨some 2, .mv (.t 15), none, []⟩] [2]
def c114_2 : ACode := .seq c114_1 .ret
def c114_3 : ACode := .seq c114_0 c114_2
def a114 : AFun := ⟨1, 16, c114_3, [.t 2]⟩

/- copse/query.region -/
def c115_0 : ACode := .ops [⟨some 2, .box (.t 0) 10, none, []⟩,
  ⟨some 4, .mv (.c (.bool false)), none, []⟩] [1, 2]
def c115_1 : ACode := .ops [⟨some 7, .load 10 true (.t 2), none, [2]⟩,
  ⟨some 8, .mv (.c (.int .i64 0)), none, []⟩] [1, 7, 8]
def c115_2 : ACode := .ops [⟨some 9, .bin .lss (.t 8) (.c (.int .i64 5)), none, []⟩] [1, 7, 8, 9]
def c115_3 : ACode := .cond (.t 9) .skip (.exit 0)
def c115_4 : ACode := .ops [⟨some 10, .mv (.t 8), none, []⟩,
  ⟨some 11, .idx (.t 7) (.t 8) 2 5 true, none, []⟩,
  ⟨some 6, .alloc [.int .i64 0, .int .i64 0], none, []⟩,
  ⟨some 5, .mv (.t 10), none, []⟩,
  ⟨none, .store (.t 6) 2 (.t 11), none, [6]⟩] [1, 5, 6, 7, 8]
def c115_5 : ACode := .ops [⟨some 12, .mv (.t 5), none, []⟩,
  ⟨some 13, .mv (.t 1), none, []⟩,
  ⟨some 14, .bin .geq (.t 12) (.t 13), none, []⟩,
  ⟨some 15, .mv (.t 14), none, []⟩,
  ⟨some 16, .load 2 true (.t 6), some (15, true), [6]⟩,
  ⟨some 17, .build [.int .i64 0, .int .i64 0] [], some (15, true), []⟩,
  ⟨some 18, .eqa true [false, false] (.t 16) (.t 17), some (15, true), []⟩,
  ⟨some 19, .pick (.t 15) (.t 18) (.c (.bool false)), none, []⟩] [1, 6, 7, 8, 19]
def c115_6 : ACode := .ops [⟨some 4, .mv (.c (.bool false)), none, []⟩] [4]
def c115_7 : ACode := .seq c115_6 .ret
def c115_8 : ACode := .cond (.t 19) c115_7 .skip
def c115_9 : ACode := .seq c115_5 c115_8
def c115_10 : ACode := .ops [⟨some 20, .load 2 true (.t 6), none, [6]⟩,
  ⟨some 21, .call 121 [.t 20], none, []⟩,
  ⟨some 22, .mv (.t 21), none, []⟩,
  ⟨some 23, .fad (.t 6) 0, some (22, false), [6]⟩,
  ⟨some 24, .load 1 false (.t 23), some (22, false), [6]⟩,
  ⟨some 25, .call 123 [.t 24, .c (.int .i64 32)], some (22, false), []⟩,
  ⟨some 26, .un .not (.t 25), some (22, false), []⟩,
  ⟨some 27, .pick (.t 22) (.c (.bool true)) (.t 26), none, []⟩,
  ⟨some 28, .mv (.t 27), none, []⟩,
  ⟨some 29, .fad (.t 6) 1, some (28, false), [6]⟩,
  ⟨some 30, .load 1 false (.t 29), some (28, false), [6]⟩,
  ⟨some 31, .call 123 [.t 30, .c (.int .i64 32)], some (28, false), []⟩,
  ⟨some 32, .un .not (.t 31), some (28, false), []⟩,
  ⟨some 33, .pick (.t 28) (.c (.bool true)) (.t 32), none, []⟩] [1, 7, 8, 33]
def c115_11 : ACode := .ops [⟨some 4, .mv (.c (.bool false)), none, []⟩] [4]
def c115_12 : ACode := .seq c115_11 .ret
def c115_13 : ACode := .cond (.t 33) c115_12 .skip
def c115_14 : ACode := .seq c115_10 c115_13
def c115_15 : ACode := .seq c115_9 c115_14
def c115_16 : ACode := .seq c115_4 c115_15
def c115_17 : ACode := .block 1 c115_16
def c115_18 : ACode := .ops [⟨some 34, .bin .add (.t 8) (.c (.int .i64 1)), none, []⟩,
  ⟨some 8, .mv (.t 34), none, []⟩] [1, 7, 8]
def c115_19 : ACode := .seq c115_17 c115_18
def c115_20 : ACode := .seq c115_3 c115_19
def c115_21 : ACode := .seq c115_2 c115_20
def c115_22 : ACode := .keep [1, 7, 8] [] c115_21
def c115_23 : ACode := .loop c115_22
def c115_24 : ACode := .block 0 c115_23
def c115_25 : ACode := .seq c115_1 c115_24
def c115_26 : ACode := .ops [⟨some 4, .mv (.c (.bool true)), none, []⟩] [4]
def c115_27 : ACode := .seq c115_26 .ret
def c115_28 : ACode := .seq c115_25 c115_27
def c115_29 : ACode := .seq c115_0 c115_28
def a115 : AFun := ⟨2, 35, c115_29, [.t 4]⟩

/- copse/query.kind -/
def c116_0 : ACode := .ops [⟨some 2, .box (.t 0) 6, none, []⟩,
  ⟨some 3, .box (.t 1) 17, none, []⟩,
  ⟨some 4, .mv (.c (.bool false)), none, []⟩] [2, 3]
def c116_1 : ACode := .ops [⟨some 5, .fad (.t 3) 0, none, [3]⟩,
  ⟨some 6, .load 1 false (.t 5), none, [3]⟩] [2, 3, 6]
def c116_2 : ACode := .ops [⟨some 8, .bin .eql (.t 6) (.c (.int .i64 1)), none, []⟩,
  ⟨some 7, .mv (.t 8), none, []⟩] [2, 3, 6, 7]
def c116_3 : ACode := .ops [⟨some 9, .fad (.t 3) 12, none, [3]⟩,
  ⟨some 10, .load 1 false (.t 9), none, [3]⟩,
  ⟨some 11, .fad (.t 3) 13, none, [3]⟩,
  ⟨some 12, .load 1 false (.t 11), none, [3]⟩,
  ⟨some 13, .bin .leq (.t 10) (.t 12), none, []⟩,
  ⟨some 14, .mv (.t 13), none, []⟩,
  ⟨some 15, .fad (.t 3) 14, some (14, true), [3]⟩,
  ⟨some 16, .load 1 false (.t 15), some (14, true), [3]⟩,
  ⟨some 17, .bin .eql (.t 16) (.c (.int .i64 0)), some (14, true), []⟩,
  ⟨some 18, .pick (.t 14) (.t 17) (.c (.bool false)), none, []⟩,
  ⟨some 19, .mv (.t 18), none, []⟩,
  ⟨some 20, .fad (.t 3) 15, some (19, true), [3]⟩,
  ⟨some 21, .load 1 false (.t 20), some (19, true), [3]⟩,
  ⟨some 22, .un .not (.t 21), some (19, true), []⟩,
  ⟨some 23, .pick (.t 19) (.t 22) (.c (.bool false)), none, []⟩,
  ⟨some 4, .mv (.t 23), none, []⟩] [4]
def c116_4 : ACode := .seq c116_3 .ret
def c116_5 : ACode := .ops [⟨some 25, .bin .eql (.t 6) (.c (.int .i64 2)), none, []⟩,
  ⟨some 24, .mv (.t 25), none, []⟩] [2, 3, 6, 24]
def c116_6 : ACode := .ops [⟨some 26, .fad (.t 2) 1, none, [2]⟩,
  ⟨some 27, .load 1 false (.t 26), none, [2]⟩,
  ⟨some 28, .bin .geq (.t 27) (.c (.int .i64 2)), none, []⟩,
  ⟨some 29, .mv (.t 28), none, []⟩,
  ⟨some 30, .fad (.t 3) 12, some (29, true), [3]⟩,
  ⟨some 31, .load 1 false (.t 30), some (29, true), [3]⟩,
  ⟨some 32, .bin .eql (.t 31) (.c (.int .i64 0)), some (29, true), []⟩,
  ⟨some 33, .pick (.t 29) (.t 32) (.c (.bool false)), none, []⟩,
  ⟨some 34, .mv (.t 33), none, []⟩,
  ⟨some 35, .fad (.t 3) 13, some (34, true), [3]⟩,
  ⟨some 36, .load 1 false (.t 35), some (34, true), [3]⟩,
  ⟨some 37, .bin .eql (.t 36) (.c (.int .i64 0)), some (34, true), []⟩,
  ⟨some 38, .pick (.t 34) (.t 37) (.c (.bool false)), none, []⟩,
  ⟨some 39, .mv (.t 38), none, []⟩,
  ⟨some 40, .fad (.t 3) 14, some (39, true), [3]⟩,
  ⟨some 41, .load 1 false (.t 40), some (39, true), [3]⟩,
  ⟨some 42, .bin .eql (.t 41) (.c (.int .i64 0)), some (39, true), []⟩,
  ⟨some 43, .pick (.t 39) (.t 42) (.c (.bool false)), none, []⟩,
  ⟨some 44, .mv (.t 43), none, []⟩,
  ⟨some 45, .fad (.t 3) 15, some (44, true), [3]⟩,
  ⟨some 46, .load 1 false (.t 45), some (44, true), [3]⟩,
  ⟨some 47, .un .not (.t 46), some (44, true), []⟩,
  ⟨some 48, .pick (.t 44) (.t 47) (.c (.bool false)), none, []⟩,
  ⟨some 4, .mv (.t 48), none, []⟩] [4]
def c116_7 : ACode := .seq c116_6 .ret
def c116_8 : ACode := .ops [⟨some 50, .bin .eql (.t 6) (.c (.int .i64 3)), none, []⟩,
  ⟨some 49, .mv (.t 50), none, []⟩] [2, 3, 49]
def c116_9 : ACode := .ops [⟨some 51, .fad (.t 3) 14, none, [3]⟩,
  ⟨some 52, .load 1 false (.t 51), none, [3]⟩,
  ⟨some 53, .bin .geq (.t 52) (.c (.int .i64 0)), none, []⟩,
  ⟨some 54, .mv (.t 53), none, []⟩,
  ⟨some 55, .fad (.t 3) 14, some (54, true), [3]⟩,
  ⟨some 56, .load 1 false (.t 55), some (54, true), [3]⟩,
  ⟨some 57, .fad (.t 2) 0, some (54, true), [2]⟩,
  ⟨some 58, .load 1 false (.t 57), some (54, true), [2]⟩,
  ⟨some 59, .bin .lss (.t 56) (.t 58), some (54, true), []⟩,
  ⟨some 60, .pick (.t 54) (.t 59) (.c (.bool false)), none, []⟩,
  ⟨some 61, .mv (.t 60), none, []⟩,
  ⟨some 62, .fad (.t 3) 12, some (61, true), [3]⟩,
  ⟨some 63, .load 1 false (.t 62), some (61, true), [3]⟩,
  ⟨some 64, .bin .eql (.t 63) (.c (.int .i64 0)), some (61, true), []⟩,
  ⟨some 65, .pick (.t 61) (.t 64) (.c (.bool false)), none, []⟩,
  ⟨some 66, .mv (.t 65), none, []⟩,
  ⟨some 67, .fad (.t 3) 13, some (66, true), [3]⟩,
  ⟨some 68, .load 1 false (.t 67), some (66, true), [3]⟩,
  ⟨some 69, .bin .eql (.t 68) (.c (.int .i64 0)), some (66, true), []⟩,
  ⟨some 70, .pick (.t 66) (.t 69) (.c (.bool false)), none, []⟩,
  ⟨some 4, .mv (.t 70), none, []⟩] [4]
def c116_10 : ACode := .seq c116_9 .ret
def c116_11 : ACode := .cond (.t 49) c116_10 .skip
def c116_12 : ACode := .seq c116_8 c116_11
def c116_13 : ACode := .cond (.t 24) c116_7 c116_12
def c116_14 : ACode := .seq c116_5 c116_13
def c116_15 : ACode := .cond (.t 7) c116_4 c116_14
def c116_16 : ACode := .seq c116_2 c116_15
def c116_17 : ACode := .block 0 c116_16
def c116_18 : ACode := .seq c116_1 c116_17
def c116_19 : ACode := .ops [⟨some 4, .mv (.c (.bool false)), none, []⟩] [4]
def c116_20 : ACode := .seq c116_19 .ret
def c116_21 : ACode := .seq c116_18 c116_20
def c116_22 : ACode := .seq c116_0 c116_21
def a116 : AFun := ⟨2, 71, c116_22, [.t 4]⟩

/- copse/span.Has -/
def c117_0 : ACode := .ops [⟨some 2, .box (.t 0) 2, none, []⟩,
  ⟨some 4, .mv (.c (.bool false)), none, []⟩] [1, 2]
def c117_1 : ACode := .ops [⟨some 5, .fad (.t 2) 0, none, [2]⟩,
  ⟨some 6, .load 1 false (.t 5), none, [2]⟩,
  ⟨some 7, .mv (.t 1), none, []⟩,
  ⟨some 8, .bin .leq (.t 6) (.t 7), none, []⟩,
  ⟨some 9, .mv (.t 8), none, []⟩,
  ⟨some 10, .mv (.t 1), some (9, true), []⟩,
  ⟨some 11, .fad (.t 2) 1, some (9, true), [2]⟩,
  ⟨some 12, .load 1 false (.t 11), some (9, true), [2]⟩,
  ⟨some 13, .bin .leq (.t 10) (.t 12), some (9, true), []⟩,
  ⟨some 14, .pick (.t 9) (.t 13) (.c (.bool false)), none, []⟩,
  ⟨some 4, .mv (.t 14), none, []⟩] [4]
def c117_2 : ACode := .seq c117_1 .ret
def c117_3 : ACode := .seq c117_0 c117_2
def a117 : AFun := ⟨2, 15, c117_3, [.t 4]⟩

/- copse/query.paired -/
def c118_0 : ACode := .ops [⟨some 1, .box (.t 0) 17, none, []⟩,
  ⟨some 2, .mv (.c (.bool false)), none, []⟩] [1]
def c118_1 : ACode := .ops [⟨some 3, .fad (.t 1) 0, none, [1]⟩,
  ⟨some 4, .load 1 false (.t 3), none, [1]⟩,
  ⟨some 5, .bin .eql (.t 4) (.c (.int .i64 3)), none, []⟩,
  ⟨some 6, .mv (.t 5), none, []⟩,
  ⟨some 7, .fad (.t 1) 14, some (6, true), [1]⟩,
  ⟨some 8, .load 1 false (.t 7), some (6, true), [1]⟩,
  ⟨some 9, .bin .geq (.t 8) (.c (.int .i64 0)), some (6, true), []⟩,
  ⟨some 10, .pick (.t 6) (.t 9) (.c (.bool false)), none, []⟩,
  ⟨some 11, .mv (.t 10), none, []⟩,
  ⟨some 12, .fad (.t 1) 14, some (11, true), [1]⟩,
  ⟨some 13, .load 1 false (.t 12), some (11, true), [1]⟩,
  ⟨some 14, .bin .lss (.t 13) (.c (.int .i64 4)), some (11, true), []⟩,
  ⟨some 15, .pick (.t 11) (.t 14) (.c (.bool false)), none, []⟩,
  ⟨some 2, .mv (.t 15), none, []⟩] [2]
def c118_2 : ACode := .seq c118_1 .ret
def c118_3 : ACode := .seq c118_0 c118_2
def a118 : AFun := ⟨1, 16, c118_3, [.t 2]⟩

/- copse/copseref1.Fits -/
def c119_0 : ACode := .ops [⟨some 4, .mv (.c (.bool false)), none, []⟩] [0, 1]
def c119_1 : ACode := .ops [⟨some 6, .mv (.t 1), none, []⟩,
  ⟨some 7, .bin .lss (.t 6) (.c (.int .i64 1)), none, []⟩,
  ⟨some 8, .mv (.t 7), none, []⟩,
  ⟨some 9, .mv (.t 1), some (8, false), []⟩,
  ⟨some 10, .bin .gtr (.t 9) (.c (.int .i64 64)), some (8, false), []⟩,
  ⟨some 11, .pick (.t 8) (.c (.bool true)) (.t 10), none, []⟩] [0, 1, 11]
def c119_2 : ACode := .ops [⟨some 4, .mv (.c (.bool false)), none, []⟩] [4]
def c119_3 : ACode := .seq c119_2 .ret
def c119_4 : ACode := .cond (.t 11) c119_3 .skip
def c119_5 : ACode := .seq c119_1 c119_4
def c119_6 : ACode := .ops [⟨some 12, .mv (.t 1), none, []⟩,
  ⟨some 13, .bin .eql (.t 12) (.c (.int .i64 64)), none, []⟩] [0, 1, 13]
def c119_7 : ACode := .ops [⟨some 4, .mv (.c (.bool true)), none, []⟩] [4]
def c119_8 : ACode := .seq c119_7 .ret
def c119_9 : ACode := .cond (.t 13) c119_8 .skip
def c119_10 : ACode := .seq c119_6 c119_9
def c119_11 : ACode := .ops [⟨some 14, .mv (.t 1), none, []⟩,
  ⟨some 15, .bin .sub (.t 14) (.c (.int .i64 1)), none, []⟩,
  ⟨some 16, .bin .shl (.c (.int .i64 1)) (.t 15), none, []⟩,
  ⟨some 5, .mv (.t 16), none, []⟩] [0, 5]
def c119_12 : ACode := .ops [⟨some 17, .mv (.t 0), none, []⟩,
  ⟨some 18, .mv (.t 5), none, []⟩,
  ⟨some 19, .un .neg (.t 18), none, []⟩,
  ⟨some 20, .bin .geq (.t 17) (.t 19), none, []⟩,
  ⟨some 21, .mv (.t 20), none, []⟩,
  ⟨some 22, .mv (.t 0), some (21, true), []⟩,
  ⟨some 23, .mv (.t 5), some (21, true), []⟩,
  ⟨some 24, .bin .sub (.t 23) (.c (.int .i64 1)), some (21, true), []⟩,
  ⟨some 25, .bin .leq (.t 22) (.t 24), some (21, true), []⟩,
  ⟨some 26, .pick (.t 21) (.t 25) (.c (.bool false)), none, []⟩,
  ⟨some 4, .mv (.t 26), none, []⟩] [4]
def c119_13 : ACode := .seq c119_12 .ret
def c119_14 : ACode := .seq c119_11 c119_13
def c119_15 : ACode := .seq c119_10 c119_14
def c119_16 : ACode := .seq c119_5 c119_15
def c119_17 : ACode := .seq c119_0 c119_16
def a119 : AFun := ⟨2, 27, c119_17, [.t 4]⟩

/- copse/span.Cut -/
def c120_0 : ACode := .ops [⟨some 2, .box (.t 0) 2, none, []⟩,
  ⟨some 4, .alloc [.int .i64 0, .int .i64 0], none, []⟩,
  ⟨some 5, .alloc [.int .i64 0, .int .i64 0], none, []⟩] [1, 2, 4, 5]
def c120_1 : ACode := .ops [⟨some 7, .fad (.t 2) 0, none, [2]⟩,
  ⟨some 8, .load 1 false (.t 7), none, [2]⟩,
  ⟨some 9, .fad (.t 2) 1, none, [2]⟩,
  ⟨some 10, .load 1 false (.t 9), none, [2]⟩,
  ⟨some 11, .mv (.t 1), none, []⟩,
  ⟨some 12, .mnmx false (.t 10) (.t 11), none, []⟩,
  ⟨some 13, .call 158 [.t 8, .t 12], none, []⟩,
  ⟨some 6, .alloc [.int .i64 0, .int .i64 0], none, []⟩,
  ⟨none, .store (.t 6) 2 (.t 13), none, [6]⟩] [1, 2, 4, 5, 6]
def c120_2 : ACode := .ops [⟨some 14, .mv (.t 1), none, []⟩,
  ⟨some 15, .fad (.t 2) 1, none, [2]⟩,
  ⟨some 16, .load 1 false (.t 15), none, [2]⟩,
  ⟨some 17, .bin .geq (.t 14) (.t 16), none, []⟩] [1, 2, 4, 5, 6, 17]
def c120_3 : ACode := .ops [⟨some 18, .load 2 true (.t 6), none, [6]⟩,
  ⟨some 19, .call 159 [], none, []⟩,
  ⟨none, .store (.t 4) 2 (.t 18), none, [4]⟩,
  ⟨none, .store (.t 5) 2 (.t 19), none, [5]⟩] [4, 5]
def c120_4 : ACode := .seq c120_3 .ret
def c120_5 : ACode := .cond (.t 17) c120_4 .skip
def c120_6 : ACode := .seq c120_2 c120_5
def c120_7 : ACode := .ops [⟨some 20, .load 2 true (.t 6), none, [6]⟩,
  ⟨some 21, .fad (.t 2) 0, none, [2]⟩,
  ⟨some 22, .load 1 false (.t 21), none, [2]⟩,
  ⟨some 23, .mv (.t 1), none, []⟩,
  ⟨some 24, .bin .add (.t 23) (.c (.int .i64 1)), none, []⟩,
  ⟨some 25, .mnmx true (.t 22) (.t 24), none, []⟩,
  ⟨some 26, .fad (.t 2) 1, none, [2]⟩,
  ⟨some 27, .load 1 false (.t 26), none, [2]⟩,
  ⟨some 28, .call 158 [.t 25, .t 27], none, []⟩,
  ⟨none, .store (.t 4) 2 (.t 20), none, [4]⟩,
  ⟨none, .store (.t 5) 2 (.t 28), none, [5]⟩] [4, 5]
def c120_8 : ACode := .seq c120_7 .ret
def c120_9 : ACode := .seq c120_6 c120_8
def c120_10 : ACode := .seq c120_1 c120_9
def c120_11 : ACode := .seq c120_0 c120_10
def a120 : AFun := ⟨2, 29, c120_11, [.cell 4 2 true, .cell 5 2 true]⟩

/- copse/span.Empty -/
def c121_0 : ACode := .ops [⟨some 1, .box (.t 0) 2, none, []⟩,
  ⟨some 2, .mv (.c (.bool false)), none, []⟩] [1]
def c121_1 : ACode := .ops [⟨some 3, .fad (.t 1) 0, none, [1]⟩,
  ⟨some 4, .load 1 false (.t 3), none, [1]⟩,
  ⟨some 5, .fad (.t 1) 1, none, [1]⟩,
  ⟨some 6, .load 1 false (.t 5), none, [1]⟩,
  ⟨some 7, .bin .gtr (.t 4) (.t 6), none, []⟩,
  ⟨some 2, .mv (.t 7), none, []⟩] [2]
def c121_2 : ACode := .seq c121_1 .ret
def c121_3 : ACode := .seq c121_0 c121_2
def a121 : AFun := ⟨1, 8, c121_3, [.t 2]⟩

/- copse/model.eval -/
def c122_0 : ACode := .ops [⟨some 3, .box (.t 0) 6, none, []⟩,
  ⟨some 5, .box (.t 2) 4, none, []⟩,
  ⟨some 6, .mv (.c (.int .i64 0)), none, []⟩] [1, 3, 5]
def c122_1 : ACode := .ops [⟨some 10, .mv (.t 1), none, []⟩,
  ⟨some 11, .fad (.t 3) 2, none, [3]⟩,
  ⟨some 12, .iad (.t 11) (.t 10) 1 3, none, [3]⟩,
  ⟨some 13, .load 1 false (.t 12), none, [3]⟩,
  ⟨some 7, .mv (.t 13), none, []⟩] [1, 3, 5, 7]
def c122_2 : ACode := .ops [⟨some 14, .fad (.t 3) 5, none, [3]⟩,
  ⟨some 15, .load 1 false (.t 14), none, [3]⟩,
  ⟨some 16, .len (.t 15), none, []⟩,
  ⟨some 17, .mv (.c (.int .i64 0)), none, []⟩] [1, 5, 7, 15, 16, 17]
def c122_3 : ACode := .ops [⟨some 18, .bin .lss (.t 17) (.t 16), none, []⟩] [1, 5, 7, 15, 16, 17, 18]
def c122_4 : ACode := .cond (.t 18) .skip (.exit 0)
def c122_5 : ACode := .ops [⟨some 19, .ias (.t 15) (.t 17) 2, none, []⟩,
  ⟨some 20, .load 2 true (.t 19), none, []⟩,
  ⟨some 9, .alloc [.int .i64 0, .nils], none, []⟩,
  ⟨none, .store (.t 9) 2 (.t 20), none, [9]⟩] [1, 5, 7, 9, 15, 16, 17]
def c122_6 : ACode := .ops [⟨some 21, .fad (.t 9) 0, none, [9]⟩,
  ⟨some 22, .load 1 false (.t 21), none, [9]⟩,
  ⟨some 23, .mv (.t 1), none, []⟩,
  ⟨some 24, .bin .eql (.t 22) (.t 23), none, []⟩] [1, 5, 7, 9, 15, 16, 17, 24]
def c122_7 : ACode := .ops [⟨some 25, .mv (.t 7), none, []⟩,
  ⟨some 26, .fad (.t 9) 1, none, [9]⟩,
  ⟨some 27, .load 1 false (.t 26), none, [9]⟩,
  ⟨some 28, .load 4 true (.t 5), none, [5]⟩,
  ⟨some 29, .call 99 [.t 27, .t 28], none, []⟩,
  ⟨some 30, .bin .add (.t 25) (.t 29), none, []⟩,
  ⟨some 7, .mv (.t 30), none, []⟩] [1, 5, 7, 15, 16, 17]
def c122_8 : ACode := .cond (.t 24) c122_7 .skip
def c122_9 : ACode := .seq c122_6 c122_8
def c122_10 : ACode := .seq c122_5 c122_9
def c122_11 : ACode := .block 1 c122_10
def c122_12 : ACode := .ops [⟨some 31, .bin .add (.t 17) (.c (.int .i64 1)), none, []⟩,
  ⟨some 17, .mv (.t 31), none, []⟩] [1, 5, 7, 15, 16, 17]
def c122_13 : ACode := .seq c122_11 c122_12
def c122_14 : ACode := .seq c122_4 c122_13
def c122_15 : ACode := .seq c122_3 c122_14
def c122_16 : ACode := .keep [1, 5, 7, 15, 16, 17] [5] c122_15
def c122_17 : ACode := .loop c122_16
def c122_18 : ACode := .block 0 c122_17
def c122_19 : ACode := .seq c122_2 c122_18
def c122_20 : ACode := .ops [⟨some 32, .mv (.t 7), none, []⟩,
  ⟨some 6, .mv (.t 32), none, []⟩] [6]
def c122_21 : ACode := .seq c122_20 .ret
def c122_22 : ACode := .seq c122_19 c122_21
def c122_23 : ACode := .seq c122_1 c122_22
def c122_24 : ACode := .seq c122_0 c122_23
def a122 : AFun := ⟨3, 33, c122_24, [.t 6]⟩

/- copse/bits.Fits -/
def c123_0 : ACode := .ops [⟨some 4, .mv (.c (.bool false)), none, []⟩] [0, 1]
def c123_1 : ACode := .ops [⟨some 5, .mv (.t 1), none, []⟩,
  ⟨some 6, .bin .lss (.t 5) (.c (.int .i64 1)), none, []⟩,
  ⟨some 7, .mv (.t 6), none, []⟩,
  ⟨some 8, .mv (.t 1), some (7, false), []⟩,
  ⟨some 9, .bin .gtr (.t 8) (.c (.int .i64 64)), some (7, false), []⟩,
  ⟨some 10, .pick (.t 7) (.c (.bool true)) (.t 9), none, []⟩] [0, 1, 10]
def c123_2 : ACode := .ops [⟨some 4, .mv (.c (.bool false)), none, []⟩] [4]
def c123_3 : ACode := .seq c123_2 .ret
def c123_4 : ACode := .cond (.t 10) c123_3 .skip
def c123_5 : ACode := .seq c123_1 c123_4
def c123_6 : ACode := .ops [⟨some 11, .mv (.t 0), none, []⟩,
  ⟨some 12, .mv (.t 1), none, []⟩,
  ⟨some 13, .bin .sub (.t 12) (.c (.int .i64 1)), none, []⟩,
  ⟨some 14, .conv .u64 (.t 13), none, []⟩,
  ⟨some 15, .bin .shr (.t 11) (.t 14), none, []⟩,
  ⟨some 16, .bin .eql (.t 15) (.c (.int .i64 0)), none, []⟩,
  ⟨some 17, .mv (.t 16), none, []⟩,
  ⟨some 18, .mv (.t 0), some (17, false), []⟩,
  ⟨some 19, .mv (.t 1), some (17, false), []⟩,
  ⟨some 20, .bin .sub (.t 19) (.c (.int .i64 1)), some (17, false), []⟩,
  ⟨some 21, .conv .u64 (.t 20), some (17, false), []⟩,
  ⟨some 22, .bin .shr (.t 18) (.t 21), some (17, false), []⟩,
  ⟨some 23, .bin .eql (.t 22) (.c (.int .i64 (-1))), some (17, false), []⟩,
  ⟨some 24, .pick (.t 17) (.c (.bool true)) (.t 23), none, []⟩,
  ⟨some 4, .mv (.t 24), none, []⟩] [4]
def c123_7 : ACode := .seq c123_6 .ret
def c123_8 : ACode := .seq c123_5 c123_7
def c123_9 : ACode := .seq c123_0 c123_8
def a123 : AFun := ⟨2, 25, c123_9, [.t 4]⟩

/- slices.ContainsFunc[[]copse/api.Tree,copse/api.Tree] -/
def c124_0 : ACode := .ops [⟨some 4, .mv (.c (.bool false)), none, []⟩] [0, 1]
def c124_1 : ACode := .ops [⟨some 5, .mv (.t 0), none, []⟩,
  ⟨some 6, .mv (.t 1), none, []⟩,
  ⟨some 7, .call 160 [.t 5, .t 6], none, []⟩,
  ⟨some 8, .bin .geq (.t 7) (.c (.int .i64 0)), none, []⟩,
  ⟨some 4, .mv (.t 8), none, []⟩] [4]
def c124_2 : ACode := .seq c124_1 .ret
def c124_3 : ACode := .seq c124_0 c124_2
def a124 : AFun := ⟨2, 9, c124_3, [.t 4]⟩

/- copse/model.Right$1 -/
def c125_0 : ACode := .ops [⟨some 2, .box (.t 0) 2, none, []⟩,
  ⟨some 3, .mv (.c (.bool false)), none, []⟩] [1, 2]
def c125_1 : ACode := .ops [⟨some 4, .fad (.t 2) 0, none, [2]⟩,
  ⟨some 5, .load 1 false (.t 4), none, [2]⟩,
  ⟨some 6, .bin .lss (.t 5) (.c (.int .i64 0)), none, []⟩,
  ⟨some 7, .mv (.t 6), none, []⟩,
  ⟨some 8, .fad (.t 2) 0, some (7, false), [2]⟩,
  ⟨some 9, .load 1 false (.t 8), some (7, false), [2]⟩,
  ⟨some 10, .fad (.t 1) 1, some (7, false), []⟩,
  ⟨some 11, .load 1 false (.t 10), some (7, false), []⟩,
  ⟨some 12, .bin .geq (.t 9) (.t 11), some (7, false), []⟩,
  ⟨some 13, .pick (.t 7) (.c (.bool true)) (.t 12), none, []⟩,
  ⟨some 14, .mv (.t 13), none, []⟩,
  ⟨some 15, .fad (.t 2) 1, some (14, false), [2]⟩,
  ⟨some 16, .load 1 false (.t 15), some (14, false), [2]⟩,
  ⟨some 17, .fad (.t 1) 0, some (14, false), []⟩,
  ⟨some 18, .load 1 false (.t 17), some (14, false), []⟩,
  ⟨some 19, .call 76 [.t 16, .t 18], some (14, false), []⟩,
  ⟨some 20, .un .not (.t 19), some (14, false), []⟩,
  ⟨some 21, .pick (.t 14) (.c (.bool true)) (.t 20), none, []⟩,
  ⟨some 3, .mv (.t 21), none, []⟩] [3]
def c125_2 : ACode := .seq c125_1 .ret
def c125_3 : ACode := .seq c125_0 c125_2
def a125 : AFun := ⟨2, 22, c125_3, [.t 3]⟩

/- copse/bits.Signed -/
def c128_0 : ACode := .ops [⟨some 6, .mv (.c (.int .i64 0)), none, []⟩] [0, 1, 2]
def c128_1 : ACode := .ops [⟨some 7, .mv (.t 0), none, []⟩,
  ⟨some 8, .mv (.t 1), none, []⟩,
  ⟨some 9, .mv (.t 2), none, []⟩,
  ⟨some 10, .call 129 [.t 7, .t 8, .t 9], none, []⟩,
  ⟨some 11, .conv .i64 (.t 10), none, []⟩,
  ⟨some 12, .mv (.t 2), none, []⟩,
  ⟨some 13, .call 161 [.t 11, .t 12], none, []⟩,
  ⟨some 6, .mv (.t 13), none, []⟩] [6]
def c128_2 : ACode := .seq c128_1 .ret
def c128_3 : ACode := .seq c128_0 c128_2
def a128 : AFun := ⟨3, 14, c128_3, [.t 6]⟩

/- copse/bits.Get -/
def c129_0 : ACode := .ops [⟨some 6, .mv (.c (.int .u64 0)), none, []⟩] [0, 1, 2]
def c129_1 : ACode := .ops [⟨some 7, .mv (.t 1), none, []⟩,
  ⟨some 8, .mv (.t 2), none, []⟩,
  ⟨some 9, .call 162 [.t 7, .t 8], none, []⟩,
  ⟨some 10, .un .not (.t 9), none, []⟩] [0, 1, 2, 10]
def c129_2 : ACode := .ops [⟨some 6, .mv (.c (.int .u64 0)), none, []⟩] [6]
def c129_3 : ACode := .seq c129_2 .ret
def c129_4 : ACode := .cond (.t 10) c129_3 .skip
def c129_5 : ACode := .seq c129_1 c129_4
def c129_6 : ACode := .ops [⟨some 11, .mv (.t 0), none, []⟩,
  ⟨some 12, .mv (.t 1), none, []⟩,
  ⟨some 13, .conv .u64 (.t 12), none, []⟩,
  ⟨some 14, .bin .shr (.t 11) (.t 13), none, []⟩,
  ⟨some 15, .mv (.t 2), none, []⟩,
  ⟨some 16, .call 163 [.t 15], none, []⟩,
  ⟨some 17, .bin .and (.t 14) (.t 16), none, []⟩,
  ⟨some 6, .mv (.t 17), none, []⟩] [6]
def c129_7 : ACode := .seq c129_6 .ret
def c129_8 : ACode := .seq c129_5 c129_7
def c129_9 : ACode := .seq c129_0 c129_8
def a129 : AFun := ⟨3, 18, c129_9, [.t 6]⟩

/- copse/node.Unpack$1 -/
def c130_0 : ACode := .ops [⟨some 5, .mv (.c (.int .i64 0)), none, []⟩] [0, 1, 2]
def c130_1 : ACode := .ops [⟨some 6, .load 1 false (.t 2), none, []⟩,
  ⟨some 7, .mv (.t 0), none, []⟩,
  ⟨some 8, .mv (.t 1), none, []⟩,
  ⟨some 9, .call 129 [.t 6, .t 7, .t 8], none, []⟩,
  ⟨some 10, .conv .i64 (.t 9), none, []⟩,
  ⟨some 5, .mv (.t 10), none, []⟩] [5]
def c130_2 : ACode := .seq c130_1 .ret
def c130_3 : ACode := .seq c130_0 c130_2
def a130 : AFun := ⟨3, 11, c130_3, [.t 5]⟩

/- copse/node.Pack -/
def c131_0 : ACode := .ops [⟨some 1, .box (.t 0) 6, none, []⟩,
  ⟨some 2, .mv (.c (.int .u64 0)), none, []⟩] [1]
def c131_1 : ACode := .ops [⟨some 4, .load 6 true (.t 1), none, [1]⟩,
  ⟨some 5, .call 164 [.t 4], none, []⟩,
  ⟨some 6, .un .not (.t 5), none, []⟩] [1, 6]
def c131_2 : ACode := .ops [⟨some 2, .mv (.c (.int .u64 0)), none, []⟩] [2]
def c131_3 : ACode := .seq c131_2 .ret
def c131_4 : ACode := .cond (.t 6) c131_3 .skip
def c131_5 : ACode := .seq c131_1 c131_4
def c131_6 : ACode := .ops [⟨some 7, .fad (.t 1) 0, none, [1]⟩,
  ⟨some 8, .load 1 false (.t 7), none, [1]⟩] [1, 8]
def c131_7 : ACode := .ops [⟨some 9, .fad (.t 1) 1, none, [1]⟩,
  ⟨some 10, .load 1 false (.t 9), none, [1]⟩,
  ⟨some 11, .conv .u64 (.t 10), none, []⟩,
  ⟨some 12, .call 165 [.c (.int .u64 9223372036854775808), .c (.int .i64 0), .c (.int .i64 32), .t 11], none, []⟩,
  ⟨some 2, .mv (.t 12), none, []⟩] [2]
def c131_8 : ACode := .seq c131_7 .ret
def c131_9 : ACode := .cond (.t 8) c131_8 .skip
def c131_10 : ACode := .seq c131_6 c131_9
def c131_11 : ACode := .ops [⟨some 13, .fad (.t 1) 3, none, [1]⟩,
  ⟨some 14, .load 1 false (.t 13), none, [1]⟩,
  ⟨some 15, .conv .u64 (.t 14), none, []⟩,
  ⟨some 16, .call 165 [.c (.int .u64 0), .c (.int .i64 0), .c (.int .i64 32), .t 15], none, []⟩,
  ⟨some 3, .mv (.t 16), none, []⟩] [1, 3]
def c131_12 : ACode := .ops [⟨some 17, .mv (.t 3), none, []⟩,
  ⟨some 18, .fad (.t 1) 2, none, [1]⟩,
  ⟨some 19, .load 1 false (.t 18), none, [1]⟩,
  ⟨some 20, .conv .u64 (.t 19), none, []⟩,
  ⟨some 21, .call 165 [.t 17, .c (.int .i64 32), .c (.int .i64 4), .t 20], none, []⟩,
  ⟨some 3, .mv (.t 21), none, []⟩] [1, 3]
def c131_13 : ACode := .ops [⟨some 22, .mv (.t 3), none, []⟩,
  ⟨some 23, .fad (.t 1) 4, none, [1]⟩,
  ⟨some 24, .load 1 false (.t 23), none, [1]⟩,
  ⟨some 25, .conv .u64 (.t 24), none, []⟩,
  ⟨some 26, .call 165 [.t 22, .c (.int .i64 40), .c (.int .i64 8), .t 25], none, []⟩,
  ⟨some 3, .mv (.t 26), none, []⟩] [1, 3]
def c131_14 : ACode := .ops [⟨some 27, .mv (.t 3), none, []⟩,
  ⟨some 28, .fad (.t 1) 5, none, [1]⟩,
  ⟨some 29, .load 1 false (.t 28), none, [1]⟩,
  ⟨some 30, .conv .u64 (.t 29), none, []⟩,
  ⟨some 31, .call 165 [.t 27, .c (.int .i64 48), .c (.int .i64 8), .t 30], none, []⟩,
  ⟨some 2, .mv (.t 31), none, []⟩] [2]
def c131_15 : ACode := .seq c131_14 .ret
def c131_16 : ACode := .seq c131_13 c131_15
def c131_17 : ACode := .seq c131_12 c131_16
def c131_18 : ACode := .seq c131_11 c131_17
def c131_19 : ACode := .seq c131_10 c131_18
def c131_20 : ACode := .seq c131_5 c131_19
def c131_21 : ACode := .seq c131_0 c131_20
def a131 : AFun := ⟨1, 32, c131_21, [.t 2]⟩

/- copse/tree.end -/
def c148_0 : ACode := .ops [⟨some 3, .box (.t 1) 4, none, []⟩,
  ⟨some 4, .mv (.c (.int .i64 0)), none, []⟩,
  ⟨some 5, .alloc [.bool false, .int .i64 0, .int .i64 0, .int .i64 0, .int .i64 0, .int .i64 0], none, []⟩] [0, 3, 5]
def c148_1 : ACode := .ops [⟨some 6, .mv (.c (.int .i64 0)), none, []⟩] [0, 3, 5, 6]
def c148_2 : ACode := .ops [⟨some 9, .mv (.c (.int .i64 0)), none, []⟩] [0, 3, 5, 6, 9]
def c148_3 : ACode := .ops [⟨some 10, .bin .lss (.t 9) (.c (.int .i64 31)), none, []⟩] [0, 3, 5, 6, 9, 10]
def c148_4 : ACode := .cond (.t 10) .skip (.exit 0)
def c148_5 : ACode := .ops [⟨some 11, .mv (.t 6), none, []⟩,
  ⟨some 12, .mv (.t 0), none, []⟩,
  ⟨some 13, .len (.t 12), none, []⟩,
  ⟨some 14, .bin .geq (.t 11) (.t 13), none, []⟩] [0, 3, 5, 6, 9, 14]
def c148_6 : ACode := .cond (.t 14) (.exit 0) .skip
def c148_7 : ACode := .seq c148_5 c148_6
def c148_8 : ACode := .ops [⟨some 16, .mv (.t 0), none, []⟩,
  ⟨some 17, .mv (.t 6), none, []⟩,
  ⟨some 18, .ias (.t 16) (.t 17) 1, none, []⟩,
  ⟨some 19, .load 1 false (.t 18), none, []⟩,
  ⟨some 20, .call 77 [.t 19], none, []⟩,
  ⟨some 15, .mv (.t 20), none, []⟩,
  ⟨some 21, .ext (.t 15) 0, none, []⟩,
  ⟨some 22, .ext (.t 15) 1, none, []⟩,
  ⟨some 7, .alloc [.bool false, .int .i64 0, .int .i64 0, .int .i64 0, .int .i64 0, .int .i64 0], none, []⟩,
  ⟨none, .store (.t 7) 6 (.t 21), none, [7]⟩,
  ⟨some 8, .mv (.t 22), none, []⟩] [0, 3, 5, 6, 7, 8, 9]
def c148_9 : ACode := .ops [⟨some 26, .mv (.t 8), none, []⟩,
  ⟨some 27, .un .not (.t 26), none, []⟩,
  ⟨some 25, .mv (.t 27), none, []⟩] [0, 3, 5, 6, 7, 9, 25]
def c148_10 : ACode := .ops [⟨some 28, .build [.bool false, .int .i64 0, .int .i64 0, .int .i64 0, .int .i64 0, .int .i64 0] [], none, []⟩,
  ⟨some 4, .mv (.c (.int .i64 (-1))), none, []⟩,
  ⟨none, .store (.t 5) 6 (.t 28), none, [5]⟩] [4, 5]
def c148_11 : ACode := .seq c148_10 .ret
def c148_12 : ACode := .ops [⟨some 30, .fad (.t 7) 0, none, [7]⟩,
  ⟨some 31, .load 1 false (.t 30), none, [7]⟩,
  ⟨some 29, .mv (.t 31), none, []⟩] [0, 3, 5, 6, 7, 9, 29]
def c148_13 : ACode := .ops [⟨some 32, .mv (.t 6), none, []⟩,
  ⟨some 33, .load 6 true (.t 7), none, [7]⟩,
  ⟨some 4, .mv (.t 32), none, []⟩,
  ⟨none, .store (.t 5) 6 (.t 33), none, [5]⟩] [4, 5]
def c148_14 : ACode := .seq c148_13 .ret
def c148_15 : ACode := .ops [⟨some 35, .fad (.t 7) 2, none, [7]⟩,
  ⟨some 36, .load 1 false (.t 35), none, [7]⟩,
  ⟨some 37, .iad (.t 3) (.t 36) 1 4, none, [3]⟩,
  ⟨some 38, .load 1 false (.t 37), none, [3]⟩,
  ⟨some 39, .fad (.t 7) 3, none, [7]⟩,
  ⟨some 40, .load 1 false (.t 39), none, [7]⟩,
  ⟨some 41, .bin .leq (.t 38) (.t 40), none, []⟩,
  ⟨some 34, .mv (.t 41), none, []⟩] [0, 3, 5, 7, 9, 34]
def c148_16 : ACode := .ops [⟨some 42, .fad (.t 7) 4, none, [7]⟩,
  ⟨some 43, .load 1 false (.t 42), none, [7]⟩,
  ⟨some 6, .mv (.t 43), none, []⟩] [0, 3, 5, 6, 9]
def c148_17 : ACode := .ops [⟨some 23, .fad (.t 7) 5, none, [7]⟩,
  ⟨some 24, .load 1 false (.t 23), none, [7]⟩,
  ⟨some 6, .mv (.t 24), none, []⟩] [0, 3, 5, 6, 9]
def c148_18 : ACode := .cond (.t 34) c148_16 c148_17
def c148_19 : ACode := .seq c148_15 c148_18
def c148_20 : ACode := .cond (.t 29) c148_14 c148_19
def c148_21 : ACode := .seq c148_12 c148_20
def c148_22 : ACode := .cond (.t 25) c148_11 c148_21
def c148_23 : ACode := .seq c148_9 c148_22
def c148_24 : ACode := .block 2 c148_23
def c148_25 : ACode := .seq c148_8 c148_24
def c148_26 : ACode := .seq c148_7 c148_25
def c148_27 : ACode := .block 1 c148_26
def c148_28 : ACode := .ops [⟨some 44, .bin .add (.t 9) (.c (.int .i64 1)), none, []⟩,
  ⟨some 9, .mv (.t 44), none, []⟩] [0, 3, 5, 6, 9]
def c148_29 : ACode := .seq c148_27 c148_28
def c148_30 : ACode := .seq c148_4 c148_29
def c148_31 : ACode := .seq c148_3 c148_30
def c148_32 : ACode := .keep [0, 3, 5, 6, 9] [3, 5] c148_31
def c148_33 : ACode := .loop c148_32
def c148_34 : ACode := .block 0 c148_33
def c148_35 : ACode := .seq c148_2 c148_34
def c148_36 : ACode := .ops [⟨some 45, .build [.bool false, .int .i64 0, .int .i64 0, .int .i64 0, .int .i64 0, .int .i64 0] [], none, []⟩,
  ⟨some 4, .mv (.c (.int .i64 (-1))), none, []⟩,
  ⟨none, .store (.t 5) 6 (.t 45), none, [5]⟩] [4, 5]
def c148_37 : ACode := .seq c148_36 .ret
def c148_38 : ACode := .seq c148_35 c148_37
def c148_39 : ACode := .seq c148_1 c148_38
def c148_40 : ACode := .seq c148_0 c148_39
def a148 : AFun := ⟨2, 46, c148_40, [.t 4, .cell 5 6 true]⟩

/- copse/box.Low -/
def c151_0 : ACode := .ops [⟨some 1, .box (.t 0) 10, none, []⟩,
  ⟨some 2, .alloc [.int .i64 0, .int .i64 0, .int .i64 0, .int .i64 0], none, []⟩] [1, 2]
def c151_1 : ACode := .ops [⟨some 3, .alloc [.int .i64 0, .int .i64 0, .int .i64 0, .int .i64 0], none, []⟩] [1, 2, 3]
def c151_2 : ACode := .ops [⟨some 5, .mv (.c (.int .i64 0)), none, []⟩] [1, 2, 3, 5]
def c151_3 : ACode := .ops [⟨some 6, .bin .lss (.t 5) (.c (.int .i64 4)), none, []⟩] [1, 2, 3, 5, 6]
def c151_4 : ACode := .cond (.t 6) .skip (.exit 0)
def c151_5 : ACode := .ops [⟨some 7, .mv (.t 5), none, []⟩,
  ⟨some 4, .mv (.t 7), none, []⟩] [1, 2, 3, 4, 5]
def c151_6 : ACode := .ops [⟨some 8, .mv (.t 4), none, []⟩,
  ⟨some 9, .mv (.t 4), none, []⟩,
  ⟨some 10, .iad (.t 1) (.t 9) 2 5, none, [1]⟩,
  ⟨some 11, .fad (.t 10) 0, none, [1]⟩,
  ⟨some 12, .load 1 false (.t 11), none, [1]⟩,
  ⟨some 13, .iad (.t 3) (.t 8) 1 4, none, [3]⟩,
  ⟨none, .store (.t 13) 1 (.t 12), none, [3]⟩] [1, 2, 3, 5]
def c151_7 : ACode := .seq c151_5 c151_6
def c151_8 : ACode := .block 1 c151_7
def c151_9 : ACode := .ops [⟨some 14, .bin .add (.t 5) (.c (.int .i64 1)), none, []⟩,
  ⟨some 5, .mv (.t 14), none, []⟩] [1, 2, 3, 5]
def c151_10 : ACode := .seq c151_8 c151_9
def c151_11 : ACode := .seq c151_4 c151_10
def c151_12 : ACode := .seq c151_3 c151_11
def c151_13 : ACode := .keep [1, 2, 3, 5] [1, 2, 3] c151_12
def c151_14 : ACode := .loop c151_13
def c151_15 : ACode := .block 0 c151_14
def c151_16 : ACode := .seq c151_2 c151_15
def c151_17 : ACode := .ops [⟨some 15, .load 4 true (.t 3), none, [3]⟩,
  ⟨none, .store (.t 2) 4 (.t 15), none, [2]⟩] [2]
def c151_18 : ACode := .seq c151_17 .ret
def c151_19 : ACode := .seq c151_16 c151_18
def c151_20 : ACode := .seq c151_1 c151_19
def c151_21 : ACode := .seq c151_0 c151_20
def a151 : AFun := ⟨1, 16, c151_21, [.cell 2 4 true]⟩

/- copse/grid.feature -/
def c152_0 : ACode := .ops [⟨some 2, .box (.t 0) 17, none, []⟩,
  ⟨some 4, .mv (.c (.int .i64 0)), none, []⟩] [1, 2]
def c152_1 : ACode := .ops [⟨some 6, .mv (.t 1), none, []⟩,
  ⟨some 7, .bin .geq (.t 6) (.c (.int .i64 0)), none, []⟩,
  ⟨some 8, .mv (.t 7), none, []⟩,
  ⟨some 9, .mv (.t 1), some (8, true), []⟩,
  ⟨some 10, .bin .lss (.t 9) (.c (.int .i64 4)), some (8, true), []⟩,
  ⟨some 11, .pick (.t 8) (.t 10) (.c (.bool false)), none, []⟩,
  ⟨some 5, .mv (.t 11), none, []⟩] [1, 2, 5]
def c152_2 : ACode := .ops [⟨some 12, .mv (.t 1), none, []⟩,
  ⟨some 4, .mv (.t 12), none, []⟩] [4]
def c152_3 : ACode := .seq c152_2 .ret
def c152_4 : ACode := .ops [⟨some 14, .mv (.t 1), none, []⟩,
  ⟨some 15, .bin .eql (.t 14) (.c (.int .i64 4)), none, []⟩,
  ⟨some 16, .mv (.t 15), none, []⟩,
  ⟨some 17, .fad (.t 2) 0, some (16, true), [2]⟩,
  ⟨some 18, .load 1 false (.t 17), some (16, true), [2]⟩,
  ⟨some 19, .bin .eql (.t 18) (.c (.int .i64 3)), some (16, true), []⟩,
  ⟨some 20, .pick (.t 16) (.t 19) (.c (.bool false)), none, []⟩,
  ⟨some 13, .mv (.t 20), none, []⟩] [2, 13]
def c152_5 : ACode := .ops [⟨some 21, .fad (.t 2) 14, none, [2]⟩,
  ⟨some 22, .load 1 false (.t 21), none, [2]⟩,
  ⟨some 4, .mv (.t 22), none, []⟩] [4]
def c152_6 : ACode := .seq c152_5 .ret
def c152_7 : ACode := .cond (.t 13) c152_6 .skip
def c152_8 : ACode := .seq c152_4 c152_7
def c152_9 : ACode := .cond (.t 5) c152_3 c152_8
def c152_10 : ACode := .seq c152_1 c152_9
def c152_11 : ACode := .block 0 c152_10
def c152_12 : ACode := .ops [⟨some 4, .mv (.c (.int .i64 (-1))), none, []⟩] [4]
def c152_13 : ACode := .seq c152_12 .ret
def c152_14 : ACode := .seq c152_11 c152_13
def c152_15 : ACode := .seq c152_0 c152_14
def a152 : AFun := ⟨2, 23, c152_15, [.t 4]⟩

/- slices.DeleteFunc[[]int,int] -/
def c153_0 : ACode := .ops [⟨some 4, .mv (.c (.nils)), none, []⟩] [0, 1]
def c153_1 : ACode := .ops [⟨some 8, .mv (.t 0), none, []⟩,
  ⟨some 9, .mv (.t 1), none, []⟩,
  ⟨some 10, .gcall 175 [.t 8, .t 9] [0] 0, none, [0]⟩,
  ⟨some 5, .mv (.t 10), none, []⟩] [0, 1, 5]
def c153_2 : ACode := .ops [⟨some 11, .mv (.t 5), none, []⟩,
  ⟨some 12, .bin .eql (.t 11) (.c (.int .i64 (-1))), none, []⟩] [0, 1, 5, 12]
def c153_3 : ACode := .ops [⟨some 13, .mv (.t 0), none, []⟩,
  ⟨some 4, .mv (.t 13), none, []⟩] [4]
def c153_4 : ACode := .seq c153_3 .ret
def c153_5 : ACode := .cond (.t 12) c153_4 .skip
def c153_6 : ACode := .seq c153_2 c153_5
def c153_7 : ACode := .ops [⟨some 14, .mv (.t 5), none, []⟩,
  ⟨some 15, .bin .add (.t 14) (.c (.int .i64 1)), none, []⟩,
  ⟨some 6, .mv (.t 15), none, []⟩] [0, 1, 5, 6]
def c153_8 : ACode := .ops [⟨some 16, .mv (.t 6), none, []⟩,
  ⟨some 17, .mv (.t 0), none, []⟩,
  ⟨some 18, .len (.t 17), none, [0]⟩,
  ⟨some 19, .bin .lss (.t 16) (.t 18), none, []⟩] [0, 1, 5, 6, 19]
def c153_9 : ACode := .cond (.t 19) .skip (.exit 0)
def c153_10 : ACode := .seq c153_8 c153_9
def c153_11 : ACode := .ops [⟨some 22, .mv (.t 0), none, []⟩,
  ⟨some 23, .mv (.t 6), none, []⟩,
  ⟨some 24, .ias (.t 22) (.t 23) 1, none, [0]⟩,
  ⟨some 25, .load 1 false (.t 24), none, [0]⟩,
  ⟨some 7, .mv (.t 25), none, []⟩] [0, 1, 5, 6, 7]
def c153_12 : ACode := .ops [⟨some 26, .mv (.t 1), none, []⟩,
  ⟨some 27, .mv (.t 7), none, []⟩,
  ⟨some 28, .dyn (.t 26) [.t 27], none, []⟩,
  ⟨some 29, .un .not (.t 28), none, []⟩] [0, 1, 5, 6, 7, 29]
def c153_13 : ACode := .ops [⟨some 30, .mv (.t 0), none, []⟩,
  ⟨some 31, .mv (.t 5), none, []⟩,
  ⟨some 32, .mv (.t 7), none, []⟩,
  ⟨some 33, .ias (.t 30) (.t 31) 1, none, [0]⟩,
  ⟨none, .store (.t 33) 1 (.t 32), none, [0]⟩] [0, 1, 5, 6]
def c153_14 : ACode := .ops [⟨some 34, .mv (.t 5), none, []⟩,
  ⟨some 35, .bin .add (.t 34) (.c (.int .i64 1)), none, []⟩,
  ⟨some 5, .mv (.t 35), none, []⟩] [0, 1, 5, 6]
def c153_15 : ACode := .seq c153_13 c153_14
def c153_16 : ACode := .cond (.t 29) c153_15 .skip
def c153_17 : ACode := .seq c153_12 c153_16
def c153_18 : ACode := .seq c153_11 c153_17
def c153_19 : ACode := .block 1 c153_18
def c153_20 : ACode := .ops [⟨some 20, .mv (.t 6), none, []⟩,
  ⟨some 21, .bin .add (.t 20) (.c (.int .i64 1)), none, []⟩,
  ⟨some 6, .mv (.t 21), none, []⟩] [0, 1, 5, 6]
def c153_21 : ACode := .seq c153_19 c153_20
def c153_22 : ACode := .seq c153_10 c153_21
def c153_23 : ACode := .keep [0, 1, 5, 6] [0] c153_22
def c153_24 : ACode := .loop c153_23
def c153_25 : ACode := .block 0 c153_24
def c153_26 : ACode := .seq c153_7 c153_25
def c153_27 : ACode := .ops [⟨some 36, .mv (.t 0), none, []⟩,
  ⟨some 37, .mv (.t 5), none, []⟩,
  ⟨some 38, .sl (.t 36) (some (.t 37)) none 1, none, [0]⟩,
  ⟨none, .clear (.t 38) 1 [.int .i64 0], none, [0]⟩] [0, 5]
def c153_28 : ACode := .ops [⟨some 39, .mv (.t 0), none, []⟩,
  ⟨some 40, .mv (.t 5), none, []⟩,
  ⟨some 41, .sl (.t 39) none (some (.t 40)) 1, none, [0]⟩,
  ⟨some 4, .mv (.t 41), none, []⟩] [4]
def c153_29 : ACode := .seq c153_28 .ret
def c153_30 : ACode := .seq c153_27 c153_29
def c153_31 : ACode := .seq c153_26 c153_30
def c153_32 : ACode := .seq c153_6 c153_31
def c153_33 : ACode := .seq c153_1 c153_32
def c153_34 : ACode := .seq c153_0 c153_33
def a153 : AFun := ⟨2, 42, c153_34, [.t 4]⟩

/- copse/grid.Cuts$1 -/
def c154_0 : ACode := .ops [⟨some 3, .mv (.c (.bool false)), none, []⟩] [0, 1]
def c154_1 : ACode := .ops [⟨some 4, .mv (.t 0), none, []⟩,
  ⟨some 5, .fad (.t 1) 0, none, []⟩,
  ⟨some 6, .load 1 false (.t 5), none, []⟩,
  ⟨some 7, .bin .lss (.t 4) (.t 6), none, []⟩,
  ⟨some 8, .mv (.t 7), none, []⟩,
  ⟨some 9, .mv (.t 0), some (8, false), []⟩,
  ⟨some 10, .fad (.t 1) 1, some (8, false), []⟩,
  ⟨some 11, .load 1 false (.t 10), some (8, false), []⟩,
  ⟨some 12, .bin .geq (.t 9) (.t 11), some (8, false), []⟩,
  ⟨some 13, .pick (.t 8) (.c (.bool true)) (.t 12), none, []⟩,
  ⟨some 3, .mv (.t 13), none, []⟩] [3]
def c154_2 : ACode := .seq c154_1 .ret
def c154_3 : ACode := .seq c154_0 c154_2
def a154 : AFun := ⟨2, 14, c154_3, [.t 3]⟩

/- copse/copseref6.RightNode -/
def c156_0 : ACode := .ops [⟨some 1, .box (.t 0) 6, none, []⟩,
  ⟨some 2, .mv (.c (.bool false)), none, []⟩] [1]
def c156_1 : ACode := .ops [⟨some 3, .fad (.t 1) 0, none, [1]⟩,
  ⟨some 4, .load 1 false (.t 3), none, [1]⟩] [1, 4]
def c156_2 : ACode := .ops [⟨some 5, .fad (.t 1) 1, none, [1]⟩,
  ⟨some 6, .load 1 false (.t 5), none, [1]⟩,
  ⟨some 7, .call 119 [.t 6, .c (.int .i64 32)], none, []⟩,
  ⟨some 8, .mv (.t 7), none, []⟩,
  ⟨some 9, .fad (.t 1) 2, some (8, true), [1]⟩,
  ⟨some 10, .load 1 false (.t 9), some (8, true), [1]⟩,
  ⟨some 11, .bin .eql (.t 10) (.c (.int .i64 0)), some (8, true), []⟩,
  ⟨some 12, .pick (.t 8) (.t 11) (.c (.bool false)), none, []⟩,
  ⟨some 13, .mv (.t 12), none, []⟩,
  ⟨some 14, .fad (.t 1) 3, some (13, true), [1]⟩,
  ⟨some 15, .load 1 false (.t 14), some (13, true), [1]⟩,
  ⟨some 16, .bin .eql (.t 15) (.c (.int .i64 0)), some (13, true), []⟩,
  ⟨some 17, .pick (.t 13) (.t 16) (.c (.bool false)), none, []⟩,
  ⟨some 18, .mv (.t 17), none, []⟩,
  ⟨some 19, .fad (.t 1) 4, some (18, true), [1]⟩,
  ⟨some 20, .load 1 false (.t 19), some (18, true), [1]⟩,
  ⟨some 21, .bin .eql (.t 20) (.c (.int .i64 0)), some (18, true), []⟩,
  ⟨some 22, .pick (.t 18) (.t 21) (.c (.bool false)), none, []⟩,
  ⟨some 23, .mv (.t 22), none, []⟩,
  ⟨some 24, .fad (.t 1) 5, some (23, true), [1]⟩,
  ⟨some 25, .load 1 false (.t 24), some (23, true), [1]⟩,
  ⟨some 26, .bin .eql (.t 25) (.c (.int .i64 0)), some (23, true), []⟩,
  ⟨some 27, .pick (.t 23) (.t 26) (.c (.bool false)), none, []⟩,
  ⟨some 2, .mv (.t 27), none, []⟩] [2]
def c156_3 : ACode := .seq c156_2 .ret
def c156_4 : ACode := .cond (.t 4) c156_3 .skip
def c156_5 : ACode := .seq c156_1 c156_4
def c156_6 : ACode := .ops [⟨some 28, .fad (.t 1) 1, none, [1]⟩,
  ⟨some 29, .load 1 false (.t 28), none, [1]⟩,
  ⟨some 30, .bin .eql (.t 29) (.c (.int .i64 0)), none, []⟩,
  ⟨some 31, .mv (.t 30), none, []⟩,
  ⟨some 32, .fad (.t 1) 2, some (31, true), [1]⟩,
  ⟨some 33, .load 1 false (.t 32), some (31, true), [1]⟩,
  ⟨some 34, .bin .geq (.t 33) (.c (.int .i64 0)), some (31, true), []⟩,
  ⟨some 35, .pick (.t 31) (.t 34) (.c (.bool false)), none, []⟩,
  ⟨some 36, .mv (.t 35), none, []⟩,
  ⟨some 37, .fad (.t 1) 2, some (36, true), [1]⟩,
  ⟨some 38, .load 1 false (.t 37), some (36, true), [1]⟩,
  ⟨some 39, .bin .lss (.t 38) (.c (.int .i64 4)), some (36, true), []⟩,
  ⟨some 40, .pick (.t 36) (.t 39) (.c (.bool false)), none, []⟩,
  ⟨some 41, .mv (.t 40), none, []⟩,
  ⟨some 42, .fad (.t 1) 3, some (41, true), [1]⟩,
  ⟨some 43, .load 1 false (.t 42), some (41, true), [1]⟩,
  ⟨some 44, .call 119 [.t 43, .c (.int .i64 32)], some (41, true), []⟩,
  ⟨some 45, .pick (.t 41) (.t 44) (.c (.bool false)), none, []⟩,
  ⟨some 46, .mv (.t 45), none, []⟩,
  ⟨some 47, .fad (.t 1) 4, some (46, true), [1]⟩,
  ⟨some 48, .load 1 false (.t 47), some (46, true), [1]⟩,
  ⟨some 49, .bin .geq (.t 48) (.c (.int .i64 1)), some (46, true), []⟩,
  ⟨some 50, .pick (.t 46) (.t 49) (.c (.bool false)), none, []⟩,
  ⟨some 51, .mv (.t 50), none, []⟩,
  ⟨some 52, .fad (.t 1) 4, some (51, true), [1]⟩,
  ⟨some 53, .load 1 false (.t 52), some (51, true), [1]⟩,
  ⟨some 54, .bin .lss (.t 53) (.c (.int .i64 31)), some (51, true), []⟩,
  ⟨some 55, .pick (.t 51) (.t 54) (.c (.bool false)), none, []⟩,
  ⟨some 56, .mv (.t 55), none, []⟩,
  ⟨some 57, .fad (.t 1) 5, some (56, true), [1]⟩,
  ⟨some 58, .load 1 false (.t 57), some (56, true), [1]⟩,
  ⟨some 59, .bin .geq (.t 58) (.c (.int .i64 1)), some (56, true), []⟩,
  ⟨some 60, .pick (.t 56) (.t 59) (.c (.bool false)), none, []⟩,
  ⟨some 61, .mv (.t 60), none, []⟩,
  ⟨some 62, .fad (.t 1) 5, some (61, true), [1]⟩,
  ⟨some 63, .load 1 false (.t 62), some (61, true), [1]⟩,
  ⟨some 64, .bin .lss (.t 63) (.c (.int .i64 31)), some (61, true), []⟩,
  ⟨some 65, .pick (.t 61) (.t 64) (.c (.bool false)), none, []⟩,
  ⟨some 2, .mv (.t 65), none, []⟩] [2]
def c156_7 : ACode := .seq c156_6 .ret
def c156_8 : ACode := .seq c156_5 c156_7
def c156_9 : ACode := .seq c156_0 c156_8
def a156 : AFun := ⟨1, 66, c156_9, [.t 2]⟩

/- copse/span.of -/
def c158_0 : ACode := .ops [⟨some 4, .alloc [.int .i64 0, .int .i64 0], none, []⟩] [0, 1, 4]
def c158_1 : ACode := .ops [⟨some 5, .mv (.t 0), none, []⟩,
  ⟨some 6, .mv (.t 1), none, []⟩,
  ⟨some 7, .bin .gtr (.t 5) (.t 6), none, []⟩] [0, 1, 4, 7]
def c158_2 : ACode := .ops [⟨some 8, .call 159 [], none, []⟩,
  ⟨none, .store (.t 4) 2 (.t 8), none, [4]⟩] [4]
def c158_3 : ACode := .seq c158_2 .ret
def c158_4 : ACode := .cond (.t 7) c158_3 .skip
def c158_5 : ACode := .seq c158_1 c158_4
def c158_6 : ACode := .ops [⟨some 9, .mv (.t 0), none, []⟩,
  ⟨some 10, .mv (.t 1), none, []⟩,
  ⟨some 11, .build [.int .i64 0, .int .i64 0] [(0, 1, .t 9), (1, 1, .t 10)], none, []⟩,
  ⟨none, .store (.t 4) 2 (.t 11), none, [4]⟩] [4]
def c158_7 : ACode := .seq c158_6 .ret
def c158_8 : ACode := .seq c158_5 c158_7
def c158_9 : ACode := .seq c158_0 c158_8
def a158 : AFun := ⟨2, 12, c158_9, [.cell 4 2 true]⟩

/- copse/span.none -/
def c159_0 : ACode := .ops [⟨some 0, .alloc [.int .i64 0, .int .i64 0], none, []⟩] [0]
def c159_1 : ACode := .ops [⟨some 1, .build [.int .i64 0, .int .i64 0] [(0, 1, .c (.int .i64 1))], none, []⟩,
  ⟨none, .store (.t 0) 2 (.t 1), none, [0]⟩] [0]
def c159_2 : ACode := .seq c159_1 .ret
def c159_3 : ACode := .seq c159_0 c159_2
def a159 : AFun := ⟨0, 2, c159_3, [.cell 0 2 true]⟩

/- slices.IndexFunc[[]copse/api.Tree,copse/api.Tree] -/
def c160_0 : ACode := .ops [⟨some 4, .mv (.c (.int .i64 0)), none, []⟩] [0, 1]
def c160_1 : ACode := .ops [⟨some 6, .mv (.t 0), none, []⟩,
  ⟨some 7, .len (.t 6), none, []⟩,
  ⟨some 8, .mv (.c (.int .i64 0)), none, []⟩] [0, 1, 7, 8]
def c160_2 : ACode := .ops [⟨some 9, .bin .lss (.t 8) (.t 7), none, []⟩] [0, 1, 7, 8, 9]
def c160_3 : ACode := .cond (.t 9) .skip (.exit 0)
def c160_4 : ACode := .ops [⟨some 10, .mv (.t 8), none, []⟩,
  ⟨some 5, .mv (.t 10), none, []⟩] [0, 1, 5, 7, 8]
def c160_5 : ACode := .ops [⟨some 11, .mv (.t 1), none, []⟩,
  ⟨some 12, .mv (.t 0), none, []⟩,
  ⟨some 13, .mv (.t 5), none, []⟩,
  ⟨some 14, .ias (.t 12) (.t 13) 2, none, []⟩,
  ⟨some 15, .load 2 true (.t 14), none, []⟩,
  ⟨some 16, .dyn (.t 11) [.t 15], none, []⟩] [0, 1, 5, 7, 8, 16]
def c160_6 : ACode := .ops [⟨some 17, .mv (.t 5), none, []⟩,
  ⟨some 4, .mv (.t 17), none, []⟩] [4]
def c160_7 : ACode := .seq c160_6 .ret
def c160_8 : ACode := .cond (.t 16) c160_7 .skip
def c160_9 : ACode := .seq c160_5 c160_8
def c160_10 : ACode := .seq c160_4 c160_9
def c160_11 : ACode := .block 1 c160_10
def c160_12 : ACode := .ops [⟨some 18, .bin .add (.t 8) (.c (.int .i64 1)), none, []⟩,
  ⟨some 8, .mv (.t 18), none, []⟩] [0, 1, 7, 8]
def c160_13 : ACode := .seq c160_11 c160_12
def c160_14 : ACode := .seq c160_3 c160_13
def c160_15 : ACode := .seq c160_2 c160_14
def c160_16 : ACode := .keep [0, 1, 7, 8] [] c160_15
def c160_17 : ACode := .loop c160_16
def c160_18 : ACode := .block 0 c160_17
def c160_19 : ACode := .seq c160_1 c160_18
def c160_20 : ACode := .ops [⟨some 4, .mv (.c (.int .i64 (-1))), none, []⟩] [4]
def c160_21 : ACode := .seq c160_20 .ret
def c160_22 : ACode := .seq c160_19 c160_21
def c160_23 : ACode := .seq c160_0 c160_22
def a160 : AFun := ⟨2, 19, c160_23, [.t 4]⟩

/- copse/bits.Wrap -/
def c161_0 : ACode := .ops [⟨some 4, .mv (.c (.int .i64 0)), none, []⟩] [0, 1]
def c161_1 : ACode := .ops [⟨some 6, .mv (.t 1), none, []⟩,
  ⟨some 7, .bin .lss (.t 6) (.c (.int .i64 1)), none, []⟩,
  ⟨some 8, .mv (.t 7), none, []⟩,
  ⟨some 9, .mv (.t 1), some (8, false), []⟩,
  ⟨some 10, .bin .geq (.t 9) (.c (.int .i64 64)), some (8, false), []⟩,
  ⟨some 11, .pick (.t 8) (.c (.bool true)) (.t 10), none, []⟩] [0, 1, 11]
def c161_2 : ACode := .ops [⟨some 12, .mv (.t 0), none, []⟩,
  ⟨some 4, .mv (.t 12), none, []⟩] [4]
def c161_3 : ACode := .seq c161_2 .ret
def c161_4 : ACode := .cond (.t 11) c161_3 .skip
def c161_5 : ACode := .seq c161_1 c161_4
def c161_6 : ACode := .ops [⟨some 13, .mv (.t 1), none, []⟩,
  ⟨some 14, .bin .sub (.c (.int .i64 64)) (.t 13), none, []⟩,
  ⟨some 15, .conv .u64 (.t 14), none, []⟩,
  ⟨some 5, .mv (.t 15), none, []⟩] [0, 5]
def c161_7 : ACode := .ops [⟨some 16, .mv (.t 0), none, []⟩,
  ⟨some 17, .mv (.t 5), none, []⟩,
  ⟨some 18, .bin .shl (.t 16) (.t 17), none, []⟩,
  ⟨some 19, .mv (.t 5), none, []⟩,
  ⟨some 20, .bin .shr (.t 18) (.t 19), none, []⟩,
  ⟨some 4, .mv (.t 20), none, []⟩] [4]
def c161_8 : ACode := .seq c161_7 .ret
def c161_9 : ACode := .seq c161_6 c161_8
def c161_10 : ACode := .seq c161_5 c161_9
def c161_11 : ACode := .seq c161_0 c161_10
def a161 : AFun := ⟨2, 21, c161_11, [.t 4]⟩

/- copse/bits.field -/
def c162_0 : ACode := .ops [⟨some 4, .mv (.c (.bool false)), none, []⟩] [0, 1]
def c162_1 : ACode := .ops [⟨some 5, .mv (.t 0), none, []⟩,
  ⟨some 6, .bin .geq (.t 5) (.c (.int .i64 0)), none, []⟩,
  ⟨some 7, .mv (.t 6), none, []⟩,
  ⟨some 8, .mv (.t 0), some (7, true), []⟩,
  ⟨some 9, .bin .lss (.t 8) (.c (.int .i64 64)), some (7, true), []⟩,
  ⟨some 10, .pick (.t 7) (.t 9) (.c (.bool false)), none, []⟩,
  ⟨some 11, .mv (.t 10), none, []⟩,
  ⟨some 12, .mv (.t 1), some (11, true), []⟩,
  ⟨some 13, .bin .geq (.t 12) (.c (.int .i64 1)), some (11, true), []⟩,
  ⟨some 14, .pick (.t 11) (.t 13) (.c (.bool false)), none, []⟩,
  ⟨some 15, .mv (.t 14), none, []⟩,
  ⟨some 16, .mv (.t 1), some (15, true), []⟩,
  ⟨some 17, .mv (.t 0), some (15, true), []⟩,
  ⟨some 18, .bin .sub (.c (.int .i64 64)) (.t 17), some (15, true), []⟩,
  ⟨some 19, .bin .leq (.t 16) (.t 18), some (15, true), []⟩,
  ⟨some 20, .pick (.t 15) (.t 19) (.c (.bool false)), none, []⟩,
  ⟨some 4, .mv (.t 20), none, []⟩] [4]
def c162_2 : ACode := .seq c162_1 .ret
def c162_3 : ACode := .seq c162_0 c162_2
def a162 : AFun := ⟨2, 21, c162_3, [.t 4]⟩

/- copse/bits.mask -/
def c163_0 : ACode := .ops [⟨some 2, .mv (.c (.int .u64 0)), none, []⟩] [0]
def c163_1 : ACode := .ops [⟨some 3, .mv (.t 0), none, []⟩,
  ⟨some 4, .bin .sub (.c (.int .i64 64)) (.t 3), none, []⟩,
  ⟨some 5, .conv .u64 (.t 4), none, []⟩,
  ⟨some 6, .bin .shr (.c (.int .u64 18446744073709551615)) (.t 5), none, []⟩,
  ⟨some 2, .mv (.t 6), none, []⟩] [2]
def c163_2 : ACode := .seq c163_1 .ret
def c163_3 : ACode := .seq c163_0 c163_2
def a163 : AFun := ⟨1, 7, c163_3, [.t 2]⟩

/- copse/node.Right -/
def c164_0 : ACode := .ops [⟨some 1, .box (.t 0) 6, none, []⟩,
  ⟨some 2, .mv (.c (.bool false)), none, []⟩] [1]
def c164_1 : ACode := .ops [⟨some 3, .fad (.t 1) 0, none, [1]⟩,
  ⟨some 4, .load 1 false (.t 3), none, [1]⟩] [1, 4]
def c164_2 : ACode := .ops [⟨some 5, .load 6 true (.t 1), none, [1]⟩,
  ⟨some 6, .fad (.t 1) 1, none, [1]⟩,
  ⟨some 7, .load 1 false (.t 6), none, [1]⟩,
  ⟨some 8, .build [.bool false, .int .i64 0, .int .i64 0, .int .i64 0, .int .i64 0, .int .i64 0] [(0, 1, .c (.bool true)), (1, 1, .t 7)], none, []⟩,
  ⟨some 9, .eqa false [true, false, false, false, false, false] (.t 5) (.t 8), none, []⟩,
  ⟨some 10, .mv (.t 9), none, []⟩,
  ⟨some 11, .fad (.t 1) 1, some (10, true), [1]⟩,
  ⟨some 12, .load 1 false (.t 11), some (10, true), [1]⟩,
  ⟨some 13, .call 123 [.t 12, .c (.int .i64 32)], some (10, true), []⟩,
  ⟨some 14, .pick (.t 10) (.t 13) (.c (.bool false)), none, []⟩,
  ⟨some 2, .mv (.t 14), none, []⟩] [2]
def c164_3 : ACode := .seq c164_2 .ret
def c164_4 : ACode := .cond (.t 4) c164_3 .skip
def c164_5 : ACode := .seq c164_1 c164_4
def c164_6 : ACode := .ops [⟨some 15, .fad (.t 1) 1, none, [1]⟩,
  ⟨some 16, .load 1 false (.t 15), none, [1]⟩,
  ⟨some 17, .bin .eql (.t 16) (.c (.int .i64 0)), none, []⟩,
  ⟨some 18, .mv (.t 17), none, []⟩,
  ⟨some 19, .fad (.t 1) 2, some (18, true), [1]⟩,
  ⟨some 20, .load 1 false (.t 19), some (18, true), [1]⟩,
  ⟨some 21, .bin .geq (.t 20) (.c (.int .i64 0)), some (18, true), []⟩,
  ⟨some 22, .pick (.t 18) (.t 21) (.c (.bool false)), none, []⟩,
  ⟨some 23, .mv (.t 22), none, []⟩,
  ⟨some 24, .fad (.t 1) 2, some (23, true), [1]⟩,
  ⟨some 25, .load 1 false (.t 24), some (23, true), [1]⟩,
  ⟨some 26, .bin .lss (.t 25) (.c (.int .i64 4)), some (23, true), []⟩,
  ⟨some 27, .pick (.t 23) (.t 26) (.c (.bool false)), none, []⟩,
  ⟨some 28, .mv (.t 27), none, []⟩,
  ⟨some 29, .fad (.t 1) 3, some (28, true), [1]⟩,
  ⟨some 30, .load 1 false (.t 29), some (28, true), [1]⟩,
  ⟨some 31, .call 123 [.t 30, .c (.int .i64 32)], some (28, true), []⟩,
  ⟨some 32, .pick (.t 28) (.t 31) (.c (.bool false)), none, []⟩,
  ⟨some 33, .mv (.t 32), none, []⟩,
  ⟨some 34, .fad (.t 1) 4, some (33, true), [1]⟩,
  ⟨some 35, .load 1 false (.t 34), some (33, true), [1]⟩,
  ⟨some 36, .call 176 [.t 35], some (33, true), []⟩,
  ⟨some 37, .pick (.t 33) (.t 36) (.c (.bool false)), none, []⟩,
  ⟨some 38, .mv (.t 37), none, []⟩,
  ⟨some 39, .fad (.t 1) 5, some (38, true), [1]⟩,
  ⟨some 40, .load 1 false (.t 39), some (38, true), [1]⟩,
  ⟨some 41, .call 176 [.t 40], some (38, true), []⟩,
  ⟨some 42, .pick (.t 38) (.t 41) (.c (.bool false)), none, []⟩,
  ⟨some 2, .mv (.t 42), none, []⟩] [2]
def c164_7 : ACode := .seq c164_6 .ret
def c164_8 : ACode := .seq c164_5 c164_7
def c164_9 : ACode := .seq c164_0 c164_8
def a164 : AFun := ⟨1, 43, c164_9, [.t 2]⟩

/- copse/bits.Put -/
def c165_0 : ACode := .ops [⟨some 8, .mv (.c (.int .u64 0)), none, []⟩] [0, 1, 2, 3]
def c165_1 : ACode := .ops [⟨some 10, .mv (.t 1), none, []⟩,
  ⟨some 11, .mv (.t 2), none, []⟩,
  ⟨some 12, .call 162 [.t 10, .t 11], none, []⟩,
  ⟨some 13, .un .not (.t 12), none, []⟩] [0, 1, 2, 3, 13]
def c165_2 : ACode := .ops [⟨some 14, .mv (.t 0), none, []⟩,
  ⟨some 8, .mv (.t 14), none, []⟩] [8]
def c165_3 : ACode := .seq c165_2 .ret
def c165_4 : ACode := .cond (.t 13) c165_3 .skip
def c165_5 : ACode := .seq c165_1 c165_4
def c165_6 : ACode := .ops [⟨some 15, .mv (.t 2), none, []⟩,
  ⟨some 16, .call 163 [.t 15], none, []⟩,
  ⟨some 17, .mv (.t 1), none, []⟩,
  ⟨some 18, .conv .u64 (.t 17), none, []⟩,
  ⟨some 19, .bin .shl (.t 16) (.t 18), none, []⟩,
  ⟨some 9, .mv (.t 19), none, []⟩] [0, 1, 3, 9]
def c165_7 : ACode := .ops [⟨some 20, .mv (.t 0), none, []⟩,
  ⟨some 21, .mv (.t 9), none, []⟩,
  ⟨some 22, .bin .andNot (.t 20) (.t 21), none, []⟩,
  ⟨some 23, .mv (.t 3), none, []⟩,
  ⟨some 24, .mv (.t 1), none, []⟩,
  ⟨some 25, .conv .u64 (.t 24), none, []⟩,
  ⟨some 26, .bin .shl (.t 23) (.t 25), none, []⟩,
  ⟨some 27, .mv (.t 9), none, []⟩,
  ⟨some 28, .bin .and (.t 26) (.t 27), none, []⟩,
  ⟨some 29, .bin .or (.t 22) (.t 28), none, []⟩,
  ⟨some 8, .mv (.t 29), none, []⟩] [8]
def c165_8 : ACode := .seq c165_7 .ret
def c165_9 : ACode := .seq c165_6 c165_8
def c165_10 : ACode := .seq c165_5 c165_9
def c165_11 : ACode := .seq c165_0 c165_10
def a165 : AFun := ⟨4, 30, c165_11, [.t 8]⟩

/- slices.IndexFunc[[]int,int] -/
def c175_0 : ACode := .ops [⟨some 4, .mv (.c (.int .i64 0)), none, []⟩] [0, 1]
def c175_1 : ACode := .ops [⟨some 6, .mv (.t 0), none, []⟩,
  ⟨some 7, .len (.t 6), none, [0]⟩,
  ⟨some 8, .mv (.c (.int .i64 0)), none, []⟩] [0, 1, 7, 8]
def c175_2 : ACode := .ops [⟨some 9, .bin .lss (.t 8) (.t 7), none, []⟩] [0, 1, 7, 8, 9]
def c175_3 : ACode := .cond (.t 9) .skip (.exit 0)
def c175_4 : ACode := .ops [⟨some 10, .mv (.t 8), none, []⟩,
  ⟨some 5, .mv (.t 10), none, []⟩] [0, 1, 5, 7, 8]
def c175_5 : ACode := .ops [⟨some 11, .mv (.t 1), none, []⟩,
  ⟨some 12, .mv (.t 0), none, []⟩,
  ⟨some 13, .mv (.t 5), none, []⟩,
  ⟨some 14, .ias (.t 12) (.t 13) 1, none, [0]⟩,
  ⟨some 15, .load 1 false (.t 14), none, [0]⟩,
  ⟨some 16, .dyn (.t 11) [.t 15], none, []⟩] [0, 1, 5, 7, 8, 16]
def c175_6 : ACode := .ops [⟨some 17, .mv (.t 5), none, []⟩,
  ⟨some 4, .mv (.t 17), none, []⟩] [4]
def c175_7 : ACode := .seq c175_6 .ret
def c175_8 : ACode := .cond (.t 16) c175_7 .skip
def c175_9 : ACode := .seq c175_5 c175_8
def c175_10 : ACode := .seq c175_4 c175_9
def c175_11 : ACode := .block 1 c175_10
def c175_12 : ACode := .ops [⟨some 18, .bin .add (.t 8) (.c (.int .i64 1)), none, []⟩,
  ⟨some 8, .mv (.t 18), none, []⟩] [0, 1, 7, 8]
def c175_13 : ACode := .seq c175_11 c175_12
def c175_14 : ACode := .seq c175_3 c175_13
def c175_15 : ACode := .seq c175_2 c175_14
def c175_16 : ACode := .keep [0, 1, 7, 8] [0] c175_15
def c175_17 : ACode := .loop c175_16
def c175_18 : ACode := .block 0 c175_17
def c175_19 : ACode := .seq c175_1 c175_18
def c175_20 : ACode := .ops [⟨some 4, .mv (.c (.int .i64 (-1))), none, []⟩] [4]
def c175_21 : ACode := .seq c175_20 .ret
def c175_22 : ACode := .seq c175_19 c175_21
def c175_23 : ACode := .seq c175_0 c175_22
def a175 : AFun := ⟨2, 19, c175_23, [.t 4]⟩

/- copse/node.child -/
def c176_0 : ACode := .ops [⟨some 2, .mv (.c (.bool false)), none, []⟩] [0]
def c176_1 : ACode := .ops [⟨some 3, .mv (.t 0), none, []⟩,
  ⟨some 4, .bin .geq (.t 3) (.c (.int .i64 1)), none, []⟩,
  ⟨some 5, .mv (.t 4), none, []⟩,
  ⟨some 6, .mv (.t 0), some (5, true), []⟩,
  ⟨some 7, .bin .lss (.t 6) (.c (.int .i64 31)), some (5, true), []⟩,
  ⟨some 8, .pick (.t 5) (.t 7) (.c (.bool false)), none, []⟩,
  ⟨some 2, .mv (.t 8), none, []⟩] [2]
def c176_2 : ACode := .seq c176_1 .ret
def c176_3 : ACode := .seq c176_0 c176_2
def a176 : AFun := ⟨1, 9, c176_3, [.t 2]⟩

end Go.Am
