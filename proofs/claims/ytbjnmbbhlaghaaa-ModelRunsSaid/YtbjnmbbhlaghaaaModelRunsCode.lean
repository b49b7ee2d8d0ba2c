/- The code of the functions that this claim reaches, as AM reads it (written by a program of ours). -/
import Derived.Test.YtbjnmbbhlaghaaaAmDefs
namespace Go.Am
/- copse/copselaw8.ModelRuns -/
def c31_0 : ACode := .ops [⟨some 0, .mv (.c (.bool false)), none, []⟩] []
def c31_1 : ACode := .ops [⟨some 2, .build [.int .i64 0, .int .i64 0, .int .i64 0] [(0, 1, .c (.int .i64 3))], none, []⟩,
  ⟨some 3, .call 95 [.c (.int .i64 5), .c (.int .i64 10), .c (.int .i64 20)], none, []⟩,
  ⟨some 4, .build [.int .i64 0, .nils] [(1, 1, .t 3)], none, []⟩,
  ⟨some 5, .mkrow 5 1 2 [.int .i64 0, .nils] [(0, 2, .t 4)], none, []⟩,
  ⟨some 6, .build [.int .i64 0, .int .i64 0, .int .i64 0, .int .i64 0, .int .i64 0, .nils] [(0, 1, .c (.int .i64 1)), (1, 1, .c (.int .i64 1)), (2, 3, .t 2), (5, 1, .t 5)], none, []⟩,
  ⟨some 1, .alloc [.int .i64 0, .int .i64 0, .int .i64 0, .int .i64 0, .int .i64 0, .nils], none, []⟩,
  ⟨none, .store (.t 1) 6 (.t 6), none, [1]⟩] [1]
def c31_2 : ACode := .ops [⟨some 7, .load 6 true (.t 1), none, [1]⟩,
  ⟨some 8, .call 71 [.t 7], none, [5]⟩,
  ⟨some 9, .mv (.t 8), none, []⟩,
  ⟨some 10, .load 6 true (.t 1), some (9, true), [1]⟩,
  ⟨some 11, .build [.int .i64 0, .int .i64 0, .int .i64 0, .int .i64 0] [(0, 1, .c (.int .i64 5))], some (9, true), []⟩,
  ⟨some 12, .call 69 [.t 10, .c (.int .i64 0), .t 11], some (9, true), [5]⟩,
  ⟨some 13, .bin .eql (.t 12) (.c (.int .i64 13)), some (9, true), []⟩,
  ⟨some 14, .pick (.t 9) (.t 13) (.c (.bool false)), none, []⟩,
  ⟨some 15, .mv (.t 14), none, []⟩,
  ⟨some 16, .load 6 true (.t 1), some (15, true), [1]⟩,
  ⟨some 17, .build [.int .i64 0, .int .i64 0, .int .i64 0, .int .i64 0] [(0, 1, .c (.int .i64 6))], some (15, true), []⟩,
  ⟨some 18, .call 69 [.t 16, .c (.int .i64 0), .t 17], some (15, true), [5]⟩,
  ⟨some 19, .bin .eql (.t 18) (.c (.int .i64 23)), some (15, true), []⟩,
  ⟨some 20, .pick (.t 15) (.t 19) (.c (.bool false)), none, []⟩,
  ⟨some 21, .mv (.t 20), none, []⟩,
  ⟨some 22, .load 6 true (.t 1), some (21, true), [1]⟩,
  ⟨some 23, .call 96 [.t 22, .c (.int .i64 0)], some (21, true), [5]⟩,
  ⟨some 24, .mkrow 24 1 1 [.int .i64 0] [(0, 1, .c (.int .i64 5))], some (21, true), []⟩,
  ⟨some 25, .call 83 [.t 23, .t 24], some (21, true), [24]⟩,
  ⟨some 26, .pick (.t 21) (.t 25) (.c (.bool false)), none, []⟩,
  ⟨some 27, .mv (.t 26), none, []⟩,
  ⟨some 28, .load 6 true (.t 1), some (27, true), [1]⟩,
  ⟨some 29, .call 72 [.t 28], some (27, true), [5]⟩,
  ⟨some 30, .bin .eql (.t 29) (.c (.int .i64 3)), some (27, true), []⟩,
  ⟨some 31, .pick (.t 27) (.t 30) (.c (.bool false)), none, []⟩,
  ⟨some 32, .mv (.t 31), none, []⟩,
  ⟨some 33, .load 6 true (.t 1), some (32, true), [1]⟩,
  ⟨some 34, .build [.int .i64 0, .int .i64 0, .int .i64 0, .int .i64 0] [], some (32, true), []⟩,
  ⟨some 35, .call 78 [.t 33, .t 34], some (32, true), [5]⟩,
  ⟨some 36, .bin .eql (.t 35) (.c (.int .i64 0)), some (32, true), []⟩,
  ⟨some 37, .pick (.t 32) (.t 36) (.c (.bool false)), none, []⟩,
  ⟨some 0, .mv (.t 37), none, []⟩] [0]
def c31_3 : ACode := .seq c31_2 .ret
def c31_4 : ACode := .seq c31_1 c31_3
def c31_5 : ACode := .seq c31_0 c31_4
def a31 : AFun := ⟨0, 38, c31_5, [.t 0]⟩

/- copse/model.Eval -/
def c69_0 : ACode := .ops [⟨some 3, .box (.t 0) 6, none, []⟩,
  ⟨some 5, .box (.t 2) 4, none, []⟩,
  ⟨some 6, .mv (.c (.int .i64 0)), none, []⟩] [1, 3, 5]
def c69_1 : ACode := .ops [⟨some 7, .load 6 true (.t 3), none, [3]⟩,
  ⟨some 8, .call 71 [.t 7], none, []⟩,
  ⟨some 9, .un .not (.t 8), none, []⟩,
  ⟨some 10, .mv (.t 9), none, []⟩,
  ⟨some 11, .mv (.t 1), some (10, false), []⟩,
  ⟨some 12, .bin .lss (.t 11) (.c (.int .i64 0)), some (10, false), []⟩,
  ⟨some 13, .pick (.t 10) (.c (.bool true)) (.t 12), none, []⟩,
  ⟨some 14, .mv (.t 13), none, []⟩,
  ⟨some 15, .mv (.t 1), some (14, false), []⟩,
  ⟨some 16, .fad (.t 3) 1, some (14, false), [3]⟩,
  ⟨some 17, .load 1 false (.t 16), some (14, false), [3]⟩,
  ⟨some 18, .bin .geq (.t 15) (.t 17), some (14, false), []⟩,
  ⟨some 19, .pick (.t 14) (.c (.bool true)) (.t 18), none, []⟩] [1, 3, 5, 19]
def c69_2 : ACode := .ops [⟨some 6, .mv (.c (.int .i64 0)), none, []⟩] [6]
def c69_3 : ACode := .seq c69_2 .ret
def c69_4 : ACode := .cond (.t 19) c69_3 .skip
def c69_5 : ACode := .seq c69_1 c69_4
def c69_6 : ACode := .ops [⟨some 20, .load 6 true (.t 3), none, [3]⟩,
  ⟨some 21, .mv (.t 1), none, []⟩,
  ⟨some 22, .load 4 true (.t 5), none, [5]⟩,
  ⟨some 23, .call 122 [.t 20, .t 21, .t 22], none, []⟩,
  ⟨some 6, .mv (.t 23), none, []⟩] [6]
def c69_7 : ACode := .seq c69_6 .ret
def c69_8 : ACode := .seq c69_5 c69_7
def c69_9 : ACode := .seq c69_0 c69_8
def a69 : AFun := ⟨3, 24, c69_9, [.t 6]⟩

/- copse/model.Right -/
def c71_0 : ACode := .ops [⟨some 1, .box (.t 0) 6, none, []⟩,
  ⟨some 2, .mv (.c (.bool false)), none, []⟩] [1]
def c71_1 : ACode := .ops [⟨some 5, .fad (.t 1) 0, none, [1]⟩,
  ⟨some 6, .load 1 false (.t 5), none, [1]⟩,
  ⟨some 7, .bin .lss (.t 6) (.c (.int .i64 1)), none, []⟩,
  ⟨some 8, .mv (.t 7), none, []⟩,
  ⟨some 9, .fad (.t 1) 0, some (8, false), [1]⟩,
  ⟨some 10, .load 1 false (.t 9), some (8, false), [1]⟩,
  ⟨some 11, .bin .gtr (.t 10) (.c (.int .i64 4)), some (8, false), []⟩,
  ⟨some 12, .pick (.t 8) (.c (.bool true)) (.t 11), none, []⟩,
  ⟨some 13, .mv (.t 12), none, []⟩,
  ⟨some 14, .fad (.t 1) 1, some (13, false), [1]⟩,
  ⟨some 15, .load 1 false (.t 14), some (13, false), [1]⟩,
  ⟨some 16, .bin .lss (.t 15) (.c (.int .i64 1)), some (13, false), []⟩,
  ⟨some 17, .pick (.t 13) (.c (.bool true)) (.t 16), none, []⟩,
  ⟨some 18, .mv (.t 17), none, []⟩,
  ⟨some 19, .fad (.t 1) 1, some (18, false), [1]⟩,
  ⟨some 20, .load 1 false (.t 19), some (18, false), [1]⟩,
  ⟨some 21, .bin .gtr (.t 20) (.c (.int .i64 3)), some (18, false), []⟩,
  ⟨some 22, .pick (.t 18) (.c (.bool true)) (.t 21), none, []⟩,
  ⟨some 23, .mv (.t 22), none, []⟩,
  ⟨some 24, .fad (.t 1) 5, some (23, false), [1]⟩,
  ⟨some 25, .load 1 false (.t 24), some (23, false), [1]⟩,
  ⟨some 26, .len (.t 25), some (23, false), []⟩,
  ⟨some 27, .bin .gtr (.t 26) (.c (.int .i64 8)), some (23, false), []⟩,
  ⟨some 28, .pick (.t 23) (.c (.bool true)) (.t 27), none, []⟩] [1, 28]
def c71_2 : ACode := .ops [⟨some 2, .mv (.c (.bool false)), none, []⟩] [2]
def c71_3 : ACode := .seq c71_2 .ret
def c71_4 : ACode := .cond (.t 28) c71_3 .skip
def c71_5 : ACode := .seq c71_1 c71_4
def c71_6 : ACode := .ops [⟨some 29, .fad (.t 1) 2, none, [1]⟩,
  ⟨some 30, .load 3 true (.t 29), none, [1]⟩,
  ⟨some 31, .mv (.c (.int .i64 0)), none, []⟩] [1, 30, 31]
def c71_7 : ACode := .ops [⟨some 32, .bin .lss (.t 31) (.c (.int .i64 3)), none, []⟩] [1, 30, 31, 32]
def c71_8 : ACode := .cond (.t 32) .skip (.exit 0)
def c71_9 : ACode := .ops [⟨some 33, .mv (.t 31), none, []⟩,
  ⟨some 34, .idx (.t 30) (.t 31) 1 3 false, none, []⟩,
  ⟨some 3, .mv (.t 33), none, []⟩,
  ⟨some 4, .mv (.t 34), none, []⟩] [1, 3, 4, 30, 31]
def c71_10 : ACode := .ops [⟨some 35, .mv (.t 4), none, []⟩,
  ⟨some 36, .call 123 [.t 35, .c (.int .i64 32)], none, []⟩,
  ⟨some 37, .un .not (.t 36), none, []⟩,
  ⟨some 38, .mv (.t 37), none, []⟩,
  ⟨some 39, .mv (.t 3), some (38, false), []⟩,
  ⟨some 40, .fad (.t 1) 1, some (38, false), [1]⟩,
  ⟨some 41, .load 1 false (.t 40), some (38, false), [1]⟩,
  ⟨some 42, .bin .geq (.t 39) (.t 41), some (38, false), []⟩,
  ⟨some 43, .mv (.t 42), some (38, false), []⟩,
  ⟨some 44, .mv (.t 4), some (43, true), []⟩,
  ⟨some 45, .bin .neq (.t 44) (.c (.int .i64 0)), some (43, true), []⟩,
  ⟨some 46, .pick (.t 43) (.t 45) (.c (.bool false)), some (38, false), []⟩,
  ⟨some 47, .pick (.t 38) (.c (.bool true)) (.t 46), none, []⟩] [1, 30, 31, 47]
def c71_11 : ACode := .ops [⟨some 2, .mv (.c (.bool false)), none, []⟩] [2]
def c71_12 : ACode := .seq c71_11 .ret
def c71_13 : ACode := .cond (.t 47) c71_12 .skip
def c71_14 : ACode := .seq c71_10 c71_13
def c71_15 : ACode := .seq c71_9 c71_14
def c71_16 : ACode := .block 1 c71_15
def c71_17 : ACode := .ops [⟨some 48, .bin .add (.t 31) (.c (.int .i64 1)), none, []⟩,
  ⟨some 31, .mv (.t 48), none, []⟩] [1, 30, 31]
def c71_18 : ACode := .seq c71_16 c71_17
def c71_19 : ACode := .seq c71_8 c71_18
def c71_20 : ACode := .seq c71_7 c71_19
def c71_21 : ACode := .keep [1, 30, 31] [1] c71_20
def c71_22 : ACode := .loop c71_21
def c71_23 : ACode := .block 0 c71_22
def c71_24 : ACode := .seq c71_6 c71_23
def c71_25 : ACode := .ops [⟨some 49, .fad (.t 1) 5, none, [1]⟩,
  ⟨some 50, .load 1 false (.t 49), none, [1]⟩,
  ⟨some 51, .clo 125 [.t 1], none, [1]⟩,
  ⟨some 52, .call 124 [.t 50, .t 51], none, []⟩,
  ⟨some 53, .un .not (.t 52), none, []⟩,
  ⟨some 2, .mv (.t 53), none, []⟩] [2]
def c71_26 : ACode := .seq c71_25 .ret
def c71_27 : ACode := .seq c71_24 c71_26
def c71_28 : ACode := .seq c71_5 c71_27
def c71_29 : ACode := .seq c71_0 c71_28
def a71 : AFun := ⟨1, 54, c71_29, [.t 2]⟩

/- copse/model.Size -/
def c72_0 : ACode := .ops [⟨some 1, .box (.t 0) 6, none, []⟩,
  ⟨some 2, .mv (.c (.int .i64 0)), none, []⟩] [1]
def c72_1 : ACode := .ops [⟨some 3, .mv (.c (.int .i64 0)), none, []⟩] [1, 3]
def c72_2 : ACode := .ops [⟨some 6, .fad (.t 1) 5, none, [1]⟩,
  ⟨some 7, .load 1 false (.t 6), none, [1]⟩,
  ⟨some 8, .len (.t 7), none, []⟩,
  ⟨some 9, .mv (.c (.int .i64 0)), none, []⟩] [3, 7, 8, 9]
def c72_3 : ACode := .ops [⟨some 10, .bin .lss (.t 9) (.t 8), none, []⟩] [3, 7, 8, 9, 10]
def c72_4 : ACode := .cond (.t 10) .skip (.exit 0)
def c72_5 : ACode := .ops [⟨some 11, .ias (.t 7) (.t 9) 2, none, []⟩,
  ⟨some 12, .load 2 true (.t 11), none, []⟩,
  ⟨some 5, .alloc [.int .i64 0, .nils], none, []⟩,
  ⟨none, .store (.t 5) 2 (.t 12), none, [5]⟩] [3, 5, 7, 8, 9]
def c72_6 : ACode := .ops [⟨some 13, .mv (.t 3), none, []⟩,
  ⟨some 14, .fad (.t 5) 1, none, [5]⟩,
  ⟨some 15, .load 1 false (.t 14), none, [5]⟩,
  ⟨some 16, .len (.t 15), none, []⟩,
  ⟨some 17, .bin .add (.t 13) (.t 16), none, []⟩,
  ⟨some 3, .mv (.t 17), none, []⟩] [3, 7, 8, 9]
def c72_7 : ACode := .seq c72_5 c72_6
def c72_8 : ACode := .block 1 c72_7
def c72_9 : ACode := .ops [⟨some 18, .bin .add (.t 9) (.c (.int .i64 1)), none, []⟩,
  ⟨some 9, .mv (.t 18), none, []⟩] [3, 7, 8, 9]
def c72_10 : ACode := .seq c72_8 c72_9
def c72_11 : ACode := .seq c72_4 c72_10
def c72_12 : ACode := .seq c72_3 c72_11
def c72_13 : ACode := .keep [3, 7, 8, 9] [] c72_12
def c72_14 : ACode := .loop c72_13
def c72_15 : ACode := .block 0 c72_14
def c72_16 : ACode := .seq c72_2 c72_15
def c72_17 : ACode := .ops [⟨some 19, .mv (.t 3), none, []⟩,
  ⟨some 2, .mv (.t 19), none, []⟩] [2]
def c72_18 : ACode := .seq c72_17 .ret
def c72_19 : ACode := .seq c72_16 c72_18
def c72_20 : ACode := .seq c72_1 c72_19
def c72_21 : ACode := .seq c72_0 c72_20
def a72 : AFun := ⟨1, 20, c72_21, [.t 2]⟩

/- copse/tree.Right -/
def c76_0 : ACode := .ops [⟨some 4, .mv (.c (.bool false)), none, []⟩] [0, 1]
def c76_1 : ACode := .ops [⟨some 12, .mv (.t 0), none, []⟩,
  ⟨some 13, .len (.t 12), none, []⟩,
  ⟨some 14, .bin .lss (.t 13) (.c (.int .i64 1)), none, []⟩,
  ⟨some 15, .mv (.t 14), none, []⟩,
  ⟨some 16, .mv (.t 0), some (15, false), []⟩,
  ⟨some 17, .len (.t 16), some (15, false), []⟩,
  ⟨some 18, .bin .gtr (.t 17) (.c (.int .i64 31)), some (15, false), []⟩,
  ⟨some 19, .pick (.t 15) (.c (.bool true)) (.t 18), none, []⟩] [0, 1, 19]
def c76_2 : ACode := .ops [⟨some 4, .mv (.c (.bool false)), none, []⟩] [4]
def c76_3 : ACode := .seq c76_2 .ret
def c76_4 : ACode := .cond (.t 19) c76_3 .skip
def c76_5 : ACode := .seq c76_1 c76_4
def c76_6 : ACode := .ops [⟨some 20, .mv (.t 0), none, []⟩,
  ⟨some 21, .len (.t 20), none, []⟩,
  ⟨some 22, .mks 5 (.t 21) 1 [.int .i64 0], none, []⟩,
  ⟨some 5, .mv (.t 22), none, []⟩] [0, 1, 5]
def c76_7 : ACode := .ops [⟨some 23, .mv (.t 0), none, []⟩,
  ⟨some 24, .len (.t 23), none, []⟩,
  ⟨some 25, .mv (.c (.int .i64 0)), none, []⟩] [0, 1, 5, 23, 24, 25]
def c76_8 : ACode := .ops [⟨some 26, .bin .lss (.t 25) (.t 24), none, []⟩] [0, 1, 5, 23, 24, 25, 26]
def c76_9 : ACode := .cond (.t 26) .skip (.exit 0)
def c76_10 : ACode := .ops [⟨some 27, .mv (.t 25), none, []⟩,
  ⟨some 28, .ias (.t 23) (.t 25) 1, none, []⟩,
  ⟨some 29, .load 1 false (.t 28), none, []⟩,
  ⟨some 6, .mv (.t 27), none, []⟩,
  ⟨some 7, .mv (.t 29), none, []⟩] [0, 1, 5, 6, 7, 23, 24, 25]
def c76_11 : ACode := .ops [⟨some 31, .mv (.t 7), none, []⟩,
  ⟨some 32, .call 77 [.t 31], none, []⟩,
  ⟨some 30, .mv (.t 32), none, []⟩,
  ⟨some 33, .ext (.t 30) 0, none, []⟩,
  ⟨some 34, .ext (.t 30) 1, none, []⟩,
  ⟨some 8, .alloc [.bool false, .int .i64 0, .int .i64 0, .int .i64 0, .int .i64 0, .int .i64 0], none, []⟩,
  ⟨none, .store (.t 8) 6 (.t 33), none, [8]⟩,
  ⟨some 9, .mv (.t 34), none, []⟩] [0, 1, 5, 6, 8, 9, 23, 24, 25]
def c76_12 : ACode := .ops [⟨some 35, .mv (.t 9), none, []⟩,
  ⟨some 36, .un .not (.t 35), none, []⟩] [0, 1, 5, 6, 8, 23, 24, 25, 36]
def c76_13 : ACode := .ops [⟨some 4, .mv (.c (.bool false)), none, []⟩] [4]
def c76_14 : ACode := .seq c76_13 .ret
def c76_15 : ACode := .cond (.t 36) c76_14 .skip
def c76_16 : ACode := .seq c76_12 c76_15
def c76_17 : ACode := .ops [⟨some 37, .fad (.t 8) 0, none, [8]⟩,
  ⟨some 38, .load 1 false (.t 37), none, [8]⟩] [0, 1, 5, 6, 8, 23, 24, 25, 38]
def c76_18 : ACode := .cond (.t 38) (.exit 1) .skip
def c76_19 : ACode := .seq c76_17 c76_18
def c76_20 : ACode := .ops [⟨some 39, .fad (.t 8) 2, none, [8]⟩,
  ⟨some 40, .load 1 false (.t 39), none, [8]⟩,
  ⟨some 41, .mv (.t 1), none, []⟩,
  ⟨some 42, .bin .geq (.t 40) (.t 41), none, []⟩,
  ⟨some 43, .mv (.t 42), none, []⟩,
  ⟨some 44, .fad (.t 8) 4, some (43, false), [8]⟩,
  ⟨some 45, .load 1 false (.t 44), some (43, false), [8]⟩,
  ⟨some 46, .fad (.t 8) 5, some (43, false), [8]⟩,
  ⟨some 47, .load 1 false (.t 46), some (43, false), [8]⟩,
  ⟨some 48, .bin .eql (.t 45) (.t 47), some (43, false), []⟩,
  ⟨some 49, .pick (.t 43) (.c (.bool true)) (.t 48), none, []⟩,
  ⟨some 50, .mv (.t 49), none, []⟩,
  ⟨some 51, .fad (.t 8) 4, some (50, false), [8]⟩,
  ⟨some 52, .load 1 false (.t 51), some (50, false), [8]⟩,
  ⟨some 53, .fad (.t 8) 5, some (50, false), [8]⟩,
  ⟨some 54, .load 1 false (.t 53), some (50, false), [8]⟩,
  ⟨some 55, .mnmx false (.t 52) (.t 54), some (50, false), []⟩,
  ⟨some 56, .mv (.t 6), some (50, false), []⟩,
  ⟨some 57, .bin .leq (.t 55) (.t 56), some (50, false), []⟩,
  ⟨some 58, .pick (.t 50) (.c (.bool true)) (.t 57), none, []⟩,
  ⟨some 59, .mv (.t 58), none, []⟩,
  ⟨some 60, .fad (.t 8) 4, some (59, false), [8]⟩,
  ⟨some 61, .load 1 false (.t 60), some (59, false), [8]⟩,
  ⟨some 62, .fad (.t 8) 5, some (59, false), [8]⟩,
  ⟨some 63, .load 1 false (.t 62), some (59, false), [8]⟩,
  ⟨some 64, .mnmx true (.t 61) (.t 63), some (59, false), []⟩,
  ⟨some 65, .mv (.t 0), some (59, false), []⟩,
  ⟨some 66, .len (.t 65), some (59, false), []⟩,
  ⟨some 67, .bin .geq (.t 64) (.t 66), some (59, false), []⟩,
  ⟨some 68, .pick (.t 59) (.c (.bool true)) (.t 67), none, []⟩] [0, 1, 5, 8, 23, 24, 25, 68]
def c76_21 : ACode := .ops [⟨some 4, .mv (.c (.bool false)), none, []⟩] [4]
def c76_22 : ACode := .seq c76_21 .ret
def c76_23 : ACode := .cond (.t 68) c76_22 .skip
def c76_24 : ACode := .seq c76_20 c76_23
def c76_25 : ACode := .ops [⟨some 69, .mv (.t 5), none, []⟩,
  ⟨some 70, .fad (.t 8) 4, none, [8]⟩,
  ⟨some 71, .load 1 false (.t 70), none, [8]⟩,
  ⟨some 72, .ias (.t 69) (.t 71) 1, none, [5]⟩,
  ⟨some 73, .load 1 false (.t 72), none, [5]⟩,
  ⟨some 74, .bin .add (.t 73) (.c (.int .i64 1)), none, []⟩,
  ⟨some 75, .ias (.t 69) (.t 71) 1, none, [5]⟩,
  ⟨none, .store (.t 75) 1 (.t 74), none, [5]⟩] [0, 1, 5, 8, 23, 24, 25]
def c76_26 : ACode := .ops [⟨some 76, .mv (.t 5), none, []⟩,
  ⟨some 77, .fad (.t 8) 5, none, [8]⟩,
  ⟨some 78, .load 1 false (.t 77), none, [8]⟩,
  ⟨some 79, .ias (.t 76) (.t 78) 1, none, [5]⟩,
  ⟨some 80, .load 1 false (.t 79), none, [5]⟩,
  ⟨some 81, .bin .add (.t 80) (.c (.int .i64 1)), none, []⟩,
  ⟨some 82, .ias (.t 76) (.t 78) 1, none, [5]⟩,
  ⟨none, .store (.t 82) 1 (.t 81), none, [5]⟩] [0, 1, 5, 23, 24, 25]
def c76_27 : ACode := .seq c76_25 c76_26
def c76_28 : ACode := .seq c76_24 c76_27
def c76_29 : ACode := .seq c76_19 c76_28
def c76_30 : ACode := .seq c76_16 c76_29
def c76_31 : ACode := .seq c76_11 c76_30
def c76_32 : ACode := .seq c76_10 c76_31
def c76_33 : ACode := .block 1 c76_32
def c76_34 : ACode := .ops [⟨some 83, .bin .add (.t 25) (.c (.int .i64 1)), none, []⟩,
  ⟨some 25, .mv (.t 83), none, []⟩] [0, 1, 5, 23, 24, 25]
def c76_35 : ACode := .seq c76_33 c76_34
def c76_36 : ACode := .seq c76_9 c76_35
def c76_37 : ACode := .seq c76_8 c76_36
def c76_38 : ACode := .keep [0, 1, 5, 23, 24, 25] [5] c76_37
def c76_39 : ACode := .loop c76_38
def c76_40 : ACode := .block 0 c76_39
def c76_41 : ACode := .seq c76_7 c76_40
def c76_42 : ACode := .ops [⟨some 84, .mv (.t 5), none, []⟩,
  ⟨some 85, .sl (.t 84) (some (.c (.int .i64 1))) none 1, none, [5]⟩,
  ⟨some 86, .len (.t 85), none, [5]⟩,
  ⟨some 87, .mv (.c (.int .i64 0)), none, []⟩] [85, 86, 87]
def c76_43 : ACode := .ops [⟨some 88, .bin .lss (.t 87) (.t 86), none, []⟩] [85, 86, 87, 88]
def c76_44 : ACode := .cond (.t 88) .skip (.exit 2)
def c76_45 : ACode := .ops [⟨some 89, .ias (.t 85) (.t 87) 1, none, [5]⟩,
  ⟨some 90, .load 1 false (.t 89), none, [5]⟩,
  ⟨some 11, .mv (.t 90), none, []⟩] [11, 85, 86, 87]
def c76_46 : ACode := .ops [⟨some 91, .mv (.t 11), none, []⟩,
  ⟨some 92, .bin .neq (.t 91) (.c (.int .i64 1)), none, []⟩] [85, 86, 87, 92]
def c76_47 : ACode := .ops [⟨some 4, .mv (.c (.bool false)), none, []⟩] [4]
def c76_48 : ACode := .seq c76_47 .ret
def c76_49 : ACode := .cond (.t 92) c76_48 .skip
def c76_50 : ACode := .seq c76_46 c76_49
def c76_51 : ACode := .seq c76_45 c76_50
def c76_52 : ACode := .block 3 c76_51
def c76_53 : ACode := .ops [⟨some 93, .bin .add (.t 87) (.c (.int .i64 1)), none, []⟩,
  ⟨some 87, .mv (.t 93), none, []⟩] [85, 86, 87]
def c76_54 : ACode := .seq c76_52 c76_53
def c76_55 : ACode := .seq c76_44 c76_54
def c76_56 : ACode := .seq c76_43 c76_55
def c76_57 : ACode := .keep [85, 86, 87] [5] c76_56
def c76_58 : ACode := .loop c76_57
def c76_59 : ACode := .block 2 c76_58
def c76_60 : ACode := .seq c76_42 c76_59
def c76_61 : ACode := .ops [⟨some 4, .mv (.c (.bool true)), none, []⟩] [4]
def c76_62 : ACode := .seq c76_61 .ret
def c76_63 : ACode := .seq c76_60 c76_62
def c76_64 : ACode := .seq c76_41 c76_63
def c76_65 : ACode := .seq c76_6 c76_64
def c76_66 : ACode := .seq c76_5 c76_65
def c76_67 : ACode := .seq c76_0 c76_66
def a76 : AFun := ⟨2, 94, c76_67, [.t 4]⟩

/- copse/node.Unpack -/
def c77_0 : ACode := .ops [⟨some 1, .box (.t 0) 1, none, []⟩,
  ⟨some 2, .alloc [.bool false, .int .i64 0, .int .i64 0, .int .i64 0, .int .i64 0, .int .i64 0], none, []⟩,
  ⟨some 3, .mv (.c (.bool false)), none, []⟩] [1, 2]
def c77_1 : ACode := .ops [⟨some 7, .load 1 false (.t 1), none, [1]⟩,
  ⟨some 8, .call 128 [.t 7, .c (.int .i64 0), .c (.int .i64 32)], none, []⟩,
  ⟨some 4, .mv (.t 8), none, []⟩] [1, 2, 4]
def c77_2 : ACode := .ops [⟨some 9, .mv (.t 4), none, []⟩,
  ⟨some 10, .build [.bool false, .int .i64 0, .int .i64 0, .int .i64 0, .int .i64 0, .int .i64 0] [(0, 1, .c (.bool true)), (1, 1, .t 9)], none, []⟩,
  ⟨some 5, .alloc [.bool false, .int .i64 0, .int .i64 0, .int .i64 0, .int .i64 0, .int .i64 0], none, []⟩,
  ⟨none, .store (.t 5) 6 (.t 10), none, [5]⟩] [1, 2, 4, 5]
def c77_3 : ACode := .ops [⟨some 11, .load 1 false (.t 1), none, [1]⟩,
  ⟨some 12, .call 129 [.t 11, .c (.int .i64 63), .c (.int .i64 1)], none, []⟩,
  ⟨some 13, .bin .eql (.t 12) (.c (.int .u64 0)), none, []⟩] [1, 2, 4, 5, 13]
def c77_4 : ACode := .ops [⟨some 14, .clo 130 [.t 1], none, [1]⟩,
  ⟨some 6, .mv (.t 14), none, []⟩] [1, 2, 4, 5, 6]
def c77_5 : ACode := .ops [⟨some 15, .mv (.t 4), none, []⟩,
  ⟨some 16, .mv (.t 6), none, []⟩,
  ⟨some 17, .dyn (.t 16) [.c (.int .i64 32), .c (.int .i64 4)], none, []⟩,
  ⟨some 18, .mv (.t 6), none, []⟩,
  ⟨some 19, .dyn (.t 18) [.c (.int .i64 40), .c (.int .i64 8)], none, []⟩,
  ⟨some 20, .mv (.t 6), none, []⟩,
  ⟨some 21, .dyn (.t 20) [.c (.int .i64 48), .c (.int .i64 8)], none, []⟩,
  ⟨some 22, .build [.bool false, .int .i64 0, .int .i64 0, .int .i64 0, .int .i64 0, .int .i64 0] [(3, 1, .t 15), (2, 1, .t 17), (4, 1, .t 19), (5, 1, .t 21)], none, []⟩,
  ⟨none, .store (.t 5) 6 (.t 22), none, [5]⟩] [1, 2, 5]
def c77_6 : ACode := .seq c77_4 c77_5
def c77_7 : ACode := .cond (.t 13) c77_6 .skip
def c77_8 : ACode := .seq c77_3 c77_7
def c77_9 : ACode := .ops [⟨some 23, .load 1 false (.t 1), none, [1]⟩,
  ⟨some 24, .bin .eql (.t 23) (.c (.int .u64 0)), none, []⟩,
  ⟨some 25, .mv (.t 24), none, []⟩,
  ⟨some 26, .load 6 true (.t 5), some (25, false), [5]⟩,
  ⟨some 27, .call 131 [.t 26], some (25, false), []⟩,
  ⟨some 28, .load 1 false (.t 1), some (25, false), [1]⟩,
  ⟨some 29, .bin .neq (.t 27) (.t 28), some (25, false), []⟩,
  ⟨some 30, .pick (.t 25) (.c (.bool true)) (.t 29), none, []⟩] [2, 5, 30]
def c77_10 : ACode := .ops [⟨some 31, .build [.bool false, .int .i64 0, .int .i64 0, .int .i64 0, .int .i64 0, .int .i64 0] [], none, []⟩,
  ⟨none, .store (.t 2) 6 (.t 31), none, [2]⟩,
  ⟨some 3, .mv (.c (.bool false)), none, []⟩] [2, 3]
def c77_11 : ACode := .seq c77_10 .ret
def c77_12 : ACode := .cond (.t 30) c77_11 .skip
def c77_13 : ACode := .seq c77_9 c77_12
def c77_14 : ACode := .ops [⟨some 32, .load 6 true (.t 5), none, [5]⟩,
  ⟨none, .store (.t 2) 6 (.t 32), none, [2]⟩,
  ⟨some 3, .mv (.c (.bool true)), none, []⟩] [2, 3]
def c77_15 : ACode := .seq c77_14 .ret
def c77_16 : ACode := .seq c77_13 c77_15
def c77_17 : ACode := .seq c77_8 c77_16
def c77_18 : ACode := .seq c77_2 c77_17
def c77_19 : ACode := .seq c77_1 c77_18
def c77_20 : ACode := .seq c77_0 c77_19
def a77 : AFun := ⟨1, 33, c77_20, [.cell 2 6 true, .t 3]⟩

/- copse/model.Best -/
def c78_0 : ACode := .ops [⟨some 2, .box (.t 0) 6, none, []⟩,
  ⟨some 3, .box (.t 1) 4, none, []⟩,
  ⟨some 4, .mv (.c (.int .i64 0)), none, []⟩] [2, 3]
def c78_1 : ACode := .ops [⟨some 7, .load 6 true (.t 2), none, [2]⟩,
  ⟨some 8, .call 71 [.t 7], none, []⟩,
  ⟨some 9, .un .not (.t 8), none, []⟩] [2, 3, 9]
def c78_2 : ACode := .ops [⟨some 4, .mv (.c (.int .i64 (-1))), none, []⟩] [4]
def c78_3 : ACode := .seq c78_2 .ret
def c78_4 : ACode := .cond (.t 9) c78_3 .skip
def c78_5 : ACode := .seq c78_1 c78_4
def c78_6 : ACode := .ops [⟨some 5, .mv (.c (.int .i64 0)), none, []⟩] [2, 3, 5]
def c78_7 : ACode := .ops [⟨some 6, .mv (.c (.int .i64 1)), none, []⟩] [2, 3, 5, 6]
def c78_8 : ACode := .ops [⟨some 10, .mv (.t 6), none, []⟩,
  ⟨some 11, .fad (.t 2) 1, none, [2]⟩,
  ⟨some 12, .load 1 false (.t 11), none, [2]⟩,
  ⟨some 13, .bin .lss (.t 10) (.t 12), none, []⟩] [2, 3, 5, 6, 13]
def c78_9 : ACode := .cond (.t 13) .skip (.exit 0)
def c78_10 : ACode := .seq c78_8 c78_9
def c78_11 : ACode := .ops [⟨some 16, .load 6 true (.t 2), none, [2]⟩,
  ⟨some 17, .mv (.t 6), none, []⟩,
  ⟨some 18, .load 4 true (.t 3), none, [3]⟩,
  ⟨some 19, .call 122 [.t 16, .t 17, .t 18], none, []⟩,
  ⟨some 20, .load 6 true (.t 2), none, [2]⟩,
  ⟨some 21, .mv (.t 5), none, []⟩,
  ⟨some 22, .load 4 true (.t 3), none, [3]⟩,
  ⟨some 23, .call 122 [.t 20, .t 21, .t 22], none, []⟩,
  ⟨some 24, .bin .gtr (.t 19) (.t 23), none, []⟩] [2, 3, 5, 6, 24]
def c78_12 : ACode := .ops [⟨some 25, .mv (.t 6), none, []⟩,
  ⟨some 5, .mv (.t 25), none, []⟩] [2, 3, 5, 6]
def c78_13 : ACode := .cond (.t 24) c78_12 .skip
def c78_14 : ACode := .seq c78_11 c78_13
def c78_15 : ACode := .block 1 c78_14
def c78_16 : ACode := .ops [⟨some 14, .mv (.t 6), none, []⟩,
  ⟨some 15, .bin .add (.t 14) (.c (.int .i64 1)), none, []⟩,
  ⟨some 6, .mv (.t 15), none, []⟩] [2, 3, 5, 6]
def c78_17 : ACode := .seq c78_15 c78_16
def c78_18 : ACode := .seq c78_10 c78_17
def c78_19 : ACode := .keep [2, 3, 5, 6] [2, 3] c78_18
def c78_20 : ACode := .loop c78_19
def c78_21 : ACode := .block 0 c78_20
def c78_22 : ACode := .seq c78_7 c78_21
def c78_23 : ACode := .ops [⟨some 26, .mv (.t 5), none, []⟩,
  ⟨some 4, .mv (.t 26), none, []⟩] [4]
def c78_24 : ACode := .seq c78_23 .ret
def c78_25 : ACode := .seq c78_22 c78_24
def c78_26 : ACode := .seq c78_6 c78_25
def c78_27 : ACode := .seq c78_5 c78_26
def c78_28 : ACode := .seq c78_0 c78_27
def a78 : AFun := ⟨2, 27, c78_28, [.t 4]⟩

/- copse/copsebook.Same[int] -/
def c83_0 : ACode := .ops [⟨some 4, .mv (.c (.bool false)), none, []⟩] [0, 1]
def c83_1 : ACode := .ops [⟨some 6, .mv (.t 0), none, []⟩,
  ⟨some 7, .len (.t 6), none, []⟩,
  ⟨some 8, .mv (.t 1), none, []⟩,
  ⟨some 9, .len (.t 8), none, []⟩,
  ⟨some 10, .bin .neq (.t 7) (.t 9), none, []⟩] [0, 1, 10]
def c83_2 : ACode := .ops [⟨some 4, .mv (.c (.bool false)), none, []⟩] [4]
def c83_3 : ACode := .seq c83_2 .ret
def c83_4 : ACode := .cond (.t 10) c83_3 .skip
def c83_5 : ACode := .seq c83_1 c83_4
def c83_6 : ACode := .ops [⟨some 5, .mv (.c (.int .i64 0)), none, []⟩] [0, 1, 5]
def c83_7 : ACode := .ops [⟨some 11, .mv (.t 5), none, []⟩,
  ⟨some 12, .mv (.t 0), none, []⟩,
  ⟨some 13, .len (.t 12), none, []⟩,
  ⟨some 14, .bin .lss (.t 11) (.t 13), none, []⟩] [0, 1, 5, 14]
def c83_8 : ACode := .cond (.t 14) .skip (.exit 0)
def c83_9 : ACode := .seq c83_7 c83_8
def c83_10 : ACode := .ops [⟨some 17, .mv (.t 0), none, []⟩,
  ⟨some 18, .mv (.t 5), none, []⟩,
  ⟨some 19, .ias (.t 17) (.t 18) 1, none, []⟩,
  ⟨some 20, .load 1 false (.t 19), none, []⟩,
  ⟨some 21, .mv (.t 1), none, []⟩,
  ⟨some 22, .mv (.t 5), none, []⟩,
  ⟨some 23, .ias (.t 21) (.t 22) 1, none, []⟩,
  ⟨some 24, .load 1 false (.t 23), none, []⟩,
  ⟨some 25, .bin .neq (.t 20) (.t 24), none, []⟩] [0, 1, 5, 25]
def c83_11 : ACode := .ops [⟨some 4, .mv (.c (.bool false)), none, []⟩] [4]
def c83_12 : ACode := .seq c83_11 .ret
def c83_13 : ACode := .cond (.t 25) c83_12 .skip
def c83_14 : ACode := .seq c83_10 c83_13
def c83_15 : ACode := .block 1 c83_14
def c83_16 : ACode := .ops [⟨some 15, .mv (.t 5), none, []⟩,
  ⟨some 16, .bin .add (.t 15) (.c (.int .i64 1)), none, []⟩,
  ⟨some 5, .mv (.t 16), none, []⟩] [0, 1, 5]
def c83_17 : ACode := .seq c83_15 c83_16
def c83_18 : ACode := .seq c83_9 c83_17
def c83_19 : ACode := .keep [0, 1, 5] [] c83_18
def c83_20 : ACode := .loop c83_19
def c83_21 : ACode := .block 0 c83_20
def c83_22 : ACode := .seq c83_6 c83_21
def c83_23 : ACode := .ops [⟨some 4, .mv (.c (.bool true)), none, []⟩] [4]
def c83_24 : ACode := .seq c83_23 .ret
def c83_25 : ACode := .seq c83_22 c83_24
def c83_26 : ACode := .seq c83_5 c83_25
def c83_27 : ACode := .seq c83_0 c83_26
def a83 : AFun := ⟨2, 26, c83_27, [.t 4]⟩

/- copse/copselaw8.three -/
def c95_0 : ACode := .ops [⟨some 6, .nil0 6 1, none, []⟩] [0, 1, 2]
def c95_1 : ACode := .ops [⟨some 7, .mv (.t 0), none, []⟩,
  ⟨some 8, .build [.bool false, .int .i64 0, .int .i64 0, .int .i64 0, .int .i64 0, .int .i64 0] [(3, 1, .t 7), (4, 1, .c (.int .i64 1)), (5, 1, .c (.int .i64 2))], none, []⟩,
  ⟨some 9, .call 111 [.t 8], none, []⟩,
  ⟨some 10, .mv (.t 1), none, []⟩,
  ⟨some 11, .build [.bool false, .int .i64 0, .int .i64 0, .int .i64 0, .int .i64 0, .int .i64 0] [(0, 1, .c (.bool true)), (1, 1, .t 10)], none, []⟩,
  ⟨some 12, .call 111 [.t 11], none, []⟩,
  ⟨some 13, .mv (.t 2), none, []⟩,
  ⟨some 14, .build [.bool false, .int .i64 0, .int .i64 0, .int .i64 0, .int .i64 0, .int .i64 0] [(0, 1, .c (.bool true)), (1, 1, .t 13)], none, []⟩,
  ⟨some 15, .call 111 [.t 14], none, []⟩,
  ⟨some 16, .mkrow 6 3 1 [.int .u64 0] [(0, 1, .t 9), (1, 1, .t 12), (2, 1, .t 15)], none, []⟩,
  ⟨some 6, .mv (.t 16), none, []⟩] [6]
def c95_2 : ACode := .seq c95_1 .ret
def c95_3 : ACode := .seq c95_0 c95_2
def a95 : AFun := ⟨3, 17, c95_3, [.t 6]⟩

/- copse/model.Thresholds -/
def c96_0 : ACode := .ops [⟨some 2, .box (.t 0) 6, none, []⟩,
  ⟨some 4, .mv (.c (.nils)), none, []⟩] [1, 2]
def c96_1 : ACode := .ops [⟨some 12, .load 6 true (.t 2), none, [2]⟩,
  ⟨some 13, .call 71 [.t 12], none, []⟩,
  ⟨some 14, .un .not (.t 13), none, []⟩] [1, 2, 14]
def c96_2 : ACode := .ops [⟨some 4, .mv (.c (.nils)), none, []⟩] [4]
def c96_3 : ACode := .seq c96_2 .ret
def c96_4 : ACode := .cond (.t 14) c96_3 .skip
def c96_5 : ACode := .seq c96_1 c96_4
def c96_6 : ACode := .ops [⟨some 5, .nil0 5 1, none, []⟩] [1, 2, 5]
def c96_7 : ACode := .ops [⟨some 15, .fad (.t 2) 5, none, [2]⟩,
  ⟨some 16, .load 1 false (.t 15), none, [2]⟩,
  ⟨some 17, .len (.t 16), none, []⟩,
  ⟨some 18, .mv (.c (.int .i64 0)), none, []⟩] [1, 5, 16, 17, 18]
def c96_8 : ACode := .ops [⟨some 19, .bin .lss (.t 18) (.t 17), none, []⟩] [1, 5, 16, 17, 18, 19]
def c96_9 : ACode := .cond (.t 19) .skip (.exit 0)
def c96_10 : ACode := .ops [⟨some 20, .ias (.t 16) (.t 18) 2, none, []⟩,
  ⟨some 21, .load 2 true (.t 20), none, []⟩,
  ⟨some 7, .alloc [.int .i64 0, .nils], none, []⟩,
  ⟨none, .store (.t 7) 2 (.t 21), none, [7]⟩] [1, 5, 7, 16, 17, 18]
def c96_11 : ACode := .ops [⟨some 22, .fad (.t 7) 1, none, [7]⟩,
  ⟨some 23, .load 1 false (.t 22), none, [7]⟩,
  ⟨some 24, .len (.t 23), none, []⟩,
  ⟨some 25, .mv (.c (.int .i64 0)), none, []⟩] [1, 5, 16, 17, 18, 23, 24, 25]
def c96_12 : ACode := .ops [⟨some 26, .bin .lss (.t 25) (.t 24), none, []⟩] [1, 5, 16, 17, 18, 23, 24, 25, 26]
def c96_13 : ACode := .cond (.t 26) .skip (.exit 2)
def c96_14 : ACode := .ops [⟨some 27, .ias (.t 23) (.t 25) 1, none, []⟩,
  ⟨some 28, .load 1 false (.t 27), none, []⟩,
  ⟨some 9, .mv (.t 28), none, []⟩] [1, 5, 9, 16, 17, 18, 23, 24, 25]
def c96_15 : ACode := .ops [⟨some 30, .mv (.t 9), none, []⟩,
  ⟨some 31, .call 77 [.t 30], none, []⟩,
  ⟨some 29, .mv (.t 31), none, []⟩,
  ⟨some 32, .ext (.t 29) 0, none, []⟩,
  ⟨some 33, .ext (.t 29) 1, none, []⟩,
  ⟨some 10, .alloc [.bool false, .int .i64 0, .int .i64 0, .int .i64 0, .int .i64 0, .int .i64 0], none, []⟩,
  ⟨none, .store (.t 10) 6 (.t 32), none, [10]⟩,
  ⟨some 11, .mv (.t 33), none, []⟩] [1, 5, 10, 16, 17, 18, 23, 24, 25]
def c96_16 : ACode := .ops [⟨some 34, .fad (.t 10) 0, none, [10]⟩,
  ⟨some 35, .load 1 false (.t 34), none, [10]⟩,
  ⟨some 36, .un .not (.t 35), none, []⟩,
  ⟨some 37, .mv (.t 36), none, []⟩,
  ⟨some 38, .fad (.t 10) 2, some (37, true), [10]⟩,
  ⟨some 39, .load 1 false (.t 38), some (37, true), [10]⟩,
  ⟨some 40, .mv (.t 1), some (37, true), []⟩,
  ⟨some 41, .bin .eql (.t 39) (.t 40), some (37, true), []⟩,
  ⟨some 42, .pick (.t 37) (.t 41) (.c (.bool false)), none, []⟩] [1, 5, 10, 16, 17, 18, 23, 24, 25, 42]
def c96_17 : ACode := .ops [⟨some 43, .mv (.t 5), none, []⟩,
  ⟨some 44, .fad (.t 10) 3, none, [10]⟩,
  ⟨some 45, .load 1 false (.t 44), none, [10]⟩,
  ⟨some 46, .mkrow 46 1 1 [.int .i64 0] [(0, 1, .t 45)], none, []⟩,
  ⟨some 47, .app 5 [5] (.t 43) (.t 46) 1, none, [5, 46]⟩,
  ⟨some 5, .mv (.t 47), none, []⟩] [1, 5, 16, 17, 18, 23, 24, 25]
def c96_18 : ACode := .cond (.t 42) c96_17 .skip
def c96_19 : ACode := .seq c96_16 c96_18
def c96_20 : ACode := .seq c96_15 c96_19
def c96_21 : ACode := .seq c96_14 c96_20
def c96_22 : ACode := .block 3 c96_21
def c96_23 : ACode := .ops [⟨some 48, .bin .add (.t 25) (.c (.int .i64 1)), none, []⟩,
  ⟨some 25, .mv (.t 48), none, []⟩] [1, 5, 16, 17, 18, 23, 24, 25]
def c96_24 : ACode := .seq c96_22 c96_23
def c96_25 : ACode := .seq c96_13 c96_24
def c96_26 : ACode := .seq c96_12 c96_25
def c96_27 : ACode := .keep [1, 5, 16, 17, 18, 23, 24, 25] [5] c96_26
def c96_28 : ACode := .loop c96_27
def c96_29 : ACode := .block 2 c96_28
def c96_30 : ACode := .seq c96_11 c96_29
def c96_31 : ACode := .seq c96_10 c96_30
def c96_32 : ACode := .block 1 c96_31
def c96_33 : ACode := .ops [⟨some 49, .bin .add (.t 18) (.c (.int .i64 1)), none, []⟩,
  ⟨some 18, .mv (.t 49), none, []⟩] [1, 5, 16, 17, 18]
def c96_34 : ACode := .seq c96_32 c96_33
def c96_35 : ACode := .seq c96_9 c96_34
def c96_36 : ACode := .seq c96_8 c96_35
def c96_37 : ACode := .keep [1, 5, 16, 17, 18] [5] c96_36
def c96_38 : ACode := .loop c96_37
def c96_39 : ACode := .block 0 c96_38
def c96_40 : ACode := .seq c96_7 c96_39
def c96_41 : ACode := .ops [⟨some 50, .mv (.t 5), none, []⟩,
  ⟨some 51, .gcall 144 [.t 50] [5] 5, none, [5]⟩] [5]
def c96_42 : ACode := .ops [⟨some 52, .mv (.t 5), none, []⟩,
  ⟨some 53, .gcall 145 [.t 52] [5] 5, none, [5]⟩,
  ⟨some 4, .mv (.t 53), none, []⟩] [4]
def c96_43 : ACode := .seq c96_42 .ret
def c96_44 : ACode := .seq c96_41 c96_43
def c96_45 : ACode := .seq c96_40 c96_44
def c96_46 : ACode := .seq c96_6 c96_45
def c96_47 : ACode := .seq c96_5 c96_46
def c96_48 : ACode := .seq c96_0 c96_47
def a96 : AFun := ⟨2, 54, c96_48, [.t 4]⟩

/- copse/tree.Value -/
def c99_0 : ACode := .ops [⟨some 3, .box (.t 1) 4, none, []⟩,
  ⟨some 4, .mv (.c (.int .i64 0)), none, []⟩] [0, 3]
def c99_1 : ACode := .ops [⟨some 8, .mv (.t 0), none, []⟩,
  ⟨some 9, .load 4 true (.t 3), none, [3]⟩,
  ⟨some 10, .call 148 [.t 8, .t 9], none, []⟩,
  ⟨some 7, .mv (.t 10), none, []⟩,
  ⟨some 11, .ext (.t 7) 0, none, []⟩,
  ⟨some 12, .ext (.t 7) 1, none, []⟩,
  ⟨some 6, .alloc [.bool false, .int .i64 0, .int .i64 0, .int .i64 0, .int .i64 0, .int .i64 0], none, []⟩,
  ⟨some 5, .mv (.t 11), none, []⟩,
  ⟨none, .store (.t 6) 6 (.t 12), none, [6]⟩] [6]
def c99_2 : ACode := .ops [⟨some 13, .fad (.t 6) 1, none, [6]⟩,
  ⟨some 14, .load 1 false (.t 13), none, [6]⟩,
  ⟨some 4, .mv (.t 14), none, []⟩] [4]
def c99_3 : ACode := .seq c99_2 .ret
def c99_4 : ACode := .seq c99_1 c99_3
def c99_5 : ACode := .seq c99_0 c99_4
def a99 : AFun := ⟨2, 15, c99_5, [.t 4]⟩

/- copse/copseref6.Pack -/
def c111_0 : ACode := .ops [⟨some 1, .box (.t 0) 6, none, []⟩,
  ⟨some 2, .mv (.c (.int .u64 0)), none, []⟩] [1]
def c111_1 : ACode := .ops [⟨some 3, .load 6 true (.t 1), none, [1]⟩,
  ⟨some 4, .call 156 [.t 3], none, []⟩,
  ⟨some 5, .un .not (.t 4), none, []⟩] [1, 5]
def c111_2 : ACode := .ops [⟨some 2, .mv (.c (.int .u64 0)), none, []⟩] [2]
def c111_3 : ACode := .seq c111_2 .ret
def c111_4 : ACode := .cond (.t 5) c111_3 .skip
def c111_5 : ACode := .seq c111_1 c111_4
def c111_6 : ACode := .ops [⟨some 6, .fad (.t 1) 0, none, [1]⟩,
  ⟨some 7, .load 1 false (.t 6), none, [1]⟩] [1, 7]
def c111_7 : ACode := .ops [⟨some 8, .fad (.t 1) 1, none, [1]⟩,
  ⟨some 9, .load 1 false (.t 8), none, [1]⟩,
  ⟨some 10, .conv .u64 (.t 9), none, []⟩,
  ⟨some 11, .bin .and (.t 10) (.c (.int .u64 4294967295)), none, []⟩,
  ⟨some 12, .bin .or (.c (.int .u64 9223372036854775808)) (.t 11), none, []⟩,
  ⟨some 2, .mv (.t 12), none, []⟩] [2]
def c111_8 : ACode := .seq c111_7 .ret
def c111_9 : ACode := .cond (.t 7) c111_8 .skip
def c111_10 : ACode := .seq c111_6 c111_9
def c111_11 : ACode := .ops [⟨some 13, .fad (.t 1) 3, none, [1]⟩,
  ⟨some 14, .load 1 false (.t 13), none, [1]⟩,
  ⟨some 15, .conv .u64 (.t 14), none, []⟩,
  ⟨some 16, .bin .and (.t 15) (.c (.int .u64 4294967295)), none, []⟩,
  ⟨some 17, .fad (.t 1) 2, none, [1]⟩,
  ⟨some 18, .load 1 false (.t 17), none, [1]⟩,
  ⟨some 19, .conv .u64 (.t 18), none, []⟩,
  ⟨some 20, .bin .shl (.t 19) (.c (.int .u64 32)), none, []⟩,
  ⟨some 21, .bin .or (.t 16) (.t 20), none, []⟩,
  ⟨some 22, .fad (.t 1) 4, none, [1]⟩,
  ⟨some 23, .load 1 false (.t 22), none, [1]⟩,
  ⟨some 24, .conv .u64 (.t 23), none, []⟩,
  ⟨some 25, .bin .shl (.t 24) (.c (.int .u64 40)), none, []⟩,
  ⟨some 26, .bin .or (.t 21) (.t 25), none, []⟩,
  ⟨some 27, .fad (.t 1) 5, none, [1]⟩,
  ⟨some 28, .load 1 false (.t 27), none, [1]⟩,
  ⟨some 29, .conv .u64 (.t 28), none, []⟩,
  ⟨some 30, .bin .shl (.t 29) (.c (.int .u64 48)), none, []⟩,
  ⟨some 31, .bin .or (.t 26) (.t 30), none, []⟩,
  ⟨some 2, .mv (.t 31), none, []⟩] [2]
def c111_12 : ACode := .seq c111_11 .ret
def c111_13 : ACode := .seq c111_10 c111_12
def c111_14 : ACode := .seq c111_5 c111_13
def c111_15 : ACode := .seq c111_0 c111_14
def a111 : AFun := ⟨1, 32, c111_15, [.t 2]⟩

/- copse/copseref1.Fits -/
def c119_0 : ACode := .ops [⟨some 4, .mv (.c (.bool false)), none, []⟩] [0, 1]
def c119_1 : ACode := .ops [⟨some 6, .mv (.t 1), none, []⟩,
  ⟨some 7, .bin .lss (.t 6) (.c (.int .i64 1)), none, []⟩,
  ⟨some 8, .mv (.t 7), none, []⟩,
  ⟨some 9, .mv (.t 1), some (8, false), []⟩,
  ⟨some 10, .bin .gtr (.t 9) (.c (.int .i64 64)), some (8, false), []⟩,
  ⟨some 11, .pick (.t 8) (.c (.bool true)) (.t 10), none, []⟩] [0, 1, 11]
def c119_2 : ACode := .ops [⟨some 4, .mv (.c (.bool false)), none, []⟩] [4]
def c119_3 : ACode := .seq c119_2 .ret
def c119_4 : ACode := .cond (.t 11) c119_3 .skip
def c119_5 : ACode := .seq c119_1 c119_4
def c119_6 : ACode := .ops [⟨some 12, .mv (.t 1), none, []⟩,
  ⟨some 13, .bin .eql (.t 12) (.c (.int .i64 64)), none, []⟩] [0, 1, 13]
def c119_7 : ACode := .ops [⟨some 4, .mv (.c (.bool true)), none, []⟩] [4]
def c119_8 : ACode := .seq c119_7 .ret
def c119_9 : ACode := .cond (.t 13) c119_8 .skip
def c119_10 : ACode := .seq c119_6 c119_9
def c119_11 : ACode := .ops [⟨some 14, .mv (.t 1), none, []⟩,
  ⟨some 15, .bin .sub (.t 14) (.c (.int .i64 1)), none, []⟩,
  ⟨some 16, .bin .shl (.c (.int .i64 1)) (.t 15), none, []⟩,
  ⟨some 5, .mv (.t 16), none, []⟩] [0, 5]
def c119_12 : ACode := .ops [⟨some 17, .mv (.t 0), none, []⟩,
  ⟨some 18, .mv (.t 5), none, []⟩,
  ⟨some 19, .un .neg (.t 18), none, []⟩,
  ⟨some 20, .bin .geq (.t 17) (.t 19), none, []⟩,
  ⟨some 21, .mv (.t 20), none, []⟩,
  ⟨some 22, .mv (.t 0), some (21, true), []⟩,
  ⟨some 23, .mv (.t 5), some (21, true), []⟩,
  ⟨some 24, .bin .sub (.t 23) (.c (.int .i64 1)), some (21, true), []⟩,
  ⟨some 25, .bin .leq (.t 22) (.t 24), some (21, true), []⟩,
  ⟨some 26, .pick (.t 21) (.t 25) (.c (.bool false)), none, []⟩,
  ⟨some 4, .mv (.t 26), none, []⟩] [4]
def c119_13 : ACode := .seq c119_12 .ret
def c119_14 : ACode := .seq c119_11 c119_13
def c119_15 : ACode := .seq c119_10 c119_14
def c119_16 : ACode := .seq c119_5 c119_15
def c119_17 : ACode := .seq c119_0 c119_16
def a119 : AFun := ⟨2, 27, c119_17, [.t 4]⟩

/- copse/model.eval -/
def c122_0 : ACode := .ops [⟨some 3, .box (.t 0) 6, none, []⟩,
  ⟨some 5, .box (.t 2) 4, none, []⟩,
  ⟨some 6, .mv (.c (.int .i64 0)), none, []⟩] [1, 3, 5]
def c122_1 : ACode := .ops [⟨some 10, .mv (.t 1), none, []⟩,
  ⟨some 11, .fad (.t 3) 2, none, [3]⟩,
  ⟨some 12, .iad (.t 11) (.t 10) 1 3, none, [3]⟩,
  ⟨some 13, .load 1 false (.t 12), none, [3]⟩,
  ⟨some 7, .mv (.t 13), none, []⟩] [1, 3, 5, 7]
def c122_2 : ACode := .ops [⟨some 14, .fad (.t 3) 5, none, [3]⟩,
  ⟨some 15, .load 1 false (.t 14), none, [3]⟩,
  ⟨some 16, .len (.t 15), none, []⟩,
  ⟨some 17, .mv (.c (.int .i64 0)), none, []⟩] [1, 5, 7, 15, 16, 17]
def c122_3 : ACode := .ops [⟨some 18, .bin .lss (.t 17) (.t 16), none, []⟩] [1, 5, 7, 15, 16, 17, 18]
def c122_4 : ACode := .cond (.t 18) .skip (.exit 0)
def c122_5 : ACode := .ops [⟨some 19, .ias (.t 15) (.t 17) 2, none, []⟩,
  ⟨some 20, .load 2 true (.t 19), none, []⟩,
  ⟨some 9, .alloc [.int .i64 0, .nils], none, []⟩,
  ⟨none, .store (.t 9) 2 (.t 20), none, [9]⟩] [1, 5, 7, 9, 15, 16, 17]
def c122_6 : ACode := .ops [⟨some 21, .fad (.t 9) 0, none, [9]⟩,
  ⟨some 22, .load 1 false (.t 21), none, [9]⟩,
  ⟨some 23, .mv (.t 1), none, []⟩,
  ⟨some 24, .bin .eql (.t 22) (.t 23), none, []⟩] [1, 5, 7, 9, 15, 16, 17, 24]
def c122_7 : ACode := .ops [⟨some 25, .mv (.t 7), none, []⟩,
  ⟨some 26, .fad (.t 9) 1, none, [9]⟩,
  ⟨some 27, .load 1 false (.t 26), none, [9]⟩,
  ⟨some 28, .load 4 true (.t 5), none, [5]⟩,
  ⟨some 29, .call 99 [.t 27, .t 28], none, []⟩,
  ⟨some 30, .bin .add (.t 25) (.t 29), none, []⟩,
  ⟨some 7, .mv (.t 30), none, []⟩] [1, 5, 7, 15, 16, 17]
def c122_8 : ACode := .cond (.t 24) c122_7 .skip
def c122_9 : ACode := .seq c122_6 c122_8
def c122_10 : ACode := .seq c122_5 c122_9
def c122_11 : ACode := .block 1 c122_10
def c122_12 : ACode := .ops [⟨some 31, .bin .add (.t 17) (.c (.int .i64 1)), none, []⟩,
  ⟨some 17, .mv (.t 31), none, []⟩] [1, 5, 7, 15, 16, 17]
def c122_13 : ACode := .seq c122_11 c122_12
def c122_14 : ACode := .seq c122_4 c122_13
def c122_15 : ACode := .seq c122_3 c122_14
def c122_16 : ACode := .keep [1, 5, 7, 15, 16, 17] [5] c122_15
def c122_17 : ACode := .loop c122_16
def c122_18 : ACode := .block 0 c122_17
def c122_19 : ACode := .seq c122_2 c122_18
def c122_20 : ACode := .ops [⟨some 32, .mv (.t 7), none, []⟩,
  ⟨some 6, .mv (.t 32), none, []⟩] [6]
def c122_21 : ACode := .seq c122_20 .ret
def c122_22 : ACode := .seq c122_19 c122_21
def c122_23 : ACode := .seq c122_1 c122_22
def c122_24 : ACode := .seq c122_0 c122_23
def a122 : AFun := ⟨3, 33, c122_24, [.t 6]⟩

/- copse/bits.Fits -/
def c123_0 : ACode := .ops [⟨some 4, .mv (.c (.bool false)), none, []⟩] [0, 1]
def c123_1 : ACode := .ops [⟨some 5, .mv (.t 1), none, []⟩,
  ⟨some 6, .bin .lss (.t 5) (.c (.int .i64 1)), none, []⟩,
  ⟨some 7, .mv (.t 6), none, []⟩,
  ⟨some 8, .mv (.t 1), some (7, false), []⟩,
  ⟨some 9, .bin .gtr (.t 8) (.c (.int .i64 64)), some (7, false), []⟩,
  ⟨some 10, .pick (.t 7) (.c (.bool true)) (.t 9), none, []⟩] [0, 1, 10]
def c123_2 : ACode := .ops [⟨some 4, .mv (.c (.bool false)), none, []⟩] [4]
def c123_3 : ACode := .seq c123_2 .ret
def c123_4 : ACode := .cond (.t 10) c123_3 .skip
def c123_5 : ACode := .seq c123_1 c123_4
def c123_6 : ACode := .ops [⟨some 11, .mv (.t 0), none, []⟩,
  ⟨some 12, .mv (.t 1), none, []⟩,
  ⟨some 13, .bin .sub (.t 12) (.c (.int .i64 1)), none, []⟩,
  ⟨some 14, .conv .u64 (.t 13), none, []⟩,
  ⟨some 15, .bin .shr (.t 11) (.t 14), none, []⟩,
  ⟨some 16, .bin .eql (.t 15) (.c (.int .i64 0)), none, []⟩,
  ⟨some 17, .mv (.t 16), none, []⟩,
  ⟨some 18, .mv (.t 0), some (17, false), []⟩,
  ⟨some 19, .mv (.t 1), some (17, false), []⟩,
  ⟨some 20, .bin .sub (.t 19) (.c (.int .i64 1)), some (17, false), []⟩,
  ⟨some 21, .conv .u64 (.t 20), some (17, false), []⟩,
  ⟨some 22, .bin .shr (.t 18) (.t 21), some (17, false), []⟩,
  ⟨some 23, .bin .eql (.t 22) (.c (.int .i64 (-1))), some (17, false), []⟩,
  ⟨some 24, .pick (.t 17) (.c (.bool true)) (.t 23), none, []⟩,
  ⟨some 4, .mv (.t 24), none, []⟩] [4]
def c123_7 : ACode := .seq c123_6 .ret
def c123_8 : ACode := .seq c123_5 c123_7
def c123_9 : ACode := .seq c123_0 c123_8
def a123 : AFun := ⟨2, 25, c123_9, [.t 4]⟩

/- slices.ContainsFunc[[]copse/api.Tree,copse/api.Tree] -/
def c124_0 : ACode := .ops [⟨some 4, .mv (.c (.bool false)), none, []⟩] [0, 1]
def c124_1 : ACode := .ops [⟨some 5, .mv (.t 0), none, []⟩,
  ⟨some 6, .mv (.t 1), none, []⟩,
  ⟨some 7, .call 160 [.t 5, .t 6], none, []⟩,
  ⟨some 8, .bin .geq (.t 7) (.c (.int .i64 0)), none, []⟩,
  ⟨some 4, .mv (.t 8), none, []⟩] [4]
def c124_2 : ACode := .seq c124_1 .ret
def c124_3 : ACode := .seq c124_0 c124_2
def a124 : AFun := ⟨2, 9, c124_3, [.t 4]⟩

/- copse/model.Right$1 -/
def c125_0 : ACode := .ops [⟨some 2, .box (.t 0) 2, none, []⟩,
  ⟨some 3, .mv (.c (.bool false)), none, []⟩] [1, 2]
def c125_1 : ACode := .ops [⟨some 4, .fad (.t 2) 0, none, [2]⟩,
  ⟨some 5, .load 1 false (.t 4), none, [2]⟩,
  ⟨some 6, .bin .lss (.t 5) (.c (.int .i64 0)), none, []⟩,
  ⟨some 7, .mv (.t 6), none, []⟩,
  ⟨some 8, .fad (.t 2) 0, some (7, false), [2]⟩,
  ⟨some 9, .load 1 false (.t 8), some (7, false), [2]⟩,
  ⟨some 10, .fad (.t 1) 1, some (7, false), []⟩,
  ⟨some 11, .load 1 false (.t 10), some (7, false), []⟩,
  ⟨some 12, .bin .geq (.t 9) (.t 11), some (7, false), []⟩,
  ⟨some 13, .pick (.t 7) (.c (.bool true)) (.t 12), none, []⟩,
  ⟨some 14, .mv (.t 13), none, []⟩,
  ⟨some 15, .fad (.t 2) 1, some (14, false), [2]⟩,
  ⟨some 16, .load 1 false (.t 15), some (14, false), [2]⟩,
  ⟨some 17, .fad (.t 1) 0, some (14, false), []⟩,
  ⟨some 18, .load 1 false (.t 17), some (14, false), []⟩,
  ⟨some 19, .call 76 [.t 16, .t 18], some (14, false), []⟩,
  ⟨some 20, .un .not (.t 19), some (14, false), []⟩,
  ⟨some 21, .pick (.t 14) (.c (.bool true)) (.t 20), none, []⟩,
  ⟨some 3, .mv (.t 21), none, []⟩] [3]
def c125_2 : ACode := .seq c125_1 .ret
def c125_3 : ACode := .seq c125_0 c125_2
def a125 : AFun := ⟨2, 22, c125_3, [.t 3]⟩

/- copse/bits.Signed -/
def c128_0 : ACode := .ops [⟨some 6, .mv (.c (.int .i64 0)), none, []⟩] [0, 1, 2]
def c128_1 : ACode := .ops [⟨some 7, .mv (.t 0), none, []⟩,
  ⟨some 8, .mv (.t 1), none, []⟩,
  ⟨some 9, .mv (.t 2), none, []⟩,
  ⟨some 10, .call 129 [.t 7, .t 8, .t 9], none, []⟩,
  ⟨some 11, .conv .i64 (.t 10), none, []⟩,
  ⟨some 12, .mv (.t 2), none, []⟩,
  ⟨some 13, .call 161 [.t 11, .t 12], none, []⟩,
  ⟨some 6, .mv (.t 13), none, []⟩] [6]
def c128_2 : ACode := .seq c128_1 .ret
def c128_3 : ACode := .seq c128_0 c128_2
def a128 : AFun := ⟨3, 14, c128_3, [.t 6]⟩

/- copse/bits.Get -/
def c129_0 : ACode := .ops [⟨some 6, .mv (.c (.int .u64 0)), none, []⟩] [0, 1, 2]
def c129_1 : ACode := .ops [⟨some 7, .mv (.t 1), none, []⟩,
  ⟨some 8, .mv (.t 2), none, []⟩,
  ⟨some 9, .call 162 [.t 7, .t 8], none, []⟩,
  ⟨some 10, .un .not (.t 9), none, []⟩] [0, 1, 2, 10]
def c129_2 : ACode := .ops [⟨some 6, .mv (.c (.int .u64 0)), none, []⟩] [6]
def c129_3 : ACode := .seq c129_2 .ret
def c129_4 : ACode := .cond (.t 10) c129_3 .skip
def c129_5 : ACode := .seq c129_1 c129_4
def c129_6 : ACode := .ops [⟨some 11, .mv (.t 0), none, []⟩,
  ⟨some 12, .mv (.t 1), none, []⟩,
  ⟨some 13, .conv .u64 (.t 12), none, []⟩,
  ⟨some 14, .bin .shr (.t 11) (.t 13), none, []⟩,
  ⟨some 15, .mv (.t 2), none, []⟩,
  ⟨some 16, .call 163 [.t 15], none, []⟩,
  ⟨some 17, .bin .and (.t 14) (.t 16), none, []⟩,
  ⟨some 6, .mv (.t 17), none, []⟩] [6]
def c129_7 : ACode := .seq c129_6 .ret
def c129_8 : ACode := .seq c129_5 c129_7
def c129_9 : ACode := .seq c129_0 c129_8
def a129 : AFun := ⟨3, 18, c129_9, [.t 6]⟩

/- copse/node.Unpack$1 -/
def c130_0 : ACode := .ops [⟨some 5, .mv (.c (.int .i64 0)), none, []⟩] [0, 1, 2]
def c130_1 : ACode := .ops [⟨some 6, .load 1 false (.t 2), none, []⟩,
  ⟨some 7, .mv (.t 0), none, []⟩,
  ⟨some 8, .mv (.t 1), none, []⟩,
  ⟨some 9, .call 129 [.t 6, .t 7, .t 8], none, []⟩,
  ⟨some 10, .conv .i64 (.t 9), none, []⟩,
  ⟨some 5, .mv (.t 10), none, []⟩] [5]
def c130_2 : ACode := .seq c130_1 .ret
def c130_3 : ACode := .seq c130_0 c130_2
def a130 : AFun := ⟨3, 11, c130_3, [.t 5]⟩

/- copse/node.Pack -/
def c131_0 : ACode := .ops [⟨some 1, .box (.t 0) 6, none, []⟩,
  ⟨some 2, .mv (.c (.int .u64 0)), none, []⟩] [1]
def c131_1 : ACode := .ops [⟨some 4, .load 6 true (.t 1), none, [1]⟩,
  ⟨some 5, .call 164 [.t 4], none, []⟩,
  ⟨some 6, .un .not (.t 5), none, []⟩] [1, 6]
def c131_2 : ACode := .ops [⟨some 2, .mv (.c (.int .u64 0)), none, []⟩] [2]
def c131_3 : ACode := .seq c131_2 .ret
def c131_4 : ACode := .cond (.t 6) c131_3 .skip
def c131_5 : ACode := .seq c131_1 c131_4
def c131_6 : ACode := .ops [⟨some 7, .fad (.t 1) 0, none, [1]⟩,
  ⟨some 8, .load 1 false (.t 7), none, [1]⟩] [1, 8]
def c131_7 : ACode := .ops [⟨some 9, .fad (.t 1) 1, none, [1]⟩,
  ⟨some 10, .load 1 false (.t 9), none, [1]⟩,
  ⟨some 11, .conv .u64 (.t 10), none, []⟩,
  ⟨some 12, .call 165 [.c (.int .u64 9223372036854775808), .c (.int .i64 0), .c (.int .i64 32), .t 11], none, []⟩,
  ⟨some 2, .mv (.t 12), none, []⟩] [2]
def c131_8 : ACode := .seq c131_7 .ret
def c131_9 : ACode := .cond (.t 8) c131_8 .skip
def c131_10 : ACode := .seq c131_6 c131_9
def c131_11 : ACode := .ops [⟨some 13, .fad (.t 1) 3, none, [1]⟩,
  ⟨some 14, .load 1 false (.t 13), none, [1]⟩,
  ⟨some 15, .conv .u64 (.t 14), none, []⟩,
  ⟨some 16, .call 165 [.c (.int .u64 0), .c (.int .i64 0), .c (.int .i64 32), .t 15], none, []⟩,
  ⟨some 3, .mv (.t 16), none, []⟩] [1, 3]
def c131_12 : ACode := .ops [⟨some 17, .mv (.t 3), none, []⟩,
  ⟨some 18, .fad (.t 1) 2, none, [1]⟩,
  ⟨some 19, .load 1 false (.t 18), none, [1]⟩,
  ⟨some 20, .conv .u64 (.t 19), none, []⟩,
  ⟨some 21, .call 165 [.t 17, .c (.int .i64 32), .c (.int .i64 4), .t 20], none, []⟩,
  ⟨some 3, .mv (.t 21), none, []⟩] [1, 3]
def c131_13 : ACode := .ops [⟨some 22, .mv (.t 3), none, []⟩,
  ⟨some 23, .fad (.t 1) 4, none, [1]⟩,
  ⟨some 24, .load 1 false (.t 23), none, [1]⟩,
  ⟨some 25, .conv .u64 (.t 24), none, []⟩,
  ⟨some 26, .call 165 [.t 22, .c (.int .i64 40), .c (.int .i64 8), .t 25], none, []⟩,
  ⟨some 3, .mv (.t 26), none, []⟩] [1, 3]
def c131_14 : ACode := .ops [⟨some 27, .mv (.t 3), none, []⟩,
  ⟨some 28, .fad (.t 1) 5, none, [1]⟩,
  ⟨some 29, .load 1 false (.t 28), none, [1]⟩,
  ⟨some 30, .conv .u64 (.t 29), none, []⟩,
  ⟨some 31, .call 165 [.t 27, .c (.int .i64 48), .c (.int .i64 8), .t 30], none, []⟩,
  ⟨some 2, .mv (.t 31), none, []⟩] [2]
def c131_15 : ACode := .seq c131_14 .ret
def c131_16 : ACode := .seq c131_13 c131_15
def c131_17 : ACode := .seq c131_12 c131_16
def c131_18 : ACode := .seq c131_11 c131_17
def c131_19 : ACode := .seq c131_10 c131_18
def c131_20 : ACode := .seq c131_5 c131_19
def c131_21 : ACode := .seq c131_0 c131_20
def a131 : AFun := ⟨1, 32, c131_21, [.t 2]⟩

/- copse/tree.end -/
def c148_0 : ACode := .ops [⟨some 3, .box (.t 1) 4, none, []⟩,
  ⟨some 4, .mv (.c (.int .i64 0)), none, []⟩,
  ⟨some 5, .alloc [.bool false, .int .i64 0, .int .i64 0, .int .i64 0, .int .i64 0, .int .i64 0], none, []⟩] [0, 3, 5]
def c148_1 : ACode := .ops [⟨some 6, .mv (.c (.int .i64 0)), none, []⟩] [0, 3, 5, 6]
def c148_2 : ACode := .ops [⟨some 9, .mv (.c (.int .i64 0)), none, []⟩] [0, 3, 5, 6, 9]
def c148_3 : ACode := .ops [⟨some 10, .bin .lss (.t 9) (.c (.int .i64 31)), none, []⟩] [0, 3, 5, 6, 9, 10]
def c148_4 : ACode := .cond (.t 10) .skip (.exit 0)
def c148_5 : ACode := .ops [⟨some 11, .mv (.t 6), none, []⟩,
  ⟨some 12, .mv (.t 0), none, []⟩,
  ⟨some 13, .len (.t 12), none, []⟩,
  ⟨some 14, .bin .geq (.t 11) (.t 13), none, []⟩] [0, 3, 5, 6, 9, 14]
def c148_6 : ACode := .cond (.t 14) (.exit 0) .skip
def c148_7 : ACode := .seq c148_5 c148_6
def c148_8 : ACode := .ops [⟨some 16, .mv (.t 0), none, []⟩,
  ⟨some 17, .mv (.t 6), none, []⟩,
  ⟨some 18, .ias (.t 16) (.t 17) 1, none, []⟩,
  ⟨some 19, .load 1 false (.t 18), none, []⟩,
  ⟨some 20, .call 77 [.t 19], none, []⟩,
  ⟨some 15, .mv (.t 20), none, []⟩,
  ⟨some 21, .ext (.t 15) 0, none, []⟩,
  ⟨some 22, .ext (.t 15) 1, none, []⟩,
  ⟨some 7, .alloc [.bool false, .int .i64 0, .int .i64 0, .int .i64 0, .int .i64 0, .int .i64 0], none, []⟩,
  ⟨none, .store (.t 7) 6 (.t 21), none, [7]⟩,
  ⟨some 8, .mv (.t 22), none, []⟩] [0, 3, 5, 6, 7, 8, 9]
def c148_9 : ACode := .ops [⟨some 26, .mv (.t 8), none, []⟩,
  ⟨some 27, .un .not (.t 26), none, []⟩,
  ⟨some 25, .mv (.t 27), none, []⟩] [0, 3, 5, 6, 7, 9, 25]
def c148_10 : ACode := .ops [⟨some 28, .build [.bool false, .int .i64 0, .int .i64 0, .int .i64 0, .int .i64 0, .int .i64 0] [], none, []⟩,
  ⟨some 4, .mv (.c (.int .i64 (-1))), none, []⟩,
  ⟨none, .store (.t 5) 6 (.t 28), none, [5]⟩] [4, 5]
def c148_11 : ACode := .seq c148_10 .ret
def c148_12 : ACode := .ops [⟨some 30, .fad (.t 7) 0, none, [7]⟩,
  ⟨some 31, .load 1 false (.t 30), none, [7]⟩,
  ⟨some 29, .mv (.t 31), none, []⟩] [0, 3, 5, 6, 7, 9, 29]
def c148_13 : ACode := .ops [⟨some 32, .mv (.t 6), none, []⟩,
  ⟨some 33, .load 6 true (.t 7), none, [7]⟩,
  ⟨some 4, .mv (.t 32), none, []⟩,
  ⟨none, .store (.t 5) 6 (.t 33), none, [5]⟩] [4, 5]
def c148_14 : ACode := .seq c148_13 .ret
def c148_15 : ACode := .ops [⟨some 35, .fad (.t 7) 2, none, [7]⟩,
  ⟨some 36, .load 1 false (.t 35), none, [7]⟩,
  ⟨some 37, .iad (.t 3) (.t 36) 1 4, none, [3]⟩,
  ⟨some 38, .load 1 false (.t 37), none, [3]⟩,
  ⟨some 39, .fad (.t 7) 3, none, [7]⟩,
  ⟨some 40, .load 1 false (.t 39), none, [7]⟩,
  ⟨some 41, .bin .leq (.t 38) (.t 40), none, []⟩,
  ⟨some 34, .mv (.t 41), none, []⟩] [0, 3, 5, 7, 9, 34]
def c148_16 : ACode := .ops [⟨some 42, .fad (.t 7) 4, none, [7]⟩,
  ⟨some 43, .load 1 false (.t 42), none, [7]⟩,
  ⟨some 6, .mv (.t 43), none, []⟩] [0, 3, 5, 6, 9]
def c148_17 : ACode := .ops [⟨some 23, .fad (.t 7) 5, none, [7]⟩,
  ⟨some 24, .load 1 false (.t 23), none, [7]⟩,
  ⟨some 6, .mv (.t 24), none, []⟩] [0, 3, 5, 6, 9]
def c148_18 : ACode := .cond (.t 34) c148_16 c148_17
def c148_19 : ACode := .seq c148_15 c148_18
def c148_20 : ACode := .cond (.t 29) c148_14 c148_19
def c148_21 : ACode := .seq c148_12 c148_20
def c148_22 : ACode := .cond (.t 25) c148_11 c148_21
def c148_23 : ACode := .seq c148_9 c148_22
def c148_24 : ACode := .block 2 c148_23
def c148_25 : ACode := .seq c148_8 c148_24
def c148_26 : ACode := .seq c148_7 c148_25
def c148_27 : ACode := .block 1 c148_26
def c148_28 : ACode := .ops [⟨some 44, .bin .add (.t 9) (.c (.int .i64 1)), none, []⟩,
  ⟨some 9, .mv (.t 44), none, []⟩] [0, 3, 5, 6, 9]
def c148_29 : ACode := .seq c148_27 c148_28
def c148_30 : ACode := .seq c148_4 c148_29
def c148_31 : ACode := .seq c148_3 c148_30
def c148_32 : ACode := .keep [0, 3, 5, 6, 9] [3, 5] c148_31
def c148_33 : ACode := .loop c148_32
def c148_34 : ACode := .block 0 c148_33
def c148_35 : ACode := .seq c148_2 c148_34
def c148_36 : ACode := .ops [⟨some 45, .build [.bool false, .int .i64 0, .int .i64 0, .int .i64 0, .int .i64 0, .int .i64 0] [], none, []⟩,
  ⟨some 4, .mv (.c (.int .i64 (-1))), none, []⟩,
  ⟨none, .store (.t 5) 6 (.t 45), none, [5]⟩] [4, 5]
def c148_37 : ACode := .seq c148_36 .ret
def c148_38 : ACode := .seq c148_35 c148_37
def c148_39 : ACode := .seq c148_1 c148_38
def c148_40 : ACode := .seq c148_0 c148_39
def a148 : AFun := ⟨2, 46, c148_40, [.t 4, .cell 5 6 true]⟩

/- copse/copseref6.RightNode -/
def c156_0 : ACode := .ops [⟨some 1, .box (.t 0) 6, none, []⟩,
  ⟨some 2, .mv (.c (.bool false)), none, []⟩] [1]
def c156_1 : ACode := .ops [⟨some 3, .fad (.t 1) 0, none, [1]⟩,
  ⟨some 4, .load 1 false (.t 3), none, [1]⟩] [1, 4]
def c156_2 : ACode := .ops [⟨some 5, .fad (.t 1) 1, none, [1]⟩,
  ⟨some 6, .load 1 false (.t 5), none, [1]⟩,
  ⟨some 7, .call 119 [.t 6, .c (.int .i64 32)], none, []⟩,
  ⟨some 8, .mv (.t 7), none, []⟩,
  ⟨some 9, .fad (.t 1) 2, some (8, true), [1]⟩,
  ⟨some 10, .load 1 false (.t 9), some (8, true), [1]⟩,
  ⟨some 11, .bin .eql (.t 10) (.c (.int .i64 0)), some (8, true), []⟩,
  ⟨some 12, .pick (.t 8) (.t 11) (.c (.bool false)), none, []⟩,
  ⟨some 13, .mv (.t 12), none, []⟩,
  ⟨some 14, .fad (.t 1) 3, some (13, true), [1]⟩,
  ⟨some 15, .load 1 false (.t 14), some (13, true), [1]⟩,
  ⟨some 16, .bin .eql (.t 15) (.c (.int .i64 0)), some (13, true), []⟩,
  ⟨some 17, .pick (.t 13) (.t 16) (.c (.bool false)), none, []⟩,
  ⟨some 18, .mv (.t 17), none, []⟩,
  ⟨some 19, .fad (.t 1) 4, some (18, true), [1]⟩,
  ⟨some 20, .load 1 false (.t 19), some (18, true), [1]⟩,
  ⟨some 21, .bin .eql (.t 20) (.c (.int .i64 0)), some (18, true), []⟩,
  ⟨some 22, .pick (.t 18) (.t 21) (.c (.bool false)), none, []⟩,
  ⟨some 23, .mv (.t 22), none, []⟩,
  ⟨some 24, .fad (.t 1) 5, some (23, true), [1]⟩,
  ⟨some 25, .load 1 false (.t 24), some (23, true), [1]⟩,
  ⟨some 26, .bin .eql (.t 25) (.c (.int .i64 0)), some (23, true), []⟩,
  ⟨some 27, .pick (.t 23) (.t 26) (.c (.bool false)), none, []⟩,
  ⟨some 2, .mv (.t 27), none, []⟩] [2]
def c156_3 : ACode := .seq c156_2 .ret
def c156_4 : ACode := .cond (.t 4) c156_3 .skip
def c156_5 : ACode := .seq c156_1 c156_4
def c156_6 : ACode := .ops [⟨some 28, .fad (.t 1) 1, none, [1]⟩,
  ⟨some 29, .load 1 false (.t 28), none, [1]⟩,
  ⟨some 30, .bin .eql (.t 29) (.c (.int .i64 0)), none, []⟩,
  ⟨some 31, .mv (.t 30), none, []⟩,
  ⟨some 32, .fad (.t 1) 2, some (31, true), [1]⟩,
  ⟨some 33, .load 1 false (.t 32), some (31, true), [1]⟩,
  ⟨some 34, .bin .geq (.t 33) (.c (.int .i64 0)), some (31, true), []⟩,
  ⟨some 35, .pick (.t 31) (.t 34) (.c (.bool false)), none, []⟩,
  ⟨some 36, .mv (.t 35), none, []⟩,
  ⟨some 37, .fad (.t 1) 2, some (36, true), [1]⟩,
  ⟨some 38, .load 1 false (.t 37), some (36, true), [1]⟩,
  ⟨some 39, .bin .lss (.t 38) (.c (.int .i64 4)), some (36, true), []⟩,
  ⟨some 40, .pick (.t 36) (.t 39) (.c (.bool false)), none, []⟩,
  ⟨some 41, .mv (.t 40), none, []⟩,
  ⟨some 42, .fad (.t 1) 3, some (41, true), [1]⟩,
  ⟨some 43, .load 1 false (.t 42), some (41, true), [1]⟩,
  ⟨some 44, .call 119 [.t 43, .c (.int .i64 32)], some (41, true), []⟩,
  ⟨some 45, .pick (.t 41) (.t 44) (.c (.bool false)), none, []⟩,
  ⟨some 46, .mv (.t 45), none, []⟩,
  ⟨some 47, .fad (.t 1) 4, some (46, true), [1]⟩,
  ⟨some 48, .load 1 false (.t 47), some (46, true), [1]⟩,
  ⟨some 49, .bin .geq (.t 48) (.c (.int .i64 1)), some (46, true), []⟩,
  ⟨some 50, .pick (.t 46) (.t 49) (.c (.bool false)), none, []⟩,
  ⟨some 51, .mv (.t 50), none, []⟩,
  ⟨some 52, .fad (.t 1) 4, some (51, true), [1]⟩,
  ⟨some 53, .load 1 false (.t 52), some (51, true), [1]⟩,
  ⟨some 54, .bin .lss (.t 53) (.c (.int .i64 31)), some (51, true), []⟩,
  ⟨some 55, .pick (.t 51) (.t 54) (.c (.bool false)), none, []⟩,
  ⟨some 56, .mv (.t 55), none, []⟩,
  ⟨some 57, .fad (.t 1) 5, some (56, true), [1]⟩,
  ⟨some 58, .load 1 false (.t 57), some (56, true), [1]⟩,
  ⟨some 59, .bin .geq (.t 58) (.c (.int .i64 1)), some (56, true), []⟩,
  ⟨some 60, .pick (.t 56) (.t 59) (.c (.bool false)), none, []⟩,
  ⟨some 61, .mv (.t 60), none, []⟩,
  ⟨some 62, .fad (.t 1) 5, some (61, true), [1]⟩,
  ⟨some 63, .load 1 false (.t 62), some (61, true), [1]⟩,
  ⟨some 64, .bin .lss (.t 63) (.c (.int .i64 31)), some (61, true), []⟩,
  ⟨some 65, .pick (.t 61) (.t 64) (.c (.bool false)), none, []⟩,
  ⟨some 2, .mv (.t 65), none, []⟩] [2]
def c156_7 : ACode := .seq c156_6 .ret
def c156_8 : ACode := .seq c156_5 c156_7
def c156_9 : ACode := .seq c156_0 c156_8
def a156 : AFun := ⟨1, 66, c156_9, [.t 2]⟩

/- slices.IndexFunc[[]copse/api.Tree,copse/api.Tree] -/
def c160_0 : ACode := .ops [⟨some 4, .mv (.c (.int .i64 0)), none, []⟩] [0, 1]
def c160_1 : ACode := .ops [⟨some 6, .mv (.t 0), none, []⟩,
  ⟨some 7, .len (.t 6), none, []⟩,
  ⟨some 8, .mv (.c (.int .i64 0)), none, []⟩] [0, 1, 7, 8]
def c160_2 : ACode := .ops [⟨some 9, .bin .lss (.t 8) (.t 7), none, []⟩] [0, 1, 7, 8, 9]
def c160_3 : ACode := .cond (.t 9) .skip (.exit 0)
def c160_4 : ACode := .ops [⟨some 10, .mv (.t 8), none, []⟩,
  ⟨some 5, .mv (.t 10), none, []⟩] [0, 1, 5, 7, 8]
def c160_5 : ACode := .ops [⟨some 11, .mv (.t 1), none, []⟩,
  ⟨some 12, .mv (.t 0), none, []⟩,
  ⟨some 13, .mv (.t 5), none, []⟩,
  ⟨some 14, .ias (.t 12) (.t 13) 2, none, []⟩,
  ⟨some 15, .load 2 true (.t 14), none, []⟩,
  ⟨some 16, .dyn (.t 11) [.t 15], none, []⟩] [0, 1, 5, 7, 8, 16]
def c160_6 : ACode := .ops [⟨some 17, .mv (.t 5), none, []⟩,
  ⟨some 4, .mv (.t 17), none, []⟩] [4]
def c160_7 : ACode := .seq c160_6 .ret
def c160_8 : ACode := .cond (.t 16) c160_7 .skip
def c160_9 : ACode := .seq c160_5 c160_8
def c160_10 : ACode := .seq c160_4 c160_9
def c160_11 : ACode := .block 1 c160_10
def c160_12 : ACode := .ops [⟨some 18, .bin .add (.t 8) (.c (.int .i64 1)), none, []⟩,
  ⟨some 8, .mv (.t 18), none, []⟩] [0, 1, 7, 8]
def c160_13 : ACode := .seq c160_11 c160_12
def c160_14 : ACode := .seq c160_3 c160_13
def c160_15 : ACode := .seq c160_2 c160_14
def c160_16 : ACode := .keep [0, 1, 7, 8] [] c160_15
def c160_17 : ACode := .loop c160_16
def c160_18 : ACode := .block 0 c160_17
def c160_19 : ACode := .seq c160_1 c160_18
def c160_20 : ACode := .ops [⟨some 4, .mv (.c (.int .i64 (-1))), none, []⟩] [4]
def c160_21 : ACode := .seq c160_20 .ret
def c160_22 : ACode := .seq c160_19 c160_21
def c160_23 : ACode := .seq c160_0 c160_22
def a160 : AFun := ⟨2, 19, c160_23, [.t 4]⟩

/- copse/bits.Wrap -/
def c161_0 : ACode := .ops [⟨some 4, .mv (.c (.int .i64 0)), none, []⟩] [0, 1]
def c161_1 : ACode := .ops [⟨some 6, .mv (.t 1), none, []⟩,
  ⟨some 7, .bin .lss (.t 6) (.c (.int .i64 1)), none, []⟩,
  ⟨some 8, .mv (.t 7), none, []⟩,
  ⟨some 9, .mv (.t 1), some (8, false), []⟩,
  ⟨some 10, .bin .geq (.t 9) (.c (.int .i64 64)), some (8, false), []⟩,
  ⟨some 11, .pick (.t 8) (.c (.bool true)) (.t 10), none, []⟩] [0, 1, 11]
def c161_2 : ACode := .ops [⟨some 12, .mv (.t 0), none, []⟩,
  ⟨some 4, .mv (.t 12), none, []⟩] [4]
def c161_3 : ACode := .seq c161_2 .ret
def c161_4 : ACode := .cond (.t 11) c161_3 .skip
def c161_5 : ACode := .seq c161_1 c161_4
def c161_6 : ACode := .ops [⟨some 13, .mv (.t 1), none, []⟩,
  ⟨some 14, .bin .sub (.c (.int .i64 64)) (.t 13), none, []⟩,
  ⟨some 15, .conv .u64 (.t 14), none, []⟩,
  ⟨some 5, .mv (.t 15), none, []⟩] [0, 5]
def c161_7 : ACode := .ops [⟨some 16, .mv (.t 0), none, []⟩,
  ⟨some 17, .mv (.t 5), none, []⟩,
  ⟨some 18, .bin .shl (.t 16) (.t 17), none, []⟩,
  ⟨some 19, .mv (.t 5), none, []⟩,
  ⟨some 20, .bin .shr (.t 18) (.t 19), none, []⟩,
  ⟨some 4, .mv (.t 20), none, []⟩] [4]
def c161_8 : ACode := .seq c161_7 .ret
def c161_9 : ACode := .seq c161_6 c161_8
def c161_10 : ACode := .seq c161_5 c161_9
def c161_11 : ACode := .seq c161_0 c161_10
def a161 : AFun := ⟨2, 21, c161_11, [.t 4]⟩

/- copse/bits.field -/
def c162_0 : ACode := .ops [⟨some 4, .mv (.c (.bool false)), none, []⟩] [0, 1]
def c162_1 : ACode := .ops [⟨some 5, .mv (.t 0), none, []⟩,
  ⟨some 6, .bin .geq (.t 5) (.c (.int .i64 0)), none, []⟩,
  ⟨some 7, .mv (.t 6), none, []⟩,
  ⟨some 8, .mv (.t 0), some (7, true), []⟩,
  ⟨some 9, .bin .lss (.t 8) (.c (.int .i64 64)), some (7, true), []⟩,
  ⟨some 10, .pick (.t 7) (.t 9) (.c (.bool false)), none, []⟩,
  ⟨some 11, .mv (.t 10), none, []⟩,
  ⟨some 12, .mv (.t 1), some (11, true), []⟩,
  ⟨some 13, .bin .geq (.t 12) (.c (.int .i64 1)), some (11, true), []⟩,
  ⟨some 14, .pick (.t 11) (.t 13) (.c (.bool false)), none, []⟩,
  ⟨some 15, .mv (.t 14), none, []⟩,
  ⟨some 16, .mv (.t 1), some (15, true), []⟩,
  ⟨some 17, .mv (.t 0), some (15, true), []⟩,
  ⟨some 18, .bin .sub (.c (.int .i64 64)) (.t 17), some (15, true), []⟩,
  ⟨some 19, .bin .leq (.t 16) (.t 18), some (15, true), []⟩,
  ⟨some 20, .pick (.t 15) (.t 19) (.c (.bool false)), none, []⟩,
  ⟨some 4, .mv (.t 20), none, []⟩] [4]
def c162_2 : ACode := .seq c162_1 .ret
def c162_3 : ACode := .seq c162_0 c162_2
def a162 : AFun := ⟨2, 21, c162_3, [.t 4]⟩

/- copse/bits.mask -/
def c163_0 : ACode := .ops [⟨some 2, .mv (.c (.int .u64 0)), none, []⟩] [0]
def c163_1 : ACode := .ops [⟨some 3, .mv (.t 0), none, []⟩,
  ⟨some 4, .bin .sub (.c (.int .i64 64)) (.t 3), none, []⟩,
  ⟨some 5, .conv .u64 (.t 4), none, []⟩,
  ⟨some 6, .bin .shr (.c (.int .u64 18446744073709551615)) (.t 5), none, []⟩,
  ⟨some 2, .mv (.t 6), none, []⟩] [2]
def c163_2 : ACode := .seq c163_1 .ret
def c163_3 : ACode := .seq c163_0 c163_2
def a163 : AFun := ⟨1, 7, c163_3, [.t 2]⟩

/- copse/node.Right -/
def c164_0 : ACode := .ops [⟨some 1, .box (.t 0) 6, none, []⟩,
  ⟨some 2, .mv (.c (.bool false)), none, []⟩] [1]
def c164_1 : ACode := .ops [⟨some 3, .fad (.t 1) 0, none, [1]⟩,
  ⟨some 4, .load 1 false (.t 3), none, [1]⟩] [1, 4]
def c164_2 : ACode := .ops [⟨some 5, .load 6 true (.t 1), none, [1]⟩,
  ⟨some 6, .fad (.t 1) 1, none, [1]⟩,
  ⟨some 7, .load 1 false (.t 6), none, [1]⟩,
  ⟨some 8, .build [.bool false, .int .i64 0, .int .i64 0, .int .i64 0, .int .i64 0, .int .i64 0] [(0, 1, .c (.bool true)), (1, 1, .t 7)], none, []⟩,
  ⟨some 9, .eqa false [true, false, false, false, false, false] (.t 5) (.t 8), none, []⟩,
  ⟨some 10, .mv (.t 9), none, []⟩,
  ⟨some 11, .fad (.t 1) 1, some (10, true), [1]⟩,
  ⟨some 12, .load 1 false (.t 11), some (10, true), [1]⟩,
  ⟨some 13, .call 123 [.t 12, .c (.int .i64 32)], some (10, true), []⟩,
  ⟨some 14, .pick (.t 10) (.t 13) (.c (.bool false)), none, []⟩,
  ⟨some 2, .mv (.t 14), none, []⟩] [2]
def c164_3 : ACode := .seq c164_2 .ret
def c164_4 : ACode := .cond (.t 4) c164_3 .skip
def c164_5 : ACode := .seq c164_1 c164_4
def c164_6 : ACode := .ops [⟨some 15, .fad (.t 1) 1, none, [1]⟩,
  ⟨some 16, .load 1 false (.t 15), none, [1]⟩,
  ⟨some 17, .bin .eql (.t 16) (.c (.int .i64 0)), none, []⟩,
  ⟨some 18, .mv (.t 17), none, []⟩,
  ⟨some 19, .fad (.t 1) 2, some (18, true), [1]⟩,
  ⟨some 20, .load 1 false (.t 19), some (18, true), [1]⟩,
  ⟨some 21, .bin .geq (.t 20) (.c (.int .i64 0)), some (18, true), []⟩,
  ⟨some 22, .pick (.t 18) (.t 21) (.c (.bool false)), none, []⟩,
  ⟨some 23, .mv (.t 22), none, []⟩,
  ⟨some 24, .fad (.t 1) 2, some (23, true), [1]⟩,
  ⟨some 25, .load 1 false (.t 24), some (23, true), [1]⟩,
  ⟨some 26, .bin .lss (.t 25) (.c (.int .i64 4)), some (23, true), []⟩,
  ⟨some 27, .pick (.t 23) (.t 26) (.c (.bool false)), none, []⟩,
  ⟨some 28, .mv (.t 27), none, []⟩,
  ⟨some 29, .fad (.t 1) 3, some (28, true), [1]⟩,
  ⟨some 30, .load 1 false (.t 29), some (28, true), [1]⟩,
  ⟨some 31, .call 123 [.t 30, .c (.int .i64 32)], some (28, true), []⟩,
  ⟨some 32, .pick (.t 28) (.t 31) (.c (.bool false)), none, []⟩,
  ⟨some 33, .mv (.t 32), none, []⟩,
  ⟨some 34, .fad (.t 1) 4, some (33, true), [1]⟩,
  ⟨some 35, .load 1 false (.t 34), some (33, true), [1]⟩,
  ⟨some 36, .call 176 [.t 35], some (33, true), []⟩,
  ⟨some 37, .pick (.t 33) (.t 36) (.c (.bool false)), none, []⟩,
  ⟨some 38, .mv (.t 37), none, []⟩,
  ⟨some 39, .fad (.t 1) 5, some (38, true), [1]⟩,
  ⟨some 40, .load 1 false (.t 39), some (38, true), [1]⟩,
  ⟨some 41, .call 176 [.t 40], some (38, true), []⟩,
  ⟨some 42, .pick (.t 38) (.t 41) (.c (.bool false)), none, []⟩,
  ⟨some 2, .mv (.t 42), none, []⟩] [2]
def c164_7 : ACode := .seq c164_6 .ret
def c164_8 : ACode := .seq c164_5 c164_7
def c164_9 : ACode := .seq c164_0 c164_8
def a164 : AFun := ⟨1, 43, c164_9, [.t 2]⟩

/- copse/bits.Put -/
def c165_0 : ACode := .ops [⟨some 8, .mv (.c (.int .u64 0)), none, []⟩] [0, 1, 2, 3]
def c165_1 : ACode := .ops [⟨some 10, .mv (.t 1), none, []⟩,
  ⟨some 11, .mv (.t 2), none, []⟩,
  ⟨some 12, .call 162 [.t 10, .t 11], none, []⟩,
  ⟨some 13, .un .not (.t 12), none, []⟩] [0, 1, 2, 3, 13]
def c165_2 : ACode := .ops [⟨some 14, .mv (.t 0), none, []⟩,
  ⟨some 8, .mv (.t 14), none, []⟩] [8]
def c165_3 : ACode := .seq c165_2 .ret
def c165_4 : ACode := .cond (.t 13) c165_3 .skip
def c165_5 : ACode := .seq c165_1 c165_4
def c165_6 : ACode := .ops [⟨some 15, .mv (.t 2), none, []⟩,
  ⟨some 16, .call 163 [.t 15], none, []⟩,
  ⟨some 17, .mv (.t 1), none, []⟩,
  ⟨some 18, .conv .u64 (.t 17), none, []⟩,
  ⟨some 19, .bin .shl (.t 16) (.t 18), none, []⟩,
  ⟨some 9, .mv (.t 19), none, []⟩] [0, 1, 3, 9]
def c165_7 : ACode := .ops [⟨some 20, .mv (.t 0), none, []⟩,
  ⟨some 21, .mv (.t 9), none, []⟩,
  ⟨some 22, .bin .andNot (.t 20) (.t 21), none, []⟩,
  ⟨some 23, .mv (.t 3), none, []⟩,
  ⟨some 24, .mv (.t 1), none, []⟩,
  ⟨some 25, .conv .u64 (.t 24), none, []⟩,
  ⟨some 26, .bin .shl (.t 23) (.t 25), none, []⟩,
  ⟨some 27, .mv (.t 9), none, []⟩,
  ⟨some 28, .bin .and (.t 26) (.t 27), none, []⟩,
  ⟨some 29, .bin .or (.t 22) (.t 28), none, []⟩,
  ⟨some 8, .mv (.t 29), none, []⟩] [8]
def c165_8 : ACode := .seq c165_7 .ret
def c165_9 : ACode := .seq c165_6 c165_8
def c165_10 : ACode := .seq c165_5 c165_9
def c165_11 : ACode := .seq c165_0 c165_10
def a165 : AFun := ⟨4, 30, c165_11, [.t 8]⟩

/- copse/node.child -/
def c176_0 : ACode := .ops [⟨some 2, .mv (.c (.bool false)), none, []⟩] [0]
def c176_1 : ACode := .ops [⟨some 3, .mv (.t 0), none, []⟩,
  ⟨some 4, .bin .geq (.t 3) (.c (.int .i64 1)), none, []⟩,
  ⟨some 5, .mv (.t 4), none, []⟩,
  ⟨some 6, .mv (.t 0), some (5, true), []⟩,
  ⟨some 7, .bin .lss (.t 6) (.c (.int .i64 31)), some (5, true), []⟩,
  ⟨some 8, .pick (.t 5) (.t 7) (.c (.bool false)), none, []⟩,
  ⟨some 2, .mv (.t 8), none, []⟩] [2]
def c176_2 : ACode := .seq c176_1 .ret
def c176_3 : ACode := .seq c176_0 c176_2
def a176 : AFun := ⟨1, 9, c176_3, [.t 2]⟩

end Go.Am
