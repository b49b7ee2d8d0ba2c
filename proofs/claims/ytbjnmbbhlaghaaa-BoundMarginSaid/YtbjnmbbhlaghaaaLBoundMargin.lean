/- The law BoundMargin: what its text computes (written by mkLBM.py). -/
import Derived.Test.YtbjnmbbhlaghaaaCoO
import Derived.Test.YtbjnmbbhlaghaaaCoSh
namespace Go.Co
open Go.Am Go.Proofs
set_option linter.unusedSimpArgs false
set_option linter.unusedVariables false

/- copse/copselaw14.BoundMargin -/
def c18_0 : ACode := .ops [⟨some 4, .box (.t 0) 4, none, []⟩,
  ⟨some 8, .mv (.c (.bool false)), none, []⟩] [1, 2, 3, 4]
theorem r18_0 {C : Cs} {k : List Fr} {s : St} {Q : Post} : run C c18_0 k s Q = run C (.ops [⟨some 4, .box (.t 0) 4, none, []⟩,
  ⟨some 8, .mv (.c (.bool false)), none, []⟩] [1, 2, 3, 4]) k s Q := rfl
def c18_1 : ACode := .ops [⟨some 25, .load 4 true (.t 4), none, [4]⟩,
  ⟨some 26, .call 45 [.t 25], none, []⟩,
  ⟨some 9, .alloc [.int .i64 0, .int .i64 0, .int .i64 0, .int .i64 0, .int .i64 0, .nils], none, []⟩,
  ⟨none, .store (.t 9) 6 (.t 26), none, [9]⟩] [1, 2, 3, 9]
theorem r18_1 {C : Cs} {k : List Fr} {s : St} {Q : Post} : run C c18_1 k s Q = run C (.ops [⟨some 25, .load 4 true (.t 4), none, [4]⟩,
  ⟨some 26, .call 45 [.t 25], none, []⟩,
  ⟨some 9, .alloc [.int .i64 0, .int .i64 0, .int .i64 0, .int .i64 0, .int .i64 0, .nils], none, []⟩,
  ⟨none, .store (.t 9) 6 (.t 26), none, [9]⟩] [1, 2, 3, 9]) k s Q := rfl
def c18_2 : ACode := .ops [⟨some 27, .load 6 true (.t 9), none, [9]⟩,
  ⟨some 28, .mv (.t 1), none, []⟩,
  ⟨some 29, .call 46 [.t 27, .t 28], none, []⟩,
  ⟨some 10, .alloc [.int .i64 0, .int .i64 0, .int .i64 0, .int .i64 0, .int .i64 0, .int .i64 0, .int .i64 0, .int .i64 0, .int .i64 0, .int .i64 0], none, []⟩,
  ⟨none, .store (.t 10) 10 (.t 29), none, [10]⟩] [2, 3, 9, 10]
theorem r18_2 {C : Cs} {k : List Fr} {s : St} {Q : Post} : run C c18_2 k s Q = run C (.ops [⟨some 27, .load 6 true (.t 9), none, [9]⟩,
  ⟨some 28, .mv (.t 1), none, []⟩,
  ⟨some 29, .call 46 [.t 27, .t 28], none, []⟩,
  ⟨some 10, .alloc [.int .i64 0, .int .i64 0, .int .i64 0, .int .i64 0, .int .i64 0, .int .i64 0, .int .i64 0, .int .i64 0, .int .i64 0, .int .i64 0], none, []⟩,
  ⟨none, .store (.t 10) 10 (.t 29), none, [10]⟩] [2, 3, 9, 10]) k s Q := rfl
def c18_3 : ACode := .ops [⟨some 30, .mv (.t 3), none, []⟩,
  ⟨some 31, .fad (.t 9) 1, none, [9]⟩,
  ⟨some 32, .load 1 false (.t 31), none, [9]⟩,
  ⟨some 33, .bin .sub (.t 32) (.c (.int .i64 1)), none, []⟩,
  ⟨some 34, .call 63 [.t 30, .c (.int .i64 0), .t 33], none, []⟩,
  ⟨some 11, .mv (.t 34), none, []⟩] [2, 9, 10, 11]
theorem r18_3 {C : Cs} {k : List Fr} {s : St} {Q : Post} : run C c18_3 k s Q = run C (.ops [⟨some 30, .mv (.t 3), none, []⟩,
  ⟨some 31, .fad (.t 9) 1, none, [9]⟩,
  ⟨some 32, .load 1 false (.t 31), none, [9]⟩,
  ⟨some 33, .bin .sub (.t 32) (.c (.int .i64 1)), none, []⟩,
  ⟨some 34, .call 63 [.t 30, .c (.int .i64 0), .t 33], none, []⟩,
  ⟨some 11, .mv (.t 34), none, []⟩] [2, 9, 10, 11]) k s Q := rfl
def c18_4 : ACode := .ops [⟨some 36, .load 6 true (.t 9), none, [9]⟩,
  ⟨some 37, .mv (.t 11), none, []⟩,
  ⟨some 38, .load 10 true (.t 10), none, [10]⟩,
  ⟨some 39, .call 79 [.t 36, .t 37, .t 38], none, []⟩,
  ⟨some 35, .mv (.t 39), none, []⟩,
  ⟨some 40, .ext (.t 35) 0, none, []⟩,
  ⟨some 41, .ext (.t 35) 1, none, []⟩,
  ⟨some 12, .mv (.t 40), none, []⟩,
  ⟨some 13, .mv (.t 41), none, []⟩] [2, 9, 10, 11, 12, 13]
theorem r18_4 {C : Cs} {k : List Fr} {s : St} {Q : Post} : run C c18_4 k s Q = run C (.ops [⟨some 36, .load 6 true (.t 9), none, [9]⟩,
  ⟨some 37, .mv (.t 11), none, []⟩,
  ⟨some 38, .load 10 true (.t 10), none, [10]⟩,
  ⟨some 39, .call 79 [.t 36, .t 37, .t 38], none, []⟩,
  ⟨some 35, .mv (.t 39), none, []⟩,
  ⟨some 40, .ext (.t 35) 0, none, []⟩,
  ⟨some 41, .ext (.t 35) 1, none, []⟩,
  ⟨some 12, .mv (.t 40), none, []⟩,
  ⟨some 13, .mv (.t 41), none, []⟩] [2, 9, 10, 11, 12, 13]) k s Q := rfl
def c18_5 : ACode := .ops [⟨some 42, .fad (.t 9) 1, none, [9]⟩,
  ⟨some 43, .load 1 false (.t 42), none, [9]⟩,
  ⟨some 44, .bin .lss (.t 43) (.c (.int .i64 2)), none, []⟩] [2, 9, 10, 11, 12, 13, 44]
theorem r18_5 {C : Cs} {k : List Fr} {s : St} {Q : Post} : run C c18_5 k s Q = run C (.ops [⟨some 42, .fad (.t 9) 1, none, [9]⟩,
  ⟨some 43, .load 1 false (.t 42), none, [9]⟩,
  ⟨some 44, .bin .lss (.t 43) (.c (.int .i64 2)), none, []⟩] [2, 9, 10, 11, 12, 13, 44]) k s Q := rfl
def c18_6 : ACode := .ops [⟨some 45, .mv (.t 13), none, []⟩,
  ⟨some 46, .un .not (.t 45), none, []⟩,
  ⟨some 47, .mv (.t 46), none, []⟩,
  ⟨some 48, .mv (.t 12), some (47, true), []⟩,
  ⟨some 49, .bin .eql (.t 48) (.c (.int .i64 0)), some (47, true), []⟩,
  ⟨some 50, .pick (.t 47) (.t 49) (.c (.bool false)), none, []⟩,
  ⟨some 51, .mv (.t 50), none, []⟩,
  ⟨some 52, .call 3 [], some (51, true), []⟩,
  ⟨some 53, .pick (.t 51) (.t 52) (.c (.bool false)), none, []⟩,
  ⟨some 8, .mv (.t 53), none, []⟩] [8]
theorem r18_6 {C : Cs} {k : List Fr} {s : St} {Q : Post} : run C c18_6 k s Q = run C (.ops [⟨some 45, .mv (.t 13), none, []⟩,
  ⟨some 46, .un .not (.t 45), none, []⟩,
  ⟨some 47, .mv (.t 46), none, []⟩,
  ⟨some 48, .mv (.t 12), some (47, true), []⟩,
  ⟨some 49, .bin .eql (.t 48) (.c (.int .i64 0)), some (47, true), []⟩,
  ⟨some 50, .pick (.t 47) (.t 49) (.c (.bool false)), none, []⟩,
  ⟨some 51, .mv (.t 50), none, []⟩,
  ⟨some 52, .call 3 [], some (51, true), []⟩,
  ⟨some 53, .pick (.t 51) (.t 52) (.c (.bool false)), none, []⟩,
  ⟨some 8, .mv (.t 53), none, []⟩] [8]) k s Q := rfl
def c18_7 : ACode := .seq c18_6 .ret
theorem r18_7 {C : Cs} {k : List Fr} {s : St} {Q : Post} : run C c18_7 k s Q = run C (.seq c18_6 .ret) k s Q := rfl
def c18_8 : ACode := .cond (.t 44) c18_7 .skip
theorem r18_8 {C : Cs} {k : List Fr} {s : St} {Q : Post} : run C c18_8 k s Q = run C (.cond (.t 44) c18_7 .skip) k s Q := rfl
def c18_9 : ACode := .seq c18_5 c18_8
theorem r18_9 {C : Cs} {k : List Fr} {s : St} {Q : Post} : run C c18_9 k s Q = run C (.seq c18_5 c18_8) k s Q := rfl
def c18_10 : ACode := .ops [⟨some 54, .load 10 true (.t 10), none, [10]⟩,
  ⟨some 55, .mv (.t 2), none, []⟩,
  ⟨some 56, .call 66 [.t 54, .t 55], none, []⟩,
  ⟨some 14, .alloc [.int .i64 0, .int .i64 0, .int .i64 0, .int .i64 0], none, []⟩,
  ⟨none, .store (.t 14) 4 (.t 56), none, [14]⟩] [9, 10, 11, 12, 13, 14]
theorem r18_10 {C : Cs} {k : List Fr} {s : St} {Q : Post} : run C c18_10 k s Q = run C (.ops [⟨some 54, .load 10 true (.t 10), none, [10]⟩,
  ⟨some 55, .mv (.t 2), none, []⟩,
  ⟨some 56, .call 66 [.t 54, .t 55], none, []⟩,
  ⟨some 14, .alloc [.int .i64 0, .int .i64 0, .int .i64 0, .int .i64 0], none, []⟩,
  ⟨none, .store (.t 14) 4 (.t 56), none, [14]⟩] [9, 10, 11, 12, 13, 14]) k s Q := rfl
def c18_11 : ACode := .ops [⟨some 15, .alloc [.int .i64 0, .int .i64 0, .int .i64 0, .int .i64 0, .int .i64 0, .int .i64 0, .int .i64 0, .int .i64 0, .int .i64 0, .int .i64 0], none, []⟩] [9, 10, 11, 12, 13, 14, 15]
theorem r18_11 {C : Cs} {k : List Fr} {s : St} {Q : Post} : run C c18_11 k s Q = run C (.ops [⟨some 15, .alloc [.int .i64 0, .int .i64 0, .int .i64 0, .int .i64 0, .int .i64 0, .int .i64 0, .int .i64 0, .int .i64 0, .int .i64 0, .int .i64 0], none, []⟩] [9, 10, 11, 12, 13, 14, 15]) k s Q := rfl
def c18_12 : ACode := .ops [⟨some 57, .mv (.c (.int .i64 0)), none, []⟩] [9, 10, 11, 12, 13, 14, 15, 57]
theorem r18_12 {C : Cs} {k : List Fr} {s : St} {Q : Post} : run C c18_12 k s Q = run C (.ops [⟨some 57, .mv (.c (.int .i64 0)), none, []⟩] [9, 10, 11, 12, 13, 14, 15, 57]) k s Q := rfl
def c18_13 : ACode := .ops [⟨some 58, .bin .lss (.t 57) (.c (.int .i64 4)), none, []⟩] [9, 10, 11, 12, 13, 14, 15, 57, 58]
theorem r18_13 {C : Cs} {k : List Fr} {s : St} {Q : Post} : run C c18_13 k s Q = run C (.ops [⟨some 58, .bin .lss (.t 57) (.c (.int .i64 4)), none, []⟩] [9, 10, 11, 12, 13, 14, 15, 57, 58]) k s Q := rfl
def c18_14 : ACode := .cond (.t 58) .skip (.exit 0)
theorem r18_14 {C : Cs} {k : List Fr} {s : St} {Q : Post} : run C c18_14 k s Q = run C (.cond (.t 58) .skip (.exit 0)) k s Q := rfl
def c18_15 : ACode := .ops [⟨some 59, .mv (.t 57), none, []⟩,
  ⟨some 16, .mv (.t 59), none, []⟩] [9, 10, 11, 12, 13, 14, 15, 16, 57]
theorem r18_15 {C : Cs} {k : List Fr} {s : St} {Q : Post} : run C c18_15 k s Q = run C (.ops [⟨some 59, .mv (.t 57), none, []⟩,
  ⟨some 16, .mv (.t 59), none, []⟩] [9, 10, 11, 12, 13, 14, 15, 16, 57]) k s Q := rfl
def c18_16 : ACode := .ops [⟨some 60, .mv (.t 16), none, []⟩,
  ⟨some 61, .mv (.t 16), none, []⟩,
  ⟨some 62, .iad (.t 14) (.t 61) 1 4, none, [14]⟩,
  ⟨some 63, .load 1 false (.t 62), none, [14]⟩,
  ⟨some 64, .mv (.t 16), none, []⟩,
  ⟨some 65, .iad (.t 14) (.t 64) 1 4, none, [14]⟩,
  ⟨some 66, .load 1 false (.t 65), none, [14]⟩,
  ⟨some 67, .build [.int .i64 0, .int .i64 0] [(0, 1, .t 63), (1, 1, .t 66)], none, []⟩,
  ⟨some 68, .iad (.t 15) (.t 60) 2 5, none, [15]⟩,
  ⟨none, .store (.t 68) 2 (.t 67), none, [15]⟩] [9, 10, 11, 12, 13, 14, 15, 57]
theorem r18_16 {C : Cs} {k : List Fr} {s : St} {Q : Post} : run C c18_16 k s Q = run C (.ops [⟨some 60, .mv (.t 16), none, []⟩,
  ⟨some 61, .mv (.t 16), none, []⟩,
  ⟨some 62, .iad (.t 14) (.t 61) 1 4, none, [14]⟩,
  ⟨some 63, .load 1 false (.t 62), none, [14]⟩,
  ⟨some 64, .mv (.t 16), none, []⟩,
  ⟨some 65, .iad (.t 14) (.t 64) 1 4, none, [14]⟩,
  ⟨some 66, .load 1 false (.t 65), none, [14]⟩,
  ⟨some 67, .build [.int .i64 0, .int .i64 0] [(0, 1, .t 63), (1, 1, .t 66)], none, []⟩,
  ⟨some 68, .iad (.t 15) (.t 60) 2 5, none, [15]⟩,
  ⟨none, .store (.t 68) 2 (.t 67), none, [15]⟩] [9, 10, 11, 12, 13, 14, 15, 57]) k s Q := rfl
def c18_17 : ACode := .seq c18_15 c18_16
theorem r18_17 {C : Cs} {k : List Fr} {s : St} {Q : Post} : run C c18_17 k s Q = run C (.seq c18_15 c18_16) k s Q := rfl
def c18_18 : ACode := .block 1 c18_17
theorem r18_18 {C : Cs} {k : List Fr} {s : St} {Q : Post} : run C c18_18 k s Q = run C (.block 1 c18_17) k s Q := rfl
def c18_19 : ACode := .ops [⟨some 69, .bin .add (.t 57) (.c (.int .i64 1)), none, []⟩,
  ⟨some 57, .mv (.t 69), none, []⟩] [9, 10, 11, 12, 13, 14, 15, 57]
theorem r18_19 {C : Cs} {k : List Fr} {s : St} {Q : Post} : run C c18_19 k s Q = run C (.ops [⟨some 69, .bin .add (.t 57) (.c (.int .i64 1)), none, []⟩,
  ⟨some 57, .mv (.t 69), none, []⟩] [9, 10, 11, 12, 13, 14, 15, 57]) k s Q := rfl
def c18_20 : ACode := .seq c18_18 c18_19
theorem r18_20 {C : Cs} {k : List Fr} {s : St} {Q : Post} : run C c18_20 k s Q = run C (.seq c18_18 c18_19) k s Q := rfl
def c18_21 : ACode := .seq c18_14 c18_20
theorem r18_21 {C : Cs} {k : List Fr} {s : St} {Q : Post} : run C c18_21 k s Q = run C (.seq c18_14 c18_20) k s Q := rfl
def c18_22 : ACode := .seq c18_13 c18_21
theorem r18_22 {C : Cs} {k : List Fr} {s : St} {Q : Post} : run C c18_22 k s Q = run C (.seq c18_13 c18_21) k s Q := rfl
def c18_23 : ACode := .keep [9, 10, 11, 12, 13, 14, 15, 57] [9, 10, 14, 15] c18_22
theorem r18_23 {C : Cs} {k : List Fr} {s : St} {Q : Post} : run C c18_23 k s Q = run C (.keep [9, 10, 11, 12, 13, 14, 15, 57] [9, 10, 14, 15] c18_22) k s Q := rfl
def c18_24 : ACode := .loop c18_23
theorem r18_24 {C : Cs} {k : List Fr} {s : St} {Q : Post} : run C c18_24 k s Q = run C (.loop c18_23) k s Q := rfl
def c18_25 : ACode := .block 0 c18_24
theorem r18_25 {C : Cs} {k : List Fr} {s : St} {Q : Post} : run C c18_25 k s Q = run C (.block 0 c18_24) k s Q := rfl
def c18_26 : ACode := .seq c18_12 c18_25
theorem r18_26 {C : Cs} {k : List Fr} {s : St} {Q : Post} : run C c18_26 k s Q = run C (.seq c18_12 c18_25) k s Q := rfl
def c18_27 : ACode := .ops [⟨some 71, .load 6 true (.t 9), none, [9]⟩,
  ⟨some 72, .mv (.t 11), none, []⟩,
  ⟨some 73, .load 10 true (.t 15), none, [15]⟩,
  ⟨some 74, .call 79 [.t 71, .t 72, .t 73], none, []⟩,
  ⟨some 70, .mv (.t 74), none, []⟩,
  ⟨some 75, .ext (.t 70) 0, none, []⟩,
  ⟨some 76, .ext (.t 70) 1, none, []⟩,
  ⟨some 17, .mv (.t 75), none, []⟩,
  ⟨some 18, .mv (.t 76), none, []⟩] [9, 10, 11, 12, 13, 14, 17, 18]
theorem r18_27 {C : Cs} {k : List Fr} {s : St} {Q : Post} : run C c18_27 k s Q = run C (.ops [⟨some 71, .load 6 true (.t 9), none, [9]⟩,
  ⟨some 72, .mv (.t 11), none, []⟩,
  ⟨some 73, .load 10 true (.t 15), none, [15]⟩,
  ⟨some 74, .call 79 [.t 71, .t 72, .t 73], none, []⟩,
  ⟨some 70, .mv (.t 74), none, []⟩,
  ⟨some 75, .ext (.t 70) 0, none, []⟩,
  ⟨some 76, .ext (.t 70) 1, none, []⟩,
  ⟨some 17, .mv (.t 75), none, []⟩,
  ⟨some 18, .mv (.t 76), none, []⟩] [9, 10, 11, 12, 13, 14, 17, 18]) k s Q := rfl
def c18_28 : ACode := .ops [⟨some 19, .mv (.c (.int .i64 0)), none, []⟩,
  ⟨some 20, .mv (.c (.bool true)), none, []⟩] [9, 10, 11, 12, 13, 14, 17, 18, 19, 20]
theorem r18_28 {C : Cs} {k : List Fr} {s : St} {Q : Post} : run C c18_28 k s Q = run C (.ops [⟨some 19, .mv (.c (.int .i64 0)), none, []⟩,
  ⟨some 20, .mv (.c (.bool true)), none, []⟩] [9, 10, 11, 12, 13, 14, 17, 18, 19, 20]) k s Q := rfl
def c18_29 : ACode := .ops [⟨some 21, .mv (.c (.int .i64 0)), none, []⟩] [9, 10, 11, 12, 13, 14, 17, 18, 19, 20, 21]
theorem r18_29 {C : Cs} {k : List Fr} {s : St} {Q : Post} : run C c18_29 k s Q = run C (.ops [⟨some 21, .mv (.c (.int .i64 0)), none, []⟩] [9, 10, 11, 12, 13, 14, 17, 18, 19, 20, 21]) k s Q := rfl
def c18_30 : ACode := .ops [⟨some 77, .mv (.t 21), none, []⟩,
  ⟨some 78, .fad (.t 9) 1, none, [9]⟩,
  ⟨some 79, .load 1 false (.t 78), none, [9]⟩,
  ⟨some 80, .bin .lss (.t 77) (.t 79), none, []⟩] [9, 10, 11, 12, 13, 14, 17, 18, 19, 20, 21, 80]
theorem r18_30 {C : Cs} {k : List Fr} {s : St} {Q : Post} : run C c18_30 k s Q = run C (.ops [⟨some 77, .mv (.t 21), none, []⟩,
  ⟨some 78, .fad (.t 9) 1, none, [9]⟩,
  ⟨some 79, .load 1 false (.t 78), none, [9]⟩,
  ⟨some 80, .bin .lss (.t 77) (.t 79), none, []⟩] [9, 10, 11, 12, 13, 14, 17, 18, 19, 20, 21, 80]) k s Q := rfl
def c18_31 : ACode := .cond (.t 80) .skip (.exit 2)
theorem r18_31 {C : Cs} {k : List Fr} {s : St} {Q : Post} : run C c18_31 k s Q = run C (.cond (.t 80) .skip (.exit 2)) k s Q := rfl
def c18_32 : ACode := .seq c18_30 c18_31
theorem r18_32 {C : Cs} {k : List Fr} {s : St} {Q : Post} : run C c18_32 k s Q = run C (.seq c18_30 c18_31) k s Q := rfl
def c18_33 : ACode := .ops [⟨some 83, .mv (.t 21), none, []⟩,
  ⟨some 84, .mv (.t 11), none, []⟩,
  ⟨some 85, .bin .eql (.t 83) (.t 84), none, []⟩] [9, 10, 11, 12, 13, 14, 17, 18, 19, 20, 21, 85]
theorem r18_33 {C : Cs} {k : List Fr} {s : St} {Q : Post} : run C c18_33 k s Q = run C (.ops [⟨some 83, .mv (.t 21), none, []⟩,
  ⟨some 84, .mv (.t 11), none, []⟩,
  ⟨some 85, .bin .eql (.t 83) (.t 84), none, []⟩] [9, 10, 11, 12, 13, 14, 17, 18, 19, 20, 21, 85]) k s Q := rfl
def c18_34 : ACode := .cond (.t 85) (.exit 3) .skip
theorem r18_34 {C : Cs} {k : List Fr} {s : St} {Q : Post} : run C c18_34 k s Q = run C (.cond (.t 85) (.exit 3) .skip) k s Q := rfl
def c18_35 : ACode := .seq c18_33 c18_34
theorem r18_35 {C : Cs} {k : List Fr} {s : St} {Q : Post} : run C c18_35 k s Q = run C (.seq c18_33 c18_34) k s Q := rfl
def c18_36 : ACode := .ops [⟨some 86, .load 6 true (.t 9), none, [9]⟩,
  ⟨some 87, .mv (.t 11), none, []⟩,
  ⟨some 88, .load 4 true (.t 14), none, [14]⟩,
  ⟨some 89, .call 69 [.t 86, .t 87, .t 88], none, []⟩,
  ⟨some 90, .load 6 true (.t 9), none, [9]⟩,
  ⟨some 91, .mv (.t 21), none, []⟩,
  ⟨some 92, .load 4 true (.t 14), none, [14]⟩,
  ⟨some 93, .call 69 [.t 90, .t 91, .t 92], none, []⟩,
  ⟨some 94, .bin .sub (.t 89) (.t 93), none, []⟩,
  ⟨some 22, .mv (.t 94), none, []⟩] [9, 10, 11, 12, 13, 14, 17, 18, 19, 20, 21, 22]
theorem r18_36 {C : Cs} {k : List Fr} {s : St} {Q : Post} : run C c18_36 k s Q = run C (.ops [⟨some 86, .load 6 true (.t 9), none, [9]⟩,
  ⟨some 87, .mv (.t 11), none, []⟩,
  ⟨some 88, .load 4 true (.t 14), none, [14]⟩,
  ⟨some 89, .call 69 [.t 86, .t 87, .t 88], none, []⟩,
  ⟨some 90, .load 6 true (.t 9), none, [9]⟩,
  ⟨some 91, .mv (.t 21), none, []⟩,
  ⟨some 92, .load 4 true (.t 14), none, [14]⟩,
  ⟨some 93, .call 69 [.t 90, .t 91, .t 92], none, []⟩,
  ⟨some 94, .bin .sub (.t 89) (.t 93), none, []⟩,
  ⟨some 22, .mv (.t 94), none, []⟩] [9, 10, 11, 12, 13, 14, 17, 18, 19, 20, 21, 22]) k s Q := rfl
def c18_37 : ACode := .ops [⟨some 95, .mv (.t 20), none, []⟩,
  ⟨some 96, .mv (.t 95), none, []⟩,
  ⟨some 97, .mv (.t 22), some (96, false), []⟩,
  ⟨some 98, .mv (.t 19), some (96, false), []⟩,
  ⟨some 99, .bin .lss (.t 97) (.t 98), some (96, false), []⟩,
  ⟨some 100, .pick (.t 96) (.c (.bool true)) (.t 99), none, []⟩] [9, 10, 11, 12, 13, 14, 17, 18, 19, 20, 21, 22, 100]
theorem r18_37 {C : Cs} {k : List Fr} {s : St} {Q : Post} : run C c18_37 k s Q = run C (.ops [⟨some 95, .mv (.t 20), none, []⟩,
  ⟨some 96, .mv (.t 95), none, []⟩,
  ⟨some 97, .mv (.t 22), some (96, false), []⟩,
  ⟨some 98, .mv (.t 19), some (96, false), []⟩,
  ⟨some 99, .bin .lss (.t 97) (.t 98), some (96, false), []⟩,
  ⟨some 100, .pick (.t 96) (.c (.bool true)) (.t 99), none, []⟩] [9, 10, 11, 12, 13, 14, 17, 18, 19, 20, 21, 22, 100]) k s Q := rfl
def c18_38 : ACode := .ops [⟨some 101, .mv (.t 22), none, []⟩,
  ⟨some 19, .mv (.t 101), none, []⟩,
  ⟨some 20, .mv (.c (.bool false)), none, []⟩] [9, 10, 11, 12, 13, 14, 17, 18, 19, 20, 21]
theorem r18_38 {C : Cs} {k : List Fr} {s : St} {Q : Post} : run C c18_38 k s Q = run C (.ops [⟨some 101, .mv (.t 22), none, []⟩,
  ⟨some 19, .mv (.t 101), none, []⟩,
  ⟨some 20, .mv (.c (.bool false)), none, []⟩] [9, 10, 11, 12, 13, 14, 17, 18, 19, 20, 21]) k s Q := rfl
def c18_39 : ACode := .cond (.t 100) c18_38 .skip
theorem r18_39 {C : Cs} {k : List Fr} {s : St} {Q : Post} : run C c18_39 k s Q = run C (.cond (.t 100) c18_38 .skip) k s Q := rfl
def c18_40 : ACode := .seq c18_37 c18_39
theorem r18_40 {C : Cs} {k : List Fr} {s : St} {Q : Post} : run C c18_40 k s Q = run C (.seq c18_37 c18_39) k s Q := rfl
def c18_41 : ACode := .seq c18_36 c18_40
theorem r18_41 {C : Cs} {k : List Fr} {s : St} {Q : Post} : run C c18_41 k s Q = run C (.seq c18_36 c18_40) k s Q := rfl
def c18_42 : ACode := .seq c18_35 c18_41
theorem r18_42 {C : Cs} {k : List Fr} {s : St} {Q : Post} : run C c18_42 k s Q = run C (.seq c18_35 c18_41) k s Q := rfl
def c18_43 : ACode := .block 3 c18_42
theorem r18_43 {C : Cs} {k : List Fr} {s : St} {Q : Post} : run C c18_43 k s Q = run C (.block 3 c18_42) k s Q := rfl
def c18_44 : ACode := .ops [⟨some 81, .mv (.t 21), none, []⟩,
  ⟨some 82, .bin .add (.t 81) (.c (.int .i64 1)), none, []⟩,
  ⟨some 21, .mv (.t 82), none, []⟩] [9, 10, 11, 12, 13, 14, 17, 18, 19, 20, 21]
theorem r18_44 {C : Cs} {k : List Fr} {s : St} {Q : Post} : run C c18_44 k s Q = run C (.ops [⟨some 81, .mv (.t 21), none, []⟩,
  ⟨some 82, .bin .add (.t 81) (.c (.int .i64 1)), none, []⟩,
  ⟨some 21, .mv (.t 82), none, []⟩] [9, 10, 11, 12, 13, 14, 17, 18, 19, 20, 21]) k s Q := rfl
def c18_45 : ACode := .seq c18_43 c18_44
theorem r18_45 {C : Cs} {k : List Fr} {s : St} {Q : Post} : run C c18_45 k s Q = run C (.seq c18_43 c18_44) k s Q := rfl
def c18_46 : ACode := .seq c18_32 c18_45
theorem r18_46 {C : Cs} {k : List Fr} {s : St} {Q : Post} : run C c18_46 k s Q = run C (.seq c18_32 c18_45) k s Q := rfl
def c18_47 : ACode := .keep [9, 10, 11, 12, 13, 14, 17, 18, 19, 20, 21] [9, 10, 14] c18_46
theorem r18_47 {C : Cs} {k : List Fr} {s : St} {Q : Post} : run C c18_47 k s Q = run C (.keep [9, 10, 11, 12, 13, 14, 17, 18, 19, 20, 21] [9, 10, 14] c18_46) k s Q := rfl
def c18_48 : ACode := .loop c18_47
theorem r18_48 {C : Cs} {k : List Fr} {s : St} {Q : Post} : run C c18_48 k s Q = run C (.loop c18_47) k s Q := rfl
def c18_49 : ACode := .block 2 c18_48
theorem r18_49 {C : Cs} {k : List Fr} {s : St} {Q : Post} : run C c18_49 k s Q = run C (.block 2 c18_48) k s Q := rfl
def c18_50 : ACode := .seq c18_29 c18_49
theorem r18_50 {C : Cs} {k : List Fr} {s : St} {Q : Post} : run C c18_50 k s Q = run C (.seq c18_29 c18_49) k s Q := rfl
def c18_51 : ACode := .ops [⟨some 103, .load 6 true (.t 9), none, [9]⟩,
  ⟨some 104, .fad (.t 9) 1, none, [9]⟩,
  ⟨some 105, .load 1 false (.t 104), none, [9]⟩,
  ⟨some 106, .load 10 true (.t 10), none, [10]⟩,
  ⟨some 107, .call 79 [.t 103, .t 105, .t 106], none, []⟩,
  ⟨some 102, .mv (.t 107), none, []⟩,
  ⟨some 108, .ext (.t 102) 0, none, []⟩,
  ⟨some 109, .ext (.t 102) 1, none, []⟩,
  ⟨some 23, .mv (.t 108), none, []⟩,
  ⟨some 24, .mv (.t 109), none, []⟩] [9, 11, 12, 13, 14, 17, 18, 19, 24]
theorem r18_51 {C : Cs} {k : List Fr} {s : St} {Q : Post} : run C c18_51 k s Q = run C (.ops [⟨some 103, .load 6 true (.t 9), none, [9]⟩,
  ⟨some 104, .fad (.t 9) 1, none, [9]⟩,
  ⟨some 105, .load 1 false (.t 104), none, [9]⟩,
  ⟨some 106, .load 10 true (.t 10), none, [10]⟩,
  ⟨some 107, .call 79 [.t 103, .t 105, .t 106], none, []⟩,
  ⟨some 102, .mv (.t 107), none, []⟩,
  ⟨some 108, .ext (.t 102) 0, none, []⟩,
  ⟨some 109, .ext (.t 102) 1, none, []⟩,
  ⟨some 23, .mv (.t 108), none, []⟩,
  ⟨some 24, .mv (.t 109), none, []⟩] [9, 11, 12, 13, 14, 17, 18, 19, 24]) k s Q := rfl
def c18_52 : ACode := .ops [⟨some 110, .mv (.t 13), none, []⟩,
  ⟨some 111, .mv (.t 110), none, []⟩,
  ⟨some 112, .mv (.t 18), some (111, true), []⟩,
  ⟨some 113, .pick (.t 111) (.t 112) (.c (.bool false)), none, []⟩,
  ⟨some 114, .mv (.t 113), none, []⟩,
  ⟨some 115, .mv (.t 12), some (114, true), []⟩,
  ⟨some 116, .mv (.t 19), some (114, true), []⟩,
  ⟨some 117, .bin .leq (.t 115) (.t 116), some (114, true), []⟩,
  ⟨some 118, .pick (.t 114) (.t 117) (.c (.bool false)), none, []⟩,
  ⟨some 119, .mv (.t 118), none, []⟩,
  ⟨some 120, .mv (.t 17), some (119, true), []⟩,
  ⟨some 121, .mv (.t 19), some (119, true), []⟩,
  ⟨some 122, .bin .eql (.t 120) (.t 121), some (119, true), []⟩,
  ⟨some 123, .pick (.t 119) (.t 122) (.c (.bool false)), none, []⟩,
  ⟨some 124, .mv (.t 123), none, []⟩,
  ⟨some 125, .mv (.t 24), some (124, true), []⟩,
  ⟨some 126, .un .not (.t 125), some (124, true), []⟩,
  ⟨some 127, .pick (.t 124) (.t 126) (.c (.bool false)), none, []⟩,
  ⟨some 128, .mv (.t 127), none, []⟩,
  ⟨some 129, .mv (.t 19), some (128, true), []⟩,
  ⟨some 130, .bin .leq (.t 129) (.c (.int .i64 0)), some (128, true), []⟩,
  ⟨some 131, .mv (.t 130), some (128, true), []⟩,
  ⟨some 132, .load 6 true (.t 9), some (131, false), [9]⟩,
  ⟨some 133, .load 4 true (.t 14), some (131, false), [14]⟩,
  ⟨some 134, .call 78 [.t 132, .t 133], some (131, false), []⟩,
  ⟨some 135, .mv (.t 11), some (131, false), []⟩,
  ⟨some 136, .bin .eql (.t 134) (.t 135), some (131, false), []⟩,
  ⟨some 137, .pick (.t 131) (.c (.bool true)) (.t 136), some (128, true), []⟩,
  ⟨some 138, .pick (.t 128) (.t 137) (.c (.bool false)), none, []⟩,
  ⟨some 139, .mv (.t 138), none, []⟩,
  ⟨some 140, .call 3 [], some (139, true), []⟩,
  ⟨some 141, .pick (.t 139) (.t 140) (.c (.bool false)), none, []⟩,
  ⟨some 8, .mv (.t 141), none, []⟩] [8]
theorem r18_52 {C : Cs} {k : List Fr} {s : St} {Q : Post} : run C c18_52 k s Q = run C (.ops [⟨some 110, .mv (.t 13), none, []⟩,
  ⟨some 111, .mv (.t 110), none, []⟩,
  ⟨some 112, .mv (.t 18), some (111, true), []⟩,
  ⟨some 113, .pick (.t 111) (.t 112) (.c (.bool false)), none, []⟩,
  ⟨some 114, .mv (.t 113), none, []⟩,
  ⟨some 115, .mv (.t 12), some (114, true), []⟩,
  ⟨some 116, .mv (.t 19), some (114, true), []⟩,
  ⟨some 117, .bin .leq (.t 115) (.t 116), some (114, true), []⟩,
  ⟨some 118, .pick (.t 114) (.t 117) (.c (.bool false)), none, []⟩,
  ⟨some 119, .mv (.t 118), none, []⟩,
  ⟨some 120, .mv (.t 17), some (119, true), []⟩,
  ⟨some 121, .mv (.t 19), some (119, true), []⟩,
  ⟨some 122, .bin .eql (.t 120) (.t 121), some (119, true), []⟩,
  ⟨some 123, .pick (.t 119) (.t 122) (.c (.bool false)), none, []⟩,
  ⟨some 124, .mv (.t 123), none, []⟩,
  ⟨some 125, .mv (.t 24), some (124, true), []⟩,
  ⟨some 126, .un .not (.t 125), some (124, true), []⟩,
  ⟨some 127, .pick (.t 124) (.t 126) (.c (.bool false)), none, []⟩,
  ⟨some 128, .mv (.t 127), none, []⟩,
  ⟨some 129, .mv (.t 19), some (128, true), []⟩,
  ⟨some 130, .bin .leq (.t 129) (.c (.int .i64 0)), some (128, true), []⟩,
  ⟨some 131, .mv (.t 130), some (128, true), []⟩,
  ⟨some 132, .load 6 true (.t 9), some (131, false), [9]⟩,
  ⟨some 133, .load 4 true (.t 14), some (131, false), [14]⟩,
  ⟨some 134, .call 78 [.t 132, .t 133], some (131, false), []⟩,
  ⟨some 135, .mv (.t 11), some (131, false), []⟩,
  ⟨some 136, .bin .eql (.t 134) (.t 135), some (131, false), []⟩,
  ⟨some 137, .pick (.t 131) (.c (.bool true)) (.t 136), some (128, true), []⟩,
  ⟨some 138, .pick (.t 128) (.t 137) (.c (.bool false)), none, []⟩,
  ⟨some 139, .mv (.t 138), none, []⟩,
  ⟨some 140, .call 3 [], some (139, true), []⟩,
  ⟨some 141, .pick (.t 139) (.t 140) (.c (.bool false)), none, []⟩,
  ⟨some 8, .mv (.t 141), none, []⟩] [8]) k s Q := rfl
def c18_53 : ACode := .seq c18_52 .ret
theorem r18_53 {C : Cs} {k : List Fr} {s : St} {Q : Post} : run C c18_53 k s Q = run C (.seq c18_52 .ret) k s Q := rfl
def c18_54 : ACode := .seq c18_51 c18_53
theorem r18_54 {C : Cs} {k : List Fr} {s : St} {Q : Post} : run C c18_54 k s Q = run C (.seq c18_51 c18_53) k s Q := rfl
def c18_55 : ACode := .seq c18_50 c18_54
theorem r18_55 {C : Cs} {k : List Fr} {s : St} {Q : Post} : run C c18_55 k s Q = run C (.seq c18_50 c18_54) k s Q := rfl
def c18_56 : ACode := .seq c18_28 c18_55
theorem r18_56 {C : Cs} {k : List Fr} {s : St} {Q : Post} : run C c18_56 k s Q = run C (.seq c18_28 c18_55) k s Q := rfl
def c18_57 : ACode := .seq c18_27 c18_56
theorem r18_57 {C : Cs} {k : List Fr} {s : St} {Q : Post} : run C c18_57 k s Q = run C (.seq c18_27 c18_56) k s Q := rfl
def c18_58 : ACode := .seq c18_26 c18_57
theorem r18_58 {C : Cs} {k : List Fr} {s : St} {Q : Post} : run C c18_58 k s Q = run C (.seq c18_26 c18_57) k s Q := rfl
def c18_59 : ACode := .seq c18_11 c18_58
theorem r18_59 {C : Cs} {k : List Fr} {s : St} {Q : Post} : run C c18_59 k s Q = run C (.seq c18_11 c18_58) k s Q := rfl
def c18_60 : ACode := .seq c18_10 c18_59
theorem r18_60 {C : Cs} {k : List Fr} {s : St} {Q : Post} : run C c18_60 k s Q = run C (.seq c18_10 c18_59) k s Q := rfl
def c18_61 : ACode := .seq c18_9 c18_60
theorem r18_61 {C : Cs} {k : List Fr} {s : St} {Q : Post} : run C c18_61 k s Q = run C (.seq c18_9 c18_60) k s Q := rfl
def c18_62 : ACode := .seq c18_4 c18_61
theorem r18_62 {C : Cs} {k : List Fr} {s : St} {Q : Post} : run C c18_62 k s Q = run C (.seq c18_4 c18_61) k s Q := rfl
def c18_63 : ACode := .seq c18_3 c18_62
theorem r18_63 {C : Cs} {k : List Fr} {s : St} {Q : Post} : run C c18_63 k s Q = run C (.seq c18_3 c18_62) k s Q := rfl
def c18_64 : ACode := .seq c18_2 c18_63
theorem r18_64 {C : Cs} {k : List Fr} {s : St} {Q : Post} : run C c18_64 k s Q = run C (.seq c18_2 c18_63) k s Q := rfl
def c18_65 : ACode := .seq c18_1 c18_64
theorem r18_65 {C : Cs} {k : List Fr} {s : St} {Q : Post} : run C c18_65 k s Q = run C (.seq c18_1 c18_64) k s Q := rfl
def c18_66 : ACode := .seq c18_0 c18_65
theorem r18_66 {C : Cs} {k : List Fr} {s : St} {Q : Post} : run C c18_66 k s Q = run C (.seq c18_0 c18_65) k s Q := rfl
def a18 : AFun := ⟨4, 142, c18_66, [.t 8]⟩
attribute [simp] r18_0 r18_1 r18_2 r18_3 r18_4 r18_5 r18_6 r18_7 r18_8 r18_9 r18_10 r18_11 r18_12 r18_13 r18_14 r18_15 r18_16 r18_17 r18_18 r18_19 r18_20 r18_21 r18_22 r18_23 r18_24 r18_25 r18_26 r18_27 r18_28 r18_29 r18_30 r18_31 r18_32 r18_33 r18_34 r18_35 r18_36 r18_37 r18_38 r18_39 r18_40 r18_41 r18_42 r18_43 r18_44 r18_45 r18_46 r18_47 r18_48 r18_49 r18_50 r18_51 r18_52 r18_53 r18_54 r18_55 r18_56 r18_57 r18_58 r18_59 r18_60 r18_61 r18_62 r18_63 r18_64 r18_65 r18_66
theorem m18 : mFun Try.prog Try.f18 a18 = true := by decide +kernel

/- copse/copselaw14.BoundRuns -/
def c3_0 : ACode := .ops [⟨some 0, .mv (.c (.bool false)), none, []⟩] []
def c3_1 : ACode := .ops [⟨some 8, .call 43 [], none, []⟩,
  ⟨some 1, .alloc [.int .i64 0, .int .i64 0, .int .i64 0, .int .i64 0, .int .i64 0, .nils], none, []⟩,
  ⟨none, .store (.t 1) 6 (.t 8), none, [1]⟩] [1]
def c3_2 : ACode := .ops [⟨some 10, .load 6 true (.t 1), none, [1]⟩,
  ⟨some 11, .build [.int .i64 0, .int .i64 0] [(0, 1, .c (.int .i64 0)), (1, 1, .c (.int .i64 9))], none, []⟩,
  ⟨some 12, .build [.int .i64 0, .int .i64 0, .int .i64 0, .int .i64 0, .int .i64 0, .int .i64 0, .int .i64 0, .int .i64 0, .int .i64 0, .int .i64 0] [(0, 2, .t 11)], none, []⟩,
  ⟨some 13, .call 44 [.t 10, .c (.int .i64 0), .t 12], none, []⟩,
  ⟨some 9, .mv (.t 13), none, []⟩,
  ⟨some 14, .ext (.t 9) 0, none, []⟩,
  ⟨some 15, .ext (.t 9) 1, none, []⟩,
  ⟨some 16, .ext (.t 9) 2, none, []⟩,
  ⟨some 2, .mv (.t 14), none, []⟩,
  ⟨some 3, .mv (.t 15), none, []⟩,
  ⟨some 4, .mv (.t 16), none, []⟩] [1, 2, 3, 4]
def c3_3 : ACode := .ops [⟨some 18, .load 6 true (.t 1), none, [1]⟩,
  ⟨some 19, .build [.int .i64 0, .int .i64 0] [(0, 1, .c (.int .i64 6)), (1, 1, .c (.int .i64 9))], none, []⟩,
  ⟨some 20, .build [.int .i64 0, .int .i64 0, .int .i64 0, .int .i64 0, .int .i64 0, .int .i64 0, .int .i64 0, .int .i64 0, .int .i64 0, .int .i64 0] [(0, 2, .t 19)], none, []⟩,
  ⟨some 21, .call 44 [.t 18, .c (.int .i64 0), .t 20], none, []⟩,
  ⟨some 17, .mv (.t 21), none, []⟩,
  ⟨some 22, .ext (.t 17) 0, none, []⟩,
  ⟨some 23, .ext (.t 17) 1, none, []⟩,
  ⟨some 24, .ext (.t 17) 2, none, []⟩,
  ⟨some 5, .mv (.t 22), none, []⟩,
  ⟨some 6, .mv (.t 23), none, []⟩,
  ⟨some 7, .mv (.t 24), none, []⟩] [2, 3, 4, 5, 6, 7]
def c3_4 : ACode := .ops [⟨some 25, .mv (.t 2), none, []⟩,
  ⟨some 26, .bin .eql (.t 25) (.c (.int .i64 13)), none, []⟩,
  ⟨some 27, .mv (.t 26), none, []⟩,
  ⟨some 28, .mv (.t 3), some (27, true), []⟩,
  ⟨some 29, .bin .eql (.t 28) (.c (.int .i64 23)), some (27, true), []⟩,
  ⟨some 30, .pick (.t 27) (.t 29) (.c (.bool false)), none, []⟩,
  ⟨some 31, .mv (.t 30), none, []⟩,
  ⟨some 32, .mv (.t 4), some (31, true), []⟩,
  ⟨some 33, .pick (.t 31) (.t 32) (.c (.bool false)), none, []⟩,
  ⟨some 34, .mv (.t 33), none, []⟩,
  ⟨some 35, .mv (.t 5), some (34, true), []⟩,
  ⟨some 36, .bin .eql (.t 35) (.c (.int .i64 23)), some (34, true), []⟩,
  ⟨some 37, .pick (.t 34) (.t 36) (.c (.bool false)), none, []⟩,
  ⟨some 38, .mv (.t 37), none, []⟩,
  ⟨some 39, .mv (.t 6), some (38, true), []⟩,
  ⟨some 40, .bin .eql (.t 39) (.c (.int .i64 23)), some (38, true), []⟩,
  ⟨some 41, .pick (.t 38) (.t 40) (.c (.bool false)), none, []⟩,
  ⟨some 42, .mv (.t 41), none, []⟩,
  ⟨some 43, .mv (.t 7), some (42, true), []⟩,
  ⟨some 44, .pick (.t 42) (.t 43) (.c (.bool false)), none, []⟩,
  ⟨some 0, .mv (.t 44), none, []⟩] [0]
def c3_5 : ACode := .seq c3_4 .ret
def c3_6 : ACode := .seq c3_3 c3_5
def c3_7 : ACode := .seq c3_2 c3_6
def c3_8 : ACode := .seq c3_1 c3_7
def c3_9 : ACode := .seq c3_0 c3_8
def a3 : AFun := ⟨0, 45, c3_9, [.t 0]⟩
theorem m3 : mFun Try.prog Try.f3 a3 = true := by decide +kernel
/- copse/copsekeep.Three -/
def c43_0 : ACode := .ops [⟨some 0, .alloc [.int .i64 0, .int .i64 0, .int .i64 0, .int .i64 0, .int .i64 0, .nils], none, []⟩] [0]
def c43_1 : ACode := .ops [⟨some 2, .build [.bool false, .int .i64 0, .int .i64 0, .int .i64 0, .int .i64 0, .int .i64 0] [(3, 1, .c (.int .i64 5)), (4, 1, .c (.int .i64 1)), (5, 1, .c (.int .i64 2))], none, []⟩,
  ⟨some 3, .call 111 [.t 2], none, []⟩,
  ⟨some 4, .build [.bool false, .int .i64 0, .int .i64 0, .int .i64 0, .int .i64 0, .int .i64 0] [(0, 1, .c (.bool true)), (1, 1, .c (.int .i64 10))], none, []⟩,
  ⟨some 5, .call 111 [.t 4], none, []⟩,
  ⟨some 6, .build [.bool false, .int .i64 0, .int .i64 0, .int .i64 0, .int .i64 0, .int .i64 0] [(0, 1, .c (.bool true)), (1, 1, .c (.int .i64 20))], none, []⟩,
  ⟨some 7, .call 111 [.t 6], none, []⟩,
  ⟨some 8, .mkrow 1 3 1 [.int .u64 0] [(0, 1, .t 3), (1, 1, .t 5), (2, 1, .t 7)], none, []⟩,
  ⟨some 1, .mv (.t 8), none, []⟩] [0, 1]
def c43_2 : ACode := .ops [⟨some 9, .build [.int .i64 0, .int .i64 0, .int .i64 0] [(0, 1, .c (.int .i64 3))], none, []⟩,
  ⟨some 10, .mv (.t 1), none, []⟩,
  ⟨some 11, .build [.int .i64 0, .nils] [(1, 1, .t 10)], none, []⟩,
  ⟨some 12, .mkrow 12 1 2 [.int .i64 0, .nils] [(0, 2, .t 11)], none, []⟩,
  ⟨some 13, .build [.int .i64 0, .int .i64 0, .int .i64 0, .int .i64 0, .int .i64 0, .nils] [(0, 1, .c (.int .i64 1)), (1, 1, .c (.int .i64 1)), (2, 3, .t 9), (5, 1, .t 12)], none, []⟩,
  ⟨none, .store (.t 0) 6 (.t 13), none, [0]⟩] [0]
def c43_3 : ACode := .seq c43_2 .ret
def c43_4 : ACode := .seq c43_1 c43_3
def c43_5 : ACode := .seq c43_0 c43_4
def a43 : AFun := ⟨0, 14, c43_5, [.cell 0 6 true]⟩
theorem m43 : mFun Try.prog Try.f43 a43 = true := by decide +kernel
def texts3 : List (Nat × AFun) := [(3, a3), (43, a43), (44, a44), (48, a48), (51, a51), (67, a67), (68, a68), (71, a71), (76, a76), (77, a77), (111, a111), (119, a119), (120, a120), (121, a121), (123, a123), (124, a124), (125, a125), (128, a128), (129, a129), (130, a130), (131, a131), (156, a156), (158, a158), (159, a159), (160, a160), (161, a161), (162, a162), (163, a163), (164, a164), (165, a165), (176, a176)]
theorem texts3_good : Go.Am.Good Try.prog texts3 :=
  good_cons Try.func3 m3 <| good_cons Try.func43 m43 <| good_cons Try.func44 m44 <| good_cons Try.func48 m48 <| good_cons Try.func51 m51 <| good_cons Try.func67 m67 <| good_cons Try.func68 m68 <| good_cons Try.func71 m71 <| good_cons Try.func76 m76 <| good_cons Try.func77 m77 <| good_cons Try.func111 m111 <| good_cons Try.func119 m119 <| good_cons Try.func120 m120 <| good_cons Try.func121 m121 <| good_cons Try.func123 m123 <| good_cons Try.func124 m124 <| good_cons Try.func125 m125 <| good_cons Try.func128 m128 <| good_cons Try.func129 m129 <| good_cons Try.func130 m130 <| good_cons Try.func131 m131 <| good_cons Try.func156 m156 <| good_cons Try.func158 m158 <| good_cons Try.func159 m159 <| good_cons Try.func160 m160 <| good_cons Try.func161 m161 <| good_cons Try.func162 m162 <| good_cons Try.func163 m163 <| good_cons Try.func164 m164 <| good_cons Try.func165 m165 <| good_cons Try.func176 m176 <| good_nil
theorem c_closed3 : Contract Try.prog 3 (sp0 (some true)) := contract_closed mixed texts3_good (m := 1000) (n := 60) (by decide +kernel)


theorem marD_le {m : Model} (hm : RM m) {b : Box} {p : Point} {t : Int} (hp : InB b p t) (c o : Int) : marD m c b o ≤ evalM m c p - evalM m o p := by
  have h1 := bound_sound hm c hp
  have h2 := bound_sound hm o hp
  unfold marD
  omega
theorem marD_one {m : Model} (hm : RM m) (p : Point) (c o : Int) : marD m c (oneB p) o = evalM m c p - evalM m o p := by
  unfold marD
  rw [bound_one hm c (one_in p) (fun q t h => one_only p q t h), bound_one hm o (one_in p) (fun q t h => one_only p q t h)]
theorem margin_le {m : Model} (hm : RM m) {b : Box} {p : Point} {t : Int} (hp : InB b p t) (c : Int) : margin m c b ≤ margin m c (oneB p) := by
  have h1 := marD_le hm hp c (other1 c)
  have h2 := marD_le hm hp c (other2 c)
  unfold margin min2
  rw [marD_one hm, marD_one hm]
  split
  · exact h1
  · split <;> split <;> omega

set_option maxHeartbeats 8000000 in
set_option maxRecDepth 100000 in
theorem runs_law (f : Forest) (l l2 : List Int) (class_ : Int) (c : Bool) (h : some true = some c) : Runs (tbl [(45, sp1 ModelC), (46, sp2 RegionC), (63, sp3 Within), (79, sp3 MarginC), (66, sp2 InsideC), (69, sp3 Eval), (78, sp2 BestC), (3, sp0 (some true))]) a18 [Arg.enc f, Arg.enc l, Arg.enc l2, Arg.enc class_] (Arg.enc c) := by
  cases h
  refine ⟨rfl, fun g => run_def ?_⟩
  unfold a18
  have hm := rm_modelOf f
  have hM : ModelC f = some (modelOf f) := rfl
  generalize modelOf f = m at *
  have hR : RegionC m l = some (regionOf m.dim l) := part_of hm.dim _
  obtain ⟨hb, he, hsm⟩ := okB_region m.dim l
  generalize regionOf m.dim l = b at *
  have hcl := hm.classes
  have wd : IntKind.i64.wrap (m.classes - 1) = m.classes - 1 := wrap64 (by omega) (by omega)
  have hW := within_of class_ 0 (m.classes - 1) (by omega)
  have hw := within_le class_ 0 (m.classes - 1) (by omega)
  generalize within class_ 0 (m.classes - 1) = k at *
  by_cases h1 : m.classes < 2
  case pos =>
    have hN : MarginC m k b = some (0, false) := by unfold MarginC; rw [part_of ⟨hm, hb⟩, if_pos (Or.inr (Or.inr (Or.inl h1)))]
    simp -implicitDefEqProofs [hM, hR, wd, hW, hN, h1]
  have hI : InsideC b l2 = some (insideOf b l2) := part_of hsm _
  have hin := inside_in he l2
  have hps : okB (oneB (insideOf b l2)) := by
    have i0 := ins_small hsm.1 l2 0
    have i1 := ins_small hsm.2.1 l2 1
    have i2 := ins_small hsm.2.2.1 l2 2
    have i3 := ins_small hsm.2.2.2 l2 3
    unfold okB okS64 ok64 oneB insideOf
    simp only
    omega
  generalize insideOf b l2 = p at *
  have hN : MarginC m k b = some (margin m k b, true) := by unfold MarginC; rw [part_of ⟨hm, hb⟩, if_neg (by simp [he]; omega)]
  have hN2 : MarginC m k (oneB p) = some (margin m k (oneB p), true) := by unfold MarginC; rw [part_of ⟨hm, hps⟩, if_neg (by simp [one_empty]; omega)]
  have hN3 : MarginC m m.classes b = some (0, false) := by unfold MarginC; rw [part_of ⟨hm, hb⟩, if_pos (Or.inr (Or.inl (Int.le_refl _)))]
  have hle := margin_le hm hin k
  have hB : BestC m p = some (bestM m p) := part_of hm _
  have hKd : margin m k (oneB p) = if m.classes = 2 then evalM m k p - evalM m (other1 k) p else min2 (evalM m k p - evalM m (other1 k) p) (evalM m k p - evalM m (other2 k) p) := by
    unfold margin
    rw [marD_one hm, marD_one hm]
  obtain ⟨B, hBd⟩ : ∃ B, B = bestM m p := ⟨_, rfl⟩
  rw [← hBd] at hB
  unfold bestM at hBd
  generalize margin m k (oneB p) = K at *
  generalize margin m k b = N at *
  have hE0 : Eval m 0 p = some (evalM m 0 p) := eval_of hm (by omega) (by omega) p
  have hE1 : Eval m 1 p = some (evalM m 1 p) := eval_of hm (by omega) (by omega) p
  have hE2 : m.classes = 3 → Eval m 2 p = some (evalM m 2 p) := fun h => eval_of hm (by omega) (by omega) p
  have g0 := evalM_le hm 0 p
  have g1 := evalM_le hm 1 p
  have g2 := evalM_le hm 2 p
  have hks : k = 0 ∨ k = 1 ∨ k = 2 := by omega
  have hev : ∀ x : Int, (x = 0 ∨ x = 1 ∨ x = 2) → True := fun _ _ => trivial
  obtain ⟨dim, classes, bias, trees⟩ := m
  simp only at hcl h1 hE2 hw hKd hBd wd hW hN3
  have hcs : (classes = 2 ∧ k = 0) ∨ (classes = 2 ∧ k = 1) ∨ (classes = 3 ∧ k = 0) ∨ (classes = 3 ∧ k = 1) ∨ (classes = 3 ∧ k = 2) := by omega
  rcases hcs with ⟨rfl, rfl⟩ | ⟨rfl, rfl⟩ | ⟨rfl, rfl⟩ | ⟨rfl, rfl⟩ | ⟨rfl, rfl⟩
  · skip
    have hW : Within class_ 0 1 = some 0 := hW
    simp only [other1, other2, Int.reduceEq, if_true, if_false, reduceIte] at hKd hBd
    generalize evalM (⟨dim, 2, bias, trees⟩ : Model) 0 p = e0 at *
    generalize evalM (⟨dim, 2, bias, trees⟩ : Model) 1 p = e1 at *
    have w0 : IntKind.i64.wrap (e0 - e1) = e0 - e1 := wrap64 (by omega) (by omega)
    have hK : e0 - e1 = K := hKd.symm
    have wK : IntKind.i64.wrap K = K := by rw [← hK]; exact w0
    by_cases k0 : K ≤ 0
    · skip
      unfold oneB at hN2
      simp -implicitDefEqProofs [hM, hR, wd, hW, hN, hI, hN2, hN3, hB, hE0, hE1, w0, hK, wK, hle, k0]
      rw [run_round]
      simp -implicitDefEqProofs [hM, hR, wd, hW, hN, hI, hN2, hN3, hB, hE0, hE1, w0, hK, wK, hle, k0]
      rw [run_round]
      simp -implicitDefEqProofs [hM, hR, wd, hW, hN, hI, hN2, hN3, hB, hE0, hE1, w0, hK, wK, hle, k0]
      rw [run_round]
      simp -implicitDefEqProofs [hM, hR, wd, hW, hN, hI, hN2, hN3, hB, hE0, hE1, w0, hK, wK, hle, k0]
      rw [run_round]
      simp -implicitDefEqProofs [hM, hR, wd, hW, hN, hI, hN2, hN3, hB, hE0, hE1, w0, hK, wK, hle, k0]
      rw [run_round]
      simp -implicitDefEqProofs [hM, hR, wd, hW, hN, hI, hN2, hN3, hB, hE0, hE1, w0, hK, wK, hle, k0]
      rw [run_round]
      simp -implicitDefEqProofs [hM, hR, wd, hW, hN, hI, hN2, hN3, hB, hE0, hE1, w0, hK, wK, hle, k0]
      rw [run_round]
      simp -implicitDefEqProofs [hM, hR, wd, hW, hN, hI, hN2, hN3, hB, hE0, hE1, w0, hK, wK, hle, k0]
      rw [run_round]
      simp -implicitDefEqProofs [hM, hR, wd, hW, hN, hI, hN2, hN3, hB, hE0, hE1, w0, hK, wK, hle, k0]
    · have hBc : B = 0 := by rw [hBd]; split <;> omega
      unfold oneB at hN2
      simp -implicitDefEqProofs [hM, hR, wd, hW, hN, hI, hN2, hN3, hB, hE0, hE1, w0, hK, wK, hle, k0, hBc]
      rw [run_round]
      simp -implicitDefEqProofs [hM, hR, wd, hW, hN, hI, hN2, hN3, hB, hE0, hE1, w0, hK, wK, hle, k0, hBc]
      rw [run_round]
      simp -implicitDefEqProofs [hM, hR, wd, hW, hN, hI, hN2, hN3, hB, hE0, hE1, w0, hK, wK, hle, k0, hBc]
      rw [run_round]
      simp -implicitDefEqProofs [hM, hR, wd, hW, hN, hI, hN2, hN3, hB, hE0, hE1, w0, hK, wK, hle, k0, hBc]
      rw [run_round]
      simp -implicitDefEqProofs [hM, hR, wd, hW, hN, hI, hN2, hN3, hB, hE0, hE1, w0, hK, wK, hle, k0, hBc]
      rw [run_round]
      simp -implicitDefEqProofs [hM, hR, wd, hW, hN, hI, hN2, hN3, hB, hE0, hE1, w0, hK, wK, hle, k0, hBc]
      rw [run_round]
      simp -implicitDefEqProofs [hM, hR, wd, hW, hN, hI, hN2, hN3, hB, hE0, hE1, w0, hK, wK, hle, k0, hBc]
      rw [run_round]
      simp -implicitDefEqProofs [hM, hR, wd, hW, hN, hI, hN2, hN3, hB, hE0, hE1, w0, hK, wK, hle, k0, hBc]
      rw [run_round]
      simp -implicitDefEqProofs [hM, hR, wd, hW, hN, hI, hN2, hN3, hB, hE0, hE1, w0, hK, wK, hle, k0, hBc]
  · skip
    have hW : Within class_ 0 1 = some 1 := hW
    simp only [other1, other2, Int.reduceEq, if_true, if_false, reduceIte] at hKd hBd
    generalize evalM (⟨dim, 2, bias, trees⟩ : Model) 0 p = e0 at *
    generalize evalM (⟨dim, 2, bias, trees⟩ : Model) 1 p = e1 at *
    have w0 : IntKind.i64.wrap (e1 - e0) = e1 - e0 := wrap64 (by omega) (by omega)
    have hK : e1 - e0 = K := hKd.symm
    have wK : IntKind.i64.wrap K = K := by rw [← hK]; exact w0
    by_cases k0 : K ≤ 0
    · skip
      unfold oneB at hN2
      simp -implicitDefEqProofs [hM, hR, wd, hW, hN, hI, hN2, hN3, hB, hE0, hE1, w0, hK, wK, hle, k0]
      rw [run_round]
      simp -implicitDefEqProofs [hM, hR, wd, hW, hN, hI, hN2, hN3, hB, hE0, hE1, w0, hK, wK, hle, k0]
      rw [run_round]
      simp -implicitDefEqProofs [hM, hR, wd, hW, hN, hI, hN2, hN3, hB, hE0, hE1, w0, hK, wK, hle, k0]
      rw [run_round]
      simp -implicitDefEqProofs [hM, hR, wd, hW, hN, hI, hN2, hN3, hB, hE0, hE1, w0, hK, wK, hle, k0]
      rw [run_round]
      simp -implicitDefEqProofs [hM, hR, wd, hW, hN, hI, hN2, hN3, hB, hE0, hE1, w0, hK, wK, hle, k0]
      rw [run_round]
      simp -implicitDefEqProofs [hM, hR, wd, hW, hN, hI, hN2, hN3, hB, hE0, hE1, w0, hK, wK, hle, k0]
      rw [run_round]
      simp -implicitDefEqProofs [hM, hR, wd, hW, hN, hI, hN2, hN3, hB, hE0, hE1, w0, hK, wK, hle, k0]
      rw [run_round]
      simp -implicitDefEqProofs [hM, hR, wd, hW, hN, hI, hN2, hN3, hB, hE0, hE1, w0, hK, wK, hle, k0]
      rw [run_round]
      simp -implicitDefEqProofs [hM, hR, wd, hW, hN, hI, hN2, hN3, hB, hE0, hE1, w0, hK, wK, hle, k0]
    · have hBc : B = 1 := by rw [hBd]; split <;> omega
      unfold oneB at hN2
      simp -implicitDefEqProofs [hM, hR, wd, hW, hN, hI, hN2, hN3, hB, hE0, hE1, w0, hK, wK, hle, k0, hBc]
      rw [run_round]
      simp -implicitDefEqProofs [hM, hR, wd, hW, hN, hI, hN2, hN3, hB, hE0, hE1, w0, hK, wK, hle, k0, hBc]
      rw [run_round]
      simp -implicitDefEqProofs [hM, hR, wd, hW, hN, hI, hN2, hN3, hB, hE0, hE1, w0, hK, wK, hle, k0, hBc]
      rw [run_round]
      simp -implicitDefEqProofs [hM, hR, wd, hW, hN, hI, hN2, hN3, hB, hE0, hE1, w0, hK, wK, hle, k0, hBc]
      rw [run_round]
      simp -implicitDefEqProofs [hM, hR, wd, hW, hN, hI, hN2, hN3, hB, hE0, hE1, w0, hK, wK, hle, k0, hBc]
      rw [run_round]
      simp -implicitDefEqProofs [hM, hR, wd, hW, hN, hI, hN2, hN3, hB, hE0, hE1, w0, hK, wK, hle, k0, hBc]
      rw [run_round]
      simp -implicitDefEqProofs [hM, hR, wd, hW, hN, hI, hN2, hN3, hB, hE0, hE1, w0, hK, wK, hle, k0, hBc]
      rw [run_round]
      simp -implicitDefEqProofs [hM, hR, wd, hW, hN, hI, hN2, hN3, hB, hE0, hE1, w0, hK, wK, hle, k0, hBc]
      rw [run_round]
      simp -implicitDefEqProofs [hM, hR, wd, hW, hN, hI, hN2, hN3, hB, hE0, hE1, w0, hK, wK, hle, k0, hBc]
  · skip
    have hW : Within class_ 0 2 = some 0 := hW
    simp only [other1, other2, Int.reduceEq, if_true, if_false, reduceIte] at hKd hBd
    have hE2 := hE2 rfl
    generalize evalM (⟨dim, 3, bias, trees⟩ : Model) 0 p = e0 at *
    generalize evalM (⟨dim, 3, bias, trees⟩ : Model) 1 p = e1 at *
    generalize evalM (⟨dim, 3, bias, trees⟩ : Model) 2 p = e2 at *
    have w0 : IntKind.i64.wrap (e0 - e1) = e0 - e1 := wrap64 (by omega) (by omega)
    have w1 : IntKind.i64.wrap (e0 - e2) = e0 - e2 := wrap64 (by omega) (by omega)
    by_cases d0 : e0 - e2 < e0 - e1
    · have hK : e0 - e2 = K := by rw [hKd, min2, if_pos d0]
      have wK : IntKind.i64.wrap K = K := by rw [← hK]; exact w1
      have d0 :  e0 - e2 < e0 - e1 := d0
      rw [hK] at d0
      by_cases k0 : K ≤ 0
      · skip
        unfold oneB at hN2
        simp -implicitDefEqProofs [hM, hR, wd, hW, hN, hI, hN2, hN3, hB, hE0, hE1, hE2, w0, w1, hK, wK, hle, k0, d0]
        rw [run_round]
        simp -implicitDefEqProofs [hM, hR, wd, hW, hN, hI, hN2, hN3, hB, hE0, hE1, hE2, w0, w1, hK, wK, hle, k0, d0]
        rw [run_round]
        simp -implicitDefEqProofs [hM, hR, wd, hW, hN, hI, hN2, hN3, hB, hE0, hE1, hE2, w0, w1, hK, wK, hle, k0, d0]
        rw [run_round]
        simp -implicitDefEqProofs [hM, hR, wd, hW, hN, hI, hN2, hN3, hB, hE0, hE1, hE2, w0, w1, hK, wK, hle, k0, d0]
        rw [run_round]
        simp -implicitDefEqProofs [hM, hR, wd, hW, hN, hI, hN2, hN3, hB, hE0, hE1, hE2, w0, w1, hK, wK, hle, k0, d0]
        rw [run_round]
        simp -implicitDefEqProofs [hM, hR, wd, hW, hN, hI, hN2, hN3, hB, hE0, hE1, hE2, w0, w1, hK, wK, hle, k0, d0]
        rw [run_round]
        simp -implicitDefEqProofs [hM, hR, wd, hW, hN, hI, hN2, hN3, hB, hE0, hE1, hE2, w0, w1, hK, wK, hle, k0, d0]
        rw [run_round]
        simp -implicitDefEqProofs [hM, hR, wd, hW, hN, hI, hN2, hN3, hB, hE0, hE1, hE2, w0, w1, hK, wK, hle, k0, d0]
        rw [run_round]
        simp -implicitDefEqProofs [hM, hR, wd, hW, hN, hI, hN2, hN3, hB, hE0, hE1, hE2, w0, w1, hK, wK, hle, k0, d0]
        rw [run_round]
        simp -implicitDefEqProofs [hM, hR, wd, hW, hN, hI, hN2, hN3, hB, hE0, hE1, hE2, w0, w1, hK, wK, hle, k0, d0]
      · have hBc : B = 0 := by rw [hBd]; split <;> split <;> omega
        unfold oneB at hN2
        simp -implicitDefEqProofs [hM, hR, wd, hW, hN, hI, hN2, hN3, hB, hE0, hE1, hE2, w0, w1, hK, wK, hle, k0, d0, hBc]
        rw [run_round]
        simp -implicitDefEqProofs [hM, hR, wd, hW, hN, hI, hN2, hN3, hB, hE0, hE1, hE2, w0, w1, hK, wK, hle, k0, d0, hBc]
        rw [run_round]
        simp -implicitDefEqProofs [hM, hR, wd, hW, hN, hI, hN2, hN3, hB, hE0, hE1, hE2, w0, w1, hK, wK, hle, k0, d0, hBc]
        rw [run_round]
        simp -implicitDefEqProofs [hM, hR, wd, hW, hN, hI, hN2, hN3, hB, hE0, hE1, hE2, w0, w1, hK, wK, hle, k0, d0, hBc]
        rw [run_round]
        simp -implicitDefEqProofs [hM, hR, wd, hW, hN, hI, hN2, hN3, hB, hE0, hE1, hE2, w0, w1, hK, wK, hle, k0, d0, hBc]
        rw [run_round]
        simp -implicitDefEqProofs [hM, hR, wd, hW, hN, hI, hN2, hN3, hB, hE0, hE1, hE2, w0, w1, hK, wK, hle, k0, d0, hBc]
        rw [run_round]
        simp -implicitDefEqProofs [hM, hR, wd, hW, hN, hI, hN2, hN3, hB, hE0, hE1, hE2, w0, w1, hK, wK, hle, k0, d0, hBc]
        rw [run_round]
        simp -implicitDefEqProofs [hM, hR, wd, hW, hN, hI, hN2, hN3, hB, hE0, hE1, hE2, w0, w1, hK, wK, hle, k0, d0, hBc]
        rw [run_round]
        simp -implicitDefEqProofs [hM, hR, wd, hW, hN, hI, hN2, hN3, hB, hE0, hE1, hE2, w0, w1, hK, wK, hle, k0, d0, hBc]
        rw [run_round]
        simp -implicitDefEqProofs [hM, hR, wd, hW, hN, hI, hN2, hN3, hB, hE0, hE1, hE2, w0, w1, hK, wK, hle, k0, d0, hBc]
    · have hK : e0 - e1 = K := by rw [hKd, min2, if_neg d0]
      have wK : IntKind.i64.wrap K = K := by rw [← hK]; exact w0
      have d0 : ¬ e0 - e2 < e0 - e1 := d0
      rw [hK] at d0
      by_cases k0 : K ≤ 0
      · skip
        unfold oneB at hN2
        simp -implicitDefEqProofs [hM, hR, wd, hW, hN, hI, hN2, hN3, hB, hE0, hE1, hE2, w0, w1, hK, wK, hle, k0, d0]
        rw [run_round]
        simp -implicitDefEqProofs [hM, hR, wd, hW, hN, hI, hN2, hN3, hB, hE0, hE1, hE2, w0, w1, hK, wK, hle, k0, d0]
        rw [run_round]
        simp -implicitDefEqProofs [hM, hR, wd, hW, hN, hI, hN2, hN3, hB, hE0, hE1, hE2, w0, w1, hK, wK, hle, k0, d0]
        rw [run_round]
        simp -implicitDefEqProofs [hM, hR, wd, hW, hN, hI, hN2, hN3, hB, hE0, hE1, hE2, w0, w1, hK, wK, hle, k0, d0]
        rw [run_round]
        simp -implicitDefEqProofs [hM, hR, wd, hW, hN, hI, hN2, hN3, hB, hE0, hE1, hE2, w0, w1, hK, wK, hle, k0, d0]
        rw [run_round]
        simp -implicitDefEqProofs [hM, hR, wd, hW, hN, hI, hN2, hN3, hB, hE0, hE1, hE2, w0, w1, hK, wK, hle, k0, d0]
        rw [run_round]
        simp -implicitDefEqProofs [hM, hR, wd, hW, hN, hI, hN2, hN3, hB, hE0, hE1, hE2, w0, w1, hK, wK, hle, k0, d0]
        rw [run_round]
        simp -implicitDefEqProofs [hM, hR, wd, hW, hN, hI, hN2, hN3, hB, hE0, hE1, hE2, w0, w1, hK, wK, hle, k0, d0]
        rw [run_round]
        simp -implicitDefEqProofs [hM, hR, wd, hW, hN, hI, hN2, hN3, hB, hE0, hE1, hE2, w0, w1, hK, wK, hle, k0, d0]
        rw [run_round]
        simp -implicitDefEqProofs [hM, hR, wd, hW, hN, hI, hN2, hN3, hB, hE0, hE1, hE2, w0, w1, hK, wK, hle, k0, d0]
      · have hBc : B = 0 := by rw [hBd]; split <;> split <;> omega
        unfold oneB at hN2
        simp -implicitDefEqProofs [hM, hR, wd, hW, hN, hI, hN2, hN3, hB, hE0, hE1, hE2, w0, w1, hK, wK, hle, k0, d0, hBc]
        rw [run_round]
        simp -implicitDefEqProofs [hM, hR, wd, hW, hN, hI, hN2, hN3, hB, hE0, hE1, hE2, w0, w1, hK, wK, hle, k0, d0, hBc]
        rw [run_round]
        simp -implicitDefEqProofs [hM, hR, wd, hW, hN, hI, hN2, hN3, hB, hE0, hE1, hE2, w0, w1, hK, wK, hle, k0, d0, hBc]
        rw [run_round]
        simp -implicitDefEqProofs [hM, hR, wd, hW, hN, hI, hN2, hN3, hB, hE0, hE1, hE2, w0, w1, hK, wK, hle, k0, d0, hBc]
        rw [run_round]
        simp -implicitDefEqProofs [hM, hR, wd, hW, hN, hI, hN2, hN3, hB, hE0, hE1, hE2, w0, w1, hK, wK, hle, k0, d0, hBc]
        rw [run_round]
        simp -implicitDefEqProofs [hM, hR, wd, hW, hN, hI, hN2, hN3, hB, hE0, hE1, hE2, w0, w1, hK, wK, hle, k0, d0, hBc]
        rw [run_round]
        simp -implicitDefEqProofs [hM, hR, wd, hW, hN, hI, hN2, hN3, hB, hE0, hE1, hE2, w0, w1, hK, wK, hle, k0, d0, hBc]
        rw [run_round]
        simp -implicitDefEqProofs [hM, hR, wd, hW, hN, hI, hN2, hN3, hB, hE0, hE1, hE2, w0, w1, hK, wK, hle, k0, d0, hBc]
        rw [run_round]
        simp -implicitDefEqProofs [hM, hR, wd, hW, hN, hI, hN2, hN3, hB, hE0, hE1, hE2, w0, w1, hK, wK, hle, k0, d0, hBc]
        rw [run_round]
        simp -implicitDefEqProofs [hM, hR, wd, hW, hN, hI, hN2, hN3, hB, hE0, hE1, hE2, w0, w1, hK, wK, hle, k0, d0, hBc]
  · skip
    have hW : Within class_ 0 2 = some 1 := hW
    simp only [other1, other2, Int.reduceEq, if_true, if_false, reduceIte] at hKd hBd
    have hE2 := hE2 rfl
    generalize evalM (⟨dim, 3, bias, trees⟩ : Model) 0 p = e0 at *
    generalize evalM (⟨dim, 3, bias, trees⟩ : Model) 1 p = e1 at *
    generalize evalM (⟨dim, 3, bias, trees⟩ : Model) 2 p = e2 at *
    have w0 : IntKind.i64.wrap (e1 - e0) = e1 - e0 := wrap64 (by omega) (by omega)
    have w1 : IntKind.i64.wrap (e1 - e2) = e1 - e2 := wrap64 (by omega) (by omega)
    by_cases d0 : e1 - e2 < e1 - e0
    · have hK : e1 - e2 = K := by rw [hKd, min2, if_pos d0]
      have wK : IntKind.i64.wrap K = K := by rw [← hK]; exact w1
      have d0 :  e1 - e2 < e1 - e0 := d0
      rw [hK] at d0
      by_cases k0 : K ≤ 0
      · skip
        unfold oneB at hN2
        simp -implicitDefEqProofs [hM, hR, wd, hW, hN, hI, hN2, hN3, hB, hE0, hE1, hE2, w0, w1, hK, wK, hle, k0, d0]
        rw [run_round]
        simp -implicitDefEqProofs [hM, hR, wd, hW, hN, hI, hN2, hN3, hB, hE0, hE1, hE2, w0, w1, hK, wK, hle, k0, d0]
        rw [run_round]
        simp -implicitDefEqProofs [hM, hR, wd, hW, hN, hI, hN2, hN3, hB, hE0, hE1, hE2, w0, w1, hK, wK, hle, k0, d0]
        rw [run_round]
        simp -implicitDefEqProofs [hM, hR, wd, hW, hN, hI, hN2, hN3, hB, hE0, hE1, hE2, w0, w1, hK, wK, hle, k0, d0]
        rw [run_round]
        simp -implicitDefEqProofs [hM, hR, wd, hW, hN, hI, hN2, hN3, hB, hE0, hE1, hE2, w0, w1, hK, wK, hle, k0, d0]
        rw [run_round]
        simp -implicitDefEqProofs [hM, hR, wd, hW, hN, hI, hN2, hN3, hB, hE0, hE1, hE2, w0, w1, hK, wK, hle, k0, d0]
        rw [run_round]
        simp -implicitDefEqProofs [hM, hR, wd, hW, hN, hI, hN2, hN3, hB, hE0, hE1, hE2, w0, w1, hK, wK, hle, k0, d0]
        rw [run_round]
        simp -implicitDefEqProofs [hM, hR, wd, hW, hN, hI, hN2, hN3, hB, hE0, hE1, hE2, w0, w1, hK, wK, hle, k0, d0]
        rw [run_round]
        simp -implicitDefEqProofs [hM, hR, wd, hW, hN, hI, hN2, hN3, hB, hE0, hE1, hE2, w0, w1, hK, wK, hle, k0, d0]
        rw [run_round]
        simp -implicitDefEqProofs [hM, hR, wd, hW, hN, hI, hN2, hN3, hB, hE0, hE1, hE2, w0, w1, hK, wK, hle, k0, d0]
      · have hBc : B = 1 := by rw [hBd]; split <;> split <;> omega
        unfold oneB at hN2
        simp -implicitDefEqProofs [hM, hR, wd, hW, hN, hI, hN2, hN3, hB, hE0, hE1, hE2, w0, w1, hK, wK, hle, k0, d0, hBc]
        rw [run_round]
        simp -implicitDefEqProofs [hM, hR, wd, hW, hN, hI, hN2, hN3, hB, hE0, hE1, hE2, w0, w1, hK, wK, hle, k0, d0, hBc]
        rw [run_round]
        simp -implicitDefEqProofs [hM, hR, wd, hW, hN, hI, hN2, hN3, hB, hE0, hE1, hE2, w0, w1, hK, wK, hle, k0, d0, hBc]
        rw [run_round]
        simp -implicitDefEqProofs [hM, hR, wd, hW, hN, hI, hN2, hN3, hB, hE0, hE1, hE2, w0, w1, hK, wK, hle, k0, d0, hBc]
        rw [run_round]
        simp -implicitDefEqProofs [hM, hR, wd, hW, hN, hI, hN2, hN3, hB, hE0, hE1, hE2, w0, w1, hK, wK, hle, k0, d0, hBc]
        rw [run_round]
        simp -implicitDefEqProofs [hM, hR, wd, hW, hN, hI, hN2, hN3, hB, hE0, hE1, hE2, w0, w1, hK, wK, hle, k0, d0, hBc]
        rw [run_round]
        simp -implicitDefEqProofs [hM, hR, wd, hW, hN, hI, hN2, hN3, hB, hE0, hE1, hE2, w0, w1, hK, wK, hle, k0, d0, hBc]
        rw [run_round]
        simp -implicitDefEqProofs [hM, hR, wd, hW, hN, hI, hN2, hN3, hB, hE0, hE1, hE2, w0, w1, hK, wK, hle, k0, d0, hBc]
        rw [run_round]
        simp -implicitDefEqProofs [hM, hR, wd, hW, hN, hI, hN2, hN3, hB, hE0, hE1, hE2, w0, w1, hK, wK, hle, k0, d0, hBc]
        rw [run_round]
        simp -implicitDefEqProofs [hM, hR, wd, hW, hN, hI, hN2, hN3, hB, hE0, hE1, hE2, w0, w1, hK, wK, hle, k0, d0, hBc]
    · have hK : e1 - e0 = K := by rw [hKd, min2, if_neg d0]
      have wK : IntKind.i64.wrap K = K := by rw [← hK]; exact w0
      have d0 : ¬ e1 - e2 < e1 - e0 := d0
      rw [hK] at d0
      by_cases k0 : K ≤ 0
      · skip
        unfold oneB at hN2
        simp -implicitDefEqProofs [hM, hR, wd, hW, hN, hI, hN2, hN3, hB, hE0, hE1, hE2, w0, w1, hK, wK, hle, k0, d0]
        rw [run_round]
        simp -implicitDefEqProofs [hM, hR, wd, hW, hN, hI, hN2, hN3, hB, hE0, hE1, hE2, w0, w1, hK, wK, hle, k0, d0]
        rw [run_round]
        simp -implicitDefEqProofs [hM, hR, wd, hW, hN, hI, hN2, hN3, hB, hE0, hE1, hE2, w0, w1, hK, wK, hle, k0, d0]
        rw [run_round]
        simp -implicitDefEqProofs [hM, hR, wd, hW, hN, hI, hN2, hN3, hB, hE0, hE1, hE2, w0, w1, hK, wK, hle, k0, d0]
        rw [run_round]
        simp -implicitDefEqProofs [hM, hR, wd, hW, hN, hI, hN2, hN3, hB, hE0, hE1, hE2, w0, w1, hK, wK, hle, k0, d0]
        rw [run_round]
        simp -implicitDefEqProofs [hM, hR, wd, hW, hN, hI, hN2, hN3, hB, hE0, hE1, hE2, w0, w1, hK, wK, hle, k0, d0]
        rw [run_round]
        simp -implicitDefEqProofs [hM, hR, wd, hW, hN, hI, hN2, hN3, hB, hE0, hE1, hE2, w0, w1, hK, wK, hle, k0, d0]
        rw [run_round]
        simp -implicitDefEqProofs [hM, hR, wd, hW, hN, hI, hN2, hN3, hB, hE0, hE1, hE2, w0, w1, hK, wK, hle, k0, d0]
        rw [run_round]
        simp -implicitDefEqProofs [hM, hR, wd, hW, hN, hI, hN2, hN3, hB, hE0, hE1, hE2, w0, w1, hK, wK, hle, k0, d0]
        rw [run_round]
        simp -implicitDefEqProofs [hM, hR, wd, hW, hN, hI, hN2, hN3, hB, hE0, hE1, hE2, w0, w1, hK, wK, hle, k0, d0]
      · have hBc : B = 1 := by rw [hBd]; split <;> split <;> omega
        unfold oneB at hN2
        simp -implicitDefEqProofs [hM, hR, wd, hW, hN, hI, hN2, hN3, hB, hE0, hE1, hE2, w0, w1, hK, wK, hle, k0, d0, hBc]
        rw [run_round]
        simp -implicitDefEqProofs [hM, hR, wd, hW, hN, hI, hN2, hN3, hB, hE0, hE1, hE2, w0, w1, hK, wK, hle, k0, d0, hBc]
        rw [run_round]
        simp -implicitDefEqProofs [hM, hR, wd, hW, hN, hI, hN2, hN3, hB, hE0, hE1, hE2, w0, w1, hK, wK, hle, k0, d0, hBc]
        rw [run_round]
        simp -implicitDefEqProofs [hM, hR, wd, hW, hN, hI, hN2, hN3, hB, hE0, hE1, hE2, w0, w1, hK, wK, hle, k0, d0, hBc]
        rw [run_round]
        simp -implicitDefEqProofs [hM, hR, wd, hW, hN, hI, hN2, hN3, hB, hE0, hE1, hE2, w0, w1, hK, wK, hle, k0, d0, hBc]
        rw [run_round]
        simp -implicitDefEqProofs [hM, hR, wd, hW, hN, hI, hN2, hN3, hB, hE0, hE1, hE2, w0, w1, hK, wK, hle, k0, d0, hBc]
        rw [run_round]
        simp -implicitDefEqProofs [hM, hR, wd, hW, hN, hI, hN2, hN3, hB, hE0, hE1, hE2, w0, w1, hK, wK, hle, k0, d0, hBc]
        rw [run_round]
        simp -implicitDefEqProofs [hM, hR, wd, hW, hN, hI, hN2, hN3, hB, hE0, hE1, hE2, w0, w1, hK, wK, hle, k0, d0, hBc]
        rw [run_round]
        simp -implicitDefEqProofs [hM, hR, wd, hW, hN, hI, hN2, hN3, hB, hE0, hE1, hE2, w0, w1, hK, wK, hle, k0, d0, hBc]
        rw [run_round]
        simp -implicitDefEqProofs [hM, hR, wd, hW, hN, hI, hN2, hN3, hB, hE0, hE1, hE2, w0, w1, hK, wK, hle, k0, d0, hBc]
  · skip
    have hW : Within class_ 0 2 = some 2 := hW
    simp only [other1, other2, Int.reduceEq, if_true, if_false, reduceIte] at hKd hBd
    have hE2 := hE2 rfl
    generalize evalM (⟨dim, 3, bias, trees⟩ : Model) 0 p = e0 at *
    generalize evalM (⟨dim, 3, bias, trees⟩ : Model) 1 p = e1 at *
    generalize evalM (⟨dim, 3, bias, trees⟩ : Model) 2 p = e2 at *
    have w0 : IntKind.i64.wrap (e2 - e0) = e2 - e0 := wrap64 (by omega) (by omega)
    have w1 : IntKind.i64.wrap (e2 - e1) = e2 - e1 := wrap64 (by omega) (by omega)
    by_cases d0 : e2 - e1 < e2 - e0
    · have hK : e2 - e1 = K := by rw [hKd, min2, if_pos d0]
      have wK : IntKind.i64.wrap K = K := by rw [← hK]; exact w1
      have d0 :  e2 - e1 < e2 - e0 := d0
      rw [hK] at d0
      by_cases k0 : K ≤ 0
      · skip
        unfold oneB at hN2
        simp -implicitDefEqProofs [hM, hR, wd, hW, hN, hI, hN2, hN3, hB, hE0, hE1, hE2, w0, w1, hK, wK, hle, k0, d0]
        rw [run_round]
        simp -implicitDefEqProofs [hM, hR, wd, hW, hN, hI, hN2, hN3, hB, hE0, hE1, hE2, w0, w1, hK, wK, hle, k0, d0]
        rw [run_round]
        simp -implicitDefEqProofs [hM, hR, wd, hW, hN, hI, hN2, hN3, hB, hE0, hE1, hE2, w0, w1, hK, wK, hle, k0, d0]
        rw [run_round]
        simp -implicitDefEqProofs [hM, hR, wd, hW, hN, hI, hN2, hN3, hB, hE0, hE1, hE2, w0, w1, hK, wK, hle, k0, d0]
        rw [run_round]
        simp -implicitDefEqProofs [hM, hR, wd, hW, hN, hI, hN2, hN3, hB, hE0, hE1, hE2, w0, w1, hK, wK, hle, k0, d0]
        rw [run_round]
        simp -implicitDefEqProofs [hM, hR, wd, hW, hN, hI, hN2, hN3, hB, hE0, hE1, hE2, w0, w1, hK, wK, hle, k0, d0]
        rw [run_round]
        simp -implicitDefEqProofs [hM, hR, wd, hW, hN, hI, hN2, hN3, hB, hE0, hE1, hE2, w0, w1, hK, wK, hle, k0, d0]
        rw [run_round]
        simp -implicitDefEqProofs [hM, hR, wd, hW, hN, hI, hN2, hN3, hB, hE0, hE1, hE2, w0, w1, hK, wK, hle, k0, d0]
        rw [run_round]
        simp -implicitDefEqProofs [hM, hR, wd, hW, hN, hI, hN2, hN3, hB, hE0, hE1, hE2, w0, w1, hK, wK, hle, k0, d0]
        rw [run_round]
        simp -implicitDefEqProofs [hM, hR, wd, hW, hN, hI, hN2, hN3, hB, hE0, hE1, hE2, w0, w1, hK, wK, hle, k0, d0]
      · have hBc : B = 2 := by rw [hBd]; split <;> split <;> omega
        unfold oneB at hN2
        simp -implicitDefEqProofs [hM, hR, wd, hW, hN, hI, hN2, hN3, hB, hE0, hE1, hE2, w0, w1, hK, wK, hle, k0, d0, hBc]
        rw [run_round]
        simp -implicitDefEqProofs [hM, hR, wd, hW, hN, hI, hN2, hN3, hB, hE0, hE1, hE2, w0, w1, hK, wK, hle, k0, d0, hBc]
        rw [run_round]
        simp -implicitDefEqProofs [hM, hR, wd, hW, hN, hI, hN2, hN3, hB, hE0, hE1, hE2, w0, w1, hK, wK, hle, k0, d0, hBc]
        rw [run_round]
        simp -implicitDefEqProofs [hM, hR, wd, hW, hN, hI, hN2, hN3, hB, hE0, hE1, hE2, w0, w1, hK, wK, hle, k0, d0, hBc]
        rw [run_round]
        simp -implicitDefEqProofs [hM, hR, wd, hW, hN, hI, hN2, hN3, hB, hE0, hE1, hE2, w0, w1, hK, wK, hle, k0, d0, hBc]
        rw [run_round]
        simp -implicitDefEqProofs [hM, hR, wd, hW, hN, hI, hN2, hN3, hB, hE0, hE1, hE2, w0, w1, hK, wK, hle, k0, d0, hBc]
        rw [run_round]
        simp -implicitDefEqProofs [hM, hR, wd, hW, hN, hI, hN2, hN3, hB, hE0, hE1, hE2, w0, w1, hK, wK, hle, k0, d0, hBc]
        rw [run_round]
        simp -implicitDefEqProofs [hM, hR, wd, hW, hN, hI, hN2, hN3, hB, hE0, hE1, hE2, w0, w1, hK, wK, hle, k0, d0, hBc]
        rw [run_round]
        simp -implicitDefEqProofs [hM, hR, wd, hW, hN, hI, hN2, hN3, hB, hE0, hE1, hE2, w0, w1, hK, wK, hle, k0, d0, hBc]
        rw [run_round]
        simp -implicitDefEqProofs [hM, hR, wd, hW, hN, hI, hN2, hN3, hB, hE0, hE1, hE2, w0, w1, hK, wK, hle, k0, d0, hBc]
    · have hK : e2 - e0 = K := by rw [hKd, min2, if_neg d0]
      have wK : IntKind.i64.wrap K = K := by rw [← hK]; exact w0
      have d0 : ¬ e2 - e1 < e2 - e0 := d0
      rw [hK] at d0
      by_cases k0 : K ≤ 0
      · skip
        unfold oneB at hN2
        simp -implicitDefEqProofs [hM, hR, wd, hW, hN, hI, hN2, hN3, hB, hE0, hE1, hE2, w0, w1, hK, wK, hle, k0, d0]
        rw [run_round]
        simp -implicitDefEqProofs [hM, hR, wd, hW, hN, hI, hN2, hN3, hB, hE0, hE1, hE2, w0, w1, hK, wK, hle, k0, d0]
        rw [run_round]
        simp -implicitDefEqProofs [hM, hR, wd, hW, hN, hI, hN2, hN3, hB, hE0, hE1, hE2, w0, w1, hK, wK, hle, k0, d0]
        rw [run_round]
        simp -implicitDefEqProofs [hM, hR, wd, hW, hN, hI, hN2, hN3, hB, hE0, hE1, hE2, w0, w1, hK, wK, hle, k0, d0]
        rw [run_round]
        simp -implicitDefEqProofs [hM, hR, wd, hW, hN, hI, hN2, hN3, hB, hE0, hE1, hE2, w0, w1, hK, wK, hle, k0, d0]
        rw [run_round]
        simp -implicitDefEqProofs [hM, hR, wd, hW, hN, hI, hN2, hN3, hB, hE0, hE1, hE2, w0, w1, hK, wK, hle, k0, d0]
        rw [run_round]
        simp -implicitDefEqProofs [hM, hR, wd, hW, hN, hI, hN2, hN3, hB, hE0, hE1, hE2, w0, w1, hK, wK, hle, k0, d0]
        rw [run_round]
        simp -implicitDefEqProofs [hM, hR, wd, hW, hN, hI, hN2, hN3, hB, hE0, hE1, hE2, w0, w1, hK, wK, hle, k0, d0]
        rw [run_round]
        simp -implicitDefEqProofs [hM, hR, wd, hW, hN, hI, hN2, hN3, hB, hE0, hE1, hE2, w0, w1, hK, wK, hle, k0, d0]
        rw [run_round]
        simp -implicitDefEqProofs [hM, hR, wd, hW, hN, hI, hN2, hN3, hB, hE0, hE1, hE2, w0, w1, hK, wK, hle, k0, d0]
      · have hBc : B = 2 := by rw [hBd]; split <;> split <;> omega
        unfold oneB at hN2
        simp -implicitDefEqProofs [hM, hR, wd, hW, hN, hI, hN2, hN3, hB, hE0, hE1, hE2, w0, w1, hK, wK, hle, k0, d0, hBc]
        rw [run_round]
        simp -implicitDefEqProofs [hM, hR, wd, hW, hN, hI, hN2, hN3, hB, hE0, hE1, hE2, w0, w1, hK, wK, hle, k0, d0, hBc]
        rw [run_round]
        simp -implicitDefEqProofs [hM, hR, wd, hW, hN, hI, hN2, hN3, hB, hE0, hE1, hE2, w0, w1, hK, wK, hle, k0, d0, hBc]
        rw [run_round]
        simp -implicitDefEqProofs [hM, hR, wd, hW, hN, hI, hN2, hN3, hB, hE0, hE1, hE2, w0, w1, hK, wK, hle, k0, d0, hBc]
        rw [run_round]
        simp -implicitDefEqProofs [hM, hR, wd, hW, hN, hI, hN2, hN3, hB, hE0, hE1, hE2, w0, w1, hK, wK, hle, k0, d0, hBc]
        rw [run_round]
        simp -implicitDefEqProofs [hM, hR, wd, hW, hN, hI, hN2, hN3, hB, hE0, hE1, hE2, w0, w1, hK, wK, hle, k0, d0, hBc]
        rw [run_round]
        simp -implicitDefEqProofs [hM, hR, wd, hW, hN, hI, hN2, hN3, hB, hE0, hE1, hE2, w0, w1, hK, wK, hle, k0, d0, hBc]
        rw [run_round]
        simp -implicitDefEqProofs [hM, hR, wd, hW, hN, hI, hN2, hN3, hB, hE0, hE1, hE2, w0, w1, hK, wK, hle, k0, d0, hBc]
        rw [run_round]
        simp -implicitDefEqProofs [hM, hR, wd, hW, hN, hI, hN2, hN3, hB, hE0, hE1, hE2, w0, w1, hK, wK, hle, k0, d0, hBc]
        rw [run_round]
        simp -implicitDefEqProofs [hM, hR, wd, hW, hN, hI, hN2, hN3, hB, hE0, hE1, hE2, w0, w1, hK, wK, hle, k0, d0, hBc]
def law_sp : List AV → Option AV := sp4 fun (_ : Forest) (_ _ : List Int) (_ : Int) => some true
theorem law_holds : Contract Try.prog 18 law_sp :=
  contract_of_runs mixed (tbl_cons c_Model (tbl_cons c_Region (tbl_cons c_Within (tbl_cons c_Margin (tbl_cons c_Inside (tbl_cons c_Eval (tbl_cons c_Best (tbl_cons c_closed3 tbl_nil)))))))) Try.func18 m18 (sp4_runs runs_law)
theorem law_says (f : Forest) (l l2 : List Int) (x : Int) : law_sp [Arg.enc f, Arg.enc l, Arg.enc l2, Arg.enc x] = some (.bool true) := by
  simp only [law_sp, sp4, Arg.dec_enc, Option.bind_some]
  rfl
end Go.Co
