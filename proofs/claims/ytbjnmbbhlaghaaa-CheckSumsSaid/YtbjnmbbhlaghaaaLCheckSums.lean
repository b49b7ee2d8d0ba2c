/- The law CheckSums: what its text computes. -/
import Derived.Test.YtbjnmbbhlaghaaaCoIn
import Derived.Test.YtbjnmbbhlaghaaaCoV
import Derived.Test.YtbjnmbbhlaghaaaCoSh
namespace Go.Co
open Go.Am Go.Proofs
set_option linter.unusedSimpArgs false
set_option linter.unusedVariables false

/- copse/copselaw21.CheckSums -/
def c30_0 : ACode := .ops [⟨some 4, .box (.t 0) 4, none, []⟩,
  ⟨some 8, .mv (.c (.bool false)), none, []⟩] [1, 2, 3, 4]
theorem r30_0 {C : Cs} {k : List Fr} {s : St} {Q : Post} : run C c30_0 k s Q = run C (.ops [⟨some 4, .box (.t 0) 4, none, []⟩,
  ⟨some 8, .mv (.c (.bool false)), none, []⟩] [1, 2, 3, 4]) k s Q := rfl
def c30_1 : ACode := .ops [⟨some 25, .load 4 true (.t 4), none, [4]⟩,
  ⟨some 26, .call 45 [.t 25], none, []⟩,
  ⟨some 9, .alloc [.int .i64 0, .int .i64 0, .int .i64 0, .int .i64 0, .int .i64 0, .nils], none, []⟩,
  ⟨none, .store (.t 9) 6 (.t 26), none, [9]⟩] [1, 2, 3, 9]
theorem r30_1 {C : Cs} {k : List Fr} {s : St} {Q : Post} : run C c30_1 k s Q = run C (.ops [⟨some 25, .load 4 true (.t 4), none, [4]⟩,
  ⟨some 26, .call 45 [.t 25], none, []⟩,
  ⟨some 9, .alloc [.int .i64 0, .int .i64 0, .int .i64 0, .int .i64 0, .int .i64 0, .nils], none, []⟩,
  ⟨none, .store (.t 9) 6 (.t 26), none, [9]⟩] [1, 2, 3, 9]) k s Q := rfl
def c30_2 : ACode := .ops [⟨some 27, .load 6 true (.t 9), none, [9]⟩,
  ⟨some 28, .mv (.t 1), none, []⟩,
  ⟨some 29, .call 46 [.t 27, .t 28], none, []⟩,
  ⟨some 10, .alloc [.int .i64 0, .int .i64 0, .int .i64 0, .int .i64 0, .int .i64 0, .int .i64 0, .int .i64 0, .int .i64 0, .int .i64 0, .int .i64 0], none, []⟩,
  ⟨none, .store (.t 10) 10 (.t 29), none, [10]⟩] [2, 3, 9, 10]
theorem r30_2 {C : Cs} {k : List Fr} {s : St} {Q : Post} : run C c30_2 k s Q = run C (.ops [⟨some 27, .load 6 true (.t 9), none, [9]⟩,
  ⟨some 28, .mv (.t 1), none, []⟩,
  ⟨some 29, .call 46 [.t 27, .t 28], none, []⟩,
  ⟨some 10, .alloc [.int .i64 0, .int .i64 0, .int .i64 0, .int .i64 0, .int .i64 0, .int .i64 0, .int .i64 0, .int .i64 0, .int .i64 0, .int .i64 0], none, []⟩,
  ⟨none, .store (.t 10) 10 (.t 29), none, [10]⟩] [2, 3, 9, 10]) k s Q := rfl
def c30_3 : ACode := .ops [⟨some 30, .mv (.t 3), none, []⟩,
  ⟨some 31, .fad (.t 9) 1, none, [9]⟩,
  ⟨some 32, .load 1 false (.t 31), none, [9]⟩,
  ⟨some 33, .bin .sub (.t 32) (.c (.int .i64 1)), none, []⟩,
  ⟨some 34, .call 63 [.t 30, .c (.int .i64 0), .t 33], none, []⟩,
  ⟨some 11, .mv (.t 34), none, []⟩] [2, 9, 10, 11]
theorem r30_3 {C : Cs} {k : List Fr} {s : St} {Q : Post} : run C c30_3 k s Q = run C (.ops [⟨some 30, .mv (.t 3), none, []⟩,
  ⟨some 31, .fad (.t 9) 1, none, [9]⟩,
  ⟨some 32, .load 1 false (.t 31), none, [9]⟩,
  ⟨some 33, .bin .sub (.t 32) (.c (.int .i64 1)), none, []⟩,
  ⟨some 34, .call 63 [.t 30, .c (.int .i64 0), .t 33], none, []⟩,
  ⟨some 11, .mv (.t 34), none, []⟩] [2, 9, 10, 11]) k s Q := rfl
def c30_4 : ACode := .ops [⟨some 35, .load 10 true (.t 10), none, [10]⟩,
  ⟨some 36, .mv (.t 2), none, []⟩,
  ⟨some 37, .call 66 [.t 35, .t 36], none, []⟩,
  ⟨some 12, .alloc [.int .i64 0, .int .i64 0, .int .i64 0, .int .i64 0], none, []⟩,
  ⟨none, .store (.t 12) 4 (.t 37), none, [12]⟩] [9, 10, 11, 12]
theorem r30_4 {C : Cs} {k : List Fr} {s : St} {Q : Post} : run C c30_4 k s Q = run C (.ops [⟨some 35, .load 10 true (.t 10), none, [10]⟩,
  ⟨some 36, .mv (.t 2), none, []⟩,
  ⟨some 37, .call 66 [.t 35, .t 36], none, []⟩,
  ⟨some 12, .alloc [.int .i64 0, .int .i64 0, .int .i64 0, .int .i64 0], none, []⟩,
  ⟨none, .store (.t 12) 4 (.t 37), none, [12]⟩] [9, 10, 11, 12]) k s Q := rfl
def c30_5 : ACode := .ops [⟨some 39, .load 6 true (.t 9), none, [9]⟩,
  ⟨some 40, .mv (.t 11), none, []⟩,
  ⟨some 41, .load 10 true (.t 10), none, [10]⟩,
  ⟨some 42, .call 93 [.t 39, .t 40, .t 41], none, []⟩,
  ⟨some 38, .mv (.t 42), none, []⟩,
  ⟨some 43, .ext (.t 38) 0, none, []⟩,
  ⟨some 44, .ext (.t 38) 1, none, []⟩,
  ⟨some 13, .mv (.t 43), none, []⟩,
  ⟨some 14, .mv (.t 44), none, []⟩] [9, 10, 11, 12, 13, 14]
theorem r30_5 {C : Cs} {k : List Fr} {s : St} {Q : Post} : run C c30_5 k s Q = run C (.ops [⟨some 39, .load 6 true (.t 9), none, [9]⟩,
  ⟨some 40, .mv (.t 11), none, []⟩,
  ⟨some 41, .load 10 true (.t 10), none, [10]⟩,
  ⟨some 42, .call 93 [.t 39, .t 40, .t 41], none, []⟩,
  ⟨some 38, .mv (.t 42), none, []⟩,
  ⟨some 43, .ext (.t 38) 0, none, []⟩,
  ⟨some 44, .ext (.t 38) 1, none, []⟩,
  ⟨some 13, .mv (.t 43), none, []⟩,
  ⟨some 14, .mv (.t 44), none, []⟩] [9, 10, 11, 12, 13, 14]) k s Q := rfl
def c30_6 : ACode := .ops [⟨some 45, .load 6 true (.t 9), none, [9]⟩,
  ⟨some 46, .mv (.t 11), none, []⟩,
  ⟨some 47, .load 4 true (.t 12), none, [12]⟩,
  ⟨some 48, .call 69 [.t 45, .t 46, .t 47], none, []⟩,
  ⟨some 15, .mv (.t 48), none, []⟩] [9, 10, 11, 12, 13, 14, 15]
theorem r30_6 {C : Cs} {k : List Fr} {s : St} {Q : Post} : run C c30_6 k s Q = run C (.ops [⟨some 45, .load 6 true (.t 9), none, [9]⟩,
  ⟨some 46, .mv (.t 11), none, []⟩,
  ⟨some 47, .load 4 true (.t 12), none, [12]⟩,
  ⟨some 48, .call 69 [.t 45, .t 46, .t 47], none, []⟩,
  ⟨some 15, .mv (.t 48), none, []⟩] [9, 10, 11, 12, 13, 14, 15]) k s Q := rfl
def c30_7 : ACode := .ops [⟨some 16, .alloc [.int .i64 0, .int .i64 0, .int .i64 0, .int .i64 0, .int .i64 0, .int .i64 0, .int .i64 0, .int .i64 0, .int .i64 0, .int .i64 0], none, []⟩] [9, 10, 11, 12, 13, 14, 15, 16]
theorem r30_7 {C : Cs} {k : List Fr} {s : St} {Q : Post} : run C c30_7 k s Q = run C (.ops [⟨some 16, .alloc [.int .i64 0, .int .i64 0, .int .i64 0, .int .i64 0, .int .i64 0, .int .i64 0, .int .i64 0, .int .i64 0, .int .i64 0, .int .i64 0], none, []⟩] [9, 10, 11, 12, 13, 14, 15, 16]) k s Q := rfl
def c30_8 : ACode := .ops [⟨some 49, .mv (.c (.int .i64 0)), none, []⟩] [9, 10, 11, 12, 13, 14, 15, 16, 49]
theorem r30_8 {C : Cs} {k : List Fr} {s : St} {Q : Post} : run C c30_8 k s Q = run C (.ops [⟨some 49, .mv (.c (.int .i64 0)), none, []⟩] [9, 10, 11, 12, 13, 14, 15, 16, 49]) k s Q := rfl
def c30_9 : ACode := .ops [⟨some 50, .bin .lss (.t 49) (.c (.int .i64 4)), none, []⟩] [9, 10, 11, 12, 13, 14, 15, 16, 49, 50]
theorem r30_9 {C : Cs} {k : List Fr} {s : St} {Q : Post} : run C c30_9 k s Q = run C (.ops [⟨some 50, .bin .lss (.t 49) (.c (.int .i64 4)), none, []⟩] [9, 10, 11, 12, 13, 14, 15, 16, 49, 50]) k s Q := rfl
def c30_10 : ACode := .cond (.t 50) .skip (.exit 0)
theorem r30_10 {C : Cs} {k : List Fr} {s : St} {Q : Post} : run C c30_10 k s Q = run C (.cond (.t 50) .skip (.exit 0)) k s Q := rfl
def c30_11 : ACode := .ops [⟨some 51, .mv (.t 49), none, []⟩,
  ⟨some 17, .mv (.t 51), none, []⟩] [9, 10, 11, 12, 13, 14, 15, 16, 17, 49]
theorem r30_11 {C : Cs} {k : List Fr} {s : St} {Q : Post} : run C c30_11 k s Q = run C (.ops [⟨some 51, .mv (.t 49), none, []⟩,
  ⟨some 17, .mv (.t 51), none, []⟩] [9, 10, 11, 12, 13, 14, 15, 16, 17, 49]) k s Q := rfl
def c30_12 : ACode := .ops [⟨some 52, .mv (.t 17), none, []⟩,
  ⟨some 53, .mv (.t 17), none, []⟩,
  ⟨some 54, .iad (.t 12) (.t 53) 1 4, none, [12]⟩,
  ⟨some 55, .load 1 false (.t 54), none, [12]⟩,
  ⟨some 56, .mv (.t 17), none, []⟩,
  ⟨some 57, .iad (.t 12) (.t 56) 1 4, none, [12]⟩,
  ⟨some 58, .load 1 false (.t 57), none, [12]⟩,
  ⟨some 59, .build [.int .i64 0, .int .i64 0] [(0, 1, .t 55), (1, 1, .t 58)], none, []⟩,
  ⟨some 60, .iad (.t 16) (.t 52) 2 5, none, [16]⟩,
  ⟨none, .store (.t 60) 2 (.t 59), none, [16]⟩] [9, 10, 11, 12, 13, 14, 15, 16, 49]
theorem r30_12 {C : Cs} {k : List Fr} {s : St} {Q : Post} : run C c30_12 k s Q = run C (.ops [⟨some 52, .mv (.t 17), none, []⟩,
  ⟨some 53, .mv (.t 17), none, []⟩,
  ⟨some 54, .iad (.t 12) (.t 53) 1 4, none, [12]⟩,
  ⟨some 55, .load 1 false (.t 54), none, [12]⟩,
  ⟨some 56, .mv (.t 17), none, []⟩,
  ⟨some 57, .iad (.t 12) (.t 56) 1 4, none, [12]⟩,
  ⟨some 58, .load 1 false (.t 57), none, [12]⟩,
  ⟨some 59, .build [.int .i64 0, .int .i64 0] [(0, 1, .t 55), (1, 1, .t 58)], none, []⟩,
  ⟨some 60, .iad (.t 16) (.t 52) 2 5, none, [16]⟩,
  ⟨none, .store (.t 60) 2 (.t 59), none, [16]⟩] [9, 10, 11, 12, 13, 14, 15, 16, 49]) k s Q := rfl
def c30_13 : ACode := .seq c30_11 c30_12
theorem r30_13 {C : Cs} {k : List Fr} {s : St} {Q : Post} : run C c30_13 k s Q = run C (.seq c30_11 c30_12) k s Q := rfl
def c30_14 : ACode := .block 1 c30_13
theorem r30_14 {C : Cs} {k : List Fr} {s : St} {Q : Post} : run C c30_14 k s Q = run C (.block 1 c30_13) k s Q := rfl
def c30_15 : ACode := .ops [⟨some 61, .bin .add (.t 49) (.c (.int .i64 1)), none, []⟩,
  ⟨some 49, .mv (.t 61), none, []⟩] [9, 10, 11, 12, 13, 14, 15, 16, 49]
theorem r30_15 {C : Cs} {k : List Fr} {s : St} {Q : Post} : run C c30_15 k s Q = run C (.ops [⟨some 61, .bin .add (.t 49) (.c (.int .i64 1)), none, []⟩,
  ⟨some 49, .mv (.t 61), none, []⟩] [9, 10, 11, 12, 13, 14, 15, 16, 49]) k s Q := rfl
def c30_16 : ACode := .seq c30_14 c30_15
theorem r30_16 {C : Cs} {k : List Fr} {s : St} {Q : Post} : run C c30_16 k s Q = run C (.seq c30_14 c30_15) k s Q := rfl
def c30_17 : ACode := .seq c30_10 c30_16
theorem r30_17 {C : Cs} {k : List Fr} {s : St} {Q : Post} : run C c30_17 k s Q = run C (.seq c30_10 c30_16) k s Q := rfl
def c30_18 : ACode := .seq c30_9 c30_17
theorem r30_18 {C : Cs} {k : List Fr} {s : St} {Q : Post} : run C c30_18 k s Q = run C (.seq c30_9 c30_17) k s Q := rfl
def c30_19 : ACode := .keep [9, 10, 11, 12, 13, 14, 15, 16, 49] [9, 10, 12, 16] c30_18
theorem r30_19 {C : Cs} {k : List Fr} {s : St} {Q : Post} : run C c30_19 k s Q = run C (.keep [9, 10, 11, 12, 13, 14, 15, 16, 49] [9, 10, 12, 16] c30_18) k s Q := rfl
def c30_20 : ACode := .loop c30_19
theorem r30_20 {C : Cs} {k : List Fr} {s : St} {Q : Post} : run C c30_20 k s Q = run C (.loop c30_19) k s Q := rfl
def c30_21 : ACode := .block 0 c30_20
theorem r30_21 {C : Cs} {k : List Fr} {s : St} {Q : Post} : run C c30_21 k s Q = run C (.block 0 c30_20) k s Q := rfl
def c30_22 : ACode := .seq c30_8 c30_21
theorem r30_22 {C : Cs} {k : List Fr} {s : St} {Q : Post} : run C c30_22 k s Q = run C (.seq c30_8 c30_21) k s Q := rfl
def c30_23 : ACode := .ops [⟨some 63, .load 6 true (.t 9), none, [9]⟩,
  ⟨some 64, .mv (.t 11), none, []⟩,
  ⟨some 65, .load 10 true (.t 16), none, [16]⟩,
  ⟨some 66, .call 93 [.t 63, .t 64, .t 65], none, []⟩,
  ⟨some 62, .mv (.t 66), none, []⟩,
  ⟨some 67, .ext (.t 62) 0, none, []⟩,
  ⟨some 68, .ext (.t 62) 1, none, []⟩,
  ⟨some 18, .mv (.t 67), none, []⟩,
  ⟨some 19, .mv (.t 68), none, []⟩] [9, 10, 11, 13, 14, 15, 18, 19]
theorem r30_23 {C : Cs} {k : List Fr} {s : St} {Q : Post} : run C c30_23 k s Q = run C (.ops [⟨some 63, .load 6 true (.t 9), none, [9]⟩,
  ⟨some 64, .mv (.t 11), none, []⟩,
  ⟨some 65, .load 10 true (.t 16), none, [16]⟩,
  ⟨some 66, .call 93 [.t 63, .t 64, .t 65], none, []⟩,
  ⟨some 62, .mv (.t 66), none, []⟩,
  ⟨some 67, .ext (.t 62) 0, none, []⟩,
  ⟨some 68, .ext (.t 62) 1, none, []⟩,
  ⟨some 18, .mv (.t 67), none, []⟩,
  ⟨some 19, .mv (.t 68), none, []⟩] [9, 10, 11, 13, 14, 15, 18, 19]) k s Q := rfl
def c30_24 : ACode := .ops [⟨some 70, .load 6 true (.t 9), none, [9]⟩,
  ⟨some 71, .fad (.t 9) 1, none, [9]⟩,
  ⟨some 72, .load 1 false (.t 71), none, [9]⟩,
  ⟨some 73, .load 10 true (.t 10), none, [10]⟩,
  ⟨some 74, .call 93 [.t 70, .t 72, .t 73], none, []⟩,
  ⟨some 69, .mv (.t 74), none, []⟩,
  ⟨some 75, .ext (.t 69) 0, none, []⟩,
  ⟨some 76, .ext (.t 69) 1, none, []⟩,
  ⟨some 20, .mv (.t 75), none, []⟩,
  ⟨some 21, .mv (.t 76), none, []⟩] [9, 10, 11, 13, 14, 15, 18, 19, 20, 21]
theorem r30_24 {C : Cs} {k : List Fr} {s : St} {Q : Post} : run C c30_24 k s Q = run C (.ops [⟨some 70, .load 6 true (.t 9), none, [9]⟩,
  ⟨some 71, .fad (.t 9) 1, none, [9]⟩,
  ⟨some 72, .load 1 false (.t 71), none, [9]⟩,
  ⟨some 73, .load 10 true (.t 10), none, [10]⟩,
  ⟨some 74, .call 93 [.t 70, .t 72, .t 73], none, []⟩,
  ⟨some 69, .mv (.t 74), none, []⟩,
  ⟨some 75, .ext (.t 69) 0, none, []⟩,
  ⟨some 76, .ext (.t 69) 1, none, []⟩,
  ⟨some 20, .mv (.t 75), none, []⟩,
  ⟨some 21, .mv (.t 76), none, []⟩] [9, 10, 11, 13, 14, 15, 18, 19, 20, 21]) k s Q := rfl
def c30_25 : ACode := .ops [⟨some 78, .load 6 true (.t 9), none, [9]⟩,
  ⟨some 79, .mv (.t 11), none, []⟩,
  ⟨some 80, .load 10 true (.t 10), none, [10]⟩,
  ⟨some 81, .call 44 [.t 78, .t 79, .t 80], none, []⟩,
  ⟨some 77, .mv (.t 81), none, []⟩,
  ⟨some 82, .ext (.t 77) 0, none, []⟩,
  ⟨some 83, .ext (.t 77) 1, none, []⟩,
  ⟨some 84, .ext (.t 77) 2, none, []⟩,
  ⟨some 22, .mv (.t 82), none, []⟩,
  ⟨some 23, .mv (.t 83), none, []⟩,
  ⟨some 24, .mv (.t 84), none, []⟩] [13, 14, 15, 18, 19, 20, 21, 22, 23]
theorem r30_25 {C : Cs} {k : List Fr} {s : St} {Q : Post} : run C c30_25 k s Q = run C (.ops [⟨some 78, .load 6 true (.t 9), none, [9]⟩,
  ⟨some 79, .mv (.t 11), none, []⟩,
  ⟨some 80, .load 10 true (.t 10), none, [10]⟩,
  ⟨some 81, .call 44 [.t 78, .t 79, .t 80], none, []⟩,
  ⟨some 77, .mv (.t 81), none, []⟩,
  ⟨some 82, .ext (.t 77) 0, none, []⟩,
  ⟨some 83, .ext (.t 77) 1, none, []⟩,
  ⟨some 84, .ext (.t 77) 2, none, []⟩,
  ⟨some 22, .mv (.t 82), none, []⟩,
  ⟨some 23, .mv (.t 83), none, []⟩,
  ⟨some 24, .mv (.t 84), none, []⟩] [13, 14, 15, 18, 19, 20, 21, 22, 23]) k s Q := rfl
def c30_26 : ACode := .ops [⟨some 85, .mv (.t 13), none, []⟩,
  ⟨some 86, .mv (.t 15), none, []⟩,
  ⟨some 87, .bin .leq (.t 85) (.t 86), none, []⟩,
  ⟨some 88, .mv (.t 87), none, []⟩,
  ⟨some 89, .mv (.t 15), some (88, true), []⟩,
  ⟨some 90, .mv (.t 14), some (88, true), []⟩,
  ⟨some 91, .bin .leq (.t 89) (.t 90), some (88, true), []⟩,
  ⟨some 92, .pick (.t 88) (.t 91) (.c (.bool false)), none, []⟩,
  ⟨some 93, .mv (.t 92), none, []⟩,
  ⟨some 94, .mv (.t 18), some (93, true), []⟩,
  ⟨some 95, .mv (.t 15), some (93, true), []⟩,
  ⟨some 96, .bin .eql (.t 94) (.t 95), some (93, true), []⟩,
  ⟨some 97, .pick (.t 93) (.t 96) (.c (.bool false)), none, []⟩,
  ⟨some 98, .mv (.t 97), none, []⟩,
  ⟨some 99, .mv (.t 19), some (98, true), []⟩,
  ⟨some 100, .mv (.t 15), some (98, true), []⟩,
  ⟨some 101, .bin .eql (.t 99) (.t 100), some (98, true), []⟩,
  ⟨some 102, .pick (.t 98) (.t 101) (.c (.bool false)), none, []⟩,
  ⟨some 103, .mv (.t 102), none, []⟩,
  ⟨some 104, .mv (.t 20), some (103, true), []⟩,
  ⟨some 105, .bin .eql (.t 104) (.c (.int .i64 0)), some (103, true), []⟩,
  ⟨some 106, .pick (.t 103) (.t 105) (.c (.bool false)), none, []⟩,
  ⟨some 107, .mv (.t 106), none, []⟩,
  ⟨some 108, .mv (.t 21), some (107, true), []⟩,
  ⟨some 109, .bin .eql (.t 108) (.c (.int .i64 0)), some (107, true), []⟩,
  ⟨some 110, .pick (.t 107) (.t 109) (.c (.bool false)), none, []⟩,
  ⟨some 111, .mv (.t 110), none, []⟩,
  ⟨some 112, .mv (.t 13), some (111, true), []⟩,
  ⟨some 113, .mv (.t 22), some (111, true), []⟩,
  ⟨some 114, .bin .eql (.t 112) (.t 113), some (111, true), []⟩,
  ⟨some 115, .pick (.t 111) (.t 114) (.c (.bool false)), none, []⟩,
  ⟨some 116, .mv (.t 115), none, []⟩,
  ⟨some 117, .mv (.t 14), some (116, true), []⟩,
  ⟨some 118, .mv (.t 23), some (116, true), []⟩,
  ⟨some 119, .bin .eql (.t 117) (.t 118), some (116, true), []⟩,
  ⟨some 120, .pick (.t 116) (.t 119) (.c (.bool false)), none, []⟩,
  ⟨some 121, .mv (.t 120), none, []⟩,
  ⟨some 122, .call 25 [], some (121, true), []⟩,
  ⟨some 123, .pick (.t 121) (.t 122) (.c (.bool false)), none, []⟩,
  ⟨some 8, .mv (.t 123), none, []⟩] [8]
theorem r30_26 {C : Cs} {k : List Fr} {s : St} {Q : Post} : run C c30_26 k s Q = run C (.ops [⟨some 85, .mv (.t 13), none, []⟩,
  ⟨some 86, .mv (.t 15), none, []⟩,
  ⟨some 87, .bin .leq (.t 85) (.t 86), none, []⟩,
  ⟨some 88, .mv (.t 87), none, []⟩,
  ⟨some 89, .mv (.t 15), some (88, true), []⟩,
  ⟨some 90, .mv (.t 14), some (88, true), []⟩,
  ⟨some 91, .bin .leq (.t 89) (.t 90), some (88, true), []⟩,
  ⟨some 92, .pick (.t 88) (.t 91) (.c (.bool false)), none, []⟩,
  ⟨some 93, .mv (.t 92), none, []⟩,
  ⟨some 94, .mv (.t 18), some (93, true), []⟩,
  ⟨some 95, .mv (.t 15), some (93, true), []⟩,
  ⟨some 96, .bin .eql (.t 94) (.t 95), some (93, true), []⟩,
  ⟨some 97, .pick (.t 93) (.t 96) (.c (.bool false)), none, []⟩,
  ⟨some 98, .mv (.t 97), none, []⟩,
  ⟨some 99, .mv (.t 19), some (98, true), []⟩,
  ⟨some 100, .mv (.t 15), some (98, true), []⟩,
  ⟨some 101, .bin .eql (.t 99) (.t 100), some (98, true), []⟩,
  ⟨some 102, .pick (.t 98) (.t 101) (.c (.bool false)), none, []⟩,
  ⟨some 103, .mv (.t 102), none, []⟩,
  ⟨some 104, .mv (.t 20), some (103, true), []⟩,
  ⟨some 105, .bin .eql (.t 104) (.c (.int .i64 0)), some (103, true), []⟩,
  ⟨some 106, .pick (.t 103) (.t 105) (.c (.bool false)), none, []⟩,
  ⟨some 107, .mv (.t 106), none, []⟩,
  ⟨some 108, .mv (.t 21), some (107, true), []⟩,
  ⟨some 109, .bin .eql (.t 108) (.c (.int .i64 0)), some (107, true), []⟩,
  ⟨some 110, .pick (.t 107) (.t 109) (.c (.bool false)), none, []⟩,
  ⟨some 111, .mv (.t 110), none, []⟩,
  ⟨some 112, .mv (.t 13), some (111, true), []⟩,
  ⟨some 113, .mv (.t 22), some (111, true), []⟩,
  ⟨some 114, .bin .eql (.t 112) (.t 113), some (111, true), []⟩,
  ⟨some 115, .pick (.t 111) (.t 114) (.c (.bool false)), none, []⟩,
  ⟨some 116, .mv (.t 115), none, []⟩,
  ⟨some 117, .mv (.t 14), some (116, true), []⟩,
  ⟨some 118, .mv (.t 23), some (116, true), []⟩,
  ⟨some 119, .bin .eql (.t 117) (.t 118), some (116, true), []⟩,
  ⟨some 120, .pick (.t 116) (.t 119) (.c (.bool false)), none, []⟩,
  ⟨some 121, .mv (.t 120), none, []⟩,
  ⟨some 122, .call 25 [], some (121, true), []⟩,
  ⟨some 123, .pick (.t 121) (.t 122) (.c (.bool false)), none, []⟩,
  ⟨some 8, .mv (.t 123), none, []⟩] [8]) k s Q := rfl
def c30_27 : ACode := .seq c30_26 .ret
theorem r30_27 {C : Cs} {k : List Fr} {s : St} {Q : Post} : run C c30_27 k s Q = run C (.seq c30_26 .ret) k s Q := rfl
def c30_28 : ACode := .seq c30_25 c30_27
theorem r30_28 {C : Cs} {k : List Fr} {s : St} {Q : Post} : run C c30_28 k s Q = run C (.seq c30_25 c30_27) k s Q := rfl
def c30_29 : ACode := .seq c30_24 c30_28
theorem r30_29 {C : Cs} {k : List Fr} {s : St} {Q : Post} : run C c30_29 k s Q = run C (.seq c30_24 c30_28) k s Q := rfl
def c30_30 : ACode := .seq c30_23 c30_29
theorem r30_30 {C : Cs} {k : List Fr} {s : St} {Q : Post} : run C c30_30 k s Q = run C (.seq c30_23 c30_29) k s Q := rfl
def c30_31 : ACode := .seq c30_22 c30_30
theorem r30_31 {C : Cs} {k : List Fr} {s : St} {Q : Post} : run C c30_31 k s Q = run C (.seq c30_22 c30_30) k s Q := rfl
def c30_32 : ACode := .seq c30_7 c30_31
theorem r30_32 {C : Cs} {k : List Fr} {s : St} {Q : Post} : run C c30_32 k s Q = run C (.seq c30_7 c30_31) k s Q := rfl
def c30_33 : ACode := .seq c30_6 c30_32
theorem r30_33 {C : Cs} {k : List Fr} {s : St} {Q : Post} : run C c30_33 k s Q = run C (.seq c30_6 c30_32) k s Q := rfl
def c30_34 : ACode := .seq c30_5 c30_33
theorem r30_34 {C : Cs} {k : List Fr} {s : St} {Q : Post} : run C c30_34 k s Q = run C (.seq c30_5 c30_33) k s Q := rfl
def c30_35 : ACode := .seq c30_4 c30_34
theorem r30_35 {C : Cs} {k : List Fr} {s : St} {Q : Post} : run C c30_35 k s Q = run C (.seq c30_4 c30_34) k s Q := rfl
def c30_36 : ACode := .seq c30_3 c30_35
theorem r30_36 {C : Cs} {k : List Fr} {s : St} {Q : Post} : run C c30_36 k s Q = run C (.seq c30_3 c30_35) k s Q := rfl
def c30_37 : ACode := .seq c30_2 c30_36
theorem r30_37 {C : Cs} {k : List Fr} {s : St} {Q : Post} : run C c30_37 k s Q = run C (.seq c30_2 c30_36) k s Q := rfl
def c30_38 : ACode := .seq c30_1 c30_37
theorem r30_38 {C : Cs} {k : List Fr} {s : St} {Q : Post} : run C c30_38 k s Q = run C (.seq c30_1 c30_37) k s Q := rfl
def c30_39 : ACode := .seq c30_0 c30_38
theorem r30_39 {C : Cs} {k : List Fr} {s : St} {Q : Post} : run C c30_39 k s Q = run C (.seq c30_0 c30_38) k s Q := rfl
def a30 : AFun := ⟨4, 124, c30_39, [.t 8]⟩
attribute [simp] r30_0 r30_1 r30_2 r30_3 r30_4 r30_5 r30_6 r30_7 r30_8 r30_9 r30_10 r30_11 r30_12 r30_13 r30_14 r30_15 r30_16 r30_17 r30_18 r30_19 r30_20 r30_21 r30_22 r30_23 r30_24 r30_25 r30_26 r30_27 r30_28 r30_29 r30_30 r30_31 r30_32 r30_33 r30_34 r30_35 r30_36 r30_37 r30_38 r30_39
theorem m30 : mFun Try.prog Try.f30 a30 = true := by decide +kernel

/- copse/copselaw21.CheckRuns -/
def c25_0 : ACode := .ops [⟨some 0, .mv (.c (.bool false)), none, []⟩] []
def c25_1 : ACode := .ops [⟨some 9, .call 43 [], none, []⟩,
  ⟨some 1, .alloc [.int .i64 0, .int .i64 0, .int .i64 0, .int .i64 0, .int .i64 0, .nils], none, []⟩,
  ⟨none, .store (.t 1) 6 (.t 9), none, [1]⟩] [1]
def c25_2 : ACode := .ops [⟨some 10, .build [.int .i64 0, .int .i64 0] [(0, 1, .c (.int .i64 0)), (1, 1, .c (.int .i64 9))], none, []⟩,
  ⟨some 11, .build [.int .i64 0, .int .i64 0, .int .i64 0, .int .i64 0, .int .i64 0, .int .i64 0, .int .i64 0, .int .i64 0, .int .i64 0, .int .i64 0] [(0, 2, .t 10)], none, []⟩,
  ⟨some 12, .build [.int .i64 0, .int .i64 0, .int .i64 0, .int .i64 0, .int .i64 0, .int .i64 0, .int .i64 0, .int .i64 0, .int .i64 0, .int .i64 0, .int .i64 0, .int .i64 0, .int .i64 0, .int .i64 0, .int .i64 0, .bool false, .int .i64 0] [(0, 1, .c (.int .i64 3)), (2, 10, .t 11)], none, []⟩,
  ⟨some 2, .alloc [.int .i64 0, .int .i64 0, .int .i64 0, .int .i64 0, .int .i64 0, .int .i64 0, .int .i64 0, .int .i64 0, .int .i64 0, .int .i64 0, .int .i64 0, .int .i64 0, .int .i64 0, .int .i64 0, .int .i64 0, .bool false, .int .i64 0], none, []⟩,
  ⟨none, .store (.t 2) 17 (.t 12), none, [2]⟩] [1, 2]
def c25_3 : ACode := .ops [⟨some 13, .build [.bool false, .int .i64 0, .int .i64 0] [(2, 1, .c (.int .i64 5))], none, []⟩,
  ⟨some 14, .build [.bool false, .int .i64 0, .int .i64 0] [(0, 1, .c (.bool true))], none, []⟩,
  ⟨some 15, .build [.bool false, .int .i64 0, .int .i64 0] [(1, 1, .c (.int .i64 4)), (2, 1, .c (.int .i64 5))], none, []⟩,
  ⟨some 16, .build [.bool false, .int .i64 0, .int .i64 0] [(0, 1, .c (.bool true))], none, []⟩,
  ⟨some 17, .build [.bool false, .int .i64 0, .int .i64 0] [(0, 1, .c (.bool true))], none, []⟩,
  ⟨some 18, .mkrow 18 5 3 [.bool false, .int .i64 0, .int .i64 0] [(0, 3, .t 13), (3, 3, .t 14), (6, 3, .t 15), (9, 3, .t 16), (12, 3, .t 17)], none, []⟩,
  ⟨some 19, .build [.int .i64 0, .nils, .int .i64 0, .int .i64 0, .int .i64 0, .int .i64 0, .int .i64 0, .int .i64 0] [(0, 1, .c (.int .i64 1)), (1, 1, .t 18)], none, []⟩,
  ⟨some 3, .alloc [.int .i64 0, .nils, .int .i64 0, .int .i64 0, .int .i64 0, .int .i64 0, .int .i64 0, .int .i64 0], none, []⟩,
  ⟨none, .store (.t 3) 8 (.t 19), none, [3]⟩] [1, 2, 3]
def c25_4 : ACode := .ops [⟨some 20, .build [.bool false, .int .i64 0, .int .i64 0] [(0, 1, .c (.bool true))], none, []⟩,
  ⟨some 21, .mkrow 21 1 3 [.bool false, .int .i64 0, .int .i64 0] [(0, 3, .t 20)], none, []⟩,
  ⟨some 22, .build [.int .i64 0, .nils, .int .i64 0, .int .i64 0, .int .i64 0, .int .i64 0, .int .i64 0, .int .i64 0] [(0, 1, .c (.int .i64 1)), (1, 1, .t 21)], none, []⟩,
  ⟨some 4, .alloc [.int .i64 0, .nils, .int .i64 0, .int .i64 0, .int .i64 0, .int .i64 0, .int .i64 0, .int .i64 0], none, []⟩,
  ⟨none, .store (.t 4) 8 (.t 22), none, [4]⟩] [1, 2, 3, 4]
def c25_5 : ACode := .ops [⟨some 23, .build [.int .i64 0, .nils, .int .i64 0, .int .i64 0, .int .i64 0, .int .i64 0, .int .i64 0, .int .i64 0] [(0, 1, .c (.int .i64 2)), (6, 1, .c (.int .i64 9))], none, []⟩,
  ⟨some 5, .alloc [.int .i64 0, .nils, .int .i64 0, .int .i64 0, .int .i64 0, .int .i64 0, .int .i64 0, .int .i64 0], none, []⟩,
  ⟨none, .store (.t 5) 8 (.t 23), none, [5]⟩] [1, 2, 3, 4, 5]
def c25_6 : ACode := .ops [⟨some 24, .load 6 true (.t 1), none, [1]⟩,
  ⟨some 25, .load 17 true (.t 2), none, [2]⟩,
  ⟨some 26, .load 8 true (.t 3), none, [3]⟩,
  ⟨some 27, .call 88 [.t 24, .t 25, .t 26], none, [18]⟩,
  ⟨some 28, .load 6 true (.t 1), none, [1]⟩,
  ⟨some 29, .load 17 true (.t 2), none, [2]⟩,
  ⟨some 30, .load 8 true (.t 4), none, [4]⟩,
  ⟨some 31, .call 88 [.t 28, .t 29, .t 30], none, [21]⟩,
  ⟨some 32, .load 6 true (.t 1), none, [1]⟩,
  ⟨some 33, .load 17 true (.t 2), none, [2]⟩,
  ⟨some 34, .load 8 true (.t 5), none, [5]⟩,
  ⟨some 35, .call 88 [.t 32, .t 33, .t 34], none, []⟩,
  ⟨some 6, .mv (.t 27), none, []⟩,
  ⟨some 7, .mv (.t 31), none, []⟩,
  ⟨some 8, .mv (.t 35), none, []⟩] [1, 2, 3, 5, 6, 7, 8]
def c25_7 : ACode := .ops [⟨some 36, .fad (.t 2) 15, none, [2]⟩,
  ⟨none, .store (.t 36) 1 (.c (.bool true)), none, [2]⟩] [1, 2, 3, 5, 6, 7, 8]
def c25_8 : ACode := .ops [⟨some 37, .mv (.t 6), none, []⟩,
  ⟨some 38, .mv (.t 37), none, []⟩,
  ⟨some 39, .mv (.t 7), some (38, true), []⟩,
  ⟨some 40, .un .not (.t 39), some (38, true), []⟩,
  ⟨some 41, .pick (.t 38) (.t 40) (.c (.bool false)), none, []⟩,
  ⟨some 42, .mv (.t 41), none, []⟩,
  ⟨some 43, .mv (.t 8), some (42, true), []⟩,
  ⟨some 44, .un .not (.t 43), some (42, true), []⟩,
  ⟨some 45, .pick (.t 42) (.t 44) (.c (.bool false)), none, []⟩,
  ⟨some 46, .mv (.t 45), none, []⟩,
  ⟨some 47, .load 6 true (.t 1), some (46, true), [1]⟩,
  ⟨some 48, .load 17 true (.t 2), some (46, true), [2]⟩,
  ⟨some 49, .load 8 true (.t 5), some (46, true), [5]⟩,
  ⟨some 50, .call 88 [.t 47, .t 48, .t 49], some (46, true), []⟩,
  ⟨some 51, .pick (.t 46) (.t 50) (.c (.bool false)), none, []⟩,
  ⟨some 52, .mv (.t 51), none, []⟩,
  ⟨some 53, .load 6 true (.t 1), some (52, true), [1]⟩,
  ⟨some 54, .load 17 true (.t 2), some (52, true), [2]⟩,
  ⟨some 55, .load 8 true (.t 3), some (52, true), [3]⟩,
  ⟨some 56, .call 88 [.t 53, .t 54, .t 55], some (52, true), [18]⟩,
  ⟨some 57, .un .not (.t 56), some (52, true), []⟩,
  ⟨some 58, .pick (.t 52) (.t 57) (.c (.bool false)), none, []⟩,
  ⟨some 0, .mv (.t 58), none, []⟩] [0]
def c25_9 : ACode := .seq c25_8 .ret
def c25_10 : ACode := .seq c25_7 c25_9
def c25_11 : ACode := .seq c25_6 c25_10
def c25_12 : ACode := .seq c25_5 c25_11
def c25_13 : ACode := .seq c25_4 c25_12
def c25_14 : ACode := .seq c25_3 c25_13
def c25_15 : ACode := .seq c25_2 c25_14
def c25_16 : ACode := .seq c25_1 c25_15
def c25_17 : ACode := .seq c25_0 c25_16
def a25 : AFun := ⟨0, 59, c25_17, [.t 0]⟩
theorem m25 : mFun Try.prog Try.f25 a25 = true := by decide +kernel
/- copse/copsekeep.Three -/
def c43_0 : ACode := .ops [⟨some 0, .alloc [.int .i64 0, .int .i64 0, .int .i64 0, .int .i64 0, .int .i64 0, .nils], none, []⟩] [0]
def c43_1 : ACode := .ops [⟨some 2, .build [.bool false, .int .i64 0, .int .i64 0, .int .i64 0, .int .i64 0, .int .i64 0] [(3, 1, .c (.int .i64 5)), (4, 1, .c (.int .i64 1)), (5, 1, .c (.int .i64 2))], none, []⟩,
  ⟨some 3, .call 111 [.t 2], none, []⟩,
  ⟨some 4, .build [.bool false, .int .i64 0, .int .i64 0, .int .i64 0, .int .i64 0, .int .i64 0] [(0, 1, .c (.bool true)), (1, 1, .c (.int .i64 10))], none, []⟩,
  ⟨some 5, .call 111 [.t 4], none, []⟩,
  ⟨some 6, .build [.bool false, .int .i64 0, .int .i64 0, .int .i64 0, .int .i64 0, .int .i64 0] [(0, 1, .c (.bool true)), (1, 1, .c (.int .i64 20))], none, []⟩,
  ⟨some 7, .call 111 [.t 6], none, []⟩,
  ⟨some 8, .mkrow 1 3 1 [.int .u64 0] [(0, 1, .t 3), (1, 1, .t 5), (2, 1, .t 7)], none, []⟩,
  ⟨some 1, .mv (.t 8), none, []⟩] [0, 1]
def c43_2 : ACode := .ops [⟨some 9, .build [.int .i64 0, .int .i64 0, .int .i64 0] [(0, 1, .c (.int .i64 3))], none, []⟩,
  ⟨some 10, .mv (.t 1), none, []⟩,
  ⟨some 11, .build [.int .i64 0, .nils] [(1, 1, .t 10)], none, []⟩,
  ⟨some 12, .mkrow 12 1 2 [.int .i64 0, .nils] [(0, 2, .t 11)], none, []⟩,
  ⟨some 13, .build [.int .i64 0, .int .i64 0, .int .i64 0, .int .i64 0, .int .i64 0, .nils] [(0, 1, .c (.int .i64 1)), (1, 1, .c (.int .i64 1)), (2, 3, .t 9), (5, 1, .t 12)], none, []⟩,
  ⟨none, .store (.t 0) 6 (.t 13), none, [0]⟩] [0]
def c43_3 : ACode := .seq c43_2 .ret
def c43_4 : ACode := .seq c43_1 c43_3
def c43_5 : ACode := .seq c43_0 c43_4
def a43 : AFun := ⟨0, 14, c43_5, [.cell 0 6 true]⟩
theorem m43 : mFun Try.prog Try.f43 a43 = true := by decide +kernel
/- copse/query.Right -/
def c56_0 : ACode := .ops [⟨some 2, .box (.t 0) 6, none, []⟩,
  ⟨some 3, .box (.t 1) 17, none, []⟩,
  ⟨some 4, .mv (.c (.bool false)), none, []⟩] [2, 3]
def c56_1 : ACode := .ops [⟨some 5, .load 6 true (.t 2), none, [2]⟩,
  ⟨some 6, .call 71 [.t 5], none, []⟩,
  ⟨some 7, .mv (.t 6), none, []⟩,
  ⟨some 8, .fad (.t 3) 1, some (7, true), [3]⟩,
  ⟨some 9, .load 1 false (.t 8), some (7, true), [3]⟩,
  ⟨some 10, .bin .geq (.t 9) (.c (.int .i64 0)), some (7, true), []⟩,
  ⟨some 11, .pick (.t 7) (.t 10) (.c (.bool false)), none, []⟩,
  ⟨some 12, .mv (.t 11), none, []⟩,
  ⟨some 13, .fad (.t 3) 1, some (12, true), [3]⟩,
  ⟨some 14, .load 1 false (.t 13), some (12, true), [3]⟩,
  ⟨some 15, .fad (.t 2) 1, some (12, true), [2]⟩,
  ⟨some 16, .load 1 false (.t 15), some (12, true), [2]⟩,
  ⟨some 17, .bin .lss (.t 14) (.t 16), some (12, true), []⟩,
  ⟨some 18, .pick (.t 12) (.t 17) (.c (.bool false)), none, []⟩,
  ⟨some 19, .mv (.t 18), none, []⟩,
  ⟨some 20, .fad (.t 3) 16, some (19, true), [3]⟩,
  ⟨some 21, .load 1 false (.t 20), some (19, true), [3]⟩,
  ⟨some 22, .bin .geq (.t 21) (.c (.int .i64 0)), some (19, true), []⟩,
  ⟨some 23, .pick (.t 19) (.t 22) (.c (.bool false)), none, []⟩,
  ⟨some 24, .mv (.t 23), none, []⟩,
  ⟨some 25, .fad (.t 3) 16, some (24, true), [3]⟩,
  ⟨some 26, .load 1 false (.t 25), some (24, true), [3]⟩,
  ⟨some 27, .bin .leq (.t 26) (.c (.int .i64 65536)), some (24, true), []⟩,
  ⟨some 28, .pick (.t 24) (.t 27) (.c (.bool false)), none, []⟩,
  ⟨some 29, .mv (.t 28), none, []⟩,
  ⟨some 30, .fad (.t 3) 2, some (29, true), [3]⟩,
  ⟨some 31, .load 10 true (.t 30), some (29, true), [3]⟩,
  ⟨some 32, .fad (.t 2) 0, some (29, true), [2]⟩,
  ⟨some 33, .load 1 false (.t 32), some (29, true), [2]⟩,
  ⟨some 34, .call 115 [.t 31, .t 33], some (29, true), []⟩,
  ⟨some 35, .pick (.t 29) (.t 34) (.c (.bool false)), none, []⟩,
  ⟨some 36, .mv (.t 35), none, []⟩,
  ⟨some 37, .load 6 true (.t 2), some (36, true), [2]⟩,
  ⟨some 38, .load 17 true (.t 3), some (36, true), [3]⟩,
  ⟨some 39, .call 116 [.t 37, .t 38], some (36, true), []⟩,
  ⟨some 40, .pick (.t 36) (.t 39) (.c (.bool false)), none, []⟩,
  ⟨some 4, .mv (.t 40), none, []⟩] [4]
def c56_2 : ACode := .seq c56_1 .ret
def c56_3 : ACode := .seq c56_0 c56_2
def a56 : AFun := ⟨2, 41, c56_3, [.t 4]⟩
theorem m56 : mFun Try.prog Try.f56 a56 = true := by decide +kernel
/- copse/query.Breaks -/
def c57_0 : ACode := .ops [⟨some 4, .box (.t 0) 6, none, []⟩,
  ⟨some 5, .box (.t 1) 17, none, []⟩,
  ⟨some 6, .box (.t 2) 4, none, []⟩,
  ⟨some 8, .mv (.c (.bool false)), none, []⟩] [3, 4, 5, 6]
def c57_1 : ACode := .ops [⟨some 12, .load 6 true (.t 4), none, [4]⟩,
  ⟨some 13, .load 17 true (.t 5), none, [5]⟩,
  ⟨some 14, .call 56 [.t 12, .t 13], none, []⟩,
  ⟨some 15, .un .not (.t 14), none, []⟩] [3, 4, 5, 6, 15]
def c57_2 : ACode := .ops [⟨some 8, .mv (.c (.bool false)), none, []⟩] [8]
def c57_3 : ACode := .seq c57_2 .ret
def c57_4 : ACode := .cond (.t 15) c57_3 .skip
def c57_5 : ACode := .seq c57_1 c57_4
def c57_6 : ACode := .ops [⟨some 16, .load 6 true (.t 4), none, [4]⟩,
  ⟨some 17, .fad (.t 5) 1, none, [5]⟩,
  ⟨some 18, .load 1 false (.t 17), none, [5]⟩,
  ⟨some 19, .load 4 true (.t 6), none, [6]⟩,
  ⟨some 20, .call 69 [.t 16, .t 18, .t 19], none, []⟩,
  ⟨some 9, .mv (.t 20), none, []⟩] [3, 4, 5, 6, 9]
def c57_7 : ACode := .ops [⟨some 21, .fad (.t 5) 0, none, [5]⟩,
  ⟨some 22, .load 1 false (.t 21), none, [5]⟩] [3, 4, 5, 6, 9, 22]
def c57_8 : ACode := .ops [⟨some 24, .bin .eql (.t 22) (.c (.int .i64 1)), none, []⟩,
  ⟨some 23, .mv (.t 24), none, []⟩] [3, 4, 5, 6, 9, 22, 23]
def c57_9 : ACode := .ops [⟨some 25, .fad (.t 5) 12, none, [5]⟩,
  ⟨some 26, .load 1 false (.t 25), none, [5]⟩,
  ⟨some 27, .fad (.t 5) 13, none, [5]⟩,
  ⟨some 28, .load 1 false (.t 27), none, [5]⟩,
  ⟨some 29, .build [.int .i64 0, .int .i64 0] [(0, 1, .t 26), (1, 1, .t 28)], none, []⟩,
  ⟨some 30, .mv (.t 9), none, []⟩,
  ⟨some 31, .call 117 [.t 29, .t 30], none, []⟩,
  ⟨some 32, .un .not (.t 31), none, []⟩,
  ⟨some 8, .mv (.t 32), none, []⟩] [8]
def c57_10 : ACode := .seq c57_9 .ret
def c57_11 : ACode := .ops [⟨some 34, .bin .eql (.t 22) (.c (.int .i64 2)), none, []⟩,
  ⟨some 33, .mv (.t 34), none, []⟩] [3, 4, 5, 6, 9, 33]
def c57_12 : ACode := .ops [⟨some 35, .fad (.t 4) 1, none, [4]⟩,
  ⟨some 36, .load 1 false (.t 35), none, [4]⟩,
  ⟨some 37, .mv (.c (.int .i64 0)), none, []⟩] [4, 5, 6, 9, 36, 37]
def c57_13 : ACode := .ops [⟨some 38, .bin .lss (.t 37) (.t 36), none, []⟩] [4, 5, 6, 9, 36, 37, 38]
def c57_14 : ACode := .cond (.t 38) .skip (.exit 1)
def c57_15 : ACode := .ops [⟨some 39, .mv (.t 37), none, []⟩,
  ⟨some 10, .mv (.t 39), none, []⟩] [4, 5, 6, 9, 10, 36, 37]
def c57_16 : ACode := .ops [⟨some 40, .mv (.t 10), none, []⟩,
  ⟨some 41, .fad (.t 5) 1, none, [5]⟩,
  ⟨some 42, .load 1 false (.t 41), none, [5]⟩,
  ⟨some 43, .bin .neq (.t 40) (.t 42), none, []⟩,
  ⟨some 44, .mv (.t 43), none, []⟩,
  ⟨some 45, .load 6 true (.t 4), some (44, true), [4]⟩,
  ⟨some 46, .mv (.t 10), some (44, true), []⟩,
  ⟨some 47, .load 4 true (.t 6), some (44, true), [6]⟩,
  ⟨some 48, .call 69 [.t 45, .t 46, .t 47], some (44, true), []⟩,
  ⟨some 49, .mv (.t 9), some (44, true), []⟩,
  ⟨some 50, .bin .geq (.t 48) (.t 49), some (44, true), []⟩,
  ⟨some 51, .pick (.t 44) (.t 50) (.c (.bool false)), none, []⟩] [4, 5, 6, 9, 36, 37, 51]
def c57_17 : ACode := .ops [⟨some 8, .mv (.c (.bool true)), none, []⟩] [8]
def c57_18 : ACode := .seq c57_17 .ret
def c57_19 : ACode := .cond (.t 51) c57_18 .skip
def c57_20 : ACode := .seq c57_16 c57_19
def c57_21 : ACode := .seq c57_15 c57_20
def c57_22 : ACode := .block 2 c57_21
def c57_23 : ACode := .ops [⟨some 52, .bin .add (.t 37) (.c (.int .i64 1)), none, []⟩,
  ⟨some 37, .mv (.t 52), none, []⟩] [4, 5, 6, 9, 36, 37]
def c57_24 : ACode := .seq c57_22 c57_23
def c57_25 : ACode := .seq c57_14 c57_24
def c57_26 : ACode := .seq c57_13 c57_25
def c57_27 : ACode := .keep [4, 5, 6, 9, 36, 37] [4, 5, 6] c57_26
def c57_28 : ACode := .loop c57_27
def c57_29 : ACode := .block 1 c57_28
def c57_30 : ACode := .seq c57_12 c57_29
def c57_31 : ACode := .ops [⟨some 8, .mv (.c (.bool false)), none, []⟩] [8]
def c57_32 : ACode := .seq c57_31 .ret
def c57_33 : ACode := .seq c57_30 c57_32
def c57_34 : ACode := .cond (.t 33) c57_33 .skip
def c57_35 : ACode := .seq c57_11 c57_34
def c57_36 : ACode := .cond (.t 23) c57_10 c57_35
def c57_37 : ACode := .seq c57_8 c57_36
def c57_38 : ACode := .block 0 c57_37
def c57_39 : ACode := .seq c57_7 c57_38
def c57_40 : ACode := .ops [⟨some 53, .fad (.t 5) 14, none, [5]⟩,
  ⟨some 54, .load 1 false (.t 53), none, [5]⟩,
  ⟨some 55, .iad (.t 6) (.t 54) 1 4, none, [6]⟩,
  ⟨some 56, .load 1 false (.t 55), none, [6]⟩,
  ⟨some 57, .mv (.t 3), none, []⟩,
  ⟨some 58, .bin .geq (.t 56) (.t 57), none, []⟩] [3, 4, 5, 6, 9, 58]
def c57_41 : ACode := .ops [⟨some 8, .mv (.c (.bool false)), none, []⟩] [8]
def c57_42 : ACode := .seq c57_41 .ret
def c57_43 : ACode := .cond (.t 58) c57_42 .skip
def c57_44 : ACode := .seq c57_40 c57_43
def c57_45 : ACode := .ops [⟨some 59, .load 6 true (.t 4), none, [4]⟩,
  ⟨some 60, .fad (.t 5) 1, none, [5]⟩,
  ⟨some 61, .load 1 false (.t 60), none, [5]⟩,
  ⟨some 62, .load 17 true (.t 5), none, [5]⟩,
  ⟨some 63, .load 4 true (.t 6), none, [6]⟩,
  ⟨some 64, .mv (.t 3), none, []⟩,
  ⟨some 65, .call 64 [.t 62, .t 63, .t 64], none, []⟩,
  ⟨some 66, .call 69 [.t 59, .t 61, .t 65], none, []⟩,
  ⟨some 11, .mv (.t 66), none, []⟩] [5, 9, 11]
def c57_46 : ACode := .ops [⟨some 67, .fad (.t 5) 15, none, [5]⟩,
  ⟨some 68, .load 1 false (.t 67), none, [5]⟩] [9, 11, 68]
def c57_47 : ACode := .ops [⟨some 69, .mv (.t 11), none, []⟩,
  ⟨some 70, .mv (.t 9), none, []⟩,
  ⟨some 71, .bin .gtr (.t 69) (.t 70), none, []⟩,
  ⟨some 8, .mv (.t 71), none, []⟩] [8]
def c57_48 : ACode := .seq c57_47 .ret
def c57_49 : ACode := .cond (.t 68) c57_48 .skip
def c57_50 : ACode := .seq c57_46 c57_49
def c57_51 : ACode := .ops [⟨some 72, .mv (.t 11), none, []⟩,
  ⟨some 73, .mv (.t 9), none, []⟩,
  ⟨some 74, .bin .lss (.t 72) (.t 73), none, []⟩,
  ⟨some 8, .mv (.t 74), none, []⟩] [8]
def c57_52 : ACode := .seq c57_51 .ret
def c57_53 : ACode := .seq c57_50 c57_52
def c57_54 : ACode := .seq c57_45 c57_53
def c57_55 : ACode := .seq c57_44 c57_54
def c57_56 : ACode := .seq c57_39 c57_55
def c57_57 : ACode := .seq c57_6 c57_56
def c57_58 : ACode := .seq c57_5 c57_57
def c57_59 : ACode := .seq c57_0 c57_58
def a57 : AFun := ⟨4, 75, c57_59, [.t 8]⟩
theorem m57 : mFun Try.prog Try.f57 a57 = true := by decide +kernel
/- copse/query.Start -/
def c58_0 : ACode := .ops [⟨some 1, .box (.t 0) 17, none, []⟩,
  ⟨some 2, .alloc [.int .i64 0, .int .i64 0, .int .i64 0, .int .i64 0, .int .i64 0, .int .i64 0, .int .i64 0, .int .i64 0, .int .i64 0, .int .i64 0], none, []⟩] [1, 2]
def c58_1 : ACode := .ops [⟨some 4, .fad (.t 1) 2, none, [1]⟩,
  ⟨some 5, .load 10 true (.t 4), none, [1]⟩,
  ⟨some 3, .alloc [.int .i64 0, .int .i64 0, .int .i64 0, .int .i64 0, .int .i64 0, .int .i64 0, .int .i64 0, .int .i64 0, .int .i64 0, .int .i64 0], none, []⟩,
  ⟨none, .store (.t 3) 10 (.t 5), none, [3]⟩] [1, 2, 3]
def c58_2 : ACode := .ops [⟨some 6, .build [.int .i64 0, .int .i64 0] [], none, []⟩,
  ⟨some 7, .iad (.t 3) (.c (.int .i64 4)) 2 5, none, [3]⟩,
  ⟨none, .store (.t 7) 2 (.t 6), none, [3]⟩] [1, 2, 3]
def c58_3 : ACode := .ops [⟨some 8, .load 17 true (.t 1), none, [1]⟩,
  ⟨some 9, .call 118 [.t 8], none, []⟩] [1, 2, 3, 9]
def c58_4 : ACode := .ops [⟨some 10, .fad (.t 1) 14, none, [1]⟩,
  ⟨some 11, .load 1 false (.t 10), none, [1]⟩,
  ⟨some 12, .iad (.t 3) (.t 11) 2 5, none, [3]⟩,
  ⟨some 13, .load 2 true (.t 12), none, [3]⟩,
  ⟨some 14, .iad (.t 3) (.c (.int .i64 4)) 2 5, none, [3]⟩,
  ⟨none, .store (.t 14) 2 (.t 13), none, [3]⟩] [2, 3]
def c58_5 : ACode := .cond (.t 9) c58_4 .skip
def c58_6 : ACode := .seq c58_3 c58_5
def c58_7 : ACode := .ops [⟨some 15, .load 10 true (.t 3), none, [3]⟩,
  ⟨none, .store (.t 2) 10 (.t 15), none, [2]⟩] [2]
def c58_8 : ACode := .seq c58_7 .ret
def c58_9 : ACode := .seq c58_6 c58_8
def c58_10 : ACode := .seq c58_2 c58_9
def c58_11 : ACode := .seq c58_1 c58_10
def c58_12 : ACode := .seq c58_0 c58_11
def a58 : AFun := ⟨1, 16, c58_12, [.cell 2 10 true]⟩
theorem m58 : mFun Try.prog Try.f58 a58 = true := by decide +kernel
/- copse/query.Second -/
def c64_0 : ACode := .ops [⟨some 3, .box (.t 0) 17, none, []⟩,
  ⟨some 4, .box (.t 1) 4, none, []⟩,
  ⟨some 6, .alloc [.int .i64 0, .int .i64 0, .int .i64 0, .int .i64 0], none, []⟩] [2, 3, 4, 6]
def c64_1 : ACode := .ops [⟨some 7, .load 17 true (.t 3), none, [3]⟩,
  ⟨some 8, .call 118 [.t 7], none, []⟩] [2, 3, 4, 6, 8]
def c64_2 : ACode := .ops [⟨some 9, .fad (.t 3) 14, none, [3]⟩,
  ⟨some 10, .load 1 false (.t 9), none, [3]⟩,
  ⟨some 11, .mv (.t 2), none, []⟩,
  ⟨some 12, .iad (.t 4) (.t 10) 1 4, none, [4]⟩,
  ⟨none, .store (.t 12) 1 (.t 11), none, [4]⟩] [4, 6]
def c64_3 : ACode := .cond (.t 8) c64_2 .skip
def c64_4 : ACode := .seq c64_1 c64_3
def c64_5 : ACode := .ops [⟨some 13, .load 4 true (.t 4), none, [4]⟩,
  ⟨none, .store (.t 6) 4 (.t 13), none, [6]⟩] [6]
def c64_6 : ACode := .seq c64_5 .ret
def c64_7 : ACode := .seq c64_4 c64_6
def c64_8 : ACode := .seq c64_0 c64_7
def a64 : AFun := ⟨3, 14, c64_8, [.cell 6 4 true]⟩
theorem m64 : mFun Try.prog Try.f64 a64 = true := by decide +kernel
/- copse/box.Has -/
def c87_0 : ACode := .ops [⟨some 3, .box (.t 0) 10, none, []⟩,
  ⟨some 4, .box (.t 1) 4, none, []⟩,
  ⟨some 6, .mv (.c (.bool false)), none, []⟩] [2, 3, 4]
def c87_1 : ACode := .ops [⟨some 9, .load 4 true (.t 4), none, [4]⟩,
  ⟨some 10, .mv (.c (.int .i64 0)), none, []⟩] [2, 3, 9, 10]
def c87_2 : ACode := .ops [⟨some 11, .bin .lss (.t 10) (.c (.int .i64 4)), none, []⟩] [2, 3, 9, 10, 11]
def c87_3 : ACode := .cond (.t 11) .skip (.exit 0)
def c87_4 : ACode := .ops [⟨some 12, .mv (.t 10), none, []⟩,
  ⟨some 13, .idx (.t 9) (.t 10) 1 4 false, none, []⟩,
  ⟨some 7, .mv (.t 12), none, []⟩,
  ⟨some 8, .mv (.t 13), none, []⟩] [2, 3, 7, 8, 9, 10]
def c87_5 : ACode := .ops [⟨some 14, .mv (.t 7), none, []⟩,
  ⟨some 15, .iad (.t 3) (.t 14) 2 5, none, [3]⟩,
  ⟨some 16, .load 2 true (.t 15), none, [3]⟩,
  ⟨some 17, .mv (.t 8), none, []⟩,
  ⟨some 18, .call 117 [.t 16, .t 17], none, []⟩,
  ⟨some 19, .un .not (.t 18), none, []⟩] [2, 3, 9, 10, 19]
def c87_6 : ACode := .ops [⟨some 6, .mv (.c (.bool false)), none, []⟩] [6]
def c87_7 : ACode := .seq c87_6 .ret
def c87_8 : ACode := .cond (.t 19) c87_7 .skip
def c87_9 : ACode := .seq c87_5 c87_8
def c87_10 : ACode := .seq c87_4 c87_9
def c87_11 : ACode := .block 1 c87_10
def c87_12 : ACode := .ops [⟨some 20, .bin .add (.t 10) (.c (.int .i64 1)), none, []⟩,
  ⟨some 10, .mv (.t 20), none, []⟩] [2, 3, 9, 10]
def c87_13 : ACode := .seq c87_11 c87_12
def c87_14 : ACode := .seq c87_3 c87_13
def c87_15 : ACode := .seq c87_2 c87_14
def c87_16 : ACode := .keep [2, 3, 9, 10] [3] c87_15
def c87_17 : ACode := .loop c87_16
def c87_18 : ACode := .block 0 c87_17
def c87_19 : ACode := .seq c87_1 c87_18
def c87_20 : ACode := .ops [⟨some 21, .iad (.t 3) (.c (.int .i64 4)) 2 5, none, [3]⟩,
  ⟨some 22, .load 2 true (.t 21), none, [3]⟩,
  ⟨some 23, .mv (.t 2), none, []⟩,
  ⟨some 24, .call 117 [.t 22, .t 23], none, []⟩,
  ⟨some 6, .mv (.t 24), none, []⟩] [6]
def c87_21 : ACode := .seq c87_20 .ret
def c87_22 : ACode := .seq c87_19 c87_21
def c87_23 : ACode := .seq c87_0 c87_22
def a87 : AFun := ⟨3, 25, c87_23, [.t 6]⟩
theorem m87 : mFun Try.prog Try.f87 a87 = true := by decide +kernel
/- copse/check.Proves -/
def c88_0 : ACode := .ops [⟨some 3, .box (.t 0) 6, none, []⟩,
  ⟨some 4, .box (.t 1) 17, none, []⟩,
  ⟨some 5, .box (.t 2) 8, none, []⟩,
  ⟨some 6, .mv (.c (.bool false)), none, []⟩] [3, 4, 5]
def c88_1 : ACode := .ops [⟨some 12, .load 6 true (.t 3), none, [3]⟩,
  ⟨some 13, .load 17 true (.t 4), none, [4]⟩,
  ⟨some 14, .call 56 [.t 12, .t 13], none, []⟩,
  ⟨some 15, .un .not (.t 14), none, []⟩] [3, 4, 5, 15]
def c88_2 : ACode := .ops [⟨some 6, .mv (.c (.bool false)), none, []⟩] [6]
def c88_3 : ACode := .seq c88_2 .ret
def c88_4 : ACode := .cond (.t 15) c88_3 .skip
def c88_5 : ACode := .seq c88_1 c88_4
def c88_6 : ACode := .ops [⟨some 16, .load 17 true (.t 4), none, [4]⟩,
  ⟨some 17, .call 58 [.t 16], none, []⟩,
  ⟨some 7, .alloc [.int .i64 0, .int .i64 0, .int .i64 0, .int .i64 0, .int .i64 0, .int .i64 0, .int .i64 0, .int .i64 0, .int .i64 0, .int .i64 0], none, []⟩,
  ⟨none, .store (.t 7) 10 (.t 17), none, [7]⟩] [3, 4, 5, 7]
def c88_7 : ACode := .ops [⟨some 18, .fad (.t 5) 0, none, [5]⟩,
  ⟨some 19, .load 1 false (.t 18), none, [5]⟩] [3, 4, 5, 7, 19]
def c88_8 : ACode := .ops [⟨some 21, .bin .eql (.t 19) (.c (.int .i64 1)), none, []⟩,
  ⟨some 20, .mv (.t 21), none, []⟩] [3, 4, 5, 7, 19, 20]
def c88_9 : ACode := .ops [⟨some 23, .load 10 true (.t 7), none, [7]⟩,
  ⟨some 24, .fad (.t 5) 1, none, [5]⟩,
  ⟨some 25, .load 1 false (.t 24), none, [5]⟩,
  ⟨some 26, .call 137 [.t 23, .t 25], none, []⟩,
  ⟨some 22, .mv (.t 26), none, []⟩,
  ⟨some 27, .ext (.t 22) 0, none, []⟩,
  ⟨some 28, .ext (.t 22) 1, none, []⟩,
  ⟨some 8, .mv (.t 27), none, []⟩,
  ⟨some 9, .mv (.t 28), none, []⟩] [3, 4, 8, 9]
def c88_10 : ACode := .ops [⟨some 29, .mv (.t 8), none, []⟩,
  ⟨some 30, .len (.t 29), none, []⟩,
  ⟨some 31, .mv (.c (.int .i64 0)), none, []⟩] [3, 4, 9, 29, 30, 31]
def c88_11 : ACode := .ops [⟨some 32, .bin .lss (.t 31) (.t 30), none, []⟩] [3, 4, 9, 29, 30, 31, 32]
def c88_12 : ACode := .cond (.t 32) .skip (.exit 1)
def c88_13 : ACode := .ops [⟨some 33, .ias (.t 29) (.t 31) 10, none, []⟩,
  ⟨some 34, .load 10 true (.t 33), none, []⟩,
  ⟨some 11, .alloc [.int .i64 0, .int .i64 0, .int .i64 0, .int .i64 0, .int .i64 0, .int .i64 0, .int .i64 0, .int .i64 0, .int .i64 0, .int .i64 0], none, []⟩,
  ⟨none, .store (.t 11) 10 (.t 34), none, [11]⟩] [3, 4, 9, 11, 29, 30, 31]
def c88_14 : ACode := .ops [⟨some 35, .load 6 true (.t 3), none, [3]⟩,
  ⟨some 36, .load 17 true (.t 4), none, [4]⟩,
  ⟨some 37, .load 10 true (.t 11), none, [11]⟩,
  ⟨some 38, .call 138 [.t 35, .t 36, .t 37], none, []⟩,
  ⟨some 39, .un .not (.t 38), none, []⟩] [3, 4, 9, 29, 30, 31, 39]
def c88_15 : ACode := .ops [⟨some 6, .mv (.c (.bool false)), none, []⟩] [6]
def c88_16 : ACode := .seq c88_15 .ret
def c88_17 : ACode := .cond (.t 39) c88_16 .skip
def c88_18 : ACode := .seq c88_14 c88_17
def c88_19 : ACode := .seq c88_13 c88_18
def c88_20 : ACode := .block 2 c88_19
def c88_21 : ACode := .ops [⟨some 40, .bin .add (.t 31) (.c (.int .i64 1)), none, []⟩,
  ⟨some 31, .mv (.t 40), none, []⟩] [3, 4, 9, 29, 30, 31]
def c88_22 : ACode := .seq c88_20 c88_21
def c88_23 : ACode := .seq c88_12 c88_22
def c88_24 : ACode := .seq c88_11 c88_23
def c88_25 : ACode := .keep [3, 4, 9, 29, 30, 31] [3, 4] c88_24
def c88_26 : ACode := .loop c88_25
def c88_27 : ACode := .block 1 c88_26
def c88_28 : ACode := .seq c88_10 c88_27
def c88_29 : ACode := .ops [⟨some 41, .mv (.t 9), none, []⟩,
  ⟨some 6, .mv (.t 41), none, []⟩] [6]
def c88_30 : ACode := .seq c88_29 .ret
def c88_31 : ACode := .seq c88_28 c88_30
def c88_32 : ACode := .seq c88_9 c88_31
def c88_33 : ACode := .ops [⟨some 43, .bin .eql (.t 19) (.c (.int .i64 2)), none, []⟩,
  ⟨some 42, .mv (.t 43), none, []⟩] [3, 4, 5, 7, 42]
def c88_34 : ACode := .ops [⟨some 44, .load 10 true (.t 7), none, [7]⟩,
  ⟨some 45, .fad (.t 5) 2, none, [5]⟩,
  ⟨some 46, .load 4 true (.t 45), none, [5]⟩,
  ⟨some 47, .fad (.t 5) 6, none, [5]⟩,
  ⟨some 48, .load 1 false (.t 47), none, [5]⟩,
  ⟨some 49, .call 87 [.t 44, .t 46, .t 48], none, []⟩,
  ⟨some 50, .mv (.t 49), none, []⟩,
  ⟨some 51, .load 6 true (.t 3), some (50, true), [3]⟩,
  ⟨some 52, .load 17 true (.t 4), some (50, true), [4]⟩,
  ⟨some 53, .fad (.t 5) 2, some (50, true), [5]⟩,
  ⟨some 54, .load 4 true (.t 53), some (50, true), [5]⟩,
  ⟨some 55, .fad (.t 5) 6, some (50, true), [5]⟩,
  ⟨some 56, .load 1 false (.t 55), some (50, true), [5]⟩,
  ⟨some 57, .call 57 [.t 51, .t 52, .t 54, .t 56], some (50, true), []⟩,
  ⟨some 58, .pick (.t 50) (.t 57) (.c (.bool false)), none, []⟩,
  ⟨some 6, .mv (.t 58), none, []⟩] [6]
def c88_35 : ACode := .seq c88_34 .ret
def c88_36 : ACode := .cond (.t 42) c88_35 .skip
def c88_37 : ACode := .seq c88_33 c88_36
def c88_38 : ACode := .cond (.t 20) c88_32 c88_37
def c88_39 : ACode := .seq c88_8 c88_38
def c88_40 : ACode := .block 0 c88_39
def c88_41 : ACode := .seq c88_7 c88_40
def c88_42 : ACode := .ops [⟨some 6, .mv (.c (.bool false)), none, []⟩] [6]
def c88_43 : ACode := .seq c88_42 .ret
def c88_44 : ACode := .seq c88_41 c88_43
def c88_45 : ACode := .seq c88_6 c88_44
def c88_46 : ACode := .seq c88_5 c88_45
def c88_47 : ACode := .seq c88_0 c88_46
def a88 : AFun := ⟨3, 59, c88_47, [.t 6]⟩
theorem m88 : mFun Try.prog Try.f88 a88 = true := by decide +kernel
/- copse/query.region -/
def c115_0 : ACode := .ops [⟨some 2, .box (.t 0) 10, none, []⟩,
  ⟨some 4, .mv (.c (.bool false)), none, []⟩] [1, 2]
def c115_1 : ACode := .ops [⟨some 7, .load 10 true (.t 2), none, [2]⟩,
  ⟨some 8, .mv (.c (.int .i64 0)), none, []⟩] [1, 7, 8]
def c115_2 : ACode := .ops [⟨some 9, .bin .lss (.t 8) (.c (.int .i64 5)), none, []⟩] [1, 7, 8, 9]
def c115_3 : ACode := .cond (.t 9) .skip (.exit 0)
def c115_4 : ACode := .ops [⟨some 10, .mv (.t 8), none, []⟩,
  ⟨some 11, .idx (.t 7) (.t 8) 2 5 true, none, []⟩,
  ⟨some 6, .alloc [.int .i64 0, .int .i64 0], none, []⟩,
  ⟨some 5, .mv (.t 10), none, []⟩,
  ⟨none, .store (.t 6) 2 (.t 11), none, [6]⟩] [1, 5, 6, 7, 8]
def c115_5 : ACode := .ops [⟨some 12, .mv (.t 5), none, []⟩,
  ⟨some 13, .mv (.t 1), none, []⟩,
  ⟨some 14, .bin .geq (.t 12) (.t 13), none, []⟩,
  ⟨some 15, .mv (.t 14), none, []⟩,
  ⟨some 16, .load 2 true (.t 6), some (15, true), [6]⟩,
  ⟨some 17, .build [.int .i64 0, .int .i64 0] [], some (15, true), []⟩,
  ⟨some 18, .eqa true [false, false] (.t 16) (.t 17), some (15, true), []⟩,
  ⟨some 19, .pick (.t 15) (.t 18) (.c (.bool false)), none, []⟩] [1, 6, 7, 8, 19]
def c115_6 : ACode := .ops [⟨some 4, .mv (.c (.bool false)), none, []⟩] [4]
def c115_7 : ACode := .seq c115_6 .ret
def c115_8 : ACode := .cond (.t 19) c115_7 .skip
def c115_9 : ACode := .seq c115_5 c115_8
def c115_10 : ACode := .ops [⟨some 20, .load 2 true (.t 6), none, [6]⟩,
  ⟨some 21, .call 121 [.t 20], none, []⟩,
  ⟨some 22, .mv (.t 21), none, []⟩,
  ⟨some 23, .fad (.t 6) 0, some (22, false), [6]⟩,
  ⟨some 24, .load 1 false (.t 23), some (22, false), [6]⟩,
  ⟨some 25, .call 123 [.t 24, .c (.int .i64 32)], some (22, false), []⟩,
  ⟨some 26, .un .not (.t 25), some (22, false), []⟩,
  ⟨some 27, .pick (.t 22) (.c (.bool true)) (.t 26), none, []⟩,
  ⟨some 28, .mv (.t 27), none, []⟩,
  ⟨some 29, .fad (.t 6) 1, some (28, false), [6]⟩,
  ⟨some 30, .load 1 false (.t 29), some (28, false), [6]⟩,
  ⟨some 31, .call 123 [.t 30, .c (.int .i64 32)], some (28, false), []⟩,
  ⟨some 32, .un .not (.t 31), some (28, false), []⟩,
  ⟨some 33, .pick (.t 28) (.c (.bool true)) (.t 32), none, []⟩] [1, 7, 8, 33]
def c115_11 : ACode := .ops [⟨some 4, .mv (.c (.bool false)), none, []⟩] [4]
def c115_12 : ACode := .seq c115_11 .ret
def c115_13 : ACode := .cond (.t 33) c115_12 .skip
def c115_14 : ACode := .seq c115_10 c115_13
def c115_15 : ACode := .seq c115_9 c115_14
def c115_16 : ACode := .seq c115_4 c115_15
def c115_17 : ACode := .block 1 c115_16
def c115_18 : ACode := .ops [⟨some 34, .bin .add (.t 8) (.c (.int .i64 1)), none, []⟩,
  ⟨some 8, .mv (.t 34), none, []⟩] [1, 7, 8]
def c115_19 : ACode := .seq c115_17 c115_18
def c115_20 : ACode := .seq c115_3 c115_19
def c115_21 : ACode := .seq c115_2 c115_20
def c115_22 : ACode := .keep [1, 7, 8] [] c115_21
def c115_23 : ACode := .loop c115_22
def c115_24 : ACode := .block 0 c115_23
def c115_25 : ACode := .seq c115_1 c115_24
def c115_26 : ACode := .ops [⟨some 4, .mv (.c (.bool true)), none, []⟩] [4]
def c115_27 : ACode := .seq c115_26 .ret
def c115_28 : ACode := .seq c115_25 c115_27
def c115_29 : ACode := .seq c115_0 c115_28
def a115 : AFun := ⟨2, 35, c115_29, [.t 4]⟩
theorem m115 : mFun Try.prog Try.f115 a115 = true := by decide +kernel
/- copse/query.kind -/
def c116_0 : ACode := .ops [⟨some 2, .box (.t 0) 6, none, []⟩,
  ⟨some 3, .box (.t 1) 17, none, []⟩,
  ⟨some 4, .mv (.c (.bool false)), none, []⟩] [2, 3]
def c116_1 : ACode := .ops [⟨some 5, .fad (.t 3) 0, none, [3]⟩,
  ⟨some 6, .load 1 false (.t 5), none, [3]⟩] [2, 3, 6]
def c116_2 : ACode := .ops [⟨some 8, .bin .eql (.t 6) (.c (.int .i64 1)), none, []⟩,
  ⟨some 7, .mv (.t 8), none, []⟩] [2, 3, 6, 7]
def c116_3 : ACode := .ops [⟨some 9, .fad (.t 3) 12, none, [3]⟩,
  ⟨some 10, .load 1 false (.t 9), none, [3]⟩,
  ⟨some 11, .fad (.t 3) 13, none, [3]⟩,
  ⟨some 12, .load 1 false (.t 11), none, [3]⟩,
  ⟨some 13, .bin .leq (.t 10) (.t 12), none, []⟩,
  ⟨some 14, .mv (.t 13), none, []⟩,
  ⟨some 15, .fad (.t 3) 14, some (14, true), [3]⟩,
  ⟨some 16, .load 1 false (.t 15), some (14, true), [3]⟩,
  ⟨some 17, .bin .eql (.t 16) (.c (.int .i64 0)), some (14, true), []⟩,
  ⟨some 18, .pick (.t 14) (.t 17) (.c (.bool false)), none, []⟩,
  ⟨some 19, .mv (.t 18), none, []⟩,
  ⟨some 20, .fad (.t 3) 15, some (19, true), [3]⟩,
  ⟨some 21, .load 1 false (.t 20), some (19, true), [3]⟩,
  ⟨some 22, .un .not (.t 21), some (19, true), []⟩,
  ⟨some 23, .pick (.t 19) (.t 22) (.c (.bool false)), none, []⟩,
  ⟨some 4, .mv (.t 23), none, []⟩] [4]
def c116_4 : ACode := .seq c116_3 .ret
def c116_5 : ACode := .ops [⟨some 25, .bin .eql (.t 6) (.c (.int .i64 2)), none, []⟩,
  ⟨some 24, .mv (.t 25), none, []⟩] [2, 3, 6, 24]
def c116_6 : ACode := .ops [⟨some 26, .fad (.t 2) 1, none, [2]⟩,
  ⟨some 27, .load 1 false (.t 26), none, [2]⟩,
  ⟨some 28, .bin .geq (.t 27) (.c (.int .i64 2)), none, []⟩,
  ⟨some 29, .mv (.t 28), none, []⟩,
  ⟨some 30, .fad (.t 3) 12, some (29, true), [3]⟩,
  ⟨some 31, .load 1 false (.t 30), some (29, true), [3]⟩,
  ⟨some 32, .bin .eql (.t 31) (.c (.int .i64 0)), some (29, true), []⟩,
  ⟨some 33, .pick (.t 29) (.t 32) (.c (.bool false)), none, []⟩,
  ⟨some 34, .mv (.t 33), none, []⟩,
  ⟨some 35, .fad (.t 3) 13, some (34, true), [3]⟩,
  ⟨some 36, .load 1 false (.t 35), some (34, true), [3]⟩,
  ⟨some 37, .bin .eql (.t 36) (.c (.int .i64 0)), some (34, true), []⟩,
  ⟨some 38, .pick (.t 34) (.t 37) (.c (.bool false)), none, []⟩,
  ⟨some 39, .mv (.t 38), none, []⟩,
  ⟨some 40, .fad (.t 3) 14, some (39, true), [3]⟩,
  ⟨some 41, .load 1 false (.t 40), some (39, true), [3]⟩,
  ⟨some 42, .bin .eql (.t 41) (.c (.int .i64 0)), some (39, true), []⟩,
  ⟨some 43, .pick (.t 39) (.t 42) (.c (.bool false)), none, []⟩,
  ⟨some 44, .mv (.t 43), none, []⟩,
  ⟨some 45, .fad (.t 3) 15, some (44, true), [3]⟩,
  ⟨some 46, .load 1 false (.t 45), some (44, true), [3]⟩,
  ⟨some 47, .un .not (.t 46), some (44, true), []⟩,
  ⟨some 48, .pick (.t 44) (.t 47) (.c (.bool false)), none, []⟩,
  ⟨some 4, .mv (.t 48), none, []⟩] [4]
def c116_7 : ACode := .seq c116_6 .ret
def c116_8 : ACode := .ops [⟨some 50, .bin .eql (.t 6) (.c (.int .i64 3)), none, []⟩,
  ⟨some 49, .mv (.t 50), none, []⟩] [2, 3, 49]
def c116_9 : ACode := .ops [⟨some 51, .fad (.t 3) 14, none, [3]⟩,
  ⟨some 52, .load 1 false (.t 51), none, [3]⟩,
  ⟨some 53, .bin .geq (.t 52) (.c (.int .i64 0)), none, []⟩,
  ⟨some 54, .mv (.t 53), none, []⟩,
  ⟨some 55, .fad (.t 3) 14, some (54, true), [3]⟩,
  ⟨some 56, .load 1 false (.t 55), some (54, true), [3]⟩,
  ⟨some 57, .fad (.t 2) 0, some (54, true), [2]⟩,
  ⟨some 58, .load 1 false (.t 57), some (54, true), [2]⟩,
  ⟨some 59, .bin .lss (.t 56) (.t 58), some (54, true), []⟩,
  ⟨some 60, .pick (.t 54) (.t 59) (.c (.bool false)), none, []⟩,
  ⟨some 61, .mv (.t 60), none, []⟩,
  ⟨some 62, .fad (.t 3) 12, some (61, true), [3]⟩,
  ⟨some 63, .load 1 false (.t 62), some (61, true), [3]⟩,
  ⟨some 64, .bin .eql (.t 63) (.c (.int .i64 0)), some (61, true), []⟩,
  ⟨some 65, .pick (.t 61) (.t 64) (.c (.bool false)), none, []⟩,
  ⟨some 66, .mv (.t 65), none, []⟩,
  ⟨some 67, .fad (.t 3) 13, some (66, true), [3]⟩,
  ⟨some 68, .load 1 false (.t 67), some (66, true), [3]⟩,
  ⟨some 69, .bin .eql (.t 68) (.c (.int .i64 0)), some (66, true), []⟩,
  ⟨some 70, .pick (.t 66) (.t 69) (.c (.bool false)), none, []⟩,
  ⟨some 4, .mv (.t 70), none, []⟩] [4]
def c116_10 : ACode := .seq c116_9 .ret
def c116_11 : ACode := .cond (.t 49) c116_10 .skip
def c116_12 : ACode := .seq c116_8 c116_11
def c116_13 : ACode := .cond (.t 24) c116_7 c116_12
def c116_14 : ACode := .seq c116_5 c116_13
def c116_15 : ACode := .cond (.t 7) c116_4 c116_14
def c116_16 : ACode := .seq c116_2 c116_15
def c116_17 : ACode := .block 0 c116_16
def c116_18 : ACode := .seq c116_1 c116_17
def c116_19 : ACode := .ops [⟨some 4, .mv (.c (.bool false)), none, []⟩] [4]
def c116_20 : ACode := .seq c116_19 .ret
def c116_21 : ACode := .seq c116_18 c116_20
def c116_22 : ACode := .seq c116_0 c116_21
def a116 : AFun := ⟨2, 71, c116_22, [.t 4]⟩
theorem m116 : mFun Try.prog Try.f116 a116 = true := by decide +kernel
/- copse/span.Has -/
def c117_0 : ACode := .ops [⟨some 2, .box (.t 0) 2, none, []⟩,
  ⟨some 4, .mv (.c (.bool false)), none, []⟩] [1, 2]
def c117_1 : ACode := .ops [⟨some 5, .fad (.t 2) 0, none, [2]⟩,
  ⟨some 6, .load 1 false (.t 5), none, [2]⟩,
  ⟨some 7, .mv (.t 1), none, []⟩,
  ⟨some 8, .bin .leq (.t 6) (.t 7), none, []⟩,
  ⟨some 9, .mv (.t 8), none, []⟩,
  ⟨some 10, .mv (.t 1), some (9, true), []⟩,
  ⟨some 11, .fad (.t 2) 1, some (9, true), [2]⟩,
  ⟨some 12, .load 1 false (.t 11), some (9, true), [2]⟩,
  ⟨some 13, .bin .leq (.t 10) (.t 12), some (9, true), []⟩,
  ⟨some 14, .pick (.t 9) (.t 13) (.c (.bool false)), none, []⟩,
  ⟨some 4, .mv (.t 14), none, []⟩] [4]
def c117_2 : ACode := .seq c117_1 .ret
def c117_3 : ACode := .seq c117_0 c117_2
def a117 : AFun := ⟨2, 15, c117_3, [.t 4]⟩
theorem m117 : mFun Try.prog Try.f117 a117 = true := by decide +kernel
/- copse/query.paired -/
def c118_0 : ACode := .ops [⟨some 1, .box (.t 0) 17, none, []⟩,
  ⟨some 2, .mv (.c (.bool false)), none, []⟩] [1]
def c118_1 : ACode := .ops [⟨some 3, .fad (.t 1) 0, none, [1]⟩,
  ⟨some 4, .load 1 false (.t 3), none, [1]⟩,
  ⟨some 5, .bin .eql (.t 4) (.c (.int .i64 3)), none, []⟩,
  ⟨some 6, .mv (.t 5), none, []⟩,
  ⟨some 7, .fad (.t 1) 14, some (6, true), [1]⟩,
  ⟨some 8, .load 1 false (.t 7), some (6, true), [1]⟩,
  ⟨some 9, .bin .geq (.t 8) (.c (.int .i64 0)), some (6, true), []⟩,
  ⟨some 10, .pick (.t 6) (.t 9) (.c (.bool false)), none, []⟩,
  ⟨some 11, .mv (.t 10), none, []⟩,
  ⟨some 12, .fad (.t 1) 14, some (11, true), [1]⟩,
  ⟨some 13, .load 1 false (.t 12), some (11, true), [1]⟩,
  ⟨some 14, .bin .lss (.t 13) (.c (.int .i64 4)), some (11, true), []⟩,
  ⟨some 15, .pick (.t 11) (.t 14) (.c (.bool false)), none, []⟩,
  ⟨some 2, .mv (.t 15), none, []⟩] [2]
def c118_2 : ACode := .seq c118_1 .ret
def c118_3 : ACode := .seq c118_0 c118_2
def a118 : AFun := ⟨1, 16, c118_3, [.t 2]⟩
theorem m118 : mFun Try.prog Try.f118 a118 = true := by decide +kernel
/- copse/proof.Sums -/
def c137_0 : ACode := .ops [⟨some 2, .box (.t 0) 10, none, []⟩,
  ⟨some 4, .mv (.c (.nils)), none, []⟩,
  ⟨some 5, .mv (.c (.bool false)), none, []⟩] [1, 2]
def c137_1 : ACode := .ops [⟨some 14, .mv (.t 1), none, []⟩,
  ⟨some 15, .call 169 [.t 14], none, []⟩,
  ⟨some 16, .un .not (.t 15), none, []⟩] [1, 2, 16]
def c137_2 : ACode := .ops [⟨some 4, .mv (.c (.nils)), none, []⟩,
  ⟨some 5, .mv (.c (.bool false)), none, []⟩] [4, 5]
def c137_3 : ACode := .seq c137_2 .ret
def c137_4 : ACode := .cond (.t 16) c137_3 .skip
def c137_5 : ACode := .seq c137_1 c137_4
def c137_6 : ACode := .ops [⟨some 17, .load 10 true (.t 2), none, [2]⟩,
  ⟨some 18, .mkrow 6 1 10 [.int .i64 0, .int .i64 0, .int .i64 0, .int .i64 0, .int .i64 0, .int .i64 0, .int .i64 0, .int .i64 0, .int .i64 0, .int .i64 0] [(0, 10, .t 17)], none, []⟩,
  ⟨some 6, .mv (.t 18), none, []⟩] [1, 6]
def c137_7 : ACode := .ops [⟨some 7, .nil0 7 10, none, []⟩] [1, 6, 7]
def c137_8 : ACode := .ops [⟨some 19, .mv (.t 1), none, []⟩,
  ⟨some 20, .len (.t 19), none, []⟩,
  ⟨some 21, .mv (.c (.int .i64 0)), none, []⟩] [6, 7, 19, 20, 21]
def c137_9 : ACode := .ops [⟨some 22, .bin .lss (.t 21) (.t 20), none, []⟩] [6, 7, 19, 20, 21, 22]
def c137_10 : ACode := .cond (.t 22) .skip (.exit 0)
def c137_11 : ACode := .ops [⟨some 23, .ias (.t 19) (.t 21) 3, none, []⟩,
  ⟨some 24, .load 3 true (.t 23), none, []⟩,
  ⟨some 9, .alloc [.bool false, .int .i64 0, .int .i64 0], none, []⟩,
  ⟨none, .store (.t 9) 3 (.t 24), none, [9]⟩] [6, 7, 9, 19, 20, 21]
def c137_12 : ACode := .ops [⟨some 25, .mv (.t 6), none, []⟩,
  ⟨some 26, .len (.t 25), none, [6]⟩,
  ⟨some 27, .bin .sub (.t 26) (.c (.int .i64 1)), none, []⟩,
  ⟨some 10, .mv (.t 27), none, []⟩] [6, 7, 9, 10, 19, 20, 21]
def c137_13 : ACode := .ops [⟨some 28, .mv (.t 6), none, []⟩,
  ⟨some 29, .mv (.t 10), none, []⟩,
  ⟨some 30, .ias (.t 28) (.t 29) 10, none, [6]⟩,
  ⟨some 31, .load 10 true (.t 30), none, [6]⟩,
  ⟨some 11, .alloc [.int .i64 0, .int .i64 0, .int .i64 0, .int .i64 0, .int .i64 0, .int .i64 0, .int .i64 0, .int .i64 0, .int .i64 0, .int .i64 0], none, []⟩,
  ⟨none, .store (.t 11) 10 (.t 31), none, [11]⟩] [6, 7, 9, 10, 11, 19, 20, 21]
def c137_14 : ACode := .ops [⟨some 32, .mv (.t 6), none, []⟩,
  ⟨some 33, .mv (.t 10), none, []⟩,
  ⟨some 34, .sl (.t 32) none (some (.t 33)) 10, none, [6]⟩,
  ⟨some 6, .mv (.t 34), none, []⟩] [6, 7, 9, 11, 19, 20, 21]
def c137_15 : ACode := .ops [⟨some 35, .fad (.t 9) 0, none, [9]⟩,
  ⟨some 36, .load 1 false (.t 35), none, [9]⟩] [6, 7, 9, 11, 19, 20, 21, 36]
def c137_16 : ACode := .ops [⟨some 37, .mv (.t 7), none, []⟩,
  ⟨some 38, .load 10 true (.t 11), none, [11]⟩,
  ⟨some 39, .mkrow 39 1 10 [.int .i64 0, .int .i64 0, .int .i64 0, .int .i64 0, .int .i64 0, .int .i64 0, .int .i64 0, .int .i64 0, .int .i64 0, .int .i64 0] [(0, 10, .t 38)], none, []⟩,
  ⟨some 40, .app 7 [7] (.t 37) (.t 39) 10, none, [7, 39]⟩,
  ⟨some 7, .mv (.t 40), none, []⟩] [6, 7, 19, 20, 21]
def c137_17 : ACode := .seq c137_16 (.exit 1)
def c137_18 : ACode := .cond (.t 36) c137_17 .skip
def c137_19 : ACode := .seq c137_15 c137_18
def c137_20 : ACode := .ops [⟨some 41, .fad (.t 9) 2, none, [9]⟩,
  ⟨some 42, .load 1 false (.t 41), none, [9]⟩,
  ⟨some 43, .fad (.t 9) 1, none, [9]⟩,
  ⟨some 44, .load 1 false (.t 43), none, [9]⟩,
  ⟨some 45, .iad (.t 11) (.t 44) 2 5, none, [11]⟩,
  ⟨some 46, .fad (.t 45) 0, none, [11]⟩,
  ⟨some 47, .load 1 false (.t 46), none, [11]⟩,
  ⟨some 48, .bin .lss (.t 42) (.t 47), none, []⟩,
  ⟨some 49, .mv (.t 48), none, []⟩,
  ⟨some 50, .fad (.t 9) 2, some (49, false), [9]⟩,
  ⟨some 51, .load 1 false (.t 50), some (49, false), [9]⟩,
  ⟨some 52, .fad (.t 9) 1, some (49, false), [9]⟩,
  ⟨some 53, .load 1 false (.t 52), some (49, false), [9]⟩,
  ⟨some 54, .iad (.t 11) (.t 53) 2 5, some (49, false), [11]⟩,
  ⟨some 55, .fad (.t 54) 1, some (49, false), [11]⟩,
  ⟨some 56, .load 1 false (.t 55), some (49, false), [11]⟩,
  ⟨some 57, .bin .geq (.t 51) (.t 56), some (49, false), []⟩,
  ⟨some 58, .pick (.t 49) (.c (.bool true)) (.t 57), none, []⟩] [6, 7, 9, 11, 19, 20, 21, 58]
def c137_21 : ACode := .ops [⟨some 4, .mv (.c (.nils)), none, []⟩,
  ⟨some 5, .mv (.c (.bool false)), none, []⟩] [4, 5]
def c137_22 : ACode := .seq c137_21 .ret
def c137_23 : ACode := .cond (.t 58) c137_22 .skip
def c137_24 : ACode := .seq c137_20 c137_23
def c137_25 : ACode := .ops [⟨some 60, .load 10 true (.t 11), none, [11]⟩,
  ⟨some 61, .fad (.t 9) 1, none, [9]⟩,
  ⟨some 62, .load 1 false (.t 61), none, [9]⟩,
  ⟨some 63, .fad (.t 9) 2, none, [9]⟩,
  ⟨some 64, .load 1 false (.t 63), none, [9]⟩,
  ⟨some 65, .call 67 [.t 60, .t 62, .t 64], none, []⟩,
  ⟨some 59, .mv (.t 65), none, []⟩,
  ⟨some 66, .ext (.t 59) 0, none, []⟩,
  ⟨some 67, .ext (.t 59) 1, none, []⟩,
  ⟨some 12, .alloc [.int .i64 0, .int .i64 0, .int .i64 0, .int .i64 0, .int .i64 0, .int .i64 0, .int .i64 0, .int .i64 0, .int .i64 0, .int .i64 0], none, []⟩,
  ⟨some 13, .alloc [.int .i64 0, .int .i64 0, .int .i64 0, .int .i64 0, .int .i64 0, .int .i64 0, .int .i64 0, .int .i64 0, .int .i64 0, .int .i64 0], none, []⟩,
  ⟨none, .store (.t 12) 10 (.t 66), none, [12]⟩,
  ⟨none, .store (.t 13) 10 (.t 67), none, [13]⟩] [6, 7, 12, 13, 19, 20, 21]
def c137_26 : ACode := .ops [⟨some 68, .mv (.t 6), none, []⟩,
  ⟨some 69, .load 10 true (.t 13), none, [13]⟩,
  ⟨some 70, .load 10 true (.t 12), none, [12]⟩,
  ⟨some 71, .mkrow 71 2 10 [.int .i64 0, .int .i64 0, .int .i64 0, .int .i64 0, .int .i64 0, .int .i64 0, .int .i64 0, .int .i64 0, .int .i64 0, .int .i64 0] [(0, 10, .t 69), (10, 10, .t 70)], none, []⟩,
  ⟨some 72, .app 6 [6] (.t 68) (.t 71) 10, none, [6, 71]⟩,
  ⟨some 6, .mv (.t 72), none, []⟩] [6, 7, 19, 20, 21]
def c137_27 : ACode := .seq c137_25 c137_26
def c137_28 : ACode := .seq c137_24 c137_27
def c137_29 : ACode := .seq c137_19 c137_28
def c137_30 : ACode := .seq c137_14 c137_29
def c137_31 : ACode := .seq c137_13 c137_30
def c137_32 : ACode := .seq c137_12 c137_31
def c137_33 : ACode := .seq c137_11 c137_32
def c137_34 : ACode := .block 1 c137_33
def c137_35 : ACode := .ops [⟨some 73, .bin .add (.t 21) (.c (.int .i64 1)), none, []⟩,
  ⟨some 21, .mv (.t 73), none, []⟩] [6, 7, 19, 20, 21]
def c137_36 : ACode := .seq c137_34 c137_35
def c137_37 : ACode := .seq c137_10 c137_36
def c137_38 : ACode := .seq c137_9 c137_37
def c137_39 : ACode := .keep [6, 7, 19, 20, 21] [6, 7] c137_38
def c137_40 : ACode := .loop c137_39
def c137_41 : ACode := .block 0 c137_40
def c137_42 : ACode := .seq c137_8 c137_41
def c137_43 : ACode := .ops [⟨some 74, .mv (.t 7), none, []⟩,
  ⟨some 4, .mv (.t 74), none, []⟩,
  ⟨some 5, .mv (.c (.bool true)), none, []⟩] [4, 5]
def c137_44 : ACode := .seq c137_43 .ret
def c137_45 : ACode := .seq c137_42 c137_44
def c137_46 : ACode := .seq c137_7 c137_45
def c137_47 : ACode := .seq c137_6 c137_46
def c137_48 : ACode := .seq c137_5 c137_47
def c137_49 : ACode := .seq c137_0 c137_48
def a137 : AFun := ⟨2, 75, c137_49, [.t 4, .t 5]⟩
theorem m137 : mFun Try.prog Try.f137 a137 = true := by decide +kernel
/- copse/check.shown -/
def c138_0 : ACode := .ops [⟨some 3, .box (.t 0) 6, none, []⟩,
  ⟨some 4, .box (.t 1) 17, none, []⟩,
  ⟨some 5, .box (.t 2) 10, none, []⟩,
  ⟨some 6, .mv (.c (.bool false)), none, []⟩] [3, 4, 5]
def c138_1 : ACode := .ops [⟨some 15, .load 10 true (.t 5), none, [5]⟩,
  ⟨some 16, .call 68 [.t 15], none, []⟩] [3, 4, 5, 16]
def c138_2 : ACode := .ops [⟨some 6, .mv (.c (.bool true)), none, []⟩] [6]
def c138_3 : ACode := .seq c138_2 .ret
def c138_4 : ACode := .cond (.t 16) c138_3 .skip
def c138_5 : ACode := .seq c138_1 c138_4
def c138_6 : ACode := .ops [⟨some 18, .load 6 true (.t 3), none, [3]⟩,
  ⟨some 19, .fad (.t 4) 1, none, [4]⟩,
  ⟨some 20, .load 1 false (.t 19), none, [4]⟩,
  ⟨some 21, .load 10 true (.t 5), none, [5]⟩,
  ⟨some 22, .call 93 [.t 18, .t 20, .t 21], none, []⟩,
  ⟨some 17, .mv (.t 22), none, []⟩,
  ⟨some 23, .ext (.t 17) 0, none, []⟩,
  ⟨some 24, .ext (.t 17) 1, none, []⟩,
  ⟨some 7, .mv (.t 23), none, []⟩,
  ⟨some 8, .mv (.t 24), none, []⟩] [3, 4, 5, 7, 8]
def c138_7 : ACode := .ops [⟨some 25, .fad (.t 4) 0, none, [4]⟩,
  ⟨some 26, .load 1 false (.t 25), none, [4]⟩] [3, 4, 5, 7, 8, 26]
def c138_8 : ACode := .ops [⟨some 28, .bin .eql (.t 26) (.c (.int .i64 1)), none, []⟩,
  ⟨some 27, .mv (.t 28), none, []⟩] [3, 4, 5, 7, 8, 26, 27]
def c138_9 : ACode := .ops [⟨some 29, .fad (.t 4) 12, none, [4]⟩,
  ⟨some 30, .load 1 false (.t 29), none, [4]⟩,
  ⟨some 31, .mv (.t 7), none, []⟩,
  ⟨some 32, .bin .leq (.t 30) (.t 31), none, []⟩,
  ⟨some 33, .mv (.t 32), none, []⟩,
  ⟨some 34, .mv (.t 8), some (33, true), []⟩,
  ⟨some 35, .fad (.t 4) 13, some (33, true), [4]⟩,
  ⟨some 36, .load 1 false (.t 35), some (33, true), [4]⟩,
  ⟨some 37, .bin .leq (.t 34) (.t 36), some (33, true), []⟩,
  ⟨some 38, .pick (.t 33) (.t 37) (.c (.bool false)), none, []⟩,
  ⟨some 6, .mv (.t 38), none, []⟩] [6]
def c138_10 : ACode := .seq c138_9 .ret
def c138_11 : ACode := .ops [⟨some 40, .bin .eql (.t 26) (.c (.int .i64 2)), none, []⟩,
  ⟨some 39, .mv (.t 40), none, []⟩] [3, 4, 5, 7, 8, 39]
def c138_12 : ACode := .ops [⟨some 41, .fad (.t 3) 1, none, [3]⟩,
  ⟨some 42, .load 1 false (.t 41), none, [3]⟩,
  ⟨some 43, .mv (.c (.int .i64 0)), none, []⟩] [3, 4, 5, 7, 42, 43]
def c138_13 : ACode := .ops [⟨some 44, .bin .lss (.t 43) (.t 42), none, []⟩] [3, 4, 5, 7, 42, 43, 44]
def c138_14 : ACode := .cond (.t 44) .skip (.exit 1)
def c138_15 : ACode := .ops [⟨some 45, .mv (.t 43), none, []⟩,
  ⟨some 9, .mv (.t 45), none, []⟩] [3, 4, 5, 7, 9, 42, 43]
def c138_16 : ACode := .ops [⟨some 47, .load 6 true (.t 3), none, [3]⟩,
  ⟨some 48, .mv (.t 9), none, []⟩,
  ⟨some 49, .load 10 true (.t 5), none, [5]⟩,
  ⟨some 50, .call 93 [.t 47, .t 48, .t 49], none, []⟩,
  ⟨some 46, .mv (.t 50), none, []⟩,
  ⟨some 51, .ext (.t 46) 0, none, []⟩,
  ⟨some 52, .ext (.t 46) 1, none, []⟩,
  ⟨some 10, .mv (.t 51), none, []⟩,
  ⟨some 11, .mv (.t 52), none, []⟩] [3, 4, 5, 7, 9, 11, 42, 43]
def c138_17 : ACode := .ops [⟨some 53, .mv (.t 9), none, []⟩,
  ⟨some 54, .fad (.t 4) 1, none, [4]⟩,
  ⟨some 55, .load 1 false (.t 54), none, [4]⟩,
  ⟨some 56, .bin .neq (.t 53) (.t 55), none, []⟩,
  ⟨some 57, .mv (.t 56), none, []⟩,
  ⟨some 58, .mv (.t 11), some (57, true), []⟩,
  ⟨some 59, .mv (.t 7), some (57, true), []⟩,
  ⟨some 60, .bin .geq (.t 58) (.t 59), some (57, true), []⟩,
  ⟨some 61, .pick (.t 57) (.t 60) (.c (.bool false)), none, []⟩] [3, 4, 5, 7, 42, 43, 61]
def c138_18 : ACode := .ops [⟨some 6, .mv (.c (.bool false)), none, []⟩] [6]
def c138_19 : ACode := .seq c138_18 .ret
def c138_20 : ACode := .cond (.t 61) c138_19 .skip
def c138_21 : ACode := .seq c138_17 c138_20
def c138_22 : ACode := .seq c138_16 c138_21
def c138_23 : ACode := .seq c138_15 c138_22
def c138_24 : ACode := .block 2 c138_23
def c138_25 : ACode := .ops [⟨some 62, .bin .add (.t 43) (.c (.int .i64 1)), none, []⟩,
  ⟨some 43, .mv (.t 62), none, []⟩] [3, 4, 5, 7, 42, 43]
def c138_26 : ACode := .seq c138_24 c138_25
def c138_27 : ACode := .seq c138_14 c138_26
def c138_28 : ACode := .seq c138_13 c138_27
def c138_29 : ACode := .keep [3, 4, 5, 7, 42, 43] [3, 4, 5] c138_28
def c138_30 : ACode := .loop c138_29
def c138_31 : ACode := .block 1 c138_30
def c138_32 : ACode := .seq c138_12 c138_31
def c138_33 : ACode := .ops [⟨some 6, .mv (.c (.bool true)), none, []⟩] [6]
def c138_34 : ACode := .seq c138_33 .ret
def c138_35 : ACode := .seq c138_32 c138_34
def c138_36 : ACode := .cond (.t 39) c138_35 .skip
def c138_37 : ACode := .seq c138_11 c138_36
def c138_38 : ACode := .cond (.t 27) c138_10 c138_37
def c138_39 : ACode := .seq c138_8 c138_38
def c138_40 : ACode := .block 0 c138_39
def c138_41 : ACode := .seq c138_7 c138_40
def c138_42 : ACode := .ops [⟨some 63, .fad (.t 4) 14, none, [4]⟩,
  ⟨some 64, .load 1 false (.t 63), none, [4]⟩,
  ⟨some 65, .iad (.t 5) (.t 64) 2 5, none, [5]⟩,
  ⟨some 66, .fad (.t 65) 0, none, [5]⟩,
  ⟨some 67, .load 1 false (.t 66), none, [5]⟩,
  ⟨some 68, .iad (.t 5) (.c (.int .i64 4)) 2 5, none, [5]⟩,
  ⟨some 69, .fad (.t 68) 1, none, [5]⟩,
  ⟨some 70, .load 1 false (.t 69), none, [5]⟩,
  ⟨some 71, .bin .geq (.t 67) (.t 70), none, []⟩] [3, 4, 5, 7, 8, 71]
def c138_43 : ACode := .ops [⟨some 6, .mv (.c (.bool true)), none, []⟩] [6]
def c138_44 : ACode := .seq c138_43 .ret
def c138_45 : ACode := .cond (.t 71) c138_44 .skip
def c138_46 : ACode := .seq c138_42 c138_45
def c138_47 : ACode := .ops [⟨some 72, .load 10 true (.t 5), none, [5]⟩,
  ⟨some 12, .alloc [.int .i64 0, .int .i64 0, .int .i64 0, .int .i64 0, .int .i64 0, .int .i64 0, .int .i64 0, .int .i64 0, .int .i64 0, .int .i64 0], none, []⟩,
  ⟨none, .store (.t 12) 10 (.t 72), none, [12]⟩] [3, 4, 5, 7, 8, 12]
def c138_48 : ACode := .ops [⟨some 73, .fad (.t 4) 14, none, [4]⟩,
  ⟨some 74, .load 1 false (.t 73), none, [4]⟩,
  ⟨some 75, .iad (.t 5) (.c (.int .i64 4)) 2 5, none, [5]⟩,
  ⟨some 76, .load 2 true (.t 75), none, [5]⟩,
  ⟨some 77, .iad (.t 12) (.t 74) 2 5, none, [12]⟩,
  ⟨none, .store (.t 77) 2 (.t 76), none, [12]⟩] [3, 4, 7, 8, 12]
def c138_49 : ACode := .ops [⟨some 79, .load 6 true (.t 3), none, [3]⟩,
  ⟨some 80, .fad (.t 4) 1, none, [4]⟩,
  ⟨some 81, .load 1 false (.t 80), none, [4]⟩,
  ⟨some 82, .load 10 true (.t 12), none, [12]⟩,
  ⟨some 83, .call 93 [.t 79, .t 81, .t 82], none, []⟩,
  ⟨some 78, .mv (.t 83), none, []⟩,
  ⟨some 84, .ext (.t 78) 0, none, []⟩,
  ⟨some 85, .ext (.t 78) 1, none, []⟩,
  ⟨some 13, .mv (.t 84), none, []⟩,
  ⟨some 14, .mv (.t 85), none, []⟩] [4, 7, 8, 13, 14]
def c138_50 : ACode := .ops [⟨some 86, .fad (.t 4) 15, none, [4]⟩,
  ⟨some 87, .load 1 false (.t 86), none, [4]⟩] [7, 8, 13, 14, 87]
def c138_51 : ACode := .ops [⟨some 88, .mv (.t 14), none, []⟩,
  ⟨some 89, .mv (.t 7), none, []⟩,
  ⟨some 90, .bin .leq (.t 88) (.t 89), none, []⟩,
  ⟨some 6, .mv (.t 90), none, []⟩] [6]
def c138_52 : ACode := .seq c138_51 .ret
def c138_53 : ACode := .cond (.t 87) c138_52 .skip
def c138_54 : ACode := .seq c138_50 c138_53
def c138_55 : ACode := .ops [⟨some 91, .mv (.t 13), none, []⟩,
  ⟨some 92, .mv (.t 8), none, []⟩,
  ⟨some 93, .bin .geq (.t 91) (.t 92), none, []⟩,
  ⟨some 6, .mv (.t 93), none, []⟩] [6]
def c138_56 : ACode := .seq c138_55 .ret
def c138_57 : ACode := .seq c138_54 c138_56
def c138_58 : ACode := .seq c138_49 c138_57
def c138_59 : ACode := .seq c138_48 c138_58
def c138_60 : ACode := .seq c138_47 c138_59
def c138_61 : ACode := .seq c138_46 c138_60
def c138_62 : ACode := .seq c138_41 c138_61
def c138_63 : ACode := .seq c138_6 c138_62
def c138_64 : ACode := .seq c138_5 c138_63
def c138_65 : ACode := .seq c138_0 c138_64
def a138 : AFun := ⟨3, 94, c138_65, [.t 6]⟩
theorem m138 : mFun Try.prog Try.f138 a138 = true := by decide +kernel
/- copse/proof.Right -/
def c169_0 : ACode := .ops [⟨some 2, .mv (.c (.bool false)), none, []⟩] [0]
def c169_1 : ACode := .ops [⟨some 3, .mv (.t 0), none, []⟩,
  ⟨some 4, .call 178 [.t 3], none, []⟩,
  ⟨some 5, .bin .gtr (.t 4) (.c (.int .i64 0)), none, []⟩,
  ⟨some 2, .mv (.t 5), none, []⟩] [2]
def c169_2 : ACode := .seq c169_1 .ret
def c169_3 : ACode := .seq c169_0 c169_2
def a169 : AFun := ⟨1, 6, c169_3, [.t 2]⟩
theorem m169 : mFun Try.prog Try.f169 a169 = true := by decide +kernel
/- copse/proof.deep -/
def c178_0 : ACode := .ops [⟨some 2, .mv (.c (.int .i64 0)), none, []⟩] [0]
def c178_1 : ACode := .ops [⟨some 7, .mv (.t 0), none, []⟩,
  ⟨some 8, .len (.t 7), none, []⟩,
  ⟨some 9, .bin .gtr (.t 8) (.c (.int .i64 65536)), none, []⟩] [0, 9]
def c178_2 : ACode := .ops [⟨some 2, .mv (.c (.int .i64 0)), none, []⟩] [2]
def c178_3 : ACode := .seq c178_2 .ret
def c178_4 : ACode := .cond (.t 9) c178_3 .skip
def c178_5 : ACode := .seq c178_1 c178_4
def c178_6 : ACode := .ops [⟨some 3, .mv (.c (.int .i64 1)), none, []⟩,
  ⟨some 4, .mv (.c (.int .i64 1)), none, []⟩] [0, 3, 4]
def c178_7 : ACode := .ops [⟨some 10, .mv (.t 0), none, []⟩,
  ⟨some 11, .len (.t 10), none, []⟩,
  ⟨some 12, .mv (.c (.int .i64 0)), none, []⟩] [3, 4, 10, 11, 12]
def c178_8 : ACode := .ops [⟨some 13, .bin .lss (.t 12) (.t 11), none, []⟩] [3, 4, 10, 11, 12, 13]
def c178_9 : ACode := .cond (.t 13) .skip (.exit 0)
def c178_10 : ACode := .ops [⟨some 14, .ias (.t 10) (.t 12) 3, none, []⟩,
  ⟨some 15, .load 3 true (.t 14), none, []⟩,
  ⟨some 6, .alloc [.bool false, .int .i64 0, .int .i64 0], none, []⟩,
  ⟨none, .store (.t 6) 3 (.t 15), none, [6]⟩] [3, 4, 6, 10, 11, 12]
def c178_11 : ACode := .ops [⟨some 16, .mv (.t 3), none, []⟩,
  ⟨some 17, .bin .eql (.t 16) (.c (.int .i64 0)), none, []⟩,
  ⟨some 18, .mv (.t 17), none, []⟩,
  ⟨some 19, .load 3 true (.t 6), some (18, false), [6]⟩,
  ⟨some 20, .call 191 [.t 19], some (18, false), []⟩,
  ⟨some 21, .un .not (.t 20), some (18, false), []⟩,
  ⟨some 22, .pick (.t 18) (.c (.bool true)) (.t 21), none, []⟩] [3, 4, 6, 10, 11, 12, 22]
def c178_12 : ACode := .ops [⟨some 2, .mv (.c (.int .i64 0)), none, []⟩] [2]
def c178_13 : ACode := .seq c178_12 .ret
def c178_14 : ACode := .cond (.t 22) c178_13 .skip
def c178_15 : ACode := .seq c178_11 c178_14
def c178_16 : ACode := .ops [⟨some 23, .fad (.t 6) 0, none, [6]⟩,
  ⟨some 24, .load 1 false (.t 23), none, [6]⟩] [3, 4, 10, 11, 12, 24]
def c178_17 : ACode := .ops [⟨some 25, .mv (.t 3), none, []⟩,
  ⟨some 26, .bin .sub (.t 25) (.c (.int .i64 1)), none, []⟩,
  ⟨some 3, .mv (.t 26), none, []⟩] [3, 4, 10, 11, 12]
def c178_18 : ACode := .seq c178_17 (.exit 1)
def c178_19 : ACode := .cond (.t 24) c178_18 .skip
def c178_20 : ACode := .seq c178_16 c178_19
def c178_21 : ACode := .ops [⟨some 27, .mv (.t 3), none, []⟩,
  ⟨some 28, .bin .add (.t 27) (.c (.int .i64 1)), none, []⟩,
  ⟨some 3, .mv (.t 28), none, []⟩] [3, 4, 10, 11, 12]
def c178_22 : ACode := .ops [⟨some 29, .mv (.t 4), none, []⟩,
  ⟨some 30, .mv (.t 3), none, []⟩,
  ⟨some 31, .mnmx true (.t 29) (.t 30), none, []⟩,
  ⟨some 4, .mv (.t 31), none, []⟩] [3, 4, 10, 11, 12]
def c178_23 : ACode := .seq c178_21 c178_22
def c178_24 : ACode := .seq c178_20 c178_23
def c178_25 : ACode := .seq c178_15 c178_24
def c178_26 : ACode := .seq c178_10 c178_25
def c178_27 : ACode := .block 1 c178_26
def c178_28 : ACode := .ops [⟨some 32, .bin .add (.t 12) (.c (.int .i64 1)), none, []⟩,
  ⟨some 12, .mv (.t 32), none, []⟩] [3, 4, 10, 11, 12]
def c178_29 : ACode := .seq c178_27 c178_28
def c178_30 : ACode := .seq c178_9 c178_29
def c178_31 : ACode := .seq c178_8 c178_30
def c178_32 : ACode := .keep [3, 4, 10, 11, 12] [] c178_31
def c178_33 : ACode := .loop c178_32
def c178_34 : ACode := .block 0 c178_33
def c178_35 : ACode := .seq c178_7 c178_34
def c178_36 : ACode := .ops [⟨some 33, .mv (.t 3), none, []⟩,
  ⟨some 34, .bin .neq (.t 33) (.c (.int .i64 0)), none, []⟩,
  ⟨some 35, .mv (.t 34), none, []⟩,
  ⟨some 36, .mv (.t 4), some (35, false), []⟩,
  ⟨some 37, .bin .gtr (.t 36) (.c (.int .i64 200)), some (35, false), []⟩,
  ⟨some 38, .pick (.t 35) (.c (.bool true)) (.t 37), none, []⟩] [4, 38]
def c178_37 : ACode := .ops [⟨some 2, .mv (.c (.int .i64 0)), none, []⟩] [2]
def c178_38 : ACode := .seq c178_37 .ret
def c178_39 : ACode := .cond (.t 38) c178_38 .skip
def c178_40 : ACode := .seq c178_36 c178_39
def c178_41 : ACode := .ops [⟨some 39, .mv (.t 4), none, []⟩,
  ⟨some 2, .mv (.t 39), none, []⟩] [2]
def c178_42 : ACode := .seq c178_41 .ret
def c178_43 : ACode := .seq c178_40 c178_42
def c178_44 : ACode := .seq c178_35 c178_43
def c178_45 : ACode := .seq c178_6 c178_44
def c178_46 : ACode := .seq c178_5 c178_45
def c178_47 : ACode := .seq c178_0 c178_46
def a178 : AFun := ⟨1, 40, c178_47, [.t 2]⟩
theorem m178 : mFun Try.prog Try.f178 a178 = true := by decide +kernel
/- copse/proof.right -/
def c191_0 : ACode := .ops [⟨some 1, .box (.t 0) 3, none, []⟩,
  ⟨some 2, .mv (.c (.bool false)), none, []⟩] [1]
def c191_1 : ACode := .ops [⟨some 3, .fad (.t 1) 0, none, [1]⟩,
  ⟨some 4, .load 1 false (.t 3), none, [1]⟩] [1, 4]
def c191_2 : ACode := .ops [⟨some 5, .load 3 true (.t 1), none, [1]⟩,
  ⟨some 6, .build [.bool false, .int .i64 0, .int .i64 0] [(0, 1, .c (.bool true))], none, []⟩,
  ⟨some 7, .eqa false [true, false, false] (.t 5) (.t 6), none, []⟩,
  ⟨some 2, .mv (.t 7), none, []⟩] [2]
def c191_3 : ACode := .seq c191_2 .ret
def c191_4 : ACode := .cond (.t 4) c191_3 .skip
def c191_5 : ACode := .seq c191_1 c191_4
def c191_6 : ACode := .ops [⟨some 8, .fad (.t 1) 1, none, [1]⟩,
  ⟨some 9, .load 1 false (.t 8), none, [1]⟩,
  ⟨some 10, .bin .geq (.t 9) (.c (.int .i64 0)), none, []⟩,
  ⟨some 11, .mv (.t 10), none, []⟩,
  ⟨some 12, .fad (.t 1) 1, some (11, true), [1]⟩,
  ⟨some 13, .load 1 false (.t 12), some (11, true), [1]⟩,
  ⟨some 14, .bin .leq (.t 13) (.c (.int .i64 4)), some (11, true), []⟩,
  ⟨some 15, .pick (.t 11) (.t 14) (.c (.bool false)), none, []⟩,
  ⟨some 2, .mv (.t 15), none, []⟩] [2]
def c191_7 : ACode := .seq c191_6 .ret
def c191_8 : ACode := .seq c191_5 c191_7
def c191_9 : ACode := .seq c191_0 c191_8
def a191 : AFun := ⟨1, 16, c191_9, [.t 2]⟩
theorem m191 : mFun Try.prog Try.f191 a191 = true := by decide +kernel
def texts25 : List (Nat × AFun) := [(25, a25), (43, a43), (56, a56), (57, a57), (58, a58), (64, a64), (67, a67), (68, a68), (69, a69), (71, a71), (76, a76), (77, a77), (87, a87), (88, a88), (93, a93), (99, a99), (111, a111), (115, a115), (116, a116), (117, a117), (118, a118), (119, a119), (120, a120), (121, a121), (122, a122), (123, a123), (124, a124), (125, a125), (128, a128), (129, a129), (130, a130), (131, a131), (137, a137), (138, a138), (143, a143), (148, a148), (156, a156), (158, a158), (159, a159), (160, a160), (161, a161), (162, a162), (163, a163), (164, a164), (165, a165), (169, a169), (176, a176), (178, a178), (191, a191)]
theorem texts25_good : Go.Am.Good Try.prog texts25 :=
  good_cons Try.func25 m25 <| good_cons Try.func43 m43 <| good_cons Try.func56 m56 <| good_cons Try.func57 m57 <| good_cons Try.func58 m58 <| good_cons Try.func64 m64 <| good_cons Try.func67 m67 <| good_cons Try.func68 m68 <| good_cons Try.func69 m69 <| good_cons Try.func71 m71 <| good_cons Try.func76 m76 <| good_cons Try.func77 m77 <| good_cons Try.func87 m87 <| good_cons Try.func88 m88 <| good_cons Try.func93 m93 <| good_cons Try.func99 m99 <| good_cons Try.func111 m111 <| good_cons Try.func115 m115 <| good_cons Try.func116 m116 <| good_cons Try.func117 m117 <| good_cons Try.func118 m118 <| good_cons Try.func119 m119 <| good_cons Try.func120 m120 <| good_cons Try.func121 m121 <| good_cons Try.func122 m122 <| good_cons Try.func123 m123 <| good_cons Try.func124 m124 <| good_cons Try.func125 m125 <| good_cons Try.func128 m128 <| good_cons Try.func129 m129 <| good_cons Try.func130 m130 <| good_cons Try.func131 m131 <| good_cons Try.func137 m137 <| good_cons Try.func138 m138 <| good_cons Try.func143 m143 <| good_cons Try.func148 m148 <| good_cons Try.func156 m156 <| good_cons Try.func158 m158 <| good_cons Try.func159 m159 <| good_cons Try.func160 m160 <| good_cons Try.func161 m161 <| good_cons Try.func162 m162 <| good_cons Try.func163 m163 <| good_cons Try.func164 m164 <| good_cons Try.func165 m165 <| good_cons Try.func169 m169 <| good_cons Try.func176 m176 <| good_cons Try.func178 m178 <| good_cons Try.func191 m191 <| good_nil
theorem c_closed25 : Contract Try.prog 25 (sp0 (some true)) := contract_closed mixed texts25_good (m := 1000) (n := 60) (by decide +kernel)


set_option maxHeartbeats 4000000 in
set_option maxRecDepth 8000 in
theorem runs_law (f : Forest) (l l2 : List Int) (cl : Int) (c : Bool) (h : some true = some c) : Runs (tbl [(45, sp1 ModelC), (46, sp2 RegionC), (66, sp2 InsideC), (63, sp3 Within), (93, sp3 SumsC), (44, sp3 BoundS), (69, sp3 Eval), (25, sp0 (some true))]) a30 [Arg.enc f, Arg.enc l, Arg.enc l2, Arg.enc cl] (Arg.enc c) := by
  cases h
  refine ⟨rfl, fun g => run_def ?_⟩
  unfold a30
  have hm := rm_modelOf f
  have hM : ModelC f = some (modelOf f) := rfl
  generalize modelOf f = m at *
  have hR : RegionC m l = some (regionOf m.dim l) := part_of hm.dim _
  obtain ⟨hb, he, hsm⟩ := okB_region m.dim l
  generalize regionOf m.dim l = b at *
  have hI : InsideC b l2 = some (insideOf b l2) := part_of hsm _
  have hin := inside_in he l2
  have hps : okB (oneB (insideOf b l2)) := by
    have i0 := ins_small hsm.1 l2 0
    have i1 := ins_small hsm.2.1 l2 1
    have i2 := ins_small hsm.2.2.1 l2 2
    have i3 := ins_small hsm.2.2.2 l2 3
    unfold okB okS64 ok64 oneB insideOf
    simp only
    omega
  generalize insideOf b l2 = p at *
  have hcl := hm.classes
  have wd : IntKind.i64.wrap (m.classes - 1) = m.classes - 1 := wrap64 (by omega) (by omega)
  have hW := within_of cl 0 (m.classes - 1) (by omega)
  have hw := within_le cl 0 (m.classes - 1) (by omega)
  generalize within cl 0 (m.classes - 1) = k at *
  have hS : SumsC m k b = some ((boundP m k b).1, (boundP m k b).2) := by
    unfold SumsC
    rw [part_of ⟨hm, hb⟩, sumsP, if_neg (by simp [he]; omega)]
  have hBS : BoundS m k b = some ⟨(boundP m k b).1, (boundP m k b).2, true⟩ := by
    unfold BoundS
    rw [part_of ⟨hm, hb⟩, boundM, if_neg (by simp [he]; omega)]
  have h1o := bound_one hm k (one_in p) (fun q t h => one_only p q t h)
  have hS1 : SumsC m k (oneB p) = some (evalM m k p, evalM m k p) := by
    unfold SumsC
    rw [part_of ⟨hm, hps⟩, sumsP, if_neg (by simp [one_empty]; omega), h1o]
  have hS0 : SumsC m m.classes b = some (0, 0) := by
    unfold SumsC
    rw [part_of ⟨hm, hb⟩, sumsP, if_pos (by omega)]
  have hE : Eval m k p = some (evalM m k p) := by unfold Eval; rw [part_of hm, evalX, if_pos ⟨by omega, by omega⟩]
  have hsd := bound_sound hm k hin
  generalize (boundP m k b).1 = lo at *
  generalize (boundP m k b).2 = hi' at *
  generalize evalM m k p = v at *
  unfold oneB at hS1
  simp -implicitDefEqProofs [hM, hR, hI, wd, hW, run_round, hS, hS1, hS0, hBS, hE, hsd.1, hsd.2]
def law_sp : List AV → Option AV := sp4 fun (_ : Forest) (_ _ : List Int) (_ : Int) => some true
theorem law_holds : Contract Try.prog 30 law_sp :=
  contract_of_runs mixed (tbl_cons c_Model (tbl_cons c_Region (tbl_cons c_Inside (tbl_cons c_Within (tbl_cons c_sums (tbl_cons c_bSum (tbl_cons c_Eval (tbl_cons c_closed25 tbl_nil)))))))) Try.func30 m30 (sp4_runs runs_law)
theorem law_says (f : Forest) (l l2 : List Int) (x : Int) : law_sp [Arg.enc f, Arg.enc l, Arg.enc l2, Arg.enc x] = some (.bool true) := by
  simp only [law_sp, sp4, Arg.dec_enc, Option.bind_some]
  rfl
end Go.Co
