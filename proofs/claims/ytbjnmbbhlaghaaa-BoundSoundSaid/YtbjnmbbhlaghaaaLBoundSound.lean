/- The law BoundSound: what its text computes. -/
import Derived.Test.YtbjnmbbhlaghaaaCoIn
import Derived.Test.YtbjnmbbhlaghaaaCoSh
namespace Go.Co
open Go.Am Go.Proofs
set_option linter.unusedSimpArgs false
set_option linter.unusedVariables false

/- copse/copselaw14.BoundSound -/
def c13_0 : ACode := .ops [⟨some 5, .box (.t 0) 4, none, []⟩,
  ⟨some 10, .mv (.c (.bool false)), none, []⟩] [1, 2, 3, 4, 5]
theorem r13_0 {C : Cs} {k : List Fr} {s : St} {Q : Post} : run C c13_0 k s Q = run C (.ops [⟨some 5, .box (.t 0) 4, none, []⟩,
  ⟨some 10, .mv (.c (.bool false)), none, []⟩] [1, 2, 3, 4, 5]) k s Q := rfl
def c13_1 : ACode := .ops [⟨some 31, .load 4 true (.t 5), none, [5]⟩,
  ⟨some 32, .call 45 [.t 31], none, []⟩,
  ⟨some 11, .alloc [.int .i64 0, .int .i64 0, .int .i64 0, .int .i64 0, .int .i64 0, .nils], none, []⟩,
  ⟨none, .store (.t 11) 6 (.t 32), none, [11]⟩] [1, 2, 3, 4, 11]
theorem r13_1 {C : Cs} {k : List Fr} {s : St} {Q : Post} : run C c13_1 k s Q = run C (.ops [⟨some 31, .load 4 true (.t 5), none, [5]⟩,
  ⟨some 32, .call 45 [.t 31], none, []⟩,
  ⟨some 11, .alloc [.int .i64 0, .int .i64 0, .int .i64 0, .int .i64 0, .int .i64 0, .nils], none, []⟩,
  ⟨none, .store (.t 11) 6 (.t 32), none, [11]⟩] [1, 2, 3, 4, 11]) k s Q := rfl
def c13_2 : ACode := .ops [⟨some 33, .load 6 true (.t 11), none, [11]⟩,
  ⟨some 34, .mv (.t 1), none, []⟩,
  ⟨some 35, .call 46 [.t 33, .t 34], none, []⟩,
  ⟨some 12, .alloc [.int .i64 0, .int .i64 0, .int .i64 0, .int .i64 0, .int .i64 0, .int .i64 0, .int .i64 0, .int .i64 0, .int .i64 0, .int .i64 0], none, []⟩,
  ⟨none, .store (.t 12) 10 (.t 35), none, [12]⟩] [2, 3, 4, 11, 12]
theorem r13_2 {C : Cs} {k : List Fr} {s : St} {Q : Post} : run C c13_2 k s Q = run C (.ops [⟨some 33, .load 6 true (.t 11), none, [11]⟩,
  ⟨some 34, .mv (.t 1), none, []⟩,
  ⟨some 35, .call 46 [.t 33, .t 34], none, []⟩,
  ⟨some 12, .alloc [.int .i64 0, .int .i64 0, .int .i64 0, .int .i64 0, .int .i64 0, .int .i64 0, .int .i64 0, .int .i64 0, .int .i64 0, .int .i64 0], none, []⟩,
  ⟨none, .store (.t 12) 10 (.t 35), none, [12]⟩] [2, 3, 4, 11, 12]) k s Q := rfl
def c13_3 : ACode := .ops [⟨some 36, .load 10 true (.t 12), none, [12]⟩,
  ⟨some 37, .mv (.t 2), none, []⟩,
  ⟨some 38, .call 66 [.t 36, .t 37], none, []⟩,
  ⟨some 13, .alloc [.int .i64 0, .int .i64 0, .int .i64 0, .int .i64 0], none, []⟩,
  ⟨none, .store (.t 13) 4 (.t 38), none, [13]⟩] [3, 4, 11, 12, 13]
theorem r13_3 {C : Cs} {k : List Fr} {s : St} {Q : Post} : run C c13_3 k s Q = run C (.ops [⟨some 36, .load 10 true (.t 12), none, [12]⟩,
  ⟨some 37, .mv (.t 2), none, []⟩,
  ⟨some 38, .call 66 [.t 36, .t 37], none, []⟩,
  ⟨some 13, .alloc [.int .i64 0, .int .i64 0, .int .i64 0, .int .i64 0], none, []⟩,
  ⟨none, .store (.t 13) 4 (.t 38), none, [13]⟩] [3, 4, 11, 12, 13]) k s Q := rfl
def c13_4 : ACode := .ops [⟨some 14, .alloc [.int .i64 0, .int .i64 0, .int .i64 0, .int .i64 0, .int .i64 0, .int .i64 0, .int .i64 0, .int .i64 0, .int .i64 0, .int .i64 0], none, []⟩] [3, 4, 11, 12, 13, 14]
theorem r13_4 {C : Cs} {k : List Fr} {s : St} {Q : Post} : run C c13_4 k s Q = run C (.ops [⟨some 14, .alloc [.int .i64 0, .int .i64 0, .int .i64 0, .int .i64 0, .int .i64 0, .int .i64 0, .int .i64 0, .int .i64 0, .int .i64 0, .int .i64 0], none, []⟩] [3, 4, 11, 12, 13, 14]) k s Q := rfl
def c13_5 : ACode := .ops [⟨some 39, .mv (.c (.int .i64 0)), none, []⟩] [3, 4, 11, 12, 13, 14, 39]
theorem r13_5 {C : Cs} {k : List Fr} {s : St} {Q : Post} : run C c13_5 k s Q = run C (.ops [⟨some 39, .mv (.c (.int .i64 0)), none, []⟩] [3, 4, 11, 12, 13, 14, 39]) k s Q := rfl
def c13_6 : ACode := .ops [⟨some 40, .bin .lss (.t 39) (.c (.int .i64 4)), none, []⟩] [3, 4, 11, 12, 13, 14, 39, 40]
theorem r13_6 {C : Cs} {k : List Fr} {s : St} {Q : Post} : run C c13_6 k s Q = run C (.ops [⟨some 40, .bin .lss (.t 39) (.c (.int .i64 4)), none, []⟩] [3, 4, 11, 12, 13, 14, 39, 40]) k s Q := rfl
def c13_7 : ACode := .cond (.t 40) .skip (.exit 0)
theorem r13_7 {C : Cs} {k : List Fr} {s : St} {Q : Post} : run C c13_7 k s Q = run C (.cond (.t 40) .skip (.exit 0)) k s Q := rfl
def c13_8 : ACode := .ops [⟨some 41, .mv (.t 39), none, []⟩,
  ⟨some 15, .mv (.t 41), none, []⟩] [3, 4, 11, 12, 13, 14, 15, 39]
theorem r13_8 {C : Cs} {k : List Fr} {s : St} {Q : Post} : run C c13_8 k s Q = run C (.ops [⟨some 41, .mv (.t 39), none, []⟩,
  ⟨some 15, .mv (.t 41), none, []⟩] [3, 4, 11, 12, 13, 14, 15, 39]) k s Q := rfl
def c13_9 : ACode := .ops [⟨some 42, .mv (.t 15), none, []⟩,
  ⟨some 43, .mv (.t 15), none, []⟩,
  ⟨some 44, .iad (.t 13) (.t 43) 1 4, none, [13]⟩,
  ⟨some 45, .load 1 false (.t 44), none, [13]⟩,
  ⟨some 46, .mv (.t 15), none, []⟩,
  ⟨some 47, .iad (.t 13) (.t 46) 1 4, none, [13]⟩,
  ⟨some 48, .load 1 false (.t 47), none, [13]⟩,
  ⟨some 49, .build [.int .i64 0, .int .i64 0] [(0, 1, .t 45), (1, 1, .t 48)], none, []⟩,
  ⟨some 50, .iad (.t 14) (.t 42) 2 5, none, [14]⟩,
  ⟨none, .store (.t 50) 2 (.t 49), none, [14]⟩] [3, 4, 11, 12, 13, 14, 39]
theorem r13_9 {C : Cs} {k : List Fr} {s : St} {Q : Post} : run C c13_9 k s Q = run C (.ops [⟨some 42, .mv (.t 15), none, []⟩,
  ⟨some 43, .mv (.t 15), none, []⟩,
  ⟨some 44, .iad (.t 13) (.t 43) 1 4, none, [13]⟩,
  ⟨some 45, .load 1 false (.t 44), none, [13]⟩,
  ⟨some 46, .mv (.t 15), none, []⟩,
  ⟨some 47, .iad (.t 13) (.t 46) 1 4, none, [13]⟩,
  ⟨some 48, .load 1 false (.t 47), none, [13]⟩,
  ⟨some 49, .build [.int .i64 0, .int .i64 0] [(0, 1, .t 45), (1, 1, .t 48)], none, []⟩,
  ⟨some 50, .iad (.t 14) (.t 42) 2 5, none, [14]⟩,
  ⟨none, .store (.t 50) 2 (.t 49), none, [14]⟩] [3, 4, 11, 12, 13, 14, 39]) k s Q := rfl
def c13_10 : ACode := .seq c13_8 c13_9
theorem r13_10 {C : Cs} {k : List Fr} {s : St} {Q : Post} : run C c13_10 k s Q = run C (.seq c13_8 c13_9) k s Q := rfl
def c13_11 : ACode := .block 1 c13_10
theorem r13_11 {C : Cs} {k : List Fr} {s : St} {Q : Post} : run C c13_11 k s Q = run C (.block 1 c13_10) k s Q := rfl
def c13_12 : ACode := .ops [⟨some 51, .bin .add (.t 39) (.c (.int .i64 1)), none, []⟩,
  ⟨some 39, .mv (.t 51), none, []⟩] [3, 4, 11, 12, 13, 14, 39]
theorem r13_12 {C : Cs} {k : List Fr} {s : St} {Q : Post} : run C c13_12 k s Q = run C (.ops [⟨some 51, .bin .add (.t 39) (.c (.int .i64 1)), none, []⟩,
  ⟨some 39, .mv (.t 51), none, []⟩] [3, 4, 11, 12, 13, 14, 39]) k s Q := rfl
def c13_13 : ACode := .seq c13_11 c13_12
theorem r13_13 {C : Cs} {k : List Fr} {s : St} {Q : Post} : run C c13_13 k s Q = run C (.seq c13_11 c13_12) k s Q := rfl
def c13_14 : ACode := .seq c13_7 c13_13
theorem r13_14 {C : Cs} {k : List Fr} {s : St} {Q : Post} : run C c13_14 k s Q = run C (.seq c13_7 c13_13) k s Q := rfl
def c13_15 : ACode := .seq c13_6 c13_14
theorem r13_15 {C : Cs} {k : List Fr} {s : St} {Q : Post} : run C c13_15 k s Q = run C (.seq c13_6 c13_14) k s Q := rfl
def c13_16 : ACode := .keep [3, 4, 11, 12, 13, 14, 39] [11, 12, 13, 14] c13_15
theorem r13_16 {C : Cs} {k : List Fr} {s : St} {Q : Post} : run C c13_16 k s Q = run C (.keep [3, 4, 11, 12, 13, 14, 39] [11, 12, 13, 14] c13_15) k s Q := rfl
def c13_17 : ACode := .loop c13_16
theorem r13_17 {C : Cs} {k : List Fr} {s : St} {Q : Post} : run C c13_17 k s Q = run C (.loop c13_16) k s Q := rfl
def c13_18 : ACode := .block 0 c13_17
theorem r13_18 {C : Cs} {k : List Fr} {s : St} {Q : Post} : run C c13_18 k s Q = run C (.block 0 c13_17) k s Q := rfl
def c13_19 : ACode := .seq c13_5 c13_18
theorem r13_19 {C : Cs} {k : List Fr} {s : St} {Q : Post} : run C c13_19 k s Q = run C (.seq c13_5 c13_18) k s Q := rfl
def c13_20 : ACode := .ops [⟨some 53, .load 10 true (.t 12), none, [12]⟩,
  ⟨some 54, .mv (.t 3), none, []⟩,
  ⟨some 55, .fad (.t 11) 0, none, [11]⟩,
  ⟨some 56, .load 1 false (.t 55), none, [11]⟩,
  ⟨some 57, .bin .sub (.t 56) (.c (.int .i64 1)), none, []⟩,
  ⟨some 58, .call 63 [.t 54, .c (.int .i64 0), .t 57], none, []⟩,
  ⟨some 59, .mv (.t 4), none, []⟩,
  ⟨some 60, .call 67 [.t 53, .t 58, .t 59], none, []⟩,
  ⟨some 52, .mv (.t 60), none, []⟩,
  ⟨some 61, .ext (.t 52) 0, none, []⟩,
  ⟨some 62, .ext (.t 52) 1, none, []⟩,
  ⟨some 16, .alloc [.int .i64 0, .int .i64 0, .int .i64 0, .int .i64 0, .int .i64 0, .int .i64 0, .int .i64 0, .int .i64 0, .int .i64 0, .int .i64 0], none, []⟩,
  ⟨some 17, .alloc [.int .i64 0, .int .i64 0, .int .i64 0, .int .i64 0, .int .i64 0, .int .i64 0, .int .i64 0, .int .i64 0, .int .i64 0, .int .i64 0], none, []⟩,
  ⟨none, .store (.t 16) 10 (.t 61), none, [16]⟩,
  ⟨none, .store (.t 17) 10 (.t 62), none, [17]⟩] [11, 12, 13, 14, 16, 17]
theorem r13_20 {C : Cs} {k : List Fr} {s : St} {Q : Post} : run C c13_20 k s Q = run C (.ops [⟨some 53, .load 10 true (.t 12), none, [12]⟩,
  ⟨some 54, .mv (.t 3), none, []⟩,
  ⟨some 55, .fad (.t 11) 0, none, [11]⟩,
  ⟨some 56, .load 1 false (.t 55), none, [11]⟩,
  ⟨some 57, .bin .sub (.t 56) (.c (.int .i64 1)), none, []⟩,
  ⟨some 58, .call 63 [.t 54, .c (.int .i64 0), .t 57], none, []⟩,
  ⟨some 59, .mv (.t 4), none, []⟩,
  ⟨some 60, .call 67 [.t 53, .t 58, .t 59], none, []⟩,
  ⟨some 52, .mv (.t 60), none, []⟩,
  ⟨some 61, .ext (.t 52) 0, none, []⟩,
  ⟨some 62, .ext (.t 52) 1, none, []⟩,
  ⟨some 16, .alloc [.int .i64 0, .int .i64 0, .int .i64 0, .int .i64 0, .int .i64 0, .int .i64 0, .int .i64 0, .int .i64 0, .int .i64 0, .int .i64 0], none, []⟩,
  ⟨some 17, .alloc [.int .i64 0, .int .i64 0, .int .i64 0, .int .i64 0, .int .i64 0, .int .i64 0, .int .i64 0, .int .i64 0, .int .i64 0, .int .i64 0], none, []⟩,
  ⟨none, .store (.t 16) 10 (.t 61), none, [16]⟩,
  ⟨none, .store (.t 17) 10 (.t 62), none, [17]⟩] [11, 12, 13, 14, 16, 17]) k s Q := rfl
def c13_21 : ACode := .ops [⟨some 18, .mv (.c (.int .i64 0)), none, []⟩] [11, 12, 13, 14, 16, 17, 18]
theorem r13_21 {C : Cs} {k : List Fr} {s : St} {Q : Post} : run C c13_21 k s Q = run C (.ops [⟨some 18, .mv (.c (.int .i64 0)), none, []⟩] [11, 12, 13, 14, 16, 17, 18]) k s Q := rfl
def c13_22 : ACode := .ops [⟨some 63, .mv (.t 18), none, []⟩,
  ⟨some 64, .fad (.t 11) 1, none, [11]⟩,
  ⟨some 65, .load 1 false (.t 64), none, [11]⟩,
  ⟨some 66, .bin .lss (.t 63) (.t 65), none, []⟩] [11, 12, 13, 14, 16, 17, 18, 66]
theorem r13_22 {C : Cs} {k : List Fr} {s : St} {Q : Post} : run C c13_22 k s Q = run C (.ops [⟨some 63, .mv (.t 18), none, []⟩,
  ⟨some 64, .fad (.t 11) 1, none, [11]⟩,
  ⟨some 65, .load 1 false (.t 64), none, [11]⟩,
  ⟨some 66, .bin .lss (.t 63) (.t 65), none, []⟩] [11, 12, 13, 14, 16, 17, 18, 66]) k s Q := rfl
def c13_23 : ACode := .cond (.t 66) .skip (.exit 2)
theorem r13_23 {C : Cs} {k : List Fr} {s : St} {Q : Post} : run C c13_23 k s Q = run C (.cond (.t 66) .skip (.exit 2)) k s Q := rfl
def c13_24 : ACode := .seq c13_22 c13_23
theorem r13_24 {C : Cs} {k : List Fr} {s : St} {Q : Post} : run C c13_24 k s Q = run C (.seq c13_22 c13_23) k s Q := rfl
def c13_25 : ACode := .ops [⟨some 70, .load 6 true (.t 11), none, [11]⟩,
  ⟨some 71, .mv (.t 18), none, []⟩,
  ⟨some 72, .load 10 true (.t 12), none, [12]⟩,
  ⟨some 73, .call 44 [.t 70, .t 71, .t 72], none, []⟩,
  ⟨some 69, .mv (.t 73), none, []⟩,
  ⟨some 74, .ext (.t 69) 0, none, []⟩,
  ⟨some 75, .ext (.t 69) 1, none, []⟩,
  ⟨some 76, .ext (.t 69) 2, none, []⟩,
  ⟨some 19, .mv (.t 74), none, []⟩,
  ⟨some 20, .mv (.t 75), none, []⟩,
  ⟨some 21, .mv (.t 76), none, []⟩] [11, 12, 13, 14, 16, 17, 18, 19, 20, 21]
theorem r13_25 {C : Cs} {k : List Fr} {s : St} {Q : Post} : run C c13_25 k s Q = run C (.ops [⟨some 70, .load 6 true (.t 11), none, [11]⟩,
  ⟨some 71, .mv (.t 18), none, []⟩,
  ⟨some 72, .load 10 true (.t 12), none, [12]⟩,
  ⟨some 73, .call 44 [.t 70, .t 71, .t 72], none, []⟩,
  ⟨some 69, .mv (.t 73), none, []⟩,
  ⟨some 74, .ext (.t 69) 0, none, []⟩,
  ⟨some 75, .ext (.t 69) 1, none, []⟩,
  ⟨some 76, .ext (.t 69) 2, none, []⟩,
  ⟨some 19, .mv (.t 74), none, []⟩,
  ⟨some 20, .mv (.t 75), none, []⟩,
  ⟨some 21, .mv (.t 76), none, []⟩] [11, 12, 13, 14, 16, 17, 18, 19, 20, 21]) k s Q := rfl
def c13_26 : ACode := .ops [⟨some 77, .load 6 true (.t 11), none, [11]⟩,
  ⟨some 78, .mv (.t 18), none, []⟩,
  ⟨some 79, .load 4 true (.t 13), none, [13]⟩,
  ⟨some 80, .call 69 [.t 77, .t 78, .t 79], none, []⟩,
  ⟨some 22, .mv (.t 80), none, []⟩] [11, 12, 13, 14, 16, 17, 18, 19, 20, 21, 22]
theorem r13_26 {C : Cs} {k : List Fr} {s : St} {Q : Post} : run C c13_26 k s Q = run C (.ops [⟨some 77, .load 6 true (.t 11), none, [11]⟩,
  ⟨some 78, .mv (.t 18), none, []⟩,
  ⟨some 79, .load 4 true (.t 13), none, [13]⟩,
  ⟨some 80, .call 69 [.t 77, .t 78, .t 79], none, []⟩,
  ⟨some 22, .mv (.t 80), none, []⟩] [11, 12, 13, 14, 16, 17, 18, 19, 20, 21, 22]) k s Q := rfl
def c13_27 : ACode := .ops [⟨some 82, .load 6 true (.t 11), none, [11]⟩,
  ⟨some 83, .mv (.t 18), none, []⟩,
  ⟨some 84, .load 10 true (.t 14), none, [14]⟩,
  ⟨some 85, .call 44 [.t 82, .t 83, .t 84], none, []⟩,
  ⟨some 81, .mv (.t 85), none, []⟩,
  ⟨some 86, .ext (.t 81) 0, none, []⟩,
  ⟨some 87, .ext (.t 81) 1, none, []⟩,
  ⟨some 88, .ext (.t 81) 2, none, []⟩,
  ⟨some 23, .mv (.t 86), none, []⟩,
  ⟨some 24, .mv (.t 87), none, []⟩,
  ⟨some 25, .mv (.t 88), none, []⟩] [11, 12, 13, 14, 16, 17, 18, 19, 20, 21, 22, 23, 24, 25]
theorem r13_27 {C : Cs} {k : List Fr} {s : St} {Q : Post} : run C c13_27 k s Q = run C (.ops [⟨some 82, .load 6 true (.t 11), none, [11]⟩,
  ⟨some 83, .mv (.t 18), none, []⟩,
  ⟨some 84, .load 10 true (.t 14), none, [14]⟩,
  ⟨some 85, .call 44 [.t 82, .t 83, .t 84], none, []⟩,
  ⟨some 81, .mv (.t 85), none, []⟩,
  ⟨some 86, .ext (.t 81) 0, none, []⟩,
  ⟨some 87, .ext (.t 81) 1, none, []⟩,
  ⟨some 88, .ext (.t 81) 2, none, []⟩,
  ⟨some 23, .mv (.t 86), none, []⟩,
  ⟨some 24, .mv (.t 87), none, []⟩,
  ⟨some 25, .mv (.t 88), none, []⟩] [11, 12, 13, 14, 16, 17, 18, 19, 20, 21, 22, 23, 24, 25]) k s Q := rfl
def c13_28 : ACode := .ops [⟨some 89, .mv (.t 21), none, []⟩,
  ⟨some 90, .un .not (.t 89), none, []⟩,
  ⟨some 91, .mv (.t 90), none, []⟩,
  ⟨some 92, .mv (.t 22), some (91, false), []⟩,
  ⟨some 93, .mv (.t 19), some (91, false), []⟩,
  ⟨some 94, .bin .lss (.t 92) (.t 93), some (91, false), []⟩,
  ⟨some 95, .pick (.t 91) (.c (.bool true)) (.t 94), none, []⟩,
  ⟨some 96, .mv (.t 95), none, []⟩,
  ⟨some 97, .mv (.t 22), some (96, false), []⟩,
  ⟨some 98, .mv (.t 20), some (96, false), []⟩,
  ⟨some 99, .bin .gtr (.t 97) (.t 98), some (96, false), []⟩,
  ⟨some 100, .pick (.t 96) (.c (.bool true)) (.t 99), none, []⟩,
  ⟨some 101, .mv (.t 100), none, []⟩,
  ⟨some 102, .mv (.t 25), some (101, false), []⟩,
  ⟨some 103, .un .not (.t 102), some (101, false), []⟩,
  ⟨some 104, .pick (.t 101) (.c (.bool true)) (.t 103), none, []⟩,
  ⟨some 105, .mv (.t 104), none, []⟩,
  ⟨some 106, .mv (.t 23), some (105, false), []⟩,
  ⟨some 107, .mv (.t 22), some (105, false), []⟩,
  ⟨some 108, .bin .neq (.t 106) (.t 107), some (105, false), []⟩,
  ⟨some 109, .pick (.t 105) (.c (.bool true)) (.t 108), none, []⟩,
  ⟨some 110, .mv (.t 109), none, []⟩,
  ⟨some 111, .mv (.t 24), some (110, false), []⟩,
  ⟨some 112, .mv (.t 22), some (110, false), []⟩,
  ⟨some 113, .bin .neq (.t 111) (.t 112), some (110, false), []⟩,
  ⟨some 114, .pick (.t 110) (.c (.bool true)) (.t 113), none, []⟩] [11, 12, 13, 14, 16, 17, 18, 19, 20, 114]
theorem r13_28 {C : Cs} {k : List Fr} {s : St} {Q : Post} : run C c13_28 k s Q = run C (.ops [⟨some 89, .mv (.t 21), none, []⟩,
  ⟨some 90, .un .not (.t 89), none, []⟩,
  ⟨some 91, .mv (.t 90), none, []⟩,
  ⟨some 92, .mv (.t 22), some (91, false), []⟩,
  ⟨some 93, .mv (.t 19), some (91, false), []⟩,
  ⟨some 94, .bin .lss (.t 92) (.t 93), some (91, false), []⟩,
  ⟨some 95, .pick (.t 91) (.c (.bool true)) (.t 94), none, []⟩,
  ⟨some 96, .mv (.t 95), none, []⟩,
  ⟨some 97, .mv (.t 22), some (96, false), []⟩,
  ⟨some 98, .mv (.t 20), some (96, false), []⟩,
  ⟨some 99, .bin .gtr (.t 97) (.t 98), some (96, false), []⟩,
  ⟨some 100, .pick (.t 96) (.c (.bool true)) (.t 99), none, []⟩,
  ⟨some 101, .mv (.t 100), none, []⟩,
  ⟨some 102, .mv (.t 25), some (101, false), []⟩,
  ⟨some 103, .un .not (.t 102), some (101, false), []⟩,
  ⟨some 104, .pick (.t 101) (.c (.bool true)) (.t 103), none, []⟩,
  ⟨some 105, .mv (.t 104), none, []⟩,
  ⟨some 106, .mv (.t 23), some (105, false), []⟩,
  ⟨some 107, .mv (.t 22), some (105, false), []⟩,
  ⟨some 108, .bin .neq (.t 106) (.t 107), some (105, false), []⟩,
  ⟨some 109, .pick (.t 105) (.c (.bool true)) (.t 108), none, []⟩,
  ⟨some 110, .mv (.t 109), none, []⟩,
  ⟨some 111, .mv (.t 24), some (110, false), []⟩,
  ⟨some 112, .mv (.t 22), some (110, false), []⟩,
  ⟨some 113, .bin .neq (.t 111) (.t 112), some (110, false), []⟩,
  ⟨some 114, .pick (.t 110) (.c (.bool true)) (.t 113), none, []⟩] [11, 12, 13, 14, 16, 17, 18, 19, 20, 114]) k s Q := rfl
def c13_29 : ACode := .ops [⟨some 10, .mv (.c (.bool false)), none, []⟩] [10]
theorem r13_29 {C : Cs} {k : List Fr} {s : St} {Q : Post} : run C c13_29 k s Q = run C (.ops [⟨some 10, .mv (.c (.bool false)), none, []⟩] [10]) k s Q := rfl
def c13_30 : ACode := .seq c13_29 .ret
theorem r13_30 {C : Cs} {k : List Fr} {s : St} {Q : Post} : run C c13_30 k s Q = run C (.seq c13_29 .ret) k s Q := rfl
def c13_31 : ACode := .cond (.t 114) c13_30 .skip
theorem r13_31 {C : Cs} {k : List Fr} {s : St} {Q : Post} : run C c13_31 k s Q = run C (.cond (.t 114) c13_30 .skip) k s Q := rfl
def c13_32 : ACode := .seq c13_28 c13_31
theorem r13_32 {C : Cs} {k : List Fr} {s : St} {Q : Post} : run C c13_32 k s Q = run C (.seq c13_28 c13_31) k s Q := rfl
def c13_33 : ACode := .ops [⟨some 115, .load 10 true (.t 16), none, [16]⟩,
  ⟨some 116, .load 10 true (.t 17), none, [17]⟩,
  ⟨some 117, .mkrow 117 2 10 [.int .i64 0, .int .i64 0, .int .i64 0, .int .i64 0, .int .i64 0, .int .i64 0, .int .i64 0, .int .i64 0, .int .i64 0, .int .i64 0] [(0, 10, .t 115), (10, 10, .t 116)], none, []⟩,
  ⟨some 118, .len (.t 117), none, [117]⟩,
  ⟨some 119, .mv (.c (.int .i64 0)), none, []⟩] [11, 12, 13, 14, 16, 17, 18, 19, 20, 117, 118, 119]
theorem r13_33 {C : Cs} {k : List Fr} {s : St} {Q : Post} : run C c13_33 k s Q = run C (.ops [⟨some 115, .load 10 true (.t 16), none, [16]⟩,
  ⟨some 116, .load 10 true (.t 17), none, [17]⟩,
  ⟨some 117, .mkrow 117 2 10 [.int .i64 0, .int .i64 0, .int .i64 0, .int .i64 0, .int .i64 0, .int .i64 0, .int .i64 0, .int .i64 0, .int .i64 0, .int .i64 0] [(0, 10, .t 115), (10, 10, .t 116)], none, []⟩,
  ⟨some 118, .len (.t 117), none, [117]⟩,
  ⟨some 119, .mv (.c (.int .i64 0)), none, []⟩] [11, 12, 13, 14, 16, 17, 18, 19, 20, 117, 118, 119]) k s Q := rfl
def c13_34 : ACode := .ops [⟨some 120, .bin .lss (.t 119) (.t 118), none, []⟩] [11, 12, 13, 14, 16, 17, 18, 19, 20, 117, 118, 119, 120]
theorem r13_34 {C : Cs} {k : List Fr} {s : St} {Q : Post} : run C c13_34 k s Q = run C (.ops [⟨some 120, .bin .lss (.t 119) (.t 118), none, []⟩] [11, 12, 13, 14, 16, 17, 18, 19, 20, 117, 118, 119, 120]) k s Q := rfl
def c13_35 : ACode := .cond (.t 120) .skip (.exit 4)
theorem r13_35 {C : Cs} {k : List Fr} {s : St} {Q : Post} : run C c13_35 k s Q = run C (.cond (.t 120) .skip (.exit 4)) k s Q := rfl
def c13_36 : ACode := .ops [⟨some 121, .ias (.t 117) (.t 119) 10, none, [117]⟩,
  ⟨some 122, .load 10 true (.t 121), none, [117]⟩,
  ⟨some 27, .alloc [.int .i64 0, .int .i64 0, .int .i64 0, .int .i64 0, .int .i64 0, .int .i64 0, .int .i64 0, .int .i64 0, .int .i64 0, .int .i64 0], none, []⟩,
  ⟨none, .store (.t 27) 10 (.t 122), none, [27]⟩] [11, 12, 13, 14, 16, 17, 18, 19, 20, 27, 117, 118, 119]
theorem r13_36 {C : Cs} {k : List Fr} {s : St} {Q : Post} : run C c13_36 k s Q = run C (.ops [⟨some 121, .ias (.t 117) (.t 119) 10, none, [117]⟩,
  ⟨some 122, .load 10 true (.t 121), none, [117]⟩,
  ⟨some 27, .alloc [.int .i64 0, .int .i64 0, .int .i64 0, .int .i64 0, .int .i64 0, .int .i64 0, .int .i64 0, .int .i64 0, .int .i64 0, .int .i64 0], none, []⟩,
  ⟨none, .store (.t 27) 10 (.t 122), none, [27]⟩] [11, 12, 13, 14, 16, 17, 18, 19, 20, 27, 117, 118, 119]) k s Q := rfl
def c13_37 : ACode := .ops [⟨some 124, .load 6 true (.t 11), none, [11]⟩,
  ⟨some 125, .mv (.t 18), none, []⟩,
  ⟨some 126, .load 10 true (.t 27), none, [27]⟩,
  ⟨some 127, .call 44 [.t 124, .t 125, .t 126], none, []⟩,
  ⟨some 123, .mv (.t 127), none, []⟩,
  ⟨some 128, .ext (.t 123) 0, none, []⟩,
  ⟨some 129, .ext (.t 123) 1, none, []⟩,
  ⟨some 130, .ext (.t 123) 2, none, []⟩,
  ⟨some 28, .mv (.t 128), none, []⟩,
  ⟨some 29, .mv (.t 129), none, []⟩,
  ⟨some 30, .mv (.t 130), none, []⟩] [11, 12, 13, 14, 16, 17, 18, 19, 20, 27, 28, 29, 30, 117, 118, 119]
theorem r13_37 {C : Cs} {k : List Fr} {s : St} {Q : Post} : run C c13_37 k s Q = run C (.ops [⟨some 124, .load 6 true (.t 11), none, [11]⟩,
  ⟨some 125, .mv (.t 18), none, []⟩,
  ⟨some 126, .load 10 true (.t 27), none, [27]⟩,
  ⟨some 127, .call 44 [.t 124, .t 125, .t 126], none, []⟩,
  ⟨some 123, .mv (.t 127), none, []⟩,
  ⟨some 128, .ext (.t 123) 0, none, []⟩,
  ⟨some 129, .ext (.t 123) 1, none, []⟩,
  ⟨some 130, .ext (.t 123) 2, none, []⟩,
  ⟨some 28, .mv (.t 128), none, []⟩,
  ⟨some 29, .mv (.t 129), none, []⟩,
  ⟨some 30, .mv (.t 130), none, []⟩] [11, 12, 13, 14, 16, 17, 18, 19, 20, 27, 28, 29, 30, 117, 118, 119]) k s Q := rfl
def c13_38 : ACode := .ops [⟨some 131, .mv (.t 30), none, []⟩,
  ⟨some 132, .mv (.t 131), none, []⟩,
  ⟨some 133, .mv (.t 28), some (132, true), []⟩,
  ⟨some 134, .mv (.t 19), some (132, true), []⟩,
  ⟨some 135, .bin .lss (.t 133) (.t 134), some (132, true), []⟩,
  ⟨some 136, .mv (.t 135), some (132, true), []⟩,
  ⟨some 137, .mv (.t 29), some (136, false), []⟩,
  ⟨some 138, .mv (.t 20), some (136, false), []⟩,
  ⟨some 139, .bin .gtr (.t 137) (.t 138), some (136, false), []⟩,
  ⟨some 140, .pick (.t 136) (.c (.bool true)) (.t 139), some (132, true), []⟩,
  ⟨some 141, .mv (.t 140), some (132, true), []⟩,
  ⟨some 142, .mv (.t 28), some (141, false), []⟩,
  ⟨some 143, .mv (.t 29), some (141, false), []⟩,
  ⟨some 144, .bin .gtr (.t 142) (.t 143), some (141, false), []⟩,
  ⟨some 145, .pick (.t 141) (.c (.bool true)) (.t 144), some (132, true), []⟩,
  ⟨some 146, .pick (.t 132) (.t 145) (.c (.bool false)), none, []⟩,
  ⟨some 147, .mv (.t 146), none, []⟩,
  ⟨some 148, .mv (.t 30), some (147, false), []⟩,
  ⟨some 149, .load 10 true (.t 27), some (147, false), [27]⟩,
  ⟨some 150, .call 68 [.t 149], some (147, false), []⟩,
  ⟨some 151, .eqb false (.t 148) (.t 150), some (147, false), []⟩,
  ⟨some 152, .pick (.t 147) (.c (.bool true)) (.t 151), none, []⟩] [11, 12, 13, 14, 16, 17, 18, 19, 20, 117, 118, 119, 152]
theorem r13_38 {C : Cs} {k : List Fr} {s : St} {Q : Post} : run C c13_38 k s Q = run C (.ops [⟨some 131, .mv (.t 30), none, []⟩,
  ⟨some 132, .mv (.t 131), none, []⟩,
  ⟨some 133, .mv (.t 28), some (132, true), []⟩,
  ⟨some 134, .mv (.t 19), some (132, true), []⟩,
  ⟨some 135, .bin .lss (.t 133) (.t 134), some (132, true), []⟩,
  ⟨some 136, .mv (.t 135), some (132, true), []⟩,
  ⟨some 137, .mv (.t 29), some (136, false), []⟩,
  ⟨some 138, .mv (.t 20), some (136, false), []⟩,
  ⟨some 139, .bin .gtr (.t 137) (.t 138), some (136, false), []⟩,
  ⟨some 140, .pick (.t 136) (.c (.bool true)) (.t 139), some (132, true), []⟩,
  ⟨some 141, .mv (.t 140), some (132, true), []⟩,
  ⟨some 142, .mv (.t 28), some (141, false), []⟩,
  ⟨some 143, .mv (.t 29), some (141, false), []⟩,
  ⟨some 144, .bin .gtr (.t 142) (.t 143), some (141, false), []⟩,
  ⟨some 145, .pick (.t 141) (.c (.bool true)) (.t 144), some (132, true), []⟩,
  ⟨some 146, .pick (.t 132) (.t 145) (.c (.bool false)), none, []⟩,
  ⟨some 147, .mv (.t 146), none, []⟩,
  ⟨some 148, .mv (.t 30), some (147, false), []⟩,
  ⟨some 149, .load 10 true (.t 27), some (147, false), [27]⟩,
  ⟨some 150, .call 68 [.t 149], some (147, false), []⟩,
  ⟨some 151, .eqb false (.t 148) (.t 150), some (147, false), []⟩,
  ⟨some 152, .pick (.t 147) (.c (.bool true)) (.t 151), none, []⟩] [11, 12, 13, 14, 16, 17, 18, 19, 20, 117, 118, 119, 152]) k s Q := rfl
def c13_39 : ACode := .ops [⟨some 10, .mv (.c (.bool false)), none, []⟩] [10]
theorem r13_39 {C : Cs} {k : List Fr} {s : St} {Q : Post} : run C c13_39 k s Q = run C (.ops [⟨some 10, .mv (.c (.bool false)), none, []⟩] [10]) k s Q := rfl
def c13_40 : ACode := .seq c13_39 .ret
theorem r13_40 {C : Cs} {k : List Fr} {s : St} {Q : Post} : run C c13_40 k s Q = run C (.seq c13_39 .ret) k s Q := rfl
def c13_41 : ACode := .cond (.t 152) c13_40 .skip
theorem r13_41 {C : Cs} {k : List Fr} {s : St} {Q : Post} : run C c13_41 k s Q = run C (.cond (.t 152) c13_40 .skip) k s Q := rfl
def c13_42 : ACode := .seq c13_38 c13_41
theorem r13_42 {C : Cs} {k : List Fr} {s : St} {Q : Post} : run C c13_42 k s Q = run C (.seq c13_38 c13_41) k s Q := rfl
def c13_43 : ACode := .seq c13_37 c13_42
theorem r13_43 {C : Cs} {k : List Fr} {s : St} {Q : Post} : run C c13_43 k s Q = run C (.seq c13_37 c13_42) k s Q := rfl
def c13_44 : ACode := .seq c13_36 c13_43
theorem r13_44 {C : Cs} {k : List Fr} {s : St} {Q : Post} : run C c13_44 k s Q = run C (.seq c13_36 c13_43) k s Q := rfl
def c13_45 : ACode := .block 5 c13_44
theorem r13_45 {C : Cs} {k : List Fr} {s : St} {Q : Post} : run C c13_45 k s Q = run C (.block 5 c13_44) k s Q := rfl
def c13_46 : ACode := .ops [⟨some 153, .bin .add (.t 119) (.c (.int .i64 1)), none, []⟩,
  ⟨some 119, .mv (.t 153), none, []⟩] [11, 12, 13, 14, 16, 17, 18, 19, 20, 117, 118, 119]
theorem r13_46 {C : Cs} {k : List Fr} {s : St} {Q : Post} : run C c13_46 k s Q = run C (.ops [⟨some 153, .bin .add (.t 119) (.c (.int .i64 1)), none, []⟩,
  ⟨some 119, .mv (.t 153), none, []⟩] [11, 12, 13, 14, 16, 17, 18, 19, 20, 117, 118, 119]) k s Q := rfl
def c13_47 : ACode := .seq c13_45 c13_46
theorem r13_47 {C : Cs} {k : List Fr} {s : St} {Q : Post} : run C c13_47 k s Q = run C (.seq c13_45 c13_46) k s Q := rfl
def c13_48 : ACode := .seq c13_35 c13_47
theorem r13_48 {C : Cs} {k : List Fr} {s : St} {Q : Post} : run C c13_48 k s Q = run C (.seq c13_35 c13_47) k s Q := rfl
def c13_49 : ACode := .seq c13_34 c13_48
theorem r13_49 {C : Cs} {k : List Fr} {s : St} {Q : Post} : run C c13_49 k s Q = run C (.seq c13_34 c13_48) k s Q := rfl
def c13_50 : ACode := .keep [11, 12, 13, 14, 16, 17, 18, 19, 20, 117, 118, 119] [11, 12, 13, 14, 16, 17, 117] c13_49
theorem r13_50 {C : Cs} {k : List Fr} {s : St} {Q : Post} : run C c13_50 k s Q = run C (.keep [11, 12, 13, 14, 16, 17, 18, 19, 20, 117, 118, 119] [11, 12, 13, 14, 16, 17, 117] c13_49) k s Q := rfl
def c13_51 : ACode := .loop c13_50
theorem r13_51 {C : Cs} {k : List Fr} {s : St} {Q : Post} : run C c13_51 k s Q = run C (.loop c13_50) k s Q := rfl
def c13_52 : ACode := .block 4 c13_51
theorem r13_52 {C : Cs} {k : List Fr} {s : St} {Q : Post} : run C c13_52 k s Q = run C (.block 4 c13_51) k s Q := rfl
def c13_53 : ACode := .seq c13_33 c13_52
theorem r13_53 {C : Cs} {k : List Fr} {s : St} {Q : Post} : run C c13_53 k s Q = run C (.seq c13_33 c13_52) k s Q := rfl
def c13_54 : ACode := .seq c13_32 c13_53
theorem r13_54 {C : Cs} {k : List Fr} {s : St} {Q : Post} : run C c13_54 k s Q = run C (.seq c13_32 c13_53) k s Q := rfl
def c13_55 : ACode := .seq c13_27 c13_54
theorem r13_55 {C : Cs} {k : List Fr} {s : St} {Q : Post} : run C c13_55 k s Q = run C (.seq c13_27 c13_54) k s Q := rfl
def c13_56 : ACode := .seq c13_26 c13_55
theorem r13_56 {C : Cs} {k : List Fr} {s : St} {Q : Post} : run C c13_56 k s Q = run C (.seq c13_26 c13_55) k s Q := rfl
def c13_57 : ACode := .seq c13_25 c13_56
theorem r13_57 {C : Cs} {k : List Fr} {s : St} {Q : Post} : run C c13_57 k s Q = run C (.seq c13_25 c13_56) k s Q := rfl
def c13_58 : ACode := .block 3 c13_57
theorem r13_58 {C : Cs} {k : List Fr} {s : St} {Q : Post} : run C c13_58 k s Q = run C (.block 3 c13_57) k s Q := rfl
def c13_59 : ACode := .ops [⟨some 67, .mv (.t 18), none, []⟩,
  ⟨some 68, .bin .add (.t 67) (.c (.int .i64 1)), none, []⟩,
  ⟨some 18, .mv (.t 68), none, []⟩] [11, 12, 13, 14, 16, 17, 18]
theorem r13_59 {C : Cs} {k : List Fr} {s : St} {Q : Post} : run C c13_59 k s Q = run C (.ops [⟨some 67, .mv (.t 18), none, []⟩,
  ⟨some 68, .bin .add (.t 67) (.c (.int .i64 1)), none, []⟩,
  ⟨some 18, .mv (.t 68), none, []⟩] [11, 12, 13, 14, 16, 17, 18]) k s Q := rfl
def c13_60 : ACode := .seq c13_58 c13_59
theorem r13_60 {C : Cs} {k : List Fr} {s : St} {Q : Post} : run C c13_60 k s Q = run C (.seq c13_58 c13_59) k s Q := rfl
def c13_61 : ACode := .seq c13_24 c13_60
theorem r13_61 {C : Cs} {k : List Fr} {s : St} {Q : Post} : run C c13_61 k s Q = run C (.seq c13_24 c13_60) k s Q := rfl
def c13_62 : ACode := .keep [11, 12, 13, 14, 16, 17, 18] [11, 12, 13, 14, 16, 17] c13_61
theorem r13_62 {C : Cs} {k : List Fr} {s : St} {Q : Post} : run C c13_62 k s Q = run C (.keep [11, 12, 13, 14, 16, 17, 18] [11, 12, 13, 14, 16, 17] c13_61) k s Q := rfl
def c13_63 : ACode := .loop c13_62
theorem r13_63 {C : Cs} {k : List Fr} {s : St} {Q : Post} : run C c13_63 k s Q = run C (.loop c13_62) k s Q := rfl
def c13_64 : ACode := .block 2 c13_63
theorem r13_64 {C : Cs} {k : List Fr} {s : St} {Q : Post} : run C c13_64 k s Q = run C (.block 2 c13_63) k s Q := rfl
def c13_65 : ACode := .seq c13_21 c13_64
theorem r13_65 {C : Cs} {k : List Fr} {s : St} {Q : Post} : run C c13_65 k s Q = run C (.seq c13_21 c13_64) k s Q := rfl
def c13_66 : ACode := .ops [⟨some 154, .call 3 [], none, []⟩,
  ⟨some 10, .mv (.t 154), none, []⟩] [10]
theorem r13_66 {C : Cs} {k : List Fr} {s : St} {Q : Post} : run C c13_66 k s Q = run C (.ops [⟨some 154, .call 3 [], none, []⟩,
  ⟨some 10, .mv (.t 154), none, []⟩] [10]) k s Q := rfl
def c13_67 : ACode := .seq c13_66 .ret
theorem r13_67 {C : Cs} {k : List Fr} {s : St} {Q : Post} : run C c13_67 k s Q = run C (.seq c13_66 .ret) k s Q := rfl
def c13_68 : ACode := .seq c13_65 c13_67
theorem r13_68 {C : Cs} {k : List Fr} {s : St} {Q : Post} : run C c13_68 k s Q = run C (.seq c13_65 c13_67) k s Q := rfl
def c13_69 : ACode := .seq c13_20 c13_68
theorem r13_69 {C : Cs} {k : List Fr} {s : St} {Q : Post} : run C c13_69 k s Q = run C (.seq c13_20 c13_68) k s Q := rfl
def c13_70 : ACode := .seq c13_19 c13_69
theorem r13_70 {C : Cs} {k : List Fr} {s : St} {Q : Post} : run C c13_70 k s Q = run C (.seq c13_19 c13_69) k s Q := rfl
def c13_71 : ACode := .seq c13_4 c13_70
theorem r13_71 {C : Cs} {k : List Fr} {s : St} {Q : Post} : run C c13_71 k s Q = run C (.seq c13_4 c13_70) k s Q := rfl
def c13_72 : ACode := .seq c13_3 c13_71
theorem r13_72 {C : Cs} {k : List Fr} {s : St} {Q : Post} : run C c13_72 k s Q = run C (.seq c13_3 c13_71) k s Q := rfl
def c13_73 : ACode := .seq c13_2 c13_72
theorem r13_73 {C : Cs} {k : List Fr} {s : St} {Q : Post} : run C c13_73 k s Q = run C (.seq c13_2 c13_72) k s Q := rfl
def c13_74 : ACode := .seq c13_1 c13_73
theorem r13_74 {C : Cs} {k : List Fr} {s : St} {Q : Post} : run C c13_74 k s Q = run C (.seq c13_1 c13_73) k s Q := rfl
def c13_75 : ACode := .seq c13_0 c13_74
theorem r13_75 {C : Cs} {k : List Fr} {s : St} {Q : Post} : run C c13_75 k s Q = run C (.seq c13_0 c13_74) k s Q := rfl
def a13 : AFun := ⟨5, 155, c13_75, [.t 10]⟩
attribute [simp] r13_0 r13_1 r13_2 r13_3 r13_4 r13_5 r13_6 r13_7 r13_8 r13_9 r13_10 r13_11 r13_12 r13_13 r13_14 r13_15 r13_16 r13_17 r13_18 r13_19 r13_20 r13_21 r13_22 r13_23 r13_24 r13_25 r13_26 r13_27 r13_28 r13_29 r13_30 r13_31 r13_32 r13_33 r13_34 r13_35 r13_36 r13_37 r13_38 r13_39 r13_40 r13_41 r13_42 r13_43 r13_44 r13_45 r13_46 r13_47 r13_48 r13_49 r13_50 r13_51 r13_52 r13_53 r13_54 r13_55 r13_56 r13_57 r13_58 r13_59 r13_60 r13_61 r13_62 r13_63 r13_64 r13_65 r13_66 r13_67 r13_68 r13_69 r13_70 r13_71 r13_72 r13_73 r13_74 r13_75
theorem m13 : mFun Try.prog Try.f13 a13 = true := by decide +kernel

/- copse/copselaw14.BoundRuns -/
def c3_0 : ACode := .ops [⟨some 0, .mv (.c (.bool false)), none, []⟩] []
def c3_1 : ACode := .ops [⟨some 8, .call 43 [], none, []⟩,
  ⟨some 1, .alloc [.int .i64 0, .int .i64 0, .int .i64 0, .int .i64 0, .int .i64 0, .nils], none, []⟩,
  ⟨none, .store (.t 1) 6 (.t 8), none, [1]⟩] [1]
def c3_2 : ACode := .ops [⟨some 10, .load 6 true (.t 1), none, [1]⟩,
  ⟨some 11, .build [.int .i64 0, .int .i64 0] [(0, 1, .c (.int .i64 0)), (1, 1, .c (.int .i64 9))], none, []⟩,
  ⟨some 12, .build [.int .i64 0, .int .i64 0, .int .i64 0, .int .i64 0, .int .i64 0, .int .i64 0, .int .i64 0, .int .i64 0, .int .i64 0, .int .i64 0] [(0, 2, .t 11)], none, []⟩,
  ⟨some 13, .call 44 [.t 10, .c (.int .i64 0), .t 12], none, []⟩,
  ⟨some 9, .mv (.t 13), none, []⟩,
  ⟨some 14, .ext (.t 9) 0, none, []⟩,
  ⟨some 15, .ext (.t 9) 1, none, []⟩,
  ⟨some 16, .ext (.t 9) 2, none, []⟩,
  ⟨some 2, .mv (.t 14), none, []⟩,
  ⟨some 3, .mv (.t 15), none, []⟩,
  ⟨some 4, .mv (.t 16), none, []⟩] [1, 2, 3, 4]
def c3_3 : ACode := .ops [⟨some 18, .load 6 true (.t 1), none, [1]⟩,
  ⟨some 19, .build [.int .i64 0, .int .i64 0] [(0, 1, .c (.int .i64 6)), (1, 1, .c (.int .i64 9))], none, []⟩,
  ⟨some 20, .build [.int .i64 0, .int .i64 0, .int .i64 0, .int .i64 0, .int .i64 0, .int .i64 0, .int .i64 0, .int .i64 0, .int .i64 0, .int .i64 0] [(0, 2, .t 19)], none, []⟩,
  ⟨some 21, .call 44 [.t 18, .c (.int .i64 0), .t 20], none, []⟩,
  ⟨some 17, .mv (.t 21), none, []⟩,
  ⟨some 22, .ext (.t 17) 0, none, []⟩,
  ⟨some 23, .ext (.t 17) 1, none, []⟩,
  ⟨some 24, .ext (.t 17) 2, none, []⟩,
  ⟨some 5, .mv (.t 22), none, []⟩,
  ⟨some 6, .mv (.t 23), none, []⟩,
  ⟨some 7, .mv (.t 24), none, []⟩] [2, 3, 4, 5, 6, 7]
def c3_4 : ACode := .ops [⟨some 25, .mv (.t 2), none, []⟩,
  ⟨some 26, .bin .eql (.t 25) (.c (.int .i64 13)), none, []⟩,
  ⟨some 27, .mv (.t 26), none, []⟩,
  ⟨some 28, .mv (.t 3), some (27, true), []⟩,
  ⟨some 29, .bin .eql (.t 28) (.c (.int .i64 23)), some (27, true), []⟩,
  ⟨some 30, .pick (.t 27) (.t 29) (.c (.bool false)), none, []⟩,
  ⟨some 31, .mv (.t 30), none, []⟩,
  ⟨some 32, .mv (.t 4), some (31, true), []⟩,
  ⟨some 33, .pick (.t 31) (.t 32) (.c (.bool false)), none, []⟩,
  ⟨some 34, .mv (.t 33), none, []⟩,
  ⟨some 35, .mv (.t 5), some (34, true), []⟩,
  ⟨some 36, .bin .eql (.t 35) (.c (.int .i64 23)), some (34, true), []⟩,
  ⟨some 37, .pick (.t 34) (.t 36) (.c (.bool false)), none, []⟩,
  ⟨some 38, .mv (.t 37), none, []⟩,
  ⟨some 39, .mv (.t 6), some (38, true), []⟩,
  ⟨some 40, .bin .eql (.t 39) (.c (.int .i64 23)), some (38, true), []⟩,
  ⟨some 41, .pick (.t 38) (.t 40) (.c (.bool false)), none, []⟩,
  ⟨some 42, .mv (.t 41), none, []⟩,
  ⟨some 43, .mv (.t 7), some (42, true), []⟩,
  ⟨some 44, .pick (.t 42) (.t 43) (.c (.bool false)), none, []⟩,
  ⟨some 0, .mv (.t 44), none, []⟩] [0]
def c3_5 : ACode := .seq c3_4 .ret
def c3_6 : ACode := .seq c3_3 c3_5
def c3_7 : ACode := .seq c3_2 c3_6
def c3_8 : ACode := .seq c3_1 c3_7
def c3_9 : ACode := .seq c3_0 c3_8
def a3 : AFun := ⟨0, 45, c3_9, [.t 0]⟩
theorem m3 : mFun Try.prog Try.f3 a3 = true := by decide +kernel
/- copse/copsekeep.Three -/
def c43_0 : ACode := .ops [⟨some 0, .alloc [.int .i64 0, .int .i64 0, .int .i64 0, .int .i64 0, .int .i64 0, .nils], none, []⟩] [0]
def c43_1 : ACode := .ops [⟨some 2, .build [.bool false, .int .i64 0, .int .i64 0, .int .i64 0, .int .i64 0, .int .i64 0] [(3, 1, .c (.int .i64 5)), (4, 1, .c (.int .i64 1)), (5, 1, .c (.int .i64 2))], none, []⟩,
  ⟨some 3, .call 111 [.t 2], none, []⟩,
  ⟨some 4, .build [.bool false, .int .i64 0, .int .i64 0, .int .i64 0, .int .i64 0, .int .i64 0] [(0, 1, .c (.bool true)), (1, 1, .c (.int .i64 10))], none, []⟩,
  ⟨some 5, .call 111 [.t 4], none, []⟩,
  ⟨some 6, .build [.bool false, .int .i64 0, .int .i64 0, .int .i64 0, .int .i64 0, .int .i64 0] [(0, 1, .c (.bool true)), (1, 1, .c (.int .i64 20))], none, []⟩,
  ⟨some 7, .call 111 [.t 6], none, []⟩,
  ⟨some 8, .mkrow 1 3 1 [.int .u64 0] [(0, 1, .t 3), (1, 1, .t 5), (2, 1, .t 7)], none, []⟩,
  ⟨some 1, .mv (.t 8), none, []⟩] [0, 1]
def c43_2 : ACode := .ops [⟨some 9, .build [.int .i64 0, .int .i64 0, .int .i64 0] [(0, 1, .c (.int .i64 3))], none, []⟩,
  ⟨some 10, .mv (.t 1), none, []⟩,
  ⟨some 11, .build [.int .i64 0, .nils] [(1, 1, .t 10)], none, []⟩,
  ⟨some 12, .mkrow 12 1 2 [.int .i64 0, .nils] [(0, 2, .t 11)], none, []⟩,
  ⟨some 13, .build [.int .i64 0, .int .i64 0, .int .i64 0, .int .i64 0, .int .i64 0, .nils] [(0, 1, .c (.int .i64 1)), (1, 1, .c (.int .i64 1)), (2, 3, .t 9), (5, 1, .t 12)], none, []⟩,
  ⟨none, .store (.t 0) 6 (.t 13), none, [0]⟩] [0]
def c43_3 : ACode := .seq c43_2 .ret
def c43_4 : ACode := .seq c43_1 c43_3
def c43_5 : ACode := .seq c43_0 c43_4
def a43 : AFun := ⟨0, 14, c43_5, [.cell 0 6 true]⟩
theorem m43 : mFun Try.prog Try.f43 a43 = true := by decide +kernel
def texts3 : List (Nat × AFun) := [(3, a3), (43, a43), (44, a44), (48, a48), (51, a51), (67, a67), (68, a68), (71, a71), (76, a76), (77, a77), (111, a111), (119, a119), (120, a120), (121, a121), (123, a123), (124, a124), (125, a125), (128, a128), (129, a129), (130, a130), (131, a131), (156, a156), (158, a158), (159, a159), (160, a160), (161, a161), (162, a162), (163, a163), (164, a164), (165, a165), (176, a176)]
theorem texts3_good : Go.Am.Good Try.prog texts3 :=
  good_cons Try.func3 m3 <| good_cons Try.func43 m43 <| good_cons Try.func44 m44 <| good_cons Try.func48 m48 <| good_cons Try.func51 m51 <| good_cons Try.func67 m67 <| good_cons Try.func68 m68 <| good_cons Try.func71 m71 <| good_cons Try.func76 m76 <| good_cons Try.func77 m77 <| good_cons Try.func111 m111 <| good_cons Try.func119 m119 <| good_cons Try.func120 m120 <| good_cons Try.func121 m121 <| good_cons Try.func123 m123 <| good_cons Try.func124 m124 <| good_cons Try.func125 m125 <| good_cons Try.func128 m128 <| good_cons Try.func129 m129 <| good_cons Try.func130 m130 <| good_cons Try.func131 m131 <| good_cons Try.func156 m156 <| good_cons Try.func158 m158 <| good_cons Try.func159 m159 <| good_cons Try.func160 m160 <| good_cons Try.func161 m161 <| good_cons Try.func162 m162 <| good_cons Try.func163 m163 <| good_cons Try.func164 m164 <| good_cons Try.func165 m165 <| good_cons Try.func176 m176 <| good_nil
theorem c_closed3 : Contract Try.prog 3 (sp0 (some true)) := contract_closed mixed texts3_good (m := 1000) (n := 60) (by decide +kernel)


/-- what the bounds of a box's part are -/
theorem part_bounds {m : Model} (hm : RM m) {b z : Box} (hz : okB z) (hsub : ∀ p t, InB z p t → InB b p t) {k : Int} (h0 : 0 ≤ k) (h1 : k < m.classes) :
    ∃ u w e, z.empty = e ∧ BoundS m k z = some ⟨u, w, !e⟩ ∧ (e = false → (boundP m k b).1 ≤ u ∧ w ≤ (boundP m k b).2 ∧ u ≤ w) := by
  cases he : z.empty
  · refine ⟨(boundP m k z).1, (boundP m k z).2, false, rfl, ?_, fun _ => ?_⟩
    · unfold BoundS
      rw [part_of ⟨hm, hz⟩, boundM, if_neg (by simp [he]; omega)]
      rfl
    · have := bound_part hm k he hsub
      have h2 := boundP_le hm k he
      omega
  · refine ⟨0, 0, true, rfl, ?_, fun h => by cases h⟩
    unfold BoundS
    rw [part_of ⟨hm, hz⟩, boundM, if_pos (by simp [he])]
    rfl

set_option maxHeartbeats 4000000 in
set_option maxRecDepth 8000 in
theorem runs_law (f : Forest) (l l2 : List Int) (place at_ : Int) (c : Bool) (h : Part (ok64 at_) true = some c) : Runs (tbl [(45, sp1 ModelC), (46, sp2 RegionC), (66, sp2 InsideC), (63, sp3 Within), (67, sp3 CutB), (44, sp3 BoundS), (69, sp3 Eval), (68, sp1 fun (b : Box) => some b.empty), (3, sp0 (some true))]) a13 [Arg.enc f, Arg.enc l, Arg.enc l2, Arg.enc place, Arg.enc at_] (Arg.enc c) := by
  obtain ⟨hat, rfl⟩ := part_some h
  refine ⟨rfl, fun g => run_def ?_⟩
  unfold a13
  have hm := rm_modelOf f
  have hM : ModelC f = some (modelOf f) := rfl
  generalize modelOf f = m at *
  have hR : RegionC m l = some (regionOf m.dim l) := part_of hm.dim _
  obtain ⟨hb, he, hsm⟩ := okB_region m.dim l
  generalize regionOf m.dim l = b at *
  have hI : InsideC b l2 = some (insideOf b l2) := part_of hsm _
  have hin := inside_in he l2
  have hps : okB (oneB (insideOf b l2)) := by
    have i0 := ins_small hsm.1 l2 0
    have i1 := ins_small hsm.2.1 l2 1
    have i2 := ins_small hsm.2.2.1 l2 2
    have i3 := ins_small hsm.2.2.2 l2 3
    unfold okB okS64 ok64 oneB insideOf
    simp only
    omega
  generalize insideOf b l2 = p at *
  have hd := hm.dim
  have wd : IntKind.i64.wrap (m.dim - 1) = m.dim - 1 := wrap64 (by omega) (by omega)
  have hW := within_of place 0 (m.dim - 1) (by omega)
  have hw := within_le place 0 (m.dim - 1) (by omega)
  generalize within place 0 (m.dim - 1) = q at *
  have hC := cutB_of hb q hat
  have hc1 := fun p t => (cutB_1 b (i := q) (by omega) at_ p t).1
  have hc2 := fun p t => (cutB_2 b (i := q) (by omega) at_ p t).1
  have hoc := okB_cut hb q hat
  generalize cutB b q at_ = z at *
  obtain ⟨x, y⟩ := z
  simp only at hc1 hc2 hoc
  simp -implicitDefEqProofs [hM, hR, hI, wd, hW, hC, run_round, -r13_63]
  refine run_while (c := c13_61) (fun n s => ∃ (k : Nat) (g : Nat → Nat), k + n = m.classes.toNat ∧ s = ⟨[(11, .ptr 11 (g 11) 0), (12, .ptr 12 (g 12) 0), (13, .ptr 13 (g 13) 0), (14, .ptr 14 (g 14) 0), (16, .ptr 16 (g 16) 0), (17, .ptr 17 (g 17) 0), (18, .int .i64 k)],
    [(11, ⟨Row.enc m, false, 0⟩), (12, ⟨Row.enc b, false, 0⟩), (13, ⟨Row.enc p, false, 0⟩), (14, ⟨Row.enc (oneB p), false, 0⟩), (16, ⟨Row.enc x, false, 0⟩), (17, ⟨Row.enc y, false, 0⟩)], g⟩) m.classes.toNat ⟨0, bump 17 (bump 16 (bump 14 (bump 13 (bump 12 (bump 11 (bump 5 g)))))), by omega, by simp [oneB]⟩ ?_
  rintro n s ⟨k, g, hi, rfl⟩
  have hcl := hm.classes
  by_cases h1 : (k : Int) < m.classes
  case neg => simp -implicitDefEqProofs [h1]
  have w1 : IntKind.i64.wrap ((k : Int) + 1) = (k : Int) + 1 := wrap64 (by omega) (by omega)
  have hS : BoundS m k b = some ⟨(boundP m k b).1, (boundP m k b).2, true⟩ := by
    unfold BoundS
    rw [part_of ⟨hm, hb⟩, boundM, if_neg (by simp [he]; omega)]
  have h1o := bound_one hm k (one_in p) (fun q t h => one_only p q t h)
  have hS1 : BoundS m k (oneB p) = some ⟨evalM m k p, evalM m k p, true⟩ := by
    unfold BoundS
    rw [part_of ⟨hm, hps⟩, boundM, if_neg (by simp [one_empty]; omega), h1o]
  have hE : Eval m k p = some (evalM m k p) := by unfold Eval; rw [part_of hm, evalX, if_pos ⟨by omega, h1⟩]
  have hsd := bound_sound hm k hin
  obtain ⟨u1, v1, e1, z1, s1, i1⟩ := part_bounds hm hoc.1 (fun p t h => (hc1 p t h).1) (show 0 ≤ (k : Int) by omega) h1
  obtain ⟨u2, v2, e2, z2, s2, i2⟩ := part_bounds hm hoc.2 (fun p t h => (hc2 p t h).1) (show 0 ≤ (k : Int) by omega) h1
  generalize (boundP m k b).1 = lo at *
  generalize (boundP m k b).2 = hi' at *
  generalize evalM m k p = v at *
  have c1 : ¬ v < lo := by omega
  have c2 : ¬ hi' < v := by omega
  unfold oneB at hS1 ⊢
  have mx : 2 ≤ maxN := by decide
  cases e1 <;> cases e2
  · skip
    have j1 := i1 rfl
    have c3 : ¬ u1 < lo := by omega
    have c4 : ¬ hi' < v1 := by omega
    have c5 : ¬ v1 < u1 := by omega
    have j2 := i2 rfl
    have c6 : ¬ u2 < lo := by omega
    have c7 : ¬ hi' < v2 := by omega
    have c8 : ¬ v2 < u2 := by omega
    simp -implicitDefEqProofs [h1, hS, hS1, hE, c1, c2, s1, s2, z1, z2, mx, c3, c4, c5, c6, c7, c8, w1, run_round, -r13_63]
    exact ⟨n - 1, by omega, k + 1, by omega, by omega⟩
  · skip
    have j1 := i1 rfl
    have c3 : ¬ u1 < lo := by omega
    have c4 : ¬ hi' < v1 := by omega
    have c5 : ¬ v1 < u1 := by omega
    simp -implicitDefEqProofs [h1, hS, hS1, hE, c1, c2, s1, s2, z1, z2, mx, c3, c4, c5, w1, run_round, -r13_63]
    exact ⟨n - 1, by omega, k + 1, by omega, by omega⟩
  · skip
    have j2 := i2 rfl
    have c6 : ¬ u2 < lo := by omega
    have c7 : ¬ hi' < v2 := by omega
    have c8 : ¬ v2 < u2 := by omega
    simp -implicitDefEqProofs [h1, hS, hS1, hE, c1, c2, s1, s2, z1, z2, mx, c6, c7, c8, w1, run_round, -r13_63]
    exact ⟨n - 1, by omega, k + 1, by omega, by omega⟩
  · skip
    simp -implicitDefEqProofs [h1, hS, hS1, hE, c1, c2, s1, s2, z1, z2, mx, w1, run_round, -r13_63]
    exact ⟨n - 1, by omega, k + 1, by omega, by omega⟩
def law_sp : List AV → Option AV := sp5 fun (_ : Forest) (_ _ : List Int) (_ at_ : Int) => if ok64 at_ then some true else none
/- GOOD 4 -/
theorem law_holds : Contract Try.prog 13 law_sp :=
  contract_of_runs mixed (tbl_cons c_Model (tbl_cons c_Region (tbl_cons c_Inside (tbl_cons c_Within (tbl_cons c_bCut (tbl_cons c_bSum (tbl_cons c_Eval (tbl_cons c_bEmpty (tbl_cons c_closed3 tbl_nil))))))))) Try.func13 m13 (sp5_runs fun f l l2 place at_ c h => runs_law f l l2 place at_ c (by
    unfold Part
    split at h
    · rw [if_pos ‹_›]; exact h
    · cases h))
theorem law_says (f : Forest) (l l2 : List Int) (x y : Int) (h : ok64 y) : law_sp [Arg.enc f, Arg.enc l, Arg.enc l2, Arg.enc x, Arg.enc y] = some (.bool true) := by
  simp only [law_sp, sp5, Arg.dec_enc, Option.bind_some, if_pos h]
  rfl
end Go.Co
