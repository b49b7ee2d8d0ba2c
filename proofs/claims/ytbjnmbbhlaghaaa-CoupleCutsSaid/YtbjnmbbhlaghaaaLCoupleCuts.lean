/- The law CoupleCuts: what its text computes. -/
import Derived.Test.YtbjnmbbhlaghaaaCoQ
import Derived.Test.YtbjnmbbhlaghaaaCoK
import Derived.Test.YtbjnmbbhlaghaaaCoSh
namespace Go.Co
open Go.Am Go.Proofs
set_option linter.unusedSimpArgs false
set_option linter.unusedVariables false

/- copse/copselaw17.CoupleCuts -/
def c12_0 : ACode := .ops [⟨some 6, .box (.t 0) 4, none, []⟩,
  ⟨some 7, .box (.t 1) 8, none, []⟩,
  ⟨some 12, .mv (.c (.bool false)), none, []⟩] [2, 3, 4, 5, 6, 7]
theorem r12_0 {C : Cs} {k : List Fr} {s : St} {Q : Post} : run C c12_0 k s Q = run C (.ops [⟨some 6, .box (.t 0) 4, none, []⟩,
  ⟨some 7, .box (.t 1) 8, none, []⟩,
  ⟨some 12, .mv (.c (.bool false)), none, []⟩] [2, 3, 4, 5, 6, 7]) k s Q := rfl
def c12_1 : ACode := .ops [⟨some 28, .load 4 true (.t 6), none, [6]⟩,
  ⟨some 29, .call 45 [.t 28], none, []⟩,
  ⟨some 13, .alloc [.int .i64 0, .int .i64 0, .int .i64 0, .int .i64 0, .int .i64 0, .nils], none, []⟩,
  ⟨none, .store (.t 13) 6 (.t 29), none, [13]⟩] [2, 3, 4, 5, 7, 13]
theorem r12_1 {C : Cs} {k : List Fr} {s : St} {Q : Post} : run C c12_1 k s Q = run C (.ops [⟨some 28, .load 4 true (.t 6), none, [6]⟩,
  ⟨some 29, .call 45 [.t 28], none, []⟩,
  ⟨some 13, .alloc [.int .i64 0, .int .i64 0, .int .i64 0, .int .i64 0, .int .i64 0, .nils], none, []⟩,
  ⟨none, .store (.t 13) 6 (.t 29), none, [13]⟩] [2, 3, 4, 5, 7, 13]) k s Q := rfl
def c12_2 : ACode := .ops [⟨some 30, .load 8 true (.t 7), none, [7]⟩,
  ⟨some 31, .load 6 true (.t 13), none, [13]⟩,
  ⟨some 32, .call 59 [.t 30, .t 31], none, []⟩,
  ⟨some 14, .alloc [.int .i64 0, .int .i64 0, .int .i64 0, .int .i64 0, .int .i64 0, .int .i64 0, .int .i64 0, .int .i64 0, .int .i64 0, .int .i64 0, .int .i64 0, .int .i64 0, .int .i64 0, .int .i64 0, .int .i64 0, .bool false, .int .i64 0], none, []⟩,
  ⟨none, .store (.t 14) 17 (.t 32), none, [14]⟩] [2, 3, 4, 5, 7, 13, 14]
theorem r12_2 {C : Cs} {k : List Fr} {s : St} {Q : Post} : run C c12_2 k s Q = run C (.ops [⟨some 30, .load 8 true (.t 7), none, [7]⟩,
  ⟨some 31, .load 6 true (.t 13), none, [13]⟩,
  ⟨some 32, .call 59 [.t 30, .t 31], none, []⟩,
  ⟨some 14, .alloc [.int .i64 0, .int .i64 0, .int .i64 0, .int .i64 0, .int .i64 0, .int .i64 0, .int .i64 0, .int .i64 0, .int .i64 0, .int .i64 0, .int .i64 0, .int .i64 0, .int .i64 0, .int .i64 0, .int .i64 0, .bool false, .int .i64 0], none, []⟩,
  ⟨none, .store (.t 14) 17 (.t 32), none, [14]⟩] [2, 3, 4, 5, 7, 13, 14]) k s Q := rfl
def c12_3 : ACode := .ops [⟨some 33, .fad (.t 7) 4, none, [7]⟩,
  ⟨some 34, .load 1 false (.t 33), none, [7]⟩,
  ⟨some 35, .fad (.t 13) 0, none, [13]⟩,
  ⟨some 36, .load 1 false (.t 35), none, [13]⟩,
  ⟨some 37, .bin .sub (.t 36) (.c (.int .i64 1)), none, []⟩,
  ⟨some 38, .call 63 [.t 34, .c (.int .i64 0), .t 37], none, []⟩,
  ⟨some 39, .fad (.t 14) 0, none, [14]⟩,
  ⟨none, .store (.t 39) 1 (.c (.int .i64 3)), none, [14]⟩,
  ⟨some 40, .fad (.t 14) 12, none, [14]⟩,
  ⟨none, .store (.t 40) 1 (.c (.int .i64 0)), none, [14]⟩,
  ⟨some 41, .fad (.t 14) 13, none, [14]⟩,
  ⟨none, .store (.t 41) 1 (.c (.int .i64 0)), none, [14]⟩,
  ⟨some 42, .fad (.t 14) 14, none, [14]⟩,
  ⟨none, .store (.t 42) 1 (.t 38), none, [14]⟩] [2, 3, 4, 5, 13, 14]
theorem r12_3 {C : Cs} {k : List Fr} {s : St} {Q : Post} : run C c12_3 k s Q = run C (.ops [⟨some 33, .fad (.t 7) 4, none, [7]⟩,
  ⟨some 34, .load 1 false (.t 33), none, [7]⟩,
  ⟨some 35, .fad (.t 13) 0, none, [13]⟩,
  ⟨some 36, .load 1 false (.t 35), none, [13]⟩,
  ⟨some 37, .bin .sub (.t 36) (.c (.int .i64 1)), none, []⟩,
  ⟨some 38, .call 63 [.t 34, .c (.int .i64 0), .t 37], none, []⟩,
  ⟨some 39, .fad (.t 14) 0, none, [14]⟩,
  ⟨none, .store (.t 39) 1 (.c (.int .i64 3)), none, [14]⟩,
  ⟨some 40, .fad (.t 14) 12, none, [14]⟩,
  ⟨none, .store (.t 40) 1 (.c (.int .i64 0)), none, [14]⟩,
  ⟨some 41, .fad (.t 14) 13, none, [14]⟩,
  ⟨none, .store (.t 41) 1 (.c (.int .i64 0)), none, [14]⟩,
  ⟨some 42, .fad (.t 14) 14, none, [14]⟩,
  ⟨none, .store (.t 42) 1 (.t 38), none, [14]⟩] [2, 3, 4, 5, 13, 14]) k s Q := rfl
def c12_4 : ACode := .ops [⟨some 43, .load 17 true (.t 14), none, [14]⟩,
  ⟨some 44, .call 58 [.t 43], none, []⟩,
  ⟨some 15, .alloc [.int .i64 0, .int .i64 0, .int .i64 0, .int .i64 0, .int .i64 0, .int .i64 0, .int .i64 0, .int .i64 0, .int .i64 0, .int .i64 0], none, []⟩,
  ⟨none, .store (.t 15) 10 (.t 44), none, [15]⟩] [2, 3, 4, 5, 13, 14, 15]
theorem r12_4 {C : Cs} {k : List Fr} {s : St} {Q : Post} : run C c12_4 k s Q = run C (.ops [⟨some 43, .load 17 true (.t 14), none, [14]⟩,
  ⟨some 44, .call 58 [.t 43], none, []⟩,
  ⟨some 15, .alloc [.int .i64 0, .int .i64 0, .int .i64 0, .int .i64 0, .int .i64 0, .int .i64 0, .int .i64 0, .int .i64 0, .int .i64 0, .int .i64 0], none, []⟩,
  ⟨none, .store (.t 15) 10 (.t 44), none, [15]⟩] [2, 3, 4, 5, 13, 14, 15]) k s Q := rfl
def c12_5 : ACode := .ops [⟨some 45, .fad (.t 14) 14, none, [14]⟩,
  ⟨some 46, .load 1 false (.t 45), none, [14]⟩,
  ⟨some 16, .mv (.t 46), none, []⟩] [2, 3, 4, 5, 13, 14, 15, 16]
theorem r12_5 {C : Cs} {k : List Fr} {s : St} {Q : Post} : run C c12_5 k s Q = run C (.ops [⟨some 45, .fad (.t 14) 14, none, [14]⟩,
  ⟨some 46, .load 1 false (.t 45), none, [14]⟩,
  ⟨some 16, .mv (.t 46), none, []⟩] [2, 3, 4, 5, 13, 14, 15, 16]) k s Q := rfl
def c12_6 : ACode := .ops [⟨some 47, .mv (.t 2), none, []⟩] [3, 4, 5, 13, 14, 15, 16, 47]
theorem r12_6 {C : Cs} {k : List Fr} {s : St} {Q : Post} : run C c12_6 k s Q = run C (.ops [⟨some 47, .mv (.t 2), none, []⟩] [3, 4, 5, 13, 14, 15, 16, 47]) k s Q := rfl
def c12_7 : ACode := .ops [⟨some 16, .mv (.c (.int .i64 4)), none, []⟩] [3, 4, 5, 13, 14, 15, 16]
theorem r12_7 {C : Cs} {k : List Fr} {s : St} {Q : Post} : run C c12_7 k s Q = run C (.ops [⟨some 16, .mv (.c (.int .i64 4)), none, []⟩] [3, 4, 5, 13, 14, 15, 16]) k s Q := rfl
def c12_8 : ACode := .cond (.t 47) c12_7 .skip
theorem r12_8 {C : Cs} {k : List Fr} {s : St} {Q : Post} : run C c12_8 k s Q = run C (.cond (.t 47) c12_7 .skip) k s Q := rfl
def c12_9 : ACode := .seq c12_6 c12_8
theorem r12_9 {C : Cs} {k : List Fr} {s : St} {Q : Post} : run C c12_9 k s Q = run C (.seq c12_6 c12_8) k s Q := rfl
def c12_10 : ACode := .ops [⟨some 49, .load 6 true (.t 13), none, [13]⟩,
  ⟨some 50, .load 17 true (.t 14), none, [14]⟩,
  ⟨some 51, .load 10 true (.t 15), none, [15]⟩,
  ⟨some 52, .call 52 [.t 49, .t 50, .t 51], none, []⟩,
  ⟨some 48, .mv (.t 52), none, []⟩,
  ⟨some 53, .ext (.t 48) 0, none, []⟩,
  ⟨some 54, .ext (.t 48) 1, none, []⟩,
  ⟨some 55, .ext (.t 48) 2, none, []⟩,
  ⟨some 17, .mv (.t 53), none, []⟩,
  ⟨some 18, .mv (.t 54), none, []⟩,
  ⟨some 19, .mv (.t 55), none, []⟩] [3, 4, 5, 13, 14, 15, 16, 17, 18, 19]
theorem r12_10 {C : Cs} {k : List Fr} {s : St} {Q : Post} : run C c12_10 k s Q = run C (.ops [⟨some 49, .load 6 true (.t 13), none, [13]⟩,
  ⟨some 50, .load 17 true (.t 14), none, [14]⟩,
  ⟨some 51, .load 10 true (.t 15), none, [15]⟩,
  ⟨some 52, .call 52 [.t 49, .t 50, .t 51], none, []⟩,
  ⟨some 48, .mv (.t 52), none, []⟩,
  ⟨some 53, .ext (.t 48) 0, none, []⟩,
  ⟨some 54, .ext (.t 48) 1, none, []⟩,
  ⟨some 55, .ext (.t 48) 2, none, []⟩,
  ⟨some 17, .mv (.t 53), none, []⟩,
  ⟨some 18, .mv (.t 54), none, []⟩,
  ⟨some 19, .mv (.t 55), none, []⟩] [3, 4, 5, 13, 14, 15, 16, 17, 18, 19]) k s Q := rfl
def c12_11 : ACode := .ops [⟨some 57, .load 10 true (.t 15), none, [15]⟩,
  ⟨some 58, .mv (.t 16), none, []⟩,
  ⟨some 59, .mv (.t 3), none, []⟩,
  ⟨some 60, .mv (.t 16), none, []⟩,
  ⟨some 61, .iad (.t 15) (.t 60) 2 5, none, [15]⟩,
  ⟨some 62, .fad (.t 61) 0, none, [15]⟩,
  ⟨some 63, .load 1 false (.t 62), none, [15]⟩,
  ⟨some 64, .mv (.t 16), none, []⟩,
  ⟨some 65, .iad (.t 15) (.t 64) 2 5, none, [15]⟩,
  ⟨some 66, .fad (.t 65) 1, none, [15]⟩,
  ⟨some 67, .load 1 false (.t 66), none, [15]⟩,
  ⟨some 68, .call 63 [.t 59, .t 63, .t 67], none, []⟩,
  ⟨some 69, .call 67 [.t 57, .t 58, .t 68], none, []⟩,
  ⟨some 56, .mv (.t 69), none, []⟩,
  ⟨some 70, .ext (.t 56) 0, none, []⟩,
  ⟨some 71, .ext (.t 56) 1, none, []⟩,
  ⟨some 20, .alloc [.int .i64 0, .int .i64 0, .int .i64 0, .int .i64 0, .int .i64 0, .int .i64 0, .int .i64 0, .int .i64 0, .int .i64 0, .int .i64 0], none, []⟩,
  ⟨some 21, .alloc [.int .i64 0, .int .i64 0, .int .i64 0, .int .i64 0, .int .i64 0, .int .i64 0, .int .i64 0, .int .i64 0, .int .i64 0, .int .i64 0], none, []⟩,
  ⟨none, .store (.t 20) 10 (.t 70), none, [20]⟩,
  ⟨none, .store (.t 21) 10 (.t 71), none, [21]⟩] [4, 5, 13, 14, 17, 18, 19, 20, 21]
theorem r12_11 {C : Cs} {k : List Fr} {s : St} {Q : Post} : run C c12_11 k s Q = run C (.ops [⟨some 57, .load 10 true (.t 15), none, [15]⟩,
  ⟨some 58, .mv (.t 16), none, []⟩,
  ⟨some 59, .mv (.t 3), none, []⟩,
  ⟨some 60, .mv (.t 16), none, []⟩,
  ⟨some 61, .iad (.t 15) (.t 60) 2 5, none, [15]⟩,
  ⟨some 62, .fad (.t 61) 0, none, [15]⟩,
  ⟨some 63, .load 1 false (.t 62), none, [15]⟩,
  ⟨some 64, .mv (.t 16), none, []⟩,
  ⟨some 65, .iad (.t 15) (.t 64) 2 5, none, [15]⟩,
  ⟨some 66, .fad (.t 65) 1, none, [15]⟩,
  ⟨some 67, .load 1 false (.t 66), none, [15]⟩,
  ⟨some 68, .call 63 [.t 59, .t 63, .t 67], none, []⟩,
  ⟨some 69, .call 67 [.t 57, .t 58, .t 68], none, []⟩,
  ⟨some 56, .mv (.t 69), none, []⟩,
  ⟨some 70, .ext (.t 56) 0, none, []⟩,
  ⟨some 71, .ext (.t 56) 1, none, []⟩,
  ⟨some 20, .alloc [.int .i64 0, .int .i64 0, .int .i64 0, .int .i64 0, .int .i64 0, .int .i64 0, .int .i64 0, .int .i64 0, .int .i64 0, .int .i64 0], none, []⟩,
  ⟨some 21, .alloc [.int .i64 0, .int .i64 0, .int .i64 0, .int .i64 0, .int .i64 0, .int .i64 0, .int .i64 0, .int .i64 0, .int .i64 0, .int .i64 0], none, []⟩,
  ⟨none, .store (.t 20) 10 (.t 70), none, [20]⟩,
  ⟨none, .store (.t 21) 10 (.t 71), none, [21]⟩] [4, 5, 13, 14, 17, 18, 19, 20, 21]) k s Q := rfl
def c12_12 : ACode := .ops [⟨some 72, .load 10 true (.t 20), none, [20]⟩,
  ⟨some 73, .load 10 true (.t 21), none, [21]⟩,
  ⟨some 74, .mkrow 74 2 10 [.int .i64 0, .int .i64 0, .int .i64 0, .int .i64 0, .int .i64 0, .int .i64 0, .int .i64 0, .int .i64 0, .int .i64 0, .int .i64 0] [(0, 10, .t 72), (10, 10, .t 73)], none, []⟩,
  ⟨some 75, .len (.t 74), none, [74]⟩,
  ⟨some 76, .mv (.c (.int .i64 0)), none, []⟩] [4, 5, 13, 14, 17, 18, 19, 74, 75, 76]
theorem r12_12 {C : Cs} {k : List Fr} {s : St} {Q : Post} : run C c12_12 k s Q = run C (.ops [⟨some 72, .load 10 true (.t 20), none, [20]⟩,
  ⟨some 73, .load 10 true (.t 21), none, [21]⟩,
  ⟨some 74, .mkrow 74 2 10 [.int .i64 0, .int .i64 0, .int .i64 0, .int .i64 0, .int .i64 0, .int .i64 0, .int .i64 0, .int .i64 0, .int .i64 0, .int .i64 0] [(0, 10, .t 72), (10, 10, .t 73)], none, []⟩,
  ⟨some 75, .len (.t 74), none, [74]⟩,
  ⟨some 76, .mv (.c (.int .i64 0)), none, []⟩] [4, 5, 13, 14, 17, 18, 19, 74, 75, 76]) k s Q := rfl
def c12_13 : ACode := .ops [⟨some 77, .bin .lss (.t 76) (.t 75), none, []⟩] [4, 5, 13, 14, 17, 18, 19, 74, 75, 76, 77]
theorem r12_13 {C : Cs} {k : List Fr} {s : St} {Q : Post} : run C c12_13 k s Q = run C (.ops [⟨some 77, .bin .lss (.t 76) (.t 75), none, []⟩] [4, 5, 13, 14, 17, 18, 19, 74, 75, 76, 77]) k s Q := rfl
def c12_14 : ACode := .cond (.t 77) .skip (.exit 0)
theorem r12_14 {C : Cs} {k : List Fr} {s : St} {Q : Post} : run C c12_14 k s Q = run C (.cond (.t 77) .skip (.exit 0)) k s Q := rfl
def c12_15 : ACode := .ops [⟨some 78, .ias (.t 74) (.t 76) 10, none, [74]⟩,
  ⟨some 79, .load 10 true (.t 78), none, [74]⟩,
  ⟨some 23, .alloc [.int .i64 0, .int .i64 0, .int .i64 0, .int .i64 0, .int .i64 0, .int .i64 0, .int .i64 0, .int .i64 0, .int .i64 0, .int .i64 0], none, []⟩,
  ⟨none, .store (.t 23) 10 (.t 79), none, [23]⟩] [4, 5, 13, 14, 17, 18, 19, 23, 74, 75, 76]
theorem r12_15 {C : Cs} {k : List Fr} {s : St} {Q : Post} : run C c12_15 k s Q = run C (.ops [⟨some 78, .ias (.t 74) (.t 76) 10, none, [74]⟩,
  ⟨some 79, .load 10 true (.t 78), none, [74]⟩,
  ⟨some 23, .alloc [.int .i64 0, .int .i64 0, .int .i64 0, .int .i64 0, .int .i64 0, .int .i64 0, .int .i64 0, .int .i64 0, .int .i64 0, .int .i64 0], none, []⟩,
  ⟨none, .store (.t 23) 10 (.t 79), none, [23]⟩] [4, 5, 13, 14, 17, 18, 19, 23, 74, 75, 76]) k s Q := rfl
def c12_16 : ACode := .ops [⟨some 81, .load 6 true (.t 13), none, [13]⟩,
  ⟨some 82, .load 17 true (.t 14), none, [14]⟩,
  ⟨some 83, .load 10 true (.t 23), none, [23]⟩,
  ⟨some 84, .call 52 [.t 81, .t 82, .t 83], none, []⟩,
  ⟨some 80, .mv (.t 84), none, []⟩,
  ⟨some 85, .ext (.t 80) 0, none, []⟩,
  ⟨some 86, .ext (.t 80) 1, none, []⟩,
  ⟨some 87, .ext (.t 80) 2, none, []⟩,
  ⟨some 24, .mv (.t 85), none, []⟩,
  ⟨some 25, .mv (.t 86), none, []⟩,
  ⟨some 26, .mv (.t 87), none, []⟩] [4, 5, 13, 14, 17, 18, 19, 23, 24, 25, 26, 74, 75, 76]
theorem r12_16 {C : Cs} {k : List Fr} {s : St} {Q : Post} : run C c12_16 k s Q = run C (.ops [⟨some 81, .load 6 true (.t 13), none, [13]⟩,
  ⟨some 82, .load 17 true (.t 14), none, [14]⟩,
  ⟨some 83, .load 10 true (.t 23), none, [23]⟩,
  ⟨some 84, .call 52 [.t 81, .t 82, .t 83], none, []⟩,
  ⟨some 80, .mv (.t 84), none, []⟩,
  ⟨some 85, .ext (.t 80) 0, none, []⟩,
  ⟨some 86, .ext (.t 80) 1, none, []⟩,
  ⟨some 87, .ext (.t 80) 2, none, []⟩,
  ⟨some 24, .mv (.t 85), none, []⟩,
  ⟨some 25, .mv (.t 86), none, []⟩,
  ⟨some 26, .mv (.t 87), none, []⟩] [4, 5, 13, 14, 17, 18, 19, 23, 24, 25, 26, 74, 75, 76]) k s Q := rfl
def c12_17 : ACode := .ops [⟨some 88, .mv (.t 26), none, []⟩,
  ⟨some 89, .load 10 true (.t 23), none, [23]⟩,
  ⟨some 90, .call 68 [.t 89], none, []⟩,
  ⟨some 91, .eqb false (.t 88) (.t 90), none, []⟩,
  ⟨some 92, .mv (.t 91), none, []⟩,
  ⟨some 93, .mv (.t 26), some (92, false), []⟩,
  ⟨some 94, .mv (.t 93), some (92, false), []⟩,
  ⟨some 95, .mv (.t 24), some (94, true), []⟩,
  ⟨some 96, .mv (.t 17), some (94, true), []⟩,
  ⟨some 97, .bin .lss (.t 95) (.t 96), some (94, true), []⟩,
  ⟨some 98, .mv (.t 97), some (94, true), []⟩,
  ⟨some 99, .mv (.t 25), some (98, false), []⟩,
  ⟨some 100, .mv (.t 18), some (98, false), []⟩,
  ⟨some 101, .bin .gtr (.t 99) (.t 100), some (98, false), []⟩,
  ⟨some 102, .pick (.t 98) (.c (.bool true)) (.t 101), some (94, true), []⟩,
  ⟨some 103, .pick (.t 94) (.t 102) (.c (.bool false)), some (92, false), []⟩,
  ⟨some 104, .pick (.t 92) (.c (.bool true)) (.t 103), none, []⟩] [4, 5, 13, 14, 17, 18, 19, 23, 74, 75, 76, 104]
theorem r12_17 {C : Cs} {k : List Fr} {s : St} {Q : Post} : run C c12_17 k s Q = run C (.ops [⟨some 88, .mv (.t 26), none, []⟩,
  ⟨some 89, .load 10 true (.t 23), none, [23]⟩,
  ⟨some 90, .call 68 [.t 89], none, []⟩,
  ⟨some 91, .eqb false (.t 88) (.t 90), none, []⟩,
  ⟨some 92, .mv (.t 91), none, []⟩,
  ⟨some 93, .mv (.t 26), some (92, false), []⟩,
  ⟨some 94, .mv (.t 93), some (92, false), []⟩,
  ⟨some 95, .mv (.t 24), some (94, true), []⟩,
  ⟨some 96, .mv (.t 17), some (94, true), []⟩,
  ⟨some 97, .bin .lss (.t 95) (.t 96), some (94, true), []⟩,
  ⟨some 98, .mv (.t 97), some (94, true), []⟩,
  ⟨some 99, .mv (.t 25), some (98, false), []⟩,
  ⟨some 100, .mv (.t 18), some (98, false), []⟩,
  ⟨some 101, .bin .gtr (.t 99) (.t 100), some (98, false), []⟩,
  ⟨some 102, .pick (.t 98) (.c (.bool true)) (.t 101), some (94, true), []⟩,
  ⟨some 103, .pick (.t 94) (.t 102) (.c (.bool false)), some (92, false), []⟩,
  ⟨some 104, .pick (.t 92) (.c (.bool true)) (.t 103), none, []⟩] [4, 5, 13, 14, 17, 18, 19, 23, 74, 75, 76, 104]) k s Q := rfl
def c12_18 : ACode := .ops [⟨some 12, .mv (.c (.bool false)), none, []⟩] [12]
theorem r12_18 {C : Cs} {k : List Fr} {s : St} {Q : Post} : run C c12_18 k s Q = run C (.ops [⟨some 12, .mv (.c (.bool false)), none, []⟩] [12]) k s Q := rfl
def c12_19 : ACode := .seq c12_18 .ret
theorem r12_19 {C : Cs} {k : List Fr} {s : St} {Q : Post} : run C c12_19 k s Q = run C (.seq c12_18 .ret) k s Q := rfl
def c12_20 : ACode := .cond (.t 104) c12_19 .skip
theorem r12_20 {C : Cs} {k : List Fr} {s : St} {Q : Post} : run C c12_20 k s Q = run C (.cond (.t 104) c12_19 .skip) k s Q := rfl
def c12_21 : ACode := .seq c12_17 c12_20
theorem r12_21 {C : Cs} {k : List Fr} {s : St} {Q : Post} : run C c12_21 k s Q = run C (.seq c12_17 c12_20) k s Q := rfl
def c12_22 : ACode := .ops [⟨some 105, .load 10 true (.t 23), none, [23]⟩,
  ⟨some 106, .call 68 [.t 105], none, []⟩,
  ⟨some 107, .mv (.t 106), none, []⟩,
  ⟨some 108, .load 17 true (.t 14), some (107, false), [14]⟩,
  ⟨some 109, .load 10 true (.t 23), some (107, false), [23]⟩,
  ⟨some 110, .call 53 [.t 108, .t 109], some (107, false), []⟩,
  ⟨some 111, .pick (.t 107) (.c (.bool true)) (.t 110), none, []⟩] [4, 5, 13, 14, 17, 18, 19, 23, 74, 75, 76, 111]
theorem r12_22 {C : Cs} {k : List Fr} {s : St} {Q : Post} : run C c12_22 k s Q = run C (.ops [⟨some 105, .load 10 true (.t 23), none, [23]⟩,
  ⟨some 106, .call 68 [.t 105], none, []⟩,
  ⟨some 107, .mv (.t 106), none, []⟩,
  ⟨some 108, .load 17 true (.t 14), some (107, false), [14]⟩,
  ⟨some 109, .load 10 true (.t 23), some (107, false), [23]⟩,
  ⟨some 110, .call 53 [.t 108, .t 109], some (107, false), []⟩,
  ⟨some 111, .pick (.t 107) (.c (.bool true)) (.t 110), none, []⟩] [4, 5, 13, 14, 17, 18, 19, 23, 74, 75, 76, 111]) k s Q := rfl
def c12_23 : ACode := .cond (.t 111) (.exit 1) .skip
theorem r12_23 {C : Cs} {k : List Fr} {s : St} {Q : Post} : run C c12_23 k s Q = run C (.cond (.t 111) (.exit 1) .skip) k s Q := rfl
def c12_24 : ACode := .seq c12_22 c12_23
theorem r12_24 {C : Cs} {k : List Fr} {s : St} {Q : Post} : run C c12_24 k s Q = run C (.seq c12_22 c12_23) k s Q := rfl
def c12_25 : ACode := .ops [⟨some 112, .load 10 true (.t 23), none, [23]⟩,
  ⟨some 113, .mv (.t 4), none, []⟩,
  ⟨some 114, .call 66 [.t 112, .t 113], none, []⟩,
  ⟨some 27, .alloc [.int .i64 0, .int .i64 0, .int .i64 0, .int .i64 0], none, []⟩,
  ⟨none, .store (.t 27) 4 (.t 114), none, [27]⟩] [4, 5, 13, 14, 17, 18, 19, 23, 27, 74, 75, 76]
theorem r12_25 {C : Cs} {k : List Fr} {s : St} {Q : Post} : run C c12_25 k s Q = run C (.ops [⟨some 112, .load 10 true (.t 23), none, [23]⟩,
  ⟨some 113, .mv (.t 4), none, []⟩,
  ⟨some 114, .call 66 [.t 112, .t 113], none, []⟩,
  ⟨some 27, .alloc [.int .i64 0, .int .i64 0, .int .i64 0, .int .i64 0], none, []⟩,
  ⟨none, .store (.t 27) 4 (.t 114), none, [27]⟩] [4, 5, 13, 14, 17, 18, 19, 23, 27, 74, 75, 76]) k s Q := rfl
def c12_26 : ACode := .ops [⟨some 115, .fad (.t 14) 14, none, [14]⟩,
  ⟨some 116, .load 1 false (.t 115), none, [14]⟩,
  ⟨some 117, .iad (.t 27) (.t 116) 1 4, none, [27]⟩,
  ⟨some 118, .load 1 false (.t 117), none, [27]⟩,
  ⟨some 119, .mv (.t 5), none, []⟩,
  ⟨some 120, .iad (.t 23) (.c (.int .i64 4)) 2 5, none, [23]⟩,
  ⟨some 121, .fad (.t 120) 0, none, [23]⟩,
  ⟨some 122, .load 1 false (.t 121), none, [23]⟩,
  ⟨some 123, .iad (.t 23) (.c (.int .i64 4)) 2 5, none, [23]⟩,
  ⟨some 124, .fad (.t 123) 1, none, [23]⟩,
  ⟨some 125, .load 1 false (.t 124), none, [23]⟩,
  ⟨some 126, .call 63 [.t 119, .t 122, .t 125], none, []⟩,
  ⟨some 127, .bin .lss (.t 118) (.t 126), none, []⟩] [4, 5, 13, 14, 17, 18, 19, 74, 75, 76, 127]
theorem r12_26 {C : Cs} {k : List Fr} {s : St} {Q : Post} : run C c12_26 k s Q = run C (.ops [⟨some 115, .fad (.t 14) 14, none, [14]⟩,
  ⟨some 116, .load 1 false (.t 115), none, [14]⟩,
  ⟨some 117, .iad (.t 27) (.t 116) 1 4, none, [27]⟩,
  ⟨some 118, .load 1 false (.t 117), none, [27]⟩,
  ⟨some 119, .mv (.t 5), none, []⟩,
  ⟨some 120, .iad (.t 23) (.c (.int .i64 4)) 2 5, none, [23]⟩,
  ⟨some 121, .fad (.t 120) 0, none, [23]⟩,
  ⟨some 122, .load 1 false (.t 121), none, [23]⟩,
  ⟨some 123, .iad (.t 23) (.c (.int .i64 4)) 2 5, none, [23]⟩,
  ⟨some 124, .fad (.t 123) 1, none, [23]⟩,
  ⟨some 125, .load 1 false (.t 124), none, [23]⟩,
  ⟨some 126, .call 63 [.t 119, .t 122, .t 125], none, []⟩,
  ⟨some 127, .bin .lss (.t 118) (.t 126), none, []⟩] [4, 5, 13, 14, 17, 18, 19, 74, 75, 76, 127]) k s Q := rfl
def c12_27 : ACode := .ops [⟨some 12, .mv (.c (.bool false)), none, []⟩] [12]
theorem r12_27 {C : Cs} {k : List Fr} {s : St} {Q : Post} : run C c12_27 k s Q = run C (.ops [⟨some 12, .mv (.c (.bool false)), none, []⟩] [12]) k s Q := rfl
def c12_28 : ACode := .seq c12_27 .ret
theorem r12_28 {C : Cs} {k : List Fr} {s : St} {Q : Post} : run C c12_28 k s Q = run C (.seq c12_27 .ret) k s Q := rfl
def c12_29 : ACode := .cond (.t 127) c12_28 .skip
theorem r12_29 {C : Cs} {k : List Fr} {s : St} {Q : Post} : run C c12_29 k s Q = run C (.cond (.t 127) c12_28 .skip) k s Q := rfl
def c12_30 : ACode := .seq c12_26 c12_29
theorem r12_30 {C : Cs} {k : List Fr} {s : St} {Q : Post} : run C c12_30 k s Q = run C (.seq c12_26 c12_29) k s Q := rfl
def c12_31 : ACode := .seq c12_25 c12_30
theorem r12_31 {C : Cs} {k : List Fr} {s : St} {Q : Post} : run C c12_31 k s Q = run C (.seq c12_25 c12_30) k s Q := rfl
def c12_32 : ACode := .seq c12_24 c12_31
theorem r12_32 {C : Cs} {k : List Fr} {s : St} {Q : Post} : run C c12_32 k s Q = run C (.seq c12_24 c12_31) k s Q := rfl
def c12_33 : ACode := .seq c12_21 c12_32
theorem r12_33 {C : Cs} {k : List Fr} {s : St} {Q : Post} : run C c12_33 k s Q = run C (.seq c12_21 c12_32) k s Q := rfl
def c12_34 : ACode := .seq c12_16 c12_33
theorem r12_34 {C : Cs} {k : List Fr} {s : St} {Q : Post} : run C c12_34 k s Q = run C (.seq c12_16 c12_33) k s Q := rfl
def c12_35 : ACode := .seq c12_15 c12_34
theorem r12_35 {C : Cs} {k : List Fr} {s : St} {Q : Post} : run C c12_35 k s Q = run C (.seq c12_15 c12_34) k s Q := rfl
def c12_36 : ACode := .block 1 c12_35
theorem r12_36 {C : Cs} {k : List Fr} {s : St} {Q : Post} : run C c12_36 k s Q = run C (.block 1 c12_35) k s Q := rfl
def c12_37 : ACode := .ops [⟨some 128, .bin .add (.t 76) (.c (.int .i64 1)), none, []⟩,
  ⟨some 76, .mv (.t 128), none, []⟩] [4, 5, 13, 14, 17, 18, 19, 74, 75, 76]
theorem r12_37 {C : Cs} {k : List Fr} {s : St} {Q : Post} : run C c12_37 k s Q = run C (.ops [⟨some 128, .bin .add (.t 76) (.c (.int .i64 1)), none, []⟩,
  ⟨some 76, .mv (.t 128), none, []⟩] [4, 5, 13, 14, 17, 18, 19, 74, 75, 76]) k s Q := rfl
def c12_38 : ACode := .seq c12_36 c12_37
theorem r12_38 {C : Cs} {k : List Fr} {s : St} {Q : Post} : run C c12_38 k s Q = run C (.seq c12_36 c12_37) k s Q := rfl
def c12_39 : ACode := .seq c12_14 c12_38
theorem r12_39 {C : Cs} {k : List Fr} {s : St} {Q : Post} : run C c12_39 k s Q = run C (.seq c12_14 c12_38) k s Q := rfl
def c12_40 : ACode := .seq c12_13 c12_39
theorem r12_40 {C : Cs} {k : List Fr} {s : St} {Q : Post} : run C c12_40 k s Q = run C (.seq c12_13 c12_39) k s Q := rfl
def c12_41 : ACode := .keep [4, 5, 13, 14, 17, 18, 19, 74, 75, 76] [13, 14, 74] c12_40
theorem r12_41 {C : Cs} {k : List Fr} {s : St} {Q : Post} : run C c12_41 k s Q = run C (.keep [4, 5, 13, 14, 17, 18, 19, 74, 75, 76] [13, 14, 74] c12_40) k s Q := rfl
def c12_42 : ACode := .loop c12_41
theorem r12_42 {C : Cs} {k : List Fr} {s : St} {Q : Post} : run C c12_42 k s Q = run C (.loop c12_41) k s Q := rfl
def c12_43 : ACode := .block 0 c12_42
theorem r12_43 {C : Cs} {k : List Fr} {s : St} {Q : Post} : run C c12_43 k s Q = run C (.block 0 c12_42) k s Q := rfl
def c12_44 : ACode := .seq c12_12 c12_43
theorem r12_44 {C : Cs} {k : List Fr} {s : St} {Q : Post} : run C c12_44 k s Q = run C (.seq c12_12 c12_43) k s Q := rfl
def c12_45 : ACode := .ops [⟨some 129, .mv (.t 19), none, []⟩,
  ⟨some 130, .mv (.t 129), none, []⟩,
  ⟨some 131, .call 6 [], some (130, true), []⟩,
  ⟨some 132, .pick (.t 130) (.t 131) (.c (.bool false)), none, []⟩,
  ⟨some 12, .mv (.t 132), none, []⟩] [12]
theorem r12_45 {C : Cs} {k : List Fr} {s : St} {Q : Post} : run C c12_45 k s Q = run C (.ops [⟨some 129, .mv (.t 19), none, []⟩,
  ⟨some 130, .mv (.t 129), none, []⟩,
  ⟨some 131, .call 6 [], some (130, true), []⟩,
  ⟨some 132, .pick (.t 130) (.t 131) (.c (.bool false)), none, []⟩,
  ⟨some 12, .mv (.t 132), none, []⟩] [12]) k s Q := rfl
def c12_46 : ACode := .seq c12_45 .ret
theorem r12_46 {C : Cs} {k : List Fr} {s : St} {Q : Post} : run C c12_46 k s Q = run C (.seq c12_45 .ret) k s Q := rfl
def c12_47 : ACode := .seq c12_44 c12_46
theorem r12_47 {C : Cs} {k : List Fr} {s : St} {Q : Post} : run C c12_47 k s Q = run C (.seq c12_44 c12_46) k s Q := rfl
def c12_48 : ACode := .seq c12_11 c12_47
theorem r12_48 {C : Cs} {k : List Fr} {s : St} {Q : Post} : run C c12_48 k s Q = run C (.seq c12_11 c12_47) k s Q := rfl
def c12_49 : ACode := .seq c12_10 c12_48
theorem r12_49 {C : Cs} {k : List Fr} {s : St} {Q : Post} : run C c12_49 k s Q = run C (.seq c12_10 c12_48) k s Q := rfl
def c12_50 : ACode := .seq c12_9 c12_49
theorem r12_50 {C : Cs} {k : List Fr} {s : St} {Q : Post} : run C c12_50 k s Q = run C (.seq c12_9 c12_49) k s Q := rfl
def c12_51 : ACode := .seq c12_5 c12_50
theorem r12_51 {C : Cs} {k : List Fr} {s : St} {Q : Post} : run C c12_51 k s Q = run C (.seq c12_5 c12_50) k s Q := rfl
def c12_52 : ACode := .seq c12_4 c12_51
theorem r12_52 {C : Cs} {k : List Fr} {s : St} {Q : Post} : run C c12_52 k s Q = run C (.seq c12_4 c12_51) k s Q := rfl
def c12_53 : ACode := .seq c12_3 c12_52
theorem r12_53 {C : Cs} {k : List Fr} {s : St} {Q : Post} : run C c12_53 k s Q = run C (.seq c12_3 c12_52) k s Q := rfl
def c12_54 : ACode := .seq c12_2 c12_53
theorem r12_54 {C : Cs} {k : List Fr} {s : St} {Q : Post} : run C c12_54 k s Q = run C (.seq c12_2 c12_53) k s Q := rfl
def c12_55 : ACode := .seq c12_1 c12_54
theorem r12_55 {C : Cs} {k : List Fr} {s : St} {Q : Post} : run C c12_55 k s Q = run C (.seq c12_1 c12_54) k s Q := rfl
def c12_56 : ACode := .seq c12_0 c12_55
theorem r12_56 {C : Cs} {k : List Fr} {s : St} {Q : Post} : run C c12_56 k s Q = run C (.seq c12_0 c12_55) k s Q := rfl
def a12 : AFun := ⟨6, 133, c12_56, [.t 12]⟩
attribute [simp] r12_0 r12_1 r12_2 r12_3 r12_4 r12_5 r12_6 r12_7 r12_8 r12_9 r12_10 r12_11 r12_12 r12_13 r12_14 r12_15 r12_16 r12_17 r12_18 r12_19 r12_20 r12_21 r12_22 r12_23 r12_24 r12_25 r12_26 r12_27 r12_28 r12_29 r12_30 r12_31 r12_32 r12_33 r12_34 r12_35 r12_36 r12_37 r12_38 r12_39 r12_40 r12_41 r12_42 r12_43 r12_44 r12_45 r12_46 r12_47 r12_48 r12_49 r12_50 r12_51 r12_52 r12_53 r12_54 r12_55 r12_56
theorem m12 : mFun Try.prog Try.f12 a12 = true := by decide +kernel

/- copse/copselaw17.CoupleRuns -/
def c6_0 : ACode := .ops [⟨some 0, .mv (.c (.bool false)), none, []⟩] []
def c6_1 : ACode := .ops [⟨some 7, .call 43 [], none, []⟩,
  ⟨some 1, .alloc [.int .i64 0, .int .i64 0, .int .i64 0, .int .i64 0, .int .i64 0, .nils], none, []⟩,
  ⟨none, .store (.t 1) 6 (.t 7), none, [1]⟩] [1]
def c6_2 : ACode := .ops [⟨some 8, .build [.int .i64 0, .int .i64 0] [(0, 1, .c (.int .i64 0)), (1, 1, .c (.int .i64 9))], none, []⟩,
  ⟨some 9, .build [.int .i64 0, .int .i64 0, .int .i64 0, .int .i64 0, .int .i64 0, .int .i64 0, .int .i64 0, .int .i64 0, .int .i64 0, .int .i64 0] [(0, 2, .t 8)], none, []⟩,
  ⟨some 10, .build [.int .i64 0, .int .i64 0, .int .i64 0, .int .i64 0, .int .i64 0, .int .i64 0, .int .i64 0, .int .i64 0, .int .i64 0, .int .i64 0, .int .i64 0, .int .i64 0, .int .i64 0, .int .i64 0, .int .i64 0, .bool false, .int .i64 0] [(0, 1, .c (.int .i64 3)), (2, 10, .t 9)], none, []⟩,
  ⟨some 2, .alloc [.int .i64 0, .int .i64 0, .int .i64 0, .int .i64 0, .int .i64 0, .int .i64 0, .int .i64 0, .int .i64 0, .int .i64 0, .int .i64 0, .int .i64 0, .int .i64 0, .int .i64 0, .int .i64 0, .int .i64 0, .bool false, .int .i64 0], none, []⟩,
  ⟨none, .store (.t 2) 17 (.t 10), none, [2]⟩] [1, 2]
def c6_3 : ACode := .ops [⟨some 11, .build [.int .i64 0, .int .i64 0] [(0, 1, .c (.int .i64 0)), (1, 1, .c (.int .i64 5))], none, []⟩,
  ⟨some 12, .build [.int .i64 0, .int .i64 0] [], none, []⟩,
  ⟨some 13, .build [.int .i64 0, .int .i64 0] [], none, []⟩,
  ⟨some 14, .build [.int .i64 0, .int .i64 0] [], none, []⟩,
  ⟨some 15, .build [.int .i64 0, .int .i64 0] [(0, 1, .c (.int .i64 6)), (1, 1, .c (.int .i64 9))], none, []⟩,
  ⟨some 16, .build [.int .i64 0, .int .i64 0, .int .i64 0, .int .i64 0, .int .i64 0, .int .i64 0, .int .i64 0, .int .i64 0, .int .i64 0, .int .i64 0] [(0, 2, .t 11), (2, 2, .t 12), (4, 2, .t 13), (6, 2, .t 14), (8, 2, .t 15)], none, []⟩,
  ⟨some 3, .alloc [.int .i64 0, .int .i64 0, .int .i64 0, .int .i64 0, .int .i64 0, .int .i64 0, .int .i64 0, .int .i64 0, .int .i64 0, .int .i64 0], none, []⟩,
  ⟨none, .store (.t 3) 10 (.t 16), none, [3]⟩] [1, 2, 3]
def c6_4 : ACode := .ops [⟨some 18, .load 6 true (.t 1), none, [1]⟩,
  ⟨some 19, .load 17 true (.t 2), none, [2]⟩,
  ⟨some 20, .load 10 true (.t 3), none, [3]⟩,
  ⟨some 21, .call 52 [.t 18, .t 19, .t 20], none, []⟩,
  ⟨some 17, .mv (.t 21), none, []⟩,
  ⟨some 22, .ext (.t 17) 0, none, []⟩,
  ⟨some 23, .ext (.t 17) 1, none, []⟩,
  ⟨some 24, .ext (.t 17) 2, none, []⟩,
  ⟨some 4, .mv (.t 22), none, []⟩,
  ⟨some 5, .mv (.t 23), none, []⟩,
  ⟨some 6, .mv (.t 24), none, []⟩] [2, 3, 4, 5, 6]
def c6_5 : ACode := .ops [⟨some 25, .mv (.t 4), none, []⟩,
  ⟨some 26, .bin .eql (.t 25) (.c (.int .i64 10)), none, []⟩,
  ⟨some 27, .mv (.t 26), none, []⟩,
  ⟨some 28, .mv (.t 5), some (27, true), []⟩,
  ⟨some 29, .bin .eql (.t 28) (.c (.int .i64 10)), some (27, true), []⟩,
  ⟨some 30, .pick (.t 27) (.t 29) (.c (.bool false)), none, []⟩,
  ⟨some 31, .mv (.t 30), none, []⟩,
  ⟨some 32, .mv (.t 6), some (31, true), []⟩,
  ⟨some 33, .pick (.t 31) (.t 32) (.c (.bool false)), none, []⟩,
  ⟨some 34, .mv (.t 33), none, []⟩,
  ⟨some 35, .load 17 true (.t 2), some (34, true), [2]⟩,
  ⟨some 36, .load 10 true (.t 3), some (34, true), [3]⟩,
  ⟨some 37, .call 53 [.t 35, .t 36], some (34, true), []⟩,
  ⟨some 38, .pick (.t 34) (.t 37) (.c (.bool false)), none, []⟩,
  ⟨some 39, .mv (.t 38), none, []⟩,
  ⟨some 40, .load 17 true (.t 2), some (39, true), [2]⟩,
  ⟨some 41, .build [.int .i64 0, .int .i64 0] [(0, 1, .c (.int .i64 0)), (1, 1, .c (.int .i64 5))], some (39, true), []⟩,
  ⟨some 42, .build [.int .i64 0, .int .i64 0, .int .i64 0, .int .i64 0, .int .i64 0, .int .i64 0, .int .i64 0, .int .i64 0, .int .i64 0, .int .i64 0] [(0, 2, .t 41)], some (39, true), []⟩,
  ⟨some 43, .call 53 [.t 40, .t 42], some (39, true), []⟩,
  ⟨some 44, .un .not (.t 43), some (39, true), []⟩,
  ⟨some 45, .pick (.t 39) (.t 44) (.c (.bool false)), none, []⟩,
  ⟨some 46, .mv (.t 45), none, []⟩,
  ⟨some 47, .load 17 true (.t 2), some (46, true), [2]⟩,
  ⟨some 48, .load 10 true (.t 3), some (46, true), [3]⟩,
  ⟨some 49, .call 54 [.t 47, .t 48], some (46, true), []⟩,
  ⟨some 50, .build [.int .i64 0, .int .i64 0] [(0, 1, .c (.int .i64 6)), (1, 1, .c (.int .i64 9))], some (46, true), []⟩,
  ⟨some 51, .build [.int .i64 0, .int .i64 0, .int .i64 0, .int .i64 0, .int .i64 0, .int .i64 0, .int .i64 0, .int .i64 0, .int .i64 0, .int .i64 0] [(0, 2, .t 50)], some (46, true), []⟩,
  ⟨some 52, .eqa false [false, false, false, false, false, false, false, false, false, false] (.t 49) (.t 51), some (46, true), []⟩,
  ⟨some 53, .pick (.t 46) (.t 52) (.c (.bool false)), none, []⟩,
  ⟨some 54, .mv (.t 53), none, []⟩,
  ⟨some 55, .load 17 true (.t 2), some (54, true), [2]⟩,
  ⟨some 56, .load 10 true (.t 3), some (54, true), [3]⟩,
  ⟨some 57, .call 55 [.t 55, .t 56], some (54, true), []⟩,
  ⟨some 58, .build [.int .i64 0, .int .i64 0] [(0, 1, .c (.int .i64 0)), (1, 1, .c (.int .i64 5))], some (54, true), []⟩,
  ⟨some 59, .build [.int .i64 0, .int .i64 0, .int .i64 0, .int .i64 0, .int .i64 0, .int .i64 0, .int .i64 0, .int .i64 0, .int .i64 0, .int .i64 0] [(0, 2, .t 58)], some (54, true), []⟩,
  ⟨some 60, .eqa false [false, false, false, false, false, false, false, false, false, false] (.t 57) (.t 59), some (54, true), []⟩,
  ⟨some 61, .pick (.t 54) (.t 60) (.c (.bool false)), none, []⟩,
  ⟨some 0, .mv (.t 61), none, []⟩] [0]
def c6_6 : ACode := .seq c6_5 .ret
def c6_7 : ACode := .seq c6_4 c6_6
def c6_8 : ACode := .seq c6_3 c6_7
def c6_9 : ACode := .seq c6_2 c6_8
def c6_10 : ACode := .seq c6_1 c6_9
def c6_11 : ACode := .seq c6_0 c6_10
def a6 : AFun := ⟨0, 62, c6_11, [.t 0]⟩
theorem m6 : mFun Try.prog Try.f6 a6 = true := by decide +kernel
/- copse/copsekeep.Three -/
def c43_0 : ACode := .ops [⟨some 0, .alloc [.int .i64 0, .int .i64 0, .int .i64 0, .int .i64 0, .int .i64 0, .nils], none, []⟩] [0]
def c43_1 : ACode := .ops [⟨some 2, .build [.bool false, .int .i64 0, .int .i64 0, .int .i64 0, .int .i64 0, .int .i64 0] [(3, 1, .c (.int .i64 5)), (4, 1, .c (.int .i64 1)), (5, 1, .c (.int .i64 2))], none, []⟩,
  ⟨some 3, .call 111 [.t 2], none, []⟩,
  ⟨some 4, .build [.bool false, .int .i64 0, .int .i64 0, .int .i64 0, .int .i64 0, .int .i64 0] [(0, 1, .c (.bool true)), (1, 1, .c (.int .i64 10))], none, []⟩,
  ⟨some 5, .call 111 [.t 4], none, []⟩,
  ⟨some 6, .build [.bool false, .int .i64 0, .int .i64 0, .int .i64 0, .int .i64 0, .int .i64 0] [(0, 1, .c (.bool true)), (1, 1, .c (.int .i64 20))], none, []⟩,
  ⟨some 7, .call 111 [.t 6], none, []⟩,
  ⟨some 8, .mkrow 1 3 1 [.int .u64 0] [(0, 1, .t 3), (1, 1, .t 5), (2, 1, .t 7)], none, []⟩,
  ⟨some 1, .mv (.t 8), none, []⟩] [0, 1]
def c43_2 : ACode := .ops [⟨some 9, .build [.int .i64 0, .int .i64 0, .int .i64 0] [(0, 1, .c (.int .i64 3))], none, []⟩,
  ⟨some 10, .mv (.t 1), none, []⟩,
  ⟨some 11, .build [.int .i64 0, .nils] [(1, 1, .t 10)], none, []⟩,
  ⟨some 12, .mkrow 12 1 2 [.int .i64 0, .nils] [(0, 2, .t 11)], none, []⟩,
  ⟨some 13, .build [.int .i64 0, .int .i64 0, .int .i64 0, .int .i64 0, .int .i64 0, .nils] [(0, 1, .c (.int .i64 1)), (1, 1, .c (.int .i64 1)), (2, 3, .t 9), (5, 1, .t 12)], none, []⟩,
  ⟨none, .store (.t 0) 6 (.t 13), none, [0]⟩] [0]
def c43_3 : ACode := .seq c43_2 .ret
def c43_4 : ACode := .seq c43_1 c43_3
def c43_5 : ACode := .seq c43_0 c43_4
def a43 : AFun := ⟨0, 14, c43_5, [.cell 0 6 true]⟩
theorem m43 : mFun Try.prog Try.f43 a43 = true := by decide +kernel
def texts6 : List (Nat × AFun) := [(6, a6), (43, a43), (44, a44), (48, a48), (51, a51), (52, a52), (53, a53), (54, a54), (55, a55), (67, a67), (68, a68), (71, a71), (76, a76), (77, a77), (111, a111), (114, a114), (119, a119), (120, a120), (121, a121), (123, a123), (124, a124), (125, a125), (128, a128), (129, a129), (130, a130), (131, a131), (156, a156), (158, a158), (159, a159), (160, a160), (161, a161), (162, a162), (163, a163), (164, a164), (165, a165), (176, a176)]
theorem texts6_good : Go.Am.Good Try.prog texts6 :=
  good_cons Try.func6 m6 <| good_cons Try.func43 m43 <| good_cons Try.func44 m44 <| good_cons Try.func48 m48 <| good_cons Try.func51 m51 <| good_cons Try.func52 m52 <| good_cons Try.func53 m53 <| good_cons Try.func54 m54 <| good_cons Try.func55 m55 <| good_cons Try.func67 m67 <| good_cons Try.func68 m68 <| good_cons Try.func71 m71 <| good_cons Try.func76 m76 <| good_cons Try.func77 m77 <| good_cons Try.func111 m111 <| good_cons Try.func114 m114 <| good_cons Try.func119 m119 <| good_cons Try.func120 m120 <| good_cons Try.func121 m121 <| good_cons Try.func123 m123 <| good_cons Try.func124 m124 <| good_cons Try.func125 m125 <| good_cons Try.func128 m128 <| good_cons Try.func129 m129 <| good_cons Try.func130 m130 <| good_cons Try.func131 m131 <| good_cons Try.func156 m156 <| good_cons Try.func158 m158 <| good_cons Try.func159 m159 <| good_cons Try.func160 m160 <| good_cons Try.func161 m161 <| good_cons Try.func162 m162 <| good_cons Try.func163 m163 <| good_cons Try.func164 m164 <| good_cons Try.func165 m165 <| good_cons Try.func176 m176 <| good_nil
theorem c_closed6 : Contract Try.prog 6 (sp0 (some true)) := contract_closed mixed texts6_good (m := 1000) (n := 60) (by decide +kernel)


@[simp high] theorem rd_spanlo (b : Box) (k : Int) (h0 : 0 ≤ k) (h : k < 5) : rd [.int .i64 b.s0.lo, .int .i64 b.s0.hi, .int .i64 b.s1.lo, .int .i64 b.s1.hi, .int .i64 b.s2.lo, .int .i64 b.s2.hi, .int .i64 b.s3.lo, .int .i64 b.s3.hi, .int .i64 b.s4.lo, .int .i64 b.s4.hi] (k.toNat * 2) 1 false = some (.int .i64 (b.get k).lo) := by
  have hf : k = 0 ∨ k = 1 ∨ k = 2 ∨ k = 3 ∨ k = 4 := by omega
  rcases hf with rfl | rfl | rfl | rfl | rfl <;> rfl
@[simp high] theorem rd_spanhi (b : Box) (k : Int) (h0 : 0 ≤ k) (h : k < 5) : rd [.int .i64 b.s0.lo, .int .i64 b.s0.hi, .int .i64 b.s1.lo, .int .i64 b.s1.hi, .int .i64 b.s2.lo, .int .i64 b.s2.hi, .int .i64 b.s3.lo, .int .i64 b.s3.hi, .int .i64 b.s4.lo, .int .i64 b.s4.hi] (k.toNat * 2 + 1) 1 false = some (.int .i64 (b.get k).hi) := by
  have hf : k = 0 ∨ k = 1 ∨ k = 2 ∨ k = 3 ∨ k = 4 := by omega
  rcases hf with rfl | rfl | rfl | rfl | rfl <;> rfl

def smallB (b : Box) : Prop := small b.s0 ∧ small b.s1 ∧ small b.s2 ∧ small b.s3 ∧ small b.s4
theorem small_of {lo hi : Int} (h1 : -1125899906842624 ≤ lo ∧ lo ≤ 1125899906842624) (h2 : hi ≤ 1125899906842624) : small (ofS lo hi) := by
  unfold ofS
  split
  · unfold small noneS; simp only; omega
  · exact ⟨h1.1, h1.2, h2⟩
theorem small_cut {s : Span} (h : small s) {n : Int} (hn : -1125899906842624 ≤ n) : small (cutS s n).1 ∧ small (cutS s n).2 := by
  unfold small at h
  unfold cutS
  split
  · exact ⟨small_of ⟨h.1, h.2.1⟩ h.2.2, by unfold small noneS; simp only; omega⟩
  · refine ⟨small_of ⟨h.1, h.2.1⟩ (by omega), small_of ?_ h.2.2⟩
    split <;> omega
theorem smallB_get {b : Box} (h : smallB b) (i : Int) : small (b.get i) := by
  obtain ⟨h0, h1, h2, h3, h4⟩ := h
  unfold Box.get
  split
  · exact h0
  · split
    · exact h1
    · split
      · exact h2
      · split
        · exact h3
        · exact h4
theorem smallB_set {b : Box} (h : smallB b) (i : Int) {s : Span} (hs : small s) : smallB (b.set i s) := by
  obtain ⟨h0, h1, h2, h3, h4⟩ := h
  unfold Box.set
  split
  · exact ⟨hs, h1, h2, h3, h4⟩
  · split
    · exact ⟨h0, hs, h2, h3, h4⟩
    · split
      · exact ⟨h0, h1, hs, h3, h4⟩
      · split
        · exact ⟨h0, h1, h2, hs, h4⟩
        · exact ⟨h0, h1, h2, h3, hs⟩
theorem smallB_cut {b : Box} (h : smallB b) (i : Int) {n : Int} (hn : -1125899906842624 ≤ n) : smallB (cutB b i n).1 ∧ smallB (cutB b i n).2 := by
  unfold cutB
  split
  · have := small_cut (smallB_get h i) hn
    exact ⟨smallB_set h i this.1, smallB_set h i this.2⟩
  · exact ⟨h, h⟩
/-- a cut at the twin's place -/
theorem cutB_4 (b : Box) (c : Int) (p : Point) (t : Int) : (InB (cutB b 4 c).1 p t ↔ InB b p t ∧ t ≤ c) ∧ (InB (cutB b 4 c).2 p t ↔ InB b p t ∧ c < t) := by
  have h1 := cutS_1 b.s4 c t
  have h2 := cutS_2 b.s4 c t
  unfold cutB Box.set Box.get InB
  simp only [Int.reduceLE, Int.reduceLT, Int.reduceEq, and_self, if_true, if_false, reduceIte]
  rw [h1, h2]
  constructor
  · constructor
    · rintro ⟨k0, k1, k2, k3, k4, k5⟩; exact ⟨⟨k0, k1, k2, k3, k4⟩, k5⟩
    · rintro ⟨⟨k0, k1, k2, k3, k4⟩, k5⟩; exact ⟨k0, k1, k2, k3, k4, k5⟩
  · constructor
    · rintro ⟨k0, k1, k2, k3, k4, k5⟩; exact ⟨⟨k0, k1, k2, k3, k4⟩, k5⟩
    · rintro ⟨⟨k0, k1, k2, k3, k4⟩, k5⟩; exact ⟨k0, k1, k2, k3, k4, k5⟩

set_option maxHeartbeats 8000000 in
set_option maxRecDepth 100000 in
theorem runs_law (f : Forest) (a : Ask) (second : Bool) (at_ : Int) (l : List Int) (twin : Int) (c : Bool) (h : some true = some c) : Runs (tbl [(45, sp1 ModelC), (59, sp2 QueryC), (63, sp3 Within), (58, sp1 fun q => some (startOf q)), (52, sp3 ChangeC), (67, sp3 CutB), (68, sp1 fun (b : Box) => some b.empty), (53, sp2 fun q b => some (orderedB q b)), (66, sp2 InsideC), (6, sp0 (some true))]) a12 [Arg.enc f, Arg.enc a, Arg.enc second, Arg.enc at_, Arg.enc l, Arg.enc twin] (Arg.enc c) := by
  cases h
  refine ⟨rfl, fun g => run_def ?_⟩
  unfold a12
  have hm := rm_modelOf f
  have hM : ModelC f = some (modelOf f) := rfl
  generalize modelOf f = m at *
  have hq := ok_queryOf m a hm
  have hQ : QueryC a m = some (queryOf m a) := part_of ⟨hm.dim.1, hm.dim.2, hm.classes.1, hm.classes.2⟩ _
  have hd := hm.dim
  have wd : IntKind.i64.wrap (m.dim - 1) = m.dim - 1 := wrap64 (by omega) (by omega)
  have hW := within_of a.feature 0 (m.dim - 1) (by omega)
  have hw := within_le a.feature 0 (m.dim - 1) (by omega)
  generalize within a.feature 0 (m.dim - 1) = k at *
  have hreg : (queryOf m a).region = regionOf m.dim a.spans := rfl
  have hqs := okQuery_spec hq
  generalize queryOf m a = q at *
  have hp : paired ⟨3, q.cls, q.region, 0, 0, k, q.falls, q.budget⟩ = true := by unfold paired; simp; omega
  have hb0 : smallB (startOf ⟨3, q.cls, q.region, 0, 0, k, q.falls, q.budget⟩) ∧ okB (startOf ⟨3, q.cls, q.region, 0, 0, k, q.falls, q.budget⟩) ∧ (startOf ⟨3, q.cls, q.region, 0, 0, k, q.falls, q.budget⟩).empty = false := by
    unfold startOf
    rw [if_pos hp, hreg]
    have h0 := rSpan_le m.dim a.spans 0
    have h1 := rSpan_le m.dim a.spans 1
    have h2 := rSpan_le m.dim a.spans 2
    have h3 := rSpan_le m.dim a.spans 3
    have hk : k = 0 ∨ k = 1 ∨ k = 2 ∨ k = 3 := by omega
    unfold smallB small okB okS64 ok64 Box.empty Span.empty regionOf Box.get
    simp only [Bool.or_eq_false_iff, decide_eq_false_iff_not]
    rcases hk with rfl | rfl | rfl | rfl <;> simp <;> omega
  have hSt : startOf (⟨3, q.cls, q.region, 0, 0, k, q.falls, q.budget⟩ : Query) = startOf (⟨3, q.cls, q.region, 0, 0, k, q.falls, q.budget⟩ : Query) := rfl
  generalize hbq : startOf (⟨3, q.cls, q.region, 0, 0, k, q.falls, q.budget⟩ : Query) = b at hSt hb0
  have hSt : startOf (⟨3, q.cls, q.region, 0, 0, k, q.falls, q.budget⟩ : Query) = b := hbq
  have hcl := hm.classes
  have hch := change_some (m := m) (q := (⟨3, q.cls, q.region, 0, 0, k, q.falls, q.budget⟩ : Query)) hp hqs.1 hqs.2.1 hb0.2.2
  have hC0 : ChangeC m (⟨3, q.cls, q.region, 0, 0, k, q.falls, q.budget⟩ : Query) b = some ⟨(changeM m (⟨3, q.cls, q.region, 0, 0, k, q.falls, q.budget⟩ : Query) b).a, (changeM m (⟨3, q.cls, q.region, 0, 0, k, q.falls, q.budget⟩ : Query) b).b, true⟩ := by
    unfold ChangeC
    rw [part_of ⟨hm, hb0.2.1⟩, hch]
  have hpart : ∀ z : Box, okB z → (∀ p t, InB z p t → InB b p t) → ∃ u v e, z.empty = e ∧ ChangeC m (⟨3, q.cls, q.region, 0, 0, k, q.falls, q.budget⟩ : Query) z = some ⟨u, v, !e⟩ ∧ (e = false → (changeM m (⟨3, q.cls, q.region, 0, 0, k, q.falls, q.budget⟩ : Query) b).a ≤ u ∧ v ≤ (changeM m (⟨3, q.cls, q.region, 0, 0, k, q.falls, q.budget⟩ : Query) b).b) := by
    intro z hz hsub
    cases he : z.empty
    · have h1 := change_part hm hp hqs.1 hqs.2.1 he hsub
      refine ⟨(changeM m (⟨3, q.cls, q.region, 0, 0, k, q.falls, q.budget⟩ : Query) z).a, (changeM m (⟨3, q.cls, q.region, 0, 0, k, q.falls, q.budget⟩ : Query) z).b, false, rfl, ?_, fun _ => h1.2⟩
      unfold ChangeC
      rw [part_of ⟨hm, hz⟩, Bool.not_false, ← h1.1]
    · refine ⟨0, 0, true, rfl, ?_, fun h => by cases h⟩
      unfold ChangeC
      rw [part_of ⟨hm, hz⟩, change_none (fun _ => he)]
      rfl
  generalize (changeM m (⟨3, q.cls, q.region, 0, 0, k, q.falls, q.budget⟩ : Query) b).a = lo at *
  generalize (changeM m (⟨3, q.cls, q.region, 0, 0, k, q.falls, q.budget⟩ : Query) b).b = hi at *
  have hord : ∀ z, orderedB (⟨3, q.cls, q.region, 0, 0, k, q.falls, q.budget⟩ : Query) z = (!z.empty && decide ((z.get k).lo < z.s4.hi)) := by
    intro z
    unfold orderedB
    rw [hp]
    rfl
  have hloop : ∀ (x y : Box), smallB x → smallB y → okB x → okB y → (∀ p t, InB x p t → InB b p t) → (∀ p t, InB y p t → InB b p t) → ∀ (g : Nat → Nat) (h : Hp), keepH h [13, 14, 74] = [(13, ⟨Row.enc m, false, 0⟩), (14, ⟨Row.enc (⟨3, q.cls, q.region, 0, 0, k, q.falls, q.budget⟩ : Query), false, 0⟩), (74, ⟨encL [x, y], false, 10⟩)] →
      run (tbl [(45, sp1 ModelC), (59, sp2 QueryC), (63, sp3 Within), (58, sp1 fun q => some (startOf q)), (52, sp3 ChangeC), (67, sp3 CutB), (68, sp1 fun (b : Box) => some b.empty), (53, sp2 fun q b => some (orderedB q b)), (66, sp2 InsideC), (6, sp0 (some true))]) (.loop c12_41) [Fr.blk 0, Fr.c c12_46] ⟨[(4, .lst l.length (encL l)), (5, .int .i64 twin), (13, .ptr 13 (g 13) 0), (14, .ptr 14 (g 14) 0), (17, .int .i64 lo), (18, .int .i64 hi), (19, .bool true), (74, .own 74 (g 74) 0 2), (75, .int .i64 2), (76, .int .i64 0)], h, g⟩ (fin [ARes.t 12] (AV.bool true)) := by
    intro x y sx sy ox oy ix iy g h hh
    refine run_while (c := c12_40) (fun n s => ∃ (i : Nat) (g : Nat → Nat), i + n = 2 ∧ s = ⟨[(4, .lst l.length (encL l)), (5, .int .i64 twin), (13, .ptr 13 (g 13) 0), (14, .ptr 14 (g 14) 0), (17, .int .i64 lo), (18, .int .i64 hi), (19, .bool true), (74, .own 74 (g 74) 0 2), (75, .int .i64 2), (76, .int .i64 i)], [(13, ⟨Row.enc m, false, 0⟩), (14, ⟨Row.enc (⟨3, q.cls, q.region, 0, 0, k, q.falls, q.budget⟩ : Query), false, 0⟩), (74, ⟨encL [x, y], false, 10⟩)], g⟩) 2 ⟨0, g, by omega, by simp only [hh]; rfl⟩ ?_
    rintro n s ⟨i, g, hi2, rfl⟩
    by_cases h1 : i < 2
    case neg =>
      have h1i : ¬ (i : Int) < 2 := by omega
      simp -implicitDefEqProofs [h1, h1i]
    have w1 : IntKind.i64.wrap ((i : Int) + 1) = (i : Int) + 1 := wrap64 (by omega) (by omega)
    have h1i : (i : Int) < 2 := by omega
    have hrow := rd_box [x, y] i (by simpa using h1)
    have hz : smallB [x, y][i] ∧ okB [x, y][i] ∧ ∀ p t, InB [x, y][i] p t → InB b p t := by
      have : i = 0 ∨ i = 1 := by omega
      rcases this with rfl | rfl
      · exact ⟨sx, ox, ix⟩
      · exact ⟨sy, oy, iy⟩
    have hlen : i * 10 + 10 ≤ (encL [x, y]).length := by rw [encL_length]; simp; omega
    generalize [x, y][i] = z at *
    obtain ⟨u, v, e, he, hCz, hle⟩ := hpart z hz.2.1 hz.2.2
    have hoz := hord z
    rw [he] at hoz
    cases e
    case true =>
      simp -implicitDefEqProofs [h1, h1i, hrow, he, hCz, w1]
      exact ⟨n - 1, by omega, i + 1, by omega, by omega⟩
    have hle := hle rfl
    have c1 : ¬ u < lo := by omega
    have c2 : ¬ hi < v := by omega
    by_cases ho : (z.get k).lo < z.s4.hi
    · have hoz : orderedB (⟨3, q.cls, q.region, 0, 0, k, q.falls, q.budget⟩ : Query) z = true := by rw [hoz]; simp [ho]
      simp -implicitDefEqProofs [h1, h1i, hrow, he, hCz, c1, c2, hoz, w1]
      exact ⟨n - 1, by omega, i + 1, by omega, by omega⟩
    · have hoz : orderedB (⟨3, q.cls, q.region, 0, 0, k, q.falls, q.budget⟩ : Query) z = false := by rw [hoz]; simp; omega
      have hI : InsideC z l = some (insideOf z l) := part_of ⟨hz.1.1, hz.1.2.1, hz.1.2.2.1, hz.1.2.2.2.1⟩ _
      have hin := inside_in he l
      have hes := (empty_spec he).2.2.2.2
      unfold Span.empty at hes
      rw [decide_eq_false_iff_not] at hes
      have hs4 := hz.1.2.2.2.2
      unfold small at hs4
      have hWt := within_of twin z.s4.lo z.s4.hi (by omega)
      have hwt := within_le twin z.s4.lo z.s4.hi (by omega)
      generalize within twin z.s4.lo z.s4.hi = t at *
      generalize insideOf z l = p at *
      have hpk := (inB_get.1 hin k (by omega) (by omega)).1
      unfold InS at hpk
      have c3 : ¬ p.get k < t := by omega
      have k0 : 0 ≤ k := hw.1
      have k4 : k < 4 := by omega
      simp -implicitDefEqProofs [h1, h1i, hrow, he, hCz, c1, c2, hoz, hI, hWt, c3, k0, k4, w1]
      exact ⟨n - 1, by omega, i + 1, by omega, by omega⟩
  have k0 : 0 ≤ k := hw.1
  have k5 : k < 5 := by omega
  have spans : ∀ i, 0 ≤ i → i < 5 → (b.get i).lo ≤ (b.get i).hi := by
    intro i hi0 hi5
    have := empty_spec hb0.2.2
    unfold Span.empty at this
    simp only [decide_eq_false_iff_not] at this
    unfold Box.get
    split
    · omega
    · split
      · omega
      · split
        · omega
        · split <;> omega
  have mx : 2 ≤ maxN := by decide
  cases second
  case false =>
    have sg := smallB_get hb0.1 (k)
    have hl := spans (k) (by omega) (by omega)
    unfold small at sg
    have hWa := within_of at_ (b.get k).lo (b.get k).hi (by omega)
    have hwa := within_le at_ (b.get k).lo (b.get k).hi (by omega)
    generalize within at_ (b.get k).lo (b.get k).hi = n at *
    have hCu := cutB_of hb0.2.1 (k) (n := n) (by unfold ok64; omega)
    have hok := okB_cut hb0.2.1 (k) (n := n) (by unfold ok64; omega)
    have hsmb := smallB_cut hb0.1 (k) (n := n) (by omega)
    have i1 := fun p t => (cutB_1 b (i := k) (by omega) n p t).1
    have i2 := fun p t => (cutB_2 b (i := k) (by omega) n p t).1
    generalize cutB b (k) n = z at *
    obtain ⟨x, y⟩ := z
    simp only at hok i1 i2 hsmb
    simp -implicitDefEqProofs [hM, hQ, wd, hW, hSt, hC0, k0, k5, hWa, hCu, mx, -r12_42]
    exact hloop x y hsmb.1 hsmb.2 hok.1 hok.2 (fun p t h => (i1 p t h).1) (fun p t h => (i2 p t h).1) (bump 74 (bump 21 (bump 20 (bump 15 (bump 14 (bump 13 (bump 7 (bump 6 g)))))))) _ (by simp [encL])
  case true =>
    have sg := smallB_get hb0.1 ((4 : Int))
    have hl := spans ((4 : Int)) (by omega) (by omega)
    have hg4 : b.get 4 = b.s4 := rfl
    rw [hg4] at sg hl
    unfold small at sg
    have hWa := within_of at_ b.s4.lo b.s4.hi (by omega)
    have hwa := within_le at_ b.s4.lo b.s4.hi (by omega)
    generalize within at_ b.s4.lo b.s4.hi = n at *
    have hCu := cutB_of hb0.2.1 ((4 : Int)) (n := n) (by unfold ok64; omega)
    have hok := okB_cut hb0.2.1 ((4 : Int)) (n := n) (by unfold ok64; omega)
    have hsmb := smallB_cut hb0.1 ((4 : Int)) (n := n) (by omega)
    have i1 := fun p t => (cutB_4 b n p t).1.1
    have i2 := fun p t => (cutB_4 b n p t).2.1
    generalize cutB b ((4 : Int)) n = z at *
    obtain ⟨x, y⟩ := z
    simp only at hok i1 i2 hsmb
    simp -implicitDefEqProofs [hM, hQ, wd, hW, hSt, hC0, k0, k5, hWa, hCu, mx, -r12_42]
    exact hloop x y hsmb.1 hsmb.2 hok.1 hok.2 (fun p t h => (i1 p t h).1) (fun p t h => (i2 p t h).1) (bump 74 (bump 21 (bump 20 (bump 15 (bump 14 (bump 13 (bump 7 (bump 6 g)))))))) _ (by simp [encL])
def law_sp : List AV → Option AV := sp6 fun (_ : Forest) (_ : Ask) (_ : Bool) (_ : Int) (_ : List Int) (_ : Int) => some true
theorem law_holds : Contract Try.prog 12 law_sp :=
  contract_of_runs mixed (tbl_cons c_Model (tbl_cons c_Query (tbl_cons c_Within (tbl_cons c_Start (tbl_cons c_Change (tbl_cons c_bCut (tbl_cons c_bEmpty (tbl_cons c_Ordered (tbl_cons c_Inside (tbl_cons c_closed6 tbl_nil)))))))))) Try.func12 m12 (sp6_runs runs_law)
theorem law_says (f : Forest) (a : Ask) (x : Bool) (y : Int) (l : List Int) (z : Int) : law_sp [Arg.enc f, Arg.enc a, Arg.enc x, Arg.enc y, Arg.enc l, Arg.enc z] = some (.bool true) := by
  simp only [law_sp, sp6, Arg.dec_enc, Option.bind_some]
  rfl
end Go.Co
