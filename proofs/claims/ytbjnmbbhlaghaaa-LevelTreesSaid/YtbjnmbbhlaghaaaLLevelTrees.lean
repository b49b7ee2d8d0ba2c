/- The law LevelTrees: what its text computes. -/
import Derived.Test.YtbjnmbbhlaghaaaCoIn
import Derived.Test.YtbjnmbbhlaghaaaCoX
import Derived.Test.YtbjnmbbhlaghaaaCoMi
import Derived.Test.YtbjnmbbhlaghaaaCoSh
namespace Go.Co
open Go.Am Go.Proofs
set_option linter.unusedSimpArgs false
set_option linter.unusedVariables false

/- copse/copselaw16.LevelTrees -/
def c23_0 : ACode := .ops [⟨some 3, .box (.t 0) 4, none, []⟩,
  ⟨some 4, .box (.t 1) 5, none, []⟩,
  ⟨some 6, .mv (.c (.bool false)), none, []⟩] [2, 3, 4]
theorem r23_0 {C : Cs} {k : List Fr} {s : St} {Q : Post} : run C c23_0 k s Q = run C (.ops [⟨some 3, .box (.t 0) 4, none, []⟩,
  ⟨some 4, .box (.t 1) 5, none, []⟩,
  ⟨some 6, .mv (.c (.bool false)), none, []⟩] [2, 3, 4]) k s Q := rfl
def c23_1 : ACode := .ops [⟨some 25, .load 4 true (.t 3), none, [3]⟩,
  ⟨some 26, .call 45 [.t 25], none, []⟩,
  ⟨some 7, .alloc [.int .i64 0, .int .i64 0, .int .i64 0, .int .i64 0, .int .i64 0, .nils], none, []⟩,
  ⟨none, .store (.t 7) 6 (.t 26), none, [7]⟩] [2, 4, 7]
theorem r23_1 {C : Cs} {k : List Fr} {s : St} {Q : Post} : run C c23_1 k s Q = run C (.ops [⟨some 25, .load 4 true (.t 3), none, [3]⟩,
  ⟨some 26, .call 45 [.t 25], none, []⟩,
  ⟨some 7, .alloc [.int .i64 0, .int .i64 0, .int .i64 0, .int .i64 0, .int .i64 0, .nils], none, []⟩,
  ⟨none, .store (.t 7) 6 (.t 26), none, [7]⟩] [2, 4, 7]) k s Q := rfl
def c23_2 : ACode := .ops [⟨some 27, .load 6 true (.t 7), none, [7]⟩,
  ⟨some 28, .mv (.t 2), none, []⟩,
  ⟨some 29, .call 46 [.t 27, .t 28], none, []⟩,
  ⟨some 8, .alloc [.int .i64 0, .int .i64 0, .int .i64 0, .int .i64 0, .int .i64 0, .int .i64 0, .int .i64 0, .int .i64 0, .int .i64 0, .int .i64 0], none, []⟩,
  ⟨none, .store (.t 8) 10 (.t 29), none, [8]⟩] [4, 7, 8]
theorem r23_2 {C : Cs} {k : List Fr} {s : St} {Q : Post} : run C c23_2 k s Q = run C (.ops [⟨some 27, .load 6 true (.t 7), none, [7]⟩,
  ⟨some 28, .mv (.t 2), none, []⟩,
  ⟨some 29, .call 46 [.t 27, .t 28], none, []⟩,
  ⟨some 8, .alloc [.int .i64 0, .int .i64 0, .int .i64 0, .int .i64 0, .int .i64 0, .int .i64 0, .int .i64 0, .int .i64 0, .int .i64 0, .int .i64 0], none, []⟩,
  ⟨none, .store (.t 8) 10 (.t 29), none, [8]⟩] [4, 7, 8]) k s Q := rfl
def c23_3 : ACode := .ops [⟨some 30, .load 5 true (.t 4), none, [4]⟩,
  ⟨some 31, .fad (.t 7) 0, none, [7]⟩,
  ⟨some 32, .load 1 false (.t 31), none, [7]⟩,
  ⟨some 33, .call 75 [.t 30, .t 32], none, []⟩,
  ⟨some 9, .mv (.t 33), none, []⟩] [7, 8, 9]
theorem r23_3 {C : Cs} {k : List Fr} {s : St} {Q : Post} : run C c23_3 k s Q = run C (.ops [⟨some 30, .load 5 true (.t 4), none, [4]⟩,
  ⟨some 31, .fad (.t 7) 0, none, [7]⟩,
  ⟨some 32, .load 1 false (.t 31), none, [7]⟩,
  ⟨some 33, .call 75 [.t 30, .t 32], none, []⟩,
  ⟨some 9, .mv (.t 33), none, []⟩] [7, 8, 9]) k s Q := rfl
def c23_4 : ACode := .ops [⟨some 34, .fad (.t 7) 0, none, [7]⟩,
  ⟨some 35, .load 1 false (.t 34), none, [7]⟩,
  ⟨some 36, .mv (.t 9), none, []⟩,
  ⟨some 37, .build [.int .i64 0, .nils] [(1, 1, .t 36)], none, []⟩,
  ⟨some 38, .mkrow 38 1 2 [.int .i64 0, .nils] [(0, 2, .t 37)], none, []⟩,
  ⟨some 39, .build [.int .i64 0, .int .i64 0, .int .i64 0, .int .i64 0, .int .i64 0, .nils] [(0, 1, .t 35), (1, 1, .c (.int .i64 1)), (5, 1, .t 38)], none, []⟩,
  ⟨some 10, .alloc [.int .i64 0, .int .i64 0, .int .i64 0, .int .i64 0, .int .i64 0, .nils], none, []⟩,
  ⟨none, .store (.t 10) 6 (.t 39), none, [10]⟩] [7, 8, 9, 10]
theorem r23_4 {C : Cs} {k : List Fr} {s : St} {Q : Post} : run C c23_4 k s Q = run C (.ops [⟨some 34, .fad (.t 7) 0, none, [7]⟩,
  ⟨some 35, .load 1 false (.t 34), none, [7]⟩,
  ⟨some 36, .mv (.t 9), none, []⟩,
  ⟨some 37, .build [.int .i64 0, .nils] [(1, 1, .t 36)], none, []⟩,
  ⟨some 38, .mkrow 38 1 2 [.int .i64 0, .nils] [(0, 2, .t 37)], none, []⟩,
  ⟨some 39, .build [.int .i64 0, .int .i64 0, .int .i64 0, .int .i64 0, .int .i64 0, .nils] [(0, 1, .t 35), (1, 1, .c (.int .i64 1)), (5, 1, .t 38)], none, []⟩,
  ⟨some 10, .alloc [.int .i64 0, .int .i64 0, .int .i64 0, .int .i64 0, .int .i64 0, .nils], none, []⟩,
  ⟨none, .store (.t 10) 6 (.t 39), none, [10]⟩] [7, 8, 9, 10]) k s Q := rfl
def c23_5 : ACode := .ops [⟨some 41, .load 6 true (.t 10), none, [10]⟩,
  ⟨some 42, .load 10 true (.t 8), none, [8]⟩,
  ⟨some 43, .call 82 [.t 41, .c (.int .i64 0), .t 42, .c (.int .i64 0)], none, [38]⟩,
  ⟨some 40, .mv (.t 43), none, []⟩,
  ⟨some 44, .ext (.t 40) 0, none, []⟩,
  ⟨some 45, .ext (.t 40) 1, none, []⟩,
  ⟨some 46, .ext (.t 40) 2, none, []⟩,
  ⟨some 11, .mv (.t 44), none, []⟩,
  ⟨some 12, .mv (.t 45), none, []⟩,
  ⟨some 13, .mv (.t 46), none, []⟩] [7, 8, 9, 10, 11, 12, 13]
theorem r23_5 {C : Cs} {k : List Fr} {s : St} {Q : Post} : run C c23_5 k s Q = run C (.ops [⟨some 41, .load 6 true (.t 10), none, [10]⟩,
  ⟨some 42, .load 10 true (.t 8), none, [8]⟩,
  ⟨some 43, .call 82 [.t 41, .c (.int .i64 0), .t 42, .c (.int .i64 0)], none, [38]⟩,
  ⟨some 40, .mv (.t 43), none, []⟩,
  ⟨some 44, .ext (.t 40) 0, none, []⟩,
  ⟨some 45, .ext (.t 40) 1, none, []⟩,
  ⟨some 46, .ext (.t 40) 2, none, []⟩,
  ⟨some 11, .mv (.t 44), none, []⟩,
  ⟨some 12, .mv (.t 45), none, []⟩,
  ⟨some 13, .mv (.t 46), none, []⟩] [7, 8, 9, 10, 11, 12, 13]) k s Q := rfl
def c23_6 : ACode := .ops [⟨some 48, .mv (.t 9), none, []⟩,
  ⟨some 49, .load 10 true (.t 8), none, [8]⟩,
  ⟨some 50, .call 48 [.t 48, .t 49], none, []⟩,
  ⟨some 47, .mv (.t 50), none, []⟩,
  ⟨some 51, .ext (.t 47) 0, none, []⟩,
  ⟨some 52, .ext (.t 47) 1, none, []⟩,
  ⟨some 53, .ext (.t 47) 2, none, []⟩,
  ⟨some 14, .mv (.t 51), none, []⟩,
  ⟨some 15, .mv (.t 52), none, []⟩,
  ⟨some 16, .mv (.t 53), none, []⟩] [7, 8, 9, 10, 11, 12, 13, 14, 15, 16]
theorem r23_6 {C : Cs} {k : List Fr} {s : St} {Q : Post} : run C c23_6 k s Q = run C (.ops [⟨some 48, .mv (.t 9), none, []⟩,
  ⟨some 49, .load 10 true (.t 8), none, [8]⟩,
  ⟨some 50, .call 48 [.t 48, .t 49], none, []⟩,
  ⟨some 47, .mv (.t 50), none, []⟩,
  ⟨some 51, .ext (.t 47) 0, none, []⟩,
  ⟨some 52, .ext (.t 47) 1, none, []⟩,
  ⟨some 53, .ext (.t 47) 2, none, []⟩,
  ⟨some 14, .mv (.t 51), none, []⟩,
  ⟨some 15, .mv (.t 52), none, []⟩,
  ⟨some 16, .mv (.t 53), none, []⟩] [7, 8, 9, 10, 11, 12, 13, 14, 15, 16]) k s Q := rfl
def c23_7 : ACode := .ops [⟨some 54, .load 6 true (.t 10), none, [10]⟩,
  ⟨some 17, .alloc [.int .i64 0, .int .i64 0, .int .i64 0, .int .i64 0, .int .i64 0, .nils], none, []⟩,
  ⟨none, .store (.t 17) 6 (.t 54), none, [17]⟩] [7, 8, 9, 10, 11, 12, 13, 14, 15, 16, 17]
theorem r23_7 {C : Cs} {k : List Fr} {s : St} {Q : Post} : run C c23_7 k s Q = run C (.ops [⟨some 54, .load 6 true (.t 10), none, [10]⟩,
  ⟨some 17, .alloc [.int .i64 0, .int .i64 0, .int .i64 0, .int .i64 0, .int .i64 0, .nils], none, []⟩,
  ⟨none, .store (.t 17) 6 (.t 54), none, [17]⟩] [7, 8, 9, 10, 11, 12, 13, 14, 15, 16, 17]) k s Q := rfl
def c23_8 : ACode := .ops [⟨some 55, .mv (.t 9), none, []⟩,
  ⟨some 56, .build [.int .i64 0, .nils] [(1, 1, .t 55)], none, []⟩,
  ⟨some 57, .load 6 true (.t 10), none, [10]⟩,
  ⟨some 58, .call 86 [.t 57], none, [38]⟩,
  ⟨some 59, .fld (.t 58) 5 1 false, none, []⟩,
  ⟨some 60, .ias (.t 59) (.c (.int .i64 0)) 2, none, []⟩,
  ⟨some 61, .load 2 true (.t 60), none, []⟩,
  ⟨some 62, .mkrow 11705 2 2 [.int .i64 0, .nils] [(0, 2, .t 56), (2, 2, .t 61)], none, []⟩,
  ⟨some 63, .fad (.t 17) 5, none, [17]⟩,
  ⟨none, .store (.t 63) 1 (.t 62), none, [17]⟩] [7, 8, 11, 12, 13, 14, 15, 16, 17]
theorem r23_8 {C : Cs} {k : List Fr} {s : St} {Q : Post} : run C c23_8 k s Q = run C (.ops [⟨some 55, .mv (.t 9), none, []⟩,
  ⟨some 56, .build [.int .i64 0, .nils] [(1, 1, .t 55)], none, []⟩,
  ⟨some 57, .load 6 true (.t 10), none, [10]⟩,
  ⟨some 58, .call 86 [.t 57], none, [38]⟩,
  ⟨some 59, .fld (.t 58) 5 1 false, none, []⟩,
  ⟨some 60, .ias (.t 59) (.c (.int .i64 0)) 2, none, []⟩,
  ⟨some 61, .load 2 true (.t 60), none, []⟩,
  ⟨some 62, .mkrow 11705 2 2 [.int .i64 0, .nils] [(0, 2, .t 56), (2, 2, .t 61)], none, []⟩,
  ⟨some 63, .fad (.t 17) 5, none, [17]⟩,
  ⟨none, .store (.t 63) 1 (.t 62), none, [17]⟩] [7, 8, 11, 12, 13, 14, 15, 16, 17]) k s Q := rfl
def c23_9 : ACode := .ops [⟨some 65, .load 6 true (.t 17), none, [17]⟩,
  ⟨some 66, .load 10 true (.t 8), none, [8]⟩,
  ⟨some 67, .call 82 [.t 65, .c (.int .i64 0), .t 66, .c (.int .i64 500)], none, [38, 11705]⟩,
  ⟨some 64, .mv (.t 67), none, []⟩,
  ⟨some 68, .ext (.t 64) 0, none, []⟩,
  ⟨some 69, .ext (.t 64) 1, none, []⟩,
  ⟨some 70, .ext (.t 64) 2, none, []⟩,
  ⟨some 18, .mv (.t 68), none, []⟩,
  ⟨some 19, .mv (.t 69), none, []⟩,
  ⟨some 20, .mv (.t 70), none, []⟩] [7, 8, 11, 12, 13, 14, 15, 16, 18, 19, 20]
theorem r23_9 {C : Cs} {k : List Fr} {s : St} {Q : Post} : run C c23_9 k s Q = run C (.ops [⟨some 65, .load 6 true (.t 17), none, [17]⟩,
  ⟨some 66, .load 10 true (.t 8), none, [8]⟩,
  ⟨some 67, .call 82 [.t 65, .c (.int .i64 0), .t 66, .c (.int .i64 500)], none, [38, 11705]⟩,
  ⟨some 64, .mv (.t 67), none, []⟩,
  ⟨some 68, .ext (.t 64) 0, none, []⟩,
  ⟨some 69, .ext (.t 64) 1, none, []⟩,
  ⟨some 70, .ext (.t 64) 2, none, []⟩,
  ⟨some 18, .mv (.t 68), none, []⟩,
  ⟨some 19, .mv (.t 69), none, []⟩,
  ⟨some 20, .mv (.t 70), none, []⟩] [7, 8, 11, 12, 13, 14, 15, 16, 18, 19, 20]) k s Q := rfl
def c23_10 : ACode := .ops [⟨some 71, .fad (.t 7) 0, none, [7]⟩,
  ⟨some 72, .load 1 false (.t 71), none, [7]⟩,
  ⟨some 73, .build [.int .i64 0, .int .i64 0, .int .i64 0] [(0, 1, .c (.int .i64 7))], none, []⟩,
  ⟨some 74, .build [.int .i64 0, .int .i64 0, .int .i64 0, .int .i64 0, .int .i64 0, .nils] [(0, 1, .t 72), (1, 1, .c (.int .i64 1)), (2, 3, .t 73)], none, []⟩,
  ⟨some 21, .alloc [.int .i64 0, .int .i64 0, .int .i64 0, .int .i64 0, .int .i64 0, .nils], none, []⟩,
  ⟨none, .store (.t 21) 6 (.t 74), none, [21]⟩] [8, 11, 12, 13, 14, 15, 16, 18, 19, 20, 21]
theorem r23_10 {C : Cs} {k : List Fr} {s : St} {Q : Post} : run C c23_10 k s Q = run C (.ops [⟨some 71, .fad (.t 7) 0, none, [7]⟩,
  ⟨some 72, .load 1 false (.t 71), none, [7]⟩,
  ⟨some 73, .build [.int .i64 0, .int .i64 0, .int .i64 0] [(0, 1, .c (.int .i64 7))], none, []⟩,
  ⟨some 74, .build [.int .i64 0, .int .i64 0, .int .i64 0, .int .i64 0, .int .i64 0, .nils] [(0, 1, .t 72), (1, 1, .c (.int .i64 1)), (2, 3, .t 73)], none, []⟩,
  ⟨some 21, .alloc [.int .i64 0, .int .i64 0, .int .i64 0, .int .i64 0, .int .i64 0, .nils], none, []⟩,
  ⟨none, .store (.t 21) 6 (.t 74), none, [21]⟩] [8, 11, 12, 13, 14, 15, 16, 18, 19, 20, 21]) k s Q := rfl
def c23_11 : ACode := .ops [⟨some 76, .load 6 true (.t 21), none, [21]⟩,
  ⟨some 77, .load 10 true (.t 8), none, [8]⟩,
  ⟨some 78, .call 82 [.t 76, .c (.int .i64 0), .t 77, .c (.int .i64 5)], none, []⟩,
  ⟨some 75, .mv (.t 78), none, []⟩,
  ⟨some 79, .ext (.t 75) 0, none, []⟩,
  ⟨some 80, .ext (.t 75) 1, none, []⟩,
  ⟨some 81, .ext (.t 75) 2, none, []⟩,
  ⟨some 22, .mv (.t 79), none, []⟩,
  ⟨some 23, .mv (.t 80), none, []⟩,
  ⟨some 24, .mv (.t 81), none, []⟩] [11, 12, 13, 14, 15, 16, 18, 19, 20, 22, 23, 24]
theorem r23_11 {C : Cs} {k : List Fr} {s : St} {Q : Post} : run C c23_11 k s Q = run C (.ops [⟨some 76, .load 6 true (.t 21), none, [21]⟩,
  ⟨some 77, .load 10 true (.t 8), none, [8]⟩,
  ⟨some 78, .call 82 [.t 76, .c (.int .i64 0), .t 77, .c (.int .i64 5)], none, []⟩,
  ⟨some 75, .mv (.t 78), none, []⟩,
  ⟨some 79, .ext (.t 75) 0, none, []⟩,
  ⟨some 80, .ext (.t 75) 1, none, []⟩,
  ⟨some 81, .ext (.t 75) 2, none, []⟩,
  ⟨some 22, .mv (.t 79), none, []⟩,
  ⟨some 23, .mv (.t 80), none, []⟩,
  ⟨some 24, .mv (.t 81), none, []⟩] [11, 12, 13, 14, 15, 16, 18, 19, 20, 22, 23, 24]) k s Q := rfl
def c23_12 : ACode := .ops [⟨some 82, .mv (.t 13), none, []⟩,
  ⟨some 83, .mv (.t 82), none, []⟩,
  ⟨some 84, .mv (.t 16), some (83, true), []⟩,
  ⟨some 85, .pick (.t 83) (.t 84) (.c (.bool false)), none, []⟩,
  ⟨some 86, .mv (.t 85), none, []⟩,
  ⟨some 87, .mv (.t 11), some (86, true), []⟩,
  ⟨some 88, .mv (.t 14), some (86, true), []⟩,
  ⟨some 89, .bin .eql (.t 87) (.t 88), some (86, true), []⟩,
  ⟨some 90, .pick (.t 86) (.t 89) (.c (.bool false)), none, []⟩,
  ⟨some 91, .mv (.t 90), none, []⟩,
  ⟨some 92, .mv (.t 12), some (91, true), []⟩,
  ⟨some 93, .mv (.t 15), some (91, true), []⟩,
  ⟨some 94, .bin .eql (.t 92) (.t 93), some (91, true), []⟩,
  ⟨some 95, .pick (.t 91) (.t 94) (.c (.bool false)), none, []⟩,
  ⟨some 96, .mv (.t 95), none, []⟩,
  ⟨some 97, .mv (.t 20), some (96, true), []⟩,
  ⟨some 98, .pick (.t 96) (.t 97) (.c (.bool false)), none, []⟩,
  ⟨some 99, .mv (.t 98), none, []⟩,
  ⟨some 100, .mv (.t 18), some (99, true), []⟩,
  ⟨some 101, .bin .eql (.t 100) (.c (.int .i64 0)), some (99, true), []⟩,
  ⟨some 102, .pick (.t 99) (.t 101) (.c (.bool false)), none, []⟩,
  ⟨some 103, .mv (.t 102), none, []⟩,
  ⟨some 104, .mv (.t 19), some (103, true), []⟩,
  ⟨some 105, .bin .eql (.t 104) (.c (.int .i64 0)), some (103, true), []⟩,
  ⟨some 106, .pick (.t 103) (.t 105) (.c (.bool false)), none, []⟩,
  ⟨some 107, .mv (.t 106), none, []⟩,
  ⟨some 108, .mv (.t 24), some (107, true), []⟩,
  ⟨some 109, .pick (.t 107) (.t 108) (.c (.bool false)), none, []⟩,
  ⟨some 110, .mv (.t 109), none, []⟩,
  ⟨some 111, .mv (.t 22), some (110, true), []⟩,
  ⟨some 112, .bin .eql (.t 111) (.c (.int .i64 7)), some (110, true), []⟩,
  ⟨some 113, .pick (.t 110) (.t 112) (.c (.bool false)), none, []⟩,
  ⟨some 114, .mv (.t 113), none, []⟩,
  ⟨some 115, .mv (.t 23), some (114, true), []⟩,
  ⟨some 116, .bin .eql (.t 115) (.c (.int .i64 7)), some (114, true), []⟩,
  ⟨some 117, .pick (.t 114) (.t 116) (.c (.bool false)), none, []⟩,
  ⟨some 118, .mv (.t 117), none, []⟩,
  ⟨some 119, .call 20 [], some (118, true), []⟩,
  ⟨some 120, .pick (.t 118) (.t 119) (.c (.bool false)), none, []⟩,
  ⟨some 6, .mv (.t 120), none, []⟩] [6]
theorem r23_12 {C : Cs} {k : List Fr} {s : St} {Q : Post} : run C c23_12 k s Q = run C (.ops [⟨some 82, .mv (.t 13), none, []⟩,
  ⟨some 83, .mv (.t 82), none, []⟩,
  ⟨some 84, .mv (.t 16), some (83, true), []⟩,
  ⟨some 85, .pick (.t 83) (.t 84) (.c (.bool false)), none, []⟩,
  ⟨some 86, .mv (.t 85), none, []⟩,
  ⟨some 87, .mv (.t 11), some (86, true), []⟩,
  ⟨some 88, .mv (.t 14), some (86, true), []⟩,
  ⟨some 89, .bin .eql (.t 87) (.t 88), some (86, true), []⟩,
  ⟨some 90, .pick (.t 86) (.t 89) (.c (.bool false)), none, []⟩,
  ⟨some 91, .mv (.t 90), none, []⟩,
  ⟨some 92, .mv (.t 12), some (91, true), []⟩,
  ⟨some 93, .mv (.t 15), some (91, true), []⟩,
  ⟨some 94, .bin .eql (.t 92) (.t 93), some (91, true), []⟩,
  ⟨some 95, .pick (.t 91) (.t 94) (.c (.bool false)), none, []⟩,
  ⟨some 96, .mv (.t 95), none, []⟩,
  ⟨some 97, .mv (.t 20), some (96, true), []⟩,
  ⟨some 98, .pick (.t 96) (.t 97) (.c (.bool false)), none, []⟩,
  ⟨some 99, .mv (.t 98), none, []⟩,
  ⟨some 100, .mv (.t 18), some (99, true), []⟩,
  ⟨some 101, .bin .eql (.t 100) (.c (.int .i64 0)), some (99, true), []⟩,
  ⟨some 102, .pick (.t 99) (.t 101) (.c (.bool false)), none, []⟩,
  ⟨some 103, .mv (.t 102), none, []⟩,
  ⟨some 104, .mv (.t 19), some (103, true), []⟩,
  ⟨some 105, .bin .eql (.t 104) (.c (.int .i64 0)), some (103, true), []⟩,
  ⟨some 106, .pick (.t 103) (.t 105) (.c (.bool false)), none, []⟩,
  ⟨some 107, .mv (.t 106), none, []⟩,
  ⟨some 108, .mv (.t 24), some (107, true), []⟩,
  ⟨some 109, .pick (.t 107) (.t 108) (.c (.bool false)), none, []⟩,
  ⟨some 110, .mv (.t 109), none, []⟩,
  ⟨some 111, .mv (.t 22), some (110, true), []⟩,
  ⟨some 112, .bin .eql (.t 111) (.c (.int .i64 7)), some (110, true), []⟩,
  ⟨some 113, .pick (.t 110) (.t 112) (.c (.bool false)), none, []⟩,
  ⟨some 114, .mv (.t 113), none, []⟩,
  ⟨some 115, .mv (.t 23), some (114, true), []⟩,
  ⟨some 116, .bin .eql (.t 115) (.c (.int .i64 7)), some (114, true), []⟩,
  ⟨some 117, .pick (.t 114) (.t 116) (.c (.bool false)), none, []⟩,
  ⟨some 118, .mv (.t 117), none, []⟩,
  ⟨some 119, .call 20 [], some (118, true), []⟩,
  ⟨some 120, .pick (.t 118) (.t 119) (.c (.bool false)), none, []⟩,
  ⟨some 6, .mv (.t 120), none, []⟩] [6]) k s Q := rfl
def c23_13 : ACode := .seq c23_12 .ret
theorem r23_13 {C : Cs} {k : List Fr} {s : St} {Q : Post} : run C c23_13 k s Q = run C (.seq c23_12 .ret) k s Q := rfl
def c23_14 : ACode := .seq c23_11 c23_13
theorem r23_14 {C : Cs} {k : List Fr} {s : St} {Q : Post} : run C c23_14 k s Q = run C (.seq c23_11 c23_13) k s Q := rfl
def c23_15 : ACode := .seq c23_10 c23_14
theorem r23_15 {C : Cs} {k : List Fr} {s : St} {Q : Post} : run C c23_15 k s Q = run C (.seq c23_10 c23_14) k s Q := rfl
def c23_16 : ACode := .seq c23_9 c23_15
theorem r23_16 {C : Cs} {k : List Fr} {s : St} {Q : Post} : run C c23_16 k s Q = run C (.seq c23_9 c23_15) k s Q := rfl
def c23_17 : ACode := .seq c23_8 c23_16
theorem r23_17 {C : Cs} {k : List Fr} {s : St} {Q : Post} : run C c23_17 k s Q = run C (.seq c23_8 c23_16) k s Q := rfl
def c23_18 : ACode := .seq c23_7 c23_17
theorem r23_18 {C : Cs} {k : List Fr} {s : St} {Q : Post} : run C c23_18 k s Q = run C (.seq c23_7 c23_17) k s Q := rfl
def c23_19 : ACode := .seq c23_6 c23_18
theorem r23_19 {C : Cs} {k : List Fr} {s : St} {Q : Post} : run C c23_19 k s Q = run C (.seq c23_6 c23_18) k s Q := rfl
def c23_20 : ACode := .seq c23_5 c23_19
theorem r23_20 {C : Cs} {k : List Fr} {s : St} {Q : Post} : run C c23_20 k s Q = run C (.seq c23_5 c23_19) k s Q := rfl
def c23_21 : ACode := .seq c23_4 c23_20
theorem r23_21 {C : Cs} {k : List Fr} {s : St} {Q : Post} : run C c23_21 k s Q = run C (.seq c23_4 c23_20) k s Q := rfl
def c23_22 : ACode := .seq c23_3 c23_21
theorem r23_22 {C : Cs} {k : List Fr} {s : St} {Q : Post} : run C c23_22 k s Q = run C (.seq c23_3 c23_21) k s Q := rfl
def c23_23 : ACode := .seq c23_2 c23_22
theorem r23_23 {C : Cs} {k : List Fr} {s : St} {Q : Post} : run C c23_23 k s Q = run C (.seq c23_2 c23_22) k s Q := rfl
def c23_24 : ACode := .seq c23_1 c23_23
theorem r23_24 {C : Cs} {k : List Fr} {s : St} {Q : Post} : run C c23_24 k s Q = run C (.seq c23_1 c23_23) k s Q := rfl
def c23_25 : ACode := .seq c23_0 c23_24
theorem r23_25 {C : Cs} {k : List Fr} {s : St} {Q : Post} : run C c23_25 k s Q = run C (.seq c23_0 c23_24) k s Q := rfl
def a23 : AFun := ⟨3, 121, c23_25, [.t 6]⟩
attribute [simp] r23_0 r23_1 r23_2 r23_3 r23_4 r23_5 r23_6 r23_7 r23_8 r23_9 r23_10 r23_11 r23_12 r23_13 r23_14 r23_15 r23_16 r23_17 r23_18 r23_19 r23_20 r23_21 r23_22 r23_23 r23_24 r23_25
theorem m23 : mFun Try.prog Try.f23 a23 = true := by decide +kernel

/- copse/copselaw16.LevelRuns -/
def c20_0 : ACode := .ops [⟨some 0, .mv (.c (.bool false)), none, []⟩] []
def c20_1 : ACode := .ops [⟨some 9, .call 43 [], none, []⟩,
  ⟨some 1, .alloc [.int .i64 0, .int .i64 0, .int .i64 0, .int .i64 0, .int .i64 0, .nils], none, []⟩,
  ⟨none, .store (.t 1) 6 (.t 9), none, [1]⟩] [1]
def c20_2 : ACode := .ops [⟨some 10, .build [.int .i64 0, .int .i64 0, .int .i64 0] [], none, []⟩,
  ⟨some 11, .fad (.t 1) 2, none, [1]⟩,
  ⟨none, .store (.t 11) 3 (.t 10), none, [1]⟩] [1]
def c20_3 : ACode := .ops [⟨some 12, .call 81 [.c (.int .i64 5), .c (.int .i64 1), .c (.int .i64 (-1))], none, []⟩,
  ⟨some 13, .build [.int .i64 0, .nils] [(1, 1, .t 12)], none, []⟩,
  ⟨some 14, .call 81 [.c (.int .i64 5), .c (.int .i64 (-1)), .c (.int .i64 1)], none, []⟩,
  ⟨some 15, .build [.int .i64 0, .nils] [(1, 1, .t 14)], none, []⟩,
  ⟨some 16, .mkrow 10105 2 2 [.int .i64 0, .nils] [(0, 2, .t 13), (2, 2, .t 15)], none, []⟩,
  ⟨some 17, .fad (.t 1) 5, none, [1]⟩,
  ⟨none, .store (.t 17) 1 (.t 16), none, [1]⟩] [1]
def c20_4 : ACode := .ops [⟨some 18, .build [.int .i64 0, .int .i64 0] [(0, 1, .c (.int .i64 0)), (1, 1, .c (.int .i64 9))], none, []⟩,
  ⟨some 19, .build [.int .i64 0, .int .i64 0, .int .i64 0, .int .i64 0, .int .i64 0, .int .i64 0, .int .i64 0, .int .i64 0, .int .i64 0, .int .i64 0] [(0, 2, .t 18)], none, []⟩,
  ⟨some 2, .alloc [.int .i64 0, .int .i64 0, .int .i64 0, .int .i64 0, .int .i64 0, .int .i64 0, .int .i64 0, .int .i64 0, .int .i64 0, .int .i64 0], none, []⟩,
  ⟨none, .store (.t 2) 10 (.t 19), none, [2]⟩] [1, 2]
def c20_5 : ACode := .ops [⟨some 21, .load 6 true (.t 1), none, [1]⟩,
  ⟨some 22, .load 10 true (.t 2), none, [2]⟩,
  ⟨some 23, .call 82 [.t 21, .c (.int .i64 0), .t 22, .c (.int .i64 9)], none, [10105]⟩,
  ⟨some 20, .mv (.t 23), none, []⟩,
  ⟨some 24, .ext (.t 20) 0, none, []⟩,
  ⟨some 25, .ext (.t 20) 1, none, []⟩,
  ⟨some 26, .ext (.t 20) 2, none, []⟩,
  ⟨some 3, .mv (.t 24), none, []⟩,
  ⟨some 4, .mv (.t 25), none, []⟩,
  ⟨some 5, .mv (.t 26), none, []⟩] [1, 2, 3, 4, 5]
def c20_6 : ACode := .ops [⟨some 28, .load 6 true (.t 1), none, [1]⟩,
  ⟨some 29, .load 10 true (.t 2), none, [2]⟩,
  ⟨some 30, .call 82 [.t 28, .c (.int .i64 0), .t 29, .c (.int .i64 1)], none, [10105]⟩,
  ⟨some 27, .mv (.t 30), none, []⟩,
  ⟨some 31, .ext (.t 27) 0, none, []⟩,
  ⟨some 32, .ext (.t 27) 1, none, []⟩,
  ⟨some 33, .ext (.t 27) 2, none, []⟩,
  ⟨some 6, .mv (.t 31), none, []⟩,
  ⟨some 7, .mv (.t 32), none, []⟩,
  ⟨some 8, .mv (.t 33), none, []⟩] [1, 2, 3, 4, 5, 6, 7, 8]
def c20_7 : ACode := .ops [⟨some 34, .mv (.t 3), none, []⟩,
  ⟨some 35, .bin .eql (.t 34) (.c (.int .i64 0)), none, []⟩,
  ⟨some 36, .mv (.t 35), none, []⟩,
  ⟨some 37, .mv (.t 4), some (36, true), []⟩,
  ⟨some 38, .bin .eql (.t 37) (.c (.int .i64 0)), some (36, true), []⟩,
  ⟨some 39, .pick (.t 36) (.t 38) (.c (.bool false)), none, []⟩,
  ⟨some 40, .mv (.t 39), none, []⟩,
  ⟨some 41, .mv (.t 5), some (40, true), []⟩,
  ⟨some 42, .pick (.t 40) (.t 41) (.c (.bool false)), none, []⟩,
  ⟨some 43, .mv (.t 42), none, []⟩,
  ⟨some 44, .mv (.t 6), some (43, true), []⟩,
  ⟨some 45, .bin .eql (.t 44) (.c (.int .i64 (-2))), some (43, true), []⟩,
  ⟨some 46, .pick (.t 43) (.t 45) (.c (.bool false)), none, []⟩,
  ⟨some 47, .mv (.t 46), none, []⟩,
  ⟨some 48, .mv (.t 7), some (47, true), []⟩,
  ⟨some 49, .bin .eql (.t 48) (.c (.int .i64 2)), some (47, true), []⟩,
  ⟨some 50, .pick (.t 47) (.t 49) (.c (.bool false)), none, []⟩,
  ⟨some 51, .mv (.t 50), none, []⟩,
  ⟨some 52, .mv (.t 8), some (51, true), []⟩,
  ⟨some 53, .un .not (.t 52), some (51, true), []⟩,
  ⟨some 54, .pick (.t 51) (.t 53) (.c (.bool false)), none, []⟩,
  ⟨some 55, .mv (.t 54), none, []⟩,
  ⟨some 56, .load 6 true (.t 1), some (55, true), [1]⟩,
  ⟨some 57, .load 10 true (.t 2), some (55, true), [2]⟩,
  ⟨some 58, .call 84 [.t 56, .c (.int .i64 0), .t 57, .c (.int .i64 9)], some (55, true), [10105]⟩,
  ⟨some 59, .mkrow 59 2 1 [.int .i64 0] [(0, 1, .c (.int .i64 2)), (1, 1, .c (.int .i64 1))], some (55, true), []⟩,
  ⟨some 60, .call 83 [.t 58, .t 59], some (55, true), [59]⟩,
  ⟨some 61, .pick (.t 55) (.t 60) (.c (.bool false)), none, []⟩,
  ⟨some 62, .mv (.t 61), none, []⟩,
  ⟨some 63, .load 6 true (.t 1), some (62, true), [1]⟩,
  ⟨some 64, .load 10 true (.t 2), some (62, true), [2]⟩,
  ⟨some 65, .call 84 [.t 63, .c (.int .i64 0), .t 64, .c (.int .i64 1)], some (62, true), [10105]⟩,
  ⟨some 66, .mkrow 66 1 1 [.int .i64 0] [(0, 1, .c (.int .i64 2))], some (62, true), []⟩,
  ⟨some 67, .call 83 [.t 65, .t 66], some (62, true), [66]⟩,
  ⟨some 68, .pick (.t 62) (.t 67) (.c (.bool false)), none, []⟩,
  ⟨some 0, .mv (.t 68), none, []⟩] [0]
def c20_8 : ACode := .seq c20_7 .ret
def c20_9 : ACode := .seq c20_6 c20_8
def c20_10 : ACode := .seq c20_5 c20_9
def c20_11 : ACode := .seq c20_4 c20_10
def c20_12 : ACode := .seq c20_3 c20_11
def c20_13 : ACode := .seq c20_2 c20_12
def c20_14 : ACode := .seq c20_1 c20_13
def c20_15 : ACode := .seq c20_0 c20_14
def a20 : AFun := ⟨0, 69, c20_15, [.t 0]⟩
theorem m20 : mFun Try.prog Try.f20 a20 = true := by decide +kernel
/- copse/copsekeep.Three -/
def c43_0 : ACode := .ops [⟨some 0, .alloc [.int .i64 0, .int .i64 0, .int .i64 0, .int .i64 0, .int .i64 0, .nils], none, []⟩] [0]
def c43_1 : ACode := .ops [⟨some 2, .build [.bool false, .int .i64 0, .int .i64 0, .int .i64 0, .int .i64 0, .int .i64 0] [(3, 1, .c (.int .i64 5)), (4, 1, .c (.int .i64 1)), (5, 1, .c (.int .i64 2))], none, []⟩,
  ⟨some 3, .call 111 [.t 2], none, []⟩,
  ⟨some 4, .build [.bool false, .int .i64 0, .int .i64 0, .int .i64 0, .int .i64 0, .int .i64 0] [(0, 1, .c (.bool true)), (1, 1, .c (.int .i64 10))], none, []⟩,
  ⟨some 5, .call 111 [.t 4], none, []⟩,
  ⟨some 6, .build [.bool false, .int .i64 0, .int .i64 0, .int .i64 0, .int .i64 0, .int .i64 0] [(0, 1, .c (.bool true)), (1, 1, .c (.int .i64 20))], none, []⟩,
  ⟨some 7, .call 111 [.t 6], none, []⟩,
  ⟨some 8, .mkrow 1 3 1 [.int .u64 0] [(0, 1, .t 3), (1, 1, .t 5), (2, 1, .t 7)], none, []⟩,
  ⟨some 1, .mv (.t 8), none, []⟩] [0, 1]
def c43_2 : ACode := .ops [⟨some 9, .build [.int .i64 0, .int .i64 0, .int .i64 0] [(0, 1, .c (.int .i64 3))], none, []⟩,
  ⟨some 10, .mv (.t 1), none, []⟩,
  ⟨some 11, .build [.int .i64 0, .nils] [(1, 1, .t 10)], none, []⟩,
  ⟨some 12, .mkrow 12 1 2 [.int .i64 0, .nils] [(0, 2, .t 11)], none, []⟩,
  ⟨some 13, .build [.int .i64 0, .int .i64 0, .int .i64 0, .int .i64 0, .int .i64 0, .nils] [(0, 1, .c (.int .i64 1)), (1, 1, .c (.int .i64 1)), (2, 3, .t 9), (5, 1, .t 12)], none, []⟩,
  ⟨none, .store (.t 0) 6 (.t 13), none, [0]⟩] [0]
def c43_3 : ACode := .seq c43_2 .ret
def c43_4 : ACode := .seq c43_1 c43_3
def c43_5 : ACode := .seq c43_0 c43_4
def a43 : AFun := ⟨0, 14, c43_5, [.cell 0 6 true]⟩
theorem m43 : mFun Try.prog Try.f43 a43 = true := by decide +kernel
/- copse/copsekeep.Stump -/
def c81_0 : ACode := .ops [⟨some 6, .nil0 6 1, none, []⟩] [0, 1, 2]
def c81_1 : ACode := .ops [⟨some 7, .mv (.t 0), none, []⟩,
  ⟨some 8, .build [.bool false, .int .i64 0, .int .i64 0, .int .i64 0, .int .i64 0, .int .i64 0] [(3, 1, .t 7), (4, 1, .c (.int .i64 1)), (5, 1, .c (.int .i64 2))], none, []⟩,
  ⟨some 9, .call 111 [.t 8], none, []⟩,
  ⟨some 10, .mv (.t 1), none, []⟩,
  ⟨some 11, .build [.bool false, .int .i64 0, .int .i64 0, .int .i64 0, .int .i64 0, .int .i64 0] [(0, 1, .c (.bool true)), (1, 1, .t 10)], none, []⟩,
  ⟨some 12, .call 111 [.t 11], none, []⟩,
  ⟨some 13, .mv (.t 2), none, []⟩,
  ⟨some 14, .build [.bool false, .int .i64 0, .int .i64 0, .int .i64 0, .int .i64 0, .int .i64 0] [(0, 1, .c (.bool true)), (1, 1, .t 13)], none, []⟩,
  ⟨some 15, .call 111 [.t 14], none, []⟩,
  ⟨some 16, .mkrow 6 3 1 [.int .u64 0] [(0, 1, .t 9), (1, 1, .t 12), (2, 1, .t 15)], none, []⟩,
  ⟨some 6, .mv (.t 16), none, []⟩] [6]
def c81_2 : ACode := .seq c81_1 .ret
def c81_3 : ACode := .seq c81_0 c81_2
def a81 : AFun := ⟨3, 17, c81_3, [.t 6]⟩
theorem m81 : mFun Try.prog Try.f81 a81 = true := by decide +kernel
/- copse/copsebook.Same[int] -/
def c83_0 : ACode := .ops [⟨some 4, .mv (.c (.bool false)), none, []⟩] [0, 1]
def c83_1 : ACode := .ops [⟨some 6, .mv (.t 0), none, []⟩,
  ⟨some 7, .len (.t 6), none, []⟩,
  ⟨some 8, .mv (.t 1), none, []⟩,
  ⟨some 9, .len (.t 8), none, []⟩,
  ⟨some 10, .bin .neq (.t 7) (.t 9), none, []⟩] [0, 1, 10]
def c83_2 : ACode := .ops [⟨some 4, .mv (.c (.bool false)), none, []⟩] [4]
def c83_3 : ACode := .seq c83_2 .ret
def c83_4 : ACode := .cond (.t 10) c83_3 .skip
def c83_5 : ACode := .seq c83_1 c83_4
def c83_6 : ACode := .ops [⟨some 5, .mv (.c (.int .i64 0)), none, []⟩] [0, 1, 5]
def c83_7 : ACode := .ops [⟨some 11, .mv (.t 5), none, []⟩,
  ⟨some 12, .mv (.t 0), none, []⟩,
  ⟨some 13, .len (.t 12), none, []⟩,
  ⟨some 14, .bin .lss (.t 11) (.t 13), none, []⟩] [0, 1, 5, 14]
def c83_8 : ACode := .cond (.t 14) .skip (.exit 0)
def c83_9 : ACode := .seq c83_7 c83_8
def c83_10 : ACode := .ops [⟨some 17, .mv (.t 0), none, []⟩,
  ⟨some 18, .mv (.t 5), none, []⟩,
  ⟨some 19, .ias (.t 17) (.t 18) 1, none, []⟩,
  ⟨some 20, .load 1 false (.t 19), none, []⟩,
  ⟨some 21, .mv (.t 1), none, []⟩,
  ⟨some 22, .mv (.t 5), none, []⟩,
  ⟨some 23, .ias (.t 21) (.t 22) 1, none, []⟩,
  ⟨some 24, .load 1 false (.t 23), none, []⟩,
  ⟨some 25, .bin .neq (.t 20) (.t 24), none, []⟩] [0, 1, 5, 25]
def c83_11 : ACode := .ops [⟨some 4, .mv (.c (.bool false)), none, []⟩] [4]
def c83_12 : ACode := .seq c83_11 .ret
def c83_13 : ACode := .cond (.t 25) c83_12 .skip
def c83_14 : ACode := .seq c83_10 c83_13
def c83_15 : ACode := .block 1 c83_14
def c83_16 : ACode := .ops [⟨some 15, .mv (.t 5), none, []⟩,
  ⟨some 16, .bin .add (.t 15) (.c (.int .i64 1)), none, []⟩,
  ⟨some 5, .mv (.t 16), none, []⟩] [0, 1, 5]
def c83_17 : ACode := .seq c83_15 c83_16
def c83_18 : ACode := .seq c83_9 c83_17
def c83_19 : ACode := .keep [0, 1, 5] [] c83_18
def c83_20 : ACode := .loop c83_19
def c83_21 : ACode := .block 0 c83_20
def c83_22 : ACode := .seq c83_6 c83_21
def c83_23 : ACode := .ops [⟨some 4, .mv (.c (.bool true)), none, []⟩] [4]
def c83_24 : ACode := .seq c83_23 .ret
def c83_25 : ACode := .seq c83_22 c83_24
def c83_26 : ACode := .seq c83_5 c83_25
def c83_27 : ACode := .seq c83_0 c83_26
def a83 : AFun := ⟨2, 26, c83_27, [.t 4]⟩
theorem m83 : mFun Try.prog Try.f83 a83 = true := by decide +kernel
def texts20 : List (Nat × AFun) := [(20, a20), (43, a43), (44, a44), (48, a48), (51, a51), (67, a67), (68, a68), (71, a71), (76, a76), (77, a77), (81, a81), (82, a82), (83, a83), (84, a84), (111, a111), (119, a119), (120, a120), (121, a121), (123, a123), (124, a124), (125, a125), (128, a128), (129, a129), (130, a130), (131, a131), (132, a132), (133, a133), (134, a134), (156, a156), (158, a158), (159, a159), (160, a160), (161, a161), (162, a162), (163, a163), (164, a164), (165, a165), (166, a166), (176, a176), (177, a177), (190, a190), (198, a198)]
theorem texts20_good : Go.Am.Good Try.prog texts20 :=
  good_cons Try.func20 m20 <| good_cons Try.func43 m43 <| good_cons Try.func44 m44 <| good_cons Try.func48 m48 <| good_cons Try.func51 m51 <| good_cons Try.func67 m67 <| good_cons Try.func68 m68 <| good_cons Try.func71 m71 <| good_cons Try.func76 m76 <| good_cons Try.func77 m77 <| good_cons Try.func81 m81 <| good_cons Try.func82 m82 <| good_cons Try.func83 m83 <| good_cons Try.func84 m84 <| good_cons Try.func111 m111 <| good_cons Try.func119 m119 <| good_cons Try.func120 m120 <| good_cons Try.func121 m121 <| good_cons Try.func123 m123 <| good_cons Try.func124 m124 <| good_cons Try.func125 m125 <| good_cons Try.func128 m128 <| good_cons Try.func129 m129 <| good_cons Try.func130 m130 <| good_cons Try.func131 m131 <| good_cons Try.func132 m132 <| good_cons Try.func133 m133 <| good_cons Try.func134 m134 <| good_cons Try.func156 m156 <| good_cons Try.func158 m158 <| good_cons Try.func159 m159 <| good_cons Try.func160 m160 <| good_cons Try.func161 m161 <| good_cons Try.func162 m162 <| good_cons Try.func163 m163 <| good_cons Try.func164 m164 <| good_cons Try.func165 m165 <| good_cons Try.func166 m166 <| good_cons Try.func176 m176 <| good_cons Try.func177 m177 <| good_cons Try.func190 m190 <| good_cons Try.func198 m198 <| good_nil
theorem c_closed20 : Contract Try.prog 20 (sp0 (some true)) := contract_closed mixed texts20_good (m := 1000) (n := 60) (by decide +kernel)


set_option maxHeartbeats 4000000 in
set_option maxRecDepth 8000 in
theorem runs_law (f : Forest) (t : KTree) (l : List Int) (c : Bool) (h : some true = some c) : Runs (tbl [(45, sp1 ModelC), (46, sp2 RegionC), (75, sp2 NodesC), (82, sp4 RangeC), (48, sp2 BoundT), (86, sp1 MirrorC), (20, sp0 (some true))]) a23 [Arg.enc f, Arg.enc t, Arg.enc l] (Arg.enc c) := by
  cases h
  refine ⟨rfl, fun g => run_def ?_⟩
  unfold a23
  have hm := rm_modelOf f
  have hM : ModelC f = some (modelOf f) := rfl
  generalize modelOf f = m at *
  have hR : RegionC m l = some (regionOf m.dim l) := part_of hm.dim _
  obtain ⟨hb, he, hsm⟩ := okB_region m.dim l
  generalize regionOf m.dim l = b at *
  have hd := hm.dim
  have hN : NodesC t m.dim = some (treeNodes t m.dim) := part_of hd _
  have hrt := rt_treeNodes t m.dim hd.1 hd.2
  have hv := treeNodes_val t m.dim hd.1 hd.2
  have hl := treeNodes_len t m.dim hd.1 hd.2
  generalize treeNodes t m.dim = ns at *
  have hrm := mir_rt hrt hv
  have m1 : RM (oneM m.dim [⟨0, ns⟩]) := rm_one hd (by simp) (by simp; exact hrt) 0 (by decide)
  have m2 : RM (oneM m.dim [⟨0, ns⟩, ⟨0, ns.map mirW⟩]) := rm_one hd (by simp) (by simp; exact ⟨hrt, hrm⟩) 0 (by decide)
  have m3 : RM ⟨m.dim, 1, ⟨7, 0, 0⟩, []⟩ := rm_one hd (by simp) (by simp) 7 (by decide)
  have r1 : RangeC (oneM m.dim [⟨0, ns⟩]) 0 b 0 = some ⟨(boundT ns b).a, (boundT ns b).b, true⟩ := by
    unfold RangeC
    rw [part_of ⟨m1, hb, by omega, by omega⟩, range_one hd hrt he]
  have r2 : RangeC (oneM m.dim [⟨0, ns⟩, ⟨0, ns.map mirW⟩]) 0 b 500 = some ⟨0, 0, true⟩ := by
    unfold RangeC
    rw [part_of ⟨m2, hb, by omega, by omega⟩, range_mir hd hrt hv hl he]
  have r3 : RangeC ⟨m.dim, 1, ⟨7, 0, 0⟩, []⟩ 0 b 5 = some ⟨7, 7, true⟩ := by
    unfold RangeC
    rw [part_of ⟨m3, hb, by omega, by omega⟩, range_bare he]
  have hMi : MirrorC (oneM m.dim [⟨0, ns⟩]) = some (oneM m.dim [⟨0, ns.map mirW⟩]) := part_of ⟨m.dim, ns, m.dim, hrt, hv, rfl⟩ _
  have hT : BoundT ns b = some ⟨(boundT ns b).a, (boundT ns b).b, true⟩ := by
    unfold BoundT
    rw [part_of ⟨⟨_, hrt⟩, hb⟩, ← (boundT_spec hrt he).1]
  have n1 : ns.length ≤ maxN := by unfold maxN; omega
  have n2 : (ns.map mirW).length ≤ maxN := by rw [List.length_map]; unfold maxN; omega
  have k1 : (1 : Nat) ≤ maxN := by decide
  have k2 : (2 : Nat) ≤ maxN := by decide
  generalize ns.map mirW = ms at *
  generalize (boundT ns b).a = x at *
  generalize (boundT ns b).b = y at *
  unfold oneM at r1 r2 hMi
  have d1 : (Arg.dec (.agg [.int .i64 m.dim, .int .i64 1, .int .i64 0, .int .i64 0, .int .i64 0, .lst 1 [.int .i64 0, .lst ns.length (encL ns)]]) : Option Model) = some ⟨m.dim, 1, ⟨0, 0, 0⟩, [⟨0, ns⟩]⟩ := Arg.dec_enc (⟨m.dim, 1, ⟨0, 0, 0⟩, [⟨0, ns⟩]⟩ : Model)
  have d2 : (Arg.dec (.agg [.int .i64 m.dim, .int .i64 1, .int .i64 0, .int .i64 0, .int .i64 0, .lst 2 [.int .i64 0, .lst ns.length (encL ns), .int .i64 0, .lst ms.length (encL ms)]]) : Option Model) = some ⟨m.dim, 1, ⟨0, 0, 0⟩, [⟨0, ns⟩, ⟨0, ms⟩]⟩ := Arg.dec_enc (⟨m.dim, 1, ⟨0, 0, 0⟩, [⟨0, ns⟩, ⟨0, ms⟩]⟩ : Model)
  have d3 : (Arg.dec (.agg [.int .i64 m.dim, .int .i64 1, .int .i64 7, .int .i64 0, .int .i64 0, .lst 0 []]) : Option Model) = some ⟨m.dim, 1, ⟨7, 0, 0⟩, []⟩ := Arg.dec_enc (⟨m.dim, 1, ⟨7, 0, 0⟩, []⟩ : Model)
  simp -implicitDefEqProofs [d1, d2, d3, hM, hR, hN, hT, r1, r2, r3, hMi, n1, n2, k1, k2, encL_cons, encL_nil]
def law_sp : List AV → Option AV := sp3 fun (_ : Forest) (_ : KTree) (_ : List Int) => some true
theorem law_holds : Contract Try.prog 23 law_sp :=
  contract_of_runs mixed (tbl_cons c_Model (tbl_cons c_Region (tbl_cons c_Nodes (tbl_cons c_lrange (tbl_cons c_bTree (tbl_cons c_Mirror (tbl_cons c_closed20 tbl_nil))))))) Try.func23 m23 (sp3_runs runs_law)
theorem law_says (f : Forest) (t : KTree) (l : List Int) : law_sp [Arg.enc f, Arg.enc t, Arg.enc l] = some (.bool true) := by
  simp only [law_sp, sp3, Arg.dec_enc, Option.bind_some]
  rfl
end Go.Co
