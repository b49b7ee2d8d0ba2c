/- The law QueryEdges: what its text computes. -/
import Derived.Test.YtbjnmbbhlaghaaaCoK
import Derived.Test.YtbjnmbbhlaghaaaCoSh
namespace Go.Co
open Go.Am Go.Proofs
set_option linter.unusedSimpArgs false
set_option linter.unusedVariables false

/- copse/copselaw10.QueryEdges -/
def c9_0 : ACode := .ops [⟨some 4, .box (.t 0) 4, none, []⟩,
  ⟨some 5, .box (.t 1) 8, none, []⟩,
  ⟨some 8, .mv (.c (.bool false)), none, []⟩] [2, 3, 4, 5]
theorem r9_0 {C : Cs} {k : List Fr} {s : St} {Q : Post} : run C c9_0 k s Q = run C (.ops [⟨some 4, .box (.t 0) 4, none, []⟩,
  ⟨some 5, .box (.t 1) 8, none, []⟩,
  ⟨some 8, .mv (.c (.bool false)), none, []⟩] [2, 3, 4, 5]) k s Q := rfl
def c9_1 : ACode := .ops [⟨some 12, .load 4 true (.t 4), none, [4]⟩,
  ⟨some 13, .call 45 [.t 12], none, []⟩,
  ⟨some 9, .alloc [.int .i64 0, .int .i64 0, .int .i64 0, .int .i64 0, .int .i64 0, .nils], none, []⟩,
  ⟨none, .store (.t 9) 6 (.t 13), none, [9]⟩] [2, 3, 5, 9]
theorem r9_1 {C : Cs} {k : List Fr} {s : St} {Q : Post} : run C c9_1 k s Q = run C (.ops [⟨some 12, .load 4 true (.t 4), none, [4]⟩,
  ⟨some 13, .call 45 [.t 12], none, []⟩,
  ⟨some 9, .alloc [.int .i64 0, .int .i64 0, .int .i64 0, .int .i64 0, .int .i64 0, .nils], none, []⟩,
  ⟨none, .store (.t 9) 6 (.t 13), none, [9]⟩] [2, 3, 5, 9]) k s Q := rfl
def c9_2 : ACode := .ops [⟨some 14, .load 8 true (.t 5), none, [5]⟩,
  ⟨some 15, .load 6 true (.t 9), none, [9]⟩,
  ⟨some 16, .call 59 [.t 14, .t 15], none, []⟩,
  ⟨some 10, .alloc [.int .i64 0, .int .i64 0, .int .i64 0, .int .i64 0, .int .i64 0, .int .i64 0, .int .i64 0, .int .i64 0, .int .i64 0, .int .i64 0, .int .i64 0, .int .i64 0, .int .i64 0, .int .i64 0, .int .i64 0, .bool false, .int .i64 0], none, []⟩,
  ⟨none, .store (.t 10) 17 (.t 16), none, [10]⟩] [2, 3, 9, 10]
theorem r9_2 {C : Cs} {k : List Fr} {s : St} {Q : Post} : run C c9_2 k s Q = run C (.ops [⟨some 14, .load 8 true (.t 5), none, [5]⟩,
  ⟨some 15, .load 6 true (.t 9), none, [9]⟩,
  ⟨some 16, .call 59 [.t 14, .t 15], none, []⟩,
  ⟨some 10, .alloc [.int .i64 0, .int .i64 0, .int .i64 0, .int .i64 0, .int .i64 0, .int .i64 0, .int .i64 0, .int .i64 0, .int .i64 0, .int .i64 0, .int .i64 0, .int .i64 0, .int .i64 0, .int .i64 0, .int .i64 0, .bool false, .int .i64 0], none, []⟩,
  ⟨none, .store (.t 10) 17 (.t 16), none, [10]⟩] [2, 3, 9, 10]) k s Q := rfl
def c9_3 : ACode := .ops [⟨some 17, .load 6 true (.t 9), none, [9]⟩,
  ⟨some 18, .load 17 true (.t 10), none, [10]⟩,
  ⟨some 19, .call 56 [.t 17, .t 18], none, []⟩,
  ⟨some 20, .un .not (.t 19), none, []⟩,
  ⟨some 21, .mv (.t 20), none, []⟩,
  ⟨some 22, .build [.int .i64 0, .int .i64 0, .int .i64 0, .int .i64 0, .int .i64 0, .nils] [], some (21, false), []⟩,
  ⟨some 23, .load 17 true (.t 10), some (21, false), [10]⟩,
  ⟨some 24, .call 56 [.t 22, .t 23], some (21, false), []⟩,
  ⟨some 25, .pick (.t 21) (.c (.bool true)) (.t 24), none, []⟩] [2, 3, 9, 10, 25]
theorem r9_3 {C : Cs} {k : List Fr} {s : St} {Q : Post} : run C c9_3 k s Q = run C (.ops [⟨some 17, .load 6 true (.t 9), none, [9]⟩,
  ⟨some 18, .load 17 true (.t 10), none, [10]⟩,
  ⟨some 19, .call 56 [.t 17, .t 18], none, []⟩,
  ⟨some 20, .un .not (.t 19), none, []⟩,
  ⟨some 21, .mv (.t 20), none, []⟩,
  ⟨some 22, .build [.int .i64 0, .int .i64 0, .int .i64 0, .int .i64 0, .int .i64 0, .nils] [], some (21, false), []⟩,
  ⟨some 23, .load 17 true (.t 10), some (21, false), [10]⟩,
  ⟨some 24, .call 56 [.t 22, .t 23], some (21, false), []⟩,
  ⟨some 25, .pick (.t 21) (.c (.bool true)) (.t 24), none, []⟩] [2, 3, 9, 10, 25]) k s Q := rfl
def c9_4 : ACode := .ops [⟨some 8, .mv (.c (.bool false)), none, []⟩] [8]
theorem r9_4 {C : Cs} {k : List Fr} {s : St} {Q : Post} : run C c9_4 k s Q = run C (.ops [⟨some 8, .mv (.c (.bool false)), none, []⟩] [8]) k s Q := rfl
def c9_5 : ACode := .seq c9_4 .ret
theorem r9_5 {C : Cs} {k : List Fr} {s : St} {Q : Post} : run C c9_5 k s Q = run C (.seq c9_4 .ret) k s Q := rfl
def c9_6 : ACode := .cond (.t 25) c9_5 .skip
theorem r9_6 {C : Cs} {k : List Fr} {s : St} {Q : Post} : run C c9_6 k s Q = run C (.cond (.t 25) c9_5 .skip) k s Q := rfl
def c9_7 : ACode := .seq c9_3 c9_6
theorem r9_7 {C : Cs} {k : List Fr} {s : St} {Q : Post} : run C c9_7 k s Q = run C (.seq c9_3 c9_6) k s Q := rfl
def c9_8 : ACode := .ops [⟨some 26, .mv (.t 3), none, []⟩,
  ⟨some 27, .call 63 [.t 26, .c (.int .i64 0), .c (.int .i64 1099511627776)], none, []⟩,
  ⟨some 28, .bin .add (.c (.int .i64 1)) (.t 27), none, []⟩,
  ⟨some 11, .mv (.t 28), none, []⟩] [2, 9, 10, 11]
theorem r9_8 {C : Cs} {k : List Fr} {s : St} {Q : Post} : run C c9_8 k s Q = run C (.ops [⟨some 26, .mv (.t 3), none, []⟩,
  ⟨some 27, .call 63 [.t 26, .c (.int .i64 0), .c (.int .i64 1099511627776)], none, []⟩,
  ⟨some 28, .bin .add (.c (.int .i64 1)) (.t 27), none, []⟩,
  ⟨some 11, .mv (.t 28), none, []⟩] [2, 9, 10, 11]) k s Q := rfl
def c9_9 : ACode := .ops [⟨some 29, .mv (.t 2), none, []⟩,
  ⟨some 30, .call 63 [.t 29, .c (.int .i64 0), .c (.int .i64 9)], none, []⟩] [9, 10, 11, 30]
theorem r9_9 {C : Cs} {k : List Fr} {s : St} {Q : Post} : run C c9_9 k s Q = run C (.ops [⟨some 29, .mv (.t 2), none, []⟩,
  ⟨some 30, .call 63 [.t 29, .c (.int .i64 0), .c (.int .i64 9)], none, []⟩] [9, 10, 11, 30]) k s Q := rfl
def c9_10 : ACode := .ops [⟨some 42, .bin .eql (.t 30) (.c (.int .i64 0)), none, []⟩,
  ⟨some 41, .mv (.t 42), none, []⟩] [9, 10, 11, 30, 41]
theorem r9_10 {C : Cs} {k : List Fr} {s : St} {Q : Post} : run C c9_10 k s Q = run C (.ops [⟨some 42, .bin .eql (.t 30) (.c (.int .i64 0)), none, []⟩,
  ⟨some 41, .mv (.t 42), none, []⟩] [9, 10, 11, 30, 41]) k s Q := rfl
def c9_11 : ACode := .ops [⟨some 43, .fad (.t 9) 1, none, [9]⟩,
  ⟨some 44, .load 1 false (.t 43), none, [9]⟩,
  ⟨some 45, .bin .sub (.t 44) (.c (.int .i64 1)), none, []⟩,
  ⟨some 46, .mv (.t 11), none, []⟩,
  ⟨some 47, .bin .add (.t 45) (.t 46), none, []⟩,
  ⟨some 48, .fad (.t 10) 1, none, [10]⟩,
  ⟨none, .store (.t 48) 1 (.t 47), none, [10]⟩] [9, 10]
theorem r9_11 {C : Cs} {k : List Fr} {s : St} {Q : Post} : run C c9_11 k s Q = run C (.ops [⟨some 43, .fad (.t 9) 1, none, [9]⟩,
  ⟨some 44, .load 1 false (.t 43), none, [9]⟩,
  ⟨some 45, .bin .sub (.t 44) (.c (.int .i64 1)), none, []⟩,
  ⟨some 46, .mv (.t 11), none, []⟩,
  ⟨some 47, .bin .add (.t 45) (.t 46), none, []⟩,
  ⟨some 48, .fad (.t 10) 1, none, [10]⟩,
  ⟨none, .store (.t 48) 1 (.t 47), none, [10]⟩] [9, 10]) k s Q := rfl
def c9_12 : ACode := .ops [⟨some 50, .bin .eql (.t 30) (.c (.int .i64 1)), none, []⟩,
  ⟨some 49, .mv (.t 50), none, []⟩] [9, 10, 11, 30, 49]
theorem r9_12 {C : Cs} {k : List Fr} {s : St} {Q : Post} : run C c9_12 k s Q = run C (.ops [⟨some 50, .bin .eql (.t 30) (.c (.int .i64 1)), none, []⟩,
  ⟨some 49, .mv (.t 50), none, []⟩] [9, 10, 11, 30, 49]) k s Q := rfl
def c9_13 : ACode := .ops [⟨some 51, .mv (.t 11), none, []⟩,
  ⟨some 52, .un .neg (.t 51), none, []⟩,
  ⟨some 53, .fad (.t 10) 1, none, [10]⟩,
  ⟨none, .store (.t 53) 1 (.t 52), none, [10]⟩] [9, 10]
theorem r9_13 {C : Cs} {k : List Fr} {s : St} {Q : Post} : run C c9_13 k s Q = run C (.ops [⟨some 51, .mv (.t 11), none, []⟩,
  ⟨some 52, .un .neg (.t 51), none, []⟩,
  ⟨some 53, .fad (.t 10) 1, none, [10]⟩,
  ⟨none, .store (.t 53) 1 (.t 52), none, [10]⟩] [9, 10]) k s Q := rfl
def c9_14 : ACode := .ops [⟨some 55, .bin .eql (.t 30) (.c (.int .i64 2)), none, []⟩,
  ⟨some 54, .mv (.t 55), none, []⟩] [9, 10, 11, 30, 54]
theorem r9_14 {C : Cs} {k : List Fr} {s : St} {Q : Post} : run C c9_14 k s Q = run C (.ops [⟨some 55, .bin .eql (.t 30) (.c (.int .i64 2)), none, []⟩,
  ⟨some 54, .mv (.t 55), none, []⟩] [9, 10, 11, 30, 54]) k s Q := rfl
def c9_15 : ACode := .ops [⟨some 56, .mv (.t 11), none, []⟩,
  ⟨some 57, .un .neg (.t 56), none, []⟩,
  ⟨some 58, .fad (.t 10) 16, none, [10]⟩,
  ⟨none, .store (.t 58) 1 (.t 57), none, [10]⟩] [9, 10]
theorem r9_15 {C : Cs} {k : List Fr} {s : St} {Q : Post} : run C c9_15 k s Q = run C (.ops [⟨some 56, .mv (.t 11), none, []⟩,
  ⟨some 57, .un .neg (.t 56), none, []⟩,
  ⟨some 58, .fad (.t 10) 16, none, [10]⟩,
  ⟨none, .store (.t 58) 1 (.t 57), none, [10]⟩] [9, 10]) k s Q := rfl
def c9_16 : ACode := .ops [⟨some 60, .bin .eql (.t 30) (.c (.int .i64 3)), none, []⟩,
  ⟨some 59, .mv (.t 60), none, []⟩] [9, 10, 11, 30, 59]
theorem r9_16 {C : Cs} {k : List Fr} {s : St} {Q : Post} : run C c9_16 k s Q = run C (.ops [⟨some 60, .bin .eql (.t 30) (.c (.int .i64 3)), none, []⟩,
  ⟨some 59, .mv (.t 60), none, []⟩] [9, 10, 11, 30, 59]) k s Q := rfl
def c9_17 : ACode := .ops [⟨some 61, .mv (.t 11), none, []⟩,
  ⟨some 62, .bin .add (.c (.int .i64 65536)) (.t 61), none, []⟩,
  ⟨some 63, .fad (.t 10) 16, none, [10]⟩,
  ⟨none, .store (.t 63) 1 (.t 62), none, [10]⟩] [9, 10]
theorem r9_17 {C : Cs} {k : List Fr} {s : St} {Q : Post} : run C c9_17 k s Q = run C (.ops [⟨some 61, .mv (.t 11), none, []⟩,
  ⟨some 62, .bin .add (.c (.int .i64 65536)) (.t 61), none, []⟩,
  ⟨some 63, .fad (.t 10) 16, none, [10]⟩,
  ⟨none, .store (.t 63) 1 (.t 62), none, [10]⟩] [9, 10]) k s Q := rfl
def c9_18 : ACode := .ops [⟨some 65, .bin .eql (.t 30) (.c (.int .i64 4)), none, []⟩,
  ⟨some 64, .mv (.t 65), none, []⟩] [9, 10, 11, 30, 64]
theorem r9_18 {C : Cs} {k : List Fr} {s : St} {Q : Post} : run C c9_18 k s Q = run C (.ops [⟨some 65, .bin .eql (.t 30) (.c (.int .i64 4)), none, []⟩,
  ⟨some 64, .mv (.t 65), none, []⟩] [9, 10, 11, 30, 64]) k s Q := rfl
def c9_19 : ACode := .ops [⟨some 66, .fad (.t 10) 2, none, [10]⟩,
  ⟨some 67, .iad (.t 66) (.c (.int .i64 0)) 2 5, none, [10]⟩,
  ⟨some 68, .fad (.t 67) 0, none, [10]⟩,
  ⟨some 69, .load 1 false (.t 68), none, [10]⟩,
  ⟨some 70, .mv (.t 11), none, []⟩,
  ⟨some 71, .bin .sub (.t 69) (.t 70), none, []⟩,
  ⟨some 72, .fad (.t 10) 2, none, [10]⟩,
  ⟨some 73, .iad (.t 72) (.c (.int .i64 0)) 2 5, none, [10]⟩,
  ⟨some 74, .fad (.t 73) 1, none, [10]⟩,
  ⟨none, .store (.t 74) 1 (.t 71), none, [10]⟩] [9, 10]
theorem r9_19 {C : Cs} {k : List Fr} {s : St} {Q : Post} : run C c9_19 k s Q = run C (.ops [⟨some 66, .fad (.t 10) 2, none, [10]⟩,
  ⟨some 67, .iad (.t 66) (.c (.int .i64 0)) 2 5, none, [10]⟩,
  ⟨some 68, .fad (.t 67) 0, none, [10]⟩,
  ⟨some 69, .load 1 false (.t 68), none, [10]⟩,
  ⟨some 70, .mv (.t 11), none, []⟩,
  ⟨some 71, .bin .sub (.t 69) (.t 70), none, []⟩,
  ⟨some 72, .fad (.t 10) 2, none, [10]⟩,
  ⟨some 73, .iad (.t 72) (.c (.int .i64 0)) 2 5, none, [10]⟩,
  ⟨some 74, .fad (.t 73) 1, none, [10]⟩,
  ⟨none, .store (.t 74) 1 (.t 71), none, [10]⟩] [9, 10]) k s Q := rfl
def c9_20 : ACode := .ops [⟨some 76, .bin .eql (.t 30) (.c (.int .i64 5)), none, []⟩,
  ⟨some 75, .mv (.t 76), none, []⟩] [9, 10, 11, 30, 75]
theorem r9_20 {C : Cs} {k : List Fr} {s : St} {Q : Post} : run C c9_20 k s Q = run C (.ops [⟨some 76, .bin .eql (.t 30) (.c (.int .i64 5)), none, []⟩,
  ⟨some 75, .mv (.t 76), none, []⟩] [9, 10, 11, 30, 75]) k s Q := rfl
def c9_21 : ACode := .ops [⟨some 77, .mv (.t 11), none, []⟩,
  ⟨some 78, .bin .add (.c (.int .i64 2147483647)) (.t 77), none, []⟩,
  ⟨some 79, .fad (.t 10) 2, none, [10]⟩,
  ⟨some 80, .iad (.t 79) (.c (.int .i64 0)) 2 5, none, [10]⟩,
  ⟨some 81, .fad (.t 80) 1, none, [10]⟩,
  ⟨none, .store (.t 81) 1 (.t 78), none, [10]⟩] [9, 10]
theorem r9_21 {C : Cs} {k : List Fr} {s : St} {Q : Post} : run C c9_21 k s Q = run C (.ops [⟨some 77, .mv (.t 11), none, []⟩,
  ⟨some 78, .bin .add (.c (.int .i64 2147483647)) (.t 77), none, []⟩,
  ⟨some 79, .fad (.t 10) 2, none, [10]⟩,
  ⟨some 80, .iad (.t 79) (.c (.int .i64 0)) 2 5, none, [10]⟩,
  ⟨some 81, .fad (.t 80) 1, none, [10]⟩,
  ⟨none, .store (.t 81) 1 (.t 78), none, [10]⟩] [9, 10]) k s Q := rfl
def c9_22 : ACode := .ops [⟨some 83, .bin .eql (.t 30) (.c (.int .i64 6)), none, []⟩,
  ⟨some 82, .mv (.t 83), none, []⟩] [9, 10, 11, 30, 82]
theorem r9_22 {C : Cs} {k : List Fr} {s : St} {Q : Post} : run C c9_22 k s Q = run C (.ops [⟨some 83, .bin .eql (.t 30) (.c (.int .i64 6)), none, []⟩,
  ⟨some 82, .mv (.t 83), none, []⟩] [9, 10, 11, 30, 82]) k s Q := rfl
def c9_23 : ACode := .ops [⟨some 84, .mv (.t 11), none, []⟩,
  ⟨some 85, .bin .sub (.c (.int .i64 (-2147483648))) (.t 84), none, []⟩,
  ⟨some 86, .fad (.t 10) 2, none, [10]⟩,
  ⟨some 87, .iad (.t 86) (.c (.int .i64 0)) 2 5, none, [10]⟩,
  ⟨some 88, .fad (.t 87) 0, none, [10]⟩,
  ⟨none, .store (.t 88) 1 (.t 85), none, [10]⟩] [9, 10]
theorem r9_23 {C : Cs} {k : List Fr} {s : St} {Q : Post} : run C c9_23 k s Q = run C (.ops [⟨some 84, .mv (.t 11), none, []⟩,
  ⟨some 85, .bin .sub (.c (.int .i64 (-2147483648))) (.t 84), none, []⟩,
  ⟨some 86, .fad (.t 10) 2, none, [10]⟩,
  ⟨some 87, .iad (.t 86) (.c (.int .i64 0)) 2 5, none, [10]⟩,
  ⟨some 88, .fad (.t 87) 0, none, [10]⟩,
  ⟨none, .store (.t 88) 1 (.t 85), none, [10]⟩] [9, 10]) k s Q := rfl
def c9_24 : ACode := .ops [⟨some 90, .bin .eql (.t 30) (.c (.int .i64 7)), none, []⟩,
  ⟨some 89, .mv (.t 90), none, []⟩] [9, 10, 11, 30, 89]
theorem r9_24 {C : Cs} {k : List Fr} {s : St} {Q : Post} : run C c9_24 k s Q = run C (.ops [⟨some 90, .bin .eql (.t 30) (.c (.int .i64 7)), none, []⟩,
  ⟨some 89, .mv (.t 90), none, []⟩] [9, 10, 11, 30, 89]) k s Q := rfl
def c9_25 : ACode := .ops [⟨some 91, .mv (.t 11), none, []⟩,
  ⟨some 92, .fad (.t 10) 2, none, [10]⟩,
  ⟨some 93, .iad (.t 92) (.c (.int .i64 4)) 2 5, none, [10]⟩,
  ⟨some 94, .fad (.t 93) 1, none, [10]⟩,
  ⟨none, .store (.t 94) 1 (.t 91), none, [10]⟩] [9, 10]
theorem r9_25 {C : Cs} {k : List Fr} {s : St} {Q : Post} : run C c9_25 k s Q = run C (.ops [⟨some 91, .mv (.t 11), none, []⟩,
  ⟨some 92, .fad (.t 10) 2, none, [10]⟩,
  ⟨some 93, .iad (.t 92) (.c (.int .i64 4)) 2 5, none, [10]⟩,
  ⟨some 94, .fad (.t 93) 1, none, [10]⟩,
  ⟨none, .store (.t 94) 1 (.t 91), none, [10]⟩] [9, 10]) k s Q := rfl
def c9_26 : ACode := .ops [⟨some 96, .bin .eql (.t 30) (.c (.int .i64 8)), none, []⟩,
  ⟨some 95, .mv (.t 96), none, []⟩] [9, 10, 11, 95]
theorem r9_26 {C : Cs} {k : List Fr} {s : St} {Q : Post} : run C c9_26 k s Q = run C (.ops [⟨some 96, .bin .eql (.t 30) (.c (.int .i64 8)), none, []⟩,
  ⟨some 95, .mv (.t 96), none, []⟩] [9, 10, 11, 95]) k s Q := rfl
def c9_27 : ACode := .ops [⟨some 97, .mv (.t 11), none, []⟩,
  ⟨some 98, .bin .add (.c (.int .i64 3)) (.t 97), none, []⟩,
  ⟨some 99, .fad (.t 10) 0, none, [10]⟩,
  ⟨none, .store (.t 99) 1 (.t 98), none, [10]⟩] [9, 10]
theorem r9_27 {C : Cs} {k : List Fr} {s : St} {Q : Post} : run C c9_27 k s Q = run C (.ops [⟨some 97, .mv (.t 11), none, []⟩,
  ⟨some 98, .bin .add (.c (.int .i64 3)) (.t 97), none, []⟩,
  ⟨some 99, .fad (.t 10) 0, none, [10]⟩,
  ⟨none, .store (.t 99) 1 (.t 98), none, [10]⟩] [9, 10]) k s Q := rfl
def c9_28 : ACode := .ops [⟨some 31, .fad (.t 10) 0, none, [10]⟩,
  ⟨some 32, .load 1 false (.t 31), none, [10]⟩,
  ⟨some 33, .bin .eql (.t 32) (.c (.int .i64 1)), none, []⟩] [9, 10, 11, 33]
theorem r9_28 {C : Cs} {k : List Fr} {s : St} {Q : Post} : run C c9_28 k s Q = run C (.ops [⟨some 31, .fad (.t 10) 0, none, [10]⟩,
  ⟨some 32, .load 1 false (.t 31), none, [10]⟩,
  ⟨some 33, .bin .eql (.t 32) (.c (.int .i64 1)), none, []⟩] [9, 10, 11, 33]) k s Q := rfl
def c9_29 : ACode := .ops [⟨some 34, .fad (.t 10) 12, none, [10]⟩,
  ⟨some 35, .load 1 false (.t 34), none, [10]⟩,
  ⟨some 36, .mv (.t 11), none, []⟩,
  ⟨some 37, .bin .sub (.t 35) (.t 36), none, []⟩,
  ⟨some 38, .fad (.t 10) 13, none, [10]⟩,
  ⟨none, .store (.t 38) 1 (.t 37), none, [10]⟩] [9, 10]
theorem r9_29 {C : Cs} {k : List Fr} {s : St} {Q : Post} : run C c9_29 k s Q = run C (.ops [⟨some 34, .fad (.t 10) 12, none, [10]⟩,
  ⟨some 35, .load 1 false (.t 34), none, [10]⟩,
  ⟨some 36, .mv (.t 11), none, []⟩,
  ⟨some 37, .bin .sub (.t 35) (.t 36), none, []⟩,
  ⟨some 38, .fad (.t 10) 13, none, [10]⟩,
  ⟨none, .store (.t 38) 1 (.t 37), none, [10]⟩] [9, 10]) k s Q := rfl
def c9_30 : ACode := .ops [⟨some 39, .mv (.t 11), none, []⟩,
  ⟨some 40, .fad (.t 10) 12, none, [10]⟩,
  ⟨none, .store (.t 40) 1 (.t 39), none, [10]⟩] [9, 10]
theorem r9_30 {C : Cs} {k : List Fr} {s : St} {Q : Post} : run C c9_30 k s Q = run C (.ops [⟨some 39, .mv (.t 11), none, []⟩,
  ⟨some 40, .fad (.t 10) 12, none, [10]⟩,
  ⟨none, .store (.t 40) 1 (.t 39), none, [10]⟩] [9, 10]) k s Q := rfl
def c9_31 : ACode := .cond (.t 33) c9_29 c9_30
theorem r9_31 {C : Cs} {k : List Fr} {s : St} {Q : Post} : run C c9_31 k s Q = run C (.cond (.t 33) c9_29 c9_30) k s Q := rfl
def c9_32 : ACode := .seq c9_28 c9_31
theorem r9_32 {C : Cs} {k : List Fr} {s : St} {Q : Post} : run C c9_32 k s Q = run C (.seq c9_28 c9_31) k s Q := rfl
def c9_33 : ACode := .cond (.t 95) c9_27 c9_32
theorem r9_33 {C : Cs} {k : List Fr} {s : St} {Q : Post} : run C c9_33 k s Q = run C (.cond (.t 95) c9_27 c9_32) k s Q := rfl
def c9_34 : ACode := .seq c9_26 c9_33
theorem r9_34 {C : Cs} {k : List Fr} {s : St} {Q : Post} : run C c9_34 k s Q = run C (.seq c9_26 c9_33) k s Q := rfl
def c9_35 : ACode := .cond (.t 89) c9_25 c9_34
theorem r9_35 {C : Cs} {k : List Fr} {s : St} {Q : Post} : run C c9_35 k s Q = run C (.cond (.t 89) c9_25 c9_34) k s Q := rfl
def c9_36 : ACode := .seq c9_24 c9_35
theorem r9_36 {C : Cs} {k : List Fr} {s : St} {Q : Post} : run C c9_36 k s Q = run C (.seq c9_24 c9_35) k s Q := rfl
def c9_37 : ACode := .cond (.t 82) c9_23 c9_36
theorem r9_37 {C : Cs} {k : List Fr} {s : St} {Q : Post} : run C c9_37 k s Q = run C (.cond (.t 82) c9_23 c9_36) k s Q := rfl
def c9_38 : ACode := .seq c9_22 c9_37
theorem r9_38 {C : Cs} {k : List Fr} {s : St} {Q : Post} : run C c9_38 k s Q = run C (.seq c9_22 c9_37) k s Q := rfl
def c9_39 : ACode := .cond (.t 75) c9_21 c9_38
theorem r9_39 {C : Cs} {k : List Fr} {s : St} {Q : Post} : run C c9_39 k s Q = run C (.cond (.t 75) c9_21 c9_38) k s Q := rfl
def c9_40 : ACode := .seq c9_20 c9_39
theorem r9_40 {C : Cs} {k : List Fr} {s : St} {Q : Post} : run C c9_40 k s Q = run C (.seq c9_20 c9_39) k s Q := rfl
def c9_41 : ACode := .cond (.t 64) c9_19 c9_40
theorem r9_41 {C : Cs} {k : List Fr} {s : St} {Q : Post} : run C c9_41 k s Q = run C (.cond (.t 64) c9_19 c9_40) k s Q := rfl
def c9_42 : ACode := .seq c9_18 c9_41
theorem r9_42 {C : Cs} {k : List Fr} {s : St} {Q : Post} : run C c9_42 k s Q = run C (.seq c9_18 c9_41) k s Q := rfl
def c9_43 : ACode := .cond (.t 59) c9_17 c9_42
theorem r9_43 {C : Cs} {k : List Fr} {s : St} {Q : Post} : run C c9_43 k s Q = run C (.cond (.t 59) c9_17 c9_42) k s Q := rfl
def c9_44 : ACode := .seq c9_16 c9_43
theorem r9_44 {C : Cs} {k : List Fr} {s : St} {Q : Post} : run C c9_44 k s Q = run C (.seq c9_16 c9_43) k s Q := rfl
def c9_45 : ACode := .cond (.t 54) c9_15 c9_44
theorem r9_45 {C : Cs} {k : List Fr} {s : St} {Q : Post} : run C c9_45 k s Q = run C (.cond (.t 54) c9_15 c9_44) k s Q := rfl
def c9_46 : ACode := .seq c9_14 c9_45
theorem r9_46 {C : Cs} {k : List Fr} {s : St} {Q : Post} : run C c9_46 k s Q = run C (.seq c9_14 c9_45) k s Q := rfl
def c9_47 : ACode := .cond (.t 49) c9_13 c9_46
theorem r9_47 {C : Cs} {k : List Fr} {s : St} {Q : Post} : run C c9_47 k s Q = run C (.cond (.t 49) c9_13 c9_46) k s Q := rfl
def c9_48 : ACode := .seq c9_12 c9_47
theorem r9_48 {C : Cs} {k : List Fr} {s : St} {Q : Post} : run C c9_48 k s Q = run C (.seq c9_12 c9_47) k s Q := rfl
def c9_49 : ACode := .cond (.t 41) c9_11 c9_48
theorem r9_49 {C : Cs} {k : List Fr} {s : St} {Q : Post} : run C c9_49 k s Q = run C (.cond (.t 41) c9_11 c9_48) k s Q := rfl
def c9_50 : ACode := .seq c9_10 c9_49
theorem r9_50 {C : Cs} {k : List Fr} {s : St} {Q : Post} : run C c9_50 k s Q = run C (.seq c9_10 c9_49) k s Q := rfl
def c9_51 : ACode := .block 0 c9_50
theorem r9_51 {C : Cs} {k : List Fr} {s : St} {Q : Post} : run C c9_51 k s Q = run C (.block 0 c9_50) k s Q := rfl
def c9_52 : ACode := .seq c9_9 c9_51
theorem r9_52 {C : Cs} {k : List Fr} {s : St} {Q : Post} : run C c9_52 k s Q = run C (.seq c9_9 c9_51) k s Q := rfl
def c9_53 : ACode := .ops [⟨some 100, .load 6 true (.t 9), none, [9]⟩,
  ⟨some 101, .load 17 true (.t 10), none, [10]⟩,
  ⟨some 102, .call 56 [.t 100, .t 101], none, []⟩,
  ⟨some 103, .un .not (.t 102), none, []⟩,
  ⟨some 104, .mv (.t 103), none, []⟩,
  ⟨some 105, .load 6 true (.t 9), some (104, true), [9]⟩,
  ⟨some 106, .load 17 true (.t 10), some (104, true), [10]⟩,
  ⟨some 107, .build [.int .i64 0, .int .i64 0, .int .i64 0, .int .i64 0] [], some (104, true), []⟩,
  ⟨some 108, .call 57 [.t 105, .t 106, .t 107, .c (.int .i64 0)], some (104, true), []⟩,
  ⟨some 109, .un .not (.t 108), some (104, true), []⟩,
  ⟨some 110, .pick (.t 104) (.t 109) (.c (.bool false)), none, []⟩,
  ⟨some 111, .mv (.t 110), none, []⟩,
  ⟨some 112, .call 7 [], some (111, true), []⟩,
  ⟨some 113, .pick (.t 111) (.t 112) (.c (.bool false)), none, []⟩,
  ⟨some 8, .mv (.t 113), none, []⟩] [8]
theorem r9_53 {C : Cs} {k : List Fr} {s : St} {Q : Post} : run C c9_53 k s Q = run C (.ops [⟨some 100, .load 6 true (.t 9), none, [9]⟩,
  ⟨some 101, .load 17 true (.t 10), none, [10]⟩,
  ⟨some 102, .call 56 [.t 100, .t 101], none, []⟩,
  ⟨some 103, .un .not (.t 102), none, []⟩,
  ⟨some 104, .mv (.t 103), none, []⟩,
  ⟨some 105, .load 6 true (.t 9), some (104, true), [9]⟩,
  ⟨some 106, .load 17 true (.t 10), some (104, true), [10]⟩,
  ⟨some 107, .build [.int .i64 0, .int .i64 0, .int .i64 0, .int .i64 0] [], some (104, true), []⟩,
  ⟨some 108, .call 57 [.t 105, .t 106, .t 107, .c (.int .i64 0)], some (104, true), []⟩,
  ⟨some 109, .un .not (.t 108), some (104, true), []⟩,
  ⟨some 110, .pick (.t 104) (.t 109) (.c (.bool false)), none, []⟩,
  ⟨some 111, .mv (.t 110), none, []⟩,
  ⟨some 112, .call 7 [], some (111, true), []⟩,
  ⟨some 113, .pick (.t 111) (.t 112) (.c (.bool false)), none, []⟩,
  ⟨some 8, .mv (.t 113), none, []⟩] [8]) k s Q := rfl
def c9_54 : ACode := .seq c9_53 .ret
theorem r9_54 {C : Cs} {k : List Fr} {s : St} {Q : Post} : run C c9_54 k s Q = run C (.seq c9_53 .ret) k s Q := rfl
def c9_55 : ACode := .seq c9_52 c9_54
theorem r9_55 {C : Cs} {k : List Fr} {s : St} {Q : Post} : run C c9_55 k s Q = run C (.seq c9_52 c9_54) k s Q := rfl
def c9_56 : ACode := .seq c9_8 c9_55
theorem r9_56 {C : Cs} {k : List Fr} {s : St} {Q : Post} : run C c9_56 k s Q = run C (.seq c9_8 c9_55) k s Q := rfl
def c9_57 : ACode := .seq c9_7 c9_56
theorem r9_57 {C : Cs} {k : List Fr} {s : St} {Q : Post} : run C c9_57 k s Q = run C (.seq c9_7 c9_56) k s Q := rfl
def c9_58 : ACode := .seq c9_2 c9_57
theorem r9_58 {C : Cs} {k : List Fr} {s : St} {Q : Post} : run C c9_58 k s Q = run C (.seq c9_2 c9_57) k s Q := rfl
def c9_59 : ACode := .seq c9_1 c9_58
theorem r9_59 {C : Cs} {k : List Fr} {s : St} {Q : Post} : run C c9_59 k s Q = run C (.seq c9_1 c9_58) k s Q := rfl
def c9_60 : ACode := .seq c9_0 c9_59
theorem r9_60 {C : Cs} {k : List Fr} {s : St} {Q : Post} : run C c9_60 k s Q = run C (.seq c9_0 c9_59) k s Q := rfl
def a9 : AFun := ⟨4, 114, c9_60, [.t 8]⟩
attribute [simp] r9_0 r9_1 r9_2 r9_3 r9_4 r9_5 r9_6 r9_7 r9_8 r9_9 r9_10 r9_11 r9_12 r9_13 r9_14 r9_15 r9_16 r9_17 r9_18 r9_19 r9_20 r9_21 r9_22 r9_23 r9_24 r9_25 r9_26 r9_27 r9_28 r9_29 r9_30 r9_31 r9_32 r9_33 r9_34 r9_35 r9_36 r9_37 r9_38 r9_39 r9_40 r9_41 r9_42 r9_43 r9_44 r9_45 r9_46 r9_47 r9_48 r9_49 r9_50 r9_51 r9_52 r9_53 r9_54 r9_55 r9_56 r9_57 r9_58 r9_59 r9_60
theorem m9 : mFun Try.prog Try.f9 a9 = true := by decide +kernel

/- copse/copselaw10.QueryRuns -/
def c7_0 : ACode := .ops [⟨some 0, .mv (.c (.bool false)), none, []⟩] []
def c7_1 : ACode := .ops [⟨some 5, .call 43 [], none, []⟩,
  ⟨some 1, .alloc [.int .i64 0, .int .i64 0, .int .i64 0, .int .i64 0, .int .i64 0, .nils], none, []⟩,
  ⟨none, .store (.t 1) 6 (.t 5), none, [1]⟩] [1]
def c7_2 : ACode := .ops [⟨some 6, .build [.int .i64 0, .int .i64 0] [(0, 1, .c (.int .i64 0)), (1, 1, .c (.int .i64 9))], none, []⟩,
  ⟨some 7, .build [.int .i64 0, .int .i64 0, .int .i64 0, .int .i64 0, .int .i64 0, .int .i64 0, .int .i64 0, .int .i64 0, .int .i64 0, .int .i64 0] [(0, 2, .t 6)], none, []⟩,
  ⟨some 8, .build [.int .i64 0, .int .i64 0, .int .i64 0, .int .i64 0, .int .i64 0, .int .i64 0, .int .i64 0, .int .i64 0, .int .i64 0, .int .i64 0, .int .i64 0, .int .i64 0, .int .i64 0, .int .i64 0, .int .i64 0, .bool false, .int .i64 0] [(0, 1, .c (.int .i64 3)), (2, 10, .t 7)], none, []⟩,
  ⟨some 2, .alloc [.int .i64 0, .int .i64 0, .int .i64 0, .int .i64 0, .int .i64 0, .int .i64 0, .int .i64 0, .int .i64 0, .int .i64 0, .int .i64 0, .int .i64 0, .int .i64 0, .int .i64 0, .int .i64 0, .int .i64 0, .bool false, .int .i64 0], none, []⟩,
  ⟨none, .store (.t 2) 17 (.t 8), none, [2]⟩] [1, 2]
def c7_3 : ACode := .ops [⟨some 9, .load 17 true (.t 2), none, [2]⟩,
  ⟨some 3, .alloc [.int .i64 0, .int .i64 0, .int .i64 0, .int .i64 0, .int .i64 0, .int .i64 0, .int .i64 0, .int .i64 0, .int .i64 0, .int .i64 0, .int .i64 0, .int .i64 0, .int .i64 0, .int .i64 0, .int .i64 0, .bool false, .int .i64 0], none, []⟩,
  ⟨none, .store (.t 3) 17 (.t 9), none, [3]⟩] [1, 2, 3]
def c7_4 : ACode := .ops [⟨some 10, .fad (.t 3) 15, none, [3]⟩,
  ⟨none, .store (.t 10) 1 (.c (.bool true)), none, [3]⟩] [1, 2, 3]
def c7_5 : ACode := .ops [⟨some 11, .build [.int .i64 0, .int .i64 0] [(0, 1, .c (.int .i64 0)), (1, 1, .c (.int .i64 9))], none, []⟩,
  ⟨some 12, .build [.int .i64 0, .int .i64 0, .int .i64 0, .int .i64 0, .int .i64 0, .int .i64 0, .int .i64 0, .int .i64 0, .int .i64 0, .int .i64 0] [(0, 2, .t 11)], none, []⟩,
  ⟨some 13, .build [.int .i64 0, .int .i64 0, .int .i64 0, .int .i64 0, .int .i64 0, .int .i64 0, .int .i64 0, .int .i64 0, .int .i64 0, .int .i64 0, .int .i64 0, .int .i64 0, .int .i64 0, .int .i64 0, .int .i64 0, .bool false, .int .i64 0] [(0, 1, .c (.int .i64 1)), (2, 10, .t 12), (13, 1, .c (.int .i64 20))], none, []⟩,
  ⟨some 4, .alloc [.int .i64 0, .int .i64 0, .int .i64 0, .int .i64 0, .int .i64 0, .int .i64 0, .int .i64 0, .int .i64 0, .int .i64 0, .int .i64 0, .int .i64 0, .int .i64 0, .int .i64 0, .int .i64 0, .int .i64 0, .bool false, .int .i64 0], none, []⟩,
  ⟨none, .store (.t 4) 17 (.t 13), none, [4]⟩] [1, 2, 3, 4]
def c7_6 : ACode := .ops [⟨some 14, .load 6 true (.t 1), none, [1]⟩,
  ⟨some 15, .load 17 true (.t 2), none, [2]⟩,
  ⟨some 16, .call 56 [.t 14, .t 15], none, []⟩,
  ⟨some 17, .mv (.t 16), none, []⟩,
  ⟨some 18, .load 6 true (.t 1), some (17, true), [1]⟩,
  ⟨some 19, .load 17 true (.t 2), some (17, true), [2]⟩,
  ⟨some 20, .build [.int .i64 0, .int .i64 0, .int .i64 0, .int .i64 0] [(0, 1, .c (.int .i64 5))], some (17, true), []⟩,
  ⟨some 21, .call 57 [.t 18, .t 19, .t 20, .c (.int .i64 6)], some (17, true), []⟩,
  ⟨some 22, .un .not (.t 21), some (17, true), []⟩,
  ⟨some 23, .pick (.t 17) (.t 22) (.c (.bool false)), none, []⟩,
  ⟨some 24, .mv (.t 23), none, []⟩,
  ⟨some 25, .load 6 true (.t 1), some (24, true), [1]⟩,
  ⟨some 26, .load 17 true (.t 3), some (24, true), [3]⟩,
  ⟨some 27, .build [.int .i64 0, .int .i64 0, .int .i64 0, .int .i64 0] [(0, 1, .c (.int .i64 5))], some (24, true), []⟩,
  ⟨some 28, .call 57 [.t 25, .t 26, .t 27, .c (.int .i64 6)], some (24, true), []⟩,
  ⟨some 29, .pick (.t 24) (.t 28) (.c (.bool false)), none, []⟩,
  ⟨some 30, .mv (.t 29), none, []⟩,
  ⟨some 31, .load 6 true (.t 1), some (30, true), [1]⟩,
  ⟨some 32, .load 17 true (.t 4), some (30, true), [4]⟩,
  ⟨some 33, .build [.int .i64 0, .int .i64 0, .int .i64 0, .int .i64 0] [(0, 1, .c (.int .i64 6))], some (30, true), []⟩,
  ⟨some 34, .call 57 [.t 31, .t 32, .t 33, .c (.int .i64 0)], some (30, true), []⟩,
  ⟨some 35, .pick (.t 30) (.t 34) (.c (.bool false)), none, []⟩,
  ⟨some 36, .mv (.t 35), none, []⟩,
  ⟨some 37, .load 17 true (.t 2), some (36, true), [2]⟩,
  ⟨some 38, .call 58 [.t 37], some (36, true), []⟩,
  ⟨some 39, .build [.int .i64 0, .int .i64 0] [(0, 1, .c (.int .i64 0)), (1, 1, .c (.int .i64 9))], some (36, true), []⟩,
  ⟨some 40, .build [.int .i64 0, .int .i64 0] [], some (36, true), []⟩,
  ⟨some 41, .build [.int .i64 0, .int .i64 0] [], some (36, true), []⟩,
  ⟨some 42, .build [.int .i64 0, .int .i64 0] [], some (36, true), []⟩,
  ⟨some 43, .build [.int .i64 0, .int .i64 0] [(0, 1, .c (.int .i64 0)), (1, 1, .c (.int .i64 9))], some (36, true), []⟩,
  ⟨some 44, .build [.int .i64 0, .int .i64 0, .int .i64 0, .int .i64 0, .int .i64 0, .int .i64 0, .int .i64 0, .int .i64 0, .int .i64 0, .int .i64 0] [(0, 2, .t 39), (2, 2, .t 40), (4, 2, .t 41), (6, 2, .t 42), (8, 2, .t 43)], some (36, true), []⟩,
  ⟨some 45, .eqa false [false, false, false, false, false, false, false, false, false, false] (.t 38) (.t 44), some (36, true), []⟩,
  ⟨some 46, .pick (.t 36) (.t 45) (.c (.bool false)), none, []⟩,
  ⟨some 0, .mv (.t 46), none, []⟩] [0]
def c7_7 : ACode := .seq c7_6 .ret
def c7_8 : ACode := .seq c7_5 c7_7
def c7_9 : ACode := .seq c7_4 c7_8
def c7_10 : ACode := .seq c7_3 c7_9
def c7_11 : ACode := .seq c7_2 c7_10
def c7_12 : ACode := .seq c7_1 c7_11
def c7_13 : ACode := .seq c7_0 c7_12
def a7 : AFun := ⟨0, 47, c7_13, [.t 0]⟩
theorem m7 : mFun Try.prog Try.f7 a7 = true := by decide +kernel
/- copse/copsekeep.Three -/
def c43_0 : ACode := .ops [⟨some 0, .alloc [.int .i64 0, .int .i64 0, .int .i64 0, .int .i64 0, .int .i64 0, .nils], none, []⟩] [0]
def c43_1 : ACode := .ops [⟨some 2, .build [.bool false, .int .i64 0, .int .i64 0, .int .i64 0, .int .i64 0, .int .i64 0] [(3, 1, .c (.int .i64 5)), (4, 1, .c (.int .i64 1)), (5, 1, .c (.int .i64 2))], none, []⟩,
  ⟨some 3, .call 111 [.t 2], none, []⟩,
  ⟨some 4, .build [.bool false, .int .i64 0, .int .i64 0, .int .i64 0, .int .i64 0, .int .i64 0] [(0, 1, .c (.bool true)), (1, 1, .c (.int .i64 10))], none, []⟩,
  ⟨some 5, .call 111 [.t 4], none, []⟩,
  ⟨some 6, .build [.bool false, .int .i64 0, .int .i64 0, .int .i64 0, .int .i64 0, .int .i64 0] [(0, 1, .c (.bool true)), (1, 1, .c (.int .i64 20))], none, []⟩,
  ⟨some 7, .call 111 [.t 6], none, []⟩,
  ⟨some 8, .mkrow 1 3 1 [.int .u64 0] [(0, 1, .t 3), (1, 1, .t 5), (2, 1, .t 7)], none, []⟩,
  ⟨some 1, .mv (.t 8), none, []⟩] [0, 1]
def c43_2 : ACode := .ops [⟨some 9, .build [.int .i64 0, .int .i64 0, .int .i64 0] [(0, 1, .c (.int .i64 3))], none, []⟩,
  ⟨some 10, .mv (.t 1), none, []⟩,
  ⟨some 11, .build [.int .i64 0, .nils] [(1, 1, .t 10)], none, []⟩,
  ⟨some 12, .mkrow 12 1 2 [.int .i64 0, .nils] [(0, 2, .t 11)], none, []⟩,
  ⟨some 13, .build [.int .i64 0, .int .i64 0, .int .i64 0, .int .i64 0, .int .i64 0, .nils] [(0, 1, .c (.int .i64 1)), (1, 1, .c (.int .i64 1)), (2, 3, .t 9), (5, 1, .t 12)], none, []⟩,
  ⟨none, .store (.t 0) 6 (.t 13), none, [0]⟩] [0]
def c43_3 : ACode := .seq c43_2 .ret
def c43_4 : ACode := .seq c43_1 c43_3
def c43_5 : ACode := .seq c43_0 c43_4
def a43 : AFun := ⟨0, 14, c43_5, [.cell 0 6 true]⟩
theorem m43 : mFun Try.prog Try.f43 a43 = true := by decide +kernel
def texts7 : List (Nat × AFun) := [(7, a7), (43, a43), (56, a56), (57, a57), (58, a58), (64, a64), (69, a69), (71, a71), (76, a76), (77, a77), (99, a99), (111, a111), (115, a115), (116, a116), (117, a117), (118, a118), (119, a119), (121, a121), (122, a122), (123, a123), (124, a124), (125, a125), (128, a128), (129, a129), (130, a130), (131, a131), (148, a148), (156, a156), (160, a160), (161, a161), (162, a162), (163, a163), (164, a164), (165, a165), (176, a176)]
theorem texts7_good : Go.Am.Good Try.prog texts7 :=
  good_cons Try.func7 m7 <| good_cons Try.func43 m43 <| good_cons Try.func56 m56 <| good_cons Try.func57 m57 <| good_cons Try.func58 m58 <| good_cons Try.func64 m64 <| good_cons Try.func69 m69 <| good_cons Try.func71 m71 <| good_cons Try.func76 m76 <| good_cons Try.func77 m77 <| good_cons Try.func99 m99 <| good_cons Try.func111 m111 <| good_cons Try.func115 m115 <| good_cons Try.func116 m116 <| good_cons Try.func117 m117 <| good_cons Try.func118 m118 <| good_cons Try.func119 m119 <| good_cons Try.func121 m121 <| good_cons Try.func122 m122 <| good_cons Try.func123 m123 <| good_cons Try.func124 m124 <| good_cons Try.func125 m125 <| good_cons Try.func128 m128 <| good_cons Try.func129 m129 <| good_cons Try.func130 m130 <| good_cons Try.func131 m131 <| good_cons Try.func148 m148 <| good_cons Try.func156 m156 <| good_cons Try.func160 m160 <| good_cons Try.func161 m161 <| good_cons Try.func162 m162 <| good_cons Try.func163 m163 <| good_cons Try.func164 m164 <| good_cons Try.func165 m165 <| good_cons Try.func176 m176 <| good_nil
theorem c_closed7 : Contract Try.prog 7 (sp0 (some true)) := contract_closed mixed texts7_good (m := 1000) (n := 60) (by decide +kernel)


theorem okSpan_spec {dim i : Int} {s : Span} (h : okSpan dim i s = true) : (i < dim ∨ s = ⟨0, 0⟩) ∧ s.lo ≤ s.hi ∧ -2147483648 ≤ s.lo ∧ s.hi ≤ 2147483647 := by
  unfold okSpan Span.empty at h
  simp only [Bool.and_eq_true, Bool.or_eq_true, decide_eq_true_eq, Bool.not_eq_true', decide_eq_false_iff_not] at h
  have h1 := of_fits h.1.2
  have h2 := of_fits h.2
  exact ⟨h.1.1.1, by omega, by omega, by omega⟩
theorem okRegion_spec {b : Box} {dim : Int} (h : okRegion b dim = true) : okSpan dim 0 b.s0 = true ∧ okSpan dim 1 b.s1 = true ∧ okSpan dim 2 b.s2 = true ∧ okSpan dim 3 b.s3 = true ∧ okSpan dim 4 b.s4 = true := by
  unfold okRegion at h
  simp only [Bool.and_eq_true] at h
  exact ⟨h.1.1.1.1, h.1.1.1.2, h.1.1.2, h.1.2, h.2⟩
theorem bad {m : Model} {q : Query} (hr : RM m) (h : okQuery m q = true → False) : QRight m q = some false ∧ ∀ p t, BreaksC m q p t = some false := by
  have h0 : okQuery m q = false := by
    cases hq : okQuery m q
    · rfl
    · exact (h hq).elim
  constructor
  · unfold QRight
    rw [if_neg (by have := hr.dim; omega), part_of hr, h0]
  · intro p t
    unfold BreaksC breaks
    rw [part_of hr, h0]
    rfl
theorem within_cases {n : Int} : within n 0 9 = 0 ∨ within n 0 9 = 1 ∨ within n 0 9 = 2 ∨ within n 0 9 = 3 ∨ within n 0 9 = 4 ∨ within n 0 9 = 5 ∨ within n 0 9 = 6 ∨ within n 0 9 = 7 ∨ within n 0 9 = 8 ∨ within n 0 9 = 9 := by
  have := within_le n 0 9 (by omega)
  omega

set_option maxRecDepth 8000 in
set_option maxHeartbeats 4000000 in
theorem runs_law (f : Forest) (a : Ask) (what by_ : Int) : Runs (tbl [(45, sp1 ModelC), (59, sp2 QueryC), (56, sp2 QRight), (63, sp3 Within), (57, sp4 BreaksC), (7, sp0 (some true))]) a9 [Arg.enc f, Arg.enc a, Arg.enc what, Arg.enc by_] (.bool true) := by
  refine ⟨rfl, fun g => run_def ?_⟩
  unfold a9
  have hm := rm_modelOf f
  have hM : ModelC f = some (modelOf f) := rfl
  generalize modelOf f = m at *
  have hq := ok_queryOf m a hm
  have hQ : QueryC a m = some (queryOf m a) := part_of ⟨hm.dim.1, hm.dim.2, hm.classes.1, hm.classes.2⟩ _
  have hlo : -9000 ≤ (queryOf m a).lo ∧ (queryOf m a).lo ≤ 9000 := by
    have := within_le a.lo (-9000) 9000 (by omega)
    unfold queryOf
    simp only
    split <;> omega
  generalize queryOf m a = q at *
  have hR0 : QRight m q = some true := by unfold QRight; rw [if_neg (by have := hm.dim; omega), part_of hm, hq]
  have hR1 : QRight ⟨0, 0, ⟨0, 0, 0⟩, []⟩ q = some false := by unfold QRight; rw [if_pos (by decide)]
  have hz : (Arg.dec (.agg [.int .i64 0, .int .i64 0, .int .i64 0, .int .i64 0, .int .i64 0, .lst 0 []]) : Option Model) = some ⟨0, 0, ⟨0, 0, 0⟩, []⟩ := rfl
  have hW := within_of by_ 0 1099511627776 (by omega)
  have hb := within_le by_ 0 1099511627776 (by omega)
  generalize within by_ 0 1099511627776 = n at *
  have hV := within_of what 0 9 (by omega)
  have w0 : IntKind.i64.wrap (1 + n) = 1 + n := wrap64 (by omega) (by omega)
  have hs := okQuery_spec hq
  have hg := okRegion_spec hs.2.2.2.2.1
  have hk := okKind_spec hs.2.2.2.2.2
  have g0 := okSpan_spec hg.1
  have hd := hm.dim
  have hc := hm.classes
  have g4 : q.region.s4 = ⟨0, 0⟩ := by
    have := (okSpan_spec hg.2.2.2.2).1
    rcases this with h | h
    · omega
    · exact h
  obtain ⟨kind, cls, ⟨s0, s1, s2, s3, s4⟩, lo, hi, feature, falls, budget⟩ := q
  simp only at hlo hs hk g0 g4
  subst g4
  have w1 : IntKind.i64.wrap (m.classes - 1) = m.classes - 1 := wrap64 (by omega) (by omega)
  have w2 : IntKind.i64.wrap (m.classes - 1 + (1 + n)) = m.classes - 1 + (1 + n) := wrap64 (by omega) (by omega)
  have w3 : IntKind.i64.wrap (0 - (1 + n)) = -(1 + n) := by rw [wrap64 (by omega) (by omega)]; omega
  have w3' : IntKind.i64.wrap (-(1 + n)) = -(1 + n) := wrap64 (by omega) (by omega)
  have w4 : IntKind.i64.wrap (65536 + (1 + n)) = 65536 + (1 + n) := wrap64 (by omega) (by omega)
  have w5 : IntKind.i64.wrap (s0.lo - (1 + n)) = s0.lo - (1 + n) := wrap64 (by omega) (by omega)
  have w6 : IntKind.i64.wrap (2147483647 + (1 + n)) = 2147483647 + (1 + n) := wrap64 (by omega) (by omega)
  have w7 : IntKind.i64.wrap (-2147483648 - (1 + n)) = -2147483648 - (1 + n) := wrap64 (by omega) (by omega)
  have w8 : IntKind.i64.wrap (3 + (1 + n)) = 3 + (1 + n) := wrap64 (by omega) (by omega)
  have w9 : IntKind.i64.wrap (lo - (1 + n)) = lo - (1 + n) := wrap64 (by omega) (by omega)
  rcases within_cases (n := what) with hw | hw | hw | hw | hw | hw | hw | hw | hw | hw <;> rw [hw] at hV
  · obtain ⟨b1, b2⟩ := bad (q := ⟨kind, m.classes - 1 + (1 + n), ⟨s0, s1, s2, s3, ⟨0, 0⟩⟩, lo, hi, feature, falls, budget⟩) hm (fun h => by have := okQuery_spec h; simp only at this; omega)
    simp -implicitDefEqProofs [hM, hQ, hR0, hR1, hz, hW, hV, w0, w1, w2, w3, w3', w4, w5, w6, w7, w8, w9, b1, b2]
  · obtain ⟨b1, b2⟩ := bad (q := ⟨kind, -(1 + n), ⟨s0, s1, s2, s3, ⟨0, 0⟩⟩, lo, hi, feature, falls, budget⟩) hm (fun h => by have := okQuery_spec h; simp only at this; omega)
    simp -implicitDefEqProofs [hM, hQ, hR0, hR1, hz, hW, hV, w0, w1, w2, w3, w3', w4, w5, w6, w7, w8, w9, b1, b2]
  · obtain ⟨b1, b2⟩ := bad (q := ⟨kind, cls, ⟨s0, s1, s2, s3, ⟨0, 0⟩⟩, lo, hi, feature, falls, -(1 + n)⟩) hm (fun h => by have := okQuery_spec h; simp only at this; omega)
    simp -implicitDefEqProofs [hM, hQ, hR0, hR1, hz, hW, hV, w0, w1, w2, w3, w3', w4, w5, w6, w7, w8, w9, b1, b2]
  · obtain ⟨b1, b2⟩ := bad (q := ⟨kind, cls, ⟨s0, s1, s2, s3, ⟨0, 0⟩⟩, lo, hi, feature, falls, 65536 + (1 + n)⟩) hm (fun h => by have := okQuery_spec h; simp only at this; omega)
    simp -implicitDefEqProofs [hM, hQ, hR0, hR1, hz, hW, hV, w0, w1, w2, w3, w3', w4, w5, w6, w7, w8, w9, b1, b2]
  · obtain ⟨b1, b2⟩ := bad (q := ⟨kind, cls, ⟨⟨s0.lo, s0.lo - (1 + n)⟩, s1, s2, s3, ⟨0, 0⟩⟩, lo, hi, feature, falls, budget⟩) hm (fun h => by have := okSpan_spec (okRegion_spec (okQuery_spec h).2.2.2.2.1).1; simp only at this; omega)
    simp -implicitDefEqProofs [hM, hQ, hR0, hR1, hz, hW, hV, w0, w1, w2, w3, w3', w4, w5, w6, w7, w8, w9, b1, b2]
  · obtain ⟨b1, b2⟩ := bad (q := ⟨kind, cls, ⟨⟨s0.lo, 2147483647 + (1 + n)⟩, s1, s2, s3, ⟨0, 0⟩⟩, lo, hi, feature, falls, budget⟩) hm (fun h => by have := okSpan_spec (okRegion_spec (okQuery_spec h).2.2.2.2.1).1; simp only at this; omega)
    simp -implicitDefEqProofs [hM, hQ, hR0, hR1, hz, hW, hV, w0, w1, w2, w3, w3', w4, w5, w6, w7, w8, w9, b1, b2]
  · obtain ⟨b1, b2⟩ := bad (q := ⟨kind, cls, ⟨⟨-2147483648 - (1 + n), s0.hi⟩, s1, s2, s3, ⟨0, 0⟩⟩, lo, hi, feature, falls, budget⟩) hm (fun h => by have := okSpan_spec (okRegion_spec (okQuery_spec h).2.2.2.2.1).1; simp only at this; omega)
    simp -implicitDefEqProofs [hM, hQ, hR0, hR1, hz, hW, hV, w0, w1, w2, w3, w3', w4, w5, w6, w7, w8, w9, b1, b2]
  · obtain ⟨b1, b2⟩ := bad (q := ⟨kind, cls, ⟨s0, s1, s2, s3, ⟨0, 1 + n⟩⟩, lo, hi, feature, falls, budget⟩) hm (fun h => by have := (okSpan_spec (okRegion_spec (okQuery_spec h).2.2.2.2.1).2.2.2.2).1; simp only [Span.mk.injEq, true_and] at this; omega)
    simp -implicitDefEqProofs [hM, hQ, hR0, hR1, hz, hW, hV, w0, w1, w2, w3, w3', w4, w5, w6, w7, w8, w9, b1, b2]
  · obtain ⟨b1, b2⟩ := bad (q := ⟨3 + (1 + n), cls, ⟨s0, s1, s2, s3, ⟨0, 0⟩⟩, lo, hi, feature, falls, budget⟩) hm (fun h => by have := okKind_spec (okQuery_spec h).2.2.2.2.2; simp only at this; omega)
    simp -implicitDefEqProofs [hM, hQ, hR0, hR1, hz, hW, hV, w0, w1, w2, w3, w3', w4, w5, w6, w7, w8, w9, b1, b2]
  · by_cases k1 : kind = 1
    · subst k1
      obtain ⟨b1, b2⟩ := bad (q := ⟨1, cls, ⟨s0, s1, s2, s3, ⟨0, 0⟩⟩, lo, lo - (1 + n), feature, falls, budget⟩) hm (fun h => by have := okKind_spec (okQuery_spec h).2.2.2.2.2; simp only at this; omega)
      simp -implicitDefEqProofs [hM, hQ, hR0, hR1, hz, hW, hV, w0, w1, w2, w3, w3', w4, w5, w6, w7, w8, w9, b1, b2]
    · obtain ⟨b1, b2⟩ := bad (q := ⟨kind, cls, ⟨s0, s1, s2, s3, ⟨0, 0⟩⟩, 1 + n, hi, feature, falls, budget⟩) hm (fun h => by have := okKind_spec (okQuery_spec h).2.2.2.2.2; simp only at this; omega)
      simp -implicitDefEqProofs [hM, hQ, hR0, hR1, hz, hW, hV, w0, w1, w2, w3, w3', w4, w5, w6, w7, w8, w9, b1, b2, k1]

theorem runs_law' (f : Forest) (a : Ask) (what by_ : Int) (c : Bool) (h : some true = some c) : Runs (tbl [(45, sp1 ModelC), (59, sp2 QueryC), (56, sp2 QRight), (63, sp3 Within), (57, sp4 BreaksC), (7, sp0 (some true))]) a9 [Arg.enc f, Arg.enc a, Arg.enc what, Arg.enc by_] (Arg.enc c) := by
  cases h
  exact runs_law f a what by_
def law_sp : List AV → Option AV := sp4 fun (_ : Forest) (_ : Ask) (_ _ : Int) => some true
theorem law_holds : Contract Try.prog 9 law_sp :=
  contract_of_runs mixed (tbl_cons c_Model (tbl_cons c_Query (tbl_cons c_qRight (tbl_cons c_Within (tbl_cons c_Breaks (tbl_cons c_closed7 tbl_nil)))))) Try.func9 m9 (sp4_runs runs_law')
theorem law_says (f : Forest) (a : Ask) (x y : Int) : law_sp [Arg.enc f, Arg.enc a, Arg.enc x, Arg.enc y] = some (.bool true) := by
  simp only [law_sp, sp4, Arg.dec_enc, Option.bind_some]
  rfl
end Go.Co
