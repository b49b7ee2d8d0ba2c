/- The law ModelEdges: what its text computes. -/
import Derived.Test.YtbjnmbbhlaghaaaCoTh
import Derived.Test.YtbjnmbbhlaghaaaCoH
import Derived.Test.YtbjnmbbhlaghaaaCoSh
namespace Go.Co
open Go.Am Go.Proofs
set_option linter.unusedSimpArgs false
set_option linter.unusedVariables false
attribute [-simp] Go.Am.eff_gcall

/- copse/copselaw8.three -/
def c95_0 : ACode := .ops [⟨some 6, .nil0 6 1, none, []⟩] [0, 1, 2]
theorem r95_0 {C : Cs} {k : List Fr} {s : St} {Q : Post} : run C c95_0 k s Q = run C (.ops [⟨some 6, .nil0 6 1, none, []⟩] [0, 1, 2]) k s Q := rfl
def c95_1 : ACode := .ops [⟨some 7, .mv (.t 0), none, []⟩,
  ⟨some 8, .build [.bool false, .int .i64 0, .int .i64 0, .int .i64 0, .int .i64 0, .int .i64 0] [(3, 1, .t 7), (4, 1, .c (.int .i64 1)), (5, 1, .c (.int .i64 2))], none, []⟩,
  ⟨some 9, .call 111 [.t 8], none, []⟩,
  ⟨some 10, .mv (.t 1), none, []⟩,
  ⟨some 11, .build [.bool false, .int .i64 0, .int .i64 0, .int .i64 0, .int .i64 0, .int .i64 0] [(0, 1, .c (.bool true)), (1, 1, .t 10)], none, []⟩,
  ⟨some 12, .call 111 [.t 11], none, []⟩,
  ⟨some 13, .mv (.t 2), none, []⟩,
  ⟨some 14, .build [.bool false, .int .i64 0, .int .i64 0, .int .i64 0, .int .i64 0, .int .i64 0] [(0, 1, .c (.bool true)), (1, 1, .t 13)], none, []⟩,
  ⟨some 15, .call 111 [.t 14], none, []⟩,
  ⟨some 16, .mkrow 6 3 1 [.int .u64 0] [(0, 1, .t 9), (1, 1, .t 12), (2, 1, .t 15)], none, []⟩,
  ⟨some 6, .mv (.t 16), none, []⟩] [6]
theorem r95_1 {C : Cs} {k : List Fr} {s : St} {Q : Post} : run C c95_1 k s Q = run C (.ops [⟨some 7, .mv (.t 0), none, []⟩,
  ⟨some 8, .build [.bool false, .int .i64 0, .int .i64 0, .int .i64 0, .int .i64 0, .int .i64 0] [(3, 1, .t 7), (4, 1, .c (.int .i64 1)), (5, 1, .c (.int .i64 2))], none, []⟩,
  ⟨some 9, .call 111 [.t 8], none, []⟩,
  ⟨some 10, .mv (.t 1), none, []⟩,
  ⟨some 11, .build [.bool false, .int .i64 0, .int .i64 0, .int .i64 0, .int .i64 0, .int .i64 0] [(0, 1, .c (.bool true)), (1, 1, .t 10)], none, []⟩,
  ⟨some 12, .call 111 [.t 11], none, []⟩,
  ⟨some 13, .mv (.t 2), none, []⟩,
  ⟨some 14, .build [.bool false, .int .i64 0, .int .i64 0, .int .i64 0, .int .i64 0, .int .i64 0] [(0, 1, .c (.bool true)), (1, 1, .t 13)], none, []⟩,
  ⟨some 15, .call 111 [.t 14], none, []⟩,
  ⟨some 16, .mkrow 6 3 1 [.int .u64 0] [(0, 1, .t 9), (1, 1, .t 12), (2, 1, .t 15)], none, []⟩,
  ⟨some 6, .mv (.t 16), none, []⟩] [6]) k s Q := rfl
def c95_2 : ACode := .seq c95_1 .ret
theorem r95_2 {C : Cs} {k : List Fr} {s : St} {Q : Post} : run C c95_2 k s Q = run C (.seq c95_1 .ret) k s Q := rfl
def c95_3 : ACode := .seq c95_0 c95_2
theorem r95_3 {C : Cs} {k : List Fr} {s : St} {Q : Post} : run C c95_3 k s Q = run C (.seq c95_0 c95_2) k s Q := rfl
def a95 : AFun := ⟨3, 17, c95_3, [.t 6]⟩
attribute [simp] r95_0 r95_1 r95_2 r95_3
theorem m95 : mFun Try.prog Try.f95 a95 = true := by decide +kernel
/- copse/copselaw8.ModelEdges -/
def c36_0 : ACode := .ops [⟨some 4, .box (.t 0) 4, none, []⟩,
  ⟨some 7, .box (.t 3) 4, none, []⟩,
  ⟨some 8, .mv (.c (.bool false)), none, []⟩] [1, 2, 4, 7]
theorem r36_0 {C : Cs} {k : List Fr} {s : St} {Q : Post} : run C c36_0 k s Q = run C (.ops [⟨some 4, .box (.t 0) 4, none, []⟩,
  ⟨some 7, .box (.t 3) 4, none, []⟩,
  ⟨some 8, .mv (.c (.bool false)), none, []⟩] [1, 2, 4, 7]) k s Q := rfl
def c36_1 : ACode := .ops [⟨some 11, .load 4 true (.t 4), none, [4]⟩,
  ⟨some 12, .call 45 [.t 11], none, []⟩,
  ⟨some 9, .alloc [.int .i64 0, .int .i64 0, .int .i64 0, .int .i64 0, .int .i64 0, .nils], none, []⟩,
  ⟨none, .store (.t 9) 6 (.t 12), none, [9]⟩] [1, 2, 7, 9]
theorem r36_1 {C : Cs} {k : List Fr} {s : St} {Q : Post} : run C c36_1 k s Q = run C (.ops [⟨some 11, .load 4 true (.t 4), none, [4]⟩,
  ⟨some 12, .call 45 [.t 11], none, []⟩,
  ⟨some 9, .alloc [.int .i64 0, .int .i64 0, .int .i64 0, .int .i64 0, .int .i64 0, .nils], none, []⟩,
  ⟨none, .store (.t 9) 6 (.t 12), none, [9]⟩] [1, 2, 7, 9]) k s Q := rfl
def c36_2 : ACode := .ops [⟨some 13, .load 6 true (.t 9), none, [9]⟩,
  ⟨some 14, .call 71 [.t 13], none, [10905]⟩,
  ⟨some 15, .un .not (.t 14), none, []⟩] [1, 2, 7, 9, 15]
theorem r36_2 {C : Cs} {k : List Fr} {s : St} {Q : Post} : run C c36_2 k s Q = run C (.ops [⟨some 13, .load 6 true (.t 9), none, [9]⟩,
  ⟨some 14, .call 71 [.t 13], none, [10905]⟩,
  ⟨some 15, .un .not (.t 14), none, []⟩] [1, 2, 7, 9, 15]) k s Q := rfl
def c36_3 : ACode := .ops [⟨some 8, .mv (.c (.bool false)), none, []⟩] [8]
theorem r36_3 {C : Cs} {k : List Fr} {s : St} {Q : Post} : run C c36_3 k s Q = run C (.ops [⟨some 8, .mv (.c (.bool false)), none, []⟩] [8]) k s Q := rfl
def c36_4 : ACode := .seq c36_3 .ret
theorem r36_4 {C : Cs} {k : List Fr} {s : St} {Q : Post} : run C c36_4 k s Q = run C (.seq c36_3 .ret) k s Q := rfl
def c36_5 : ACode := .cond (.t 15) c36_4 .skip
theorem r36_5 {C : Cs} {k : List Fr} {s : St} {Q : Post} : run C c36_5 k s Q = run C (.cond (.t 15) c36_4 .skip) k s Q := rfl
def c36_6 : ACode := .seq c36_2 c36_5
theorem r36_6 {C : Cs} {k : List Fr} {s : St} {Q : Post} : run C c36_6 k s Q = run C (.seq c36_2 c36_5) k s Q := rfl
def c36_7 : ACode := .ops [⟨some 16, .mv (.t 2), none, []⟩,
  ⟨some 17, .call 63 [.t 16, .c (.int .i64 0), .c (.int .i64 1099511627776)], none, []⟩,
  ⟨some 18, .bin .add (.c (.int .i64 1)) (.t 17), none, []⟩,
  ⟨some 10, .mv (.t 18), none, []⟩] [1, 7, 9, 10]
theorem r36_7 {C : Cs} {k : List Fr} {s : St} {Q : Post} : run C c36_7 k s Q = run C (.ops [⟨some 16, .mv (.t 2), none, []⟩,
  ⟨some 17, .call 63 [.t 16, .c (.int .i64 0), .c (.int .i64 1099511627776)], none, []⟩,
  ⟨some 18, .bin .add (.c (.int .i64 1)) (.t 17), none, []⟩,
  ⟨some 10, .mv (.t 18), none, []⟩] [1, 7, 9, 10]) k s Q := rfl
def c36_8 : ACode := .ops [⟨some 19, .mv (.t 1), none, []⟩,
  ⟨some 20, .call 63 [.t 19, .c (.int .i64 0), .c (.int .i64 7)], none, []⟩] [7, 9, 10, 20]
theorem r36_8 {C : Cs} {k : List Fr} {s : St} {Q : Post} : run C c36_8 k s Q = run C (.ops [⟨some 19, .mv (.t 1), none, []⟩,
  ⟨some 20, .call 63 [.t 19, .c (.int .i64 0), .c (.int .i64 7)], none, []⟩] [7, 9, 10, 20]) k s Q := rfl
def c36_9 : ACode := .ops [⟨some 30, .bin .eql (.t 20) (.c (.int .i64 0)), none, []⟩,
  ⟨some 29, .mv (.t 30), none, []⟩] [7, 9, 10, 20, 29]
theorem r36_9 {C : Cs} {k : List Fr} {s : St} {Q : Post} : run C c36_9 k s Q = run C (.ops [⟨some 30, .bin .eql (.t 20) (.c (.int .i64 0)), none, []⟩,
  ⟨some 29, .mv (.t 30), none, []⟩] [7, 9, 10, 20, 29]) k s Q := rfl
def c36_10 : ACode := .ops [⟨some 31, .mv (.t 10), none, []⟩,
  ⟨some 32, .bin .add (.c (.int .i64 4)) (.t 31), none, []⟩,
  ⟨some 33, .fad (.t 9) 0, none, [9]⟩,
  ⟨none, .store (.t 33) 1 (.t 32), none, [9]⟩] [7, 9]
theorem r36_10 {C : Cs} {k : List Fr} {s : St} {Q : Post} : run C c36_10 k s Q = run C (.ops [⟨some 31, .mv (.t 10), none, []⟩,
  ⟨some 32, .bin .add (.c (.int .i64 4)) (.t 31), none, []⟩,
  ⟨some 33, .fad (.t 9) 0, none, [9]⟩,
  ⟨none, .store (.t 33) 1 (.t 32), none, [9]⟩] [7, 9]) k s Q := rfl
def c36_11 : ACode := .ops [⟨some 35, .bin .eql (.t 20) (.c (.int .i64 1)), none, []⟩,
  ⟨some 34, .mv (.t 35), none, []⟩] [7, 9, 10, 20, 34]
theorem r36_11 {C : Cs} {k : List Fr} {s : St} {Q : Post} : run C c36_11 k s Q = run C (.ops [⟨some 35, .bin .eql (.t 20) (.c (.int .i64 1)), none, []⟩,
  ⟨some 34, .mv (.t 35), none, []⟩] [7, 9, 10, 20, 34]) k s Q := rfl
def c36_12 : ACode := .ops [⟨some 36, .mv (.t 10), none, []⟩,
  ⟨some 37, .bin .sub (.c (.int .i64 1)) (.t 36), none, []⟩,
  ⟨some 38, .fad (.t 9) 0, none, [9]⟩,
  ⟨none, .store (.t 38) 1 (.t 37), none, [9]⟩] [7, 9]
theorem r36_12 {C : Cs} {k : List Fr} {s : St} {Q : Post} : run C c36_12 k s Q = run C (.ops [⟨some 36, .mv (.t 10), none, []⟩,
  ⟨some 37, .bin .sub (.c (.int .i64 1)) (.t 36), none, []⟩,
  ⟨some 38, .fad (.t 9) 0, none, [9]⟩,
  ⟨none, .store (.t 38) 1 (.t 37), none, [9]⟩] [7, 9]) k s Q := rfl
def c36_13 : ACode := .ops [⟨some 40, .bin .eql (.t 20) (.c (.int .i64 2)), none, []⟩,
  ⟨some 39, .mv (.t 40), none, []⟩] [7, 9, 10, 20, 39]
theorem r36_13 {C : Cs} {k : List Fr} {s : St} {Q : Post} : run C c36_13 k s Q = run C (.ops [⟨some 40, .bin .eql (.t 20) (.c (.int .i64 2)), none, []⟩,
  ⟨some 39, .mv (.t 40), none, []⟩] [7, 9, 10, 20, 39]) k s Q := rfl
def c36_14 : ACode := .ops [⟨some 41, .mv (.t 10), none, []⟩,
  ⟨some 42, .bin .add (.c (.int .i64 3)) (.t 41), none, []⟩,
  ⟨some 43, .fad (.t 9) 1, none, [9]⟩,
  ⟨none, .store (.t 43) 1 (.t 42), none, [9]⟩] [7, 9]
theorem r36_14 {C : Cs} {k : List Fr} {s : St} {Q : Post} : run C c36_14 k s Q = run C (.ops [⟨some 41, .mv (.t 10), none, []⟩,
  ⟨some 42, .bin .add (.c (.int .i64 3)) (.t 41), none, []⟩,
  ⟨some 43, .fad (.t 9) 1, none, [9]⟩,
  ⟨none, .store (.t 43) 1 (.t 42), none, [9]⟩] [7, 9]) k s Q := rfl
def c36_15 : ACode := .ops [⟨some 45, .bin .eql (.t 20) (.c (.int .i64 3)), none, []⟩,
  ⟨some 44, .mv (.t 45), none, []⟩] [7, 9, 10, 20, 44]
theorem r36_15 {C : Cs} {k : List Fr} {s : St} {Q : Post} : run C c36_15 k s Q = run C (.ops [⟨some 45, .bin .eql (.t 20) (.c (.int .i64 3)), none, []⟩,
  ⟨some 44, .mv (.t 45), none, []⟩] [7, 9, 10, 20, 44]) k s Q := rfl
def c36_16 : ACode := .ops [⟨some 46, .mv (.t 10), none, []⟩,
  ⟨some 47, .bin .sub (.c (.int .i64 1)) (.t 46), none, []⟩,
  ⟨some 48, .fad (.t 9) 1, none, [9]⟩,
  ⟨none, .store (.t 48) 1 (.t 47), none, [9]⟩] [7, 9]
theorem r36_16 {C : Cs} {k : List Fr} {s : St} {Q : Post} : run C c36_16 k s Q = run C (.ops [⟨some 46, .mv (.t 10), none, []⟩,
  ⟨some 47, .bin .sub (.c (.int .i64 1)) (.t 46), none, []⟩,
  ⟨some 48, .fad (.t 9) 1, none, [9]⟩,
  ⟨none, .store (.t 48) 1 (.t 47), none, [9]⟩] [7, 9]) k s Q := rfl
def c36_17 : ACode := .ops [⟨some 50, .bin .eql (.t 20) (.c (.int .i64 4)), none, []⟩,
  ⟨some 49, .mv (.t 50), none, []⟩] [7, 9, 10, 20, 49]
theorem r36_17 {C : Cs} {k : List Fr} {s : St} {Q : Post} : run C c36_17 k s Q = run C (.ops [⟨some 50, .bin .eql (.t 20) (.c (.int .i64 4)), none, []⟩,
  ⟨some 49, .mv (.t 50), none, []⟩] [7, 9, 10, 20, 49]) k s Q := rfl
def c36_18 : ACode := .ops [⟨some 51, .mv (.t 10), none, []⟩,
  ⟨some 52, .bin .add (.c (.int .i64 2147483647)) (.t 51), none, []⟩,
  ⟨some 53, .fad (.t 9) 2, none, [9]⟩,
  ⟨some 54, .iad (.t 53) (.c (.int .i64 0)) 1 3, none, [9]⟩,
  ⟨none, .store (.t 54) 1 (.t 52), none, [9]⟩] [7, 9]
theorem r36_18 {C : Cs} {k : List Fr} {s : St} {Q : Post} : run C c36_18 k s Q = run C (.ops [⟨some 51, .mv (.t 10), none, []⟩,
  ⟨some 52, .bin .add (.c (.int .i64 2147483647)) (.t 51), none, []⟩,
  ⟨some 53, .fad (.t 9) 2, none, [9]⟩,
  ⟨some 54, .iad (.t 53) (.c (.int .i64 0)) 1 3, none, [9]⟩,
  ⟨none, .store (.t 54) 1 (.t 52), none, [9]⟩] [7, 9]) k s Q := rfl
def c36_19 : ACode := .ops [⟨some 56, .bin .eql (.t 20) (.c (.int .i64 5)), none, []⟩,
  ⟨some 55, .mv (.t 56), none, []⟩] [7, 9, 10, 20, 55]
theorem r36_19 {C : Cs} {k : List Fr} {s : St} {Q : Post} : run C c36_19 k s Q = run C (.ops [⟨some 56, .bin .eql (.t 20) (.c (.int .i64 5)), none, []⟩,
  ⟨some 55, .mv (.t 56), none, []⟩] [7, 9, 10, 20, 55]) k s Q := rfl
def c36_20 : ACode := .ops [⟨some 57, .fad (.t 9) 1, none, [9]⟩,
  ⟨none, .store (.t 57) 1 (.c (.int .i64 1)), none, [9]⟩] [7, 9, 10]
theorem r36_20 {C : Cs} {k : List Fr} {s : St} {Q : Post} : run C c36_20 k s Q = run C (.ops [⟨some 57, .fad (.t 9) 1, none, [9]⟩,
  ⟨none, .store (.t 57) 1 (.c (.int .i64 1)), none, [9]⟩] [7, 9, 10]) k s Q := rfl
def c36_21 : ACode := .ops [⟨some 58, .mv (.t 10), none, []⟩,
  ⟨some 59, .build [.int .i64 0, .int .i64 0, .int .i64 0] [(0, 1, .c (.int .i64 0)), (1, 1, .t 58)], none, []⟩,
  ⟨some 60, .fad (.t 9) 2, none, [9]⟩,
  ⟨none, .store (.t 60) 3 (.t 59), none, [9]⟩] [7, 9]
theorem r36_21 {C : Cs} {k : List Fr} {s : St} {Q : Post} : run C c36_21 k s Q = run C (.ops [⟨some 58, .mv (.t 10), none, []⟩,
  ⟨some 59, .build [.int .i64 0, .int .i64 0, .int .i64 0] [(0, 1, .c (.int .i64 0)), (1, 1, .t 58)], none, []⟩,
  ⟨some 60, .fad (.t 9) 2, none, [9]⟩,
  ⟨none, .store (.t 60) 3 (.t 59), none, [9]⟩] [7, 9]) k s Q := rfl
def c36_22 : ACode := .seq c36_20 c36_21
theorem r36_22 {C : Cs} {k : List Fr} {s : St} {Q : Post} : run C c36_22 k s Q = run C (.seq c36_20 c36_21) k s Q := rfl
def c36_23 : ACode := .ops [⟨some 62, .bin .eql (.t 20) (.c (.int .i64 6)), none, []⟩,
  ⟨some 61, .mv (.t 62), none, []⟩] [7, 9, 10, 61]
theorem r36_23 {C : Cs} {k : List Fr} {s : St} {Q : Post} : run C c36_23 k s Q = run C (.ops [⟨some 62, .bin .eql (.t 20) (.c (.int .i64 6)), none, []⟩,
  ⟨some 61, .mv (.t 62), none, []⟩] [7, 9, 10, 61]) k s Q := rfl
def c36_24 : ACode := .ops [⟨some 63, .mkrow 63 0 2 [.int .i64 0, .nils] [], none, []⟩,
  ⟨some 64, .fad (.t 9) 5, none, [9]⟩,
  ⟨some 65, .load 1 false (.t 64), none, [9]⟩,
  ⟨some 66, .app 66 [63] (.t 63) (.t 65) 2, none, [63, 10905]⟩,
  ⟨some 67, .fad (.t 9) 1, none, [9]⟩,
  ⟨some 68, .load 1 false (.t 67), none, [9]⟩,
  ⟨some 69, .bin .sub (.t 68) (.c (.int .i64 1)), none, []⟩,
  ⟨some 70, .mv (.t 10), none, []⟩,
  ⟨some 71, .bin .add (.t 69) (.t 70), none, []⟩,
  ⟨some 72, .call 95 [.c (.int .i64 1), .c (.int .i64 2), .c (.int .i64 3)], none, []⟩,
  ⟨some 73, .build [.int .i64 0, .nils] [(0, 1, .t 71), (1, 1, .t 72)], none, []⟩,
  ⟨some 74, .mkrow 74 1 2 [.int .i64 0, .nils] [(0, 2, .t 73)], none, []⟩,
  ⟨some 75, .app 10905 [66] (.t 66) (.t 74) 2, none, [66, 74]⟩,
  ⟨some 76, .fad (.t 9) 5, none, [9]⟩,
  ⟨none, .store (.t 76) 1 (.t 75), none, [9]⟩] [7, 9]
theorem r36_24 {C : Cs} {k : List Fr} {s : St} {Q : Post} : run C c36_24 k s Q = run C (.ops [⟨some 63, .mkrow 63 0 2 [.int .i64 0, .nils] [], none, []⟩,
  ⟨some 64, .fad (.t 9) 5, none, [9]⟩,
  ⟨some 65, .load 1 false (.t 64), none, [9]⟩,
  ⟨some 66, .app 66 [63] (.t 63) (.t 65) 2, none, [63, 10905]⟩,
  ⟨some 67, .fad (.t 9) 1, none, [9]⟩,
  ⟨some 68, .load 1 false (.t 67), none, [9]⟩,
  ⟨some 69, .bin .sub (.t 68) (.c (.int .i64 1)), none, []⟩,
  ⟨some 70, .mv (.t 10), none, []⟩,
  ⟨some 71, .bin .add (.t 69) (.t 70), none, []⟩,
  ⟨some 72, .call 95 [.c (.int .i64 1), .c (.int .i64 2), .c (.int .i64 3)], none, []⟩,
  ⟨some 73, .build [.int .i64 0, .nils] [(0, 1, .t 71), (1, 1, .t 72)], none, []⟩,
  ⟨some 74, .mkrow 74 1 2 [.int .i64 0, .nils] [(0, 2, .t 73)], none, []⟩,
  ⟨some 75, .app 10905 [66] (.t 66) (.t 74) 2, none, [66, 74]⟩,
  ⟨some 76, .fad (.t 9) 5, none, [9]⟩,
  ⟨none, .store (.t 76) 1 (.t 75), none, [9]⟩] [7, 9]) k s Q := rfl
def c36_25 : ACode := .ops [⟨some 21, .mkrow 21 0 2 [.int .i64 0, .nils] [], none, []⟩,
  ⟨some 22, .fad (.t 9) 5, none, [9]⟩,
  ⟨some 23, .load 1 false (.t 22), none, [9]⟩,
  ⟨some 24, .app 24 [21] (.t 21) (.t 23) 2, none, [21, 10905]⟩,
  ⟨some 25, .build [.int .i64 0, .nils] [], none, []⟩,
  ⟨some 26, .mkrow 26 1 2 [.int .i64 0, .nils] [(0, 2, .t 25)], none, []⟩,
  ⟨some 27, .app 10905 [24] (.t 24) (.t 26) 2, none, [24, 26]⟩,
  ⟨some 28, .fad (.t 9) 5, none, [9]⟩,
  ⟨none, .store (.t 28) 1 (.t 27), none, [9]⟩] [7, 9]
theorem r36_25 {C : Cs} {k : List Fr} {s : St} {Q : Post} : run C c36_25 k s Q = run C (.ops [⟨some 21, .mkrow 21 0 2 [.int .i64 0, .nils] [], none, []⟩,
  ⟨some 22, .fad (.t 9) 5, none, [9]⟩,
  ⟨some 23, .load 1 false (.t 22), none, [9]⟩,
  ⟨some 24, .app 24 [21] (.t 21) (.t 23) 2, none, [21, 10905]⟩,
  ⟨some 25, .build [.int .i64 0, .nils] [], none, []⟩,
  ⟨some 26, .mkrow 26 1 2 [.int .i64 0, .nils] [(0, 2, .t 25)], none, []⟩,
  ⟨some 27, .app 10905 [24] (.t 24) (.t 26) 2, none, [24, 26]⟩,
  ⟨some 28, .fad (.t 9) 5, none, [9]⟩,
  ⟨none, .store (.t 28) 1 (.t 27), none, [9]⟩] [7, 9]) k s Q := rfl
def c36_26 : ACode := .cond (.t 61) c36_24 c36_25
theorem r36_26 {C : Cs} {k : List Fr} {s : St} {Q : Post} : run C c36_26 k s Q = run C (.cond (.t 61) c36_24 c36_25) k s Q := rfl
def c36_27 : ACode := .seq c36_23 c36_26
theorem r36_27 {C : Cs} {k : List Fr} {s : St} {Q : Post} : run C c36_27 k s Q = run C (.seq c36_23 c36_26) k s Q := rfl
def c36_28 : ACode := .cond (.t 55) c36_22 c36_27
theorem r36_28 {C : Cs} {k : List Fr} {s : St} {Q : Post} : run C c36_28 k s Q = run C (.cond (.t 55) c36_22 c36_27) k s Q := rfl
def c36_29 : ACode := .seq c36_19 c36_28
theorem r36_29 {C : Cs} {k : List Fr} {s : St} {Q : Post} : run C c36_29 k s Q = run C (.seq c36_19 c36_28) k s Q := rfl
def c36_30 : ACode := .cond (.t 49) c36_18 c36_29
theorem r36_30 {C : Cs} {k : List Fr} {s : St} {Q : Post} : run C c36_30 k s Q = run C (.cond (.t 49) c36_18 c36_29) k s Q := rfl
def c36_31 : ACode := .seq c36_17 c36_30
theorem r36_31 {C : Cs} {k : List Fr} {s : St} {Q : Post} : run C c36_31 k s Q = run C (.seq c36_17 c36_30) k s Q := rfl
def c36_32 : ACode := .cond (.t 44) c36_16 c36_31
theorem r36_32 {C : Cs} {k : List Fr} {s : St} {Q : Post} : run C c36_32 k s Q = run C (.cond (.t 44) c36_16 c36_31) k s Q := rfl
def c36_33 : ACode := .seq c36_15 c36_32
theorem r36_33 {C : Cs} {k : List Fr} {s : St} {Q : Post} : run C c36_33 k s Q = run C (.seq c36_15 c36_32) k s Q := rfl
def c36_34 : ACode := .cond (.t 39) c36_14 c36_33
theorem r36_34 {C : Cs} {k : List Fr} {s : St} {Q : Post} : run C c36_34 k s Q = run C (.cond (.t 39) c36_14 c36_33) k s Q := rfl
def c36_35 : ACode := .seq c36_13 c36_34
theorem r36_35 {C : Cs} {k : List Fr} {s : St} {Q : Post} : run C c36_35 k s Q = run C (.seq c36_13 c36_34) k s Q := rfl
def c36_36 : ACode := .cond (.t 34) c36_12 c36_35
theorem r36_36 {C : Cs} {k : List Fr} {s : St} {Q : Post} : run C c36_36 k s Q = run C (.cond (.t 34) c36_12 c36_35) k s Q := rfl
def c36_37 : ACode := .seq c36_11 c36_36
theorem r36_37 {C : Cs} {k : List Fr} {s : St} {Q : Post} : run C c36_37 k s Q = run C (.seq c36_11 c36_36) k s Q := rfl
def c36_38 : ACode := .cond (.t 29) c36_10 c36_37
theorem r36_38 {C : Cs} {k : List Fr} {s : St} {Q : Post} : run C c36_38 k s Q = run C (.cond (.t 29) c36_10 c36_37) k s Q := rfl
def c36_39 : ACode := .seq c36_9 c36_38
theorem r36_39 {C : Cs} {k : List Fr} {s : St} {Q : Post} : run C c36_39 k s Q = run C (.seq c36_9 c36_38) k s Q := rfl
def c36_40 : ACode := .block 0 c36_39
theorem r36_40 {C : Cs} {k : List Fr} {s : St} {Q : Post} : run C c36_40 k s Q = run C (.block 0 c36_39) k s Q := rfl
def c36_41 : ACode := .seq c36_8 c36_40
theorem r36_41 {C : Cs} {k : List Fr} {s : St} {Q : Post} : run C c36_41 k s Q = run C (.seq c36_8 c36_40) k s Q := rfl
def c36_42 : ACode := .ops [⟨some 77, .load 6 true (.t 9), none, [9]⟩,
  ⟨some 78, .call 71 [.t 77], none, [10905]⟩,
  ⟨some 79, .un .not (.t 78), none, []⟩,
  ⟨some 80, .mv (.t 79), none, []⟩,
  ⟨some 81, .load 6 true (.t 9), some (80, true), [9]⟩,
  ⟨some 82, .load 4 true (.t 7), some (80, true), [7]⟩,
  ⟨some 83, .call 69 [.t 81, .c (.int .i64 0), .t 82], some (80, true), [10905]⟩,
  ⟨some 84, .bin .eql (.t 83) (.c (.int .i64 0)), some (80, true), []⟩,
  ⟨some 85, .pick (.t 80) (.t 84) (.c (.bool false)), none, []⟩,
  ⟨some 86, .mv (.t 85), none, []⟩,
  ⟨some 87, .load 6 true (.t 9), some (86, true), [9]⟩,
  ⟨some 88, .call 96 [.t 87, .c (.int .i64 0)], some (86, true), [10905]⟩,
  ⟨some 89, .len (.t 88), some (86, true), []⟩,
  ⟨some 90, .bin .eql (.t 89) (.c (.int .i64 0)), some (86, true), []⟩,
  ⟨some 91, .pick (.t 86) (.t 90) (.c (.bool false)), none, []⟩,
  ⟨some 92, .mv (.t 91), none, []⟩,
  ⟨some 93, .call 31 [], some (92, true), []⟩,
  ⟨some 94, .pick (.t 92) (.t 93) (.c (.bool false)), none, []⟩,
  ⟨some 8, .mv (.t 94), none, []⟩] [8]
theorem r36_42 {C : Cs} {k : List Fr} {s : St} {Q : Post} : run C c36_42 k s Q = run C (.ops [⟨some 77, .load 6 true (.t 9), none, [9]⟩,
  ⟨some 78, .call 71 [.t 77], none, [10905]⟩,
  ⟨some 79, .un .not (.t 78), none, []⟩,
  ⟨some 80, .mv (.t 79), none, []⟩,
  ⟨some 81, .load 6 true (.t 9), some (80, true), [9]⟩,
  ⟨some 82, .load 4 true (.t 7), some (80, true), [7]⟩,
  ⟨some 83, .call 69 [.t 81, .c (.int .i64 0), .t 82], some (80, true), [10905]⟩,
  ⟨some 84, .bin .eql (.t 83) (.c (.int .i64 0)), some (80, true), []⟩,
  ⟨some 85, .pick (.t 80) (.t 84) (.c (.bool false)), none, []⟩,
  ⟨some 86, .mv (.t 85), none, []⟩,
  ⟨some 87, .load 6 true (.t 9), some (86, true), [9]⟩,
  ⟨some 88, .call 96 [.t 87, .c (.int .i64 0)], some (86, true), [10905]⟩,
  ⟨some 89, .len (.t 88), some (86, true), []⟩,
  ⟨some 90, .bin .eql (.t 89) (.c (.int .i64 0)), some (86, true), []⟩,
  ⟨some 91, .pick (.t 86) (.t 90) (.c (.bool false)), none, []⟩,
  ⟨some 92, .mv (.t 91), none, []⟩,
  ⟨some 93, .call 31 [], some (92, true), []⟩,
  ⟨some 94, .pick (.t 92) (.t 93) (.c (.bool false)), none, []⟩,
  ⟨some 8, .mv (.t 94), none, []⟩] [8]) k s Q := rfl
def c36_43 : ACode := .seq c36_42 .ret
theorem r36_43 {C : Cs} {k : List Fr} {s : St} {Q : Post} : run C c36_43 k s Q = run C (.seq c36_42 .ret) k s Q := rfl
def c36_44 : ACode := .seq c36_41 c36_43
theorem r36_44 {C : Cs} {k : List Fr} {s : St} {Q : Post} : run C c36_44 k s Q = run C (.seq c36_41 c36_43) k s Q := rfl
def c36_45 : ACode := .seq c36_7 c36_44
theorem r36_45 {C : Cs} {k : List Fr} {s : St} {Q : Post} : run C c36_45 k s Q = run C (.seq c36_7 c36_44) k s Q := rfl
def c36_46 : ACode := .seq c36_6 c36_45
theorem r36_46 {C : Cs} {k : List Fr} {s : St} {Q : Post} : run C c36_46 k s Q = run C (.seq c36_6 c36_45) k s Q := rfl
def c36_47 : ACode := .seq c36_1 c36_46
theorem r36_47 {C : Cs} {k : List Fr} {s : St} {Q : Post} : run C c36_47 k s Q = run C (.seq c36_1 c36_46) k s Q := rfl
def c36_48 : ACode := .seq c36_0 c36_47
theorem r36_48 {C : Cs} {k : List Fr} {s : St} {Q : Post} : run C c36_48 k s Q = run C (.seq c36_0 c36_47) k s Q := rfl
def a36 : AFun := ⟨4, 95, c36_48, [.t 8]⟩
attribute [simp] r36_0 r36_1 r36_2 r36_3 r36_4 r36_5 r36_6 r36_7 r36_8 r36_9 r36_10 r36_11 r36_12 r36_13 r36_14 r36_15 r36_16 r36_17 r36_18 r36_19 r36_20 r36_21 r36_22 r36_23 r36_24 r36_25 r36_26 r36_27 r36_28 r36_29 r36_30 r36_31 r36_32 r36_33 r36_34 r36_35 r36_36 r36_37 r36_38 r36_39 r36_40 r36_41 r36_42 r36_43 r36_44 r36_45 r36_46 r36_47 r36_48
theorem m36 : mFun Try.prog Try.f36 a36 = true := by decide +kernel

/- copse/copselaw8.ModelRuns -/
def c31_0 : ACode := .ops [⟨some 0, .mv (.c (.bool false)), none, []⟩] []
def c31_1 : ACode := .ops [⟨some 2, .build [.int .i64 0, .int .i64 0, .int .i64 0] [(0, 1, .c (.int .i64 3))], none, []⟩,
  ⟨some 3, .call 95 [.c (.int .i64 5), .c (.int .i64 10), .c (.int .i64 20)], none, []⟩,
  ⟨some 4, .build [.int .i64 0, .nils] [(1, 1, .t 3)], none, []⟩,
  ⟨some 5, .mkrow 5 1 2 [.int .i64 0, .nils] [(0, 2, .t 4)], none, []⟩,
  ⟨some 6, .build [.int .i64 0, .int .i64 0, .int .i64 0, .int .i64 0, .int .i64 0, .nils] [(0, 1, .c (.int .i64 1)), (1, 1, .c (.int .i64 1)), (2, 3, .t 2), (5, 1, .t 5)], none, []⟩,
  ⟨some 1, .alloc [.int .i64 0, .int .i64 0, .int .i64 0, .int .i64 0, .int .i64 0, .nils], none, []⟩,
  ⟨none, .store (.t 1) 6 (.t 6), none, [1]⟩] [1]
def c31_2 : ACode := .ops [⟨some 7, .load 6 true (.t 1), none, [1]⟩,
  ⟨some 8, .call 71 [.t 7], none, [5]⟩,
  ⟨some 9, .mv (.t 8), none, []⟩,
  ⟨some 10, .load 6 true (.t 1), some (9, true), [1]⟩,
  ⟨some 11, .build [.int .i64 0, .int .i64 0, .int .i64 0, .int .i64 0] [(0, 1, .c (.int .i64 5))], some (9, true), []⟩,
  ⟨some 12, .call 69 [.t 10, .c (.int .i64 0), .t 11], some (9, true), [5]⟩,
  ⟨some 13, .bin .eql (.t 12) (.c (.int .i64 13)), some (9, true), []⟩,
  ⟨some 14, .pick (.t 9) (.t 13) (.c (.bool false)), none, []⟩,
  ⟨some 15, .mv (.t 14), none, []⟩,
  ⟨some 16, .load 6 true (.t 1), some (15, true), [1]⟩,
  ⟨some 17, .build [.int .i64 0, .int .i64 0, .int .i64 0, .int .i64 0] [(0, 1, .c (.int .i64 6))], some (15, true), []⟩,
  ⟨some 18, .call 69 [.t 16, .c (.int .i64 0), .t 17], some (15, true), [5]⟩,
  ⟨some 19, .bin .eql (.t 18) (.c (.int .i64 23)), some (15, true), []⟩,
  ⟨some 20, .pick (.t 15) (.t 19) (.c (.bool false)), none, []⟩,
  ⟨some 21, .mv (.t 20), none, []⟩,
  ⟨some 22, .load 6 true (.t 1), some (21, true), [1]⟩,
  ⟨some 23, .call 96 [.t 22, .c (.int .i64 0)], some (21, true), [5]⟩,
  ⟨some 24, .mkrow 24 1 1 [.int .i64 0] [(0, 1, .c (.int .i64 5))], some (21, true), []⟩,
  ⟨some 25, .call 83 [.t 23, .t 24], some (21, true), [24]⟩,
  ⟨some 26, .pick (.t 21) (.t 25) (.c (.bool false)), none, []⟩,
  ⟨some 27, .mv (.t 26), none, []⟩,
  ⟨some 28, .load 6 true (.t 1), some (27, true), [1]⟩,
  ⟨some 29, .call 72 [.t 28], some (27, true), [5]⟩,
  ⟨some 30, .bin .eql (.t 29) (.c (.int .i64 3)), some (27, true), []⟩,
  ⟨some 31, .pick (.t 27) (.t 30) (.c (.bool false)), none, []⟩,
  ⟨some 32, .mv (.t 31), none, []⟩,
  ⟨some 33, .load 6 true (.t 1), some (32, true), [1]⟩,
  ⟨some 34, .build [.int .i64 0, .int .i64 0, .int .i64 0, .int .i64 0] [], some (32, true), []⟩,
  ⟨some 35, .call 78 [.t 33, .t 34], some (32, true), [5]⟩,
  ⟨some 36, .bin .eql (.t 35) (.c (.int .i64 0)), some (32, true), []⟩,
  ⟨some 37, .pick (.t 32) (.t 36) (.c (.bool false)), none, []⟩,
  ⟨some 0, .mv (.t 37), none, []⟩] [0]
def c31_3 : ACode := .seq c31_2 .ret
def c31_4 : ACode := .seq c31_1 c31_3
def c31_5 : ACode := .seq c31_0 c31_4
def a31 : AFun := ⟨0, 38, c31_5, [.t 0]⟩
theorem m31 : mFun Try.prog Try.f31 a31 = true := by decide +kernel
/- copse/copsebook.Same[int] -/
def c83_0 : ACode := .ops [⟨some 4, .mv (.c (.bool false)), none, []⟩] [0, 1]
def c83_1 : ACode := .ops [⟨some 6, .mv (.t 0), none, []⟩,
  ⟨some 7, .len (.t 6), none, []⟩,
  ⟨some 8, .mv (.t 1), none, []⟩,
  ⟨some 9, .len (.t 8), none, []⟩,
  ⟨some 10, .bin .neq (.t 7) (.t 9), none, []⟩] [0, 1, 10]
def c83_2 : ACode := .ops [⟨some 4, .mv (.c (.bool false)), none, []⟩] [4]
def c83_3 : ACode := .seq c83_2 .ret
def c83_4 : ACode := .cond (.t 10) c83_3 .skip
def c83_5 : ACode := .seq c83_1 c83_4
def c83_6 : ACode := .ops [⟨some 5, .mv (.c (.int .i64 0)), none, []⟩] [0, 1, 5]
def c83_7 : ACode := .ops [⟨some 11, .mv (.t 5), none, []⟩,
  ⟨some 12, .mv (.t 0), none, []⟩,
  ⟨some 13, .len (.t 12), none, []⟩,
  ⟨some 14, .bin .lss (.t 11) (.t 13), none, []⟩] [0, 1, 5, 14]
def c83_8 : ACode := .cond (.t 14) .skip (.exit 0)
def c83_9 : ACode := .seq c83_7 c83_8
def c83_10 : ACode := .ops [⟨some 17, .mv (.t 0), none, []⟩,
  ⟨some 18, .mv (.t 5), none, []⟩,
  ⟨some 19, .ias (.t 17) (.t 18) 1, none, []⟩,
  ⟨some 20, .load 1 false (.t 19), none, []⟩,
  ⟨some 21, .mv (.t 1), none, []⟩,
  ⟨some 22, .mv (.t 5), none, []⟩,
  ⟨some 23, .ias (.t 21) (.t 22) 1, none, []⟩,
  ⟨some 24, .load 1 false (.t 23), none, []⟩,
  ⟨some 25, .bin .neq (.t 20) (.t 24), none, []⟩] [0, 1, 5, 25]
def c83_11 : ACode := .ops [⟨some 4, .mv (.c (.bool false)), none, []⟩] [4]
def c83_12 : ACode := .seq c83_11 .ret
def c83_13 : ACode := .cond (.t 25) c83_12 .skip
def c83_14 : ACode := .seq c83_10 c83_13
def c83_15 : ACode := .block 1 c83_14
def c83_16 : ACode := .ops [⟨some 15, .mv (.t 5), none, []⟩,
  ⟨some 16, .bin .add (.t 15) (.c (.int .i64 1)), none, []⟩,
  ⟨some 5, .mv (.t 16), none, []⟩] [0, 1, 5]
def c83_17 : ACode := .seq c83_15 c83_16
def c83_18 : ACode := .seq c83_9 c83_17
def c83_19 : ACode := .keep [0, 1, 5] [] c83_18
def c83_20 : ACode := .loop c83_19
def c83_21 : ACode := .block 0 c83_20
def c83_22 : ACode := .seq c83_6 c83_21
def c83_23 : ACode := .ops [⟨some 4, .mv (.c (.bool true)), none, []⟩] [4]
def c83_24 : ACode := .seq c83_23 .ret
def c83_25 : ACode := .seq c83_22 c83_24
def c83_26 : ACode := .seq c83_5 c83_25
def c83_27 : ACode := .seq c83_0 c83_26
def a83 : AFun := ⟨2, 26, c83_27, [.t 4]⟩
theorem m83 : mFun Try.prog Try.f83 a83 = true := by decide +kernel
def texts31 : List (Nat × AFun) := [(31, a31), (69, a69), (71, a71), (72, a72), (76, a76), (77, a77), (78, a78), (83, a83), (95, a95), (96, a96), (99, a99), (111, a111), (119, a119), (122, a122), (123, a123), (124, a124), (125, a125), (128, a128), (129, a129), (130, a130), (131, a131), (148, a148), (156, a156), (160, a160), (161, a161), (162, a162), (163, a163), (164, a164), (165, a165), (176, a176)]
theorem texts31_good : Go.Am.Good Try.prog texts31 :=
  good_cons Try.func31 m31 <| good_cons Try.func69 m69 <| good_cons Try.func71 m71 <| good_cons Try.func72 m72 <| good_cons Try.func76 m76 <| good_cons Try.func77 m77 <| good_cons Try.func78 m78 <| good_cons Try.func83 m83 <| good_cons Try.func95 m95 <| good_cons Try.func96 m96 <| good_cons Try.func99 m99 <| good_cons Try.func111 m111 <| good_cons Try.func119 m119 <| good_cons Try.func122 m122 <| good_cons Try.func123 m123 <| good_cons Try.func124 m124 <| good_cons Try.func125 m125 <| good_cons Try.func128 m128 <| good_cons Try.func129 m129 <| good_cons Try.func130 m130 <| good_cons Try.func131 m131 <| good_cons Try.func148 m148 <| good_cons Try.func156 m156 <| good_cons Try.func160 m160 <| good_cons Try.func161 m161 <| good_cons Try.func162 m162 <| good_cons Try.func163 m163 <| good_cons Try.func164 m164 <| good_cons Try.func165 m165 <| good_cons Try.func176 m176 <| good_nil
theorem c_closed31 : Contract Try.prog 31 (sp0 (some true)) := contract_closedG mixed texts31_good lib (NW := fun f => if f = 96 then some 5 else if f = 127 then some 10001 else none) (m := 2000) (n := 80) (by decide +kernel)


def threeL (at_ a b : Int) : List Word := [pack ⟨false, 0, 0, at_, 1, 2⟩, pack ⟨true, a, 0, 0, 0, 0⟩, pack ⟨true, b, 0, 0, 0, 0⟩]
theorem runs_three (at_ a b : Int) (r : List Word) (h : some (threeL at_ a b) = some r) : Runs (tbl [(111, sp1 fun n => some (pack n))]) a95 [Arg.enc at_, Arg.enc a, Arg.enc b] (Arg.enc r) := by
  cases h
  refine ⟨rfl, fun g => run_def ?_⟩
  unfold a95
  simp -implicitDefEqProofs [threeL]
  rfl
theorem c_three : Contract Try.prog 95 (sp3 fun (x y z : Int) => some (threeL x y z)) :=
  contract_of_runs mixed (tbl_cons c_rPack tbl_nil) Try.func95 m95 (sp3_runs runs_three)
theorem threeL_ok (x y z : Int) : okL (threeL x y z) ∧ (threeL x y z).length ≤ maxN := by
  refine ⟨fun w hw => ?_, by unfold maxN; simp [threeL]⟩
  unfold threeL at hw
  simp only [List.mem_cons, List.not_mem_nil, or_false] at hw
  rcases hw with rfl | rfl | rfl <;> exact pack_okW _

theorem bad3 {m : Model} (hw : okMW m) (hn : ¬ RM m) (p : Point) : MRightT m = some false ∧ EvalT m 0 p = some 0 ∧ ThrT m 0 = some [] := by
  have h := rightM_false.2 hn
  refine ⟨?_, ?_, ?_⟩
  · unfold MRightT; rw [part_of hw, h]
  · unfold EvalT; rw [part_of hw, h]; rfl
  · unfold ThrT; rw [part_of hw, h]; rfl
theorem okMW_add {m : Model} (h : RM m) {t : Tree} (ht : okTW t) : okMW ⟨m.dim, m.classes, m.bias, m.trees ++ [t]⟩ := by
  have hw := h.okMW
  refine ⟨by have := h.trees; unfold maxN; simp; omega, fun x hx => ?_⟩
  simp only [List.mem_append, List.mem_singleton] at hx
  rcases hx with hx | rfl
  · exact hw.2 x hx
  · exact ht
theorem within_8 {n : Int} : within n 0 7 = 0 ∨ within n 0 7 = 1 ∨ within n 0 7 = 2 ∨ within n 0 7 = 3 ∨ within n 0 7 = 4 ∨ within n 0 7 = 5 ∨ within n 0 7 = 6 ∨ within n 0 7 = 7 := by
  have := within_le n 0 7 (by omega)
  omega

theorem pure1_plain {s : St} {fp : List Nat} {m : Nat} (x : AV) (h : x.plain = true) : pure1 s fp (m + 1) x = some (x, []) := by cases x <;> first | rfl | cases h
theorem mapO_plain {s : St} {fp : List Nat} {m : Nat} : ∀ {xs : List AV}, xs.all AV.plain = true → mapO (pure1 s fp (m + 1)) xs = some (xs, [])
  | [], _ => rfl
  | x :: xs, h => by
    simp only [List.all_cons, Bool.and_eq_true] at h
    simp only [mapO, pure1_plain x h.1, mapO_plain h.2]
    rfl
theorem mapO_append {f : AV → Option (AV × List Nat)} {b b' : List AV} (hb : mapO f b = some (b', [])) : ∀ {a : List AV}, mapO f a = some (a, []) → mapO f (a ++ b) = some (a ++ b', [])
  | [], _ => hb
  | x :: a, h => by
    simp only [mapO] at h
    split at h
    · rename_i v g vs gs h1 h2
      simp only [Option.some.injEq, Prod.mk.injEq, List.cons.injEq, List.append_eq_nil_iff] at h
      obtain ⟨⟨rfl, rfl⟩, rfl, rfl⟩ := h
      simp only [List.cons_append, mapO, h1, mapO_append hb h2]
      rfl
    · cases h

set_option maxHeartbeats 8000000 in
set_option maxRecDepth 8000 in
theorem runs_law (f : Forest) (what by_ : Int) (p : Point) (c : Bool) (h : some true = some c) : Runs (tbl [(45, sp1 ModelC), (71, sp1 MRightT), (63, sp3 Within), (95, sp3 fun (x y z : Int) => some (threeL x y z)), (69, sp3 EvalT), (96, sp2 ThrT), (31, sp0 (some true))]) a36 [Arg.enc f, Arg.enc what, Arg.enc by_, Arg.enc p] (Arg.enc c) := by
  cases h
  refine ⟨rfl, fun g => run_def ?_⟩
  unfold a36
  have hm := rm_modelOf f
  have hM : ModelC f = some (modelOf f) := rfl
  generalize modelOf f = m at *
  have hd := hm.dim
  have hk := hm.classes
  have hle := hm.trees
  have hR : MRightT m = some true := by unfold MRightT; rw [part_of hm.okMW, rightM_true.2 hm]
  have hW := within_of by_ 0 1099511627776 (by omega)
  have hw := within_le by_ 0 1099511627776 (by omega)
  generalize within by_ 0 1099511627776 = q at *
  have w0 : IntKind.i64.wrap (1 + q) = 1 + q := wrap64 (by omega) (by omega)
  have hW2 := within_of what 0 7 (by omega)
  have hokm := hm.okMW
  rcases (within_8 (n := what)) with e | e | e | e | e | e | e | e <;> rw [e] at hW2
  · have w1 : IntKind.i64.wrap (4 + (1 + q)) = 4 + (1 + q) := wrap64 (by omega) (by omega)
    obtain ⟨h1, h2, h3⟩ := bad3 (m := ⟨4 + (1 + q), m.classes, m.bias, m.trees⟩) hokm (fun h => by have := h.dim; simp only at this; omega) p
    simp -implicitDefEqProofs [hM, hR, hW, w0, hW2, w1, h1, h2, h3]
  · have w1 : IntKind.i64.wrap (1 - (1 + q)) = 1 - (1 + q) := wrap64 (by omega) (by omega)
    obtain ⟨h1, h2, h3⟩ := bad3 (m := ⟨1 - (1 + q), m.classes, m.bias, m.trees⟩) hokm (fun h => by have := h.dim; simp only at this; omega) p
    simp -implicitDefEqProofs [hM, hR, hW, w0, hW2, w1, h1, h2, h3]
  · have w1 : IntKind.i64.wrap (3 + (1 + q)) = 3 + (1 + q) := wrap64 (by omega) (by omega)
    obtain ⟨h1, h2, h3⟩ := bad3 (m := ⟨m.dim, 3 + (1 + q), m.bias, m.trees⟩) hokm (fun h => by have := h.classes; simp only at this; omega) p
    simp -implicitDefEqProofs [hM, hR, hW, w0, hW2, w1, h1, h2, h3]
  · have w1 : IntKind.i64.wrap (1 - (1 + q)) = 1 - (1 + q) := wrap64 (by omega) (by omega)
    obtain ⟨h1, h2, h3⟩ := bad3 (m := ⟨m.dim, 1 - (1 + q), m.bias, m.trees⟩) hokm (fun h => by have := h.classes; simp only at this; omega) p
    simp -implicitDefEqProofs [hM, hR, hW, w0, hW2, w1, h1, h2, h3]
  · have w1 : IntKind.i64.wrap (2147483647 + (1 + q)) = 2147483647 + (1 + q) := wrap64 (by omega) (by omega)
    obtain ⟨h1, h2, h3⟩ := bad3 (m := ⟨m.dim, m.classes, ⟨2147483647 + (1 + q), m.bias.b1, m.bias.b2⟩, m.trees⟩) hokm (fun h => by have := of_fits h.bias.1; simp only at this; omega) p
    simp -implicitDefEqProofs [hM, hR, hW, w0, hW2, w1, h1, h2, h3]
  · obtain ⟨h1, h2, h3⟩ := bad3 (m := ⟨m.dim, 1, ⟨0, 1 + q, 0⟩, m.trees⟩) hokm (fun h => by have := h.none1 (by simp); simp only at this; omega) p
    simp -implicitDefEqProofs [hM, hR, hW, w0, hW2, h1, h2, h3]
  · have w1 : IntKind.i64.wrap (m.classes - 1) = m.classes - 1 := wrap64 (by omega) (by omega)
    have w2 : IntKind.i64.wrap (m.classes - 1 + (1 + q)) = m.classes - 1 + (1 + q) := wrap64 (by omega) (by omega)
    have h3l := threeL_ok 1 2 3
    have n3 := h3l.2
    obtain ⟨h1, h2, h3⟩ := bad3 (okMW_add hm (t := ⟨m.classes - 1 + (1 + q), threeL 1 2 3⟩) h3l) (fun h => by have := (h.tree ⟨m.classes - 1 + (1 + q), threeL 1 2 3⟩ (by simp)).2.1; simp only at this; omega) p
    have b4 : m.trees.length ≤ 1099511627775 := by omega
    have b4' : m.trees.length ≤ 1099511627776 := by omega
    have b3 : m.trees.length ≤ maxN := by unfold maxN; omega
    have htk : List.take (m.trees.length * 2) (encL m.trees) = encL m.trees := take_rows _ _ (by simp)
    have hEt : encL (m.trees ++ [(⟨m.classes - 1 + (1 + q), threeL 1 2 3⟩ : Tree)]) = encL m.trees ++ [.int .i64 (m.classes - 1 + (1 + q)), .lst (threeL 1 2 3).length (encL (threeL 1 2 3))] := by rw [encL_append]; rfl
    have htl : (m.trees ++ [(⟨m.classes - 1 + (1 + q), threeL 1 2 3⟩ : Tree)]).length = m.trees.length + 1 := by simp
    generalize hts : m.trees ++ [(⟨m.classes - 1 + (1 + q), threeL 1 2 3⟩ : Tree)] = ts at *
    have b5 : ts.length ≤ 1099511627776 := by omega
    have c1 : ts.length * 2 ≤ (encL ts).length := by rw [encL_length]; simp
    have htk2 : List.take (ts.length * 2) (encL ts) = encL ts := take_rows _ _ (by simp)
    simp -implicitDefEqProofs [hM, hR, hW, w0, hW2, w1, w2, n3, b3, b4, b4', b5, encL_length, htk, ← hEt, ← htl, c1, htk2, h1, h2, h3, -Go.Am.pure1, pure1_own, pure1_nils, pure1_int, pure1_bool, pure1_lst]
  · have h3l : okTW ⟨0, []⟩ := ⟨fun w hw => by simp at hw, by unfold maxN; simp⟩
    obtain ⟨h1, h2, h3⟩ := bad3 (okMW_add hm (t := ⟨0, []⟩) h3l) (fun h => by have := (h.tree ⟨0, []⟩ (by simp)).2.2.pos; simp at this) p
    have b4 : m.trees.length ≤ 1099511627775 := by omega
    have b4' : m.trees.length ≤ 1099511627776 := by omega
    have b3 : m.trees.length ≤ maxN := by unfold maxN; omega
    have htk : List.take (m.trees.length * 2) (encL m.trees) = encL m.trees := take_rows _ _ (by simp)
    have hEt : encL (m.trees ++ [(⟨0, []⟩ : Tree)]) = encL m.trees ++ [.int .i64 0, .lst 0 []] := by rw [encL_append]; rfl
    have htl : (m.trees ++ [(⟨0, []⟩ : Tree)]).length = m.trees.length + 1 := by simp
    have hXm : ∀ (s : St) (fp : List Nat) (k : Nat), mapO (pure1 s fp (k + 1)) (encL m.trees ++ [AV.int .i64 0, AV.nils]) = some (encL (m.trees ++ [(⟨0, []⟩ : Tree)]), []) := fun s fp k => by
      rw [hEt]
      exact mapO_append rfl (mapO_plain (encL_plain _))
    have hXp : (encL m.trees ++ [AV.int .i64 0, AV.nils]).all AV.plain = false := by simp
    have hXc : (encL m.trees ++ [AV.int .i64 0, AV.nils]).all AV.isCell = true := by simp
    have hXl : (encL m.trees ++ [AV.int .i64 0, AV.nils]).length = (m.trees.length + 1) * 2 := by simp [encL_length]; omega
    generalize hts : m.trees ++ [(⟨0, []⟩ : Tree)] = ts at *
    rw [← htl] at hXl
    have b5 : ts.length ≤ 1099511627776 := by omega
    generalize hX : encL m.trees ++ [AV.int .i64 0, AV.nils] = X at *
    have htk2 : List.take (ts.length * 2) X = X := List.take_of_length_le (by omega)
    simp -implicitDefEqProofs [hM, hR, hW, w0, hW2, b3, b4, b4', b5, encL_length, htk, hX, hXm, hXp, hXc, hXl, ← htl, htk2, h1, h2, h3, -Go.Am.pure1, pure1_own, pure1_nils, pure1_int, pure1_bool, pure1_lst]
noncomputable def law_sp : List AV → Option AV := sp4 fun (_ : Forest) (_ : Int) (_ : Int) (_ : Point) => some true
theorem law_holds : Contract Try.prog 36 law_sp :=
  contract_of_runs mixed (tbl_cons c_Model (tbl_cons c_mRightT (tbl_cons c_Within (tbl_cons c_three (tbl_cons c_EvalT (tbl_cons c_ThrT (tbl_cons c_closed31 tbl_nil))))))) Try.func36 m36 (sp4_runs runs_law)
theorem law_says (f : Forest) (a b : Int) (p : Point) : law_sp [Arg.enc f, Arg.enc a, Arg.enc b, Arg.enc p] = some (.bool true) := by
  simp only [law_sp, sp4, Arg.dec_enc, Option.bind_some]
  rfl
end Go.Co
