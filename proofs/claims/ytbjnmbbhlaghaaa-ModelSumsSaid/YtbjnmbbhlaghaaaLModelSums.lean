/- The law ModelSums: what its text computes. -/
import Derived.Test.YtbjnmbbhlaghaaaCoRt
import Derived.Test.YtbjnmbbhlaghaaaCoH
import Derived.Test.YtbjnmbbhlaghaaaCoLib
import Derived.Test.YtbjnmbbhlaghaaaCoSh
namespace Go.Co
open Go.Am Go.Proofs
set_option linter.unusedSimpArgs false
set_option linter.unusedVariables false

/- copse/copselaw8.ModelSums -/
def c35_0 : ACode := .ops [⟨some 3, .box (.t 0) 4, none, []⟩,
  ⟨some 4, .box (.t 1) 5, none, []⟩,
  ⟨some 5, .box (.t 2) 4, none, []⟩,
  ⟨some 6, .mv (.c (.bool false)), none, []⟩] [3, 4, 5]
theorem r35_0 {C : Cs} {k : List Fr} {s : St} {Q : Post} : run C c35_0 k s Q = run C (.ops [⟨some 3, .box (.t 0) 4, none, []⟩,
  ⟨some 4, .box (.t 1) 5, none, []⟩,
  ⟨some 5, .box (.t 2) 4, none, []⟩,
  ⟨some 6, .mv (.c (.bool false)), none, []⟩] [3, 4, 5]) k s Q := rfl
def c35_1 : ACode := .ops [⟨some 13, .load 4 true (.t 3), none, [3]⟩,
  ⟨some 14, .call 45 [.t 13], none, []⟩,
  ⟨some 7, .alloc [.int .i64 0, .int .i64 0, .int .i64 0, .int .i64 0, .int .i64 0, .nils], none, []⟩,
  ⟨none, .store (.t 7) 6 (.t 14), none, [7]⟩] [4, 5, 7]
theorem r35_1 {C : Cs} {k : List Fr} {s : St} {Q : Post} : run C c35_1 k s Q = run C (.ops [⟨some 13, .load 4 true (.t 3), none, [3]⟩,
  ⟨some 14, .call 45 [.t 13], none, []⟩,
  ⟨some 7, .alloc [.int .i64 0, .int .i64 0, .int .i64 0, .int .i64 0, .int .i64 0, .nils], none, []⟩,
  ⟨none, .store (.t 7) 6 (.t 14), none, [7]⟩] [4, 5, 7]) k s Q := rfl
def c35_2 : ACode := .ops [⟨some 15, .load 6 true (.t 7), none, [7]⟩,
  ⟨some 8, .alloc [.int .i64 0, .int .i64 0, .int .i64 0, .int .i64 0, .int .i64 0, .nils], none, []⟩,
  ⟨none, .store (.t 8) 6 (.t 15), none, [8]⟩] [4, 5, 7, 8]
theorem r35_2 {C : Cs} {k : List Fr} {s : St} {Q : Post} : run C c35_2 k s Q = run C (.ops [⟨some 15, .load 6 true (.t 7), none, [7]⟩,
  ⟨some 8, .alloc [.int .i64 0, .int .i64 0, .int .i64 0, .int .i64 0, .int .i64 0, .nils], none, []⟩,
  ⟨none, .store (.t 8) 6 (.t 15), none, [8]⟩] [4, 5, 7, 8]) k s Q := rfl
def c35_3 : ACode := .ops [⟨some 16, .fad (.t 4) 0, none, [4]⟩,
  ⟨some 17, .load 1 false (.t 16), none, [4]⟩,
  ⟨some 18, .fad (.t 7) 1, none, [7]⟩,
  ⟨some 19, .load 1 false (.t 18), none, [7]⟩,
  ⟨some 20, .bin .sub (.t 19) (.c (.int .i64 1)), none, []⟩,
  ⟨some 21, .call 63 [.t 17, .c (.int .i64 0), .t 20], none, []⟩,
  ⟨some 22, .load 5 true (.t 4), none, [4]⟩,
  ⟨some 23, .fad (.t 7) 0, none, [7]⟩,
  ⟨some 24, .load 1 false (.t 23), none, [7]⟩,
  ⟨some 25, .call 75 [.t 22, .t 24], none, []⟩,
  ⟨some 26, .build [.int .i64 0, .nils] [(0, 1, .t 21), (1, 1, .t 25)], none, []⟩,
  ⟨some 9, .alloc [.int .i64 0, .nils], none, []⟩,
  ⟨none, .store (.t 9) 2 (.t 26), none, [9]⟩] [5, 7, 8, 9]
theorem r35_3 {C : Cs} {k : List Fr} {s : St} {Q : Post} : run C c35_3 k s Q = run C (.ops [⟨some 16, .fad (.t 4) 0, none, [4]⟩,
  ⟨some 17, .load 1 false (.t 16), none, [4]⟩,
  ⟨some 18, .fad (.t 7) 1, none, [7]⟩,
  ⟨some 19, .load 1 false (.t 18), none, [7]⟩,
  ⟨some 20, .bin .sub (.t 19) (.c (.int .i64 1)), none, []⟩,
  ⟨some 21, .call 63 [.t 17, .c (.int .i64 0), .t 20], none, []⟩,
  ⟨some 22, .load 5 true (.t 4), none, [4]⟩,
  ⟨some 23, .fad (.t 7) 0, none, [7]⟩,
  ⟨some 24, .load 1 false (.t 23), none, [7]⟩,
  ⟨some 25, .call 75 [.t 22, .t 24], none, []⟩,
  ⟨some 26, .build [.int .i64 0, .nils] [(0, 1, .t 21), (1, 1, .t 25)], none, []⟩,
  ⟨some 9, .alloc [.int .i64 0, .nils], none, []⟩,
  ⟨none, .store (.t 9) 2 (.t 26), none, [9]⟩] [5, 7, 8, 9]) k s Q := rfl
def c35_4 : ACode := .ops [⟨some 27, .mkrow 27 0 2 [.int .i64 0, .nils] [], none, []⟩,
  ⟨some 28, .fad (.t 7) 5, none, [7]⟩,
  ⟨some 29, .load 1 false (.t 28), none, [7]⟩,
  ⟨some 30, .app 30 [27] (.t 27) (.t 29) 2, none, [27]⟩,
  ⟨some 31, .load 2 true (.t 9), none, [9]⟩,
  ⟨some 32, .mkrow 32 1 2 [.int .i64 0, .nils] [(0, 2, .t 31)], none, []⟩,
  ⟨some 33, .app 10805 [30] (.t 30) (.t 32) 2, none, [30, 32]⟩,
  ⟨some 34, .fad (.t 8) 5, none, [8]⟩,
  ⟨none, .store (.t 34) 1 (.t 33), none, [8]⟩] [5, 7, 8, 9]
theorem r35_4 {C : Cs} {k : List Fr} {s : St} {Q : Post} : run C c35_4 k s Q = run C (.ops [⟨some 27, .mkrow 27 0 2 [.int .i64 0, .nils] [], none, []⟩,
  ⟨some 28, .fad (.t 7) 5, none, [7]⟩,
  ⟨some 29, .load 1 false (.t 28), none, [7]⟩,
  ⟨some 30, .app 30 [27] (.t 27) (.t 29) 2, none, [27]⟩,
  ⟨some 31, .load 2 true (.t 9), none, [9]⟩,
  ⟨some 32, .mkrow 32 1 2 [.int .i64 0, .nils] [(0, 2, .t 31)], none, []⟩,
  ⟨some 33, .app 10805 [30] (.t 30) (.t 32) 2, none, [30, 32]⟩,
  ⟨some 34, .fad (.t 8) 5, none, [8]⟩,
  ⟨none, .store (.t 34) 1 (.t 33), none, [8]⟩] [5, 7, 8, 9]) k s Q := rfl
def c35_5 : ACode := .ops [⟨some 35, .load 6 true (.t 7), none, [7]⟩,
  ⟨some 10, .alloc [.int .i64 0, .int .i64 0, .int .i64 0, .int .i64 0, .int .i64 0, .nils], none, []⟩,
  ⟨none, .store (.t 10) 6 (.t 35), none, [10]⟩] [5, 7, 8, 9, 10]
theorem r35_5 {C : Cs} {k : List Fr} {s : St} {Q : Post} : run C c35_5 k s Q = run C (.ops [⟨some 35, .load 6 true (.t 7), none, [7]⟩,
  ⟨some 10, .alloc [.int .i64 0, .int .i64 0, .int .i64 0, .int .i64 0, .int .i64 0, .nils], none, []⟩,
  ⟨none, .store (.t 10) 6 (.t 35), none, [10]⟩] [5, 7, 8, 9, 10]) k s Q := rfl
def c35_6 : ACode := .ops [⟨some 36, .fad (.t 10) 5, none, [10]⟩,
  ⟨none, .store (.t 36) 1 (.c (.nils)), none, [10]⟩] [5, 7, 8, 9, 10]
theorem r35_6 {C : Cs} {k : List Fr} {s : St} {Q : Post} : run C c35_6 k s Q = run C (.ops [⟨some 36, .fad (.t 10) 5, none, [10]⟩,
  ⟨none, .store (.t 36) 1 (.c (.nils)), none, [10]⟩] [5, 7, 8, 9, 10]) k s Q := rfl
def c35_7 : ACode := .ops [⟨some 11, .mv (.c (.int .i64 0)), none, []⟩] [5, 7, 8, 9, 10, 11]
theorem r35_7 {C : Cs} {k : List Fr} {s : St} {Q : Post} : run C c35_7 k s Q = run C (.ops [⟨some 11, .mv (.c (.int .i64 0)), none, []⟩] [5, 7, 8, 9, 10, 11]) k s Q := rfl
def c35_8 : ACode := .ops [⟨some 37, .mv (.t 11), none, []⟩,
  ⟨some 38, .fad (.t 7) 1, none, [7]⟩,
  ⟨some 39, .load 1 false (.t 38), none, [7]⟩,
  ⟨some 40, .bin .lss (.t 37) (.t 39), none, []⟩] [5, 7, 8, 9, 10, 11, 40]
theorem r35_8 {C : Cs} {k : List Fr} {s : St} {Q : Post} : run C c35_8 k s Q = run C (.ops [⟨some 37, .mv (.t 11), none, []⟩,
  ⟨some 38, .fad (.t 7) 1, none, [7]⟩,
  ⟨some 39, .load 1 false (.t 38), none, [7]⟩,
  ⟨some 40, .bin .lss (.t 37) (.t 39), none, []⟩] [5, 7, 8, 9, 10, 11, 40]) k s Q := rfl
def c35_9 : ACode := .cond (.t 40) .skip (.exit 0)
theorem r35_9 {C : Cs} {k : List Fr} {s : St} {Q : Post} : run C c35_9 k s Q = run C (.cond (.t 40) .skip (.exit 0)) k s Q := rfl
def c35_10 : ACode := .seq c35_8 c35_9
theorem r35_10 {C : Cs} {k : List Fr} {s : St} {Q : Post} : run C c35_10 k s Q = run C (.seq c35_8 c35_9) k s Q := rfl
def c35_11 : ACode := .ops [⟨some 43, .load 6 true (.t 8), none, [8]⟩,
  ⟨some 44, .mv (.t 11), none, []⟩,
  ⟨some 45, .load 4 true (.t 5), none, [5]⟩,
  ⟨some 46, .call 69 [.t 43, .t 44, .t 45], none, [10805]⟩,
  ⟨some 47, .load 6 true (.t 7), none, [7]⟩,
  ⟨some 48, .mv (.t 11), none, []⟩,
  ⟨some 49, .load 4 true (.t 5), none, [5]⟩,
  ⟨some 50, .call 69 [.t 47, .t 48, .t 49], none, []⟩,
  ⟨some 51, .bin .sub (.t 46) (.t 50), none, []⟩,
  ⟨some 12, .mv (.t 51), none, []⟩] [5, 7, 8, 9, 10, 11, 12]
theorem r35_11 {C : Cs} {k : List Fr} {s : St} {Q : Post} : run C c35_11 k s Q = run C (.ops [⟨some 43, .load 6 true (.t 8), none, [8]⟩,
  ⟨some 44, .mv (.t 11), none, []⟩,
  ⟨some 45, .load 4 true (.t 5), none, [5]⟩,
  ⟨some 46, .call 69 [.t 43, .t 44, .t 45], none, [10805]⟩,
  ⟨some 47, .load 6 true (.t 7), none, [7]⟩,
  ⟨some 48, .mv (.t 11), none, []⟩,
  ⟨some 49, .load 4 true (.t 5), none, [5]⟩,
  ⟨some 50, .call 69 [.t 47, .t 48, .t 49], none, []⟩,
  ⟨some 51, .bin .sub (.t 46) (.t 50), none, []⟩,
  ⟨some 12, .mv (.t 51), none, []⟩] [5, 7, 8, 9, 10, 11, 12]) k s Q := rfl
def c35_12 : ACode := .ops [⟨some 52, .mv (.t 11), none, []⟩,
  ⟨some 53, .fad (.t 9) 0, none, [9]⟩,
  ⟨some 54, .load 1 false (.t 53), none, [9]⟩,
  ⟨some 55, .bin .neq (.t 52) (.t 54), none, []⟩,
  ⟨some 56, .mv (.t 55), none, []⟩,
  ⟨some 57, .mv (.t 12), some (56, true), []⟩,
  ⟨some 58, .bin .neq (.t 57) (.c (.int .i64 0)), some (56, true), []⟩,
  ⟨some 59, .pick (.t 56) (.t 58) (.c (.bool false)), none, []⟩,
  ⟨some 60, .mv (.t 59), none, []⟩,
  ⟨some 61, .mv (.t 11), some (60, false), []⟩,
  ⟨some 62, .fad (.t 9) 0, some (60, false), [9]⟩,
  ⟨some 63, .load 1 false (.t 62), some (60, false), [9]⟩,
  ⟨some 64, .bin .eql (.t 61) (.t 63), some (60, false), []⟩,
  ⟨some 65, .mv (.t 64), some (60, false), []⟩,
  ⟨some 66, .mv (.t 12), some (65, true), []⟩,
  ⟨some 67, .fad (.t 9) 1, some (65, true), [9]⟩,
  ⟨some 68, .load 1 false (.t 67), some (65, true), [9]⟩,
  ⟨some 69, .load 4 true (.t 5), some (65, true), [5]⟩,
  ⟨some 70, .call 99 [.t 68, .t 69], some (65, true), []⟩,
  ⟨some 71, .bin .neq (.t 66) (.t 70), some (65, true), []⟩,
  ⟨some 72, .pick (.t 65) (.t 71) (.c (.bool false)), some (60, false), []⟩,
  ⟨some 73, .pick (.t 60) (.c (.bool true)) (.t 72), none, []⟩,
  ⟨some 74, .mv (.t 73), none, []⟩,
  ⟨some 75, .load 6 true (.t 10), some (74, false), [10]⟩,
  ⟨some 76, .mv (.t 11), some (74, false), []⟩,
  ⟨some 77, .load 4 true (.t 5), some (74, false), [5]⟩,
  ⟨some 78, .call 69 [.t 75, .t 76, .t 77], some (74, false), []⟩,
  ⟨some 79, .mv (.t 11), some (74, false), []⟩,
  ⟨some 80, .fad (.t 7) 2, some (74, false), [7]⟩,
  ⟨some 81, .iad (.t 80) (.t 79) 1 3, some (74, false), [7]⟩,
  ⟨some 82, .load 1 false (.t 81), some (74, false), [7]⟩,
  ⟨some 83, .bin .neq (.t 78) (.t 82), some (74, false), []⟩,
  ⟨some 84, .pick (.t 74) (.c (.bool true)) (.t 83), none, []⟩] [5, 7, 8, 9, 10, 11, 84]
theorem r35_12 {C : Cs} {k : List Fr} {s : St} {Q : Post} : run C c35_12 k s Q = run C (.ops [⟨some 52, .mv (.t 11), none, []⟩,
  ⟨some 53, .fad (.t 9) 0, none, [9]⟩,
  ⟨some 54, .load 1 false (.t 53), none, [9]⟩,
  ⟨some 55, .bin .neq (.t 52) (.t 54), none, []⟩,
  ⟨some 56, .mv (.t 55), none, []⟩,
  ⟨some 57, .mv (.t 12), some (56, true), []⟩,
  ⟨some 58, .bin .neq (.t 57) (.c (.int .i64 0)), some (56, true), []⟩,
  ⟨some 59, .pick (.t 56) (.t 58) (.c (.bool false)), none, []⟩,
  ⟨some 60, .mv (.t 59), none, []⟩,
  ⟨some 61, .mv (.t 11), some (60, false), []⟩,
  ⟨some 62, .fad (.t 9) 0, some (60, false), [9]⟩,
  ⟨some 63, .load 1 false (.t 62), some (60, false), [9]⟩,
  ⟨some 64, .bin .eql (.t 61) (.t 63), some (60, false), []⟩,
  ⟨some 65, .mv (.t 64), some (60, false), []⟩,
  ⟨some 66, .mv (.t 12), some (65, true), []⟩,
  ⟨some 67, .fad (.t 9) 1, some (65, true), [9]⟩,
  ⟨some 68, .load 1 false (.t 67), some (65, true), [9]⟩,
  ⟨some 69, .load 4 true (.t 5), some (65, true), [5]⟩,
  ⟨some 70, .call 99 [.t 68, .t 69], some (65, true), []⟩,
  ⟨some 71, .bin .neq (.t 66) (.t 70), some (65, true), []⟩,
  ⟨some 72, .pick (.t 65) (.t 71) (.c (.bool false)), some (60, false), []⟩,
  ⟨some 73, .pick (.t 60) (.c (.bool true)) (.t 72), none, []⟩,
  ⟨some 74, .mv (.t 73), none, []⟩,
  ⟨some 75, .load 6 true (.t 10), some (74, false), [10]⟩,
  ⟨some 76, .mv (.t 11), some (74, false), []⟩,
  ⟨some 77, .load 4 true (.t 5), some (74, false), [5]⟩,
  ⟨some 78, .call 69 [.t 75, .t 76, .t 77], some (74, false), []⟩,
  ⟨some 79, .mv (.t 11), some (74, false), []⟩,
  ⟨some 80, .fad (.t 7) 2, some (74, false), [7]⟩,
  ⟨some 81, .iad (.t 80) (.t 79) 1 3, some (74, false), [7]⟩,
  ⟨some 82, .load 1 false (.t 81), some (74, false), [7]⟩,
  ⟨some 83, .bin .neq (.t 78) (.t 82), some (74, false), []⟩,
  ⟨some 84, .pick (.t 74) (.c (.bool true)) (.t 83), none, []⟩] [5, 7, 8, 9, 10, 11, 84]) k s Q := rfl
def c35_13 : ACode := .ops [⟨some 6, .mv (.c (.bool false)), none, []⟩] [6]
theorem r35_13 {C : Cs} {k : List Fr} {s : St} {Q : Post} : run C c35_13 k s Q = run C (.ops [⟨some 6, .mv (.c (.bool false)), none, []⟩] [6]) k s Q := rfl
def c35_14 : ACode := .seq c35_13 .ret
theorem r35_14 {C : Cs} {k : List Fr} {s : St} {Q : Post} : run C c35_14 k s Q = run C (.seq c35_13 .ret) k s Q := rfl
def c35_15 : ACode := .cond (.t 84) c35_14 .skip
theorem r35_15 {C : Cs} {k : List Fr} {s : St} {Q : Post} : run C c35_15 k s Q = run C (.cond (.t 84) c35_14 .skip) k s Q := rfl
def c35_16 : ACode := .seq c35_12 c35_15
theorem r35_16 {C : Cs} {k : List Fr} {s : St} {Q : Post} : run C c35_16 k s Q = run C (.seq c35_12 c35_15) k s Q := rfl
def c35_17 : ACode := .seq c35_11 c35_16
theorem r35_17 {C : Cs} {k : List Fr} {s : St} {Q : Post} : run C c35_17 k s Q = run C (.seq c35_11 c35_16) k s Q := rfl
def c35_18 : ACode := .block 1 c35_17
theorem r35_18 {C : Cs} {k : List Fr} {s : St} {Q : Post} : run C c35_18 k s Q = run C (.block 1 c35_17) k s Q := rfl
def c35_19 : ACode := .ops [⟨some 41, .mv (.t 11), none, []⟩,
  ⟨some 42, .bin .add (.t 41) (.c (.int .i64 1)), none, []⟩,
  ⟨some 11, .mv (.t 42), none, []⟩] [5, 7, 8, 9, 10, 11]
theorem r35_19 {C : Cs} {k : List Fr} {s : St} {Q : Post} : run C c35_19 k s Q = run C (.ops [⟨some 41, .mv (.t 11), none, []⟩,
  ⟨some 42, .bin .add (.t 41) (.c (.int .i64 1)), none, []⟩,
  ⟨some 11, .mv (.t 42), none, []⟩] [5, 7, 8, 9, 10, 11]) k s Q := rfl
def c35_20 : ACode := .seq c35_18 c35_19
theorem r35_20 {C : Cs} {k : List Fr} {s : St} {Q : Post} : run C c35_20 k s Q = run C (.seq c35_18 c35_19) k s Q := rfl
def c35_21 : ACode := .seq c35_10 c35_20
theorem r35_21 {C : Cs} {k : List Fr} {s : St} {Q : Post} : run C c35_21 k s Q = run C (.seq c35_10 c35_20) k s Q := rfl
def c35_22 : ACode := .keep [5, 7, 8, 9, 10, 11] [5, 7, 8, 9, 10, 10805] c35_21
theorem r35_22 {C : Cs} {k : List Fr} {s : St} {Q : Post} : run C c35_22 k s Q = run C (.keep [5, 7, 8, 9, 10, 11] [5, 7, 8, 9, 10, 10805] c35_21) k s Q := rfl
def c35_23 : ACode := .loop c35_22
theorem r35_23 {C : Cs} {k : List Fr} {s : St} {Q : Post} : run C c35_23 k s Q = run C (.loop c35_22) k s Q := rfl
def c35_24 : ACode := .block 0 c35_23
theorem r35_24 {C : Cs} {k : List Fr} {s : St} {Q : Post} : run C c35_24 k s Q = run C (.block 0 c35_23) k s Q := rfl
def c35_25 : ACode := .seq c35_7 c35_24
theorem r35_25 {C : Cs} {k : List Fr} {s : St} {Q : Post} : run C c35_25 k s Q = run C (.seq c35_7 c35_24) k s Q := rfl
def c35_26 : ACode := .ops [⟨some 85, .load 6 true (.t 8), none, [8]⟩,
  ⟨some 86, .call 72 [.t 85], none, [10805]⟩,
  ⟨some 87, .load 6 true (.t 7), none, [7]⟩,
  ⟨some 88, .call 72 [.t 87], none, []⟩,
  ⟨some 89, .fad (.t 9) 1, none, [9]⟩,
  ⟨some 90, .load 1 false (.t 89), none, [9]⟩,
  ⟨some 91, .len (.t 90), none, []⟩,
  ⟨some 92, .bin .add (.t 88) (.t 91), none, []⟩,
  ⟨some 93, .bin .eql (.t 86) (.t 92), none, []⟩,
  ⟨some 94, .mv (.t 93), none, []⟩,
  ⟨some 95, .call 31 [], some (94, true), []⟩,
  ⟨some 96, .pick (.t 94) (.t 95) (.c (.bool false)), none, []⟩,
  ⟨some 6, .mv (.t 96), none, []⟩] [6]
theorem r35_26 {C : Cs} {k : List Fr} {s : St} {Q : Post} : run C c35_26 k s Q = run C (.ops [⟨some 85, .load 6 true (.t 8), none, [8]⟩,
  ⟨some 86, .call 72 [.t 85], none, [10805]⟩,
  ⟨some 87, .load 6 true (.t 7), none, [7]⟩,
  ⟨some 88, .call 72 [.t 87], none, []⟩,
  ⟨some 89, .fad (.t 9) 1, none, [9]⟩,
  ⟨some 90, .load 1 false (.t 89), none, [9]⟩,
  ⟨some 91, .len (.t 90), none, []⟩,
  ⟨some 92, .bin .add (.t 88) (.t 91), none, []⟩,
  ⟨some 93, .bin .eql (.t 86) (.t 92), none, []⟩,
  ⟨some 94, .mv (.t 93), none, []⟩,
  ⟨some 95, .call 31 [], some (94, true), []⟩,
  ⟨some 96, .pick (.t 94) (.t 95) (.c (.bool false)), none, []⟩,
  ⟨some 6, .mv (.t 96), none, []⟩] [6]) k s Q := rfl
def c35_27 : ACode := .seq c35_26 .ret
theorem r35_27 {C : Cs} {k : List Fr} {s : St} {Q : Post} : run C c35_27 k s Q = run C (.seq c35_26 .ret) k s Q := rfl
def c35_28 : ACode := .seq c35_25 c35_27
theorem r35_28 {C : Cs} {k : List Fr} {s : St} {Q : Post} : run C c35_28 k s Q = run C (.seq c35_25 c35_27) k s Q := rfl
def c35_29 : ACode := .seq c35_6 c35_28
theorem r35_29 {C : Cs} {k : List Fr} {s : St} {Q : Post} : run C c35_29 k s Q = run C (.seq c35_6 c35_28) k s Q := rfl
def c35_30 : ACode := .seq c35_5 c35_29
theorem r35_30 {C : Cs} {k : List Fr} {s : St} {Q : Post} : run C c35_30 k s Q = run C (.seq c35_5 c35_29) k s Q := rfl
def c35_31 : ACode := .seq c35_4 c35_30
theorem r35_31 {C : Cs} {k : List Fr} {s : St} {Q : Post} : run C c35_31 k s Q = run C (.seq c35_4 c35_30) k s Q := rfl
def c35_32 : ACode := .seq c35_3 c35_31
theorem r35_32 {C : Cs} {k : List Fr} {s : St} {Q : Post} : run C c35_32 k s Q = run C (.seq c35_3 c35_31) k s Q := rfl
def c35_33 : ACode := .seq c35_2 c35_32
theorem r35_33 {C : Cs} {k : List Fr} {s : St} {Q : Post} : run C c35_33 k s Q = run C (.seq c35_2 c35_32) k s Q := rfl
def c35_34 : ACode := .seq c35_1 c35_33
theorem r35_34 {C : Cs} {k : List Fr} {s : St} {Q : Post} : run C c35_34 k s Q = run C (.seq c35_1 c35_33) k s Q := rfl
def c35_35 : ACode := .seq c35_0 c35_34
theorem r35_35 {C : Cs} {k : List Fr} {s : St} {Q : Post} : run C c35_35 k s Q = run C (.seq c35_0 c35_34) k s Q := rfl
def a35 : AFun := ⟨3, 97, c35_35, [.t 6]⟩
attribute [simp] r35_0 r35_1 r35_2 r35_3 r35_4 r35_5 r35_6 r35_7 r35_8 r35_9 r35_10 r35_11 r35_12 r35_13 r35_14 r35_15 r35_16 r35_17 r35_18 r35_19 r35_20 r35_21 r35_22 r35_23 r35_24 r35_25 r35_26 r35_27 r35_28 r35_29 r35_30 r35_31 r35_32 r35_33 r35_34 r35_35
theorem m35 : mFun Try.prog Try.f35 a35 = true := by decide +kernel

/- copse/copselaw8.ModelRuns -/
def c31_0 : ACode := .ops [⟨some 0, .mv (.c (.bool false)), none, []⟩] []
def c31_1 : ACode := .ops [⟨some 2, .build [.int .i64 0, .int .i64 0, .int .i64 0] [(0, 1, .c (.int .i64 3))], none, []⟩,
  ⟨some 3, .call 95 [.c (.int .i64 5), .c (.int .i64 10), .c (.int .i64 20)], none, []⟩,
  ⟨some 4, .build [.int .i64 0, .nils] [(1, 1, .t 3)], none, []⟩,
  ⟨some 5, .mkrow 5 1 2 [.int .i64 0, .nils] [(0, 2, .t 4)], none, []⟩,
  ⟨some 6, .build [.int .i64 0, .int .i64 0, .int .i64 0, .int .i64 0, .int .i64 0, .nils] [(0, 1, .c (.int .i64 1)), (1, 1, .c (.int .i64 1)), (2, 3, .t 2), (5, 1, .t 5)], none, []⟩,
  ⟨some 1, .alloc [.int .i64 0, .int .i64 0, .int .i64 0, .int .i64 0, .int .i64 0, .nils], none, []⟩,
  ⟨none, .store (.t 1) 6 (.t 6), none, [1]⟩] [1]
def c31_2 : ACode := .ops [⟨some 7, .load 6 true (.t 1), none, [1]⟩,
  ⟨some 8, .call 71 [.t 7], none, [5]⟩,
  ⟨some 9, .mv (.t 8), none, []⟩,
  ⟨some 10, .load 6 true (.t 1), some (9, true), [1]⟩,
  ⟨some 11, .build [.int .i64 0, .int .i64 0, .int .i64 0, .int .i64 0] [(0, 1, .c (.int .i64 5))], some (9, true), []⟩,
  ⟨some 12, .call 69 [.t 10, .c (.int .i64 0), .t 11], some (9, true), [5]⟩,
  ⟨some 13, .bin .eql (.t 12) (.c (.int .i64 13)), some (9, true), []⟩,
  ⟨some 14, .pick (.t 9) (.t 13) (.c (.bool false)), none, []⟩,
  ⟨some 15, .mv (.t 14), none, []⟩,
  ⟨some 16, .load 6 true (.t 1), some (15, true), [1]⟩,
  ⟨some 17, .build [.int .i64 0, .int .i64 0, .int .i64 0, .int .i64 0] [(0, 1, .c (.int .i64 6))], some (15, true), []⟩,
  ⟨some 18, .call 69 [.t 16, .c (.int .i64 0), .t 17], some (15, true), [5]⟩,
  ⟨some 19, .bin .eql (.t 18) (.c (.int .i64 23)), some (15, true), []⟩,
  ⟨some 20, .pick (.t 15) (.t 19) (.c (.bool false)), none, []⟩,
  ⟨some 21, .mv (.t 20), none, []⟩,
  ⟨some 22, .load 6 true (.t 1), some (21, true), [1]⟩,
  ⟨some 23, .call 96 [.t 22, .c (.int .i64 0)], some (21, true), [5]⟩,
  ⟨some 24, .mkrow 24 1 1 [.int .i64 0] [(0, 1, .c (.int .i64 5))], some (21, true), []⟩,
  ⟨some 25, .call 83 [.t 23, .t 24], some (21, true), [24]⟩,
  ⟨some 26, .pick (.t 21) (.t 25) (.c (.bool false)), none, []⟩,
  ⟨some 27, .mv (.t 26), none, []⟩,
  ⟨some 28, .load 6 true (.t 1), some (27, true), [1]⟩,
  ⟨some 29, .call 72 [.t 28], some (27, true), [5]⟩,
  ⟨some 30, .bin .eql (.t 29) (.c (.int .i64 3)), some (27, true), []⟩,
  ⟨some 31, .pick (.t 27) (.t 30) (.c (.bool false)), none, []⟩,
  ⟨some 32, .mv (.t 31), none, []⟩,
  ⟨some 33, .load 6 true (.t 1), some (32, true), [1]⟩,
  ⟨some 34, .build [.int .i64 0, .int .i64 0, .int .i64 0, .int .i64 0] [], some (32, true), []⟩,
  ⟨some 35, .call 78 [.t 33, .t 34], some (32, true), [5]⟩,
  ⟨some 36, .bin .eql (.t 35) (.c (.int .i64 0)), some (32, true), []⟩,
  ⟨some 37, .pick (.t 32) (.t 36) (.c (.bool false)), none, []⟩,
  ⟨some 0, .mv (.t 37), none, []⟩] [0]
def c31_3 : ACode := .seq c31_2 .ret
def c31_4 : ACode := .seq c31_1 c31_3
def c31_5 : ACode := .seq c31_0 c31_4
def a31 : AFun := ⟨0, 38, c31_5, [.t 0]⟩
theorem m31 : mFun Try.prog Try.f31 a31 = true := by decide +kernel
/- copse/copsebook.Same[int] -/
def c83_0 : ACode := .ops [⟨some 4, .mv (.c (.bool false)), none, []⟩] [0, 1]
def c83_1 : ACode := .ops [⟨some 6, .mv (.t 0), none, []⟩,
  ⟨some 7, .len (.t 6), none, []⟩,
  ⟨some 8, .mv (.t 1), none, []⟩,
  ⟨some 9, .len (.t 8), none, []⟩,
  ⟨some 10, .bin .neq (.t 7) (.t 9), none, []⟩] [0, 1, 10]
def c83_2 : ACode := .ops [⟨some 4, .mv (.c (.bool false)), none, []⟩] [4]
def c83_3 : ACode := .seq c83_2 .ret
def c83_4 : ACode := .cond (.t 10) c83_3 .skip
def c83_5 : ACode := .seq c83_1 c83_4
def c83_6 : ACode := .ops [⟨some 5, .mv (.c (.int .i64 0)), none, []⟩] [0, 1, 5]
def c83_7 : ACode := .ops [⟨some 11, .mv (.t 5), none, []⟩,
  ⟨some 12, .mv (.t 0), none, []⟩,
  ⟨some 13, .len (.t 12), none, []⟩,
  ⟨some 14, .bin .lss (.t 11) (.t 13), none, []⟩] [0, 1, 5, 14]
def c83_8 : ACode := .cond (.t 14) .skip (.exit 0)
def c83_9 : ACode := .seq c83_7 c83_8
def c83_10 : ACode := .ops [⟨some 17, .mv (.t 0), none, []⟩,
  ⟨some 18, .mv (.t 5), none, []⟩,
  ⟨some 19, .ias (.t 17) (.t 18) 1, none, []⟩,
  ⟨some 20, .load 1 false (.t 19), none, []⟩,
  ⟨some 21, .mv (.t 1), none, []⟩,
  ⟨some 22, .mv (.t 5), none, []⟩,
  ⟨some 23, .ias (.t 21) (.t 22) 1, none, []⟩,
  ⟨some 24, .load 1 false (.t 23), none, []⟩,
  ⟨some 25, .bin .neq (.t 20) (.t 24), none, []⟩] [0, 1, 5, 25]
def c83_11 : ACode := .ops [⟨some 4, .mv (.c (.bool false)), none, []⟩] [4]
def c83_12 : ACode := .seq c83_11 .ret
def c83_13 : ACode := .cond (.t 25) c83_12 .skip
def c83_14 : ACode := .seq c83_10 c83_13
def c83_15 : ACode := .block 1 c83_14
def c83_16 : ACode := .ops [⟨some 15, .mv (.t 5), none, []⟩,
  ⟨some 16, .bin .add (.t 15) (.c (.int .i64 1)), none, []⟩,
  ⟨some 5, .mv (.t 16), none, []⟩] [0, 1, 5]
def c83_17 : ACode := .seq c83_15 c83_16
def c83_18 : ACode := .seq c83_9 c83_17
def c83_19 : ACode := .keep [0, 1, 5] [] c83_18
def c83_20 : ACode := .loop c83_19
def c83_21 : ACode := .block 0 c83_20
def c83_22 : ACode := .seq c83_6 c83_21
def c83_23 : ACode := .ops [⟨some 4, .mv (.c (.bool true)), none, []⟩] [4]
def c83_24 : ACode := .seq c83_23 .ret
def c83_25 : ACode := .seq c83_22 c83_24
def c83_26 : ACode := .seq c83_5 c83_25
def c83_27 : ACode := .seq c83_0 c83_26
def a83 : AFun := ⟨2, 26, c83_27, [.t 4]⟩
theorem m83 : mFun Try.prog Try.f83 a83 = true := by decide +kernel
/- copse/copselaw8.three -/
def c95_0 : ACode := .ops [⟨some 6, .nil0 6 1, none, []⟩] [0, 1, 2]
def c95_1 : ACode := .ops [⟨some 7, .mv (.t 0), none, []⟩,
  ⟨some 8, .build [.bool false, .int .i64 0, .int .i64 0, .int .i64 0, .int .i64 0, .int .i64 0] [(3, 1, .t 7), (4, 1, .c (.int .i64 1)), (5, 1, .c (.int .i64 2))], none, []⟩,
  ⟨some 9, .call 111 [.t 8], none, []⟩,
  ⟨some 10, .mv (.t 1), none, []⟩,
  ⟨some 11, .build [.bool false, .int .i64 0, .int .i64 0, .int .i64 0, .int .i64 0, .int .i64 0] [(0, 1, .c (.bool true)), (1, 1, .t 10)], none, []⟩,
  ⟨some 12, .call 111 [.t 11], none, []⟩,
  ⟨some 13, .mv (.t 2), none, []⟩,
  ⟨some 14, .build [.bool false, .int .i64 0, .int .i64 0, .int .i64 0, .int .i64 0, .int .i64 0] [(0, 1, .c (.bool true)), (1, 1, .t 13)], none, []⟩,
  ⟨some 15, .call 111 [.t 14], none, []⟩,
  ⟨some 16, .mkrow 6 3 1 [.int .u64 0] [(0, 1, .t 9), (1, 1, .t 12), (2, 1, .t 15)], none, []⟩,
  ⟨some 6, .mv (.t 16), none, []⟩] [6]
def c95_2 : ACode := .seq c95_1 .ret
def c95_3 : ACode := .seq c95_0 c95_2
def a95 : AFun := ⟨3, 17, c95_3, [.t 6]⟩
theorem m95 : mFun Try.prog Try.f95 a95 = true := by decide +kernel
/- copse/model.Thresholds -/
def c96_0 : ACode := .ops [⟨some 2, .box (.t 0) 6, none, []⟩,
  ⟨some 4, .mv (.c (.nils)), none, []⟩] [1, 2]
def c96_1 : ACode := .ops [⟨some 12, .load 6 true (.t 2), none, [2]⟩,
  ⟨some 13, .call 71 [.t 12], none, []⟩,
  ⟨some 14, .un .not (.t 13), none, []⟩] [1, 2, 14]
def c96_2 : ACode := .ops [⟨some 4, .mv (.c (.nils)), none, []⟩] [4]
def c96_3 : ACode := .seq c96_2 .ret
def c96_4 : ACode := .cond (.t 14) c96_3 .skip
def c96_5 : ACode := .seq c96_1 c96_4
def c96_6 : ACode := .ops [⟨some 5, .nil0 5 1, none, []⟩] [1, 2, 5]
def c96_7 : ACode := .ops [⟨some 15, .fad (.t 2) 5, none, [2]⟩,
  ⟨some 16, .load 1 false (.t 15), none, [2]⟩,
  ⟨some 17, .len (.t 16), none, []⟩,
  ⟨some 18, .mv (.c (.int .i64 0)), none, []⟩] [1, 5, 16, 17, 18]
def c96_8 : ACode := .ops [⟨some 19, .bin .lss (.t 18) (.t 17), none, []⟩] [1, 5, 16, 17, 18, 19]
def c96_9 : ACode := .cond (.t 19) .skip (.exit 0)
def c96_10 : ACode := .ops [⟨some 20, .ias (.t 16) (.t 18) 2, none, []⟩,
  ⟨some 21, .load 2 true (.t 20), none, []⟩,
  ⟨some 7, .alloc [.int .i64 0, .nils], none, []⟩,
  ⟨none, .store (.t 7) 2 (.t 21), none, [7]⟩] [1, 5, 7, 16, 17, 18]
def c96_11 : ACode := .ops [⟨some 22, .fad (.t 7) 1, none, [7]⟩,
  ⟨some 23, .load 1 false (.t 22), none, [7]⟩,
  ⟨some 24, .len (.t 23), none, []⟩,
  ⟨some 25, .mv (.c (.int .i64 0)), none, []⟩] [1, 5, 16, 17, 18, 23, 24, 25]
def c96_12 : ACode := .ops [⟨some 26, .bin .lss (.t 25) (.t 24), none, []⟩] [1, 5, 16, 17, 18, 23, 24, 25, 26]
def c96_13 : ACode := .cond (.t 26) .skip (.exit 2)
def c96_14 : ACode := .ops [⟨some 27, .ias (.t 23) (.t 25) 1, none, []⟩,
  ⟨some 28, .load 1 false (.t 27), none, []⟩,
  ⟨some 9, .mv (.t 28), none, []⟩] [1, 5, 9, 16, 17, 18, 23, 24, 25]
def c96_15 : ACode := .ops [⟨some 30, .mv (.t 9), none, []⟩,
  ⟨some 31, .call 77 [.t 30], none, []⟩,
  ⟨some 29, .mv (.t 31), none, []⟩,
  ⟨some 32, .ext (.t 29) 0, none, []⟩,
  ⟨some 33, .ext (.t 29) 1, none, []⟩,
  ⟨some 10, .alloc [.bool false, .int .i64 0, .int .i64 0, .int .i64 0, .int .i64 0, .int .i64 0], none, []⟩,
  ⟨none, .store (.t 10) 6 (.t 32), none, [10]⟩,
  ⟨some 11, .mv (.t 33), none, []⟩] [1, 5, 10, 16, 17, 18, 23, 24, 25]
def c96_16 : ACode := .ops [⟨some 34, .fad (.t 10) 0, none, [10]⟩,
  ⟨some 35, .load 1 false (.t 34), none, [10]⟩,
  ⟨some 36, .un .not (.t 35), none, []⟩,
  ⟨some 37, .mv (.t 36), none, []⟩,
  ⟨some 38, .fad (.t 10) 2, some (37, true), [10]⟩,
  ⟨some 39, .load 1 false (.t 38), some (37, true), [10]⟩,
  ⟨some 40, .mv (.t 1), some (37, true), []⟩,
  ⟨some 41, .bin .eql (.t 39) (.t 40), some (37, true), []⟩,
  ⟨some 42, .pick (.t 37) (.t 41) (.c (.bool false)), none, []⟩] [1, 5, 10, 16, 17, 18, 23, 24, 25, 42]
def c96_17 : ACode := .ops [⟨some 43, .mv (.t 5), none, []⟩,
  ⟨some 44, .fad (.t 10) 3, none, [10]⟩,
  ⟨some 45, .load 1 false (.t 44), none, [10]⟩,
  ⟨some 46, .mkrow 46 1 1 [.int .i64 0] [(0, 1, .t 45)], none, []⟩,
  ⟨some 47, .app 5 [5] (.t 43) (.t 46) 1, none, [5, 46]⟩,
  ⟨some 5, .mv (.t 47), none, []⟩] [1, 5, 16, 17, 18, 23, 24, 25]
def c96_18 : ACode := .cond (.t 42) c96_17 .skip
def c96_19 : ACode := .seq c96_16 c96_18
def c96_20 : ACode := .seq c96_15 c96_19
def c96_21 : ACode := .seq c96_14 c96_20
def c96_22 : ACode := .block 3 c96_21
def c96_23 : ACode := .ops [⟨some 48, .bin .add (.t 25) (.c (.int .i64 1)), none, []⟩,
  ⟨some 25, .mv (.t 48), none, []⟩] [1, 5, 16, 17, 18, 23, 24, 25]
def c96_24 : ACode := .seq c96_22 c96_23
def c96_25 : ACode := .seq c96_13 c96_24
def c96_26 : ACode := .seq c96_12 c96_25
def c96_27 : ACode := .keep [1, 5, 16, 17, 18, 23, 24, 25] [5] c96_26
def c96_28 : ACode := .loop c96_27
def c96_29 : ACode := .block 2 c96_28
def c96_30 : ACode := .seq c96_11 c96_29
def c96_31 : ACode := .seq c96_10 c96_30
def c96_32 : ACode := .block 1 c96_31
def c96_33 : ACode := .ops [⟨some 49, .bin .add (.t 18) (.c (.int .i64 1)), none, []⟩,
  ⟨some 18, .mv (.t 49), none, []⟩] [1, 5, 16, 17, 18]
def c96_34 : ACode := .seq c96_32 c96_33
def c96_35 : ACode := .seq c96_9 c96_34
def c96_36 : ACode := .seq c96_8 c96_35
def c96_37 : ACode := .keep [1, 5, 16, 17, 18] [5] c96_36
def c96_38 : ACode := .loop c96_37
def c96_39 : ACode := .block 0 c96_38
def c96_40 : ACode := .seq c96_7 c96_39
def c96_41 : ACode := .ops [⟨some 50, .mv (.t 5), none, []⟩,
  ⟨some 51, .gcall 144 [.t 50] [5] 5, none, [5]⟩] [5]
def c96_42 : ACode := .ops [⟨some 52, .mv (.t 5), none, []⟩,
  ⟨some 53, .gcall 145 [.t 52] [5] 5, none, [5]⟩,
  ⟨some 4, .mv (.t 53), none, []⟩] [4]
def c96_43 : ACode := .seq c96_42 .ret
def c96_44 : ACode := .seq c96_41 c96_43
def c96_45 : ACode := .seq c96_40 c96_44
def c96_46 : ACode := .seq c96_6 c96_45
def c96_47 : ACode := .seq c96_5 c96_46
def c96_48 : ACode := .seq c96_0 c96_47
def a96 : AFun := ⟨2, 54, c96_48, [.t 4]⟩
theorem m96 : mFun Try.prog Try.f96 a96 = true := by decide +kernel
def texts31 : List (Nat × AFun) := [(31, a31), (69, a69), (71, a71), (72, a72), (76, a76), (77, a77), (78, a78), (83, a83), (95, a95), (96, a96), (99, a99), (111, a111), (119, a119), (122, a122), (123, a123), (124, a124), (125, a125), (128, a128), (129, a129), (130, a130), (131, a131), (148, a148), (156, a156), (160, a160), (161, a161), (162, a162), (163, a163), (164, a164), (165, a165), (176, a176)]
theorem texts31_good : Go.Am.Good Try.prog texts31 :=
  good_cons Try.func31 m31 <| good_cons Try.func69 m69 <| good_cons Try.func71 m71 <| good_cons Try.func72 m72 <| good_cons Try.func76 m76 <| good_cons Try.func77 m77 <| good_cons Try.func78 m78 <| good_cons Try.func83 m83 <| good_cons Try.func95 m95 <| good_cons Try.func96 m96 <| good_cons Try.func99 m99 <| good_cons Try.func111 m111 <| good_cons Try.func119 m119 <| good_cons Try.func122 m122 <| good_cons Try.func123 m123 <| good_cons Try.func124 m124 <| good_cons Try.func125 m125 <| good_cons Try.func128 m128 <| good_cons Try.func129 m129 <| good_cons Try.func130 m130 <| good_cons Try.func131 m131 <| good_cons Try.func148 m148 <| good_cons Try.func156 m156 <| good_cons Try.func160 m160 <| good_cons Try.func161 m161 <| good_cons Try.func162 m162 <| good_cons Try.func163 m163 <| good_cons Try.func164 m164 <| good_cons Try.func165 m165 <| good_cons Try.func176 m176 <| good_nil
theorem c_closed31 : Contract Try.prog 31 (sp0 (some true)) := contract_closedG mixed texts31_good lib (NW := fun f => if f = 96 then some 5 else if f = 127 then some 10001 else none) (m := 2000) (n := 80) (by decide +kernel)


theorem modelOf_trees (f : Forest) : (modelOf f).trees.length ≤ 4 := by
  unfold modelOf
  simp
  omega
theorem evalM_more (m : Model) (t : Tree) (c : Int) (p : Point) : evalM ⟨m.dim, m.classes, m.bias, m.trees ++ [t]⟩ c p = evalF c p (evalM m c p) t := by
  unfold evalM
  simp only [List.foldl_append, List.foldl_cons, List.foldl_nil]
theorem sizeM_more (m : Model) (t : Tree) : sizeM ⟨m.dim, m.classes, m.bias, m.trees ++ [t]⟩ = sizeM m + (t.nodes.length : Int) := by
  unfold sizeM
  simp only [List.foldl_append, List.foldl_cons, List.foldl_nil]
  rfl
theorem rm_more {m : Model} (h : RM m) (h4 : m.trees.length ≤ 4) {t : Tree} (ht : 0 ≤ t.cls ∧ t.cls < m.classes ∧ RT t.nodes m.dim) : RM ⟨m.dim, m.classes, m.bias, m.trees ++ [t]⟩ where
  dim := h.dim
  classes := h.classes
  bias := h.bias
  none1 := h.none1
  none2 := h.none2
  trees := by simp; omega
  tree := fun x hx => by
    simp only [List.mem_append, List.mem_singleton] at hx
    rcases hx with hx | rfl
    · exact h.tree x hx
    · exact ht
theorem rm_bare {m : Model} (h : RM m) : RM ⟨m.dim, m.classes, m.bias, []⟩ where
  dim := h.dim
  classes := h.classes
  bias := h.bias
  none1 := h.none1
  none2 := h.none2
  trees := by simp
  tree := fun x hx => by simp at hx

set_option maxHeartbeats 8000000 in
set_option maxRecDepth 8000 in
theorem runs_law (f : Forest) (t : KTree) (p : Point) (c : Bool) (h : some true = some c) : Runs (tbl [(45, sp1 ModelC), (63, sp3 Within), (75, sp2 NodesC), (69, sp3 EvalT), (99, sp2 ValueC), (72, sp1 SizeC), (31, sp0 (some true))]) a35 [Arg.enc f, Arg.enc t, Arg.enc p] (Arg.enc c) := by
  cases h
  refine ⟨rfl, fun g => run_def ?_⟩
  unfold a35
  have hm := rm_modelOf f
  have h4 := modelOf_trees f
  have hM : ModelC f = some (modelOf f) := rfl
  generalize modelOf f = m at *
  have hd := hm.dim
  have hk := hm.classes
  have w0 : IntKind.i64.wrap (m.classes - 1) = m.classes - 1 := wrap64 (by omega) (by omega)
  have hW := within_of t.cls 0 (m.classes - 1) (by omega)
  have hw := within_le t.cls 0 (m.classes - 1) (by omega)
  generalize within t.cls 0 (m.classes - 1) = cls at *
  have hN : NodesC t m.dim = some (treeNodes t m.dim) := part_of hd _
  have hrt := rt_treeNodes t m.dim hd.1 hd.2
  generalize treeNodes t m.dim = ns at *
  have hV : ValueC ns p = some (valueAt ns p) := part_of ⟨_, hrt⟩ _
  have hmo := rm_more hm h4 (t := ⟨cls, ns⟩) ⟨hw.1, (by show cls < m.classes; omega), hrt⟩
  have hba := rm_bare hm
  have hS := hm.size
  have hSm := hmo.size
  have hsz := sizeM_more m ⟨cls, ns⟩
  have hE : ∀ c, 0 ≤ c → c < m.classes → EvalT m c p = some (evalM m c p) := fun c c0 c1 => by unfold EvalT; rw [part_of hm.okMW, rightM_true.2 hm, if_pos rfl, evalX, if_pos ⟨c0, c1⟩]
  have hEm : ∀ c, 0 ≤ c → c < m.classes → EvalT ⟨m.dim, m.classes, m.bias, m.trees ++ [⟨cls, ns⟩]⟩ c p = some (evalF c p (evalM m c p) ⟨cls, ns⟩) := fun c c0 c1 => by
    unfold EvalT
    rw [part_of hmo.okMW, rightM_true.2 hmo, if_pos rfl, evalX, if_pos ⟨c0, c1⟩, evalM_more]
  have hEb : ∀ c, 0 ≤ c → c < m.classes → EvalT ⟨m.dim, m.classes, m.bias, []⟩ c p = some (m.bias.get c) := fun c c0 c1 => by
    unfold EvalT
    rw [part_of hba.okMW, rightM_true.2 hba, if_pos rfl, evalX, if_pos ⟨c0, c1⟩]
    rfl
  have b3 : m.trees.length ≤ maxN := by unfold maxN; omega
  have b4 : m.trees.length ≤ 1099511627775 := by omega
  have b4' : m.trees.length ≤ 1099511627776 := by omega
  have n3 : ns.length ≤ maxN := by have := hrt.le; unfold maxN; omega
  have hEt : encL (m.trees ++ [⟨cls, ns⟩]) = encL m.trees ++ [.int .i64 cls, .lst ns.length (encL ns)] := by rw [encL_append]; rfl
  have htl : (m.trees ++ [(⟨cls, ns⟩ : Tree)]).length = m.trees.length + 1 := by simp
  generalize hts : m.trees ++ [(⟨cls, ns⟩ : Tree)] = ts at *
  have htk : List.take (m.trees.length * 2) (encL m.trees) = encL m.trees := take_rows _ _ (by simp)
  have c1 : ts.length * 2 ≤ (encL ts).length := by rw [encL_length]; simp
  have htk2 : List.take (ts.length * 2) (encL ts) = encL ts := take_rows _ _ (by simp)
  simp -implicitDefEqProofs [hM, w0, hW, hN, b3, b4, b4', encL_length]
  have hdb : (Arg.dec (AV.agg [.int .i64 m.dim, .int .i64 m.classes, .int .i64 m.bias.b0, .int .i64 m.bias.b1, .int .i64 m.bias.b2, .lst 0 []]) : Option Model) = some ⟨m.dim, m.classes, m.bias, []⟩ := Arg.dec_enc (⟨m.dim, m.classes, m.bias, []⟩ : Model)
  refine run_while (c := c35_21) (fun n s => ∃ (i : Int) (fz : Bool) (g : Nat → Nat), 0 ≤ i ∧ i ≤ m.classes ∧ (n : Int) = m.classes - i ∧ s = ⟨[(5, .ptr 5 (g 5) 0), (7, .ptr 7 (g 7) 0), (8, .ptr 8 (g 8) 0), (9, .ptr 9 (g 9) 0), (10, .ptr 10 (g 10) 0), (11, .int .i64 i)],
    [(5, ⟨Row.enc p, false, 0⟩), (7, ⟨Row.enc m, false, 0⟩), (8, ⟨[.int .i64 m.dim, .int .i64 m.classes, .int .i64 m.bias.b0, .int .i64 m.bias.b1, .int .i64 m.bias.b2, .own 10805 (g 10805) 0 ts.length], false, 0⟩), (9, ⟨[.int .i64 cls, .lst ns.length (encL ns)], false, 0⟩),
     (10, ⟨[.int .i64 m.dim, .int .i64 m.classes, .int .i64 m.bias.b0, .int .i64 m.bias.b1, .int .i64 m.bias.b2, .nils], false, 0⟩), (10805, ⟨encL ts, fz, 2⟩)], g⟩) m.classes.toNat ⟨0, false, bump 10 (bump 10805 (bump 32 (bump 30 (bump 27 (bump 9 (bump 8 (bump 7 (bump 5 (bump 4 (bump 3 g)))))))))), by omega, by omega, by omega, by simp [htk, ← hEt, htl]⟩ ?_
  rintro n s ⟨i, fz, g, i0, i1, hn2, rfl⟩
  by_cases h1 : i < m.classes
  case pos =>
    have w1 : IntKind.i64.wrap (i + 1) = i + 1 := wrap64 (by omega) (by omega)
    have e1 := hE i i0 h1
    have e2 := hEm i i0 h1
    have e3 := hEb i i0 h1
    have hb1 := evalM_le hm i p
    have i3 : i < 3 := by omega
    have hb2 := of_fits (valueAt_fits hrt p)
    by_cases hc : i = cls
    · subst hc
      have hF : evalF i p (evalM m i p) ⟨i, ns⟩ = evalM m i p + valueAt ns p := by simp [evalF]
      rw [hF] at e2
      have w2 : IntKind.i64.wrap (evalM m i p + valueAt ns p - evalM m i p) = valueAt ns p := by
        have : evalM m i p + valueAt ns p - evalM m i p = valueAt ns p := by omega
        rw [this]
        exact wrap64 (by omega) (by omega)
      simp -implicitDefEqProofs [h1, w1, e1, e2, e3, w2, c1, htk2, hV, i0, i3, hdb, -Go.Am.pure1, pure1_own, pure1_nils, pure1_int, pure1_bool, pure1_lst]
      exact ⟨n - 1, by omega, i + 1, by omega, by omega, by omega, rfl⟩
    · have hF : evalF i p (evalM m i p) ⟨cls, ns⟩ = evalM m i p := by simp [evalF, Ne.symm hc]
      rw [hF] at e2
      have w2 : IntKind.i64.wrap (evalM m i p - evalM m i p) = 0 := by
        rw [Int.sub_self]
        decide
      simp -implicitDefEqProofs [h1, w1, e1, e2, e3, w2, c1, htk2, hc, i0, i3, hdb, -Go.Am.pure1, pure1_own, pure1_nils, pure1_int, pure1_bool, pure1_lst]
      exact ⟨n - 1, by omega, i + 1, by omega, by omega, by omega, rfl⟩
  case neg =>
    have hsl := size_le m.trees 0 (fun t ht => by have := (hm.tree t ht).2.2.le; omega)
    have hrl := hrt.le
    have w2 : IntKind.i64.wrap (sizeM m + (ns.length : Int)) = sizeM m + (ns.length : Int) := by unfold sizeM; exact wrap64 (by omega) (by omega)
    simp -implicitDefEqProofs [h1, hS, hSm, hsz, w2, c1, htk2, n3, -Go.Am.pure1, pure1_own, pure1_nils, pure1_int, pure1_bool, pure1_lst]
noncomputable def law_sp : List AV → Option AV := sp3 fun (_ : Forest) (_ : KTree) (_ : Point) => some true
theorem law_holds : Contract Try.prog 35 law_sp :=
  contract_of_runs mixed (tbl_cons c_Model (tbl_cons c_Within (tbl_cons c_Nodes (tbl_cons c_EvalT (tbl_cons c_Value (tbl_cons c_Size (tbl_cons c_closed31 tbl_nil))))))) Try.func35 m35 (sp3_runs runs_law)
theorem law_says (f : Forest) (t : KTree) (p : Point) : law_sp [Arg.enc f, Arg.enc t, Arg.enc p] = some (.bool true) := by
  simp only [law_sp, sp3, Arg.dec_enc, Option.bind_some]
  rfl
end Go.Co
