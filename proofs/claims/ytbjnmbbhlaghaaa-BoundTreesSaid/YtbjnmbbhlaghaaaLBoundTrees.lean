/- The law BoundTrees: what its text computes. -/
import Derived.Test.YtbjnmbbhlaghaaaCoM
import Derived.Test.YtbjnmbbhlaghaaaCoI
import Derived.Test.YtbjnmbbhlaghaaaCoSh
namespace Go.Co
open Go.Am Go.Proofs
set_option linter.unusedSimpArgs false
set_option linter.unusedVariables false

/- copse/copselaw14.BoundTrees -/
def c5_0 : ACode := .ops [⟨some 2, .box (.t 0) 4, none, []⟩,
  ⟨some 4, .mv (.c (.bool false)), none, []⟩] [1, 2]
theorem r5_0 {C : Cs} {k : List Fr} {s : St} {Q : Post} : run C c5_0 k s Q = run C (.ops [⟨some 2, .box (.t 0) 4, none, []⟩,
  ⟨some 4, .mv (.c (.bool false)), none, []⟩] [1, 2]) k s Q := rfl
def c5_1 : ACode := .ops [⟨some 22, .load 4 true (.t 2), none, [2]⟩,
  ⟨some 23, .call 45 [.t 22], none, []⟩,
  ⟨some 5, .alloc [.int .i64 0, .int .i64 0, .int .i64 0, .int .i64 0, .int .i64 0, .nils], none, []⟩,
  ⟨none, .store (.t 5) 6 (.t 23), none, [5]⟩] [1, 5]
theorem r5_1 {C : Cs} {k : List Fr} {s : St} {Q : Post} : run C c5_1 k s Q = run C (.ops [⟨some 22, .load 4 true (.t 2), none, [2]⟩,
  ⟨some 23, .call 45 [.t 22], none, []⟩,
  ⟨some 5, .alloc [.int .i64 0, .int .i64 0, .int .i64 0, .int .i64 0, .int .i64 0, .nils], none, []⟩,
  ⟨none, .store (.t 5) 6 (.t 23), none, [5]⟩] [1, 5]) k s Q := rfl
def c5_2 : ACode := .ops [⟨some 24, .load 6 true (.t 5), none, [5]⟩,
  ⟨some 25, .mv (.t 1), none, []⟩,
  ⟨some 26, .call 46 [.t 24, .t 25], none, []⟩,
  ⟨some 6, .alloc [.int .i64 0, .int .i64 0, .int .i64 0, .int .i64 0, .int .i64 0, .int .i64 0, .int .i64 0, .int .i64 0, .int .i64 0, .int .i64 0], none, []⟩,
  ⟨none, .store (.t 6) 10 (.t 26), none, [6]⟩] [5, 6]
theorem r5_2 {C : Cs} {k : List Fr} {s : St} {Q : Post} : run C c5_2 k s Q = run C (.ops [⟨some 24, .load 6 true (.t 5), none, [5]⟩,
  ⟨some 25, .mv (.t 1), none, []⟩,
  ⟨some 26, .call 46 [.t 24, .t 25], none, []⟩,
  ⟨some 6, .alloc [.int .i64 0, .int .i64 0, .int .i64 0, .int .i64 0, .int .i64 0, .int .i64 0, .int .i64 0, .int .i64 0, .int .i64 0, .int .i64 0], none, []⟩,
  ⟨none, .store (.t 6) 10 (.t 26), none, [6]⟩] [5, 6]) k s Q := rfl
def c5_3 : ACode := .ops [⟨some 7, .mv (.c (.int .i64 0)), none, []⟩] [5, 6, 7]
theorem r5_3 {C : Cs} {k : List Fr} {s : St} {Q : Post} : run C c5_3 k s Q = run C (.ops [⟨some 7, .mv (.c (.int .i64 0)), none, []⟩] [5, 6, 7]) k s Q := rfl
def c5_4 : ACode := .ops [⟨some 27, .mv (.t 7), none, []⟩,
  ⟨some 28, .fad (.t 5) 1, none, [5]⟩,
  ⟨some 29, .load 1 false (.t 28), none, [5]⟩,
  ⟨some 30, .bin .lss (.t 27) (.t 29), none, []⟩] [5, 6, 7, 30]
theorem r5_4 {C : Cs} {k : List Fr} {s : St} {Q : Post} : run C c5_4 k s Q = run C (.ops [⟨some 27, .mv (.t 7), none, []⟩,
  ⟨some 28, .fad (.t 5) 1, none, [5]⟩,
  ⟨some 29, .load 1 false (.t 28), none, [5]⟩,
  ⟨some 30, .bin .lss (.t 27) (.t 29), none, []⟩] [5, 6, 7, 30]) k s Q := rfl
def c5_5 : ACode := .cond (.t 30) .skip (.exit 0)
theorem r5_5 {C : Cs} {k : List Fr} {s : St} {Q : Post} : run C c5_5 k s Q = run C (.cond (.t 30) .skip (.exit 0)) k s Q := rfl
def c5_6 : ACode := .seq c5_4 c5_5
theorem r5_6 {C : Cs} {k : List Fr} {s : St} {Q : Post} : run C c5_6 k s Q = run C (.seq c5_4 c5_5) k s Q := rfl
def c5_7 : ACode := .ops [⟨some 34, .load 6 true (.t 5), none, [5]⟩,
  ⟨some 35, .mv (.t 7), none, []⟩,
  ⟨some 36, .load 10 true (.t 6), none, [6]⟩,
  ⟨some 37, .call 44 [.t 34, .t 35, .t 36], none, []⟩,
  ⟨some 33, .mv (.t 37), none, []⟩,
  ⟨some 38, .ext (.t 33) 0, none, []⟩,
  ⟨some 39, .ext (.t 33) 1, none, []⟩,
  ⟨some 40, .ext (.t 33) 2, none, []⟩,
  ⟨some 8, .mv (.t 38), none, []⟩,
  ⟨some 9, .mv (.t 39), none, []⟩,
  ⟨some 10, .mv (.t 40), none, []⟩] [5, 6, 7, 8, 9, 10]
theorem r5_7 {C : Cs} {k : List Fr} {s : St} {Q : Post} : run C c5_7 k s Q = run C (.ops [⟨some 34, .load 6 true (.t 5), none, [5]⟩,
  ⟨some 35, .mv (.t 7), none, []⟩,
  ⟨some 36, .load 10 true (.t 6), none, [6]⟩,
  ⟨some 37, .call 44 [.t 34, .t 35, .t 36], none, []⟩,
  ⟨some 33, .mv (.t 37), none, []⟩,
  ⟨some 38, .ext (.t 33) 0, none, []⟩,
  ⟨some 39, .ext (.t 33) 1, none, []⟩,
  ⟨some 40, .ext (.t 33) 2, none, []⟩,
  ⟨some 8, .mv (.t 38), none, []⟩,
  ⟨some 9, .mv (.t 39), none, []⟩,
  ⟨some 10, .mv (.t 40), none, []⟩] [5, 6, 7, 8, 9, 10]) k s Q := rfl
def c5_8 : ACode := .ops [⟨some 41, .mv (.t 7), none, []⟩,
  ⟨some 42, .fad (.t 5) 2, none, [5]⟩,
  ⟨some 43, .iad (.t 42) (.t 41) 1 3, none, [5]⟩,
  ⟨some 44, .load 1 false (.t 43), none, [5]⟩,
  ⟨some 45, .mv (.t 7), none, []⟩,
  ⟨some 46, .fad (.t 5) 2, none, [5]⟩,
  ⟨some 47, .iad (.t 46) (.t 45) 1 3, none, [5]⟩,
  ⟨some 48, .load 1 false (.t 47), none, [5]⟩,
  ⟨some 11, .mv (.t 44), none, []⟩,
  ⟨some 12, .mv (.t 48), none, []⟩] [5, 6, 7, 8, 9, 10, 11, 12]
theorem r5_8 {C : Cs} {k : List Fr} {s : St} {Q : Post} : run C c5_8 k s Q = run C (.ops [⟨some 41, .mv (.t 7), none, []⟩,
  ⟨some 42, .fad (.t 5) 2, none, [5]⟩,
  ⟨some 43, .iad (.t 42) (.t 41) 1 3, none, [5]⟩,
  ⟨some 44, .load 1 false (.t 43), none, [5]⟩,
  ⟨some 45, .mv (.t 7), none, []⟩,
  ⟨some 46, .fad (.t 5) 2, none, [5]⟩,
  ⟨some 47, .iad (.t 46) (.t 45) 1 3, none, [5]⟩,
  ⟨some 48, .load 1 false (.t 47), none, [5]⟩,
  ⟨some 11, .mv (.t 44), none, []⟩,
  ⟨some 12, .mv (.t 48), none, []⟩] [5, 6, 7, 8, 9, 10, 11, 12]) k s Q := rfl
def c5_9 : ACode := .ops [⟨some 49, .fad (.t 5) 5, none, [5]⟩,
  ⟨some 50, .load 1 false (.t 49), none, [5]⟩,
  ⟨some 51, .len (.t 50), none, []⟩,
  ⟨some 52, .mv (.c (.int .i64 0)), none, []⟩] [5, 6, 7, 8, 9, 10, 11, 12, 50, 51, 52]
theorem r5_9 {C : Cs} {k : List Fr} {s : St} {Q : Post} : run C c5_9 k s Q = run C (.ops [⟨some 49, .fad (.t 5) 5, none, [5]⟩,
  ⟨some 50, .load 1 false (.t 49), none, [5]⟩,
  ⟨some 51, .len (.t 50), none, []⟩,
  ⟨some 52, .mv (.c (.int .i64 0)), none, []⟩] [5, 6, 7, 8, 9, 10, 11, 12, 50, 51, 52]) k s Q := rfl
def c5_10 : ACode := .ops [⟨some 53, .bin .lss (.t 52) (.t 51), none, []⟩] [5, 6, 7, 8, 9, 10, 11, 12, 50, 51, 52, 53]
theorem r5_10 {C : Cs} {k : List Fr} {s : St} {Q : Post} : run C c5_10 k s Q = run C (.ops [⟨some 53, .bin .lss (.t 52) (.t 51), none, []⟩] [5, 6, 7, 8, 9, 10, 11, 12, 50, 51, 52, 53]) k s Q := rfl
def c5_11 : ACode := .cond (.t 53) .skip (.exit 2)
theorem r5_11 {C : Cs} {k : List Fr} {s : St} {Q : Post} : run C c5_11 k s Q = run C (.cond (.t 53) .skip (.exit 2)) k s Q := rfl
def c5_12 : ACode := .ops [⟨some 54, .ias (.t 50) (.t 52) 2, none, []⟩,
  ⟨some 55, .load 2 true (.t 54), none, []⟩,
  ⟨some 14, .alloc [.int .i64 0, .nils], none, []⟩,
  ⟨none, .store (.t 14) 2 (.t 55), none, [14]⟩] [5, 6, 7, 8, 9, 10, 11, 12, 14, 50, 51, 52]
theorem r5_12 {C : Cs} {k : List Fr} {s : St} {Q : Post} : run C c5_12 k s Q = run C (.ops [⟨some 54, .ias (.t 50) (.t 52) 2, none, []⟩,
  ⟨some 55, .load 2 true (.t 54), none, []⟩,
  ⟨some 14, .alloc [.int .i64 0, .nils], none, []⟩,
  ⟨none, .store (.t 14) 2 (.t 55), none, [14]⟩] [5, 6, 7, 8, 9, 10, 11, 12, 14, 50, 51, 52]) k s Q := rfl
def c5_13 : ACode := .ops [⟨some 56, .fad (.t 14) 0, none, [14]⟩,
  ⟨some 57, .load 1 false (.t 56), none, [14]⟩,
  ⟨some 58, .mv (.t 7), none, []⟩,
  ⟨some 59, .bin .neq (.t 57) (.t 58), none, []⟩] [5, 6, 7, 8, 9, 10, 11, 12, 14, 50, 51, 52, 59]
theorem r5_13 {C : Cs} {k : List Fr} {s : St} {Q : Post} : run C c5_13 k s Q = run C (.ops [⟨some 56, .fad (.t 14) 0, none, [14]⟩,
  ⟨some 57, .load 1 false (.t 56), none, [14]⟩,
  ⟨some 58, .mv (.t 7), none, []⟩,
  ⟨some 59, .bin .neq (.t 57) (.t 58), none, []⟩] [5, 6, 7, 8, 9, 10, 11, 12, 14, 50, 51, 52, 59]) k s Q := rfl
def c5_14 : ACode := .cond (.t 59) (.exit 3) .skip
theorem r5_14 {C : Cs} {k : List Fr} {s : St} {Q : Post} : run C c5_14 k s Q = run C (.cond (.t 59) (.exit 3) .skip) k s Q := rfl
def c5_15 : ACode := .seq c5_13 c5_14
theorem r5_15 {C : Cs} {k : List Fr} {s : St} {Q : Post} : run C c5_15 k s Q = run C (.seq c5_13 c5_14) k s Q := rfl
def c5_16 : ACode := .ops [⟨some 61, .fad (.t 14) 1, none, [14]⟩,
  ⟨some 62, .load 1 false (.t 61), none, [14]⟩,
  ⟨some 63, .load 10 true (.t 6), none, [6]⟩,
  ⟨some 64, .call 48 [.t 62, .t 63], none, []⟩,
  ⟨some 60, .mv (.t 64), none, []⟩,
  ⟨some 65, .ext (.t 60) 0, none, []⟩,
  ⟨some 66, .ext (.t 60) 1, none, []⟩,
  ⟨some 67, .ext (.t 60) 2, none, []⟩,
  ⟨some 15, .mv (.t 65), none, []⟩,
  ⟨some 16, .mv (.t 66), none, []⟩,
  ⟨some 17, .mv (.t 67), none, []⟩] [5, 6, 7, 8, 9, 10, 11, 12, 14, 15, 16, 17, 50, 51, 52]
theorem r5_16 {C : Cs} {k : List Fr} {s : St} {Q : Post} : run C c5_16 k s Q = run C (.ops [⟨some 61, .fad (.t 14) 1, none, [14]⟩,
  ⟨some 62, .load 1 false (.t 61), none, [14]⟩,
  ⟨some 63, .load 10 true (.t 6), none, [6]⟩,
  ⟨some 64, .call 48 [.t 62, .t 63], none, []⟩,
  ⟨some 60, .mv (.t 64), none, []⟩,
  ⟨some 65, .ext (.t 60) 0, none, []⟩,
  ⟨some 66, .ext (.t 60) 1, none, []⟩,
  ⟨some 67, .ext (.t 60) 2, none, []⟩,
  ⟨some 15, .mv (.t 65), none, []⟩,
  ⟨some 16, .mv (.t 66), none, []⟩,
  ⟨some 17, .mv (.t 67), none, []⟩] [5, 6, 7, 8, 9, 10, 11, 12, 14, 15, 16, 17, 50, 51, 52]) k s Q := rfl
def c5_17 : ACode := .ops [⟨some 18, .mv (.c (.bool false)), none, []⟩,
  ⟨some 19, .mv (.c (.bool false)), none, []⟩] [5, 6, 7, 8, 9, 10, 11, 12, 14, 15, 16, 17, 18, 19, 50, 51, 52]
theorem r5_17 {C : Cs} {k : List Fr} {s : St} {Q : Post} : run C c5_17 k s Q = run C (.ops [⟨some 18, .mv (.c (.bool false)), none, []⟩,
  ⟨some 19, .mv (.c (.bool false)), none, []⟩] [5, 6, 7, 8, 9, 10, 11, 12, 14, 15, 16, 17, 18, 19, 50, 51, 52]) k s Q := rfl
def c5_18 : ACode := .ops [⟨some 68, .fad (.t 14) 1, none, [14]⟩,
  ⟨some 69, .load 1 false (.t 68), none, [14]⟩,
  ⟨some 70, .load 10 true (.t 6), none, [6]⟩,
  ⟨some 71, .call 51 [.t 69, .t 70], none, []⟩,
  ⟨some 72, .len (.t 71), none, []⟩,
  ⟨some 73, .mv (.c (.int .i64 0)), none, []⟩] [5, 6, 7, 8, 9, 10, 11, 12, 15, 16, 17, 18, 19, 50, 51, 52, 71, 72, 73]
theorem r5_18 {C : Cs} {k : List Fr} {s : St} {Q : Post} : run C c5_18 k s Q = run C (.ops [⟨some 68, .fad (.t 14) 1, none, [14]⟩,
  ⟨some 69, .load 1 false (.t 68), none, [14]⟩,
  ⟨some 70, .load 10 true (.t 6), none, [6]⟩,
  ⟨some 71, .call 51 [.t 69, .t 70], none, []⟩,
  ⟨some 72, .len (.t 71), none, []⟩,
  ⟨some 73, .mv (.c (.int .i64 0)), none, []⟩] [5, 6, 7, 8, 9, 10, 11, 12, 15, 16, 17, 18, 19, 50, 51, 52, 71, 72, 73]) k s Q := rfl
def c5_19 : ACode := .ops [⟨some 74, .bin .lss (.t 73) (.t 72), none, []⟩] [5, 6, 7, 8, 9, 10, 11, 12, 15, 16, 17, 18, 19, 50, 51, 52, 71, 72, 73, 74]
theorem r5_19 {C : Cs} {k : List Fr} {s : St} {Q : Post} : run C c5_19 k s Q = run C (.ops [⟨some 74, .bin .lss (.t 73) (.t 72), none, []⟩] [5, 6, 7, 8, 9, 10, 11, 12, 15, 16, 17, 18, 19, 50, 51, 52, 71, 72, 73, 74]) k s Q := rfl
def c5_20 : ACode := .cond (.t 74) .skip (.exit 4)
theorem r5_20 {C : Cs} {k : List Fr} {s : St} {Q : Post} : run C c5_20 k s Q = run C (.cond (.t 74) .skip (.exit 4)) k s Q := rfl
def c5_21 : ACode := .ops [⟨some 75, .ias (.t 71) (.t 73) 11, none, []⟩,
  ⟨some 76, .load 11 true (.t 75), none, []⟩,
  ⟨some 21, .alloc [.int .i64 0, .int .i64 0, .int .i64 0, .int .i64 0, .int .i64 0, .int .i64 0, .int .i64 0, .int .i64 0, .int .i64 0, .int .i64 0, .int .i64 0], none, []⟩,
  ⟨none, .store (.t 21) 11 (.t 76), none, [21]⟩] [5, 6, 7, 8, 9, 10, 11, 12, 15, 16, 17, 18, 19, 21, 50, 51, 52, 71, 72, 73]
theorem r5_21 {C : Cs} {k : List Fr} {s : St} {Q : Post} : run C c5_21 k s Q = run C (.ops [⟨some 75, .ias (.t 71) (.t 73) 11, none, []⟩,
  ⟨some 76, .load 11 true (.t 75), none, []⟩,
  ⟨some 21, .alloc [.int .i64 0, .int .i64 0, .int .i64 0, .int .i64 0, .int .i64 0, .int .i64 0, .int .i64 0, .int .i64 0, .int .i64 0, .int .i64 0, .int .i64 0], none, []⟩,
  ⟨none, .store (.t 21) 11 (.t 76), none, [21]⟩] [5, 6, 7, 8, 9, 10, 11, 12, 15, 16, 17, 18, 19, 21, 50, 51, 52, 71, 72, 73]) k s Q := rfl
def c5_22 : ACode := .ops [⟨some 77, .mv (.t 18), none, []⟩,
  ⟨some 78, .mv (.t 77), none, []⟩,
  ⟨some 79, .fad (.t 21) 10, some (78, false), [21]⟩,
  ⟨some 80, .load 1 false (.t 79), some (78, false), [21]⟩,
  ⟨some 81, .mv (.t 15), some (78, false), []⟩,
  ⟨some 82, .bin .eql (.t 80) (.t 81), some (78, false), []⟩,
  ⟨some 83, .pick (.t 78) (.c (.bool true)) (.t 82), none, []⟩,
  ⟨some 84, .mv (.t 19), none, []⟩,
  ⟨some 85, .mv (.t 84), none, []⟩,
  ⟨some 86, .fad (.t 21) 10, some (85, false), [21]⟩,
  ⟨some 87, .load 1 false (.t 86), some (85, false), [21]⟩,
  ⟨some 88, .mv (.t 16), some (85, false), []⟩,
  ⟨some 89, .bin .eql (.t 87) (.t 88), some (85, false), []⟩,
  ⟨some 90, .pick (.t 85) (.c (.bool true)) (.t 89), none, []⟩,
  ⟨some 18, .mv (.t 83), none, []⟩,
  ⟨some 19, .mv (.t 90), none, []⟩] [5, 6, 7, 8, 9, 10, 11, 12, 15, 16, 17, 18, 19, 21, 50, 51, 52, 71, 72, 73]
theorem r5_22 {C : Cs} {k : List Fr} {s : St} {Q : Post} : run C c5_22 k s Q = run C (.ops [⟨some 77, .mv (.t 18), none, []⟩,
  ⟨some 78, .mv (.t 77), none, []⟩,
  ⟨some 79, .fad (.t 21) 10, some (78, false), [21]⟩,
  ⟨some 80, .load 1 false (.t 79), some (78, false), [21]⟩,
  ⟨some 81, .mv (.t 15), some (78, false), []⟩,
  ⟨some 82, .bin .eql (.t 80) (.t 81), some (78, false), []⟩,
  ⟨some 83, .pick (.t 78) (.c (.bool true)) (.t 82), none, []⟩,
  ⟨some 84, .mv (.t 19), none, []⟩,
  ⟨some 85, .mv (.t 84), none, []⟩,
  ⟨some 86, .fad (.t 21) 10, some (85, false), [21]⟩,
  ⟨some 87, .load 1 false (.t 86), some (85, false), [21]⟩,
  ⟨some 88, .mv (.t 16), some (85, false), []⟩,
  ⟨some 89, .bin .eql (.t 87) (.t 88), some (85, false), []⟩,
  ⟨some 90, .pick (.t 85) (.c (.bool true)) (.t 89), none, []⟩,
  ⟨some 18, .mv (.t 83), none, []⟩,
  ⟨some 19, .mv (.t 90), none, []⟩] [5, 6, 7, 8, 9, 10, 11, 12, 15, 16, 17, 18, 19, 21, 50, 51, 52, 71, 72, 73]) k s Q := rfl
def c5_23 : ACode := .ops [⟨some 91, .fad (.t 21) 10, none, [21]⟩,
  ⟨some 92, .load 1 false (.t 91), none, [21]⟩,
  ⟨some 93, .mv (.t 15), none, []⟩,
  ⟨some 94, .bin .lss (.t 92) (.t 93), none, []⟩,
  ⟨some 95, .mv (.t 94), none, []⟩,
  ⟨some 96, .fad (.t 21) 10, some (95, false), [21]⟩,
  ⟨some 97, .load 1 false (.t 96), some (95, false), [21]⟩,
  ⟨some 98, .mv (.t 16), some (95, false), []⟩,
  ⟨some 99, .bin .gtr (.t 97) (.t 98), some (95, false), []⟩,
  ⟨some 100, .pick (.t 95) (.c (.bool true)) (.t 99), none, []⟩] [5, 6, 7, 8, 9, 10, 11, 12, 15, 16, 17, 18, 19, 50, 51, 52, 71, 72, 73, 100]
theorem r5_23 {C : Cs} {k : List Fr} {s : St} {Q : Post} : run C c5_23 k s Q = run C (.ops [⟨some 91, .fad (.t 21) 10, none, [21]⟩,
  ⟨some 92, .load 1 false (.t 91), none, [21]⟩,
  ⟨some 93, .mv (.t 15), none, []⟩,
  ⟨some 94, .bin .lss (.t 92) (.t 93), none, []⟩,
  ⟨some 95, .mv (.t 94), none, []⟩,
  ⟨some 96, .fad (.t 21) 10, some (95, false), [21]⟩,
  ⟨some 97, .load 1 false (.t 96), some (95, false), [21]⟩,
  ⟨some 98, .mv (.t 16), some (95, false), []⟩,
  ⟨some 99, .bin .gtr (.t 97) (.t 98), some (95, false), []⟩,
  ⟨some 100, .pick (.t 95) (.c (.bool true)) (.t 99), none, []⟩] [5, 6, 7, 8, 9, 10, 11, 12, 15, 16, 17, 18, 19, 50, 51, 52, 71, 72, 73, 100]) k s Q := rfl
def c5_24 : ACode := .ops [⟨some 4, .mv (.c (.bool false)), none, []⟩] [4]
theorem r5_24 {C : Cs} {k : List Fr} {s : St} {Q : Post} : run C c5_24 k s Q = run C (.ops [⟨some 4, .mv (.c (.bool false)), none, []⟩] [4]) k s Q := rfl
def c5_25 : ACode := .seq c5_24 .ret
theorem r5_25 {C : Cs} {k : List Fr} {s : St} {Q : Post} : run C c5_25 k s Q = run C (.seq c5_24 .ret) k s Q := rfl
def c5_26 : ACode := .cond (.t 100) c5_25 .skip
theorem r5_26 {C : Cs} {k : List Fr} {s : St} {Q : Post} : run C c5_26 k s Q = run C (.cond (.t 100) c5_25 .skip) k s Q := rfl
def c5_27 : ACode := .seq c5_23 c5_26
theorem r5_27 {C : Cs} {k : List Fr} {s : St} {Q : Post} : run C c5_27 k s Q = run C (.seq c5_23 c5_26) k s Q := rfl
def c5_28 : ACode := .seq c5_22 c5_27
theorem r5_28 {C : Cs} {k : List Fr} {s : St} {Q : Post} : run C c5_28 k s Q = run C (.seq c5_22 c5_27) k s Q := rfl
def c5_29 : ACode := .seq c5_21 c5_28
theorem r5_29 {C : Cs} {k : List Fr} {s : St} {Q : Post} : run C c5_29 k s Q = run C (.seq c5_21 c5_28) k s Q := rfl
def c5_30 : ACode := .block 5 c5_29
theorem r5_30 {C : Cs} {k : List Fr} {s : St} {Q : Post} : run C c5_30 k s Q = run C (.block 5 c5_29) k s Q := rfl
def c5_31 : ACode := .ops [⟨some 101, .bin .add (.t 73) (.c (.int .i64 1)), none, []⟩,
  ⟨some 73, .mv (.t 101), none, []⟩] [5, 6, 7, 8, 9, 10, 11, 12, 15, 16, 17, 18, 19, 50, 51, 52, 71, 72, 73]
theorem r5_31 {C : Cs} {k : List Fr} {s : St} {Q : Post} : run C c5_31 k s Q = run C (.ops [⟨some 101, .bin .add (.t 73) (.c (.int .i64 1)), none, []⟩,
  ⟨some 73, .mv (.t 101), none, []⟩] [5, 6, 7, 8, 9, 10, 11, 12, 15, 16, 17, 18, 19, 50, 51, 52, 71, 72, 73]) k s Q := rfl
def c5_32 : ACode := .seq c5_30 c5_31
theorem r5_32 {C : Cs} {k : List Fr} {s : St} {Q : Post} : run C c5_32 k s Q = run C (.seq c5_30 c5_31) k s Q := rfl
def c5_33 : ACode := .seq c5_20 c5_32
theorem r5_33 {C : Cs} {k : List Fr} {s : St} {Q : Post} : run C c5_33 k s Q = run C (.seq c5_20 c5_32) k s Q := rfl
def c5_34 : ACode := .seq c5_19 c5_33
theorem r5_34 {C : Cs} {k : List Fr} {s : St} {Q : Post} : run C c5_34 k s Q = run C (.seq c5_19 c5_33) k s Q := rfl
def c5_35 : ACode := .keep [5, 6, 7, 8, 9, 10, 11, 12, 15, 16, 17, 18, 19, 50, 51, 52, 71, 72, 73] [5, 6] c5_34
theorem r5_35 {C : Cs} {k : List Fr} {s : St} {Q : Post} : run C c5_35 k s Q = run C (.keep [5, 6, 7, 8, 9, 10, 11, 12, 15, 16, 17, 18, 19, 50, 51, 52, 71, 72, 73] [5, 6] c5_34) k s Q := rfl
def c5_36 : ACode := .loop c5_35
theorem r5_36 {C : Cs} {k : List Fr} {s : St} {Q : Post} : run C c5_36 k s Q = run C (.loop c5_35) k s Q := rfl
def c5_37 : ACode := .block 4 c5_36
theorem r5_37 {C : Cs} {k : List Fr} {s : St} {Q : Post} : run C c5_37 k s Q = run C (.block 4 c5_36) k s Q := rfl
def c5_38 : ACode := .seq c5_18 c5_37
theorem r5_38 {C : Cs} {k : List Fr} {s : St} {Q : Post} : run C c5_38 k s Q = run C (.seq c5_18 c5_37) k s Q := rfl
def c5_39 : ACode := .ops [⟨some 102, .mv (.t 17), none, []⟩,
  ⟨some 103, .un .not (.t 102), none, []⟩,
  ⟨some 104, .mv (.t 103), none, []⟩,
  ⟨some 105, .mv (.t 18), some (104, false), []⟩,
  ⟨some 106, .un .not (.t 105), some (104, false), []⟩,
  ⟨some 107, .pick (.t 104) (.c (.bool true)) (.t 106), none, []⟩,
  ⟨some 108, .mv (.t 107), none, []⟩,
  ⟨some 109, .mv (.t 19), some (108, false), []⟩,
  ⟨some 110, .un .not (.t 109), some (108, false), []⟩,
  ⟨some 111, .pick (.t 108) (.c (.bool true)) (.t 110), none, []⟩] [5, 6, 7, 8, 9, 10, 11, 12, 15, 16, 50, 51, 52, 111]
theorem r5_39 {C : Cs} {k : List Fr} {s : St} {Q : Post} : run C c5_39 k s Q = run C (.ops [⟨some 102, .mv (.t 17), none, []⟩,
  ⟨some 103, .un .not (.t 102), none, []⟩,
  ⟨some 104, .mv (.t 103), none, []⟩,
  ⟨some 105, .mv (.t 18), some (104, false), []⟩,
  ⟨some 106, .un .not (.t 105), some (104, false), []⟩,
  ⟨some 107, .pick (.t 104) (.c (.bool true)) (.t 106), none, []⟩,
  ⟨some 108, .mv (.t 107), none, []⟩,
  ⟨some 109, .mv (.t 19), some (108, false), []⟩,
  ⟨some 110, .un .not (.t 109), some (108, false), []⟩,
  ⟨some 111, .pick (.t 108) (.c (.bool true)) (.t 110), none, []⟩] [5, 6, 7, 8, 9, 10, 11, 12, 15, 16, 50, 51, 52, 111]) k s Q := rfl
def c5_40 : ACode := .ops [⟨some 4, .mv (.c (.bool false)), none, []⟩] [4]
theorem r5_40 {C : Cs} {k : List Fr} {s : St} {Q : Post} : run C c5_40 k s Q = run C (.ops [⟨some 4, .mv (.c (.bool false)), none, []⟩] [4]) k s Q := rfl
def c5_41 : ACode := .seq c5_40 .ret
theorem r5_41 {C : Cs} {k : List Fr} {s : St} {Q : Post} : run C c5_41 k s Q = run C (.seq c5_40 .ret) k s Q := rfl
def c5_42 : ACode := .cond (.t 111) c5_41 .skip
theorem r5_42 {C : Cs} {k : List Fr} {s : St} {Q : Post} : run C c5_42 k s Q = run C (.cond (.t 111) c5_41 .skip) k s Q := rfl
def c5_43 : ACode := .seq c5_39 c5_42
theorem r5_43 {C : Cs} {k : List Fr} {s : St} {Q : Post} : run C c5_43 k s Q = run C (.seq c5_39 c5_42) k s Q := rfl
def c5_44 : ACode := .ops [⟨some 112, .mv (.t 11), none, []⟩,
  ⟨some 113, .mv (.t 15), none, []⟩,
  ⟨some 114, .bin .add (.t 112) (.t 113), none, []⟩,
  ⟨some 115, .mv (.t 12), none, []⟩,
  ⟨some 116, .mv (.t 16), none, []⟩,
  ⟨some 117, .bin .add (.t 115) (.t 116), none, []⟩,
  ⟨some 11, .mv (.t 114), none, []⟩,
  ⟨some 12, .mv (.t 117), none, []⟩] [5, 6, 7, 8, 9, 10, 11, 12, 50, 51, 52]
theorem r5_44 {C : Cs} {k : List Fr} {s : St} {Q : Post} : run C c5_44 k s Q = run C (.ops [⟨some 112, .mv (.t 11), none, []⟩,
  ⟨some 113, .mv (.t 15), none, []⟩,
  ⟨some 114, .bin .add (.t 112) (.t 113), none, []⟩,
  ⟨some 115, .mv (.t 12), none, []⟩,
  ⟨some 116, .mv (.t 16), none, []⟩,
  ⟨some 117, .bin .add (.t 115) (.t 116), none, []⟩,
  ⟨some 11, .mv (.t 114), none, []⟩,
  ⟨some 12, .mv (.t 117), none, []⟩] [5, 6, 7, 8, 9, 10, 11, 12, 50, 51, 52]) k s Q := rfl
def c5_45 : ACode := .seq c5_43 c5_44
theorem r5_45 {C : Cs} {k : List Fr} {s : St} {Q : Post} : run C c5_45 k s Q = run C (.seq c5_43 c5_44) k s Q := rfl
def c5_46 : ACode := .seq c5_38 c5_45
theorem r5_46 {C : Cs} {k : List Fr} {s : St} {Q : Post} : run C c5_46 k s Q = run C (.seq c5_38 c5_45) k s Q := rfl
def c5_47 : ACode := .seq c5_17 c5_46
theorem r5_47 {C : Cs} {k : List Fr} {s : St} {Q : Post} : run C c5_47 k s Q = run C (.seq c5_17 c5_46) k s Q := rfl
def c5_48 : ACode := .seq c5_16 c5_47
theorem r5_48 {C : Cs} {k : List Fr} {s : St} {Q : Post} : run C c5_48 k s Q = run C (.seq c5_16 c5_47) k s Q := rfl
def c5_49 : ACode := .seq c5_15 c5_48
theorem r5_49 {C : Cs} {k : List Fr} {s : St} {Q : Post} : run C c5_49 k s Q = run C (.seq c5_15 c5_48) k s Q := rfl
def c5_50 : ACode := .seq c5_12 c5_49
theorem r5_50 {C : Cs} {k : List Fr} {s : St} {Q : Post} : run C c5_50 k s Q = run C (.seq c5_12 c5_49) k s Q := rfl
def c5_51 : ACode := .block 3 c5_50
theorem r5_51 {C : Cs} {k : List Fr} {s : St} {Q : Post} : run C c5_51 k s Q = run C (.block 3 c5_50) k s Q := rfl
def c5_52 : ACode := .ops [⟨some 118, .bin .add (.t 52) (.c (.int .i64 1)), none, []⟩,
  ⟨some 52, .mv (.t 118), none, []⟩] [5, 6, 7, 8, 9, 10, 11, 12, 50, 51, 52]
theorem r5_52 {C : Cs} {k : List Fr} {s : St} {Q : Post} : run C c5_52 k s Q = run C (.ops [⟨some 118, .bin .add (.t 52) (.c (.int .i64 1)), none, []⟩,
  ⟨some 52, .mv (.t 118), none, []⟩] [5, 6, 7, 8, 9, 10, 11, 12, 50, 51, 52]) k s Q := rfl
def c5_53 : ACode := .seq c5_51 c5_52
theorem r5_53 {C : Cs} {k : List Fr} {s : St} {Q : Post} : run C c5_53 k s Q = run C (.seq c5_51 c5_52) k s Q := rfl
def c5_54 : ACode := .seq c5_11 c5_53
theorem r5_54 {C : Cs} {k : List Fr} {s : St} {Q : Post} : run C c5_54 k s Q = run C (.seq c5_11 c5_53) k s Q := rfl
def c5_55 : ACode := .seq c5_10 c5_54
theorem r5_55 {C : Cs} {k : List Fr} {s : St} {Q : Post} : run C c5_55 k s Q = run C (.seq c5_10 c5_54) k s Q := rfl
def c5_56 : ACode := .keep [5, 6, 7, 8, 9, 10, 11, 12, 50, 51, 52] [5, 6] c5_55
theorem r5_56 {C : Cs} {k : List Fr} {s : St} {Q : Post} : run C c5_56 k s Q = run C (.keep [5, 6, 7, 8, 9, 10, 11, 12, 50, 51, 52] [5, 6] c5_55) k s Q := rfl
def c5_57 : ACode := .loop c5_56
theorem r5_57 {C : Cs} {k : List Fr} {s : St} {Q : Post} : run C c5_57 k s Q = run C (.loop c5_56) k s Q := rfl
def c5_58 : ACode := .block 2 c5_57
theorem r5_58 {C : Cs} {k : List Fr} {s : St} {Q : Post} : run C c5_58 k s Q = run C (.block 2 c5_57) k s Q := rfl
def c5_59 : ACode := .seq c5_9 c5_58
theorem r5_59 {C : Cs} {k : List Fr} {s : St} {Q : Post} : run C c5_59 k s Q = run C (.seq c5_9 c5_58) k s Q := rfl
def c5_60 : ACode := .ops [⟨some 119, .mv (.t 10), none, []⟩,
  ⟨some 120, .un .not (.t 119), none, []⟩,
  ⟨some 121, .mv (.t 120), none, []⟩,
  ⟨some 122, .mv (.t 11), some (121, false), []⟩,
  ⟨some 123, .mv (.t 8), some (121, false), []⟩,
  ⟨some 124, .bin .neq (.t 122) (.t 123), some (121, false), []⟩,
  ⟨some 125, .pick (.t 121) (.c (.bool true)) (.t 124), none, []⟩,
  ⟨some 126, .mv (.t 125), none, []⟩,
  ⟨some 127, .mv (.t 12), some (126, false), []⟩,
  ⟨some 128, .mv (.t 9), some (126, false), []⟩,
  ⟨some 129, .bin .neq (.t 127) (.t 128), some (126, false), []⟩,
  ⟨some 130, .pick (.t 126) (.c (.bool true)) (.t 129), none, []⟩] [5, 6, 7, 130]
theorem r5_60 {C : Cs} {k : List Fr} {s : St} {Q : Post} : run C c5_60 k s Q = run C (.ops [⟨some 119, .mv (.t 10), none, []⟩,
  ⟨some 120, .un .not (.t 119), none, []⟩,
  ⟨some 121, .mv (.t 120), none, []⟩,
  ⟨some 122, .mv (.t 11), some (121, false), []⟩,
  ⟨some 123, .mv (.t 8), some (121, false), []⟩,
  ⟨some 124, .bin .neq (.t 122) (.t 123), some (121, false), []⟩,
  ⟨some 125, .pick (.t 121) (.c (.bool true)) (.t 124), none, []⟩,
  ⟨some 126, .mv (.t 125), none, []⟩,
  ⟨some 127, .mv (.t 12), some (126, false), []⟩,
  ⟨some 128, .mv (.t 9), some (126, false), []⟩,
  ⟨some 129, .bin .neq (.t 127) (.t 128), some (126, false), []⟩,
  ⟨some 130, .pick (.t 126) (.c (.bool true)) (.t 129), none, []⟩] [5, 6, 7, 130]) k s Q := rfl
def c5_61 : ACode := .ops [⟨some 4, .mv (.c (.bool false)), none, []⟩] [4]
theorem r5_61 {C : Cs} {k : List Fr} {s : St} {Q : Post} : run C c5_61 k s Q = run C (.ops [⟨some 4, .mv (.c (.bool false)), none, []⟩] [4]) k s Q := rfl
def c5_62 : ACode := .seq c5_61 .ret
theorem r5_62 {C : Cs} {k : List Fr} {s : St} {Q : Post} : run C c5_62 k s Q = run C (.seq c5_61 .ret) k s Q := rfl
def c5_63 : ACode := .cond (.t 130) c5_62 .skip
theorem r5_63 {C : Cs} {k : List Fr} {s : St} {Q : Post} : run C c5_63 k s Q = run C (.cond (.t 130) c5_62 .skip) k s Q := rfl
def c5_64 : ACode := .seq c5_60 c5_63
theorem r5_64 {C : Cs} {k : List Fr} {s : St} {Q : Post} : run C c5_64 k s Q = run C (.seq c5_60 c5_63) k s Q := rfl
def c5_65 : ACode := .seq c5_59 c5_64
theorem r5_65 {C : Cs} {k : List Fr} {s : St} {Q : Post} : run C c5_65 k s Q = run C (.seq c5_59 c5_64) k s Q := rfl
def c5_66 : ACode := .seq c5_8 c5_65
theorem r5_66 {C : Cs} {k : List Fr} {s : St} {Q : Post} : run C c5_66 k s Q = run C (.seq c5_8 c5_65) k s Q := rfl
def c5_67 : ACode := .seq c5_7 c5_66
theorem r5_67 {C : Cs} {k : List Fr} {s : St} {Q : Post} : run C c5_67 k s Q = run C (.seq c5_7 c5_66) k s Q := rfl
def c5_68 : ACode := .block 1 c5_67
theorem r5_68 {C : Cs} {k : List Fr} {s : St} {Q : Post} : run C c5_68 k s Q = run C (.block 1 c5_67) k s Q := rfl
def c5_69 : ACode := .ops [⟨some 31, .mv (.t 7), none, []⟩,
  ⟨some 32, .bin .add (.t 31) (.c (.int .i64 1)), none, []⟩,
  ⟨some 7, .mv (.t 32), none, []⟩] [5, 6, 7]
theorem r5_69 {C : Cs} {k : List Fr} {s : St} {Q : Post} : run C c5_69 k s Q = run C (.ops [⟨some 31, .mv (.t 7), none, []⟩,
  ⟨some 32, .bin .add (.t 31) (.c (.int .i64 1)), none, []⟩,
  ⟨some 7, .mv (.t 32), none, []⟩] [5, 6, 7]) k s Q := rfl
def c5_70 : ACode := .seq c5_68 c5_69
theorem r5_70 {C : Cs} {k : List Fr} {s : St} {Q : Post} : run C c5_70 k s Q = run C (.seq c5_68 c5_69) k s Q := rfl
def c5_71 : ACode := .seq c5_6 c5_70
theorem r5_71 {C : Cs} {k : List Fr} {s : St} {Q : Post} : run C c5_71 k s Q = run C (.seq c5_6 c5_70) k s Q := rfl
def c5_72 : ACode := .keep [5, 6, 7] [5, 6] c5_71
theorem r5_72 {C : Cs} {k : List Fr} {s : St} {Q : Post} : run C c5_72 k s Q = run C (.keep [5, 6, 7] [5, 6] c5_71) k s Q := rfl
def c5_73 : ACode := .loop c5_72
theorem r5_73 {C : Cs} {k : List Fr} {s : St} {Q : Post} : run C c5_73 k s Q = run C (.loop c5_72) k s Q := rfl
def c5_74 : ACode := .block 0 c5_73
theorem r5_74 {C : Cs} {k : List Fr} {s : St} {Q : Post} : run C c5_74 k s Q = run C (.block 0 c5_73) k s Q := rfl
def c5_75 : ACode := .seq c5_3 c5_74
theorem r5_75 {C : Cs} {k : List Fr} {s : St} {Q : Post} : run C c5_75 k s Q = run C (.seq c5_3 c5_74) k s Q := rfl
def c5_76 : ACode := .ops [⟨some 131, .call 3 [], none, []⟩,
  ⟨some 4, .mv (.t 131), none, []⟩] [4]
theorem r5_76 {C : Cs} {k : List Fr} {s : St} {Q : Post} : run C c5_76 k s Q = run C (.ops [⟨some 131, .call 3 [], none, []⟩,
  ⟨some 4, .mv (.t 131), none, []⟩] [4]) k s Q := rfl
def c5_77 : ACode := .seq c5_76 .ret
theorem r5_77 {C : Cs} {k : List Fr} {s : St} {Q : Post} : run C c5_77 k s Q = run C (.seq c5_76 .ret) k s Q := rfl
def c5_78 : ACode := .seq c5_75 c5_77
theorem r5_78 {C : Cs} {k : List Fr} {s : St} {Q : Post} : run C c5_78 k s Q = run C (.seq c5_75 c5_77) k s Q := rfl
def c5_79 : ACode := .seq c5_2 c5_78
theorem r5_79 {C : Cs} {k : List Fr} {s : St} {Q : Post} : run C c5_79 k s Q = run C (.seq c5_2 c5_78) k s Q := rfl
def c5_80 : ACode := .seq c5_1 c5_79
theorem r5_80 {C : Cs} {k : List Fr} {s : St} {Q : Post} : run C c5_80 k s Q = run C (.seq c5_1 c5_79) k s Q := rfl
def c5_81 : ACode := .seq c5_0 c5_80
theorem r5_81 {C : Cs} {k : List Fr} {s : St} {Q : Post} : run C c5_81 k s Q = run C (.seq c5_0 c5_80) k s Q := rfl
def a5 : AFun := ⟨2, 132, c5_81, [.t 4]⟩
attribute [simp] r5_0 r5_1 r5_2 r5_3 r5_4 r5_5 r5_6 r5_7 r5_8 r5_9 r5_10 r5_11 r5_12 r5_13 r5_14 r5_15 r5_16 r5_17 r5_18 r5_19 r5_20 r5_21 r5_22 r5_23 r5_24 r5_25 r5_26 r5_27 r5_28 r5_29 r5_30 r5_31 r5_32 r5_33 r5_34 r5_35 r5_36 r5_37 r5_38 r5_39 r5_40 r5_41 r5_42 r5_43 r5_44 r5_45 r5_46 r5_47 r5_48 r5_49 r5_50 r5_51 r5_52 r5_53 r5_54 r5_55 r5_56 r5_57 r5_58 r5_59 r5_60 r5_61 r5_62 r5_63 r5_64 r5_65 r5_66 r5_67 r5_68 r5_69 r5_70 r5_71 r5_72 r5_73 r5_74 r5_75 r5_76 r5_77 r5_78 r5_79 r5_80 r5_81
theorem m5 : mFun Try.prog Try.f5 a5 = true := by decide +kernel

/- copse/copselaw14.BoundRuns -/
def c3_0 : ACode := .ops [⟨some 0, .mv (.c (.bool false)), none, []⟩] []
def c3_1 : ACode := .ops [⟨some 8, .call 43 [], none, []⟩,
  ⟨some 1, .alloc [.int .i64 0, .int .i64 0, .int .i64 0, .int .i64 0, .int .i64 0, .nils], none, []⟩,
  ⟨none, .store (.t 1) 6 (.t 8), none, [1]⟩] [1]
def c3_2 : ACode := .ops [⟨some 10, .load 6 true (.t 1), none, [1]⟩,
  ⟨some 11, .build [.int .i64 0, .int .i64 0] [(0, 1, .c (.int .i64 0)), (1, 1, .c (.int .i64 9))], none, []⟩,
  ⟨some 12, .build [.int .i64 0, .int .i64 0, .int .i64 0, .int .i64 0, .int .i64 0, .int .i64 0, .int .i64 0, .int .i64 0, .int .i64 0, .int .i64 0] [(0, 2, .t 11)], none, []⟩,
  ⟨some 13, .call 44 [.t 10, .c (.int .i64 0), .t 12], none, []⟩,
  ⟨some 9, .mv (.t 13), none, []⟩,
  ⟨some 14, .ext (.t 9) 0, none, []⟩,
  ⟨some 15, .ext (.t 9) 1, none, []⟩,
  ⟨some 16, .ext (.t 9) 2, none, []⟩,
  ⟨some 2, .mv (.t 14), none, []⟩,
  ⟨some 3, .mv (.t 15), none, []⟩,
  ⟨some 4, .mv (.t 16), none, []⟩] [1, 2, 3, 4]
def c3_3 : ACode := .ops [⟨some 18, .load 6 true (.t 1), none, [1]⟩,
  ⟨some 19, .build [.int .i64 0, .int .i64 0] [(0, 1, .c (.int .i64 6)), (1, 1, .c (.int .i64 9))], none, []⟩,
  ⟨some 20, .build [.int .i64 0, .int .i64 0, .int .i64 0, .int .i64 0, .int .i64 0, .int .i64 0, .int .i64 0, .int .i64 0, .int .i64 0, .int .i64 0] [(0, 2, .t 19)], none, []⟩,
  ⟨some 21, .call 44 [.t 18, .c (.int .i64 0), .t 20], none, []⟩,
  ⟨some 17, .mv (.t 21), none, []⟩,
  ⟨some 22, .ext (.t 17) 0, none, []⟩,
  ⟨some 23, .ext (.t 17) 1, none, []⟩,
  ⟨some 24, .ext (.t 17) 2, none, []⟩,
  ⟨some 5, .mv (.t 22), none, []⟩,
  ⟨some 6, .mv (.t 23), none, []⟩,
  ⟨some 7, .mv (.t 24), none, []⟩] [2, 3, 4, 5, 6, 7]
def c3_4 : ACode := .ops [⟨some 25, .mv (.t 2), none, []⟩,
  ⟨some 26, .bin .eql (.t 25) (.c (.int .i64 13)), none, []⟩,
  ⟨some 27, .mv (.t 26), none, []⟩,
  ⟨some 28, .mv (.t 3), some (27, true), []⟩,
  ⟨some 29, .bin .eql (.t 28) (.c (.int .i64 23)), some (27, true), []⟩,
  ⟨some 30, .pick (.t 27) (.t 29) (.c (.bool false)), none, []⟩,
  ⟨some 31, .mv (.t 30), none, []⟩,
  ⟨some 32, .mv (.t 4), some (31, true), []⟩,
  ⟨some 33, .pick (.t 31) (.t 32) (.c (.bool false)), none, []⟩,
  ⟨some 34, .mv (.t 33), none, []⟩,
  ⟨some 35, .mv (.t 5), some (34, true), []⟩,
  ⟨some 36, .bin .eql (.t 35) (.c (.int .i64 23)), some (34, true), []⟩,
  ⟨some 37, .pick (.t 34) (.t 36) (.c (.bool false)), none, []⟩,
  ⟨some 38, .mv (.t 37), none, []⟩,
  ⟨some 39, .mv (.t 6), some (38, true), []⟩,
  ⟨some 40, .bin .eql (.t 39) (.c (.int .i64 23)), some (38, true), []⟩,
  ⟨some 41, .pick (.t 38) (.t 40) (.c (.bool false)), none, []⟩,
  ⟨some 42, .mv (.t 41), none, []⟩,
  ⟨some 43, .mv (.t 7), some (42, true), []⟩,
  ⟨some 44, .pick (.t 42) (.t 43) (.c (.bool false)), none, []⟩,
  ⟨some 0, .mv (.t 44), none, []⟩] [0]
def c3_5 : ACode := .seq c3_4 .ret
def c3_6 : ACode := .seq c3_3 c3_5
def c3_7 : ACode := .seq c3_2 c3_6
def c3_8 : ACode := .seq c3_1 c3_7
def c3_9 : ACode := .seq c3_0 c3_8
def a3 : AFun := ⟨0, 45, c3_9, [.t 0]⟩
theorem m3 : mFun Try.prog Try.f3 a3 = true := by decide +kernel
/- copse/copsekeep.Three -/
def c43_0 : ACode := .ops [⟨some 0, .alloc [.int .i64 0, .int .i64 0, .int .i64 0, .int .i64 0, .int .i64 0, .nils], none, []⟩] [0]
def c43_1 : ACode := .ops [⟨some 2, .build [.bool false, .int .i64 0, .int .i64 0, .int .i64 0, .int .i64 0, .int .i64 0] [(3, 1, .c (.int .i64 5)), (4, 1, .c (.int .i64 1)), (5, 1, .c (.int .i64 2))], none, []⟩,
  ⟨some 3, .call 111 [.t 2], none, []⟩,
  ⟨some 4, .build [.bool false, .int .i64 0, .int .i64 0, .int .i64 0, .int .i64 0, .int .i64 0] [(0, 1, .c (.bool true)), (1, 1, .c (.int .i64 10))], none, []⟩,
  ⟨some 5, .call 111 [.t 4], none, []⟩,
  ⟨some 6, .build [.bool false, .int .i64 0, .int .i64 0, .int .i64 0, .int .i64 0, .int .i64 0] [(0, 1, .c (.bool true)), (1, 1, .c (.int .i64 20))], none, []⟩,
  ⟨some 7, .call 111 [.t 6], none, []⟩,
  ⟨some 8, .mkrow 1 3 1 [.int .u64 0] [(0, 1, .t 3), (1, 1, .t 5), (2, 1, .t 7)], none, []⟩,
  ⟨some 1, .mv (.t 8), none, []⟩] [0, 1]
def c43_2 : ACode := .ops [⟨some 9, .build [.int .i64 0, .int .i64 0, .int .i64 0] [(0, 1, .c (.int .i64 3))], none, []⟩,
  ⟨some 10, .mv (.t 1), none, []⟩,
  ⟨some 11, .build [.int .i64 0, .nils] [(1, 1, .t 10)], none, []⟩,
  ⟨some 12, .mkrow 12 1 2 [.int .i64 0, .nils] [(0, 2, .t 11)], none, []⟩,
  ⟨some 13, .build [.int .i64 0, .int .i64 0, .int .i64 0, .int .i64 0, .int .i64 0, .nils] [(0, 1, .c (.int .i64 1)), (1, 1, .c (.int .i64 1)), (2, 3, .t 9), (5, 1, .t 12)], none, []⟩,
  ⟨none, .store (.t 0) 6 (.t 13), none, [0]⟩] [0]
def c43_3 : ACode := .seq c43_2 .ret
def c43_4 : ACode := .seq c43_1 c43_3
def c43_5 : ACode := .seq c43_0 c43_4
def a43 : AFun := ⟨0, 14, c43_5, [.cell 0 6 true]⟩
theorem m43 : mFun Try.prog Try.f43 a43 = true := by decide +kernel
def texts3 : List (Nat × AFun) := [(3, a3), (43, a43), (44, a44), (48, a48), (51, a51), (67, a67), (68, a68), (71, a71), (76, a76), (77, a77), (111, a111), (119, a119), (120, a120), (121, a121), (123, a123), (124, a124), (125, a125), (128, a128), (129, a129), (130, a130), (131, a131), (156, a156), (158, a158), (159, a159), (160, a160), (161, a161), (162, a162), (163, a163), (164, a164), (165, a165), (176, a176)]
theorem texts3_good : Go.Am.Good Try.prog texts3 :=
  good_cons Try.func3 m3 <| good_cons Try.func43 m43 <| good_cons Try.func44 m44 <| good_cons Try.func48 m48 <| good_cons Try.func51 m51 <| good_cons Try.func67 m67 <| good_cons Try.func68 m68 <| good_cons Try.func71 m71 <| good_cons Try.func76 m76 <| good_cons Try.func77 m77 <| good_cons Try.func111 m111 <| good_cons Try.func119 m119 <| good_cons Try.func120 m120 <| good_cons Try.func121 m121 <| good_cons Try.func123 m123 <| good_cons Try.func124 m124 <| good_cons Try.func125 m125 <| good_cons Try.func128 m128 <| good_cons Try.func129 m129 <| good_cons Try.func130 m130 <| good_cons Try.func131 m131 <| good_cons Try.func156 m156 <| good_cons Try.func158 m158 <| good_cons Try.func159 m159 <| good_cons Try.func160 m160 <| good_cons Try.func161 m161 <| good_cons Try.func162 m162 <| good_cons Try.func163 m163 <| good_cons Try.func164 m164 <| good_cons Try.func165 m165 <| good_cons Try.func176 m176 <| good_nil
theorem c_closed3 : Contract Try.prog 3 (sp0 (some true)) := contract_closed mixed texts3_good (m := 1000) (n := 60) (by decide +kernel)


theorem okB_region (dim : Int) (l : List Int) : okB (regionOf dim l) ∧ (regionOf dim l).empty = false := by
  have h0 := rSpan_le dim l 0
  have h1 := rSpan_le dim l 1
  have h2 := rSpan_le dim l 2
  have h3 := rSpan_le dim l 3
  constructor
  · unfold okB okS64 ok64 regionOf
    simp only
    omega
  · unfold Box.empty Span.empty regionOf
    simp only [Bool.or_eq_false_iff, decide_eq_false_iff_not]
    omega

set_option maxHeartbeats 4000000 in
set_option maxRecDepth 8000 in
theorem runs_law (f : Forest) (l : List Int) (c : Bool) (h : some true = some c) : Runs (tbl [(45, sp1 ModelC), (46, sp2 RegionC), (44, sp3 BoundS), (48, sp2 BoundT), (51, sp2 ListC), (3, sp0 (some true))]) a5 [Arg.enc f, Arg.enc l] (Arg.enc c) := by
  cases h
  refine ⟨rfl, fun g => run_def ?_⟩
  unfold a5
  have hm := rm_modelOf f
  have hM : ModelC f = some (modelOf f) := rfl
  generalize modelOf f = m at *
  have hR : RegionC m l = some (regionOf m.dim l) := part_of hm.dim _
  obtain ⟨hb, he⟩ := okB_region m.dim l
  generalize regionOf m.dim l = b at *
  simp -implicitDefEqProofs [hM, hR]
  refine run_while (c := c5_71) (fun n s => ∃ (k : Nat) (g : Nat → Nat), k + n = m.classes.toNat ∧ s = ⟨[(5, .ptr 5 (g 5) 0), (6, .ptr 6 (g 6) 0), (7, .int .i64 k)], [(5, ⟨Row.enc m, false, 0⟩), (6, ⟨Row.enc b, false, 0⟩)], g⟩) m.classes.toNat ⟨0, bump 6 (bump 5 (bump 2 g)), by omega, by simp⟩ ?_
  rintro n s ⟨k, g, hi, rfl⟩
  have hcl := hm.classes
  by_cases h1 : (k : Int) < m.classes
  case neg =>
    simp -implicitDefEqProofs [h1]
  have w1 : IntKind.i64.wrap ((k : Int) + 1) = (k : Int) + 1 := wrap64 (by omega) (by omega)
  have k3 : k < 3 := by omega
  have hS : BoundS m k b = some ⟨(boundP m k b).1, (boundP m k b).2, true⟩ := by
    unfold BoundS
    rw [part_of ⟨hm, hb⟩, boundM, if_neg (by simp [he]; omega)]
  have hle := hm.trees
  have b3 : m.trees.length ≤ maxN := by unfold maxN; omega
  have k3i : (k : Int) < 3 := by omega
  simp -implicitDefEqProofs [h1, hS, k3, k3i, b3]
  refine run_while (c := c5_55) (fun n s => ∃ (i : Nat) (g : Nat → Nat), i + n = m.trees.length ∧ s = ⟨[(5, .ptr 5 (g 5) 0), (6, .ptr 6 (g 6) 0), (7, .int .i64 k), (8, .int .i64 (boundP m k b).1), (9, .int .i64 (boundP m k b).2), (10, .bool true),
    (11, .int .i64 ((m.trees.take i).foldl (boundF k b) (m.bias.get k, m.bias.get k)).1), (12, .int .i64 ((m.trees.take i).foldl (boundF k b) (m.bias.get k, m.bias.get k)).2), (50, .lst m.trees.length (encL m.trees)), (51, .int .i64 m.trees.length), (52, .int .i64 i)], [(5, ⟨Row.enc m, false, 0⟩), (6, ⟨Row.enc b, false, 0⟩)], g⟩) m.trees.length ⟨0, g, by omega, by simp⟩ ?_
  rintro n2 s ⟨i, g, hi2, rfl⟩
  by_cases h2 : i < m.trees.length
  case neg =>
    have hil : i = m.trees.length := by omega
    subst hil
    have e1 : ((m.trees).foldl (boundF k b) (m.bias.get k, m.bias.get k)) = boundP m k b := rfl
    simp -implicitDefEqProofs [h2, e1, w1]
    exact ⟨n - 1, by omega, k + 1, by omega, by omega⟩
  have w2 : IntKind.i64.wrap ((i : Int) + 1) = (i : Int) + 1 := wrap64 (by omega) (by omega)
  have hrow := rd_tree m.trees i h2
  have hrt := hm.rt (List.getElem_mem h2)
  have hsp := boundT_spec hrt he
  have hes := ends_spec (pieces_ne hrt he)
  have hT : BoundT m.trees[i].nodes b = some ⟨(boundT m.trees[i].nodes b).a, (boundT m.trees[i].nodes b).b, true⟩ := by
    unfold BoundT
    rw [part_of ⟨⟨_, hrt⟩, hb⟩, ← hsp.1]
  have hL : ListC m.trees[i].nodes b = some (pieces m.trees[i].nodes b) := by
    unfold ListC
    rw [part_of ⟨⟨_, hrt⟩, hb⟩, he]
    rfl
  have hee : ends (pieces m.trees[i].nodes b) = boundT m.trees[i].nodes b := by unfold boundT; rw [he]; rfl
  rw [hee] at hes
  have hpl : (pieces m.trees[i].nodes b).length ≤ 31 := by
    have := piecesTo_len m.trees[i].nodes b m.trees[i].nodes.length
    have := hrt.le
    show (piecesTo m.trees[i].nodes b m.trees[i].nodes.length).length ≤ 31
    omega
  have hbd := boundF_le (c := k) he (m.trees.take (i + 1)) (m.bias.get k, m.bias.get k) (fun t ht => ⟨_, hm.rt (List.mem_of_mem_take ht)⟩)
  have hb2 := of_fits (Bias.get_fits hm k)
  have hs : (m.trees.take (i + 1)).foldl (boundF k b) (m.bias.get k, m.bias.get k) = boundF k b ((m.trees.take i).foldl (boundF k b) (m.bias.get k, m.bias.get k)) m.trees[i] := by
    rw [List.take_succ_eq_append_getElem h2, List.foldl_append]
    rfl
  have hl8 : (m.trees.take (i + 1)).length ≤ 8 := by simp; omega
  simp only at hbd
  by_cases hc : m.trees[i].cls = k
  case neg =>
    have hs2 : (m.trees.take (i + 1)).foldl (boundF k b) (m.bias.get k, m.bias.get k) = (m.trees.take i).foldl (boundF k b) (m.bias.get k, m.bias.get k) := by rw [hs, boundF, if_neg hc]
    simp -implicitDefEqProofs [h2, hrow, hc, w2]
    exact ⟨n2 - 1, by omega, i + 1, by omega, by rw [hs2], by rw [hs2], by omega⟩
  have hs1 : ((m.trees.take (i + 1)).foldl (boundF k b) (m.bias.get k, m.bias.get k)).1 = ((m.trees.take i).foldl (boundF k b) (m.bias.get k, m.bias.get k)).1 + (boundT m.trees[i].nodes b).a := by rw [hs, boundF, if_pos hc]
  have hs2 : ((m.trees.take (i + 1)).foldl (boundF k b) (m.bias.get k, m.bias.get k)).2 = ((m.trees.take i).foldl (boundF k b) (m.bias.get k, m.bias.get k)).2 + (boundT m.trees[i].nodes b).b := by rw [hs, boundF, if_pos hc]
  have w3 : IntKind.i64.wrap (((m.trees.take i).foldl (boundF k b) (m.bias.get k, m.bias.get k)).1 + (boundT m.trees[i].nodes b).a) = ((m.trees.take (i + 1)).foldl (boundF k b) (m.bias.get k, m.bias.get k)).1 := by rw [← hs1]; exact wrap64 (by omega) (by omega)
  have w4 : IntKind.i64.wrap (((m.trees.take i).foldl (boundF k b) (m.bias.get k, m.bias.get k)).2 + (boundT m.trees[i].nodes b).b) = ((m.trees.take (i + 1)).foldl (boundF k b) (m.bias.get k, m.bias.get k)).2 := by rw [← hs2]; exact wrap64 (by omega) (by omega)
  generalize hps : pieces m.trees[i].nodes b = ps at *
  generalize (boundT m.trees[i].nodes b).a = u at *
  generalize (boundT m.trees[i].nodes b).b = v at *
  generalize hx : ((m.trees.take i).foldl (boundF k b) (m.bias.get k, m.bias.get k)).1 = x at *
  generalize hy : ((m.trees.take i).foldl (boundF k b) (m.bias.get k, m.bias.get k)).2 = y at *
  have b4 : ps.length ≤ maxN := by unfold maxN; omega
  simp -implicitDefEqProofs [h2, hrow, hc, hT, hL, b4]
  refine run_while (c := c5_34) (fun n s => ∃ (j : Nat) (g : Nat → Nat), j + n = ps.length ∧ s = ⟨[(5, .ptr 5 (g 5) 0), (6, .ptr 6 (g 6) 0), (7, .int .i64 k), (8, .int .i64 (boundP m k b).1), (9, .int .i64 (boundP m k b).2), (10, .bool true), (11, .int .i64 x), (12, .int .i64 y),
    (15, .int .i64 u), (16, .int .i64 v), (17, .bool true), (18, .bool ((ps.take j).any fun z => decide (z.value = u))), (19, .bool ((ps.take j).any fun z => decide (z.value = v))),
    (50, .lst m.trees.length (encL m.trees)), (51, .int .i64 m.trees.length), (52, .int .i64 i), (71, .lst ps.length (encL ps)), (72, .int .i64 ps.length), (73, .int .i64 j)], [(5, ⟨Row.enc m, false, 0⟩), (6, ⟨Row.enc b, false, 0⟩)], g⟩) ps.length ⟨0, bump 14 g, by omega, by simp⟩ ?_
  rintro n3 s ⟨j, g, hi3, rfl⟩
  by_cases h3 : j < ps.length
  case neg =>
    have hjl : j = ps.length := by omega
    subst hjl
    obtain ⟨z, hz1, hz2⟩ := hes.2.2.1
    obtain ⟨z', hz3, hz4⟩ := hes.2.2.2
    have a1 : (ps.any fun z => decide (z.value = u)) = true := by rw [List.any_eq_true]; exact ⟨z, hz1, by simpa using hz2⟩
    have a2 : (ps.any fun z => decide (z.value = v)) = true := by rw [List.any_eq_true]; exact ⟨z', hz3, by simpa using hz4⟩
    simp -implicitDefEqProofs [h3, a1, a2, w2, w3, w4]
    exact ⟨n2 - 1, by omega, i + 1, by omega, rfl, rfl, by omega⟩
  have w5 : IntKind.i64.wrap ((j : Int) + 1) = (j : Int) + 1 := wrap64 (by omega) (by omega)
  have hrp := rd_piece ps j h3
  have hin := hes.2.1 _ (List.getElem_mem h3)
  have i1 : ¬ ps[j].value < u := by omega
  have i2 : ¬ v < ps[j].value := by omega
  have t1 : ∀ q : Piece → Bool, (ps.take (j + 1)).any q = ((ps.take j).any q || q ps[j]) := fun q => by rw [List.take_succ_eq_append_getElem h3, List.any_append]; simp
  cases q1 : ((ps.take j).any fun z => decide (z.value = u)) <;> cases q2 : ((ps.take j).any fun z => decide (z.value = v)) <;>
    simp -implicitDefEqProofs [h3, hrp, w5, i1, i2, q1, q2]
  all_goals
    refine ⟨n3 - 1, by omega, j + 1, by omega, ?_, ?_, by omega⟩
    · first
        | (rw [t1, q1]; simp; done)
        | (have hh := t1 fun z => decide (z.value = u)
           rw [q1, Bool.true_or, List.any_eq_true] at hh
           simpa using hh)
    · first
        | (rw [t1, q2]; simp; done)
        | (have hh := t1 fun z => decide (z.value = v)
           rw [q2, Bool.true_or, List.any_eq_true] at hh
           simpa using hh)
def law_sp : List AV → Option AV := sp2 fun (_ : Forest) (_ : List Int) => some true
theorem law_holds : Contract Try.prog 5 law_sp :=
  contract_of_runs mixed (tbl_cons c_Model (tbl_cons c_Region (tbl_cons c_bSum (tbl_cons c_bTree (tbl_cons c_List (tbl_cons c_closed3 tbl_nil)))))) Try.func5 m5 (sp2_runs runs_law)
theorem law_says (f : Forest) (l : List Int) : law_sp [Arg.enc f, Arg.enc l] = some (.bool true) := by
  simp only [law_sp, sp2, Arg.dec_enc, Option.bind_some]
  rfl
end Go.Co
