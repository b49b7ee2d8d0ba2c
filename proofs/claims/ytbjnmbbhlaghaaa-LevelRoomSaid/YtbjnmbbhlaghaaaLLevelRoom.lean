/- The law LevelRoom: what its text computes. -/
import Derived.Test.YtbjnmbbhlaghaaaCoIn
import Derived.Test.YtbjnmbbhlaghaaaCoX
import Derived.Test.YtbjnmbbhlaghaaaCoLev2
import Derived.Test.YtbjnmbbhlaghaaaCoSh
namespace Go.Co
open Go.Am Go.Proofs
set_option linter.unusedSimpArgs false
set_option linter.unusedVariables false

/- copse/copselaw16.LevelRoom -/
def c22_0 : ACode := .ops [⟨some 4, .box (.t 0) 4, none, []⟩,
  ⟨some 8, .mv (.c (.bool false)), none, []⟩] [1, 2, 3, 4]
theorem r22_0 {C : Cs} {k : List Fr} {s : St} {Q : Post} : run C c22_0 k s Q = run C (.ops [⟨some 4, .box (.t 0) 4, none, []⟩,
  ⟨some 8, .mv (.c (.bool false)), none, []⟩] [1, 2, 3, 4]) k s Q := rfl
def c22_1 : ACode := .ops [⟨some 28, .load 4 true (.t 4), none, [4]⟩,
  ⟨some 29, .call 45 [.t 28], none, []⟩,
  ⟨some 9, .alloc [.int .i64 0, .int .i64 0, .int .i64 0, .int .i64 0, .int .i64 0, .nils], none, []⟩,
  ⟨none, .store (.t 9) 6 (.t 29), none, [9]⟩] [1, 2, 3, 9]
theorem r22_1 {C : Cs} {k : List Fr} {s : St} {Q : Post} : run C c22_1 k s Q = run C (.ops [⟨some 28, .load 4 true (.t 4), none, [4]⟩,
  ⟨some 29, .call 45 [.t 28], none, []⟩,
  ⟨some 9, .alloc [.int .i64 0, .int .i64 0, .int .i64 0, .int .i64 0, .int .i64 0, .nils], none, []⟩,
  ⟨none, .store (.t 9) 6 (.t 29), none, [9]⟩] [1, 2, 3, 9]) k s Q := rfl
def c22_2 : ACode := .ops [⟨some 30, .load 6 true (.t 9), none, [9]⟩,
  ⟨some 31, .mv (.t 1), none, []⟩,
  ⟨some 32, .call 46 [.t 30, .t 31], none, []⟩,
  ⟨some 10, .alloc [.int .i64 0, .int .i64 0, .int .i64 0, .int .i64 0, .int .i64 0, .int .i64 0, .int .i64 0, .int .i64 0, .int .i64 0, .int .i64 0], none, []⟩,
  ⟨none, .store (.t 10) 10 (.t 32), none, [10]⟩] [2, 3, 9, 10]
theorem r22_2 {C : Cs} {k : List Fr} {s : St} {Q : Post} : run C c22_2 k s Q = run C (.ops [⟨some 30, .load 6 true (.t 9), none, [9]⟩,
  ⟨some 31, .mv (.t 1), none, []⟩,
  ⟨some 32, .call 46 [.t 30, .t 31], none, []⟩,
  ⟨some 10, .alloc [.int .i64 0, .int .i64 0, .int .i64 0, .int .i64 0, .int .i64 0, .int .i64 0, .int .i64 0, .int .i64 0, .int .i64 0, .int .i64 0], none, []⟩,
  ⟨none, .store (.t 10) 10 (.t 32), none, [10]⟩] [2, 3, 9, 10]) k s Q := rfl
def c22_3 : ACode := .ops [⟨some 33, .mv (.t 2), none, []⟩,
  ⟨some 34, .fad (.t 9) 1, none, [9]⟩,
  ⟨some 35, .load 1 false (.t 34), none, [9]⟩,
  ⟨some 36, .bin .sub (.t 35) (.c (.int .i64 1)), none, []⟩,
  ⟨some 37, .call 63 [.t 33, .c (.int .i64 0), .t 36], none, []⟩,
  ⟨some 11, .mv (.t 37), none, []⟩] [3, 9, 10, 11]
theorem r22_3 {C : Cs} {k : List Fr} {s : St} {Q : Post} : run C c22_3 k s Q = run C (.ops [⟨some 33, .mv (.t 2), none, []⟩,
  ⟨some 34, .fad (.t 9) 1, none, [9]⟩,
  ⟨some 35, .load 1 false (.t 34), none, [9]⟩,
  ⟨some 36, .bin .sub (.t 35) (.c (.int .i64 1)), none, []⟩,
  ⟨some 37, .call 63 [.t 33, .c (.int .i64 0), .t 36], none, []⟩,
  ⟨some 11, .mv (.t 37), none, []⟩] [3, 9, 10, 11]) k s Q := rfl
def c22_4 : ACode := .ops [⟨some 12, .mv (.c (.int .i64 0)), none, []⟩] [3, 9, 10, 11, 12]
theorem r22_4 {C : Cs} {k : List Fr} {s : St} {Q : Post} : run C c22_4 k s Q = run C (.ops [⟨some 12, .mv (.c (.int .i64 0)), none, []⟩] [3, 9, 10, 11, 12]) k s Q := rfl
def c22_5 : ACode := .ops [⟨some 38, .fad (.t 9) 5, none, [9]⟩,
  ⟨some 39, .load 1 false (.t 38), none, [9]⟩,
  ⟨some 40, .len (.t 39), none, []⟩,
  ⟨some 41, .mv (.c (.int .i64 0)), none, []⟩] [3, 9, 10, 11, 12, 39, 40, 41]
theorem r22_5 {C : Cs} {k : List Fr} {s : St} {Q : Post} : run C c22_5 k s Q = run C (.ops [⟨some 38, .fad (.t 9) 5, none, [9]⟩,
  ⟨some 39, .load 1 false (.t 38), none, [9]⟩,
  ⟨some 40, .len (.t 39), none, []⟩,
  ⟨some 41, .mv (.c (.int .i64 0)), none, []⟩] [3, 9, 10, 11, 12, 39, 40, 41]) k s Q := rfl
def c22_6 : ACode := .ops [⟨some 42, .bin .lss (.t 41) (.t 40), none, []⟩] [3, 9, 10, 11, 12, 39, 40, 41, 42]
theorem r22_6 {C : Cs} {k : List Fr} {s : St} {Q : Post} : run C c22_6 k s Q = run C (.ops [⟨some 42, .bin .lss (.t 41) (.t 40), none, []⟩] [3, 9, 10, 11, 12, 39, 40, 41, 42]) k s Q := rfl
def c22_7 : ACode := .cond (.t 42) .skip (.exit 0)
theorem r22_7 {C : Cs} {k : List Fr} {s : St} {Q : Post} : run C c22_7 k s Q = run C (.cond (.t 42) .skip (.exit 0)) k s Q := rfl
def c22_8 : ACode := .ops [⟨some 43, .ias (.t 39) (.t 41) 2, none, []⟩,
  ⟨some 44, .load 2 true (.t 43), none, []⟩,
  ⟨some 14, .alloc [.int .i64 0, .nils], none, []⟩,
  ⟨none, .store (.t 14) 2 (.t 44), none, [14]⟩] [3, 9, 10, 11, 12, 14, 39, 40, 41]
theorem r22_8 {C : Cs} {k : List Fr} {s : St} {Q : Post} : run C c22_8 k s Q = run C (.ops [⟨some 43, .ias (.t 39) (.t 41) 2, none, []⟩,
  ⟨some 44, .load 2 true (.t 43), none, []⟩,
  ⟨some 14, .alloc [.int .i64 0, .nils], none, []⟩,
  ⟨none, .store (.t 14) 2 (.t 44), none, [14]⟩] [3, 9, 10, 11, 12, 14, 39, 40, 41]) k s Q := rfl
def c22_9 : ACode := .ops [⟨some 45, .fad (.t 14) 0, none, [14]⟩,
  ⟨some 46, .load 1 false (.t 45), none, [14]⟩,
  ⟨some 47, .mv (.t 11), none, []⟩,
  ⟨some 48, .bin .eql (.t 46) (.t 47), none, []⟩] [3, 9, 10, 11, 12, 39, 40, 41, 48]
theorem r22_9 {C : Cs} {k : List Fr} {s : St} {Q : Post} : run C c22_9 k s Q = run C (.ops [⟨some 45, .fad (.t 14) 0, none, [14]⟩,
  ⟨some 46, .load 1 false (.t 45), none, [14]⟩,
  ⟨some 47, .mv (.t 11), none, []⟩,
  ⟨some 48, .bin .eql (.t 46) (.t 47), none, []⟩] [3, 9, 10, 11, 12, 39, 40, 41, 48]) k s Q := rfl
def c22_10 : ACode := .ops [⟨some 49, .mv (.t 12), none, []⟩,
  ⟨some 50, .bin .add (.t 49) (.c (.int .i64 1)), none, []⟩,
  ⟨some 12, .mv (.t 50), none, []⟩] [3, 9, 10, 11, 12, 39, 40, 41]
theorem r22_10 {C : Cs} {k : List Fr} {s : St} {Q : Post} : run C c22_10 k s Q = run C (.ops [⟨some 49, .mv (.t 12), none, []⟩,
  ⟨some 50, .bin .add (.t 49) (.c (.int .i64 1)), none, []⟩,
  ⟨some 12, .mv (.t 50), none, []⟩] [3, 9, 10, 11, 12, 39, 40, 41]) k s Q := rfl
def c22_11 : ACode := .cond (.t 48) c22_10 .skip
theorem r22_11 {C : Cs} {k : List Fr} {s : St} {Q : Post} : run C c22_11 k s Q = run C (.cond (.t 48) c22_10 .skip) k s Q := rfl
def c22_12 : ACode := .seq c22_9 c22_11
theorem r22_12 {C : Cs} {k : List Fr} {s : St} {Q : Post} : run C c22_12 k s Q = run C (.seq c22_9 c22_11) k s Q := rfl
def c22_13 : ACode := .seq c22_8 c22_12
theorem r22_13 {C : Cs} {k : List Fr} {s : St} {Q : Post} : run C c22_13 k s Q = run C (.seq c22_8 c22_12) k s Q := rfl
def c22_14 : ACode := .block 1 c22_13
theorem r22_14 {C : Cs} {k : List Fr} {s : St} {Q : Post} : run C c22_14 k s Q = run C (.block 1 c22_13) k s Q := rfl
def c22_15 : ACode := .ops [⟨some 51, .bin .add (.t 41) (.c (.int .i64 1)), none, []⟩,
  ⟨some 41, .mv (.t 51), none, []⟩] [3, 9, 10, 11, 12, 39, 40, 41]
theorem r22_15 {C : Cs} {k : List Fr} {s : St} {Q : Post} : run C c22_15 k s Q = run C (.ops [⟨some 51, .bin .add (.t 41) (.c (.int .i64 1)), none, []⟩,
  ⟨some 41, .mv (.t 51), none, []⟩] [3, 9, 10, 11, 12, 39, 40, 41]) k s Q := rfl
def c22_16 : ACode := .seq c22_14 c22_15
theorem r22_16 {C : Cs} {k : List Fr} {s : St} {Q : Post} : run C c22_16 k s Q = run C (.seq c22_14 c22_15) k s Q := rfl
def c22_17 : ACode := .seq c22_7 c22_16
theorem r22_17 {C : Cs} {k : List Fr} {s : St} {Q : Post} : run C c22_17 k s Q = run C (.seq c22_7 c22_16) k s Q := rfl
def c22_18 : ACode := .seq c22_6 c22_17
theorem r22_18 {C : Cs} {k : List Fr} {s : St} {Q : Post} : run C c22_18 k s Q = run C (.seq c22_6 c22_17) k s Q := rfl
def c22_19 : ACode := .keep [3, 9, 10, 11, 12, 39, 40, 41] [9, 10] c22_18
theorem r22_19 {C : Cs} {k : List Fr} {s : St} {Q : Post} : run C c22_19 k s Q = run C (.keep [3, 9, 10, 11, 12, 39, 40, 41] [9, 10] c22_18) k s Q := rfl
def c22_20 : ACode := .loop c22_19
theorem r22_20 {C : Cs} {k : List Fr} {s : St} {Q : Post} : run C c22_20 k s Q = run C (.loop c22_19) k s Q := rfl
def c22_21 : ACode := .block 0 c22_20
theorem r22_21 {C : Cs} {k : List Fr} {s : St} {Q : Post} : run C c22_21 k s Q = run C (.block 0 c22_20) k s Q := rfl
def c22_22 : ACode := .seq c22_5 c22_21
theorem r22_22 {C : Cs} {k : List Fr} {s : St} {Q : Post} : run C c22_22 k s Q = run C (.seq c22_5 c22_21) k s Q := rfl
def c22_23 : ACode := .ops [⟨some 52, .load 6 true (.t 9), none, [9]⟩,
  ⟨some 53, .mv (.t 11), none, []⟩,
  ⟨some 54, .load 10 true (.t 10), none, [10]⟩,
  ⟨some 55, .mv (.t 3), none, []⟩,
  ⟨some 56, .call 63 [.t 55, .c (.int .i64 0), .c (.int .i64 200)], none, []⟩,
  ⟨some 57, .call 84 [.t 52, .t 53, .t 54, .t 56], none, []⟩,
  ⟨some 15, .mv (.t 57), none, []⟩] [3, 9, 10, 11, 12, 15]
theorem r22_23 {C : Cs} {k : List Fr} {s : St} {Q : Post} : run C c22_23 k s Q = run C (.ops [⟨some 52, .load 6 true (.t 9), none, [9]⟩,
  ⟨some 53, .mv (.t 11), none, []⟩,
  ⟨some 54, .load 10 true (.t 10), none, [10]⟩,
  ⟨some 55, .mv (.t 3), none, []⟩,
  ⟨some 56, .call 63 [.t 55, .c (.int .i64 0), .c (.int .i64 200)], none, []⟩,
  ⟨some 57, .call 84 [.t 52, .t 53, .t 54, .t 56], none, []⟩,
  ⟨some 15, .mv (.t 57), none, []⟩] [3, 9, 10, 11, 12, 15]) k s Q := rfl
def c22_24 : ACode := .ops [⟨some 58, .mv (.t 15), none, []⟩,
  ⟨some 59, .len (.t 58), none, []⟩,
  ⟨some 60, .bin .lss (.t 59) (.c (.int .i64 1)), none, []⟩,
  ⟨some 61, .mv (.t 60), none, []⟩,
  ⟨some 62, .mv (.t 15), some (61, false), []⟩,
  ⟨some 63, .ias (.t 62) (.c (.int .i64 0)) 1, some (61, false), []⟩,
  ⟨some 64, .load 1 false (.t 63), some (61, false), []⟩,
  ⟨some 65, .mv (.t 12), some (61, false), []⟩,
  ⟨some 66, .bin .neq (.t 64) (.t 65), some (61, false), []⟩,
  ⟨some 67, .pick (.t 61) (.c (.bool true)) (.t 66), none, []⟩] [3, 9, 10, 11, 12, 15, 67]
theorem r22_24 {C : Cs} {k : List Fr} {s : St} {Q : Post} : run C c22_24 k s Q = run C (.ops [⟨some 58, .mv (.t 15), none, []⟩,
  ⟨some 59, .len (.t 58), none, []⟩,
  ⟨some 60, .bin .lss (.t 59) (.c (.int .i64 1)), none, []⟩,
  ⟨some 61, .mv (.t 60), none, []⟩,
  ⟨some 62, .mv (.t 15), some (61, false), []⟩,
  ⟨some 63, .ias (.t 62) (.c (.int .i64 0)) 1, some (61, false), []⟩,
  ⟨some 64, .load 1 false (.t 63), some (61, false), []⟩,
  ⟨some 65, .mv (.t 12), some (61, false), []⟩,
  ⟨some 66, .bin .neq (.t 64) (.t 65), some (61, false), []⟩,
  ⟨some 67, .pick (.t 61) (.c (.bool true)) (.t 66), none, []⟩] [3, 9, 10, 11, 12, 15, 67]) k s Q := rfl
def c22_25 : ACode := .ops [⟨some 8, .mv (.c (.bool false)), none, []⟩] [8]
theorem r22_25 {C : Cs} {k : List Fr} {s : St} {Q : Post} : run C c22_25 k s Q = run C (.ops [⟨some 8, .mv (.c (.bool false)), none, []⟩] [8]) k s Q := rfl
def c22_26 : ACode := .seq c22_25 .ret
theorem r22_26 {C : Cs} {k : List Fr} {s : St} {Q : Post} : run C c22_26 k s Q = run C (.seq c22_25 .ret) k s Q := rfl
def c22_27 : ACode := .cond (.t 67) c22_26 .skip
theorem r22_27 {C : Cs} {k : List Fr} {s : St} {Q : Post} : run C c22_27 k s Q = run C (.cond (.t 67) c22_26 .skip) k s Q := rfl
def c22_28 : ACode := .seq c22_24 c22_27
theorem r22_28 {C : Cs} {k : List Fr} {s : St} {Q : Post} : run C c22_28 k s Q = run C (.seq c22_24 c22_27) k s Q := rfl
def c22_29 : ACode := .ops [⟨some 16, .mv (.c (.int .i64 1)), none, []⟩] [3, 9, 10, 11, 12, 15, 16]
theorem r22_29 {C : Cs} {k : List Fr} {s : St} {Q : Post} : run C c22_29 k s Q = run C (.ops [⟨some 16, .mv (.c (.int .i64 1)), none, []⟩] [3, 9, 10, 11, 12, 15, 16]) k s Q := rfl
def c22_30 : ACode := .ops [⟨some 68, .mv (.t 16), none, []⟩,
  ⟨some 69, .mv (.t 15), none, []⟩,
  ⟨some 70, .len (.t 69), none, []⟩,
  ⟨some 71, .bin .lss (.t 68) (.t 70), none, []⟩] [3, 9, 10, 11, 12, 15, 16, 71]
theorem r22_30 {C : Cs} {k : List Fr} {s : St} {Q : Post} : run C c22_30 k s Q = run C (.ops [⟨some 68, .mv (.t 16), none, []⟩,
  ⟨some 69, .mv (.t 15), none, []⟩,
  ⟨some 70, .len (.t 69), none, []⟩,
  ⟨some 71, .bin .lss (.t 68) (.t 70), none, []⟩] [3, 9, 10, 11, 12, 15, 16, 71]) k s Q := rfl
def c22_31 : ACode := .cond (.t 71) .skip (.exit 2)
theorem r22_31 {C : Cs} {k : List Fr} {s : St} {Q : Post} : run C c22_31 k s Q = run C (.cond (.t 71) .skip (.exit 2)) k s Q := rfl
def c22_32 : ACode := .seq c22_30 c22_31
theorem r22_32 {C : Cs} {k : List Fr} {s : St} {Q : Post} : run C c22_32 k s Q = run C (.seq c22_30 c22_31) k s Q := rfl
def c22_33 : ACode := .ops [⟨some 74, .mv (.t 15), none, []⟩,
  ⟨some 75, .mv (.t 16), none, []⟩,
  ⟨some 76, .ias (.t 74) (.t 75) 1, none, []⟩,
  ⟨some 77, .load 1 false (.t 76), none, []⟩,
  ⟨some 78, .mv (.t 15), none, []⟩,
  ⟨some 79, .mv (.t 16), none, []⟩,
  ⟨some 80, .bin .sub (.t 79) (.c (.int .i64 1)), none, []⟩,
  ⟨some 81, .ias (.t 78) (.t 80) 1, none, []⟩,
  ⟨some 82, .load 1 false (.t 81), none, []⟩,
  ⟨some 83, .bin .geq (.t 77) (.t 82), none, []⟩,
  ⟨some 84, .mv (.t 83), none, []⟩,
  ⟨some 85, .mv (.t 15), some (84, false), []⟩,
  ⟨some 86, .mv (.t 16), some (84, false), []⟩,
  ⟨some 87, .ias (.t 85) (.t 86) 1, some (84, false), []⟩,
  ⟨some 88, .load 1 false (.t 87), some (84, false), []⟩,
  ⟨some 89, .bin .mul (.c (.int .i64 2)) (.t 88), some (84, false), []⟩,
  ⟨some 90, .mv (.t 15), some (84, false), []⟩,
  ⟨some 91, .mv (.t 16), some (84, false), []⟩,
  ⟨some 92, .bin .sub (.t 91) (.c (.int .i64 1)), some (84, false), []⟩,
  ⟨some 93, .ias (.t 90) (.t 92) 1, some (84, false), []⟩,
  ⟨some 94, .load 1 false (.t 93), some (84, false), []⟩,
  ⟨some 95, .bin .lss (.t 89) (.t 94), some (84, false), []⟩,
  ⟨some 96, .pick (.t 84) (.c (.bool true)) (.t 95), none, []⟩] [3, 9, 10, 11, 12, 15, 16, 96]
theorem r22_33 {C : Cs} {k : List Fr} {s : St} {Q : Post} : run C c22_33 k s Q = run C (.ops [⟨some 74, .mv (.t 15), none, []⟩,
  ⟨some 75, .mv (.t 16), none, []⟩,
  ⟨some 76, .ias (.t 74) (.t 75) 1, none, []⟩,
  ⟨some 77, .load 1 false (.t 76), none, []⟩,
  ⟨some 78, .mv (.t 15), none, []⟩,
  ⟨some 79, .mv (.t 16), none, []⟩,
  ⟨some 80, .bin .sub (.t 79) (.c (.int .i64 1)), none, []⟩,
  ⟨some 81, .ias (.t 78) (.t 80) 1, none, []⟩,
  ⟨some 82, .load 1 false (.t 81), none, []⟩,
  ⟨some 83, .bin .geq (.t 77) (.t 82), none, []⟩,
  ⟨some 84, .mv (.t 83), none, []⟩,
  ⟨some 85, .mv (.t 15), some (84, false), []⟩,
  ⟨some 86, .mv (.t 16), some (84, false), []⟩,
  ⟨some 87, .ias (.t 85) (.t 86) 1, some (84, false), []⟩,
  ⟨some 88, .load 1 false (.t 87), some (84, false), []⟩,
  ⟨some 89, .bin .mul (.c (.int .i64 2)) (.t 88), some (84, false), []⟩,
  ⟨some 90, .mv (.t 15), some (84, false), []⟩,
  ⟨some 91, .mv (.t 16), some (84, false), []⟩,
  ⟨some 92, .bin .sub (.t 91) (.c (.int .i64 1)), some (84, false), []⟩,
  ⟨some 93, .ias (.t 90) (.t 92) 1, some (84, false), []⟩,
  ⟨some 94, .load 1 false (.t 93), some (84, false), []⟩,
  ⟨some 95, .bin .lss (.t 89) (.t 94), some (84, false), []⟩,
  ⟨some 96, .pick (.t 84) (.c (.bool true)) (.t 95), none, []⟩] [3, 9, 10, 11, 12, 15, 16, 96]) k s Q := rfl
def c22_34 : ACode := .ops [⟨some 8, .mv (.c (.bool false)), none, []⟩] [8]
theorem r22_34 {C : Cs} {k : List Fr} {s : St} {Q : Post} : run C c22_34 k s Q = run C (.ops [⟨some 8, .mv (.c (.bool false)), none, []⟩] [8]) k s Q := rfl
def c22_35 : ACode := .seq c22_34 .ret
theorem r22_35 {C : Cs} {k : List Fr} {s : St} {Q : Post} : run C c22_35 k s Q = run C (.seq c22_34 .ret) k s Q := rfl
def c22_36 : ACode := .cond (.t 96) c22_35 .skip
theorem r22_36 {C : Cs} {k : List Fr} {s : St} {Q : Post} : run C c22_36 k s Q = run C (.cond (.t 96) c22_35 .skip) k s Q := rfl
def c22_37 : ACode := .seq c22_33 c22_36
theorem r22_37 {C : Cs} {k : List Fr} {s : St} {Q : Post} : run C c22_37 k s Q = run C (.seq c22_33 c22_36) k s Q := rfl
def c22_38 : ACode := .block 3 c22_37
theorem r22_38 {C : Cs} {k : List Fr} {s : St} {Q : Post} : run C c22_38 k s Q = run C (.block 3 c22_37) k s Q := rfl
def c22_39 : ACode := .ops [⟨some 72, .mv (.t 16), none, []⟩,
  ⟨some 73, .bin .add (.t 72) (.c (.int .i64 1)), none, []⟩,
  ⟨some 16, .mv (.t 73), none, []⟩] [3, 9, 10, 11, 12, 15, 16]
theorem r22_39 {C : Cs} {k : List Fr} {s : St} {Q : Post} : run C c22_39 k s Q = run C (.ops [⟨some 72, .mv (.t 16), none, []⟩,
  ⟨some 73, .bin .add (.t 72) (.c (.int .i64 1)), none, []⟩,
  ⟨some 16, .mv (.t 73), none, []⟩] [3, 9, 10, 11, 12, 15, 16]) k s Q := rfl
def c22_40 : ACode := .seq c22_38 c22_39
theorem r22_40 {C : Cs} {k : List Fr} {s : St} {Q : Post} : run C c22_40 k s Q = run C (.seq c22_38 c22_39) k s Q := rfl
def c22_41 : ACode := .seq c22_32 c22_40
theorem r22_41 {C : Cs} {k : List Fr} {s : St} {Q : Post} : run C c22_41 k s Q = run C (.seq c22_32 c22_40) k s Q := rfl
def c22_42 : ACode := .keep [3, 9, 10, 11, 12, 15, 16] [9, 10] c22_41
theorem r22_42 {C : Cs} {k : List Fr} {s : St} {Q : Post} : run C c22_42 k s Q = run C (.keep [3, 9, 10, 11, 12, 15, 16] [9, 10] c22_41) k s Q := rfl
def c22_43 : ACode := .loop c22_42
theorem r22_43 {C : Cs} {k : List Fr} {s : St} {Q : Post} : run C c22_43 k s Q = run C (.loop c22_42) k s Q := rfl
def c22_44 : ACode := .block 2 c22_43
theorem r22_44 {C : Cs} {k : List Fr} {s : St} {Q : Post} : run C c22_44 k s Q = run C (.block 2 c22_43) k s Q := rfl
def c22_45 : ACode := .seq c22_29 c22_44
theorem r22_45 {C : Cs} {k : List Fr} {s : St} {Q : Post} : run C c22_45 k s Q = run C (.seq c22_29 c22_44) k s Q := rfl
def c22_46 : ACode := .ops [⟨some 98, .load 6 true (.t 9), none, [9]⟩,
  ⟨some 99, .mv (.t 11), none, []⟩,
  ⟨some 100, .load 10 true (.t 10), none, [10]⟩,
  ⟨some 101, .mv (.t 3), none, []⟩,
  ⟨some 102, .call 63 [.t 101, .c (.int .i64 0), .c (.int .i64 200)], none, []⟩,
  ⟨some 103, .call 82 [.t 98, .t 99, .t 100, .t 102], none, []⟩,
  ⟨some 97, .mv (.t 103), none, []⟩,
  ⟨some 104, .ext (.t 97) 0, none, []⟩,
  ⟨some 105, .ext (.t 97) 1, none, []⟩,
  ⟨some 106, .ext (.t 97) 2, none, []⟩,
  ⟨some 17, .mv (.t 104), none, []⟩,
  ⟨some 18, .mv (.t 105), none, []⟩,
  ⟨some 19, .mv (.t 106), none, []⟩] [9, 10, 11, 12, 15, 19]
theorem r22_46 {C : Cs} {k : List Fr} {s : St} {Q : Post} : run C c22_46 k s Q = run C (.ops [⟨some 98, .load 6 true (.t 9), none, [9]⟩,
  ⟨some 99, .mv (.t 11), none, []⟩,
  ⟨some 100, .load 10 true (.t 10), none, [10]⟩,
  ⟨some 101, .mv (.t 3), none, []⟩,
  ⟨some 102, .call 63 [.t 101, .c (.int .i64 0), .c (.int .i64 200)], none, []⟩,
  ⟨some 103, .call 82 [.t 98, .t 99, .t 100, .t 102], none, []⟩,
  ⟨some 97, .mv (.t 103), none, []⟩,
  ⟨some 104, .ext (.t 97) 0, none, []⟩,
  ⟨some 105, .ext (.t 97) 1, none, []⟩,
  ⟨some 106, .ext (.t 97) 2, none, []⟩,
  ⟨some 17, .mv (.t 104), none, []⟩,
  ⟨some 18, .mv (.t 105), none, []⟩,
  ⟨some 19, .mv (.t 106), none, []⟩] [9, 10, 11, 12, 15, 19]) k s Q := rfl
def c22_47 : ACode := .ops [⟨some 108, .load 6 true (.t 9), none, [9]⟩,
  ⟨some 109, .mv (.t 11), none, []⟩,
  ⟨some 110, .load 10 true (.t 10), none, [10]⟩,
  ⟨some 111, .call 82 [.t 108, .t 109, .t 110, .c (.int .i64 0)], none, []⟩,
  ⟨some 107, .mv (.t 111), none, []⟩,
  ⟨some 112, .ext (.t 107) 0, none, []⟩,
  ⟨some 113, .ext (.t 107) 1, none, []⟩,
  ⟨some 114, .ext (.t 107) 2, none, []⟩,
  ⟨some 20, .mv (.t 112), none, []⟩,
  ⟨some 21, .mv (.t 113), none, []⟩,
  ⟨some 22, .mv (.t 114), none, []⟩] [9, 10, 11, 12, 15, 19, 20, 21, 22]
theorem r22_47 {C : Cs} {k : List Fr} {s : St} {Q : Post} : run C c22_47 k s Q = run C (.ops [⟨some 108, .load 6 true (.t 9), none, [9]⟩,
  ⟨some 109, .mv (.t 11), none, []⟩,
  ⟨some 110, .load 10 true (.t 10), none, [10]⟩,
  ⟨some 111, .call 82 [.t 108, .t 109, .t 110, .c (.int .i64 0)], none, []⟩,
  ⟨some 107, .mv (.t 111), none, []⟩,
  ⟨some 112, .ext (.t 107) 0, none, []⟩,
  ⟨some 113, .ext (.t 107) 1, none, []⟩,
  ⟨some 114, .ext (.t 107) 2, none, []⟩,
  ⟨some 20, .mv (.t 112), none, []⟩,
  ⟨some 21, .mv (.t 113), none, []⟩,
  ⟨some 22, .mv (.t 114), none, []⟩] [9, 10, 11, 12, 15, 19, 20, 21, 22]) k s Q := rfl
def c22_48 : ACode := .ops [⟨some 116, .load 6 true (.t 9), none, [9]⟩,
  ⟨some 117, .mv (.t 11), none, []⟩,
  ⟨some 118, .load 10 true (.t 10), none, [10]⟩,
  ⟨some 119, .call 44 [.t 116, .t 117, .t 118], none, []⟩,
  ⟨some 115, .mv (.t 119), none, []⟩,
  ⟨some 120, .ext (.t 115) 0, none, []⟩,
  ⟨some 121, .ext (.t 115) 1, none, []⟩,
  ⟨some 122, .ext (.t 115) 2, none, []⟩,
  ⟨some 23, .mv (.t 120), none, []⟩,
  ⟨some 24, .mv (.t 121), none, []⟩,
  ⟨some 25, .mv (.t 122), none, []⟩] [9, 10, 11, 12, 15, 19, 20, 21, 22, 23, 24, 25]
theorem r22_48 {C : Cs} {k : List Fr} {s : St} {Q : Post} : run C c22_48 k s Q = run C (.ops [⟨some 116, .load 6 true (.t 9), none, [9]⟩,
  ⟨some 117, .mv (.t 11), none, []⟩,
  ⟨some 118, .load 10 true (.t 10), none, [10]⟩,
  ⟨some 119, .call 44 [.t 116, .t 117, .t 118], none, []⟩,
  ⟨some 115, .mv (.t 119), none, []⟩,
  ⟨some 120, .ext (.t 115) 0, none, []⟩,
  ⟨some 121, .ext (.t 115) 1, none, []⟩,
  ⟨some 122, .ext (.t 115) 2, none, []⟩,
  ⟨some 23, .mv (.t 120), none, []⟩,
  ⟨some 24, .mv (.t 121), none, []⟩,
  ⟨some 25, .mv (.t 122), none, []⟩] [9, 10, 11, 12, 15, 19, 20, 21, 22, 23, 24, 25]) k s Q := rfl
def c22_49 : ACode := .ops [⟨some 123, .load 6 true (.t 9), none, [9]⟩,
  ⟨some 124, .mv (.t 11), none, []⟩,
  ⟨some 125, .load 10 true (.t 10), none, [10]⟩,
  ⟨some 126, .call 84 [.t 123, .t 124, .t 125, .c (.int .i64 1073741824)], none, []⟩,
  ⟨some 26, .mv (.t 126), none, []⟩] [9, 11, 12, 15, 19, 20, 21, 22, 23, 24, 25, 26]
theorem r22_49 {C : Cs} {k : List Fr} {s : St} {Q : Post} : run C c22_49 k s Q = run C (.ops [⟨some 123, .load 6 true (.t 9), none, [9]⟩,
  ⟨some 124, .mv (.t 11), none, []⟩,
  ⟨some 125, .load 10 true (.t 10), none, [10]⟩,
  ⟨some 126, .call 84 [.t 123, .t 124, .t 125, .c (.int .i64 1073741824)], none, []⟩,
  ⟨some 26, .mv (.t 126), none, []⟩] [9, 11, 12, 15, 19, 20, 21, 22, 23, 24, 25, 26]) k s Q := rfl
def c22_50 : ACode := .ops [⟨some 27, .alloc [.int .i64 0, .int .i64 0, .int .i64 0, .int .i64 0, .int .i64 0, .int .i64 0, .int .i64 0, .int .i64 0, .int .i64 0, .int .i64 0], none, []⟩] [9, 11, 12, 15, 19, 20, 21, 22, 23, 24, 25, 26, 27]
theorem r22_50 {C : Cs} {k : List Fr} {s : St} {Q : Post} : run C c22_50 k s Q = run C (.ops [⟨some 27, .alloc [.int .i64 0, .int .i64 0, .int .i64 0, .int .i64 0, .int .i64 0, .int .i64 0, .int .i64 0, .int .i64 0, .int .i64 0, .int .i64 0], none, []⟩] [9, 11, 12, 15, 19, 20, 21, 22, 23, 24, 25, 26, 27]) k s Q := rfl
def c22_51 : ACode := .ops [⟨some 127, .build [.int .i64 0, .int .i64 0] [(0, 1, .c (.int .i64 1))], none, []⟩,
  ⟨some 128, .iad (.t 27) (.c (.int .i64 0)) 2 5, none, [27]⟩,
  ⟨none, .store (.t 128) 2 (.t 127), none, [27]⟩] [9, 11, 12, 15, 19, 20, 21, 22, 23, 24, 25, 26, 27]
theorem r22_51 {C : Cs} {k : List Fr} {s : St} {Q : Post} : run C c22_51 k s Q = run C (.ops [⟨some 127, .build [.int .i64 0, .int .i64 0] [(0, 1, .c (.int .i64 1))], none, []⟩,
  ⟨some 128, .iad (.t 27) (.c (.int .i64 0)) 2 5, none, [27]⟩,
  ⟨none, .store (.t 128) 2 (.t 127), none, [27]⟩] [9, 11, 12, 15, 19, 20, 21, 22, 23, 24, 25, 26, 27]) k s Q := rfl
def c22_52 : ACode := .ops [⟨some 129, .mv (.t 19), none, []⟩,
  ⟨some 130, .mv (.t 15), none, []⟩,
  ⟨some 131, .mv (.t 15), none, []⟩,
  ⟨some 132, .len (.t 131), none, []⟩,
  ⟨some 133, .bin .sub (.t 132) (.c (.int .i64 1)), none, []⟩,
  ⟨some 134, .ias (.t 130) (.t 133) 1, none, []⟩,
  ⟨some 135, .load 1 false (.t 134), none, []⟩,
  ⟨some 136, .bin .leq (.t 135) (.c (.int .i64 1)), none, []⟩,
  ⟨some 137, .eqb false (.t 129) (.t 136), none, []⟩,
  ⟨some 138, .mv (.t 137), none, []⟩,
  ⟨some 139, .mv (.t 20), some (138, true), []⟩,
  ⟨some 140, .mv (.t 23), some (138, true), []⟩,
  ⟨some 141, .bin .eql (.t 139) (.t 140), some (138, true), []⟩,
  ⟨some 142, .pick (.t 138) (.t 141) (.c (.bool false)), none, []⟩,
  ⟨some 143, .mv (.t 142), none, []⟩,
  ⟨some 144, .mv (.t 21), some (143, true), []⟩,
  ⟨some 145, .mv (.t 24), some (143, true), []⟩,
  ⟨some 146, .bin .eql (.t 144) (.t 145), some (143, true), []⟩,
  ⟨some 147, .pick (.t 143) (.t 146) (.c (.bool false)), none, []⟩,
  ⟨some 148, .mv (.t 147), none, []⟩,
  ⟨some 149, .mv (.t 25), some (148, true), []⟩,
  ⟨some 150, .pick (.t 148) (.t 149) (.c (.bool false)), none, []⟩,
  ⟨some 151, .mv (.t 150), none, []⟩,
  ⟨some 152, .mv (.t 22), some (151, true), []⟩,
  ⟨some 153, .mv (.t 12), some (151, true), []⟩,
  ⟨some 154, .bin .leq (.t 153) (.c (.int .i64 1)), some (151, true), []⟩,
  ⟨some 155, .eqb false (.t 152) (.t 154), some (151, true), []⟩,
  ⟨some 156, .pick (.t 151) (.t 155) (.c (.bool false)), none, []⟩,
  ⟨some 157, .mv (.t 156), none, []⟩,
  ⟨some 158, .mv (.t 26), some (157, true), []⟩,
  ⟨some 159, .len (.t 158), some (157, true), []⟩,
  ⟨some 160, .bin .gtr (.t 159) (.c (.int .i64 0)), some (157, true), []⟩,
  ⟨some 161, .pick (.t 157) (.t 160) (.c (.bool false)), none, []⟩,
  ⟨some 162, .mv (.t 161), none, []⟩,
  ⟨some 163, .mv (.t 26), some (162, true), []⟩,
  ⟨some 164, .mv (.t 26), some (162, true), []⟩,
  ⟨some 165, .len (.t 164), some (162, true), []⟩,
  ⟨some 166, .bin .sub (.t 165) (.c (.int .i64 1)), some (162, true), []⟩,
  ⟨some 167, .ias (.t 163) (.t 166) 1, some (162, true), []⟩,
  ⟨some 168, .load 1 false (.t 167), some (162, true), []⟩,
  ⟨some 169, .mv (.t 12), some (162, true), []⟩,
  ⟨some 170, .mnmx false (.t 169) (.c (.int .i64 1)), some (162, true), []⟩,
  ⟨some 171, .bin .eql (.t 168) (.t 170), some (162, true), []⟩,
  ⟨some 172, .pick (.t 162) (.t 171) (.c (.bool false)), none, []⟩,
  ⟨some 173, .mv (.t 172), none, []⟩,
  ⟨some 174, .load 6 true (.t 9), some (173, true), [9]⟩,
  ⟨some 175, .mv (.t 11), some (173, true), []⟩,
  ⟨some 176, .load 10 true (.t 27), some (173, true), [27]⟩,
  ⟨some 177, .call 84 [.t 174, .t 175, .t 176, .c (.int .i64 9)], some (173, true), []⟩,
  ⟨some 178, .len (.t 177), some (173, true), []⟩,
  ⟨some 179, .bin .eql (.t 178) (.c (.int .i64 0)), some (173, true), []⟩,
  ⟨some 180, .pick (.t 173) (.t 179) (.c (.bool false)), none, []⟩,
  ⟨some 181, .mv (.t 180), none, []⟩,
  ⟨some 182, .call 20 [], some (181, true), []⟩,
  ⟨some 183, .pick (.t 181) (.t 182) (.c (.bool false)), none, []⟩,
  ⟨some 8, .mv (.t 183), none, []⟩] [8]
theorem r22_52 {C : Cs} {k : List Fr} {s : St} {Q : Post} : run C c22_52 k s Q = run C (.ops [⟨some 129, .mv (.t 19), none, []⟩,
  ⟨some 130, .mv (.t 15), none, []⟩,
  ⟨some 131, .mv (.t 15), none, []⟩,
  ⟨some 132, .len (.t 131), none, []⟩,
  ⟨some 133, .bin .sub (.t 132) (.c (.int .i64 1)), none, []⟩,
  ⟨some 134, .ias (.t 130) (.t 133) 1, none, []⟩,
  ⟨some 135, .load 1 false (.t 134), none, []⟩,
  ⟨some 136, .bin .leq (.t 135) (.c (.int .i64 1)), none, []⟩,
  ⟨some 137, .eqb false (.t 129) (.t 136), none, []⟩,
  ⟨some 138, .mv (.t 137), none, []⟩,
  ⟨some 139, .mv (.t 20), some (138, true), []⟩,
  ⟨some 140, .mv (.t 23), some (138, true), []⟩,
  ⟨some 141, .bin .eql (.t 139) (.t 140), some (138, true), []⟩,
  ⟨some 142, .pick (.t 138) (.t 141) (.c (.bool false)), none, []⟩,
  ⟨some 143, .mv (.t 142), none, []⟩,
  ⟨some 144, .mv (.t 21), some (143, true), []⟩,
  ⟨some 145, .mv (.t 24), some (143, true), []⟩,
  ⟨some 146, .bin .eql (.t 144) (.t 145), some (143, true), []⟩,
  ⟨some 147, .pick (.t 143) (.t 146) (.c (.bool false)), none, []⟩,
  ⟨some 148, .mv (.t 147), none, []⟩,
  ⟨some 149, .mv (.t 25), some (148, true), []⟩,
  ⟨some 150, .pick (.t 148) (.t 149) (.c (.bool false)), none, []⟩,
  ⟨some 151, .mv (.t 150), none, []⟩,
  ⟨some 152, .mv (.t 22), some (151, true), []⟩,
  ⟨some 153, .mv (.t 12), some (151, true), []⟩,
  ⟨some 154, .bin .leq (.t 153) (.c (.int .i64 1)), some (151, true), []⟩,
  ⟨some 155, .eqb false (.t 152) (.t 154), some (151, true), []⟩,
  ⟨some 156, .pick (.t 151) (.t 155) (.c (.bool false)), none, []⟩,
  ⟨some 157, .mv (.t 156), none, []⟩,
  ⟨some 158, .mv (.t 26), some (157, true), []⟩,
  ⟨some 159, .len (.t 158), some (157, true), []⟩,
  ⟨some 160, .bin .gtr (.t 159) (.c (.int .i64 0)), some (157, true), []⟩,
  ⟨some 161, .pick (.t 157) (.t 160) (.c (.bool false)), none, []⟩,
  ⟨some 162, .mv (.t 161), none, []⟩,
  ⟨some 163, .mv (.t 26), some (162, true), []⟩,
  ⟨some 164, .mv (.t 26), some (162, true), []⟩,
  ⟨some 165, .len (.t 164), some (162, true), []⟩,
  ⟨some 166, .bin .sub (.t 165) (.c (.int .i64 1)), some (162, true), []⟩,
  ⟨some 167, .ias (.t 163) (.t 166) 1, some (162, true), []⟩,
  ⟨some 168, .load 1 false (.t 167), some (162, true), []⟩,
  ⟨some 169, .mv (.t 12), some (162, true), []⟩,
  ⟨some 170, .mnmx false (.t 169) (.c (.int .i64 1)), some (162, true), []⟩,
  ⟨some 171, .bin .eql (.t 168) (.t 170), some (162, true), []⟩,
  ⟨some 172, .pick (.t 162) (.t 171) (.c (.bool false)), none, []⟩,
  ⟨some 173, .mv (.t 172), none, []⟩,
  ⟨some 174, .load 6 true (.t 9), some (173, true), [9]⟩,
  ⟨some 175, .mv (.t 11), some (173, true), []⟩,
  ⟨some 176, .load 10 true (.t 27), some (173, true), [27]⟩,
  ⟨some 177, .call 84 [.t 174, .t 175, .t 176, .c (.int .i64 9)], some (173, true), []⟩,
  ⟨some 178, .len (.t 177), some (173, true), []⟩,
  ⟨some 179, .bin .eql (.t 178) (.c (.int .i64 0)), some (173, true), []⟩,
  ⟨some 180, .pick (.t 173) (.t 179) (.c (.bool false)), none, []⟩,
  ⟨some 181, .mv (.t 180), none, []⟩,
  ⟨some 182, .call 20 [], some (181, true), []⟩,
  ⟨some 183, .pick (.t 181) (.t 182) (.c (.bool false)), none, []⟩,
  ⟨some 8, .mv (.t 183), none, []⟩] [8]) k s Q := rfl
def c22_53 : ACode := .seq c22_52 .ret
theorem r22_53 {C : Cs} {k : List Fr} {s : St} {Q : Post} : run C c22_53 k s Q = run C (.seq c22_52 .ret) k s Q := rfl
def c22_54 : ACode := .seq c22_51 c22_53
theorem r22_54 {C : Cs} {k : List Fr} {s : St} {Q : Post} : run C c22_54 k s Q = run C (.seq c22_51 c22_53) k s Q := rfl
def c22_55 : ACode := .seq c22_50 c22_54
theorem r22_55 {C : Cs} {k : List Fr} {s : St} {Q : Post} : run C c22_55 k s Q = run C (.seq c22_50 c22_54) k s Q := rfl
def c22_56 : ACode := .seq c22_49 c22_55
theorem r22_56 {C : Cs} {k : List Fr} {s : St} {Q : Post} : run C c22_56 k s Q = run C (.seq c22_49 c22_55) k s Q := rfl
def c22_57 : ACode := .seq c22_48 c22_56
theorem r22_57 {C : Cs} {k : List Fr} {s : St} {Q : Post} : run C c22_57 k s Q = run C (.seq c22_48 c22_56) k s Q := rfl
def c22_58 : ACode := .seq c22_47 c22_57
theorem r22_58 {C : Cs} {k : List Fr} {s : St} {Q : Post} : run C c22_58 k s Q = run C (.seq c22_47 c22_57) k s Q := rfl
def c22_59 : ACode := .seq c22_46 c22_58
theorem r22_59 {C : Cs} {k : List Fr} {s : St} {Q : Post} : run C c22_59 k s Q = run C (.seq c22_46 c22_58) k s Q := rfl
def c22_60 : ACode := .seq c22_45 c22_59
theorem r22_60 {C : Cs} {k : List Fr} {s : St} {Q : Post} : run C c22_60 k s Q = run C (.seq c22_45 c22_59) k s Q := rfl
def c22_61 : ACode := .seq c22_28 c22_60
theorem r22_61 {C : Cs} {k : List Fr} {s : St} {Q : Post} : run C c22_61 k s Q = run C (.seq c22_28 c22_60) k s Q := rfl
def c22_62 : ACode := .seq c22_23 c22_61
theorem r22_62 {C : Cs} {k : List Fr} {s : St} {Q : Post} : run C c22_62 k s Q = run C (.seq c22_23 c22_61) k s Q := rfl
def c22_63 : ACode := .seq c22_22 c22_62
theorem r22_63 {C : Cs} {k : List Fr} {s : St} {Q : Post} : run C c22_63 k s Q = run C (.seq c22_22 c22_62) k s Q := rfl
def c22_64 : ACode := .seq c22_4 c22_63
theorem r22_64 {C : Cs} {k : List Fr} {s : St} {Q : Post} : run C c22_64 k s Q = run C (.seq c22_4 c22_63) k s Q := rfl
def c22_65 : ACode := .seq c22_3 c22_64
theorem r22_65 {C : Cs} {k : List Fr} {s : St} {Q : Post} : run C c22_65 k s Q = run C (.seq c22_3 c22_64) k s Q := rfl
def c22_66 : ACode := .seq c22_2 c22_65
theorem r22_66 {C : Cs} {k : List Fr} {s : St} {Q : Post} : run C c22_66 k s Q = run C (.seq c22_2 c22_65) k s Q := rfl
def c22_67 : ACode := .seq c22_1 c22_66
theorem r22_67 {C : Cs} {k : List Fr} {s : St} {Q : Post} : run C c22_67 k s Q = run C (.seq c22_1 c22_66) k s Q := rfl
def c22_68 : ACode := .seq c22_0 c22_67
theorem r22_68 {C : Cs} {k : List Fr} {s : St} {Q : Post} : run C c22_68 k s Q = run C (.seq c22_0 c22_67) k s Q := rfl
def a22 : AFun := ⟨4, 184, c22_68, [.t 8]⟩
attribute [simp] r22_0 r22_1 r22_2 r22_3 r22_4 r22_5 r22_6 r22_7 r22_8 r22_9 r22_10 r22_11 r22_12 r22_13 r22_14 r22_15 r22_16 r22_17 r22_18 r22_19 r22_20 r22_21 r22_22 r22_23 r22_24 r22_25 r22_26 r22_27 r22_28 r22_29 r22_30 r22_31 r22_32 r22_33 r22_34 r22_35 r22_36 r22_37 r22_38 r22_39 r22_40 r22_41 r22_42 r22_43 r22_44 r22_45 r22_46 r22_47 r22_48 r22_49 r22_50 r22_51 r22_52 r22_53 r22_54 r22_55 r22_56 r22_57 r22_58 r22_59 r22_60 r22_61 r22_62 r22_63 r22_64 r22_65 r22_66 r22_67 r22_68
theorem m22 : mFun Try.prog Try.f22 a22 = true := by decide +kernel

/- copse/copselaw16.LevelRuns -/
def c20_0 : ACode := .ops [⟨some 0, .mv (.c (.bool false)), none, []⟩] []
def c20_1 : ACode := .ops [⟨some 9, .call 43 [], none, []⟩,
  ⟨some 1, .alloc [.int .i64 0, .int .i64 0, .int .i64 0, .int .i64 0, .int .i64 0, .nils], none, []⟩,
  ⟨none, .store (.t 1) 6 (.t 9), none, [1]⟩] [1]
def c20_2 : ACode := .ops [⟨some 10, .build [.int .i64 0, .int .i64 0, .int .i64 0] [], none, []⟩,
  ⟨some 11, .fad (.t 1) 2, none, [1]⟩,
  ⟨none, .store (.t 11) 3 (.t 10), none, [1]⟩] [1]
def c20_3 : ACode := .ops [⟨some 12, .call 81 [.c (.int .i64 5), .c (.int .i64 1), .c (.int .i64 (-1))], none, []⟩,
  ⟨some 13, .build [.int .i64 0, .nils] [(1, 1, .t 12)], none, []⟩,
  ⟨some 14, .call 81 [.c (.int .i64 5), .c (.int .i64 (-1)), .c (.int .i64 1)], none, []⟩,
  ⟨some 15, .build [.int .i64 0, .nils] [(1, 1, .t 14)], none, []⟩,
  ⟨some 16, .mkrow 10105 2 2 [.int .i64 0, .nils] [(0, 2, .t 13), (2, 2, .t 15)], none, []⟩,
  ⟨some 17, .fad (.t 1) 5, none, [1]⟩,
  ⟨none, .store (.t 17) 1 (.t 16), none, [1]⟩] [1]
def c20_4 : ACode := .ops [⟨some 18, .build [.int .i64 0, .int .i64 0] [(0, 1, .c (.int .i64 0)), (1, 1, .c (.int .i64 9))], none, []⟩,
  ⟨some 19, .build [.int .i64 0, .int .i64 0, .int .i64 0, .int .i64 0, .int .i64 0, .int .i64 0, .int .i64 0, .int .i64 0, .int .i64 0, .int .i64 0] [(0, 2, .t 18)], none, []⟩,
  ⟨some 2, .alloc [.int .i64 0, .int .i64 0, .int .i64 0, .int .i64 0, .int .i64 0, .int .i64 0, .int .i64 0, .int .i64 0, .int .i64 0, .int .i64 0], none, []⟩,
  ⟨none, .store (.t 2) 10 (.t 19), none, [2]⟩] [1, 2]
def c20_5 : ACode := .ops [⟨some 21, .load 6 true (.t 1), none, [1]⟩,
  ⟨some 22, .load 10 true (.t 2), none, [2]⟩,
  ⟨some 23, .call 82 [.t 21, .c (.int .i64 0), .t 22, .c (.int .i64 9)], none, [10105]⟩,
  ⟨some 20, .mv (.t 23), none, []⟩,
  ⟨some 24, .ext (.t 20) 0, none, []⟩,
  ⟨some 25, .ext (.t 20) 1, none, []⟩,
  ⟨some 26, .ext (.t 20) 2, none, []⟩,
  ⟨some 3, .mv (.t 24), none, []⟩,
  ⟨some 4, .mv (.t 25), none, []⟩,
  ⟨some 5, .mv (.t 26), none, []⟩] [1, 2, 3, 4, 5]
def c20_6 : ACode := .ops [⟨some 28, .load 6 true (.t 1), none, [1]⟩,
  ⟨some 29, .load 10 true (.t 2), none, [2]⟩,
  ⟨some 30, .call 82 [.t 28, .c (.int .i64 0), .t 29, .c (.int .i64 1)], none, [10105]⟩,
  ⟨some 27, .mv (.t 30), none, []⟩,
  ⟨some 31, .ext (.t 27) 0, none, []⟩,
  ⟨some 32, .ext (.t 27) 1, none, []⟩,
  ⟨some 33, .ext (.t 27) 2, none, []⟩,
  ⟨some 6, .mv (.t 31), none, []⟩,
  ⟨some 7, .mv (.t 32), none, []⟩,
  ⟨some 8, .mv (.t 33), none, []⟩] [1, 2, 3, 4, 5, 6, 7, 8]
def c20_7 : ACode := .ops [⟨some 34, .mv (.t 3), none, []⟩,
  ⟨some 35, .bin .eql (.t 34) (.c (.int .i64 0)), none, []⟩,
  ⟨some 36, .mv (.t 35), none, []⟩,
  ⟨some 37, .mv (.t 4), some (36, true), []⟩,
  ⟨some 38, .bin .eql (.t 37) (.c (.int .i64 0)), some (36, true), []⟩,
  ⟨some 39, .pick (.t 36) (.t 38) (.c (.bool false)), none, []⟩,
  ⟨some 40, .mv (.t 39), none, []⟩,
  ⟨some 41, .mv (.t 5), some (40, true), []⟩,
  ⟨some 42, .pick (.t 40) (.t 41) (.c (.bool false)), none, []⟩,
  ⟨some 43, .mv (.t 42), none, []⟩,
  ⟨some 44, .mv (.t 6), some (43, true), []⟩,
  ⟨some 45, .bin .eql (.t 44) (.c (.int .i64 (-2))), some (43, true), []⟩,
  ⟨some 46, .pick (.t 43) (.t 45) (.c (.bool false)), none, []⟩,
  ⟨some 47, .mv (.t 46), none, []⟩,
  ⟨some 48, .mv (.t 7), some (47, true), []⟩,
  ⟨some 49, .bin .eql (.t 48) (.c (.int .i64 2)), some (47, true), []⟩,
  ⟨some 50, .pick (.t 47) (.t 49) (.c (.bool false)), none, []⟩,
  ⟨some 51, .mv (.t 50), none, []⟩,
  ⟨some 52, .mv (.t 8), some (51, true), []⟩,
  ⟨some 53, .un .not (.t 52), some (51, true), []⟩,
  ⟨some 54, .pick (.t 51) (.t 53) (.c (.bool false)), none, []⟩,
  ⟨some 55, .mv (.t 54), none, []⟩,
  ⟨some 56, .load 6 true (.t 1), some (55, true), [1]⟩,
  ⟨some 57, .load 10 true (.t 2), some (55, true), [2]⟩,
  ⟨some 58, .call 84 [.t 56, .c (.int .i64 0), .t 57, .c (.int .i64 9)], some (55, true), [10105]⟩,
  ⟨some 59, .mkrow 59 2 1 [.int .i64 0] [(0, 1, .c (.int .i64 2)), (1, 1, .c (.int .i64 1))], some (55, true), []⟩,
  ⟨some 60, .call 83 [.t 58, .t 59], some (55, true), [59]⟩,
  ⟨some 61, .pick (.t 55) (.t 60) (.c (.bool false)), none, []⟩,
  ⟨some 62, .mv (.t 61), none, []⟩,
  ⟨some 63, .load 6 true (.t 1), some (62, true), [1]⟩,
  ⟨some 64, .load 10 true (.t 2), some (62, true), [2]⟩,
  ⟨some 65, .call 84 [.t 63, .c (.int .i64 0), .t 64, .c (.int .i64 1)], some (62, true), [10105]⟩,
  ⟨some 66, .mkrow 66 1 1 [.int .i64 0] [(0, 1, .c (.int .i64 2))], some (62, true), []⟩,
  ⟨some 67, .call 83 [.t 65, .t 66], some (62, true), [66]⟩,
  ⟨some 68, .pick (.t 62) (.t 67) (.c (.bool false)), none, []⟩,
  ⟨some 0, .mv (.t 68), none, []⟩] [0]
def c20_8 : ACode := .seq c20_7 .ret
def c20_9 : ACode := .seq c20_6 c20_8
def c20_10 : ACode := .seq c20_5 c20_9
def c20_11 : ACode := .seq c20_4 c20_10
def c20_12 : ACode := .seq c20_3 c20_11
def c20_13 : ACode := .seq c20_2 c20_12
def c20_14 : ACode := .seq c20_1 c20_13
def c20_15 : ACode := .seq c20_0 c20_14
def a20 : AFun := ⟨0, 69, c20_15, [.t 0]⟩
theorem m20 : mFun Try.prog Try.f20 a20 = true := by decide +kernel
/- copse/copsekeep.Three -/
def c43_0 : ACode := .ops [⟨some 0, .alloc [.int .i64 0, .int .i64 0, .int .i64 0, .int .i64 0, .int .i64 0, .nils], none, []⟩] [0]
def c43_1 : ACode := .ops [⟨some 2, .build [.bool false, .int .i64 0, .int .i64 0, .int .i64 0, .int .i64 0, .int .i64 0] [(3, 1, .c (.int .i64 5)), (4, 1, .c (.int .i64 1)), (5, 1, .c (.int .i64 2))], none, []⟩,
  ⟨some 3, .call 111 [.t 2], none, []⟩,
  ⟨some 4, .build [.bool false, .int .i64 0, .int .i64 0, .int .i64 0, .int .i64 0, .int .i64 0] [(0, 1, .c (.bool true)), (1, 1, .c (.int .i64 10))], none, []⟩,
  ⟨some 5, .call 111 [.t 4], none, []⟩,
  ⟨some 6, .build [.bool false, .int .i64 0, .int .i64 0, .int .i64 0, .int .i64 0, .int .i64 0] [(0, 1, .c (.bool true)), (1, 1, .c (.int .i64 20))], none, []⟩,
  ⟨some 7, .call 111 [.t 6], none, []⟩,
  ⟨some 8, .mkrow 1 3 1 [.int .u64 0] [(0, 1, .t 3), (1, 1, .t 5), (2, 1, .t 7)], none, []⟩,
  ⟨some 1, .mv (.t 8), none, []⟩] [0, 1]
def c43_2 : ACode := .ops [⟨some 9, .build [.int .i64 0, .int .i64 0, .int .i64 0] [(0, 1, .c (.int .i64 3))], none, []⟩,
  ⟨some 10, .mv (.t 1), none, []⟩,
  ⟨some 11, .build [.int .i64 0, .nils] [(1, 1, .t 10)], none, []⟩,
  ⟨some 12, .mkrow 12 1 2 [.int .i64 0, .nils] [(0, 2, .t 11)], none, []⟩,
  ⟨some 13, .build [.int .i64 0, .int .i64 0, .int .i64 0, .int .i64 0, .int .i64 0, .nils] [(0, 1, .c (.int .i64 1)), (1, 1, .c (.int .i64 1)), (2, 3, .t 9), (5, 1, .t 12)], none, []⟩,
  ⟨none, .store (.t 0) 6 (.t 13), none, [0]⟩] [0]
def c43_3 : ACode := .seq c43_2 .ret
def c43_4 : ACode := .seq c43_1 c43_3
def c43_5 : ACode := .seq c43_0 c43_4
def a43 : AFun := ⟨0, 14, c43_5, [.cell 0 6 true]⟩
theorem m43 : mFun Try.prog Try.f43 a43 = true := by decide +kernel
/- copse/copsekeep.Stump -/
def c81_0 : ACode := .ops [⟨some 6, .nil0 6 1, none, []⟩] [0, 1, 2]
def c81_1 : ACode := .ops [⟨some 7, .mv (.t 0), none, []⟩,
  ⟨some 8, .build [.bool false, .int .i64 0, .int .i64 0, .int .i64 0, .int .i64 0, .int .i64 0] [(3, 1, .t 7), (4, 1, .c (.int .i64 1)), (5, 1, .c (.int .i64 2))], none, []⟩,
  ⟨some 9, .call 111 [.t 8], none, []⟩,
  ⟨some 10, .mv (.t 1), none, []⟩,
  ⟨some 11, .build [.bool false, .int .i64 0, .int .i64 0, .int .i64 0, .int .i64 0, .int .i64 0] [(0, 1, .c (.bool true)), (1, 1, .t 10)], none, []⟩,
  ⟨some 12, .call 111 [.t 11], none, []⟩,
  ⟨some 13, .mv (.t 2), none, []⟩,
  ⟨some 14, .build [.bool false, .int .i64 0, .int .i64 0, .int .i64 0, .int .i64 0, .int .i64 0] [(0, 1, .c (.bool true)), (1, 1, .t 13)], none, []⟩,
  ⟨some 15, .call 111 [.t 14], none, []⟩,
  ⟨some 16, .mkrow 6 3 1 [.int .u64 0] [(0, 1, .t 9), (1, 1, .t 12), (2, 1, .t 15)], none, []⟩,
  ⟨some 6, .mv (.t 16), none, []⟩] [6]
def c81_2 : ACode := .seq c81_1 .ret
def c81_3 : ACode := .seq c81_0 c81_2
def a81 : AFun := ⟨3, 17, c81_3, [.t 6]⟩
theorem m81 : mFun Try.prog Try.f81 a81 = true := by decide +kernel
/- copse/copsebook.Same[int] -/
def c83_0 : ACode := .ops [⟨some 4, .mv (.c (.bool false)), none, []⟩] [0, 1]
def c83_1 : ACode := .ops [⟨some 6, .mv (.t 0), none, []⟩,
  ⟨some 7, .len (.t 6), none, []⟩,
  ⟨some 8, .mv (.t 1), none, []⟩,
  ⟨some 9, .len (.t 8), none, []⟩,
  ⟨some 10, .bin .neq (.t 7) (.t 9), none, []⟩] [0, 1, 10]
def c83_2 : ACode := .ops [⟨some 4, .mv (.c (.bool false)), none, []⟩] [4]
def c83_3 : ACode := .seq c83_2 .ret
def c83_4 : ACode := .cond (.t 10) c83_3 .skip
def c83_5 : ACode := .seq c83_1 c83_4
def c83_6 : ACode := .ops [⟨some 5, .mv (.c (.int .i64 0)), none, []⟩] [0, 1, 5]
def c83_7 : ACode := .ops [⟨some 11, .mv (.t 5), none, []⟩,
  ⟨some 12, .mv (.t 0), none, []⟩,
  ⟨some 13, .len (.t 12), none, []⟩,
  ⟨some 14, .bin .lss (.t 11) (.t 13), none, []⟩] [0, 1, 5, 14]
def c83_8 : ACode := .cond (.t 14) .skip (.exit 0)
def c83_9 : ACode := .seq c83_7 c83_8
def c83_10 : ACode := .ops [⟨some 17, .mv (.t 0), none, []⟩,
  ⟨some 18, .mv (.t 5), none, []⟩,
  ⟨some 19, .ias (.t 17) (.t 18) 1, none, []⟩,
  ⟨some 20, .load 1 false (.t 19), none, []⟩,
  ⟨some 21, .mv (.t 1), none, []⟩,
  ⟨some 22, .mv (.t 5), none, []⟩,
  ⟨some 23, .ias (.t 21) (.t 22) 1, none, []⟩,
  ⟨some 24, .load 1 false (.t 23), none, []⟩,
  ⟨some 25, .bin .neq (.t 20) (.t 24), none, []⟩] [0, 1, 5, 25]
def c83_11 : ACode := .ops [⟨some 4, .mv (.c (.bool false)), none, []⟩] [4]
def c83_12 : ACode := .seq c83_11 .ret
def c83_13 : ACode := .cond (.t 25) c83_12 .skip
def c83_14 : ACode := .seq c83_10 c83_13
def c83_15 : ACode := .block 1 c83_14
def c83_16 : ACode := .ops [⟨some 15, .mv (.t 5), none, []⟩,
  ⟨some 16, .bin .add (.t 15) (.c (.int .i64 1)), none, []⟩,
  ⟨some 5, .mv (.t 16), none, []⟩] [0, 1, 5]
def c83_17 : ACode := .seq c83_15 c83_16
def c83_18 : ACode := .seq c83_9 c83_17
def c83_19 : ACode := .keep [0, 1, 5] [] c83_18
def c83_20 : ACode := .loop c83_19
def c83_21 : ACode := .block 0 c83_20
def c83_22 : ACode := .seq c83_6 c83_21
def c83_23 : ACode := .ops [⟨some 4, .mv (.c (.bool true)), none, []⟩] [4]
def c83_24 : ACode := .seq c83_23 .ret
def c83_25 : ACode := .seq c83_22 c83_24
def c83_26 : ACode := .seq c83_5 c83_25
def c83_27 : ACode := .seq c83_0 c83_26
def a83 : AFun := ⟨2, 26, c83_27, [.t 4]⟩
theorem m83 : mFun Try.prog Try.f83 a83 = true := by decide +kernel
def texts20 : List (Nat × AFun) := [(20, a20), (43, a43), (44, a44), (48, a48), (51, a51), (67, a67), (68, a68), (71, a71), (76, a76), (77, a77), (81, a81), (82, a82), (83, a83), (84, a84), (111, a111), (119, a119), (120, a120), (121, a121), (123, a123), (124, a124), (125, a125), (128, a128), (129, a129), (130, a130), (131, a131), (132, a132), (133, a133), (134, a134), (156, a156), (158, a158), (159, a159), (160, a160), (161, a161), (162, a162), (163, a163), (164, a164), (165, a165), (166, a166), (176, a176), (177, a177), (190, a190), (198, a198)]
theorem texts20_good : Go.Am.Good Try.prog texts20 :=
  good_cons Try.func20 m20 <| good_cons Try.func43 m43 <| good_cons Try.func44 m44 <| good_cons Try.func48 m48 <| good_cons Try.func51 m51 <| good_cons Try.func67 m67 <| good_cons Try.func68 m68 <| good_cons Try.func71 m71 <| good_cons Try.func76 m76 <| good_cons Try.func77 m77 <| good_cons Try.func81 m81 <| good_cons Try.func82 m82 <| good_cons Try.func83 m83 <| good_cons Try.func84 m84 <| good_cons Try.func111 m111 <| good_cons Try.func119 m119 <| good_cons Try.func120 m120 <| good_cons Try.func121 m121 <| good_cons Try.func123 m123 <| good_cons Try.func124 m124 <| good_cons Try.func125 m125 <| good_cons Try.func128 m128 <| good_cons Try.func129 m129 <| good_cons Try.func130 m130 <| good_cons Try.func131 m131 <| good_cons Try.func132 m132 <| good_cons Try.func133 m133 <| good_cons Try.func134 m134 <| good_cons Try.func156 m156 <| good_cons Try.func158 m158 <| good_cons Try.func159 m159 <| good_cons Try.func160 m160 <| good_cons Try.func161 m161 <| good_cons Try.func162 m162 <| good_cons Try.func163 m163 <| good_cons Try.func164 m164 <| good_cons Try.func165 m165 <| good_cons Try.func166 m166 <| good_cons Try.func176 m176 <| good_cons Try.func177 m177 <| good_cons Try.func190 m190 <| good_cons Try.func198 m198 <| good_nil
theorem c_closed20 : Contract Try.prog 20 (sp0 (some true)) := contract_closed mixed texts20_good (m := 1000) (n := 60) (by decide +kernel)


theorem startG_four {f : Forest} (c : Int) (b : Box) : (startG (modelOf f) c b).length ≤ 4 := by
  unfold startG
  rw [List.length_map]
  have h1 := List.length_filter_le (fun t : Tree => decide (t.cls = c)) (modelOf f).trees
  have h2 : (modelOf f).trees.length ≤ 4 := by unfold modelOf; simp; omega
  omega
theorem startG_wide {m : Model} (h : RM m) (c : Int) (b : Box) : ∀ g ∈ startG m c b, g.length ≤ 31 := by
  intro g hg
  obtain ⟨t, ht, _, rfl⟩ := mem_startG hg
  have h1 : (pieces t.nodes b).length ≤ t.nodes.length := piecesTo_len t.nodes b t.nodes.length
  have := (h.rt ht).le
  omega
set_option maxHeartbeats 4000000 in
set_option maxRecDepth 8000 in
theorem runs_law (f : Forest) (l : List Int) (cl mo : Int) (c : Bool) (h : some true = some c) : Runs (tbl [(45, sp1 ModelC), (46, sp2 RegionC), (63, sp3 Within), (84, sp4 LevelsC), (82, sp4 RangeC), (44, sp3 BoundS), (20, sp0 (some true))]) a22 [Arg.enc f, Arg.enc l, Arg.enc cl, Arg.enc mo] (Arg.enc c) := by
  cases h
  refine ⟨rfl, fun g => run_def ?_⟩
  unfold a22
  have hm := rm_modelOf f
  have hM : ModelC f = some (modelOf f) := rfl
  have h4 := fun c b => startG_four (f := f) c b
  generalize modelOf f = m at *
  have hR : RegionC m l = some (regionOf m.dim l) := part_of hm.dim _
  obtain ⟨hb, he, hsm⟩ := okB_region m.dim l
  generalize regionOf m.dim l = b at *
  have hcl := hm.classes
  have wd : IntKind.i64.wrap (m.classes - 1) = m.classes - 1 := wrap64 (by omega) (by omega)
  have hW := within_of cl 0 (m.classes - 1) (by omega)
  have hw := within_le cl 0 (m.classes - 1) (by omega)
  generalize within cl 0 (m.classes - 1) = k at *
  have hW2 := within_of mo 0 200 (by omega)
  have hw2 := within_le mo 0 200 (by omega)
  generalize within mo 0 200 = q at *
  have hle := hm.trees
  have b3 : m.trees.length ≤ maxN := by unfold maxN; omega
  have hgood : ¬ (k < 0 ∨ m.classes ≤ k ∨ b.empty = true) := by simp [he]; omega
  have hS : BoundS m k b = some ⟨(boundP m k b).1, (boundP m k b).2, true⟩ := by
    unfold BoundS
    rw [part_of ⟨hm, hb⟩, boundM, if_neg hgood]
  have hL1 : LevelsC m k b q = some (climb q (startG m k b)).2 := by
    unfold LevelsC
    rw [part_of ⟨hm, hb, by omega, by omega⟩, levelsP, if_neg hgood]
  have hL2 : LevelsC m k b 1073741824 = some (climb 1073741824 (startG m k b)).2 := by
    unfold LevelsC
    rw [part_of ⟨hm, hb, by omega, by omega⟩, levelsP, if_neg hgood]
  have hL3 : LevelsC m k ⟨⟨1, 0⟩, ⟨0, 0⟩, ⟨0, 0⟩, ⟨0, 0⟩, ⟨0, 0⟩⟩ 9 = some [] := by
    unfold LevelsC
    rw [part_of ⟨hm, by unfold okB okS64 ok64; simp only; omega, by omega, by omega⟩, levelsP, if_pos (.inr (.inr rfl))]
  have hR1 : ∃ x y, RangeC m k b q = some ⟨x, y, decide (((climb q (startG m k b)).1.length : Int) ≤ 1)⟩ := by
    unfold RangeC
    rw [part_of ⟨hm, hb, by omega, by omega⟩, rangeP, if_neg hgood]
    exact ⟨_, _, rfl⟩
  obtain ⟨rx, ry, hR1⟩ := hR1
  have hR0 : RangeC m k b 0 = some ⟨(boundP m k b).1, (boundP m k b).2, decide (((startG m k b).length : Int) ≤ 1)⟩ := by
    unfold RangeC
    rw [part_of ⟨hm, hb, by omega, by omega⟩, range_none hm he (by omega) (by omega)]
  have hlen : ∀ i, (startTo m k b i).length ≤ i := startTo_len m k b
  have hend : startTo m k b m.trees.length = startG m k b := by unfold startTo startG; rw [List.take_length]
  have hlast := all_meet (h4 k b) (startG_wide hm k b)
  obtain ⟨z1, z2, z3, z4⟩ := counts_all (most := q) (gs := startG m k b) rfl
  obtain ⟨y1, y2, y3, y4⟩ := counts_all (most := 1073741824) (gs := startG m k b) rfl
  have z5 := counts_le (most := q) _ (startG m k b) (Nat.le_refl _)
  have z6 := counts_len (most := q) (startG m k b).length (startG m k b)
  have y5 := counts_le (most := 1073741824) _ (startG m k b) (Nat.le_refl _)
  have y6 := counts_len (most := 1073741824) (startG m k b).length (startG m k b)
  have g4 := h4 k b
  rw [hlast] at y4
  clear hlast h4
  have z5 : ∀ x ∈ (climb q (startG m k b)).2, 0 ≤ x ∧ x ≤ (startG m k b).length := z5
  have z6 : (climb q (startG m k b)).2.length ≤ (startG m k b).length + 1 := z6
  have y5 : ∀ x ∈ (climb 1073741824 (startG m k b)).2, 0 ≤ x ∧ x ≤ (startG m k b).length := y5
  have y6 : (climb 1073741824 (startG m k b)).2.length ≤ (startG m k b).length + 1 := y6
  generalize (climb q (startG m k b)).1 = gq at *
  generalize (climb q (startG m k b)).2 = lq at *
  generalize (climb 1073741824 (startG m k b)).2 = la at *
  have i1 : rd (encL lq) 0 1 false = some (.int .i64 (startG m k b).length) := by rw [rd_ints lq 0 z1, z2]
  have i2 : rd (encL lq) (lq.length - 1) 1 false = some (.int .i64 gq.length) := by rw [rd_ints lq (lq.length - 1) (by omega), z4]
  have hmin : ((min (startG m k b).length 1 : Nat) : Int) = if (1 : Int) < (startG m k b).length then 1 else ((startG m k b).length : Int) := by split <;> omega
  have i3 : rd (encL la) (la.length - 1) 1 false = some (.int .i64 (if (1 : Int) < (startG m k b).length then 1 else ((startG m k b).length : Int))) := by rw [rd_ints la (la.length - 1) (by omega), y4, hmin]
  have n1 : lq.length ≤ maxN := by unfold maxN; omega
  have n2 : la.length ≤ maxN := by unfold maxN; omega
  simp -implicitDefEqProofs [hM, hR, wd, hW, b3]
  refine run_while (c := c22_18) (fun n s => ∃ (i : Nat) (g : Nat → Nat), i + n = m.trees.length ∧ s = ⟨[(3, .int .i64 mo), (9, .ptr 9 (g 9) 0), (10, .ptr 10 (g 10) 0), (11, .int .i64 k), (12, .int .i64 (startTo m k b i).length), (39, .lst m.trees.length (encL m.trees)), (40, .int .i64 m.trees.length), (41, .int .i64 i)],
    [(9, ⟨Row.enc m, false, 0⟩), (10, ⟨Row.enc b, false, 0⟩)], g⟩) m.trees.length ⟨0, bump 10 (bump 9 (bump 4 g)), by omega, by simp [startTo]⟩ ?_
  rintro n s ⟨i, g, hi, rfl⟩
  have hli := hlen i
  by_cases h1 : i < m.trees.length
  case pos =>
    have w1 : IntKind.i64.wrap ((i : Int) + 1) = (i : Int) + 1 := wrap64 (by omega) (by omega)
    have w2 : IntKind.i64.wrap (((startTo m k b i).length : Int) + 1) = ((startTo m k b i).length : Int) + 1 := wrap64 (by omega) (by omega)
    have hrow := rd_tree m.trees i h1
    by_cases hc : m.trees[i].cls = k
    case neg =>
      have hst : startTo m k b (i + 1) = startTo m k b i := by
        unfold startTo
        rw [List.take_succ_eq_append_getElem h1, List.filter_append]
        simp [hc]
      simp -implicitDefEqProofs [h1, hrow, w1, hc]
      exact ⟨n - 1, by omega, i + 1, by omega, by rw [hst], by omega⟩
    case pos =>
      have hst : (startTo m k b (i + 1)).length = (startTo m k b i).length + 1 := by
        unfold startTo
        rw [List.take_succ_eq_append_getElem h1, List.filter_append]
        simp [hc]
      simp -implicitDefEqProofs [h1, hrow, w1, hc, w2]
      exact ⟨n - 1, by omega, i + 1, by omega, by omega, by omega⟩
  case neg =>
    have hil : i = m.trees.length := by omega
    subst hil
    rw [hend] at *
    have t1 : ¬ ((lq.length : Int) < 1) := by omega
    simp -implicitDefEqProofs [h1, hW2, hL1, n1, t1, i1, z1]
    refine run_while (c := c22_41) (fun n s => ∃ (i : Nat) (g : Nat → Nat), i + n = lq.length ∧ 1 ≤ i ∧ s = ⟨[(3, .int .i64 mo), (9, .ptr 9 (g 9) 0), (10, .ptr 10 (g 10) 0), (11, .int .i64 k), (12, .int .i64 (startG m k b).length), (15, .lst lq.length (encL lq)), (16, .int .i64 i)],
      [(9, ⟨Row.enc m, false, 0⟩), (10, ⟨Row.enc b, false, 0⟩)], g⟩) (lq.length - 1) ⟨1, g, by omega, by omega, by simp⟩ ?_
    rintro n s ⟨i, g, hi, hi1, rfl⟩
    by_cases h2 : i < lq.length
    case pos =>
      obtain ⟨j, rfl⟩ : ∃ j, i = j + 1 := ⟨i - 1, by omega⟩
      have w1 : IntKind.i64.wrap (((j + 1 : Nat) : Int) + 1) = ((j + 1 : Nat) : Int) + 1 := wrap64 (by omega) (by omega)
      have w2 : IntKind.i64.wrap (((j + 1 : Nat) : Int) - 1) = (j : Int) := by rw [wrap64 (by omega) (by omega)]; omega
      have q1 := z3 j h2
      have q2 := z5 lq[j] (List.getElem_mem (by omega))
      have q3 := z5 lq[j + 1] (List.getElem_mem (by omega))
      have r1 := rd_ints lq j (by omega)
      have r2 := rd_ints lq (j + 1) h2
      have w3 : IntKind.i64.wrap (2 * lq[j + 1]) = 2 * lq[j + 1] := wrap64 (by omega) (by omega)
      have t2 : ¬ (lq[j] ≤ lq[j + 1]) := by omega
      have t3 : ¬ (2 * lq[j + 1] < lq[j]) := by omega
      have t4 : (j : Int) < lq.length := by omega
      have t5 : j < lq.length := by omega
      have t6 : ((j + 1 : Nat) : Int) < lq.length := by omega
      have t7 : (j : Int) + 1 < lq.length := by omega
      have w1' : IntKind.i64.wrap ((j : Int) + 1 + 1) = (j : Int) + 1 + 1 := wrap64 (by omega) (by omega)
      have w2' : IntKind.i64.wrap ((j : Int) + 1 - 1) = (j : Int) := by rw [wrap64 (by omega) (by omega)]; omega
      have t8 : ((j : Int) + 1).toNat = j + 1 := by omega
      have t9 : (0 : Int) ≤ (j : Int) + 1 := by omega
      have wj : IntKind.i64.wrap (j : Int) = j := wrap64 (by omega) (by omega)
      simp -implicitDefEqProofs [h2, n1, w1, w2, w1', w2', r1, r2, w3, t2, t3, t4, t5, t6, t7, t8, t9, wj]
      exact ⟨n - 1, by omega, j + 2, by omega, by omega, by omega⟩
    case neg =>
      have hil : i = lq.length := by omega
      subst hil
      have u1 : IntKind.i64.wrap ((lq.length : Int) - 1) = (lq.length : Int) - 1 := wrap64 (by omega) (by omega)
      have u2 : IntKind.i64.wrap ((la.length : Int) - 1) = (la.length : Int) - 1 := wrap64 (by omega) (by omega)
      have u3 : ((lq.length : Int) - 1).toNat = lq.length - 1 := by omega
      have u4 : ((la.length : Int) - 1).toNat = la.length - 1 := by omega
      have u5 : (0 : Int) ≤ (lq.length : Int) - 1 := by omega
      have u6 : (0 : Int) ≤ (la.length : Int) - 1 := by omega
      have u7 : (lq.length : Int) - 1 < lq.length := by omega
      have u8 : (la.length : Int) - 1 < la.length := by omega
      have u9 : (0 : Int) < (la.length : Int) := by omega
      have v1 : (1 : Int) ≤ lq.length := by omega
      have v2 : (1 : Int) ≤ la.length := by omega
      simp -implicitDefEqProofs [n1, n2, hW2, hR1, hR0, hS, hL2, hL3, i2, i3, u1, u2, u3, u4, u5, u6, u7, u8, u9, v1, v2, z1, y1, encL_nil]
def law_sp : List AV → Option AV := sp4 fun (_ : Forest) (_ : List Int) (_ _ : Int) => some true
theorem law_holds : Contract Try.prog 22 law_sp :=
  contract_of_runs mixed (tbl_cons c_Model (tbl_cons c_Region (tbl_cons c_Within (tbl_cons c_levels (tbl_cons c_lrange (tbl_cons c_bSum (tbl_cons c_closed20 tbl_nil))))))) Try.func22 m22 (sp4_runs runs_law)
theorem law_says (f : Forest) (l : List Int) (x y : Int) : law_sp [Arg.enc f, Arg.enc l, Arg.enc x, Arg.enc y] = some (.bool true) := by
  simp only [law_sp, sp4, Arg.dec_enc, Option.bind_some]
  rfl
end Go.Co
