/- The law BoundTells: what its text computes. -/
import Derived.Test.YtbjnmbbhlaghaaaCoU
import Derived.Test.YtbjnmbbhlaghaaaCoI
import Derived.Test.YtbjnmbbhlaghaaaCoSh
namespace Go.Co
open Go.Am Go.Proofs
set_option linter.unusedSimpArgs false
set_option linter.unusedVariables false

/- copse/copselaw14.BoundTells -/
def c4_0 : ACode := .ops [⟨some 5, .box (.t 0) 4, none, []⟩,
  ⟨some 7, .box (.t 2) 10, none, []⟩,
  ⟨some 10, .mv (.c (.bool false)), none, []⟩] [1, 3, 4, 5, 7]
theorem r4_0 {C : Cs} {k : List Fr} {s : St} {Q : Post} : run C c4_0 k s Q = run C (.ops [⟨some 5, .box (.t 0) 4, none, []⟩,
  ⟨some 7, .box (.t 2) 10, none, []⟩,
  ⟨some 10, .mv (.c (.bool false)), none, []⟩] [1, 3, 4, 5, 7]) k s Q := rfl
def c4_1 : ACode := .ops [⟨some 26, .load 4 true (.t 5), none, [5]⟩,
  ⟨some 27, .call 45 [.t 26], none, []⟩,
  ⟨some 11, .alloc [.int .i64 0, .int .i64 0, .int .i64 0, .int .i64 0, .int .i64 0, .nils], none, []⟩,
  ⟨none, .store (.t 11) 6 (.t 27), none, [11]⟩] [1, 3, 4, 7, 11]
theorem r4_1 {C : Cs} {k : List Fr} {s : St} {Q : Post} : run C c4_1 k s Q = run C (.ops [⟨some 26, .load 4 true (.t 5), none, [5]⟩,
  ⟨some 27, .call 45 [.t 26], none, []⟩,
  ⟨some 11, .alloc [.int .i64 0, .int .i64 0, .int .i64 0, .int .i64 0, .int .i64 0, .nils], none, []⟩,
  ⟨none, .store (.t 11) 6 (.t 27), none, [11]⟩] [1, 3, 4, 7, 11]) k s Q := rfl
def c4_2 : ACode := .ops [⟨some 28, .mv (.t 4), none, []⟩] [1, 3, 7, 11, 28]
theorem r4_2 {C : Cs} {k : List Fr} {s : St} {Q : Post} : run C c4_2 k s Q = run C (.ops [⟨some 28, .mv (.t 4), none, []⟩] [1, 3, 7, 11, 28]) k s Q := rfl
def c4_3 : ACode := .ops [⟨some 29, .load 6 true (.t 11), none, [11]⟩,
  ⟨some 30, .mv (.t 3), none, []⟩,
  ⟨some 31, .call 46 [.t 29, .t 30], none, []⟩,
  ⟨none, .store (.t 7) 10 (.t 31), none, [7]⟩] [1, 7, 11]
theorem r4_3 {C : Cs} {k : List Fr} {s : St} {Q : Post} : run C c4_3 k s Q = run C (.ops [⟨some 29, .load 6 true (.t 11), none, [11]⟩,
  ⟨some 30, .mv (.t 3), none, []⟩,
  ⟨some 31, .call 46 [.t 29, .t 30], none, []⟩,
  ⟨none, .store (.t 7) 10 (.t 31), none, [7]⟩] [1, 7, 11]) k s Q := rfl
def c4_4 : ACode := .cond (.t 28) c4_3 .skip
theorem r4_4 {C : Cs} {k : List Fr} {s : St} {Q : Post} : run C c4_4 k s Q = run C (.cond (.t 28) c4_3 .skip) k s Q := rfl
def c4_5 : ACode := .seq c4_2 c4_4
theorem r4_5 {C : Cs} {k : List Fr} {s : St} {Q : Post} : run C c4_5 k s Q = run C (.seq c4_2 c4_4) k s Q := rfl
def c4_6 : ACode := .ops [⟨some 33, .load 6 true (.t 11), none, [11]⟩,
  ⟨some 34, .mv (.t 1), none, []⟩,
  ⟨some 35, .load 10 true (.t 7), none, [7]⟩,
  ⟨some 36, .call 44 [.t 33, .t 34, .t 35], none, []⟩,
  ⟨some 32, .mv (.t 36), none, []⟩,
  ⟨some 37, .ext (.t 32) 0, none, []⟩,
  ⟨some 38, .ext (.t 32) 1, none, []⟩,
  ⟨some 39, .ext (.t 32) 2, none, []⟩,
  ⟨some 12, .mv (.t 37), none, []⟩,
  ⟨some 13, .mv (.t 38), none, []⟩,
  ⟨some 14, .mv (.t 39), none, []⟩] [1, 7, 11, 12, 13, 14]
theorem r4_6 {C : Cs} {k : List Fr} {s : St} {Q : Post} : run C c4_6 k s Q = run C (.ops [⟨some 33, .load 6 true (.t 11), none, [11]⟩,
  ⟨some 34, .mv (.t 1), none, []⟩,
  ⟨some 35, .load 10 true (.t 7), none, [7]⟩,
  ⟨some 36, .call 44 [.t 33, .t 34, .t 35], none, []⟩,
  ⟨some 32, .mv (.t 36), none, []⟩,
  ⟨some 37, .ext (.t 32) 0, none, []⟩,
  ⟨some 38, .ext (.t 32) 1, none, []⟩,
  ⟨some 39, .ext (.t 32) 2, none, []⟩,
  ⟨some 12, .mv (.t 37), none, []⟩,
  ⟨some 13, .mv (.t 38), none, []⟩,
  ⟨some 14, .mv (.t 39), none, []⟩] [1, 7, 11, 12, 13, 14]) k s Q := rfl
def c4_7 : ACode := .ops [⟨some 41, .load 6 true (.t 11), none, [11]⟩,
  ⟨some 42, .mv (.t 1), none, []⟩,
  ⟨some 43, .load 10 true (.t 7), none, [7]⟩,
  ⟨some 44, .call 47 [.t 41, .t 42, .t 43], none, []⟩,
  ⟨some 40, .mv (.t 44), none, []⟩,
  ⟨some 45, .ext (.t 40) 0, none, []⟩,
  ⟨some 46, .ext (.t 40) 1, none, []⟩,
  ⟨some 47, .ext (.t 40) 2, none, []⟩,
  ⟨some 15, .mv (.t 45), none, []⟩,
  ⟨some 16, .mv (.t 46), none, []⟩,
  ⟨some 17, .mv (.t 47), none, []⟩] [7, 11, 12, 13, 14, 15, 16, 17]
theorem r4_7 {C : Cs} {k : List Fr} {s : St} {Q : Post} : run C c4_7 k s Q = run C (.ops [⟨some 41, .load 6 true (.t 11), none, [11]⟩,
  ⟨some 42, .mv (.t 1), none, []⟩,
  ⟨some 43, .load 10 true (.t 7), none, [7]⟩,
  ⟨some 44, .call 47 [.t 41, .t 42, .t 43], none, []⟩,
  ⟨some 40, .mv (.t 44), none, []⟩,
  ⟨some 45, .ext (.t 40) 0, none, []⟩,
  ⟨some 46, .ext (.t 40) 1, none, []⟩,
  ⟨some 47, .ext (.t 40) 2, none, []⟩,
  ⟨some 15, .mv (.t 45), none, []⟩,
  ⟨some 16, .mv (.t 46), none, []⟩,
  ⟨some 17, .mv (.t 47), none, []⟩] [7, 11, 12, 13, 14, 15, 16, 17]) k s Q := rfl
def c4_8 : ACode := .ops [⟨some 48, .mv (.t 12), none, []⟩,
  ⟨some 49, .mv (.t 15), none, []⟩,
  ⟨some 50, .bin .neq (.t 48) (.t 49), none, []⟩,
  ⟨some 51, .mv (.t 50), none, []⟩,
  ⟨some 52, .mv (.t 13), some (51, false), []⟩,
  ⟨some 53, .mv (.t 16), some (51, false), []⟩,
  ⟨some 54, .bin .neq (.t 52) (.t 53), some (51, false), []⟩,
  ⟨some 55, .pick (.t 51) (.c (.bool true)) (.t 54), none, []⟩,
  ⟨some 56, .mv (.t 55), none, []⟩,
  ⟨some 57, .mv (.t 14), some (56, false), []⟩,
  ⟨some 58, .mv (.t 17), some (56, false), []⟩,
  ⟨some 59, .eqb true (.t 57) (.t 58), some (56, false), []⟩,
  ⟨some 60, .pick (.t 56) (.c (.bool true)) (.t 59), none, []⟩] [7, 11, 60]
theorem r4_8 {C : Cs} {k : List Fr} {s : St} {Q : Post} : run C c4_8 k s Q = run C (.ops [⟨some 48, .mv (.t 12), none, []⟩,
  ⟨some 49, .mv (.t 15), none, []⟩,
  ⟨some 50, .bin .neq (.t 48) (.t 49), none, []⟩,
  ⟨some 51, .mv (.t 50), none, []⟩,
  ⟨some 52, .mv (.t 13), some (51, false), []⟩,
  ⟨some 53, .mv (.t 16), some (51, false), []⟩,
  ⟨some 54, .bin .neq (.t 52) (.t 53), some (51, false), []⟩,
  ⟨some 55, .pick (.t 51) (.c (.bool true)) (.t 54), none, []⟩,
  ⟨some 56, .mv (.t 55), none, []⟩,
  ⟨some 57, .mv (.t 14), some (56, false), []⟩,
  ⟨some 58, .mv (.t 17), some (56, false), []⟩,
  ⟨some 59, .eqb true (.t 57) (.t 58), some (56, false), []⟩,
  ⟨some 60, .pick (.t 56) (.c (.bool true)) (.t 59), none, []⟩] [7, 11, 60]) k s Q := rfl
def c4_9 : ACode := .ops [⟨some 10, .mv (.c (.bool false)), none, []⟩] [10]
theorem r4_9 {C : Cs} {k : List Fr} {s : St} {Q : Post} : run C c4_9 k s Q = run C (.ops [⟨some 10, .mv (.c (.bool false)), none, []⟩] [10]) k s Q := rfl
def c4_10 : ACode := .seq c4_9 .ret
theorem r4_10 {C : Cs} {k : List Fr} {s : St} {Q : Post} : run C c4_10 k s Q = run C (.seq c4_9 .ret) k s Q := rfl
def c4_11 : ACode := .cond (.t 60) c4_10 .skip
theorem r4_11 {C : Cs} {k : List Fr} {s : St} {Q : Post} : run C c4_11 k s Q = run C (.cond (.t 60) c4_10 .skip) k s Q := rfl
def c4_12 : ACode := .seq c4_8 c4_11
theorem r4_12 {C : Cs} {k : List Fr} {s : St} {Q : Post} : run C c4_12 k s Q = run C (.seq c4_8 c4_11) k s Q := rfl
def c4_13 : ACode := .ops [⟨some 61, .fad (.t 11) 5, none, [11]⟩,
  ⟨some 62, .load 1 false (.t 61), none, [11]⟩,
  ⟨some 63, .len (.t 62), none, []⟩,
  ⟨some 64, .mv (.c (.int .i64 0)), none, []⟩] [7, 62, 63, 64]
theorem r4_13 {C : Cs} {k : List Fr} {s : St} {Q : Post} : run C c4_13 k s Q = run C (.ops [⟨some 61, .fad (.t 11) 5, none, [11]⟩,
  ⟨some 62, .load 1 false (.t 61), none, [11]⟩,
  ⟨some 63, .len (.t 62), none, []⟩,
  ⟨some 64, .mv (.c (.int .i64 0)), none, []⟩] [7, 62, 63, 64]) k s Q := rfl
def c4_14 : ACode := .ops [⟨some 65, .bin .lss (.t 64) (.t 63), none, []⟩] [7, 62, 63, 64, 65]
theorem r4_14 {C : Cs} {k : List Fr} {s : St} {Q : Post} : run C c4_14 k s Q = run C (.ops [⟨some 65, .bin .lss (.t 64) (.t 63), none, []⟩] [7, 62, 63, 64, 65]) k s Q := rfl
def c4_15 : ACode := .cond (.t 65) .skip (.exit 0)
theorem r4_15 {C : Cs} {k : List Fr} {s : St} {Q : Post} : run C c4_15 k s Q = run C (.cond (.t 65) .skip (.exit 0)) k s Q := rfl
def c4_16 : ACode := .ops [⟨some 66, .ias (.t 62) (.t 64) 2, none, []⟩,
  ⟨some 67, .load 2 true (.t 66), none, []⟩,
  ⟨some 19, .alloc [.int .i64 0, .nils], none, []⟩,
  ⟨none, .store (.t 19) 2 (.t 67), none, [19]⟩] [7, 19, 62, 63, 64]
theorem r4_16 {C : Cs} {k : List Fr} {s : St} {Q : Post} : run C c4_16 k s Q = run C (.ops [⟨some 66, .ias (.t 62) (.t 64) 2, none, []⟩,
  ⟨some 67, .load 2 true (.t 66), none, []⟩,
  ⟨some 19, .alloc [.int .i64 0, .nils], none, []⟩,
  ⟨none, .store (.t 19) 2 (.t 67), none, [19]⟩] [7, 19, 62, 63, 64]) k s Q := rfl
def c4_17 : ACode := .ops [⟨some 69, .fad (.t 19) 1, none, [19]⟩,
  ⟨some 70, .load 1 false (.t 69), none, [19]⟩,
  ⟨some 71, .load 10 true (.t 7), none, [7]⟩,
  ⟨some 72, .call 48 [.t 70, .t 71], none, []⟩,
  ⟨some 68, .mv (.t 72), none, []⟩,
  ⟨some 73, .ext (.t 68) 0, none, []⟩,
  ⟨some 74, .ext (.t 68) 1, none, []⟩,
  ⟨some 75, .ext (.t 68) 2, none, []⟩,
  ⟨some 20, .mv (.t 73), none, []⟩,
  ⟨some 21, .mv (.t 74), none, []⟩,
  ⟨some 22, .mv (.t 75), none, []⟩] [7, 19, 20, 21, 22, 62, 63, 64]
theorem r4_17 {C : Cs} {k : List Fr} {s : St} {Q : Post} : run C c4_17 k s Q = run C (.ops [⟨some 69, .fad (.t 19) 1, none, [19]⟩,
  ⟨some 70, .load 1 false (.t 69), none, [19]⟩,
  ⟨some 71, .load 10 true (.t 7), none, [7]⟩,
  ⟨some 72, .call 48 [.t 70, .t 71], none, []⟩,
  ⟨some 68, .mv (.t 72), none, []⟩,
  ⟨some 73, .ext (.t 68) 0, none, []⟩,
  ⟨some 74, .ext (.t 68) 1, none, []⟩,
  ⟨some 75, .ext (.t 68) 2, none, []⟩,
  ⟨some 20, .mv (.t 73), none, []⟩,
  ⟨some 21, .mv (.t 74), none, []⟩,
  ⟨some 22, .mv (.t 75), none, []⟩] [7, 19, 20, 21, 22, 62, 63, 64]) k s Q := rfl
def c4_18 : ACode := .ops [⟨some 76, .load 10 true (.t 7), none, [7]⟩,
  ⟨some 77, .call 49 [.t 76], none, []⟩] [7, 19, 20, 21, 22, 62, 63, 64, 77]
theorem r4_18 {C : Cs} {k : List Fr} {s : St} {Q : Post} : run C c4_18 k s Q = run C (.ops [⟨some 76, .load 10 true (.t 7), none, [7]⟩,
  ⟨some 77, .call 49 [.t 76], none, []⟩] [7, 19, 20, 21, 22, 62, 63, 64, 77]) k s Q := rfl
def c4_19 : ACode := .ops [⟨some 78, .mv (.t 20), none, []⟩,
  ⟨some 79, .bin .neq (.t 78) (.c (.int .i64 0)), none, []⟩,
  ⟨some 80, .mv (.t 79), none, []⟩,
  ⟨some 81, .mv (.t 21), some (80, false), []⟩,
  ⟨some 82, .bin .neq (.t 81) (.c (.int .i64 0)), some (80, false), []⟩,
  ⟨some 83, .pick (.t 80) (.c (.bool true)) (.t 82), none, []⟩,
  ⟨some 84, .mv (.t 83), none, []⟩,
  ⟨some 85, .mv (.t 22), some (84, false), []⟩,
  ⟨some 86, .pick (.t 84) (.c (.bool true)) (.t 85), none, []⟩] [7, 62, 63, 64, 86]
theorem r4_19 {C : Cs} {k : List Fr} {s : St} {Q : Post} : run C c4_19 k s Q = run C (.ops [⟨some 78, .mv (.t 20), none, []⟩,
  ⟨some 79, .bin .neq (.t 78) (.c (.int .i64 0)), none, []⟩,
  ⟨some 80, .mv (.t 79), none, []⟩,
  ⟨some 81, .mv (.t 21), some (80, false), []⟩,
  ⟨some 82, .bin .neq (.t 81) (.c (.int .i64 0)), some (80, false), []⟩,
  ⟨some 83, .pick (.t 80) (.c (.bool true)) (.t 82), none, []⟩,
  ⟨some 84, .mv (.t 83), none, []⟩,
  ⟨some 85, .mv (.t 22), some (84, false), []⟩,
  ⟨some 86, .pick (.t 84) (.c (.bool true)) (.t 85), none, []⟩] [7, 62, 63, 64, 86]) k s Q := rfl
def c4_20 : ACode := .ops [⟨some 10, .mv (.c (.bool false)), none, []⟩] [10]
theorem r4_20 {C : Cs} {k : List Fr} {s : St} {Q : Post} : run C c4_20 k s Q = run C (.ops [⟨some 10, .mv (.c (.bool false)), none, []⟩] [10]) k s Q := rfl
def c4_21 : ACode := .seq c4_20 .ret
theorem r4_21 {C : Cs} {k : List Fr} {s : St} {Q : Post} : run C c4_21 k s Q = run C (.seq c4_20 .ret) k s Q := rfl
def c4_22 : ACode := .cond (.t 86) c4_21 .skip
theorem r4_22 {C : Cs} {k : List Fr} {s : St} {Q : Post} : run C c4_22 k s Q = run C (.cond (.t 86) c4_21 .skip) k s Q := rfl
def c4_23 : ACode := .seq c4_19 c4_22
theorem r4_23 {C : Cs} {k : List Fr} {s : St} {Q : Post} : run C c4_23 k s Q = run C (.seq c4_19 c4_22) k s Q := rfl
def c4_24 : ACode := .seq c4_23 (.exit 1)
theorem r4_24 {C : Cs} {k : List Fr} {s : St} {Q : Post} : run C c4_24 k s Q = run C (.seq c4_23 (.exit 1)) k s Q := rfl
def c4_25 : ACode := .cond (.t 77) c4_24 .skip
theorem r4_25 {C : Cs} {k : List Fr} {s : St} {Q : Post} : run C c4_25 k s Q = run C (.cond (.t 77) c4_24 .skip) k s Q := rfl
def c4_26 : ACode := .seq c4_18 c4_25
theorem r4_26 {C : Cs} {k : List Fr} {s : St} {Q : Post} : run C c4_26 k s Q = run C (.seq c4_18 c4_25) k s Q := rfl
def c4_27 : ACode := .ops [⟨some 88, .fad (.t 19) 1, none, [19]⟩,
  ⟨some 89, .load 1 false (.t 88), none, [19]⟩,
  ⟨some 90, .load 10 true (.t 7), none, [7]⟩,
  ⟨some 91, .call 50 [.t 89, .t 90], none, []⟩,
  ⟨some 87, .mv (.t 91), none, []⟩,
  ⟨some 92, .ext (.t 87) 0, none, []⟩,
  ⟨some 93, .ext (.t 87) 1, none, []⟩,
  ⟨some 94, .ext (.t 87) 2, none, []⟩,
  ⟨some 23, .mv (.t 92), none, []⟩,
  ⟨some 24, .mv (.t 93), none, []⟩,
  ⟨some 25, .mv (.t 94), none, []⟩] [7, 20, 21, 22, 23, 24, 25, 62, 63, 64]
theorem r4_27 {C : Cs} {k : List Fr} {s : St} {Q : Post} : run C c4_27 k s Q = run C (.ops [⟨some 88, .fad (.t 19) 1, none, [19]⟩,
  ⟨some 89, .load 1 false (.t 88), none, [19]⟩,
  ⟨some 90, .load 10 true (.t 7), none, [7]⟩,
  ⟨some 91, .call 50 [.t 89, .t 90], none, []⟩,
  ⟨some 87, .mv (.t 91), none, []⟩,
  ⟨some 92, .ext (.t 87) 0, none, []⟩,
  ⟨some 93, .ext (.t 87) 1, none, []⟩,
  ⟨some 94, .ext (.t 87) 2, none, []⟩,
  ⟨some 23, .mv (.t 92), none, []⟩,
  ⟨some 24, .mv (.t 93), none, []⟩,
  ⟨some 25, .mv (.t 94), none, []⟩] [7, 20, 21, 22, 23, 24, 25, 62, 63, 64]) k s Q := rfl
def c4_28 : ACode := .ops [⟨some 95, .mv (.t 20), none, []⟩,
  ⟨some 96, .mv (.t 23), none, []⟩,
  ⟨some 97, .bin .neq (.t 95) (.t 96), none, []⟩,
  ⟨some 98, .mv (.t 97), none, []⟩,
  ⟨some 99, .mv (.t 21), some (98, false), []⟩,
  ⟨some 100, .mv (.t 24), some (98, false), []⟩,
  ⟨some 101, .bin .neq (.t 99) (.t 100), some (98, false), []⟩,
  ⟨some 102, .pick (.t 98) (.c (.bool true)) (.t 101), none, []⟩,
  ⟨some 103, .mv (.t 102), none, []⟩,
  ⟨some 104, .mv (.t 22), some (103, false), []⟩,
  ⟨some 105, .mv (.t 25), some (103, false), []⟩,
  ⟨some 106, .eqb true (.t 104) (.t 105), some (103, false), []⟩,
  ⟨some 107, .pick (.t 103) (.c (.bool true)) (.t 106), none, []⟩] [7, 62, 63, 64, 107]
theorem r4_28 {C : Cs} {k : List Fr} {s : St} {Q : Post} : run C c4_28 k s Q = run C (.ops [⟨some 95, .mv (.t 20), none, []⟩,
  ⟨some 96, .mv (.t 23), none, []⟩,
  ⟨some 97, .bin .neq (.t 95) (.t 96), none, []⟩,
  ⟨some 98, .mv (.t 97), none, []⟩,
  ⟨some 99, .mv (.t 21), some (98, false), []⟩,
  ⟨some 100, .mv (.t 24), some (98, false), []⟩,
  ⟨some 101, .bin .neq (.t 99) (.t 100), some (98, false), []⟩,
  ⟨some 102, .pick (.t 98) (.c (.bool true)) (.t 101), none, []⟩,
  ⟨some 103, .mv (.t 102), none, []⟩,
  ⟨some 104, .mv (.t 22), some (103, false), []⟩,
  ⟨some 105, .mv (.t 25), some (103, false), []⟩,
  ⟨some 106, .eqb true (.t 104) (.t 105), some (103, false), []⟩,
  ⟨some 107, .pick (.t 103) (.c (.bool true)) (.t 106), none, []⟩] [7, 62, 63, 64, 107]) k s Q := rfl
def c4_29 : ACode := .ops [⟨some 10, .mv (.c (.bool false)), none, []⟩] [10]
theorem r4_29 {C : Cs} {k : List Fr} {s : St} {Q : Post} : run C c4_29 k s Q = run C (.ops [⟨some 10, .mv (.c (.bool false)), none, []⟩] [10]) k s Q := rfl
def c4_30 : ACode := .seq c4_29 .ret
theorem r4_30 {C : Cs} {k : List Fr} {s : St} {Q : Post} : run C c4_30 k s Q = run C (.seq c4_29 .ret) k s Q := rfl
def c4_31 : ACode := .cond (.t 107) c4_30 .skip
theorem r4_31 {C : Cs} {k : List Fr} {s : St} {Q : Post} : run C c4_31 k s Q = run C (.cond (.t 107) c4_30 .skip) k s Q := rfl
def c4_32 : ACode := .seq c4_28 c4_31
theorem r4_32 {C : Cs} {k : List Fr} {s : St} {Q : Post} : run C c4_32 k s Q = run C (.seq c4_28 c4_31) k s Q := rfl
def c4_33 : ACode := .seq c4_27 c4_32
theorem r4_33 {C : Cs} {k : List Fr} {s : St} {Q : Post} : run C c4_33 k s Q = run C (.seq c4_27 c4_32) k s Q := rfl
def c4_34 : ACode := .seq c4_26 c4_33
theorem r4_34 {C : Cs} {k : List Fr} {s : St} {Q : Post} : run C c4_34 k s Q = run C (.seq c4_26 c4_33) k s Q := rfl
def c4_35 : ACode := .seq c4_17 c4_34
theorem r4_35 {C : Cs} {k : List Fr} {s : St} {Q : Post} : run C c4_35 k s Q = run C (.seq c4_17 c4_34) k s Q := rfl
def c4_36 : ACode := .seq c4_16 c4_35
theorem r4_36 {C : Cs} {k : List Fr} {s : St} {Q : Post} : run C c4_36 k s Q = run C (.seq c4_16 c4_35) k s Q := rfl
def c4_37 : ACode := .block 1 c4_36
theorem r4_37 {C : Cs} {k : List Fr} {s : St} {Q : Post} : run C c4_37 k s Q = run C (.block 1 c4_36) k s Q := rfl
def c4_38 : ACode := .ops [⟨some 108, .bin .add (.t 64) (.c (.int .i64 1)), none, []⟩,
  ⟨some 64, .mv (.t 108), none, []⟩] [7, 62, 63, 64]
theorem r4_38 {C : Cs} {k : List Fr} {s : St} {Q : Post} : run C c4_38 k s Q = run C (.ops [⟨some 108, .bin .add (.t 64) (.c (.int .i64 1)), none, []⟩,
  ⟨some 64, .mv (.t 108), none, []⟩] [7, 62, 63, 64]) k s Q := rfl
def c4_39 : ACode := .seq c4_37 c4_38
theorem r4_39 {C : Cs} {k : List Fr} {s : St} {Q : Post} : run C c4_39 k s Q = run C (.seq c4_37 c4_38) k s Q := rfl
def c4_40 : ACode := .seq c4_15 c4_39
theorem r4_40 {C : Cs} {k : List Fr} {s : St} {Q : Post} : run C c4_40 k s Q = run C (.seq c4_15 c4_39) k s Q := rfl
def c4_41 : ACode := .seq c4_14 c4_40
theorem r4_41 {C : Cs} {k : List Fr} {s : St} {Q : Post} : run C c4_41 k s Q = run C (.seq c4_14 c4_40) k s Q := rfl
def c4_42 : ACode := .keep [7, 62, 63, 64] [7] c4_41
theorem r4_42 {C : Cs} {k : List Fr} {s : St} {Q : Post} : run C c4_42 k s Q = run C (.keep [7, 62, 63, 64] [7] c4_41) k s Q := rfl
def c4_43 : ACode := .loop c4_42
theorem r4_43 {C : Cs} {k : List Fr} {s : St} {Q : Post} : run C c4_43 k s Q = run C (.loop c4_42) k s Q := rfl
def c4_44 : ACode := .block 0 c4_43
theorem r4_44 {C : Cs} {k : List Fr} {s : St} {Q : Post} : run C c4_44 k s Q = run C (.block 0 c4_43) k s Q := rfl
def c4_45 : ACode := .seq c4_13 c4_44
theorem r4_45 {C : Cs} {k : List Fr} {s : St} {Q : Post} : run C c4_45 k s Q = run C (.seq c4_13 c4_44) k s Q := rfl
def c4_46 : ACode := .ops [⟨some 109, .call 3 [], none, []⟩,
  ⟨some 10, .mv (.t 109), none, []⟩] [10]
theorem r4_46 {C : Cs} {k : List Fr} {s : St} {Q : Post} : run C c4_46 k s Q = run C (.ops [⟨some 109, .call 3 [], none, []⟩,
  ⟨some 10, .mv (.t 109), none, []⟩] [10]) k s Q := rfl
def c4_47 : ACode := .seq c4_46 .ret
theorem r4_47 {C : Cs} {k : List Fr} {s : St} {Q : Post} : run C c4_47 k s Q = run C (.seq c4_46 .ret) k s Q := rfl
def c4_48 : ACode := .seq c4_45 c4_47
theorem r4_48 {C : Cs} {k : List Fr} {s : St} {Q : Post} : run C c4_48 k s Q = run C (.seq c4_45 c4_47) k s Q := rfl
def c4_49 : ACode := .seq c4_12 c4_48
theorem r4_49 {C : Cs} {k : List Fr} {s : St} {Q : Post} : run C c4_49 k s Q = run C (.seq c4_12 c4_48) k s Q := rfl
def c4_50 : ACode := .seq c4_7 c4_49
theorem r4_50 {C : Cs} {k : List Fr} {s : St} {Q : Post} : run C c4_50 k s Q = run C (.seq c4_7 c4_49) k s Q := rfl
def c4_51 : ACode := .seq c4_6 c4_50
theorem r4_51 {C : Cs} {k : List Fr} {s : St} {Q : Post} : run C c4_51 k s Q = run C (.seq c4_6 c4_50) k s Q := rfl
def c4_52 : ACode := .seq c4_5 c4_51
theorem r4_52 {C : Cs} {k : List Fr} {s : St} {Q : Post} : run C c4_52 k s Q = run C (.seq c4_5 c4_51) k s Q := rfl
def c4_53 : ACode := .seq c4_1 c4_52
theorem r4_53 {C : Cs} {k : List Fr} {s : St} {Q : Post} : run C c4_53 k s Q = run C (.seq c4_1 c4_52) k s Q := rfl
def c4_54 : ACode := .seq c4_0 c4_53
theorem r4_54 {C : Cs} {k : List Fr} {s : St} {Q : Post} : run C c4_54 k s Q = run C (.seq c4_0 c4_53) k s Q := rfl
def a4 : AFun := ⟨5, 110, c4_54, [.t 10]⟩
attribute [simp] r4_0 r4_1 r4_2 r4_3 r4_4 r4_5 r4_6 r4_7 r4_8 r4_9 r4_10 r4_11 r4_12 r4_13 r4_14 r4_15 r4_16 r4_17 r4_18 r4_19 r4_20 r4_21 r4_22 r4_23 r4_24 r4_25 r4_26 r4_27 r4_28 r4_29 r4_30 r4_31 r4_32 r4_33 r4_34 r4_35 r4_36 r4_37 r4_38 r4_39 r4_40 r4_41 r4_42 r4_43 r4_44 r4_45 r4_46 r4_47 r4_48 r4_49 r4_50 r4_51 r4_52 r4_53 r4_54
theorem m4 : mFun Try.prog Try.f4 a4 = true := by decide +kernel

/- copse/copselaw14.BoundRuns -/
def c3_0 : ACode := .ops [⟨some 0, .mv (.c (.bool false)), none, []⟩] []
def c3_1 : ACode := .ops [⟨some 8, .call 43 [], none, []⟩,
  ⟨some 1, .alloc [.int .i64 0, .int .i64 0, .int .i64 0, .int .i64 0, .int .i64 0, .nils], none, []⟩,
  ⟨none, .store (.t 1) 6 (.t 8), none, [1]⟩] [1]
def c3_2 : ACode := .ops [⟨some 10, .load 6 true (.t 1), none, [1]⟩,
  ⟨some 11, .build [.int .i64 0, .int .i64 0] [(0, 1, .c (.int .i64 0)), (1, 1, .c (.int .i64 9))], none, []⟩,
  ⟨some 12, .build [.int .i64 0, .int .i64 0, .int .i64 0, .int .i64 0, .int .i64 0, .int .i64 0, .int .i64 0, .int .i64 0, .int .i64 0, .int .i64 0] [(0, 2, .t 11)], none, []⟩,
  ⟨some 13, .call 44 [.t 10, .c (.int .i64 0), .t 12], none, []⟩,
  ⟨some 9, .mv (.t 13), none, []⟩,
  ⟨some 14, .ext (.t 9) 0, none, []⟩,
  ⟨some 15, .ext (.t 9) 1, none, []⟩,
  ⟨some 16, .ext (.t 9) 2, none, []⟩,
  ⟨some 2, .mv (.t 14), none, []⟩,
  ⟨some 3, .mv (.t 15), none, []⟩,
  ⟨some 4, .mv (.t 16), none, []⟩] [1, 2, 3, 4]
def c3_3 : ACode := .ops [⟨some 18, .load 6 true (.t 1), none, [1]⟩,
  ⟨some 19, .build [.int .i64 0, .int .i64 0] [(0, 1, .c (.int .i64 6)), (1, 1, .c (.int .i64 9))], none, []⟩,
  ⟨some 20, .build [.int .i64 0, .int .i64 0, .int .i64 0, .int .i64 0, .int .i64 0, .int .i64 0, .int .i64 0, .int .i64 0, .int .i64 0, .int .i64 0] [(0, 2, .t 19)], none, []⟩,
  ⟨some 21, .call 44 [.t 18, .c (.int .i64 0), .t 20], none, []⟩,
  ⟨some 17, .mv (.t 21), none, []⟩,
  ⟨some 22, .ext (.t 17) 0, none, []⟩,
  ⟨some 23, .ext (.t 17) 1, none, []⟩,
  ⟨some 24, .ext (.t 17) 2, none, []⟩,
  ⟨some 5, .mv (.t 22), none, []⟩,
  ⟨some 6, .mv (.t 23), none, []⟩,
  ⟨some 7, .mv (.t 24), none, []⟩] [2, 3, 4, 5, 6, 7]
def c3_4 : ACode := .ops [⟨some 25, .mv (.t 2), none, []⟩,
  ⟨some 26, .bin .eql (.t 25) (.c (.int .i64 13)), none, []⟩,
  ⟨some 27, .mv (.t 26), none, []⟩,
  ⟨some 28, .mv (.t 3), some (27, true), []⟩,
  ⟨some 29, .bin .eql (.t 28) (.c (.int .i64 23)), some (27, true), []⟩,
  ⟨some 30, .pick (.t 27) (.t 29) (.c (.bool false)), none, []⟩,
  ⟨some 31, .mv (.t 30), none, []⟩,
  ⟨some 32, .mv (.t 4), some (31, true), []⟩,
  ⟨some 33, .pick (.t 31) (.t 32) (.c (.bool false)), none, []⟩,
  ⟨some 34, .mv (.t 33), none, []⟩,
  ⟨some 35, .mv (.t 5), some (34, true), []⟩,
  ⟨some 36, .bin .eql (.t 35) (.c (.int .i64 23)), some (34, true), []⟩,
  ⟨some 37, .pick (.t 34) (.t 36) (.c (.bool false)), none, []⟩,
  ⟨some 38, .mv (.t 37), none, []⟩,
  ⟨some 39, .mv (.t 6), some (38, true), []⟩,
  ⟨some 40, .bin .eql (.t 39) (.c (.int .i64 23)), some (38, true), []⟩,
  ⟨some 41, .pick (.t 38) (.t 40) (.c (.bool false)), none, []⟩,
  ⟨some 42, .mv (.t 41), none, []⟩,
  ⟨some 43, .mv (.t 7), some (42, true), []⟩,
  ⟨some 44, .pick (.t 42) (.t 43) (.c (.bool false)), none, []⟩,
  ⟨some 0, .mv (.t 44), none, []⟩] [0]
def c3_5 : ACode := .seq c3_4 .ret
def c3_6 : ACode := .seq c3_3 c3_5
def c3_7 : ACode := .seq c3_2 c3_6
def c3_8 : ACode := .seq c3_1 c3_7
def c3_9 : ACode := .seq c3_0 c3_8
def a3 : AFun := ⟨0, 45, c3_9, [.t 0]⟩
theorem m3 : mFun Try.prog Try.f3 a3 = true := by decide +kernel
/- copse/copsekeep.Three -/
def c43_0 : ACode := .ops [⟨some 0, .alloc [.int .i64 0, .int .i64 0, .int .i64 0, .int .i64 0, .int .i64 0, .nils], none, []⟩] [0]
def c43_1 : ACode := .ops [⟨some 2, .build [.bool false, .int .i64 0, .int .i64 0, .int .i64 0, .int .i64 0, .int .i64 0] [(3, 1, .c (.int .i64 5)), (4, 1, .c (.int .i64 1)), (5, 1, .c (.int .i64 2))], none, []⟩,
  ⟨some 3, .call 111 [.t 2], none, []⟩,
  ⟨some 4, .build [.bool false, .int .i64 0, .int .i64 0, .int .i64 0, .int .i64 0, .int .i64 0] [(0, 1, .c (.bool true)), (1, 1, .c (.int .i64 10))], none, []⟩,
  ⟨some 5, .call 111 [.t 4], none, []⟩,
  ⟨some 6, .build [.bool false, .int .i64 0, .int .i64 0, .int .i64 0, .int .i64 0, .int .i64 0] [(0, 1, .c (.bool true)), (1, 1, .c (.int .i64 20))], none, []⟩,
  ⟨some 7, .call 111 [.t 6], none, []⟩,
  ⟨some 8, .mkrow 1 3 1 [.int .u64 0] [(0, 1, .t 3), (1, 1, .t 5), (2, 1, .t 7)], none, []⟩,
  ⟨some 1, .mv (.t 8), none, []⟩] [0, 1]
def c43_2 : ACode := .ops [⟨some 9, .build [.int .i64 0, .int .i64 0, .int .i64 0] [(0, 1, .c (.int .i64 3))], none, []⟩,
  ⟨some 10, .mv (.t 1), none, []⟩,
  ⟨some 11, .build [.int .i64 0, .nils] [(1, 1, .t 10)], none, []⟩,
  ⟨some 12, .mkrow 12 1 2 [.int .i64 0, .nils] [(0, 2, .t 11)], none, []⟩,
  ⟨some 13, .build [.int .i64 0, .int .i64 0, .int .i64 0, .int .i64 0, .int .i64 0, .nils] [(0, 1, .c (.int .i64 1)), (1, 1, .c (.int .i64 1)), (2, 3, .t 9), (5, 1, .t 12)], none, []⟩,
  ⟨none, .store (.t 0) 6 (.t 13), none, [0]⟩] [0]
def c43_3 : ACode := .seq c43_2 .ret
def c43_4 : ACode := .seq c43_1 c43_3
def c43_5 : ACode := .seq c43_0 c43_4
def a43 : AFun := ⟨0, 14, c43_5, [.cell 0 6 true]⟩
theorem m43 : mFun Try.prog Try.f43 a43 = true := by decide +kernel
def texts3 : List (Nat × AFun) := [(3, a3), (43, a43), (44, a44), (48, a48), (51, a51), (67, a67), (68, a68), (71, a71), (76, a76), (77, a77), (111, a111), (119, a119), (120, a120), (121, a121), (123, a123), (124, a124), (125, a125), (128, a128), (129, a129), (130, a130), (131, a131), (156, a156), (158, a158), (159, a159), (160, a160), (161, a161), (162, a162), (163, a163), (164, a164), (165, a165), (176, a176)]
theorem texts3_good : Go.Am.Good Try.prog texts3 :=
  good_cons Try.func3 m3 <| good_cons Try.func43 m43 <| good_cons Try.func44 m44 <| good_cons Try.func48 m48 <| good_cons Try.func51 m51 <| good_cons Try.func67 m67 <| good_cons Try.func68 m68 <| good_cons Try.func71 m71 <| good_cons Try.func76 m76 <| good_cons Try.func77 m77 <| good_cons Try.func111 m111 <| good_cons Try.func119 m119 <| good_cons Try.func120 m120 <| good_cons Try.func121 m121 <| good_cons Try.func123 m123 <| good_cons Try.func124 m124 <| good_cons Try.func125 m125 <| good_cons Try.func128 m128 <| good_cons Try.func129 m129 <| good_cons Try.func130 m130 <| good_cons Try.func131 m131 <| good_cons Try.func156 m156 <| good_cons Try.func158 m158 <| good_cons Try.func159 m159 <| good_cons Try.func160 m160 <| good_cons Try.func161 m161 <| good_cons Try.func162 m162 <| good_cons Try.func163 m163 <| good_cons Try.func164 m164 <| good_cons Try.func165 m165 <| good_cons Try.func176 m176 <| good_nil
theorem c_closed3 : Contract Try.prog 3 (sp0 (some true)) := contract_closed mixed texts3_good (m := 1000) (n := 60) (by decide +kernel)


theorem okB_reg (dim : Int) (l : List Int) : okB (regionOf dim l) := by
  have h0 := rSpan_le dim l 0
  have h1 := rSpan_le dim l 1
  have h2 := rSpan_le dim l 2
  have h3 := rSpan_le dim l 3
  unfold okB okS64 ok64 regionOf
  simp only
  omega
set_option maxHeartbeats 4000000 in
set_option maxRecDepth 8000 in
theorem runs_law (f : Forest) (class_ : Int) (b : Box) (l : List Int) (own : Bool) (c : Bool) (h : Part (okB b) true = some c) : Runs (tbl [(45, sp1 ModelC), (46, sp2 RegionC), (44, sp3 BoundS), (47, sp3 BoundS), (48, sp2 BoundT), (49, sp1 fun (b : Box) => some b.empty), (50, sp2 RBound), (3, sp0 (some true))]) a4 [Arg.enc f, Arg.enc class_, Arg.enc b, Arg.enc l, Arg.enc own] (Arg.enc c) := by
  obtain ⟨hb, rfl⟩ := part_some h
  clear h
  refine ⟨rfl, fun g => run_def ?_⟩
  unfold a4
  have hm := rm_modelOf f
  have hM : ModelC f = some (modelOf f) := rfl
  generalize modelOf f = m at *
  have hR : RegionC m l = some (regionOf m.dim l) := part_of hm.dim _
  have hrb := okB_reg m.dim l
  generalize regionOf m.dim l = r at *
  have b3 : m.trees.length ≤ maxN := by have := hm.trees; unfold maxN; omega
  have hS : ∀ z, okB z → BoundS m class_ z = some (boundM m class_ z) := fun z hz => part_of ⟨hm, hz⟩ _
  have hloop : ∀ (z : Box), okB z → ∀ (g : Nat → Nat) (h : Hp), keepH h [7] = [(7, ⟨Row.enc z, false, 0⟩)] →
      run (tbl [(45, sp1 ModelC), (46, sp2 RegionC), (44, sp3 BoundS), (47, sp3 BoundS), (48, sp2 BoundT), (49, sp1 fun (b : Box) => some b.empty), (50, sp2 RBound), (3, sp0 (some true))]) (.loop c4_42) [Fr.blk 0, Fr.c c4_47] ⟨[(7, .ptr 7 (g 7) 0), (62, .lst m.trees.length (encL m.trees)), (63, .int .i64 m.trees.length), (64, .int .i64 0)], h, g⟩ (fin [ARes.t 10] (AV.bool true)) := by
    intro z hz g h hh
    refine run_while (c := c4_41) (fun n s => ∃ (i : Nat) (g : Nat → Nat), i + n = m.trees.length ∧ s = ⟨[(7, .ptr 7 (g 7) 0), (62, .lst m.trees.length (encL m.trees)), (63, .int .i64 m.trees.length), (64, .int .i64 i)], [(7, ⟨Row.enc z, false, 0⟩)], g⟩) m.trees.length ⟨0, g, by omega, by simp only [hh]; rfl⟩ ?_
    rintro n s ⟨i, g, hi, rfl⟩
    by_cases h1 : i < m.trees.length
    case neg =>
      simp -implicitDefEqProofs [h1]
    have hm8 := hm.trees
    have w1 : IntKind.i64.wrap ((i : Int) + 1) = (i : Int) + 1 := wrap64 (by omega) (by omega)
    have hrow := rd_tree m.trees i h1
    have hrt := hm.rt (List.getElem_mem h1)
    have hT : BoundT m.trees[i].nodes z = some (boundT m.trees[i].nodes z) := part_of ⟨⟨_, hrt⟩, hz⟩ _
    have hB : RBound m.trees[i].nodes z = some (boundT m.trees[i].nodes z) := part_of ⟨⟨_, hrt⟩, hz⟩ _
    cases he : z.empty
    case true =>
      have hbt : boundT m.trees[i].nodes z = ⟨0, 0, false⟩ := by unfold boundT; rw [he]; rfl
      rw [hbt] at hT
      simp -implicitDefEqProofs [h1, hrow, hT, he, w1]
      exact ⟨n - 1, by omega, i + 1, by omega, by omega⟩
    case false =>
      simp -implicitDefEqProofs [h1, hrow, hT, hB, he, w1]
      exact ⟨n - 1, by omega, i + 1, by omega, by omega⟩
  cases own
  case false =>
    have s1 := hS b hb
    simp -implicitDefEqProofs [hM, s1, b3, -r4_43]
    exact hloop b hb (bump 11 (bump 7 (bump 5 g))) _ (by simp)
  case true =>
    have s1 := hS r hrb
    simp -implicitDefEqProofs [hM, hR, s1, b3, -r4_43]
    exact hloop r hrb (bump 11 (bump 7 (bump 5 g))) _ (by simp)
open Classical in
noncomputable def law_sp : List AV → Option AV := sp5 fun (_ : Forest) (_ : Int) (b : Box) (_ : List Int) (_ : Bool) => Part (okB b) true
/- GOOD 2 -/
theorem law_holds : Contract Try.prog 4 law_sp :=
  contract_of_runs mixed (tbl_cons c_Model (tbl_cons c_Region (tbl_cons c_bSum (tbl_cons c_rSum (tbl_cons c_bTree (tbl_cons c_rEmpty (tbl_cons c_rBound (tbl_cons c_closed3 tbl_nil)))))))) Try.func4 m4 (sp5_runs runs_law)
theorem law_says (f : Forest) (k : Int) (b : Box) (l : List Int) (own : Bool) (h : Sh.good b) : law_sp [Arg.enc f, Arg.enc k, Arg.enc b, Arg.enc l, Arg.enc own] = some (.bool true) := by
  obtain ⟨h0, h1, h2, h3, h4, h5, h6, h7, h8, h9⟩ := h
  have hb : okB b := ⟨⟨h0, h1⟩, ⟨h2, h3⟩, ⟨h4, h5⟩, ⟨h6, h7⟩, h8, h9⟩
  simp only [law_sp, sp5, Arg.dec_enc, Option.bind_some, part_of hb]
  rfl
end Go.Co
