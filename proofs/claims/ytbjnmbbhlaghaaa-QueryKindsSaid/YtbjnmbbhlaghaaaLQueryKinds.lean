/- The law QueryKinds: what its text computes (written by mkLQK.py). -/
import Derived.Test.YtbjnmbbhlaghaaaCoO
import Derived.Test.YtbjnmbbhlaghaaaCoK
import Derived.Test.YtbjnmbbhlaghaaaCoSh
namespace Go.Co
open Go.Am Go.Proofs
set_option linter.unusedSimpArgs false
set_option linter.unusedVariables false

/- copse/copselaw10.QueryKinds -/
def c17_0 : ACode := .ops [⟨some 5, .box (.t 0) 4, none, []⟩,
  ⟨some 6, .box (.t 1) 8, none, []⟩,
  ⟨some 7, .box (.t 2) 4, none, []⟩,
  ⟨some 10, .mv (.c (.bool false)), none, []⟩] [3, 4, 5, 6, 7]
theorem r17_0 {C : Cs} {k : List Fr} {s : St} {Q : Post} : run C c17_0 k s Q = run C (.ops [⟨some 5, .box (.t 0) 4, none, []⟩,
  ⟨some 6, .box (.t 1) 8, none, []⟩,
  ⟨some 7, .box (.t 2) 4, none, []⟩,
  ⟨some 10, .mv (.c (.bool false)), none, []⟩] [3, 4, 5, 6, 7]) k s Q := rfl
def c17_1 : ACode := .ops [⟨some 22, .load 4 true (.t 5), none, [5]⟩,
  ⟨some 23, .call 45 [.t 22], none, []⟩,
  ⟨some 11, .alloc [.int .i64 0, .int .i64 0, .int .i64 0, .int .i64 0, .int .i64 0, .nils], none, []⟩,
  ⟨none, .store (.t 11) 6 (.t 23), none, [11]⟩] [3, 4, 6, 7, 11]
theorem r17_1 {C : Cs} {k : List Fr} {s : St} {Q : Post} : run C c17_1 k s Q = run C (.ops [⟨some 22, .load 4 true (.t 5), none, [5]⟩,
  ⟨some 23, .call 45 [.t 22], none, []⟩,
  ⟨some 11, .alloc [.int .i64 0, .int .i64 0, .int .i64 0, .int .i64 0, .int .i64 0, .nils], none, []⟩,
  ⟨none, .store (.t 11) 6 (.t 23), none, [11]⟩] [3, 4, 6, 7, 11]) k s Q := rfl
def c17_2 : ACode := .ops [⟨some 24, .load 8 true (.t 6), none, [6]⟩,
  ⟨some 25, .load 6 true (.t 11), none, [11]⟩,
  ⟨some 26, .call 59 [.t 24, .t 25], none, []⟩,
  ⟨some 12, .alloc [.int .i64 0, .int .i64 0, .int .i64 0, .int .i64 0, .int .i64 0, .int .i64 0, .int .i64 0, .int .i64 0, .int .i64 0, .int .i64 0, .int .i64 0, .int .i64 0, .int .i64 0, .int .i64 0, .int .i64 0, .bool false, .int .i64 0], none, []⟩,
  ⟨none, .store (.t 12) 17 (.t 26), none, [12]⟩] [3, 4, 7, 11, 12]
theorem r17_2 {C : Cs} {k : List Fr} {s : St} {Q : Post} : run C c17_2 k s Q = run C (.ops [⟨some 24, .load 8 true (.t 6), none, [6]⟩,
  ⟨some 25, .load 6 true (.t 11), none, [11]⟩,
  ⟨some 26, .call 59 [.t 24, .t 25], none, []⟩,
  ⟨some 12, .alloc [.int .i64 0, .int .i64 0, .int .i64 0, .int .i64 0, .int .i64 0, .int .i64 0, .int .i64 0, .int .i64 0, .int .i64 0, .int .i64 0, .int .i64 0, .int .i64 0, .int .i64 0, .int .i64 0, .int .i64 0, .bool false, .int .i64 0], none, []⟩,
  ⟨none, .store (.t 12) 17 (.t 26), none, [12]⟩] [3, 4, 7, 11, 12]) k s Q := rfl
def c17_3 : ACode := .ops [⟨some 27, .load 6 true (.t 11), none, [11]⟩,
  ⟨some 28, .load 17 true (.t 12), none, [12]⟩,
  ⟨some 29, .call 56 [.t 27, .t 28], none, []⟩,
  ⟨some 30, .un .not (.t 29), none, []⟩] [3, 4, 7, 11, 12, 30]
theorem r17_3 {C : Cs} {k : List Fr} {s : St} {Q : Post} : run C c17_3 k s Q = run C (.ops [⟨some 27, .load 6 true (.t 11), none, [11]⟩,
  ⟨some 28, .load 17 true (.t 12), none, [12]⟩,
  ⟨some 29, .call 56 [.t 27, .t 28], none, []⟩,
  ⟨some 30, .un .not (.t 29), none, []⟩] [3, 4, 7, 11, 12, 30]) k s Q := rfl
def c17_4 : ACode := .ops [⟨some 10, .mv (.c (.bool false)), none, []⟩] [10]
theorem r17_4 {C : Cs} {k : List Fr} {s : St} {Q : Post} : run C c17_4 k s Q = run C (.ops [⟨some 10, .mv (.c (.bool false)), none, []⟩] [10]) k s Q := rfl
def c17_5 : ACode := .seq c17_4 .ret
theorem r17_5 {C : Cs} {k : List Fr} {s : St} {Q : Post} : run C c17_5 k s Q = run C (.seq c17_4 .ret) k s Q := rfl
def c17_6 : ACode := .cond (.t 30) c17_5 .skip
theorem r17_6 {C : Cs} {k : List Fr} {s : St} {Q : Post} : run C c17_6 k s Q = run C (.cond (.t 30) c17_5 .skip) k s Q := rfl
def c17_7 : ACode := .seq c17_3 c17_6
theorem r17_7 {C : Cs} {k : List Fr} {s : St} {Q : Post} : run C c17_7 k s Q = run C (.seq c17_3 c17_6) k s Q := rfl
def c17_8 : ACode := .ops [⟨some 31, .mv (.t 4), none, []⟩,
  ⟨some 32, .fad (.t 11) 1, none, [11]⟩,
  ⟨some 33, .load 1 false (.t 32), none, [11]⟩,
  ⟨some 34, .bin .sub (.t 33) (.c (.int .i64 1)), none, []⟩,
  ⟨some 35, .call 63 [.t 31, .c (.int .i64 0), .t 34], none, []⟩,
  ⟨some 13, .mv (.t 35), none, []⟩] [3, 7, 11, 12, 13]
theorem r17_8 {C : Cs} {k : List Fr} {s : St} {Q : Post} : run C c17_8 k s Q = run C (.ops [⟨some 31, .mv (.t 4), none, []⟩,
  ⟨some 32, .fad (.t 11) 1, none, [11]⟩,
  ⟨some 33, .load 1 false (.t 32), none, [11]⟩,
  ⟨some 34, .bin .sub (.t 33) (.c (.int .i64 1)), none, []⟩,
  ⟨some 35, .call 63 [.t 31, .c (.int .i64 0), .t 34], none, []⟩,
  ⟨some 13, .mv (.t 35), none, []⟩] [3, 7, 11, 12, 13]) k s Q := rfl
def c17_9 : ACode := .ops [⟨some 36, .load 6 true (.t 11), none, [11]⟩,
  ⟨some 37, .mv (.t 13), none, []⟩,
  ⟨some 38, .load 4 true (.t 7), none, [7]⟩,
  ⟨some 39, .call 69 [.t 36, .t 37, .t 38], none, []⟩,
  ⟨some 14, .mv (.t 39), none, []⟩] [3, 7, 11, 12, 13, 14]
theorem r17_9 {C : Cs} {k : List Fr} {s : St} {Q : Post} : run C c17_9 k s Q = run C (.ops [⟨some 36, .load 6 true (.t 11), none, [11]⟩,
  ⟨some 37, .mv (.t 13), none, []⟩,
  ⟨some 38, .load 4 true (.t 7), none, [7]⟩,
  ⟨some 39, .call 69 [.t 36, .t 37, .t 38], none, []⟩,
  ⟨some 14, .mv (.t 39), none, []⟩] [3, 7, 11, 12, 13, 14]) k s Q := rfl
def c17_10 : ACode := .ops [⟨some 40, .mv (.t 13), none, []⟩,
  ⟨some 41, .fad (.t 12) 2, none, [12]⟩,
  ⟨some 42, .load 10 true (.t 41), none, [12]⟩,
  ⟨some 43, .mv (.t 14), none, []⟩,
  ⟨some 44, .mv (.t 14), none, []⟩,
  ⟨some 45, .build [.int .i64 0, .int .i64 0, .int .i64 0, .int .i64 0, .int .i64 0, .int .i64 0, .int .i64 0, .int .i64 0, .int .i64 0, .int .i64 0, .int .i64 0, .int .i64 0, .int .i64 0, .int .i64 0, .int .i64 0, .bool false, .int .i64 0] [(0, 1, .c (.int .i64 1)), (1, 1, .t 40), (2, 10, .t 42), (12, 1, .t 43), (13, 1, .t 44)], none, []⟩,
  ⟨some 15, .alloc [.int .i64 0, .int .i64 0, .int .i64 0, .int .i64 0, .int .i64 0, .int .i64 0, .int .i64 0, .int .i64 0, .int .i64 0, .int .i64 0, .int .i64 0, .int .i64 0, .int .i64 0, .int .i64 0, .int .i64 0, .bool false, .int .i64 0], none, []⟩,
  ⟨none, .store (.t 15) 17 (.t 45), none, [15]⟩] [3, 7, 11, 12, 13, 14, 15]
theorem r17_10 {C : Cs} {k : List Fr} {s : St} {Q : Post} : run C c17_10 k s Q = run C (.ops [⟨some 40, .mv (.t 13), none, []⟩,
  ⟨some 41, .fad (.t 12) 2, none, [12]⟩,
  ⟨some 42, .load 10 true (.t 41), none, [12]⟩,
  ⟨some 43, .mv (.t 14), none, []⟩,
  ⟨some 44, .mv (.t 14), none, []⟩,
  ⟨some 45, .build [.int .i64 0, .int .i64 0, .int .i64 0, .int .i64 0, .int .i64 0, .int .i64 0, .int .i64 0, .int .i64 0, .int .i64 0, .int .i64 0, .int .i64 0, .int .i64 0, .int .i64 0, .int .i64 0, .int .i64 0, .bool false, .int .i64 0] [(0, 1, .c (.int .i64 1)), (1, 1, .t 40), (2, 10, .t 42), (12, 1, .t 43), (13, 1, .t 44)], none, []⟩,
  ⟨some 15, .alloc [.int .i64 0, .int .i64 0, .int .i64 0, .int .i64 0, .int .i64 0, .int .i64 0, .int .i64 0, .int .i64 0, .int .i64 0, .int .i64 0, .int .i64 0, .int .i64 0, .int .i64 0, .int .i64 0, .int .i64 0, .bool false, .int .i64 0], none, []⟩,
  ⟨none, .store (.t 15) 17 (.t 45), none, [15]⟩] [3, 7, 11, 12, 13, 14, 15]) k s Q := rfl
def c17_11 : ACode := .ops [⟨some 46, .load 6 true (.t 11), none, [11]⟩,
  ⟨some 47, .load 17 true (.t 15), none, [15]⟩,
  ⟨some 48, .load 4 true (.t 7), none, [7]⟩,
  ⟨some 49, .mv (.t 3), none, []⟩,
  ⟨some 50, .call 57 [.t 46, .t 47, .t 48, .t 49], none, []⟩] [3, 7, 11, 12, 13, 14, 15, 50]
theorem r17_11 {C : Cs} {k : List Fr} {s : St} {Q : Post} : run C c17_11 k s Q = run C (.ops [⟨some 46, .load 6 true (.t 11), none, [11]⟩,
  ⟨some 47, .load 17 true (.t 15), none, [15]⟩,
  ⟨some 48, .load 4 true (.t 7), none, [7]⟩,
  ⟨some 49, .mv (.t 3), none, []⟩,
  ⟨some 50, .call 57 [.t 46, .t 47, .t 48, .t 49], none, []⟩] [3, 7, 11, 12, 13, 14, 15, 50]) k s Q := rfl
def c17_12 : ACode := .ops [⟨some 10, .mv (.c (.bool false)), none, []⟩] [10]
theorem r17_12 {C : Cs} {k : List Fr} {s : St} {Q : Post} : run C c17_12 k s Q = run C (.ops [⟨some 10, .mv (.c (.bool false)), none, []⟩] [10]) k s Q := rfl
def c17_13 : ACode := .seq c17_12 .ret
theorem r17_13 {C : Cs} {k : List Fr} {s : St} {Q : Post} : run C c17_13 k s Q = run C (.seq c17_12 .ret) k s Q := rfl
def c17_14 : ACode := .cond (.t 50) c17_13 .skip
theorem r17_14 {C : Cs} {k : List Fr} {s : St} {Q : Post} : run C c17_14 k s Q = run C (.cond (.t 50) c17_13 .skip) k s Q := rfl
def c17_15 : ACode := .seq c17_11 c17_14
theorem r17_15 {C : Cs} {k : List Fr} {s : St} {Q : Post} : run C c17_15 k s Q = run C (.seq c17_11 c17_14) k s Q := rfl
def c17_16 : ACode := .ops [⟨some 51, .mv (.t 14), none, []⟩,
  ⟨some 52, .bin .add (.t 51) (.c (.int .i64 1)), none, []⟩,
  ⟨some 53, .mv (.t 14), none, []⟩,
  ⟨some 54, .bin .add (.t 53) (.c (.int .i64 2)), none, []⟩,
  ⟨some 55, .fad (.t 15) 12, none, [15]⟩,
  ⟨none, .store (.t 55) 1 (.t 52), none, [15]⟩,
  ⟨some 56, .fad (.t 15) 13, none, [15]⟩,
  ⟨none, .store (.t 56) 1 (.t 54), none, [15]⟩] [3, 7, 11, 12, 13, 14, 15]
theorem r17_16 {C : Cs} {k : List Fr} {s : St} {Q : Post} : run C c17_16 k s Q = run C (.ops [⟨some 51, .mv (.t 14), none, []⟩,
  ⟨some 52, .bin .add (.t 51) (.c (.int .i64 1)), none, []⟩,
  ⟨some 53, .mv (.t 14), none, []⟩,
  ⟨some 54, .bin .add (.t 53) (.c (.int .i64 2)), none, []⟩,
  ⟨some 55, .fad (.t 15) 12, none, [15]⟩,
  ⟨none, .store (.t 55) 1 (.t 52), none, [15]⟩,
  ⟨some 56, .fad (.t 15) 13, none, [15]⟩,
  ⟨none, .store (.t 56) 1 (.t 54), none, [15]⟩] [3, 7, 11, 12, 13, 14, 15]) k s Q := rfl
def c17_17 : ACode := .ops [⟨some 57, .load 6 true (.t 11), none, [11]⟩,
  ⟨some 58, .load 17 true (.t 15), none, [15]⟩,
  ⟨some 59, .load 4 true (.t 7), none, [7]⟩,
  ⟨some 60, .mv (.t 3), none, []⟩,
  ⟨some 61, .call 57 [.t 57, .t 58, .t 59, .t 60], none, []⟩,
  ⟨some 62, .un .not (.t 61), none, []⟩] [3, 7, 11, 12, 13, 14, 62]
theorem r17_17 {C : Cs} {k : List Fr} {s : St} {Q : Post} : run C c17_17 k s Q = run C (.ops [⟨some 57, .load 6 true (.t 11), none, [11]⟩,
  ⟨some 58, .load 17 true (.t 15), none, [15]⟩,
  ⟨some 59, .load 4 true (.t 7), none, [7]⟩,
  ⟨some 60, .mv (.t 3), none, []⟩,
  ⟨some 61, .call 57 [.t 57, .t 58, .t 59, .t 60], none, []⟩,
  ⟨some 62, .un .not (.t 61), none, []⟩] [3, 7, 11, 12, 13, 14, 62]) k s Q := rfl
def c17_18 : ACode := .ops [⟨some 10, .mv (.c (.bool false)), none, []⟩] [10]
theorem r17_18 {C : Cs} {k : List Fr} {s : St} {Q : Post} : run C c17_18 k s Q = run C (.ops [⟨some 10, .mv (.c (.bool false)), none, []⟩] [10]) k s Q := rfl
def c17_19 : ACode := .seq c17_18 .ret
theorem r17_19 {C : Cs} {k : List Fr} {s : St} {Q : Post} : run C c17_19 k s Q = run C (.seq c17_18 .ret) k s Q := rfl
def c17_20 : ACode := .cond (.t 62) c17_19 .skip
theorem r17_20 {C : Cs} {k : List Fr} {s : St} {Q : Post} : run C c17_20 k s Q = run C (.cond (.t 62) c17_19 .skip) k s Q := rfl
def c17_21 : ACode := .seq c17_17 c17_20
theorem r17_21 {C : Cs} {k : List Fr} {s : St} {Q : Post} : run C c17_21 k s Q = run C (.seq c17_17 c17_20) k s Q := rfl
def c17_22 : ACode := .ops [⟨some 16, .mv (.c (.int .i64 0)), none, []⟩] [3, 7, 11, 12, 13, 14, 16]
theorem r17_22 {C : Cs} {k : List Fr} {s : St} {Q : Post} : run C c17_22 k s Q = run C (.ops [⟨some 16, .mv (.c (.int .i64 0)), none, []⟩] [3, 7, 11, 12, 13, 14, 16]) k s Q := rfl
def c17_23 : ACode := .ops [⟨some 17, .mv (.c (.int .i64 0)), none, []⟩] [3, 7, 11, 12, 13, 14, 16, 17]
theorem r17_23 {C : Cs} {k : List Fr} {s : St} {Q : Post} : run C c17_23 k s Q = run C (.ops [⟨some 17, .mv (.c (.int .i64 0)), none, []⟩] [3, 7, 11, 12, 13, 14, 16, 17]) k s Q := rfl
def c17_24 : ACode := .ops [⟨some 63, .mv (.t 17), none, []⟩,
  ⟨some 64, .fad (.t 11) 1, none, [11]⟩,
  ⟨some 65, .load 1 false (.t 64), none, [11]⟩,
  ⟨some 66, .bin .lss (.t 63) (.t 65), none, []⟩,
  ⟨some 67, .mv (.t 66), none, []⟩,
  ⟨some 68, .fad (.t 11) 1, some (67, true), [11]⟩,
  ⟨some 69, .load 1 false (.t 68), some (67, true), [11]⟩,
  ⟨some 70, .bin .gtr (.t 69) (.c (.int .i64 1)), some (67, true), []⟩,
  ⟨some 71, .pick (.t 67) (.t 70) (.c (.bool false)), none, []⟩] [3, 7, 11, 12, 13, 14, 16, 17, 71]
theorem r17_24 {C : Cs} {k : List Fr} {s : St} {Q : Post} : run C c17_24 k s Q = run C (.ops [⟨some 63, .mv (.t 17), none, []⟩,
  ⟨some 64, .fad (.t 11) 1, none, [11]⟩,
  ⟨some 65, .load 1 false (.t 64), none, [11]⟩,
  ⟨some 66, .bin .lss (.t 63) (.t 65), none, []⟩,
  ⟨some 67, .mv (.t 66), none, []⟩,
  ⟨some 68, .fad (.t 11) 1, some (67, true), [11]⟩,
  ⟨some 69, .load 1 false (.t 68), some (67, true), [11]⟩,
  ⟨some 70, .bin .gtr (.t 69) (.c (.int .i64 1)), some (67, true), []⟩,
  ⟨some 71, .pick (.t 67) (.t 70) (.c (.bool false)), none, []⟩] [3, 7, 11, 12, 13, 14, 16, 17, 71]) k s Q := rfl
def c17_25 : ACode := .cond (.t 71) .skip (.exit 0)
theorem r17_25 {C : Cs} {k : List Fr} {s : St} {Q : Post} : run C c17_25 k s Q = run C (.cond (.t 71) .skip (.exit 0)) k s Q := rfl
def c17_26 : ACode := .seq c17_24 c17_25
theorem r17_26 {C : Cs} {k : List Fr} {s : St} {Q : Post} : run C c17_26 k s Q = run C (.seq c17_24 c17_25) k s Q := rfl
def c17_27 : ACode := .ops [⟨some 74, .load 6 true (.t 11), none, [11]⟩,
  ⟨some 75, .mv (.t 17), none, []⟩,
  ⟨some 76, .fad (.t 12) 2, none, [12]⟩,
  ⟨some 77, .load 10 true (.t 76), none, [12]⟩,
  ⟨some 78, .build [.int .i64 0, .int .i64 0, .int .i64 0, .int .i64 0, .int .i64 0, .int .i64 0, .int .i64 0, .int .i64 0, .int .i64 0, .int .i64 0, .int .i64 0, .int .i64 0, .int .i64 0, .int .i64 0, .int .i64 0, .bool false, .int .i64 0] [(0, 1, .c (.int .i64 2)), (1, 1, .t 75), (2, 10, .t 77)], none, []⟩,
  ⟨some 79, .load 4 true (.t 7), none, [7]⟩,
  ⟨some 80, .mv (.t 3), none, []⟩,
  ⟨some 81, .call 57 [.t 74, .t 78, .t 79, .t 80], none, []⟩,
  ⟨some 82, .un .not (.t 81), none, []⟩] [3, 7, 11, 12, 13, 14, 16, 17, 82]
theorem r17_27 {C : Cs} {k : List Fr} {s : St} {Q : Post} : run C c17_27 k s Q = run C (.ops [⟨some 74, .load 6 true (.t 11), none, [11]⟩,
  ⟨some 75, .mv (.t 17), none, []⟩,
  ⟨some 76, .fad (.t 12) 2, none, [12]⟩,
  ⟨some 77, .load 10 true (.t 76), none, [12]⟩,
  ⟨some 78, .build [.int .i64 0, .int .i64 0, .int .i64 0, .int .i64 0, .int .i64 0, .int .i64 0, .int .i64 0, .int .i64 0, .int .i64 0, .int .i64 0, .int .i64 0, .int .i64 0, .int .i64 0, .int .i64 0, .int .i64 0, .bool false, .int .i64 0] [(0, 1, .c (.int .i64 2)), (1, 1, .t 75), (2, 10, .t 77)], none, []⟩,
  ⟨some 79, .load 4 true (.t 7), none, [7]⟩,
  ⟨some 80, .mv (.t 3), none, []⟩,
  ⟨some 81, .call 57 [.t 74, .t 78, .t 79, .t 80], none, []⟩,
  ⟨some 82, .un .not (.t 81), none, []⟩] [3, 7, 11, 12, 13, 14, 16, 17, 82]) k s Q := rfl
def c17_28 : ACode := .ops [⟨some 83, .mv (.t 16), none, []⟩,
  ⟨some 84, .bin .add (.t 83) (.c (.int .i64 1)), none, []⟩,
  ⟨some 16, .mv (.t 84), none, []⟩] [3, 7, 11, 12, 13, 14, 16, 17]
theorem r17_28 {C : Cs} {k : List Fr} {s : St} {Q : Post} : run C c17_28 k s Q = run C (.ops [⟨some 83, .mv (.t 16), none, []⟩,
  ⟨some 84, .bin .add (.t 83) (.c (.int .i64 1)), none, []⟩,
  ⟨some 16, .mv (.t 84), none, []⟩] [3, 7, 11, 12, 13, 14, 16, 17]) k s Q := rfl
def c17_29 : ACode := .ops [⟨some 85, .load 6 true (.t 11), none, [11]⟩,
  ⟨some 86, .load 4 true (.t 7), none, [7]⟩,
  ⟨some 87, .call 78 [.t 85, .t 86], none, []⟩,
  ⟨some 88, .mv (.t 17), none, []⟩,
  ⟨some 89, .bin .neq (.t 87) (.t 88), none, []⟩] [3, 7, 11, 12, 13, 14, 16, 17, 89]
theorem r17_29 {C : Cs} {k : List Fr} {s : St} {Q : Post} : run C c17_29 k s Q = run C (.ops [⟨some 85, .load 6 true (.t 11), none, [11]⟩,
  ⟨some 86, .load 4 true (.t 7), none, [7]⟩,
  ⟨some 87, .call 78 [.t 85, .t 86], none, []⟩,
  ⟨some 88, .mv (.t 17), none, []⟩,
  ⟨some 89, .bin .neq (.t 87) (.t 88), none, []⟩] [3, 7, 11, 12, 13, 14, 16, 17, 89]) k s Q := rfl
def c17_30 : ACode := .ops [⟨some 10, .mv (.c (.bool false)), none, []⟩] [10]
theorem r17_30 {C : Cs} {k : List Fr} {s : St} {Q : Post} : run C c17_30 k s Q = run C (.ops [⟨some 10, .mv (.c (.bool false)), none, []⟩] [10]) k s Q := rfl
def c17_31 : ACode := .seq c17_30 .ret
theorem r17_31 {C : Cs} {k : List Fr} {s : St} {Q : Post} : run C c17_31 k s Q = run C (.seq c17_30 .ret) k s Q := rfl
def c17_32 : ACode := .cond (.t 89) c17_31 .skip
theorem r17_32 {C : Cs} {k : List Fr} {s : St} {Q : Post} : run C c17_32 k s Q = run C (.cond (.t 89) c17_31 .skip) k s Q := rfl
def c17_33 : ACode := .seq c17_29 c17_32
theorem r17_33 {C : Cs} {k : List Fr} {s : St} {Q : Post} : run C c17_33 k s Q = run C (.seq c17_29 c17_32) k s Q := rfl
def c17_34 : ACode := .seq c17_28 c17_33
theorem r17_34 {C : Cs} {k : List Fr} {s : St} {Q : Post} : run C c17_34 k s Q = run C (.seq c17_28 c17_33) k s Q := rfl
def c17_35 : ACode := .cond (.t 82) c17_34 .skip
theorem r17_35 {C : Cs} {k : List Fr} {s : St} {Q : Post} : run C c17_35 k s Q = run C (.cond (.t 82) c17_34 .skip) k s Q := rfl
def c17_36 : ACode := .seq c17_27 c17_35
theorem r17_36 {C : Cs} {k : List Fr} {s : St} {Q : Post} : run C c17_36 k s Q = run C (.seq c17_27 c17_35) k s Q := rfl
def c17_37 : ACode := .block 1 c17_36
theorem r17_37 {C : Cs} {k : List Fr} {s : St} {Q : Post} : run C c17_37 k s Q = run C (.block 1 c17_36) k s Q := rfl
def c17_38 : ACode := .ops [⟨some 72, .mv (.t 17), none, []⟩,
  ⟨some 73, .bin .add (.t 72) (.c (.int .i64 1)), none, []⟩,
  ⟨some 17, .mv (.t 73), none, []⟩] [3, 7, 11, 12, 13, 14, 16, 17]
theorem r17_38 {C : Cs} {k : List Fr} {s : St} {Q : Post} : run C c17_38 k s Q = run C (.ops [⟨some 72, .mv (.t 17), none, []⟩,
  ⟨some 73, .bin .add (.t 72) (.c (.int .i64 1)), none, []⟩,
  ⟨some 17, .mv (.t 73), none, []⟩] [3, 7, 11, 12, 13, 14, 16, 17]) k s Q := rfl
def c17_39 : ACode := .seq c17_37 c17_38
theorem r17_39 {C : Cs} {k : List Fr} {s : St} {Q : Post} : run C c17_39 k s Q = run C (.seq c17_37 c17_38) k s Q := rfl
def c17_40 : ACode := .seq c17_26 c17_39
theorem r17_40 {C : Cs} {k : List Fr} {s : St} {Q : Post} : run C c17_40 k s Q = run C (.seq c17_26 c17_39) k s Q := rfl
def c17_41 : ACode := .keep [3, 7, 11, 12, 13, 14, 16, 17] [7, 11, 12] c17_40
theorem r17_41 {C : Cs} {k : List Fr} {s : St} {Q : Post} : run C c17_41 k s Q = run C (.keep [3, 7, 11, 12, 13, 14, 16, 17] [7, 11, 12] c17_40) k s Q := rfl
def c17_42 : ACode := .loop c17_41
theorem r17_42 {C : Cs} {k : List Fr} {s : St} {Q : Post} : run C c17_42 k s Q = run C (.loop c17_41) k s Q := rfl
def c17_43 : ACode := .block 0 c17_42
theorem r17_43 {C : Cs} {k : List Fr} {s : St} {Q : Post} : run C c17_43 k s Q = run C (.block 0 c17_42) k s Q := rfl
def c17_44 : ACode := .seq c17_23 c17_43
theorem r17_44 {C : Cs} {k : List Fr} {s : St} {Q : Post} : run C c17_44 k s Q = run C (.seq c17_23 c17_43) k s Q := rfl
def c17_45 : ACode := .ops [⟨some 90, .mv (.t 16), none, []⟩,
  ⟨some 91, .bin .gtr (.t 90) (.c (.int .i64 1)), none, []⟩] [3, 7, 11, 12, 13, 14, 91]
theorem r17_45 {C : Cs} {k : List Fr} {s : St} {Q : Post} : run C c17_45 k s Q = run C (.ops [⟨some 90, .mv (.t 16), none, []⟩,
  ⟨some 91, .bin .gtr (.t 90) (.c (.int .i64 1)), none, []⟩] [3, 7, 11, 12, 13, 14, 91]) k s Q := rfl
def c17_46 : ACode := .ops [⟨some 10, .mv (.c (.bool false)), none, []⟩] [10]
theorem r17_46 {C : Cs} {k : List Fr} {s : St} {Q : Post} : run C c17_46 k s Q = run C (.ops [⟨some 10, .mv (.c (.bool false)), none, []⟩] [10]) k s Q := rfl
def c17_47 : ACode := .seq c17_46 .ret
theorem r17_47 {C : Cs} {k : List Fr} {s : St} {Q : Post} : run C c17_47 k s Q = run C (.seq c17_46 .ret) k s Q := rfl
def c17_48 : ACode := .cond (.t 91) c17_47 .skip
theorem r17_48 {C : Cs} {k : List Fr} {s : St} {Q : Post} : run C c17_48 k s Q = run C (.cond (.t 91) c17_47 .skip) k s Q := rfl
def c17_49 : ACode := .seq c17_45 c17_48
theorem r17_49 {C : Cs} {k : List Fr} {s : St} {Q : Post} : run C c17_49 k s Q = run C (.seq c17_45 c17_48) k s Q := rfl
def c17_50 : ACode := .ops [⟨some 92, .mv (.t 13), none, []⟩,
  ⟨some 93, .fad (.t 12) 2, none, [12]⟩,
  ⟨some 94, .load 10 true (.t 93), none, [12]⟩,
  ⟨some 95, .build [.int .i64 0, .int .i64 0, .int .i64 0, .int .i64 0, .int .i64 0, .int .i64 0, .int .i64 0, .int .i64 0, .int .i64 0, .int .i64 0, .int .i64 0, .int .i64 0, .int .i64 0, .int .i64 0, .int .i64 0, .bool false, .int .i64 0] [(0, 1, .c (.int .i64 3)), (1, 1, .t 92), (2, 10, .t 94)], none, []⟩,
  ⟨some 18, .alloc [.int .i64 0, .int .i64 0, .int .i64 0, .int .i64 0, .int .i64 0, .int .i64 0, .int .i64 0, .int .i64 0, .int .i64 0, .int .i64 0, .int .i64 0, .int .i64 0, .int .i64 0, .int .i64 0, .int .i64 0, .bool false, .int .i64 0], none, []⟩,
  ⟨none, .store (.t 18) 17 (.t 95), none, [18]⟩] [3, 7, 11, 13, 14, 18]
theorem r17_50 {C : Cs} {k : List Fr} {s : St} {Q : Post} : run C c17_50 k s Q = run C (.ops [⟨some 92, .mv (.t 13), none, []⟩,
  ⟨some 93, .fad (.t 12) 2, none, [12]⟩,
  ⟨some 94, .load 10 true (.t 93), none, [12]⟩,
  ⟨some 95, .build [.int .i64 0, .int .i64 0, .int .i64 0, .int .i64 0, .int .i64 0, .int .i64 0, .int .i64 0, .int .i64 0, .int .i64 0, .int .i64 0, .int .i64 0, .int .i64 0, .int .i64 0, .int .i64 0, .int .i64 0, .bool false, .int .i64 0] [(0, 1, .c (.int .i64 3)), (1, 1, .t 92), (2, 10, .t 94)], none, []⟩,
  ⟨some 18, .alloc [.int .i64 0, .int .i64 0, .int .i64 0, .int .i64 0, .int .i64 0, .int .i64 0, .int .i64 0, .int .i64 0, .int .i64 0, .int .i64 0, .int .i64 0, .int .i64 0, .int .i64 0, .int .i64 0, .int .i64 0, .bool false, .int .i64 0], none, []⟩,
  ⟨none, .store (.t 18) 17 (.t 95), none, [18]⟩] [3, 7, 11, 13, 14, 18]) k s Q := rfl
def c17_51 : ACode := .ops [⟨some 96, .load 17 true (.t 18), none, [18]⟩,
  ⟨some 19, .alloc [.int .i64 0, .int .i64 0, .int .i64 0, .int .i64 0, .int .i64 0, .int .i64 0, .int .i64 0, .int .i64 0, .int .i64 0, .int .i64 0, .int .i64 0, .int .i64 0, .int .i64 0, .int .i64 0, .int .i64 0, .bool false, .int .i64 0], none, []⟩,
  ⟨none, .store (.t 19) 17 (.t 96), none, [19]⟩] [3, 7, 11, 13, 14, 18, 19]
theorem r17_51 {C : Cs} {k : List Fr} {s : St} {Q : Post} : run C c17_51 k s Q = run C (.ops [⟨some 96, .load 17 true (.t 18), none, [18]⟩,
  ⟨some 19, .alloc [.int .i64 0, .int .i64 0, .int .i64 0, .int .i64 0, .int .i64 0, .int .i64 0, .int .i64 0, .int .i64 0, .int .i64 0, .int .i64 0, .int .i64 0, .int .i64 0, .int .i64 0, .int .i64 0, .int .i64 0, .bool false, .int .i64 0], none, []⟩,
  ⟨none, .store (.t 19) 17 (.t 96), none, [19]⟩] [3, 7, 11, 13, 14, 18, 19]) k s Q := rfl
def c17_52 : ACode := .ops [⟨some 97, .fad (.t 19) 15, none, [19]⟩,
  ⟨none, .store (.t 97) 1 (.c (.bool true)), none, [19]⟩] [3, 7, 11, 13, 14, 18, 19]
theorem r17_52 {C : Cs} {k : List Fr} {s : St} {Q : Post} : run C c17_52 k s Q = run C (.ops [⟨some 97, .fad (.t 19) 15, none, [19]⟩,
  ⟨none, .store (.t 97) 1 (.c (.bool true)), none, [19]⟩] [3, 7, 11, 13, 14, 18, 19]) k s Q := rfl
def c17_53 : ACode := .ops [⟨some 98, .load 6 true (.t 11), none, [11]⟩,
  ⟨some 99, .mv (.t 13), none, []⟩,
  ⟨some 100, .load 17 true (.t 18), none, [18]⟩,
  ⟨some 101, .load 4 true (.t 7), none, [7]⟩,
  ⟨some 102, .mv (.t 3), none, []⟩,
  ⟨some 103, .call 64 [.t 100, .t 101, .t 102], none, []⟩,
  ⟨some 104, .call 69 [.t 98, .t 99, .t 103], none, []⟩,
  ⟨some 20, .mv (.t 104), none, []⟩] [3, 7, 11, 14, 18, 19, 20]
theorem r17_53 {C : Cs} {k : List Fr} {s : St} {Q : Post} : run C c17_53 k s Q = run C (.ops [⟨some 98, .load 6 true (.t 11), none, [11]⟩,
  ⟨some 99, .mv (.t 13), none, []⟩,
  ⟨some 100, .load 17 true (.t 18), none, [18]⟩,
  ⟨some 101, .load 4 true (.t 7), none, [7]⟩,
  ⟨some 102, .mv (.t 3), none, []⟩,
  ⟨some 103, .call 64 [.t 100, .t 101, .t 102], none, []⟩,
  ⟨some 104, .call 69 [.t 98, .t 99, .t 103], none, []⟩,
  ⟨some 20, .mv (.t 104), none, []⟩] [3, 7, 11, 14, 18, 19, 20]) k s Q := rfl
def c17_54 : ACode := .ops [⟨some 105, .load 6 true (.t 11), none, [11]⟩,
  ⟨some 106, .load 17 true (.t 18), none, [18]⟩,
  ⟨some 107, .load 4 true (.t 7), none, [7]⟩,
  ⟨some 108, .mv (.t 3), none, []⟩,
  ⟨some 109, .call 57 [.t 105, .t 106, .t 107, .t 108], none, []⟩,
  ⟨some 110, .mv (.t 109), none, []⟩,
  ⟨some 111, .load 6 true (.t 11), some (110, false), [11]⟩,
  ⟨some 112, .load 17 true (.t 19), some (110, false), [19]⟩,
  ⟨some 113, .load 4 true (.t 7), some (110, false), [7]⟩,
  ⟨some 114, .mv (.t 3), some (110, false), []⟩,
  ⟨some 115, .call 57 [.t 111, .t 112, .t 113, .t 114], some (110, false), []⟩,
  ⟨some 116, .pick (.t 110) (.c (.bool true)) (.t 115), none, []⟩,
  ⟨some 21, .mv (.t 116), none, []⟩] [3, 7, 11, 14, 18, 19, 20, 21]
theorem r17_54 {C : Cs} {k : List Fr} {s : St} {Q : Post} : run C c17_54 k s Q = run C (.ops [⟨some 105, .load 6 true (.t 11), none, [11]⟩,
  ⟨some 106, .load 17 true (.t 18), none, [18]⟩,
  ⟨some 107, .load 4 true (.t 7), none, [7]⟩,
  ⟨some 108, .mv (.t 3), none, []⟩,
  ⟨some 109, .call 57 [.t 105, .t 106, .t 107, .t 108], none, []⟩,
  ⟨some 110, .mv (.t 109), none, []⟩,
  ⟨some 111, .load 6 true (.t 11), some (110, false), [11]⟩,
  ⟨some 112, .load 17 true (.t 19), some (110, false), [19]⟩,
  ⟨some 113, .load 4 true (.t 7), some (110, false), [7]⟩,
  ⟨some 114, .mv (.t 3), some (110, false), []⟩,
  ⟨some 115, .call 57 [.t 111, .t 112, .t 113, .t 114], some (110, false), []⟩,
  ⟨some 116, .pick (.t 110) (.c (.bool true)) (.t 115), none, []⟩,
  ⟨some 21, .mv (.t 116), none, []⟩] [3, 7, 11, 14, 18, 19, 20, 21]) k s Q := rfl
def c17_55 : ACode := .ops [⟨some 117, .mv (.t 21), none, []⟩,
  ⟨some 118, .iad (.t 7) (.c (.int .i64 0)) 1 4, none, [7]⟩,
  ⟨some 119, .load 1 false (.t 118), none, [7]⟩,
  ⟨some 120, .mv (.t 3), none, []⟩,
  ⟨some 121, .bin .lss (.t 119) (.t 120), none, []⟩,
  ⟨some 122, .mv (.t 121), none, []⟩,
  ⟨some 123, .mv (.t 14), some (122, true), []⟩,
  ⟨some 124, .mv (.t 20), some (122, true), []⟩,
  ⟨some 125, .bin .neq (.t 123) (.t 124), some (122, true), []⟩,
  ⟨some 126, .pick (.t 122) (.t 125) (.c (.bool false)), none, []⟩,
  ⟨some 127, .eqb false (.t 117) (.t 126), none, []⟩,
  ⟨some 128, .mv (.t 127), none, []⟩,
  ⟨some 129, .load 6 true (.t 11), some (128, true), [11]⟩,
  ⟨some 130, .load 17 true (.t 18), some (128, true), [18]⟩,
  ⟨some 131, .load 4 true (.t 7), some (128, true), [7]⟩,
  ⟨some 132, .mv (.t 3), some (128, true), []⟩,
  ⟨some 133, .call 57 [.t 129, .t 130, .t 131, .t 132], some (128, true), []⟩,
  ⟨some 134, .mv (.t 133), some (128, true), []⟩,
  ⟨some 135, .load 6 true (.t 11), some (134, true), [11]⟩,
  ⟨some 136, .load 17 true (.t 19), some (134, true), [19]⟩,
  ⟨some 137, .load 4 true (.t 7), some (134, true), [7]⟩,
  ⟨some 138, .mv (.t 3), some (134, true), []⟩,
  ⟨some 139, .call 57 [.t 135, .t 136, .t 137, .t 138], some (134, true), []⟩,
  ⟨some 140, .pick (.t 134) (.t 139) (.c (.bool false)), some (128, true), []⟩,
  ⟨some 141, .un .not (.t 140), some (128, true), []⟩,
  ⟨some 142, .pick (.t 128) (.t 141) (.c (.bool false)), none, []⟩,
  ⟨some 143, .mv (.t 142), none, []⟩,
  ⟨some 144, .call 7 [], some (143, true), []⟩,
  ⟨some 145, .pick (.t 143) (.t 144) (.c (.bool false)), none, []⟩,
  ⟨some 10, .mv (.t 145), none, []⟩] [10]
theorem r17_55 {C : Cs} {k : List Fr} {s : St} {Q : Post} : run C c17_55 k s Q = run C (.ops [⟨some 117, .mv (.t 21), none, []⟩,
  ⟨some 118, .iad (.t 7) (.c (.int .i64 0)) 1 4, none, [7]⟩,
  ⟨some 119, .load 1 false (.t 118), none, [7]⟩,
  ⟨some 120, .mv (.t 3), none, []⟩,
  ⟨some 121, .bin .lss (.t 119) (.t 120), none, []⟩,
  ⟨some 122, .mv (.t 121), none, []⟩,
  ⟨some 123, .mv (.t 14), some (122, true), []⟩,
  ⟨some 124, .mv (.t 20), some (122, true), []⟩,
  ⟨some 125, .bin .neq (.t 123) (.t 124), some (122, true), []⟩,
  ⟨some 126, .pick (.t 122) (.t 125) (.c (.bool false)), none, []⟩,
  ⟨some 127, .eqb false (.t 117) (.t 126), none, []⟩,
  ⟨some 128, .mv (.t 127), none, []⟩,
  ⟨some 129, .load 6 true (.t 11), some (128, true), [11]⟩,
  ⟨some 130, .load 17 true (.t 18), some (128, true), [18]⟩,
  ⟨some 131, .load 4 true (.t 7), some (128, true), [7]⟩,
  ⟨some 132, .mv (.t 3), some (128, true), []⟩,
  ⟨some 133, .call 57 [.t 129, .t 130, .t 131, .t 132], some (128, true), []⟩,
  ⟨some 134, .mv (.t 133), some (128, true), []⟩,
  ⟨some 135, .load 6 true (.t 11), some (134, true), [11]⟩,
  ⟨some 136, .load 17 true (.t 19), some (134, true), [19]⟩,
  ⟨some 137, .load 4 true (.t 7), some (134, true), [7]⟩,
  ⟨some 138, .mv (.t 3), some (134, true), []⟩,
  ⟨some 139, .call 57 [.t 135, .t 136, .t 137, .t 138], some (134, true), []⟩,
  ⟨some 140, .pick (.t 134) (.t 139) (.c (.bool false)), some (128, true), []⟩,
  ⟨some 141, .un .not (.t 140), some (128, true), []⟩,
  ⟨some 142, .pick (.t 128) (.t 141) (.c (.bool false)), none, []⟩,
  ⟨some 143, .mv (.t 142), none, []⟩,
  ⟨some 144, .call 7 [], some (143, true), []⟩,
  ⟨some 145, .pick (.t 143) (.t 144) (.c (.bool false)), none, []⟩,
  ⟨some 10, .mv (.t 145), none, []⟩] [10]) k s Q := rfl
def c17_56 : ACode := .seq c17_55 .ret
theorem r17_56 {C : Cs} {k : List Fr} {s : St} {Q : Post} : run C c17_56 k s Q = run C (.seq c17_55 .ret) k s Q := rfl
def c17_57 : ACode := .seq c17_54 c17_56
theorem r17_57 {C : Cs} {k : List Fr} {s : St} {Q : Post} : run C c17_57 k s Q = run C (.seq c17_54 c17_56) k s Q := rfl
def c17_58 : ACode := .seq c17_53 c17_57
theorem r17_58 {C : Cs} {k : List Fr} {s : St} {Q : Post} : run C c17_58 k s Q = run C (.seq c17_53 c17_57) k s Q := rfl
def c17_59 : ACode := .seq c17_52 c17_58
theorem r17_59 {C : Cs} {k : List Fr} {s : St} {Q : Post} : run C c17_59 k s Q = run C (.seq c17_52 c17_58) k s Q := rfl
def c17_60 : ACode := .seq c17_51 c17_59
theorem r17_60 {C : Cs} {k : List Fr} {s : St} {Q : Post} : run C c17_60 k s Q = run C (.seq c17_51 c17_59) k s Q := rfl
def c17_61 : ACode := .seq c17_50 c17_60
theorem r17_61 {C : Cs} {k : List Fr} {s : St} {Q : Post} : run C c17_61 k s Q = run C (.seq c17_50 c17_60) k s Q := rfl
def c17_62 : ACode := .seq c17_49 c17_61
theorem r17_62 {C : Cs} {k : List Fr} {s : St} {Q : Post} : run C c17_62 k s Q = run C (.seq c17_49 c17_61) k s Q := rfl
def c17_63 : ACode := .seq c17_44 c17_62
theorem r17_63 {C : Cs} {k : List Fr} {s : St} {Q : Post} : run C c17_63 k s Q = run C (.seq c17_44 c17_62) k s Q := rfl
def c17_64 : ACode := .seq c17_22 c17_63
theorem r17_64 {C : Cs} {k : List Fr} {s : St} {Q : Post} : run C c17_64 k s Q = run C (.seq c17_22 c17_63) k s Q := rfl
def c17_65 : ACode := .seq c17_21 c17_64
theorem r17_65 {C : Cs} {k : List Fr} {s : St} {Q : Post} : run C c17_65 k s Q = run C (.seq c17_21 c17_64) k s Q := rfl
def c17_66 : ACode := .seq c17_16 c17_65
theorem r17_66 {C : Cs} {k : List Fr} {s : St} {Q : Post} : run C c17_66 k s Q = run C (.seq c17_16 c17_65) k s Q := rfl
def c17_67 : ACode := .seq c17_15 c17_66
theorem r17_67 {C : Cs} {k : List Fr} {s : St} {Q : Post} : run C c17_67 k s Q = run C (.seq c17_15 c17_66) k s Q := rfl
def c17_68 : ACode := .seq c17_10 c17_67
theorem r17_68 {C : Cs} {k : List Fr} {s : St} {Q : Post} : run C c17_68 k s Q = run C (.seq c17_10 c17_67) k s Q := rfl
def c17_69 : ACode := .seq c17_9 c17_68
theorem r17_69 {C : Cs} {k : List Fr} {s : St} {Q : Post} : run C c17_69 k s Q = run C (.seq c17_9 c17_68) k s Q := rfl
def c17_70 : ACode := .seq c17_8 c17_69
theorem r17_70 {C : Cs} {k : List Fr} {s : St} {Q : Post} : run C c17_70 k s Q = run C (.seq c17_8 c17_69) k s Q := rfl
def c17_71 : ACode := .seq c17_7 c17_70
theorem r17_71 {C : Cs} {k : List Fr} {s : St} {Q : Post} : run C c17_71 k s Q = run C (.seq c17_7 c17_70) k s Q := rfl
def c17_72 : ACode := .seq c17_2 c17_71
theorem r17_72 {C : Cs} {k : List Fr} {s : St} {Q : Post} : run C c17_72 k s Q = run C (.seq c17_2 c17_71) k s Q := rfl
def c17_73 : ACode := .seq c17_1 c17_72
theorem r17_73 {C : Cs} {k : List Fr} {s : St} {Q : Post} : run C c17_73 k s Q = run C (.seq c17_1 c17_72) k s Q := rfl
def c17_74 : ACode := .seq c17_0 c17_73
theorem r17_74 {C : Cs} {k : List Fr} {s : St} {Q : Post} : run C c17_74 k s Q = run C (.seq c17_0 c17_73) k s Q := rfl
def a17 : AFun := ⟨5, 146, c17_74, [.t 10]⟩
attribute [simp] r17_0 r17_1 r17_2 r17_3 r17_4 r17_5 r17_6 r17_7 r17_8 r17_9 r17_10 r17_11 r17_12 r17_13 r17_14 r17_15 r17_16 r17_17 r17_18 r17_19 r17_20 r17_21 r17_22 r17_23 r17_24 r17_25 r17_26 r17_27 r17_28 r17_29 r17_30 r17_31 r17_32 r17_33 r17_34 r17_35 r17_36 r17_37 r17_38 r17_39 r17_40 r17_41 r17_42 r17_43 r17_44 r17_45 r17_46 r17_47 r17_48 r17_49 r17_50 r17_51 r17_52 r17_53 r17_54 r17_55 r17_56 r17_57 r17_58 r17_59 r17_60 r17_61 r17_62 r17_63 r17_64 r17_65 r17_66 r17_67 r17_68 r17_69 r17_70 r17_71 r17_72 r17_73 r17_74
theorem m17 : mFun Try.prog Try.f17 a17 = true := by decide +kernel

/- copse/copselaw10.QueryRuns -/
def c7_0 : ACode := .ops [⟨some 0, .mv (.c (.bool false)), none, []⟩] []
def c7_1 : ACode := .ops [⟨some 5, .call 43 [], none, []⟩,
  ⟨some 1, .alloc [.int .i64 0, .int .i64 0, .int .i64 0, .int .i64 0, .int .i64 0, .nils], none, []⟩,
  ⟨none, .store (.t 1) 6 (.t 5), none, [1]⟩] [1]
def c7_2 : ACode := .ops [⟨some 6, .build [.int .i64 0, .int .i64 0] [(0, 1, .c (.int .i64 0)), (1, 1, .c (.int .i64 9))], none, []⟩,
  ⟨some 7, .build [.int .i64 0, .int .i64 0, .int .i64 0, .int .i64 0, .int .i64 0, .int .i64 0, .int .i64 0, .int .i64 0, .int .i64 0, .int .i64 0] [(0, 2, .t 6)], none, []⟩,
  ⟨some 8, .build [.int .i64 0, .int .i64 0, .int .i64 0, .int .i64 0, .int .i64 0, .int .i64 0, .int .i64 0, .int .i64 0, .int .i64 0, .int .i64 0, .int .i64 0, .int .i64 0, .int .i64 0, .int .i64 0, .int .i64 0, .bool false, .int .i64 0] [(0, 1, .c (.int .i64 3)), (2, 10, .t 7)], none, []⟩,
  ⟨some 2, .alloc [.int .i64 0, .int .i64 0, .int .i64 0, .int .i64 0, .int .i64 0, .int .i64 0, .int .i64 0, .int .i64 0, .int .i64 0, .int .i64 0, .int .i64 0, .int .i64 0, .int .i64 0, .int .i64 0, .int .i64 0, .bool false, .int .i64 0], none, []⟩,
  ⟨none, .store (.t 2) 17 (.t 8), none, [2]⟩] [1, 2]
def c7_3 : ACode := .ops [⟨some 9, .load 17 true (.t 2), none, [2]⟩,
  ⟨some 3, .alloc [.int .i64 0, .int .i64 0, .int .i64 0, .int .i64 0, .int .i64 0, .int .i64 0, .int .i64 0, .int .i64 0, .int .i64 0, .int .i64 0, .int .i64 0, .int .i64 0, .int .i64 0, .int .i64 0, .int .i64 0, .bool false, .int .i64 0], none, []⟩,
  ⟨none, .store (.t 3) 17 (.t 9), none, [3]⟩] [1, 2, 3]
def c7_4 : ACode := .ops [⟨some 10, .fad (.t 3) 15, none, [3]⟩,
  ⟨none, .store (.t 10) 1 (.c (.bool true)), none, [3]⟩] [1, 2, 3]
def c7_5 : ACode := .ops [⟨some 11, .build [.int .i64 0, .int .i64 0] [(0, 1, .c (.int .i64 0)), (1, 1, .c (.int .i64 9))], none, []⟩,
  ⟨some 12, .build [.int .i64 0, .int .i64 0, .int .i64 0, .int .i64 0, .int .i64 0, .int .i64 0, .int .i64 0, .int .i64 0, .int .i64 0, .int .i64 0] [(0, 2, .t 11)], none, []⟩,
  ⟨some 13, .build [.int .i64 0, .int .i64 0, .int .i64 0, .int .i64 0, .int .i64 0, .int .i64 0, .int .i64 0, .int .i64 0, .int .i64 0, .int .i64 0, .int .i64 0, .int .i64 0, .int .i64 0, .int .i64 0, .int .i64 0, .bool false, .int .i64 0] [(0, 1, .c (.int .i64 1)), (2, 10, .t 12), (13, 1, .c (.int .i64 20))], none, []⟩,
  ⟨some 4, .alloc [.int .i64 0, .int .i64 0, .int .i64 0, .int .i64 0, .int .i64 0, .int .i64 0, .int .i64 0, .int .i64 0, .int .i64 0, .int .i64 0, .int .i64 0, .int .i64 0, .int .i64 0, .int .i64 0, .int .i64 0, .bool false, .int .i64 0], none, []⟩,
  ⟨none, .store (.t 4) 17 (.t 13), none, [4]⟩] [1, 2, 3, 4]
def c7_6 : ACode := .ops [⟨some 14, .load 6 true (.t 1), none, [1]⟩,
  ⟨some 15, .load 17 true (.t 2), none, [2]⟩,
  ⟨some 16, .call 56 [.t 14, .t 15], none, []⟩,
  ⟨some 17, .mv (.t 16), none, []⟩,
  ⟨some 18, .load 6 true (.t 1), some (17, true), [1]⟩,
  ⟨some 19, .load 17 true (.t 2), some (17, true), [2]⟩,
  ⟨some 20, .build [.int .i64 0, .int .i64 0, .int .i64 0, .int .i64 0] [(0, 1, .c (.int .i64 5))], some (17, true), []⟩,
  ⟨some 21, .call 57 [.t 18, .t 19, .t 20, .c (.int .i64 6)], some (17, true), []⟩,
  ⟨some 22, .un .not (.t 21), some (17, true), []⟩,
  ⟨some 23, .pick (.t 17) (.t 22) (.c (.bool false)), none, []⟩,
  ⟨some 24, .mv (.t 23), none, []⟩,
  ⟨some 25, .load 6 true (.t 1), some (24, true), [1]⟩,
  ⟨some 26, .load 17 true (.t 3), some (24, true), [3]⟩,
  ⟨some 27, .build [.int .i64 0, .int .i64 0, .int .i64 0, .int .i64 0] [(0, 1, .c (.int .i64 5))], some (24, true), []⟩,
  ⟨some 28, .call 57 [.t 25, .t 26, .t 27, .c (.int .i64 6)], some (24, true), []⟩,
  ⟨some 29, .pick (.t 24) (.t 28) (.c (.bool false)), none, []⟩,
  ⟨some 30, .mv (.t 29), none, []⟩,
  ⟨some 31, .load 6 true (.t 1), some (30, true), [1]⟩,
  ⟨some 32, .load 17 true (.t 4), some (30, true), [4]⟩,
  ⟨some 33, .build [.int .i64 0, .int .i64 0, .int .i64 0, .int .i64 0] [(0, 1, .c (.int .i64 6))], some (30, true), []⟩,
  ⟨some 34, .call 57 [.t 31, .t 32, .t 33, .c (.int .i64 0)], some (30, true), []⟩,
  ⟨some 35, .pick (.t 30) (.t 34) (.c (.bool false)), none, []⟩,
  ⟨some 36, .mv (.t 35), none, []⟩,
  ⟨some 37, .load 17 true (.t 2), some (36, true), [2]⟩,
  ⟨some 38, .call 58 [.t 37], some (36, true), []⟩,
  ⟨some 39, .build [.int .i64 0, .int .i64 0] [(0, 1, .c (.int .i64 0)), (1, 1, .c (.int .i64 9))], some (36, true), []⟩,
  ⟨some 40, .build [.int .i64 0, .int .i64 0] [], some (36, true), []⟩,
  ⟨some 41, .build [.int .i64 0, .int .i64 0] [], some (36, true), []⟩,
  ⟨some 42, .build [.int .i64 0, .int .i64 0] [], some (36, true), []⟩,
  ⟨some 43, .build [.int .i64 0, .int .i64 0] [(0, 1, .c (.int .i64 0)), (1, 1, .c (.int .i64 9))], some (36, true), []⟩,
  ⟨some 44, .build [.int .i64 0, .int .i64 0, .int .i64 0, .int .i64 0, .int .i64 0, .int .i64 0, .int .i64 0, .int .i64 0, .int .i64 0, .int .i64 0] [(0, 2, .t 39), (2, 2, .t 40), (4, 2, .t 41), (6, 2, .t 42), (8, 2, .t 43)], some (36, true), []⟩,
  ⟨some 45, .eqa false [false, false, false, false, false, false, false, false, false, false] (.t 38) (.t 44), some (36, true), []⟩,
  ⟨some 46, .pick (.t 36) (.t 45) (.c (.bool false)), none, []⟩,
  ⟨some 0, .mv (.t 46), none, []⟩] [0]
def c7_7 : ACode := .seq c7_6 .ret
def c7_8 : ACode := .seq c7_5 c7_7
def c7_9 : ACode := .seq c7_4 c7_8
def c7_10 : ACode := .seq c7_3 c7_9
def c7_11 : ACode := .seq c7_2 c7_10
def c7_12 : ACode := .seq c7_1 c7_11
def c7_13 : ACode := .seq c7_0 c7_12
def a7 : AFun := ⟨0, 47, c7_13, [.t 0]⟩
theorem m7 : mFun Try.prog Try.f7 a7 = true := by decide +kernel
/- copse/copsekeep.Three -/
def c43_0 : ACode := .ops [⟨some 0, .alloc [.int .i64 0, .int .i64 0, .int .i64 0, .int .i64 0, .int .i64 0, .nils], none, []⟩] [0]
def c43_1 : ACode := .ops [⟨some 2, .build [.bool false, .int .i64 0, .int .i64 0, .int .i64 0, .int .i64 0, .int .i64 0] [(3, 1, .c (.int .i64 5)), (4, 1, .c (.int .i64 1)), (5, 1, .c (.int .i64 2))], none, []⟩,
  ⟨some 3, .call 111 [.t 2], none, []⟩,
  ⟨some 4, .build [.bool false, .int .i64 0, .int .i64 0, .int .i64 0, .int .i64 0, .int .i64 0] [(0, 1, .c (.bool true)), (1, 1, .c (.int .i64 10))], none, []⟩,
  ⟨some 5, .call 111 [.t 4], none, []⟩,
  ⟨some 6, .build [.bool false, .int .i64 0, .int .i64 0, .int .i64 0, .int .i64 0, .int .i64 0] [(0, 1, .c (.bool true)), (1, 1, .c (.int .i64 20))], none, []⟩,
  ⟨some 7, .call 111 [.t 6], none, []⟩,
  ⟨some 8, .mkrow 1 3 1 [.int .u64 0] [(0, 1, .t 3), (1, 1, .t 5), (2, 1, .t 7)], none, []⟩,
  ⟨some 1, .mv (.t 8), none, []⟩] [0, 1]
def c43_2 : ACode := .ops [⟨some 9, .build [.int .i64 0, .int .i64 0, .int .i64 0] [(0, 1, .c (.int .i64 3))], none, []⟩,
  ⟨some 10, .mv (.t 1), none, []⟩,
  ⟨some 11, .build [.int .i64 0, .nils] [(1, 1, .t 10)], none, []⟩,
  ⟨some 12, .mkrow 12 1 2 [.int .i64 0, .nils] [(0, 2, .t 11)], none, []⟩,
  ⟨some 13, .build [.int .i64 0, .int .i64 0, .int .i64 0, .int .i64 0, .int .i64 0, .nils] [(0, 1, .c (.int .i64 1)), (1, 1, .c (.int .i64 1)), (2, 3, .t 9), (5, 1, .t 12)], none, []⟩,
  ⟨none, .store (.t 0) 6 (.t 13), none, [0]⟩] [0]
def c43_3 : ACode := .seq c43_2 .ret
def c43_4 : ACode := .seq c43_1 c43_3
def c43_5 : ACode := .seq c43_0 c43_4
def a43 : AFun := ⟨0, 14, c43_5, [.cell 0 6 true]⟩
theorem m43 : mFun Try.prog Try.f43 a43 = true := by decide +kernel
def texts7 : List (Nat × AFun) := [(7, a7), (43, a43), (56, a56), (57, a57), (58, a58), (64, a64), (69, a69), (71, a71), (76, a76), (77, a77), (99, a99), (111, a111), (115, a115), (116, a116), (117, a117), (118, a118), (119, a119), (121, a121), (122, a122), (123, a123), (124, a124), (125, a125), (128, a128), (129, a129), (130, a130), (131, a131), (148, a148), (156, a156), (160, a160), (161, a161), (162, a162), (163, a163), (164, a164), (165, a165), (176, a176)]
theorem texts7_good : Go.Am.Good Try.prog texts7 :=
  good_cons Try.func7 m7 <| good_cons Try.func43 m43 <| good_cons Try.func56 m56 <| good_cons Try.func57 m57 <| good_cons Try.func58 m58 <| good_cons Try.func64 m64 <| good_cons Try.func69 m69 <| good_cons Try.func71 m71 <| good_cons Try.func76 m76 <| good_cons Try.func77 m77 <| good_cons Try.func99 m99 <| good_cons Try.func111 m111 <| good_cons Try.func115 m115 <| good_cons Try.func116 m116 <| good_cons Try.func117 m117 <| good_cons Try.func118 m118 <| good_cons Try.func119 m119 <| good_cons Try.func121 m121 <| good_cons Try.func122 m122 <| good_cons Try.func123 m123 <| good_cons Try.func124 m124 <| good_cons Try.func125 m125 <| good_cons Try.func128 m128 <| good_cons Try.func129 m129 <| good_cons Try.func130 m130 <| good_cons Try.func131 m131 <| good_cons Try.func148 m148 <| good_cons Try.func156 m156 <| good_cons Try.func160 m160 <| good_cons Try.func161 m161 <| good_cons Try.func162 m162 <| good_cons Try.func163 m163 <| good_cons Try.func164 m164 <| good_cons Try.func165 m165 <| good_cons Try.func176 m176 <| good_nil
theorem c_closed7 : Contract Try.prog 7 (sp0 (some true)) := contract_closed mixed texts7_good (m := 1000) (n := 60) (by decide +kernel)


theorem unbeaten {m : Model} {q : Query} {p : Point} (h : beaten m q p = false) (c : Int) (h0 : 0 ≤ c) (h1 : c < m.classes) (hc : c ≠ q.cls) : evalM m c p < evalM m q.cls p := by
  unfold beaten at h
  rw [List.any_eq_false] at h
  have := h c.toNat (by rw [List.mem_range]; omega)
  have e : ((c.toNat : Nat) : Int) = c := by omega
  rw [e] at this
  simp only [Bool.and_eq_true, decide_eq_true_eq, not_and] at this
  have := this hc
  omega
theorem ok_made {m : Model} {q : Query} (h : okQuery m q = true) (kind cls lo hi : Int) (falls : Bool) (h0 : 0 ≤ cls) (h1 : cls < m.classes)
    (hk : okKind m ⟨kind, cls, q.region, lo, hi, 0, falls, 0⟩ = true) : okQuery m ⟨kind, cls, q.region, lo, hi, 0, falls, 0⟩ = true := by
  have hs := okQuery_spec h
  unfold okQuery
  simp only [Bool.and_eq_true, decide_eq_true_eq]
  exact ⟨⟨⟨⟨⟨h0, h1⟩, by omega⟩, by omega⟩, hs.2.2.2.2.1⟩, hk⟩

set_option maxHeartbeats 16000000 in
set_option maxRecDepth 100000 in
theorem runs_law (f : Forest) (a : Ask) (p : Point) (t c_ : Int) (c : Bool) (h : some true = some c) : Runs (tbl [(45, sp1 ModelC), (59, sp2 QueryC), (56, sp2 QRight), (63, sp3 Within), (69, sp3 Eval), (57, sp4 BreaksC), (78, sp2 BestC), (64, sp3 fun q p t => some (secondOf q p t)), (7, sp0 (some true))]) a17 [Arg.enc f, Arg.enc a, Arg.enc p, Arg.enc t, Arg.enc c_] (Arg.enc c) := by
  cases h
  refine ⟨rfl, fun g => run_def ?_⟩
  unfold a17
  have hm := rm_modelOf f
  have hM : ModelC f = some (modelOf f) := rfl
  generalize modelOf f = m at *
  have hq := ok_queryOf m a hm
  have hQ : QueryC a m = some (queryOf m a) := part_of ⟨hm.dim.1, hm.dim.2, hm.classes.1, hm.classes.2⟩ _
  have hd := hm.dim
  have hcl := hm.classes
  generalize queryOf m a = q at *
  have hR : QRight m q = some true := by unfold QRight; rw [if_neg (by omega), part_of hm, hq]
  have wd : IntKind.i64.wrap (m.classes - 1) = m.classes - 1 := wrap64 (by omega) (by omega)
  have hW := within_of c_ 0 (m.classes - 1) (by omega)
  have hw := within_le c_ 0 (m.classes - 1) (by omega)
  generalize within c_ 0 (m.classes - 1) = k at *
  have hE := eval_of hm hw.1 (show k < m.classes by omega) p
  have gE := evalM_le hm k p
  have okb : ∀ (kind lo hi : Int) (falls : Bool), okKind m ⟨kind, k, q.region, lo, hi, 0, falls, 0⟩ = true → okQuery m ⟨kind, k, q.region, lo, hi, 0, falls, 0⟩ = true := fun kind lo hi falls hk => ok_made hq kind k lo hi falls hw.1 (by omega) hk
  have hBC : ∀ q' p t, BreaksC m q' p t = some (breaks m q' p t) := fun q' p t => part_of hm _
  have i1 : BreaksC m ⟨1, k, q.region, evalM m k p, evalM m k p, 0, false, 0⟩ p t = some false := by
    rw [hBC]
    congr 1
    unfold breaks
    rw [if_pos (okb 1 _ _ false (by simp [okKind]))]
    simp [Span.has]
  have i2 : BreaksC m ⟨1, k, q.region, evalM m k p + 1, evalM m k p + 2, 0, false, 0⟩ p t = some true := by
    rw [hBC]
    congr 1
    unfold breaks
    rw [if_pos (okb 1 _ _ false (by simp [okKind]; try omega))]
    simp [Span.has]
    omega
  have hup : secondOf ⟨3, k, q.region, 0, 0, 0, false, 0⟩ p t = ⟨t, p.p1, p.p2, p.p3⟩ := rfl
  have hE2 := eval_of hm hw.1 (show k < m.classes by omega) ⟨t, p.p1, p.p2, p.p3⟩
  have u1 : BreaksC m ⟨3, k, q.region, 0, 0, 0, false, 0⟩ p t = some (decide (p.p0 < t) && decide (evalM m k ⟨t, p.p1, p.p2, p.p3⟩ < evalM m k p)) := by
    rw [hBC]
    congr 1
    unfold breaks
    rw [if_pos (okb 3 _ _ false (by simp [okKind]; try omega))]
    by_cases hh : p.p0 < t
    · simp [Point.get, hh, secondOf, paired, Point.set]
    · simp [Point.get, hh]
  have u2 : BreaksC m ⟨3, k, q.region, 0, 0, 0, true, 0⟩ p t = some (decide (p.p0 < t) && decide (evalM m k p < evalM m k ⟨t, p.p1, p.p2, p.p3⟩)) := by
    rw [hBC]
    congr 1
    unfold breaks
    rw [if_pos (okb 3 _ _ true (by simp [okKind]; try omega))]
    by_cases hh : p.p0 < t
    · simp [Point.get, hh, secondOf, paired, Point.set]
    · simp [Point.get, hh]
  have w1 : IntKind.i64.wrap (evalM m k p + 1) = evalM m k p + 1 := wrap64 (by omega) (by omega)
  have w2 : IntKind.i64.wrap (evalM m k p + 2) = evalM m k p + 2 := wrap64 (by omega) (by omega)
  have hbest : ∀ j : Int, 0 ≤ j → j < m.classes → 2 ≤ m.classes → ∃ b, BreaksC m ⟨2, j, q.region, 0, 0, 0, false, 0⟩ p t = some b ∧ (b = false → ∀ i : Int, 0 ≤ i → i < m.classes → i ≠ j → evalM m i p < evalM m j p) := by
    intro j h0 h1 h2
    refine ⟨_, hBC _ _ _, fun hb => ?_⟩
    unfold breaks at hb
    rw [if_pos (ok_made hq 2 j 0 0 false h0 h1 (by simp [okKind]; try omega))] at hb
    simp only [Int.reduceEq, if_false, if_true, reduceIte] at hb
    exact fun i i0 i1 i2 => unbeaten hb i i0 i1 i2
  have hB : BestC m p = some (bestM m p) := part_of hm _
  obtain ⟨B, hBd⟩ : ∃ B, B = bestM m p := ⟨_, rfl⟩
  rw [← hBd] at hB
  unfold bestM at hBd
  have hfin : ∀ (x y : Int), (decide (p.p0 < t) && decide (y < x) || decide (p.p0 < t) && decide (x < y)) = (decide (p.p0 < t) && decide (x ≠ y)) := by
    intro x y
    by_cases hh : p.p0 < t <;> by_cases h1 : x < y <;> by_cases h2 : y < x <;> simp [hh, h1, h2] <;> omega
  clear hBC hup okb
  generalize hx : evalM m k p = x at *
  generalize hy : evalM m k ⟨t, p.p1, p.p2, p.p3⟩ = y at *
  have hb0 := hbest 0 (by omega)
  have hb1 := hbest 1 (by omega)
  have hb2 := hbest 2 (by omega)
  clear hbest
  obtain ⟨dim, classes, bias, trees⟩ := m
  simp only at hcl hb0 hb1 hb2 hBd hd
  have hsec : ∀ cls : Int, secondOf ⟨3, cls, q.region, 0, 0, 0, false, 0⟩ p t = ⟨t, p.p1, p.p2, p.p3⟩ := fun _ => rfl
  have hcs : classes = 1 ∨ classes = 2 ∨ classes = 3 := by omega
  rcases hcs with rfl | rfl | rfl
  · skip
    have hW : Within c_ 0 0 = some k := hW
    simp -implicitDefEqProofs [hM, hQ, hR, wd, hW, hE, hE2, i1, i2, w1, w2, hB, hsec]
    rw [run_round]
    simp -implicitDefEqProofs [hM, hQ, hR, wd, hW, hE, hE2, i1, i2, w1, w2, hB, hsec]
    by_cases hh : p.p0 < t <;> by_cases h1 : x < y <;> by_cases h2 : y < x
    all_goals first | (exfalso; omega) | skip
    all_goals
      have h3 : decide (x = y) = decide (¬ x < y ∧ ¬ y < x) := by rw [decide_eq_decide]; omega
      simp -implicitDefEqProofs [u1, u2, hh, h1, h2, h3]
  · skip
    have hW : Within c_ 0 1 = some k := hW
    obtain ⟨b0, r0, n0⟩ := hb0 (by decide) (by decide)
    obtain ⟨b1, r1, n1⟩ := hb1 (by decide) (by decide)
    have m01 : b0 = false → evalM ⟨dim, 2, bias, trees⟩ 1 p < evalM ⟨dim, 2, bias, trees⟩ 0 p := fun h => n0 h 1 (by decide) (by decide) (by decide)
    have m10 : b1 = false → evalM ⟨dim, 2, bias, trees⟩ 0 p < evalM ⟨dim, 2, bias, trees⟩ 1 p := fun h => n1 h 0 (by decide) (by decide) (by decide)
    generalize evalM ⟨dim, 2, bias, trees⟩ 0 p = e0 at *
    generalize evalM ⟨dim, 2, bias, trees⟩ 1 p = e1 at *
    simp only [Int.reduceEq, if_true, if_false, reduceIte] at hBd
    cases b0 <;> cases b1 <;> simp only [true_implies, reduceCtorEq, false_implies] at m01 m10
    · exfalso; omega
    · have hBj : B = 0 := by rw [hBd]; repeat (first | omega | split)
      simp -implicitDefEqProofs [hM, hQ, hR, wd, hW, hE, hE2, i1, i2, w1, w2, hB, hsec, r0, r1, hBj]
      rw [run_round]
      simp -implicitDefEqProofs [hM, hQ, hR, wd, hW, hE, hE2, i1, i2, w1, w2, hB, hsec, r0, r1, hBj]
      rw [run_round]
      simp -implicitDefEqProofs [hM, hQ, hR, wd, hW, hE, hE2, i1, i2, w1, w2, hB, hsec, r0, r1, hBj]
      rw [run_round]
      simp -implicitDefEqProofs [hM, hQ, hR, wd, hW, hE, hE2, i1, i2, w1, w2, hB, hsec, r0, r1, hBj]
      by_cases hh : p.p0 < t <;> by_cases h1 : x < y <;> by_cases h2 : y < x
      all_goals first | (exfalso; omega) | skip
      all_goals
        have h3 : decide (x = y) = decide (¬ x < y ∧ ¬ y < x) := by rw [decide_eq_decide]; omega
        simp -implicitDefEqProofs [u1, u2, hh, h1, h2, h3]
    · have hBj : B = 1 := by rw [hBd]; repeat (first | omega | split)
      simp -implicitDefEqProofs [hM, hQ, hR, wd, hW, hE, hE2, i1, i2, w1, w2, hB, hsec, r0, r1, hBj]
      rw [run_round]
      simp -implicitDefEqProofs [hM, hQ, hR, wd, hW, hE, hE2, i1, i2, w1, w2, hB, hsec, r0, r1, hBj]
      rw [run_round]
      simp -implicitDefEqProofs [hM, hQ, hR, wd, hW, hE, hE2, i1, i2, w1, w2, hB, hsec, r0, r1, hBj]
      rw [run_round]
      simp -implicitDefEqProofs [hM, hQ, hR, wd, hW, hE, hE2, i1, i2, w1, w2, hB, hsec, r0, r1, hBj]
      by_cases hh : p.p0 < t <;> by_cases h1 : x < y <;> by_cases h2 : y < x
      all_goals first | (exfalso; omega) | skip
      all_goals
        have h3 : decide (x = y) = decide (¬ x < y ∧ ¬ y < x) := by rw [decide_eq_decide]; omega
        simp -implicitDefEqProofs [u1, u2, hh, h1, h2, h3]
    · skip
      simp -implicitDefEqProofs [hM, hQ, hR, wd, hW, hE, hE2, i1, i2, w1, w2, hB, hsec, r0, r1]
      rw [run_round]
      simp -implicitDefEqProofs [hM, hQ, hR, wd, hW, hE, hE2, i1, i2, w1, w2, hB, hsec, r0, r1]
      rw [run_round]
      simp -implicitDefEqProofs [hM, hQ, hR, wd, hW, hE, hE2, i1, i2, w1, w2, hB, hsec, r0, r1]
      rw [run_round]
      simp -implicitDefEqProofs [hM, hQ, hR, wd, hW, hE, hE2, i1, i2, w1, w2, hB, hsec, r0, r1]
      by_cases hh : p.p0 < t <;> by_cases h1 : x < y <;> by_cases h2 : y < x
      all_goals first | (exfalso; omega) | skip
      all_goals
        have h3 : decide (x = y) = decide (¬ x < y ∧ ¬ y < x) := by rw [decide_eq_decide]; omega
        simp -implicitDefEqProofs [u1, u2, hh, h1, h2, h3]
  · skip
    have hW : Within c_ 0 2 = some k := hW
    obtain ⟨b0, r0, n0⟩ := hb0 (by decide) (by decide)
    obtain ⟨b1, r1, n1⟩ := hb1 (by decide) (by decide)
    obtain ⟨b2, r2, n2⟩ := hb2 (by decide) (by decide)
    have m01 : b0 = false → evalM ⟨dim, 3, bias, trees⟩ 1 p < evalM ⟨dim, 3, bias, trees⟩ 0 p := fun h => n0 h 1 (by decide) (by decide) (by decide)
    have m02 : b0 = false → evalM ⟨dim, 3, bias, trees⟩ 2 p < evalM ⟨dim, 3, bias, trees⟩ 0 p := fun h => n0 h 2 (by decide) (by decide) (by decide)
    have m10 : b1 = false → evalM ⟨dim, 3, bias, trees⟩ 0 p < evalM ⟨dim, 3, bias, trees⟩ 1 p := fun h => n1 h 0 (by decide) (by decide) (by decide)
    have m12 : b1 = false → evalM ⟨dim, 3, bias, trees⟩ 2 p < evalM ⟨dim, 3, bias, trees⟩ 1 p := fun h => n1 h 2 (by decide) (by decide) (by decide)
    have m20 : b2 = false → evalM ⟨dim, 3, bias, trees⟩ 0 p < evalM ⟨dim, 3, bias, trees⟩ 2 p := fun h => n2 h 0 (by decide) (by decide) (by decide)
    have m21 : b2 = false → evalM ⟨dim, 3, bias, trees⟩ 1 p < evalM ⟨dim, 3, bias, trees⟩ 2 p := fun h => n2 h 1 (by decide) (by decide) (by decide)
    generalize evalM ⟨dim, 3, bias, trees⟩ 0 p = e0 at *
    generalize evalM ⟨dim, 3, bias, trees⟩ 1 p = e1 at *
    generalize evalM ⟨dim, 3, bias, trees⟩ 2 p = e2 at *
    simp only [Int.reduceEq, if_true, if_false, reduceIte] at hBd
    cases b0 <;> cases b1 <;> cases b2 <;> simp only [true_implies, reduceCtorEq, false_implies] at m01 m02 m10 m12 m20 m21
    · exfalso; omega
    · exfalso; omega
    · exfalso; omega
    · have hBj : B = 0 := by rw [hBd]; repeat (first | omega | split)
      simp -implicitDefEqProofs [hM, hQ, hR, wd, hW, hE, hE2, i1, i2, w1, w2, hB, hsec, r0, r1, r2, hBj]
      rw [run_round]
      simp -implicitDefEqProofs [hM, hQ, hR, wd, hW, hE, hE2, i1, i2, w1, w2, hB, hsec, r0, r1, r2, hBj]
      rw [run_round]
      simp -implicitDefEqProofs [hM, hQ, hR, wd, hW, hE, hE2, i1, i2, w1, w2, hB, hsec, r0, r1, r2, hBj]
      rw [run_round]
      simp -implicitDefEqProofs [hM, hQ, hR, wd, hW, hE, hE2, i1, i2, w1, w2, hB, hsec, r0, r1, r2, hBj]
      rw [run_round]
      simp -implicitDefEqProofs [hM, hQ, hR, wd, hW, hE, hE2, i1, i2, w1, w2, hB, hsec, r0, r1, r2, hBj]
      by_cases hh : p.p0 < t <;> by_cases h1 : x < y <;> by_cases h2 : y < x
      all_goals first | (exfalso; omega) | skip
      all_goals
        have h3 : decide (x = y) = decide (¬ x < y ∧ ¬ y < x) := by rw [decide_eq_decide]; omega
        simp -implicitDefEqProofs [u1, u2, hh, h1, h2, h3]
    · exfalso; omega
    · have hBj : B = 1 := by rw [hBd]; repeat (first | omega | split)
      simp -implicitDefEqProofs [hM, hQ, hR, wd, hW, hE, hE2, i1, i2, w1, w2, hB, hsec, r0, r1, r2, hBj]
      rw [run_round]
      simp -implicitDefEqProofs [hM, hQ, hR, wd, hW, hE, hE2, i1, i2, w1, w2, hB, hsec, r0, r1, r2, hBj]
      rw [run_round]
      simp -implicitDefEqProofs [hM, hQ, hR, wd, hW, hE, hE2, i1, i2, w1, w2, hB, hsec, r0, r1, r2, hBj]
      rw [run_round]
      simp -implicitDefEqProofs [hM, hQ, hR, wd, hW, hE, hE2, i1, i2, w1, w2, hB, hsec, r0, r1, r2, hBj]
      rw [run_round]
      simp -implicitDefEqProofs [hM, hQ, hR, wd, hW, hE, hE2, i1, i2, w1, w2, hB, hsec, r0, r1, r2, hBj]
      by_cases hh : p.p0 < t <;> by_cases h1 : x < y <;> by_cases h2 : y < x
      all_goals first | (exfalso; omega) | skip
      all_goals
        have h3 : decide (x = y) = decide (¬ x < y ∧ ¬ y < x) := by rw [decide_eq_decide]; omega
        simp -implicitDefEqProofs [u1, u2, hh, h1, h2, h3]
    · have hBj : B = 2 := by rw [hBd]; repeat (first | omega | split)
      simp -implicitDefEqProofs [hM, hQ, hR, wd, hW, hE, hE2, i1, i2, w1, w2, hB, hsec, r0, r1, r2, hBj]
      rw [run_round]
      simp -implicitDefEqProofs [hM, hQ, hR, wd, hW, hE, hE2, i1, i2, w1, w2, hB, hsec, r0, r1, r2, hBj]
      rw [run_round]
      simp -implicitDefEqProofs [hM, hQ, hR, wd, hW, hE, hE2, i1, i2, w1, w2, hB, hsec, r0, r1, r2, hBj]
      rw [run_round]
      simp -implicitDefEqProofs [hM, hQ, hR, wd, hW, hE, hE2, i1, i2, w1, w2, hB, hsec, r0, r1, r2, hBj]
      rw [run_round]
      simp -implicitDefEqProofs [hM, hQ, hR, wd, hW, hE, hE2, i1, i2, w1, w2, hB, hsec, r0, r1, r2, hBj]
      by_cases hh : p.p0 < t <;> by_cases h1 : x < y <;> by_cases h2 : y < x
      all_goals first | (exfalso; omega) | skip
      all_goals
        have h3 : decide (x = y) = decide (¬ x < y ∧ ¬ y < x) := by rw [decide_eq_decide]; omega
        simp -implicitDefEqProofs [u1, u2, hh, h1, h2, h3]
    · skip
      simp -implicitDefEqProofs [hM, hQ, hR, wd, hW, hE, hE2, i1, i2, w1, w2, hB, hsec, r0, r1, r2]
      rw [run_round]
      simp -implicitDefEqProofs [hM, hQ, hR, wd, hW, hE, hE2, i1, i2, w1, w2, hB, hsec, r0, r1, r2]
      rw [run_round]
      simp -implicitDefEqProofs [hM, hQ, hR, wd, hW, hE, hE2, i1, i2, w1, w2, hB, hsec, r0, r1, r2]
      rw [run_round]
      simp -implicitDefEqProofs [hM, hQ, hR, wd, hW, hE, hE2, i1, i2, w1, w2, hB, hsec, r0, r1, r2]
      rw [run_round]
      simp -implicitDefEqProofs [hM, hQ, hR, wd, hW, hE, hE2, i1, i2, w1, w2, hB, hsec, r0, r1, r2]
      by_cases hh : p.p0 < t <;> by_cases h1 : x < y <;> by_cases h2 : y < x
      all_goals first | (exfalso; omega) | skip
      all_goals
        have h3 : decide (x = y) = decide (¬ x < y ∧ ¬ y < x) := by rw [decide_eq_decide]; omega
        simp -implicitDefEqProofs [u1, u2, hh, h1, h2, h3]
def law_sp : List AV → Option AV := sp5 fun (_ : Forest) (_ : Ask) (_ : Point) (_ _ : Int) => some true
theorem law_holds : Contract Try.prog 17 law_sp :=
  contract_of_runs mixed (tbl_cons c_Model (tbl_cons c_Query (tbl_cons c_qRight (tbl_cons c_Within (tbl_cons c_Eval (tbl_cons c_Breaks (tbl_cons c_Best (tbl_cons c_Second (tbl_cons c_closed7 tbl_nil))))))))) Try.func17 m17 (sp5_runs runs_law)
theorem law_says (f : Forest) (a : Ask) (p : Point) (x y : Int) : law_sp [Arg.enc f, Arg.enc a, Arg.enc p, Arg.enc x, Arg.enc y] = some (.bool true) := by
  simp only [law_sp, sp5, Arg.dec_enc, Option.bind_some]
  rfl
end Go.Co
