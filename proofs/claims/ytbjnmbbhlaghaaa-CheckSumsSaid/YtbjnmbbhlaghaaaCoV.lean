/- CO: the checker's own bounds. -/
import Derived.Test.YtbjnmbbhlaghaaaCoM
namespace Go.Co
open Go.Am Go.Proofs
set_option linter.unusedSimpArgs false
set_option linter.unusedVariables false

/- copse/check.ends -/
def c143_0 : ACode := .ops [⟨some 3, .box (.t 1) 10, none, []⟩,
  ⟨some 4, .mv (.c (.int .i64 0)), none, []⟩,
  ⟨some 5, .mv (.c (.int .i64 0)), none, []⟩] [0, 3]
theorem r143_0 {C : Cs} {k : List Fr} {s : St} {Q : Post} : run C c143_0 k s Q = run C (.ops [⟨some 3, .box (.t 1) 10, none, []⟩,
  ⟨some 4, .mv (.c (.int .i64 0)), none, []⟩,
  ⟨some 5, .mv (.c (.int .i64 0)), none, []⟩] [0, 3]) k s Q := rfl
def c143_1 : ACode := .ops [⟨some 6, .mv (.c (.int .i64 0)), none, []⟩,
  ⟨some 7, .mv (.c (.int .i64 0)), none, []⟩,
  ⟨some 8, .mv (.c (.bool false)), none, []⟩] [0, 3, 6, 7, 8]
theorem r143_1 {C : Cs} {k : List Fr} {s : St} {Q : Post} : run C c143_1 k s Q = run C (.ops [⟨some 6, .mv (.c (.int .i64 0)), none, []⟩,
  ⟨some 7, .mv (.c (.int .i64 0)), none, []⟩,
  ⟨some 8, .mv (.c (.bool false)), none, []⟩] [0, 3, 6, 7, 8]) k s Q := rfl
def c143_2 : ACode := .ops [⟨some 15, .load 10 true (.t 3), none, [3]⟩,
  ⟨some 16, .build [.int .i64 0, .int .i64 0, .int .i64 0, .int .i64 0, .int .i64 0, .int .i64 0, .int .i64 0, .int .i64 0, .int .i64 0, .int .i64 0, .int .i64 0] [(0, 1, .c (.int .i64 0)), (1, 10, .t 15)], none, []⟩,
  ⟨some 17, .mkrow 9 1 11 [.int .i64 0, .int .i64 0, .int .i64 0, .int .i64 0, .int .i64 0, .int .i64 0, .int .i64 0, .int .i64 0, .int .i64 0, .int .i64 0, .int .i64 0] [(0, 11, .t 16)], none, []⟩,
  ⟨some 9, .mv (.t 17), none, []⟩] [0, 6, 7, 8, 9]
theorem r143_2 {C : Cs} {k : List Fr} {s : St} {Q : Post} : run C c143_2 k s Q = run C (.ops [⟨some 15, .load 10 true (.t 3), none, [3]⟩,
  ⟨some 16, .build [.int .i64 0, .int .i64 0, .int .i64 0, .int .i64 0, .int .i64 0, .int .i64 0, .int .i64 0, .int .i64 0, .int .i64 0, .int .i64 0, .int .i64 0] [(0, 1, .c (.int .i64 0)), (1, 10, .t 15)], none, []⟩,
  ⟨some 17, .mkrow 9 1 11 [.int .i64 0, .int .i64 0, .int .i64 0, .int .i64 0, .int .i64 0, .int .i64 0, .int .i64 0, .int .i64 0, .int .i64 0, .int .i64 0, .int .i64 0] [(0, 11, .t 16)], none, []⟩,
  ⟨some 9, .mv (.t 17), none, []⟩] [0, 6, 7, 8, 9]) k s Q := rfl
def c143_3 : ACode := .ops [⟨some 18, .mv (.t 9), none, []⟩,
  ⟨some 19, .len (.t 18), none, [9]⟩,
  ⟨some 20, .bin .gtr (.t 19) (.c (.int .i64 0)), none, []⟩] [0, 6, 7, 8, 9, 20]
theorem r143_3 {C : Cs} {k : List Fr} {s : St} {Q : Post} : run C c143_3 k s Q = run C (.ops [⟨some 18, .mv (.t 9), none, []⟩,
  ⟨some 19, .len (.t 18), none, [9]⟩,
  ⟨some 20, .bin .gtr (.t 19) (.c (.int .i64 0)), none, []⟩] [0, 6, 7, 8, 9, 20]) k s Q := rfl
def c143_4 : ACode := .cond (.t 20) .skip (.exit 0)
theorem r143_4 {C : Cs} {k : List Fr} {s : St} {Q : Post} : run C c143_4 k s Q = run C (.cond (.t 20) .skip (.exit 0)) k s Q := rfl
def c143_5 : ACode := .seq c143_3 c143_4
theorem r143_5 {C : Cs} {k : List Fr} {s : St} {Q : Post} : run C c143_5 k s Q = run C (.seq c143_3 c143_4) k s Q := rfl
def c143_6 : ACode := .ops [⟨some 21, .mv (.t 9), none, []⟩,
  ⟨some 22, .mv (.t 9), none, []⟩,
  ⟨some 23, .len (.t 22), none, [9]⟩,
  ⟨some 24, .bin .sub (.t 23) (.c (.int .i64 1)), none, []⟩,
  ⟨some 25, .ias (.t 21) (.t 24) 11, none, [9]⟩,
  ⟨some 26, .load 11 true (.t 25), none, [9]⟩,
  ⟨some 10, .alloc [.int .i64 0, .int .i64 0, .int .i64 0, .int .i64 0, .int .i64 0, .int .i64 0, .int .i64 0, .int .i64 0, .int .i64 0, .int .i64 0, .int .i64 0], none, []⟩,
  ⟨none, .store (.t 10) 11 (.t 26), none, [10]⟩] [0, 6, 7, 8, 9, 10]
theorem r143_6 {C : Cs} {k : List Fr} {s : St} {Q : Post} : run C c143_6 k s Q = run C (.ops [⟨some 21, .mv (.t 9), none, []⟩,
  ⟨some 22, .mv (.t 9), none, []⟩,
  ⟨some 23, .len (.t 22), none, [9]⟩,
  ⟨some 24, .bin .sub (.t 23) (.c (.int .i64 1)), none, []⟩,
  ⟨some 25, .ias (.t 21) (.t 24) 11, none, [9]⟩,
  ⟨some 26, .load 11 true (.t 25), none, [9]⟩,
  ⟨some 10, .alloc [.int .i64 0, .int .i64 0, .int .i64 0, .int .i64 0, .int .i64 0, .int .i64 0, .int .i64 0, .int .i64 0, .int .i64 0, .int .i64 0, .int .i64 0], none, []⟩,
  ⟨none, .store (.t 10) 11 (.t 26), none, [10]⟩] [0, 6, 7, 8, 9, 10]) k s Q := rfl
def c143_7 : ACode := .ops [⟨some 27, .mv (.t 9), none, []⟩,
  ⟨some 28, .mv (.t 9), none, []⟩,
  ⟨some 29, .len (.t 28), none, [9]⟩,
  ⟨some 30, .bin .sub (.t 29) (.c (.int .i64 1)), none, []⟩,
  ⟨some 31, .sl (.t 27) none (some (.t 30)) 11, none, [9]⟩,
  ⟨some 9, .mv (.t 31), none, []⟩] [0, 6, 7, 8, 9, 10]
theorem r143_7 {C : Cs} {k : List Fr} {s : St} {Q : Post} : run C c143_7 k s Q = run C (.ops [⟨some 27, .mv (.t 9), none, []⟩,
  ⟨some 28, .mv (.t 9), none, []⟩,
  ⟨some 29, .len (.t 28), none, [9]⟩,
  ⟨some 30, .bin .sub (.t 29) (.c (.int .i64 1)), none, []⟩,
  ⟨some 31, .sl (.t 27) none (some (.t 30)) 11, none, [9]⟩,
  ⟨some 9, .mv (.t 31), none, []⟩] [0, 6, 7, 8, 9, 10]) k s Q := rfl
def c143_8 : ACode := .ops [⟨some 33, .mv (.t 0), none, []⟩,
  ⟨some 34, .fad (.t 10) 0, none, [10]⟩,
  ⟨some 35, .load 1 false (.t 34), none, [10]⟩,
  ⟨some 36, .ias (.t 33) (.t 35) 1, none, []⟩,
  ⟨some 37, .load 1 false (.t 36), none, []⟩,
  ⟨some 38, .call 77 [.t 37], none, []⟩,
  ⟨some 32, .mv (.t 38), none, []⟩,
  ⟨some 39, .ext (.t 32) 0, none, []⟩,
  ⟨some 40, .ext (.t 32) 1, none, []⟩,
  ⟨some 11, .alloc [.bool false, .int .i64 0, .int .i64 0, .int .i64 0, .int .i64 0, .int .i64 0], none, []⟩,
  ⟨none, .store (.t 11) 6 (.t 39), none, [11]⟩,
  ⟨some 12, .mv (.t 40), none, []⟩] [0, 6, 7, 8, 9, 10, 11, 12]
theorem r143_8 {C : Cs} {k : List Fr} {s : St} {Q : Post} : run C c143_8 k s Q = run C (.ops [⟨some 33, .mv (.t 0), none, []⟩,
  ⟨some 34, .fad (.t 10) 0, none, [10]⟩,
  ⟨some 35, .load 1 false (.t 34), none, [10]⟩,
  ⟨some 36, .ias (.t 33) (.t 35) 1, none, []⟩,
  ⟨some 37, .load 1 false (.t 36), none, []⟩,
  ⟨some 38, .call 77 [.t 37], none, []⟩,
  ⟨some 32, .mv (.t 38), none, []⟩,
  ⟨some 39, .ext (.t 32) 0, none, []⟩,
  ⟨some 40, .ext (.t 32) 1, none, []⟩,
  ⟨some 11, .alloc [.bool false, .int .i64 0, .int .i64 0, .int .i64 0, .int .i64 0, .int .i64 0], none, []⟩,
  ⟨none, .store (.t 11) 6 (.t 39), none, [11]⟩,
  ⟨some 12, .mv (.t 40), none, []⟩] [0, 6, 7, 8, 9, 10, 11, 12]) k s Q := rfl
def c143_9 : ACode := .ops [⟨some 41, .mv (.t 12), none, []⟩,
  ⟨some 42, .un .not (.t 41), none, []⟩,
  ⟨some 43, .mv (.t 42), none, []⟩,
  ⟨some 44, .fad (.t 10) 1, some (43, false), [10]⟩,
  ⟨some 45, .load 10 true (.t 44), some (43, false), [10]⟩,
  ⟨some 46, .call 68 [.t 45], some (43, false), []⟩,
  ⟨some 47, .pick (.t 43) (.c (.bool true)) (.t 46), none, []⟩] [0, 6, 7, 8, 9, 10, 11, 47]
theorem r143_9 {C : Cs} {k : List Fr} {s : St} {Q : Post} : run C c143_9 k s Q = run C (.ops [⟨some 41, .mv (.t 12), none, []⟩,
  ⟨some 42, .un .not (.t 41), none, []⟩,
  ⟨some 43, .mv (.t 42), none, []⟩,
  ⟨some 44, .fad (.t 10) 1, some (43, false), [10]⟩,
  ⟨some 45, .load 10 true (.t 44), some (43, false), [10]⟩,
  ⟨some 46, .call 68 [.t 45], some (43, false), []⟩,
  ⟨some 47, .pick (.t 43) (.c (.bool true)) (.t 46), none, []⟩] [0, 6, 7, 8, 9, 10, 11, 47]) k s Q := rfl
def c143_10 : ACode := .cond (.t 47) (.exit 1) .skip
theorem r143_10 {C : Cs} {k : List Fr} {s : St} {Q : Post} : run C c143_10 k s Q = run C (.cond (.t 47) (.exit 1) .skip) k s Q := rfl
def c143_11 : ACode := .seq c143_9 c143_10
theorem r143_11 {C : Cs} {k : List Fr} {s : St} {Q : Post} : run C c143_11 k s Q = run C (.seq c143_9 c143_10) k s Q := rfl
def c143_12 : ACode := .ops [⟨some 48, .fad (.t 11) 0, none, [11]⟩,
  ⟨some 49, .load 1 false (.t 48), none, [11]⟩,
  ⟨some 50, .un .not (.t 49), none, []⟩] [0, 6, 7, 8, 9, 10, 11, 50]
theorem r143_12 {C : Cs} {k : List Fr} {s : St} {Q : Post} : run C c143_12 k s Q = run C (.ops [⟨some 48, .fad (.t 11) 0, none, [11]⟩,
  ⟨some 49, .load 1 false (.t 48), none, [11]⟩,
  ⟨some 50, .un .not (.t 49), none, []⟩] [0, 6, 7, 8, 9, 10, 11, 50]) k s Q := rfl
def c143_13 : ACode := .ops [⟨some 52, .fad (.t 10) 1, none, [10]⟩,
  ⟨some 53, .load 10 true (.t 52), none, [10]⟩,
  ⟨some 54, .fad (.t 11) 2, none, [11]⟩,
  ⟨some 55, .load 1 false (.t 54), none, [11]⟩,
  ⟨some 56, .fad (.t 11) 3, none, [11]⟩,
  ⟨some 57, .load 1 false (.t 56), none, [11]⟩,
  ⟨some 58, .call 67 [.t 53, .t 55, .t 57], none, []⟩,
  ⟨some 51, .mv (.t 58), none, []⟩,
  ⟨some 59, .ext (.t 51) 0, none, []⟩,
  ⟨some 60, .ext (.t 51) 1, none, []⟩,
  ⟨some 13, .alloc [.int .i64 0, .int .i64 0, .int .i64 0, .int .i64 0, .int .i64 0, .int .i64 0, .int .i64 0, .int .i64 0, .int .i64 0, .int .i64 0], none, []⟩,
  ⟨some 14, .alloc [.int .i64 0, .int .i64 0, .int .i64 0, .int .i64 0, .int .i64 0, .int .i64 0, .int .i64 0, .int .i64 0, .int .i64 0, .int .i64 0], none, []⟩,
  ⟨none, .store (.t 13) 10 (.t 59), none, [13]⟩,
  ⟨none, .store (.t 14) 10 (.t 60), none, [14]⟩] [0, 6, 7, 8, 9, 11, 13, 14]
theorem r143_13 {C : Cs} {k : List Fr} {s : St} {Q : Post} : run C c143_13 k s Q = run C (.ops [⟨some 52, .fad (.t 10) 1, none, [10]⟩,
  ⟨some 53, .load 10 true (.t 52), none, [10]⟩,
  ⟨some 54, .fad (.t 11) 2, none, [11]⟩,
  ⟨some 55, .load 1 false (.t 54), none, [11]⟩,
  ⟨some 56, .fad (.t 11) 3, none, [11]⟩,
  ⟨some 57, .load 1 false (.t 56), none, [11]⟩,
  ⟨some 58, .call 67 [.t 53, .t 55, .t 57], none, []⟩,
  ⟨some 51, .mv (.t 58), none, []⟩,
  ⟨some 59, .ext (.t 51) 0, none, []⟩,
  ⟨some 60, .ext (.t 51) 1, none, []⟩,
  ⟨some 13, .alloc [.int .i64 0, .int .i64 0, .int .i64 0, .int .i64 0, .int .i64 0, .int .i64 0, .int .i64 0, .int .i64 0, .int .i64 0, .int .i64 0], none, []⟩,
  ⟨some 14, .alloc [.int .i64 0, .int .i64 0, .int .i64 0, .int .i64 0, .int .i64 0, .int .i64 0, .int .i64 0, .int .i64 0, .int .i64 0, .int .i64 0], none, []⟩,
  ⟨none, .store (.t 13) 10 (.t 59), none, [13]⟩,
  ⟨none, .store (.t 14) 10 (.t 60), none, [14]⟩] [0, 6, 7, 8, 9, 11, 13, 14]) k s Q := rfl
def c143_14 : ACode := .ops [⟨some 61, .mv (.t 9), none, []⟩,
  ⟨some 62, .fad (.t 11) 4, none, [11]⟩,
  ⟨some 63, .load 1 false (.t 62), none, [11]⟩,
  ⟨some 64, .load 10 true (.t 13), none, [13]⟩,
  ⟨some 65, .build [.int .i64 0, .int .i64 0, .int .i64 0, .int .i64 0, .int .i64 0, .int .i64 0, .int .i64 0, .int .i64 0, .int .i64 0, .int .i64 0, .int .i64 0] [(0, 1, .t 63), (1, 10, .t 64)], none, []⟩,
  ⟨some 66, .fad (.t 11) 5, none, [11]⟩,
  ⟨some 67, .load 1 false (.t 66), none, [11]⟩,
  ⟨some 68, .load 10 true (.t 14), none, [14]⟩,
  ⟨some 69, .build [.int .i64 0, .int .i64 0, .int .i64 0, .int .i64 0, .int .i64 0, .int .i64 0, .int .i64 0, .int .i64 0, .int .i64 0, .int .i64 0, .int .i64 0] [(0, 1, .t 67), (1, 10, .t 68)], none, []⟩,
  ⟨some 70, .mkrow 70 2 11 [.int .i64 0, .int .i64 0, .int .i64 0, .int .i64 0, .int .i64 0, .int .i64 0, .int .i64 0, .int .i64 0, .int .i64 0, .int .i64 0, .int .i64 0] [(0, 11, .t 65), (11, 11, .t 69)], none, []⟩,
  ⟨some 71, .app 9 [9] (.t 61) (.t 70) 11, none, [9, 70]⟩,
  ⟨some 9, .mv (.t 71), none, []⟩] [0, 6, 7, 8, 9]
theorem r143_14 {C : Cs} {k : List Fr} {s : St} {Q : Post} : run C c143_14 k s Q = run C (.ops [⟨some 61, .mv (.t 9), none, []⟩,
  ⟨some 62, .fad (.t 11) 4, none, [11]⟩,
  ⟨some 63, .load 1 false (.t 62), none, [11]⟩,
  ⟨some 64, .load 10 true (.t 13), none, [13]⟩,
  ⟨some 65, .build [.int .i64 0, .int .i64 0, .int .i64 0, .int .i64 0, .int .i64 0, .int .i64 0, .int .i64 0, .int .i64 0, .int .i64 0, .int .i64 0, .int .i64 0] [(0, 1, .t 63), (1, 10, .t 64)], none, []⟩,
  ⟨some 66, .fad (.t 11) 5, none, [11]⟩,
  ⟨some 67, .load 1 false (.t 66), none, [11]⟩,
  ⟨some 68, .load 10 true (.t 14), none, [14]⟩,
  ⟨some 69, .build [.int .i64 0, .int .i64 0, .int .i64 0, .int .i64 0, .int .i64 0, .int .i64 0, .int .i64 0, .int .i64 0, .int .i64 0, .int .i64 0, .int .i64 0] [(0, 1, .t 67), (1, 10, .t 68)], none, []⟩,
  ⟨some 70, .mkrow 70 2 11 [.int .i64 0, .int .i64 0, .int .i64 0, .int .i64 0, .int .i64 0, .int .i64 0, .int .i64 0, .int .i64 0, .int .i64 0, .int .i64 0, .int .i64 0] [(0, 11, .t 65), (11, 11, .t 69)], none, []⟩,
  ⟨some 71, .app 9 [9] (.t 61) (.t 70) 11, none, [9, 70]⟩,
  ⟨some 9, .mv (.t 71), none, []⟩] [0, 6, 7, 8, 9]) k s Q := rfl
def c143_15 : ACode := .seq c143_14 (.exit 1)
theorem r143_15 {C : Cs} {k : List Fr} {s : St} {Q : Post} : run C c143_15 k s Q = run C (.seq c143_14 (.exit 1)) k s Q := rfl
def c143_16 : ACode := .seq c143_13 c143_15
theorem r143_16 {C : Cs} {k : List Fr} {s : St} {Q : Post} : run C c143_16 k s Q = run C (.seq c143_13 c143_15) k s Q := rfl
def c143_17 : ACode := .cond (.t 50) c143_16 .skip
theorem r143_17 {C : Cs} {k : List Fr} {s : St} {Q : Post} : run C c143_17 k s Q = run C (.cond (.t 50) c143_16 .skip) k s Q := rfl
def c143_18 : ACode := .seq c143_12 c143_17
theorem r143_18 {C : Cs} {k : List Fr} {s : St} {Q : Post} : run C c143_18 k s Q = run C (.seq c143_12 c143_17) k s Q := rfl
def c143_19 : ACode := .ops [⟨some 72, .mv (.t 8), none, []⟩,
  ⟨some 73, .un .not (.t 72), none, []⟩] [0, 6, 7, 8, 9, 11, 73]
theorem r143_19 {C : Cs} {k : List Fr} {s : St} {Q : Post} : run C c143_19 k s Q = run C (.ops [⟨some 72, .mv (.t 8), none, []⟩,
  ⟨some 73, .un .not (.t 72), none, []⟩] [0, 6, 7, 8, 9, 11, 73]) k s Q := rfl
def c143_20 : ACode := .ops [⟨some 74, .fad (.t 11) 1, none, [11]⟩,
  ⟨some 75, .load 1 false (.t 74), none, [11]⟩,
  ⟨some 76, .fad (.t 11) 1, none, [11]⟩,
  ⟨some 77, .load 1 false (.t 76), none, [11]⟩,
  ⟨some 6, .mv (.t 75), none, []⟩,
  ⟨some 7, .mv (.t 77), none, []⟩,
  ⟨some 8, .mv (.c (.bool true)), none, []⟩] [0, 6, 7, 8, 9, 11]
theorem r143_20 {C : Cs} {k : List Fr} {s : St} {Q : Post} : run C c143_20 k s Q = run C (.ops [⟨some 74, .fad (.t 11) 1, none, [11]⟩,
  ⟨some 75, .load 1 false (.t 74), none, [11]⟩,
  ⟨some 76, .fad (.t 11) 1, none, [11]⟩,
  ⟨some 77, .load 1 false (.t 76), none, [11]⟩,
  ⟨some 6, .mv (.t 75), none, []⟩,
  ⟨some 7, .mv (.t 77), none, []⟩,
  ⟨some 8, .mv (.c (.bool true)), none, []⟩] [0, 6, 7, 8, 9, 11]) k s Q := rfl
def c143_21 : ACode := .cond (.t 73) c143_20 .skip
theorem r143_21 {C : Cs} {k : List Fr} {s : St} {Q : Post} : run C c143_21 k s Q = run C (.cond (.t 73) c143_20 .skip) k s Q := rfl
def c143_22 : ACode := .seq c143_19 c143_21
theorem r143_22 {C : Cs} {k : List Fr} {s : St} {Q : Post} : run C c143_22 k s Q = run C (.seq c143_19 c143_21) k s Q := rfl
def c143_23 : ACode := .ops [⟨some 78, .mv (.t 6), none, []⟩,
  ⟨some 79, .fad (.t 11) 1, none, [11]⟩,
  ⟨some 80, .load 1 false (.t 79), none, [11]⟩,
  ⟨some 81, .mnmx false (.t 78) (.t 80), none, []⟩,
  ⟨some 82, .mv (.t 7), none, []⟩,
  ⟨some 83, .fad (.t 11) 1, none, [11]⟩,
  ⟨some 84, .load 1 false (.t 83), none, [11]⟩,
  ⟨some 85, .mnmx true (.t 82) (.t 84), none, []⟩,
  ⟨some 6, .mv (.t 81), none, []⟩,
  ⟨some 7, .mv (.t 85), none, []⟩] [0, 6, 7, 8, 9]
theorem r143_23 {C : Cs} {k : List Fr} {s : St} {Q : Post} : run C c143_23 k s Q = run C (.ops [⟨some 78, .mv (.t 6), none, []⟩,
  ⟨some 79, .fad (.t 11) 1, none, [11]⟩,
  ⟨some 80, .load 1 false (.t 79), none, [11]⟩,
  ⟨some 81, .mnmx false (.t 78) (.t 80), none, []⟩,
  ⟨some 82, .mv (.t 7), none, []⟩,
  ⟨some 83, .fad (.t 11) 1, none, [11]⟩,
  ⟨some 84, .load 1 false (.t 83), none, [11]⟩,
  ⟨some 85, .mnmx true (.t 82) (.t 84), none, []⟩,
  ⟨some 6, .mv (.t 81), none, []⟩,
  ⟨some 7, .mv (.t 85), none, []⟩] [0, 6, 7, 8, 9]) k s Q := rfl
def c143_24 : ACode := .seq c143_22 c143_23
theorem r143_24 {C : Cs} {k : List Fr} {s : St} {Q : Post} : run C c143_24 k s Q = run C (.seq c143_22 c143_23) k s Q := rfl
def c143_25 : ACode := .seq c143_18 c143_24
theorem r143_25 {C : Cs} {k : List Fr} {s : St} {Q : Post} : run C c143_25 k s Q = run C (.seq c143_18 c143_24) k s Q := rfl
def c143_26 : ACode := .seq c143_11 c143_25
theorem r143_26 {C : Cs} {k : List Fr} {s : St} {Q : Post} : run C c143_26 k s Q = run C (.seq c143_11 c143_25) k s Q := rfl
def c143_27 : ACode := .seq c143_8 c143_26
theorem r143_27 {C : Cs} {k : List Fr} {s : St} {Q : Post} : run C c143_27 k s Q = run C (.seq c143_8 c143_26) k s Q := rfl
def c143_28 : ACode := .seq c143_7 c143_27
theorem r143_28 {C : Cs} {k : List Fr} {s : St} {Q : Post} : run C c143_28 k s Q = run C (.seq c143_7 c143_27) k s Q := rfl
def c143_29 : ACode := .seq c143_6 c143_28
theorem r143_29 {C : Cs} {k : List Fr} {s : St} {Q : Post} : run C c143_29 k s Q = run C (.seq c143_6 c143_28) k s Q := rfl
def c143_30 : ACode := .block 1 c143_29
theorem r143_30 {C : Cs} {k : List Fr} {s : St} {Q : Post} : run C c143_30 k s Q = run C (.block 1 c143_29) k s Q := rfl
def c143_31 : ACode := .seq c143_5 c143_30
theorem r143_31 {C : Cs} {k : List Fr} {s : St} {Q : Post} : run C c143_31 k s Q = run C (.seq c143_5 c143_30) k s Q := rfl
def c143_32 : ACode := .keep [0, 6, 7, 8, 9] [9] c143_31
theorem r143_32 {C : Cs} {k : List Fr} {s : St} {Q : Post} : run C c143_32 k s Q = run C (.keep [0, 6, 7, 8, 9] [9] c143_31) k s Q := rfl
def c143_33 : ACode := .loop c143_32
theorem r143_33 {C : Cs} {k : List Fr} {s : St} {Q : Post} : run C c143_33 k s Q = run C (.loop c143_32) k s Q := rfl
def c143_34 : ACode := .block 0 c143_33
theorem r143_34 {C : Cs} {k : List Fr} {s : St} {Q : Post} : run C c143_34 k s Q = run C (.block 0 c143_33) k s Q := rfl
def c143_35 : ACode := .ops [⟨some 86, .mv (.t 6), none, []⟩,
  ⟨some 87, .mv (.t 7), none, []⟩,
  ⟨some 4, .mv (.t 86), none, []⟩,
  ⟨some 5, .mv (.t 87), none, []⟩] [4, 5]
theorem r143_35 {C : Cs} {k : List Fr} {s : St} {Q : Post} : run C c143_35 k s Q = run C (.ops [⟨some 86, .mv (.t 6), none, []⟩,
  ⟨some 87, .mv (.t 7), none, []⟩,
  ⟨some 4, .mv (.t 86), none, []⟩,
  ⟨some 5, .mv (.t 87), none, []⟩] [4, 5]) k s Q := rfl
def c143_36 : ACode := .seq c143_35 .ret
theorem r143_36 {C : Cs} {k : List Fr} {s : St} {Q : Post} : run C c143_36 k s Q = run C (.seq c143_35 .ret) k s Q := rfl
def c143_37 : ACode := .seq c143_34 c143_36
theorem r143_37 {C : Cs} {k : List Fr} {s : St} {Q : Post} : run C c143_37 k s Q = run C (.seq c143_34 c143_36) k s Q := rfl
def c143_38 : ACode := .seq c143_2 c143_37
theorem r143_38 {C : Cs} {k : List Fr} {s : St} {Q : Post} : run C c143_38 k s Q = run C (.seq c143_2 c143_37) k s Q := rfl
def c143_39 : ACode := .seq c143_1 c143_38
theorem r143_39 {C : Cs} {k : List Fr} {s : St} {Q : Post} : run C c143_39 k s Q = run C (.seq c143_1 c143_38) k s Q := rfl
def c143_40 : ACode := .seq c143_0 c143_39
theorem r143_40 {C : Cs} {k : List Fr} {s : St} {Q : Post} : run C c143_40 k s Q = run C (.seq c143_0 c143_39) k s Q := rfl
def a143 : AFun := ⟨2, 88, c143_40, [.t 4, .t 5]⟩
attribute [simp] r143_0 r143_1 r143_2 r143_3 r143_4 r143_5 r143_6 r143_7 r143_8 r143_9 r143_10 r143_11 r143_12 r143_13 r143_14 r143_15 r143_16 r143_17 r143_18 r143_19 r143_20 r143_21 r143_22 r143_23 r143_24 r143_25 r143_26 r143_27 r143_28 r143_29 r143_30 r143_31 r143_32 r143_33 r143_34 r143_35 r143_36 r143_37 r143_38 r143_39 r143_40
theorem m143 : mFun Try.prog Try.f143 a143 = true := by decide +kernel
/- copse/check.Sums -/
def c93_0 : ACode := .ops [⟨some 3, .box (.t 0) 6, none, []⟩,
  ⟨some 5, .box (.t 2) 10, none, []⟩,
  ⟨some 6, .mv (.c (.int .i64 0)), none, []⟩,
  ⟨some 7, .mv (.c (.int .i64 0)), none, []⟩] [1, 3, 5]
theorem r93_0 {C : Cs} {k : List Fr} {s : St} {Q : Post} : run C c93_0 k s Q = run C (.ops [⟨some 3, .box (.t 0) 6, none, []⟩,
  ⟨some 5, .box (.t 2) 10, none, []⟩,
  ⟨some 6, .mv (.c (.int .i64 0)), none, []⟩,
  ⟨some 7, .mv (.c (.int .i64 0)), none, []⟩] [1, 3, 5]) k s Q := rfl
def c93_1 : ACode := .ops [⟨some 14, .load 6 true (.t 3), none, [3]⟩,
  ⟨some 15, .call 71 [.t 14], none, []⟩,
  ⟨some 16, .un .not (.t 15), none, []⟩,
  ⟨some 17, .mv (.t 16), none, []⟩,
  ⟨some 18, .mv (.t 1), some (17, false), []⟩,
  ⟨some 19, .bin .lss (.t 18) (.c (.int .i64 0)), some (17, false), []⟩,
  ⟨some 20, .pick (.t 17) (.c (.bool true)) (.t 19), none, []⟩,
  ⟨some 21, .mv (.t 20), none, []⟩,
  ⟨some 22, .mv (.t 1), some (21, false), []⟩,
  ⟨some 23, .fad (.t 3) 1, some (21, false), [3]⟩,
  ⟨some 24, .load 1 false (.t 23), some (21, false), [3]⟩,
  ⟨some 25, .bin .geq (.t 22) (.t 24), some (21, false), []⟩,
  ⟨some 26, .pick (.t 21) (.c (.bool true)) (.t 25), none, []⟩,
  ⟨some 27, .mv (.t 26), none, []⟩,
  ⟨some 28, .load 10 true (.t 5), some (27, false), [5]⟩,
  ⟨some 29, .call 68 [.t 28], some (27, false), []⟩,
  ⟨some 30, .pick (.t 27) (.c (.bool true)) (.t 29), none, []⟩] [1, 3, 5, 30]
theorem r93_1 {C : Cs} {k : List Fr} {s : St} {Q : Post} : run C c93_1 k s Q = run C (.ops [⟨some 14, .load 6 true (.t 3), none, [3]⟩,
  ⟨some 15, .call 71 [.t 14], none, []⟩,
  ⟨some 16, .un .not (.t 15), none, []⟩,
  ⟨some 17, .mv (.t 16), none, []⟩,
  ⟨some 18, .mv (.t 1), some (17, false), []⟩,
  ⟨some 19, .bin .lss (.t 18) (.c (.int .i64 0)), some (17, false), []⟩,
  ⟨some 20, .pick (.t 17) (.c (.bool true)) (.t 19), none, []⟩,
  ⟨some 21, .mv (.t 20), none, []⟩,
  ⟨some 22, .mv (.t 1), some (21, false), []⟩,
  ⟨some 23, .fad (.t 3) 1, some (21, false), [3]⟩,
  ⟨some 24, .load 1 false (.t 23), some (21, false), [3]⟩,
  ⟨some 25, .bin .geq (.t 22) (.t 24), some (21, false), []⟩,
  ⟨some 26, .pick (.t 21) (.c (.bool true)) (.t 25), none, []⟩,
  ⟨some 27, .mv (.t 26), none, []⟩,
  ⟨some 28, .load 10 true (.t 5), some (27, false), [5]⟩,
  ⟨some 29, .call 68 [.t 28], some (27, false), []⟩,
  ⟨some 30, .pick (.t 27) (.c (.bool true)) (.t 29), none, []⟩] [1, 3, 5, 30]) k s Q := rfl
def c93_2 : ACode := .ops [⟨some 6, .mv (.c (.int .i64 0)), none, []⟩,
  ⟨some 7, .mv (.c (.int .i64 0)), none, []⟩] [6, 7]
theorem r93_2 {C : Cs} {k : List Fr} {s : St} {Q : Post} : run C c93_2 k s Q = run C (.ops [⟨some 6, .mv (.c (.int .i64 0)), none, []⟩,
  ⟨some 7, .mv (.c (.int .i64 0)), none, []⟩] [6, 7]) k s Q := rfl
def c93_3 : ACode := .seq c93_2 .ret
theorem r93_3 {C : Cs} {k : List Fr} {s : St} {Q : Post} : run C c93_3 k s Q = run C (.seq c93_2 .ret) k s Q := rfl
def c93_4 : ACode := .cond (.t 30) c93_3 .skip
theorem r93_4 {C : Cs} {k : List Fr} {s : St} {Q : Post} : run C c93_4 k s Q = run C (.cond (.t 30) c93_3 .skip) k s Q := rfl
def c93_5 : ACode := .seq c93_1 c93_4
theorem r93_5 {C : Cs} {k : List Fr} {s : St} {Q : Post} : run C c93_5 k s Q = run C (.seq c93_1 c93_4) k s Q := rfl
def c93_6 : ACode := .ops [⟨some 31, .mv (.t 1), none, []⟩,
  ⟨some 32, .fad (.t 3) 2, none, [3]⟩,
  ⟨some 33, .iad (.t 32) (.t 31) 1 3, none, [3]⟩,
  ⟨some 34, .load 1 false (.t 33), none, [3]⟩,
  ⟨some 35, .mv (.t 1), none, []⟩,
  ⟨some 36, .fad (.t 3) 2, none, [3]⟩,
  ⟨some 37, .iad (.t 36) (.t 35) 1 3, none, [3]⟩,
  ⟨some 38, .load 1 false (.t 37), none, [3]⟩,
  ⟨some 8, .mv (.t 34), none, []⟩,
  ⟨some 9, .mv (.t 38), none, []⟩] [1, 3, 5, 8, 9]
theorem r93_6 {C : Cs} {k : List Fr} {s : St} {Q : Post} : run C c93_6 k s Q = run C (.ops [⟨some 31, .mv (.t 1), none, []⟩,
  ⟨some 32, .fad (.t 3) 2, none, [3]⟩,
  ⟨some 33, .iad (.t 32) (.t 31) 1 3, none, [3]⟩,
  ⟨some 34, .load 1 false (.t 33), none, [3]⟩,
  ⟨some 35, .mv (.t 1), none, []⟩,
  ⟨some 36, .fad (.t 3) 2, none, [3]⟩,
  ⟨some 37, .iad (.t 36) (.t 35) 1 3, none, [3]⟩,
  ⟨some 38, .load 1 false (.t 37), none, [3]⟩,
  ⟨some 8, .mv (.t 34), none, []⟩,
  ⟨some 9, .mv (.t 38), none, []⟩] [1, 3, 5, 8, 9]) k s Q := rfl
def c93_7 : ACode := .ops [⟨some 39, .fad (.t 3) 5, none, [3]⟩,
  ⟨some 40, .load 1 false (.t 39), none, [3]⟩,
  ⟨some 41, .len (.t 40), none, []⟩,
  ⟨some 42, .mv (.c (.int .i64 0)), none, []⟩] [1, 5, 8, 9, 40, 41, 42]
theorem r93_7 {C : Cs} {k : List Fr} {s : St} {Q : Post} : run C c93_7 k s Q = run C (.ops [⟨some 39, .fad (.t 3) 5, none, [3]⟩,
  ⟨some 40, .load 1 false (.t 39), none, [3]⟩,
  ⟨some 41, .len (.t 40), none, []⟩,
  ⟨some 42, .mv (.c (.int .i64 0)), none, []⟩] [1, 5, 8, 9, 40, 41, 42]) k s Q := rfl
def c93_8 : ACode := .ops [⟨some 43, .bin .lss (.t 42) (.t 41), none, []⟩] [1, 5, 8, 9, 40, 41, 42, 43]
theorem r93_8 {C : Cs} {k : List Fr} {s : St} {Q : Post} : run C c93_8 k s Q = run C (.ops [⟨some 43, .bin .lss (.t 42) (.t 41), none, []⟩] [1, 5, 8, 9, 40, 41, 42, 43]) k s Q := rfl
def c93_9 : ACode := .cond (.t 43) .skip (.exit 0)
theorem r93_9 {C : Cs} {k : List Fr} {s : St} {Q : Post} : run C c93_9 k s Q = run C (.cond (.t 43) .skip (.exit 0)) k s Q := rfl
def c93_10 : ACode := .ops [⟨some 44, .ias (.t 40) (.t 42) 2, none, []⟩,
  ⟨some 45, .load 2 true (.t 44), none, []⟩,
  ⟨some 11, .alloc [.int .i64 0, .nils], none, []⟩,
  ⟨none, .store (.t 11) 2 (.t 45), none, [11]⟩] [1, 5, 8, 9, 11, 40, 41, 42]
theorem r93_10 {C : Cs} {k : List Fr} {s : St} {Q : Post} : run C c93_10 k s Q = run C (.ops [⟨some 44, .ias (.t 40) (.t 42) 2, none, []⟩,
  ⟨some 45, .load 2 true (.t 44), none, []⟩,
  ⟨some 11, .alloc [.int .i64 0, .nils], none, []⟩,
  ⟨none, .store (.t 11) 2 (.t 45), none, [11]⟩] [1, 5, 8, 9, 11, 40, 41, 42]) k s Q := rfl
def c93_11 : ACode := .ops [⟨some 46, .fad (.t 11) 0, none, [11]⟩,
  ⟨some 47, .load 1 false (.t 46), none, [11]⟩,
  ⟨some 48, .mv (.t 1), none, []⟩,
  ⟨some 49, .bin .eql (.t 47) (.t 48), none, []⟩] [1, 5, 8, 9, 11, 40, 41, 42, 49]
theorem r93_11 {C : Cs} {k : List Fr} {s : St} {Q : Post} : run C c93_11 k s Q = run C (.ops [⟨some 46, .fad (.t 11) 0, none, [11]⟩,
  ⟨some 47, .load 1 false (.t 46), none, [11]⟩,
  ⟨some 48, .mv (.t 1), none, []⟩,
  ⟨some 49, .bin .eql (.t 47) (.t 48), none, []⟩] [1, 5, 8, 9, 11, 40, 41, 42, 49]) k s Q := rfl
def c93_12 : ACode := .ops [⟨some 51, .fad (.t 11) 1, none, [11]⟩,
  ⟨some 52, .load 1 false (.t 51), none, [11]⟩,
  ⟨some 53, .load 10 true (.t 5), none, [5]⟩,
  ⟨some 54, .call 143 [.t 52, .t 53], none, []⟩,
  ⟨some 50, .mv (.t 54), none, []⟩,
  ⟨some 55, .ext (.t 50) 0, none, []⟩,
  ⟨some 56, .ext (.t 50) 1, none, []⟩,
  ⟨some 12, .mv (.t 55), none, []⟩,
  ⟨some 13, .mv (.t 56), none, []⟩] [1, 5, 8, 9, 12, 13, 40, 41, 42]
theorem r93_12 {C : Cs} {k : List Fr} {s : St} {Q : Post} : run C c93_12 k s Q = run C (.ops [⟨some 51, .fad (.t 11) 1, none, [11]⟩,
  ⟨some 52, .load 1 false (.t 51), none, [11]⟩,
  ⟨some 53, .load 10 true (.t 5), none, [5]⟩,
  ⟨some 54, .call 143 [.t 52, .t 53], none, []⟩,
  ⟨some 50, .mv (.t 54), none, []⟩,
  ⟨some 55, .ext (.t 50) 0, none, []⟩,
  ⟨some 56, .ext (.t 50) 1, none, []⟩,
  ⟨some 12, .mv (.t 55), none, []⟩,
  ⟨some 13, .mv (.t 56), none, []⟩] [1, 5, 8, 9, 12, 13, 40, 41, 42]) k s Q := rfl
def c93_13 : ACode := .ops [⟨some 57, .mv (.t 8), none, []⟩,
  ⟨some 58, .mv (.t 12), none, []⟩,
  ⟨some 59, .bin .add (.t 57) (.t 58), none, []⟩,
  ⟨some 60, .mv (.t 9), none, []⟩,
  ⟨some 61, .mv (.t 13), none, []⟩,
  ⟨some 62, .bin .add (.t 60) (.t 61), none, []⟩,
  ⟨some 8, .mv (.t 59), none, []⟩,
  ⟨some 9, .mv (.t 62), none, []⟩] [1, 5, 8, 9, 40, 41, 42]
theorem r93_13 {C : Cs} {k : List Fr} {s : St} {Q : Post} : run C c93_13 k s Q = run C (.ops [⟨some 57, .mv (.t 8), none, []⟩,
  ⟨some 58, .mv (.t 12), none, []⟩,
  ⟨some 59, .bin .add (.t 57) (.t 58), none, []⟩,
  ⟨some 60, .mv (.t 9), none, []⟩,
  ⟨some 61, .mv (.t 13), none, []⟩,
  ⟨some 62, .bin .add (.t 60) (.t 61), none, []⟩,
  ⟨some 8, .mv (.t 59), none, []⟩,
  ⟨some 9, .mv (.t 62), none, []⟩] [1, 5, 8, 9, 40, 41, 42]) k s Q := rfl
def c93_14 : ACode := .seq c93_12 c93_13
theorem r93_14 {C : Cs} {k : List Fr} {s : St} {Q : Post} : run C c93_14 k s Q = run C (.seq c93_12 c93_13) k s Q := rfl
def c93_15 : ACode := .cond (.t 49) c93_14 .skip
theorem r93_15 {C : Cs} {k : List Fr} {s : St} {Q : Post} : run C c93_15 k s Q = run C (.cond (.t 49) c93_14 .skip) k s Q := rfl
def c93_16 : ACode := .seq c93_11 c93_15
theorem r93_16 {C : Cs} {k : List Fr} {s : St} {Q : Post} : run C c93_16 k s Q = run C (.seq c93_11 c93_15) k s Q := rfl
def c93_17 : ACode := .seq c93_10 c93_16
theorem r93_17 {C : Cs} {k : List Fr} {s : St} {Q : Post} : run C c93_17 k s Q = run C (.seq c93_10 c93_16) k s Q := rfl
def c93_18 : ACode := .block 1 c93_17
theorem r93_18 {C : Cs} {k : List Fr} {s : St} {Q : Post} : run C c93_18 k s Q = run C (.block 1 c93_17) k s Q := rfl
def c93_19 : ACode := .ops [⟨some 63, .bin .add (.t 42) (.c (.int .i64 1)), none, []⟩,
  ⟨some 42, .mv (.t 63), none, []⟩] [1, 5, 8, 9, 40, 41, 42]
theorem r93_19 {C : Cs} {k : List Fr} {s : St} {Q : Post} : run C c93_19 k s Q = run C (.ops [⟨some 63, .bin .add (.t 42) (.c (.int .i64 1)), none, []⟩,
  ⟨some 42, .mv (.t 63), none, []⟩] [1, 5, 8, 9, 40, 41, 42]) k s Q := rfl
def c93_20 : ACode := .seq c93_18 c93_19
theorem r93_20 {C : Cs} {k : List Fr} {s : St} {Q : Post} : run C c93_20 k s Q = run C (.seq c93_18 c93_19) k s Q := rfl
def c93_21 : ACode := .seq c93_9 c93_20
theorem r93_21 {C : Cs} {k : List Fr} {s : St} {Q : Post} : run C c93_21 k s Q = run C (.seq c93_9 c93_20) k s Q := rfl
def c93_22 : ACode := .seq c93_8 c93_21
theorem r93_22 {C : Cs} {k : List Fr} {s : St} {Q : Post} : run C c93_22 k s Q = run C (.seq c93_8 c93_21) k s Q := rfl
def c93_23 : ACode := .keep [1, 5, 8, 9, 40, 41, 42] [5] c93_22
theorem r93_23 {C : Cs} {k : List Fr} {s : St} {Q : Post} : run C c93_23 k s Q = run C (.keep [1, 5, 8, 9, 40, 41, 42] [5] c93_22) k s Q := rfl
def c93_24 : ACode := .loop c93_23
theorem r93_24 {C : Cs} {k : List Fr} {s : St} {Q : Post} : run C c93_24 k s Q = run C (.loop c93_23) k s Q := rfl
def c93_25 : ACode := .block 0 c93_24
theorem r93_25 {C : Cs} {k : List Fr} {s : St} {Q : Post} : run C c93_25 k s Q = run C (.block 0 c93_24) k s Q := rfl
def c93_26 : ACode := .seq c93_7 c93_25
theorem r93_26 {C : Cs} {k : List Fr} {s : St} {Q : Post} : run C c93_26 k s Q = run C (.seq c93_7 c93_25) k s Q := rfl
def c93_27 : ACode := .ops [⟨some 64, .mv (.t 8), none, []⟩,
  ⟨some 65, .mv (.t 9), none, []⟩,
  ⟨some 6, .mv (.t 64), none, []⟩,
  ⟨some 7, .mv (.t 65), none, []⟩] [6, 7]
theorem r93_27 {C : Cs} {k : List Fr} {s : St} {Q : Post} : run C c93_27 k s Q = run C (.ops [⟨some 64, .mv (.t 8), none, []⟩,
  ⟨some 65, .mv (.t 9), none, []⟩,
  ⟨some 6, .mv (.t 64), none, []⟩,
  ⟨some 7, .mv (.t 65), none, []⟩] [6, 7]) k s Q := rfl
def c93_28 : ACode := .seq c93_27 .ret
theorem r93_28 {C : Cs} {k : List Fr} {s : St} {Q : Post} : run C c93_28 k s Q = run C (.seq c93_27 .ret) k s Q := rfl
def c93_29 : ACode := .seq c93_26 c93_28
theorem r93_29 {C : Cs} {k : List Fr} {s : St} {Q : Post} : run C c93_29 k s Q = run C (.seq c93_26 c93_28) k s Q := rfl
def c93_30 : ACode := .seq c93_6 c93_29
theorem r93_30 {C : Cs} {k : List Fr} {s : St} {Q : Post} : run C c93_30 k s Q = run C (.seq c93_6 c93_29) k s Q := rfl
def c93_31 : ACode := .seq c93_5 c93_30
theorem r93_31 {C : Cs} {k : List Fr} {s : St} {Q : Post} : run C c93_31 k s Q = run C (.seq c93_5 c93_30) k s Q := rfl
def c93_32 : ACode := .seq c93_0 c93_31
theorem r93_32 {C : Cs} {k : List Fr} {s : St} {Q : Post} : run C c93_32 k s Q = run C (.seq c93_0 c93_31) k s Q := rfl
def a93 : AFun := ⟨3, 66, c93_32, [.t 6, .t 7]⟩
attribute [simp] r93_0 r93_1 r93_2 r93_3 r93_4 r93_5 r93_6 r93_7 r93_8 r93_9 r93_10 r93_11 r93_12 r93_13 r93_14 r93_15 r93_16 r93_17 r93_18 r93_19 r93_20 r93_21 r93_22 r93_23 r93_24 r93_25 r93_26 r93_27 r93_28 r93_29 r93_30 r93_31 r93_32
theorem m93 : mFun Try.prog Try.f93 a93 = true := by decide +kernel


structure Visit where
  at_ : Int
  box : Box
instance : Row Visit where
  sz := 11
  enc x := [.int .i64 x.at_, .int .i64 x.box.s0.lo, .int .i64 x.box.s0.hi, .int .i64 x.box.s1.lo, .int .i64 x.box.s1.hi, .int .i64 x.box.s2.lo, .int .i64 x.box.s2.hi, .int .i64 x.box.s3.lo, .int .i64 x.box.s3.hi, .int .i64 x.box.s4.lo, .int .i64 x.box.s4.hi]
  dec xs := match xs with
    | [.int .i64 v0, .int .i64 v1, .int .i64 v2, .int .i64 v3, .int .i64 v4, .int .i64 v5, .int .i64 v6, .int .i64 v7, .int .i64 v8, .int .i64 v9, .int .i64 v10] => some ⟨v0, ⟨⟨v1, v2⟩, ⟨v3, v4⟩, ⟨v5, v6⟩, ⟨v7, v8⟩, ⟨v9, v10⟩⟩⟩
    | _ => none
  pos := by decide
  len _ := rfl
  dec_enc _ := rfl
  enc_dec xs a h := by
    split at h
    · cases h; rfl
    · cases h
@[simp] theorem sz_Visit : Row.sz Visit = 11 := rfl
def vis (l : List Word) (b : Box) (s : Nat) : Visit := ⟨s, own l b s⟩
theorem rd_top {α : Type} [Row α] (X : List α) (v : α) (G : List AV) : rd (encL (X ++ [v]) ++ G) (X.length * Row.sz α) (Row.sz α) true = some (.agg (Row.enc v)) := by
  have h1 := encL_length X
  have h2 := Row.len v
  rw [encL_append, List.append_assoc]
  unfold rd
  rw [if_pos (by simp [encL_cons, encL_nil, h1, h2])]
  simp only [if_true]
  rw [← h1, List.drop_left]
  simp only [encL_cons, encL_nil, List.append_nil]
  rw [← h2, List.take_left]

/-- what lies below a node -/
inductive Desc (l : List Word) (i : Nat) : Nat → Prop
  | self : Desc l i i
  | left {j : Nat} : Desc l i j → (ndAt l j).leaf = false → Desc l i (ndAt l j).left.toNat
  | right {j : Nat} : Desc l i j → (ndAt l j).leaf = false → Desc l i (ndAt l j).right.toNat
theorem Desc.sub {l : List Word} {d : Int} (hr : RT l d) {b : Box} {i j : Nat} (h : Desc l i j) (hi : i < l.length) : j < l.length ∧ ∀ p t, InB (own l b j) p t → InB (own l b i) p t := by
  induction h with
  | self => exact ⟨hi, fun p t h => h⟩
  | @left j hd hl ih =>
    have ha := hr.at ih.1 hl
    have hf := hr.feature ih.1 hl
    have hc := own_child hr b ih.1 hl
    refine ⟨by omega, fun p t h => ih.2 p t ?_⟩
    rw [hc.1] at h
    exact ((cutB_1 _ hf _ p t).1 h).1
  | @right j hd hl ih =>
    have ha := hr.at ih.1 hl
    have hf := hr.feature ih.1 hl
    have hc := own_child hr b ih.1 hl
    refine ⟨by omega, fun p t h => ih.2 p t ?_⟩
    rw [hc.2] at h
    exact ((cutB_2 _ hf _ p t).1 h).1
/-- below an inner node: itself, or below a side of it -/
theorem Desc.cases' {l : List Word} {i j : Nat} (h : Desc l i j) : j = i ∨ ((ndAt l i).leaf = false ∧ (Desc l (ndAt l i).left.toNat j ∨ Desc l (ndAt l i).right.toNat j)) := by
  induction h with
  | self => exact .inl rfl
  | left hd hl ih =>
    rcases ih with rfl | ⟨h1, h2 | h2⟩
    · exact .inr ⟨hl, .inl .self⟩
    · exact .inr ⟨h1, .inl (h2.left hl)⟩
    · exact .inr ⟨h1, .inr (h2.left hl)⟩
  | right hd hl ih =>
    rcases ih with rfl | ⟨h1, h2 | h2⟩
    · exact .inr ⟨hl, .inr .self⟩
    · exact .inr ⟨h1, .inl (h2.right hl)⟩
    · exact .inr ⟨h1, .inr (h2.right hl)⟩
theorem desc_root {l : List Word} {d : Int} (hr : RT l d) : ∀ j, j < l.length → Desc l 0 j := by
  intro j
  induction j using Nat.strongRecOn with
  | _ j ih =>
    intro hj
    by_cases h0 : j = 0
    · subst h0; exact .self
    · obtain ⟨i, hi, hl, hn⟩ := hr.parent (show 1 ≤ j by omega) hj
      have hd := ih i hi (by omega)
      have ha := hr.at (show i < l.length by omega) hl
      rcases hn with hn | hn
      · have := hd.left hl
        rw [show (ndAt l i).left.toNat = j by omega] at this
        exact this
      · have := hd.right hl
        rw [show (ndAt l i).right.toNat = j by omega] at this
        exact this

def wgt (s : Nat) : Nat := 2 ^ (32 - s) - 1
def wgts (S : List Nat) : Nat := (S.map wgt).sum
theorem wgts_app (S T : List Nat) : wgts (S ++ T) = wgts S + wgts T := by simp [wgts]
theorem wgt_pos {s : Nat} (h : s < 31) : 1 ≤ wgt s := by
  unfold wgt
  have : 2 ^ 1 ≤ 2 ^ (32 - s) := Nat.pow_le_pow_right (by omega) (by omega)
  omega
theorem wgt_two {s a b : Nat} (h1 : s < a) (h2 : s < b) (ha : a < 31) : wgt a + wgt b < wgt s := by
  unfold wgt
  have e : 32 - s = (31 - s) + 1 := by omega
  have p1 : 2 ^ (32 - a) ≤ 2 ^ (31 - s) := Nat.pow_le_pow_right (by omega) (by omega)
  have p2 : 2 ^ (32 - b) ≤ 2 ^ (31 - s) := Nat.pow_le_pow_right (by omega) (by omega)
  have p3 : 1 ≤ 2 ^ (31 - s) := Nat.one_le_two_pow
  have p4 : 1 ≤ 2 ^ (32 - a) := Nat.one_le_two_pow
  have p5 : 1 ≤ 2 ^ (32 - b) := Nat.one_le_two_pow
  rw [e, Nat.pow_succ]
  omega
theorem len_wgts : ∀ (S : List Nat), (∀ s ∈ S, s < 31) → S.length ≤ wgts S
  | [], _ => by simp [wgts]
  | s :: S, h => by
    have h1 := wgt_pos (h s (by simp))
    have h2 := len_wgts S (fun x hx => h x (by simp [hx]))
    simp only [wgts, List.map_cons, List.sum_cons, List.length_cons] at *
    omega

/-- what the loop keeps -/
structure EI (l : List Word) (b : Box) (S : List Nat) (lo hi : Int) (sm : Bool) : Prop where
  lt : ∀ s ∈ S, s < l.length
  cover : ∀ j, j < l.length → (ndAt l j).leaf = true → (own l b j).empty = false → (sm = true ∧ lo ≤ (ndAt l j).value ∧ (ndAt l j).value ≤ hi) ∨ ∃ s ∈ S, Desc l s j
  att : sm = true → (∃ x ∈ pieces l b, x.value = lo) ∧ ∃ x ∈ pieces l b, x.value = hi
theorem EI.done {l : List Word} {d : Int} (hr : RT l d) {b : Box} (he : b.empty = false) {lo hi : Int} {sm : Bool} (h : EI l b [] lo hi sm) : lo = (boundT l b).a ∧ hi = (boundT l b).b := by
  have hb : boundT l b = ends (pieces l b) := by unfold boundT; rw [he]; rfl
  obtain ⟨h1, h2, ⟨x, hx, h3⟩, ⟨y, hy, h4⟩⟩ := ends_spec (pieces_ne hr he)
  rw [hb]
  have cov : ∀ z ∈ pieces l b, sm = true ∧ lo ≤ z.value ∧ z.value ≤ hi := by
    intro z hz
    obtain ⟨i, hi', hl, hE, rfl⟩ := mem_pieces.1 hz
    rcases h.cover i hi' hl hE with hc | ⟨s, hs, _⟩
    · exact hc
    · simp at hs
  have cx := cov x hx
  have cy := cov y hy
  obtain ⟨⟨u, hu, hu2⟩, ⟨v, hv, hv2⟩⟩ := h.att cx.1
  have k1 := h2 u hu
  have k2 := h2 v hv
  omega

noncomputable def EndsC (l : List Word) (b : Box) : Option (Int × Int) := Part ((∃ d, RT l d) ∧ okB b ∧ b.empty = false) ((boundT l b).a, (boundT l b).b)
theorem take_vis (X : List Visit) (G : List AV) (n : Nat) (h : n = X.length * 11) : List.take n (encL X ++ G) = encL X := by
  rw [h, ← show (encL X).length = X.length * 11 from encL_length X, List.take_left]
set_option maxHeartbeats 4000000 in
theorem runs_ends (l : List Word) (b : Box) (c : Int × Int) (h : EndsC l b = some c) : Runs (tbl [(77, sp1 Unpack), (68, sp1 fun (b : Box) => some b.empty), (67, sp3 CutB)]) a143 [Arg.enc l, Arg.enc b] (Arg.enc c) := by
  obtain ⟨⟨⟨d, hr⟩, hb, he⟩, rfl⟩ := part_some h
  clear h
  refine ⟨rfl, fun g => run_def ?_⟩
  unfold a143
  have hle := hr.le
  have b3 : l.length ≤ maxN := by unfold maxN; omega
  simp -implicitDefEqProofs [b3]
  refine run_while (c := c143_31) (fun n s => ∃ (S : List Nat) (lo hi : Int) (sm : Bool) (G : List AV) (g : Nat → Nat), n = wgts S ∧ n < 2 ^ 33 ∧ EI l b S lo hi sm ∧ s = ⟨[(0, .lst l.length (encL l)), (6, .int .i64 lo), (7, .int .i64 hi), (8, .bool sm), (9, .own 9 (g 9) 0 S.length)], [(9, ⟨encL (S.map (vis l b)) ++ G, false, 11⟩)], g⟩) (wgts [0]) ⟨[0], 0, 0, false, [], bump 9 (bump 3 g), rfl, by simp [wgts, wgt], ⟨fun s hs => by simp at hs; have := hr.pos; omega, fun j hj _ _ => .inr ⟨0, by simp, desc_root hr j hj⟩, fun h => by cases h⟩, by simp [encL_cons, encL_nil, vis, own_root]; rfl⟩ ?_
  rintro n s ⟨S, lo, hi, sm, G, g, hn, hn2, hE, rfl⟩
  rcases List.eq_nil_or_concat S with rfl | ⟨S, s, rfl⟩
  · obtain ⟨e1, e2⟩ := hE.done hr he
    simp -implicitDefEqProofs [e1, e2]
  rw [List.concat_eq_append] at *
  have hs : s < l.length := hE.lt s (by simp)
  have hsl := len_wgts S (fun x hx => by have := hE.lt x (by simp [hx]); omega)
  rw [wgts_app] at hn
  have hw1 := wgt_pos (show s < 31 by omega)
  have hws : wgts [s] = wgt s := by simp [wgts]
  have hL : S.length ≤ 8589934592 := by have : (2 : Nat) ^ 33 = 8589934592 := (by decide); omega
  have wL : IntKind.i64.wrap ((S.length : Nat) : Int) = S.length := wrap64 (by omega) (by omega)
  have c0 : S.length + 1 ≤ maxN := by unfold maxN; omega
  have hU := unpack_at hr hs
  have htop : rd (encL (S.map (vis l b)) ++ (Row.enc (vis l b s) ++ G)) (S.length * 11) 11 true = some (.agg (Row.enc (vis l b s))) := by
    have := rd_top (S.map (vis l b)) (vis l b s) G
    rw [encL_append, List.append_assoc] at this
    simpa [encL_cons, encL_nil] using this
  have e1 : encL ((S ++ [s]).map (vis l b)) ++ G = encL (S.map (vis l b)) ++ (Row.enc (vis l b s) ++ G) := by simp [encL_append, encL_cons, encL_nil]
  have e2 : (S ++ [s]).length = S.length + 1 := by simp
  rw [e1, e2]
  have htk : List.take (S.length * 11) (encL (S.map (vis l b)) ++ (Row.enc (vis l b s) ++ G)) = encL (S.map (vis l b)) := take_vis _ _ _ (by simp)
  have hlen : S.length * 11 ≤ (encL (S.map (vis l b)) ++ (Row.enc (vis l b s) ++ G)).length := by
    have := encL_length (S.map (vis l b))
    simp at this
    simp [this]
  generalize (Row.enc (vis l b s) ++ G) = G2 at *
  have hlen2 : S.length * 11 ≤ (encL (S.map (vis l b))).length + G2.length := by simpa using hlen
  have htop : rd (encL (S.map (vis l b)) ++ G2) (S.length * 11) 11 true = some (.agg [.int .i64 s, .int .i64 (own l b s).s0.lo, .int .i64 (own l b s).s0.hi, .int .i64 (own l b s).s1.lo, .int .i64 (own l b s).s1.hi, .int .i64 (own l b s).s2.lo, .int .i64 (own l b s).s2.hi, .int .i64 (own l b s).s3.lo, .int .i64 (own l b s).s3.hi, .int .i64 (own l b s).s4.lo, .int .i64 (own l b s).s4.hi]) := htop
  have hEc : ∀ j, j < l.length → (ndAt l j).leaf = true → (own l b j).empty = false → (sm = true ∧ lo ≤ (ndAt l j).value ∧ (ndAt l j).value ≤ hi) ∨ (∃ x ∈ S, Desc l x j) ∨ Desc l s j := by
    intro j h1 h2 h3
    rcases hE.cover j h1 h2 h3 with h | ⟨x, hx, hd⟩
    · exact .inl h
    · rcases List.mem_append.1 hx with hx | hx
      · exact .inr (.inl ⟨x, hx, hd⟩)
      · simp at hx; subst hx; exact .inr (.inr hd)
  have hlt : ∀ x ∈ S, x < l.length := fun x hx => hE.lt x (by simp [hx])
  have c9 : (S.length : Int) < (S.length : Int) + 1 := by omega
  have c10 : (S.length : Int) ≤ (S.length : Int) + 1 := by omega
  have hlw : wgts [s] = wgt s := hws
  cases hoe : (own l b s).empty
  case true =>
    have hE2 : EI l b S lo hi sm := by
      refine ⟨hlt, ?_, hE.att⟩
      intro j h1 h2 h3
      rcases hEc j h1 h2 h3 with h | h | h
      · exact .inl h
      · exact .inr h
      · exfalso
        obtain ⟨p, t, hp⟩ := empty_false.1 h3
        exact empty_true.1 hoe p t ((h.sub hr hs).2 p t hp)
    cases sm <;> simp -implicitDefEqProofs [c0, c9, c10, wL, htop, hU, hs, rd_words, hoe]
    all_goals exact ⟨wgts S, by omega, S, rfl, by omega, lo, hi, hE2, ⟨rfl, rfl, rfl⟩, G2, rfl⟩
  case false =>
    cases hl : (ndAt l s).leaf
    case false =>
      have ha := hr.at hs hl
      have hf := hr.feature hs hl
      have hC : CutB (own l b s) (ndAt l s).feature (ndAt l s).cut = some (cutB (own l b s) (ndAt l s).feature (ndAt l s).cut) := cutB_of (okB_own hr hb s s (by omega)) (ndAt l s).feature (ok64_fits (hr.cutOk hs))
      have hch := own_child hr b hs hl
      have hpr : cutB (own l b s) (ndAt l s).feature (ndAt l s).cut = (own l b (ndAt l s).left.toNat, own l b (ndAt l s).right.toNat) := Prod.ext hch.1.symm hch.2.symm
      rw [hpr] at hC
      have c11 : S.length ≤ 1099511627774 := by omega
      have hw2 := wgt_two (s := s) (a := (ndAt l s).left.toNat) (b := (ndAt l s).right.toNat) (by omega) (by omega) (by omega)
      have hw3 : wgts (S ++ [(ndAt l s).left.toNat, (ndAt l s).right.toNat]) = wgts S + (wgt (ndAt l s).left.toNat + wgt (ndAt l s).right.toNat) := by rw [wgts_app]; simp [wgts]
      have hE2 : EI l b (S ++ [(ndAt l s).left.toNat, (ndAt l s).right.toNat]) lo hi sm := by
        refine ⟨?_, ?_, hE.att⟩
        · intro x hx
          rcases List.mem_append.1 hx with hx | hx
          · exact hlt x hx
          · simp at hx
            omega
        · intro j h1 h2 h3
          rcases hEc j h1 h2 h3 with h | ⟨x, hx, h⟩ | h
          · exact .inl h
          · exact .inr ⟨x, by simp [hx], h⟩
          · rcases Desc.cases' h with h | ⟨_, h | h⟩
            · subst h; rw [hl] at h2; cases h2
            · exact .inr ⟨_, by simp, h⟩
            · exact .inr ⟨_, by simp, h⟩
      have el : (((ndAt l s).left.toNat : Nat) : Int) = (ndAt l s).left := by omega
      have er : (((ndAt l s).right.toNat : Nat) : Int) = (ndAt l s).right := by omega
      have hcell : encL (S.map (vis l b)) ++ (Row.enc (vis l b (ndAt l s).left.toNat) ++ Row.enc (vis l b (ndAt l s).right.toNat)) = encL ((S ++ [(ndAt l s).left.toNat, (ndAt l s).right.toNat]).map (vis l b)) ++ [] := by simp [encL_append, encL_cons, encL_nil]
      cases sm <;> simp -implicitDefEqProofs [c0, c9, c10, c11, wL, htop, hU, hs, rd_words, hoe, hl, hC, htk, hlen2]
      all_goals refine ⟨_, ?_, S ++ [(ndAt l s).left.toNat, (ndAt l s).right.toNat], rfl, ?_, lo, hi, hE2, ⟨rfl, rfl, ?_⟩, [], ?_⟩
      all_goals first
        | omega
        | (simp; done)
        | (rw [← hcell, ← el, ← er]; rfl)
    case true =>
      have hpc : (⟨own l b s, (ndAt l s).value⟩ : Piece) ∈ pieces l b := mem_pieces.2 ⟨s, hs, hl, hoe, rfl⟩
      cases sm
      case false =>
        have hE2 : EI l b S (ndAt l s).value (ndAt l s).value true := by
          refine ⟨hlt, ?_, fun _ => ⟨⟨_, hpc, rfl⟩, ⟨_, hpc, rfl⟩⟩⟩
          intro j h1 h2 h3
          rcases hEc j h1 h2 h3 with ⟨h, _⟩ | h | h
          · cases h
          · exact .inr h
          · rcases Desc.cases' h with h | ⟨h, _⟩
            · subst h; exact .inl ⟨rfl, Int.le_refl _, Int.le_refl _⟩
            · rw [hl] at h; cases h
        simp -implicitDefEqProofs [c0, c9, c10, wL, htop, hU, hs, rd_words, hoe, hl]
        exact ⟨wgts S, by omega, S, rfl, by omega, _, _, hE2, ⟨rfl, rfl, rfl⟩, G2, rfl⟩
      case true =>
        obtain ⟨⟨u, hu, hu2⟩, ⟨v, hv, hv2⟩⟩ := hE.att rfl
        have hE2 : EI l b S (if (ndAt l s).value < lo then (ndAt l s).value else lo) (if hi < (ndAt l s).value then (ndAt l s).value else hi) true := by
          refine ⟨hlt, ?_, ?_⟩
          · intro j h1 h2 h3
            rcases hEc j h1 h2 h3 with ⟨_, h, h'⟩ | h | h
            · refine .inl ⟨rfl, ?_, ?_⟩ <;> split <;> omega
            · exact .inr h
            · rcases Desc.cases' h with h | ⟨h, _⟩
              · subst h; refine .inl ⟨rfl, ?_, ?_⟩ <;> split <;> omega
              · rw [hl] at h; cases h
          · intro _
            constructor
            · split
              · exact ⟨_, hpc, rfl⟩
              · exact ⟨u, hu, hu2⟩
            · split
              · exact ⟨_, hpc, rfl⟩
              · exact ⟨v, hv, hv2⟩
        simp -implicitDefEqProofs [c0, c9, c10, wL, htop, hU, hs, rd_words, hoe, hl]
        exact ⟨wgts S, by omega, S, rfl, by omega, _, _, hE2, ⟨rfl, rfl, rfl⟩, G2, rfl⟩
theorem c_ends : Contract Try.prog 143 (sp2 EndsC) :=
  contract_of_runs mixed (tbl_cons c_Unpack (tbl_cons c_bEmpty (tbl_cons c_bCut tbl_nil))) Try.func143 m143 (sp2_runs runs_ends)

def sumsP (m : Model) (c : Int) (b : Box) : Int × Int := if c < 0 ∨ m.classes ≤ c ∨ b.empty = true then (0, 0) else boundP m c b
noncomputable def SumsC (m : Model) (c : Int) (b : Box) : Option (Int × Int) := Part (RM m ∧ okB b) (sumsP m c b)
set_option maxHeartbeats 1000000 in
theorem runs_sums (m : Model) (c : Int) (b : Box) (r : Int × Int) (h : SumsC m c b = some r) : Runs (tbl [(71, sp1 MRight), (68, sp1 fun (b : Box) => some b.empty), (143, sp2 EndsC)]) a93 [Arg.enc m, Arg.enc c, Arg.enc b] (Arg.enc r) := by
  obtain ⟨⟨hr, hb⟩, rfl⟩ := part_some h
  refine ⟨rfl, fun g => run_def ?_⟩
  unfold a93
  have hM : MRight m = some true := by unfold MRight; rw [if_neg (by have := hr.dim; omega)]; exact part_of hr _
  by_cases h0 : c < 0
  case pos => simp -implicitDefEqProofs [hM, h0, sumsP]
  by_cases h1 : m.classes ≤ c
  case pos => simp -implicitDefEqProofs [hM, h0, h1, sumsP]
  cases he : b.empty
  case true => simp -implicitDefEqProofs [hM, h0, h1, he, sumsP]
  have hle := hr.trees
  have b3 : m.trees.length ≤ maxN := by unfold maxN; omega
  have c0 : 0 ≤ c := by omega
  have c3 : c < 3 := by have := hr.classes; omega
  have hres : sumsP m c b = ((boundP m c b).1, (boundP m c b).2) := by unfold sumsP; rw [if_neg (by simp [he]; omega)]
  rw [hres]
  simp -implicitDefEqProofs [hM, h0, h1, he, b3, c0, c3]
  refine run_while (c := c93_22) (fun n s => ∃ (i : Nat) (g : Nat → Nat), i + n = m.trees.length ∧ s = ⟨[(1, .int .i64 c), (5, .ptr 5 (g 5) 0), (8, .int .i64 ((m.trees.take i).foldl (boundF c b) (m.bias.get c, m.bias.get c)).1), (9, .int .i64 ((m.trees.take i).foldl (boundF c b) (m.bias.get c, m.bias.get c)).2), (40, .lst m.trees.length (encL m.trees)), (41, .int .i64 m.trees.length), (42, .int .i64 i)],
    [(5, ⟨[.int .i64 b.s0.lo, .int .i64 b.s0.hi, .int .i64 b.s1.lo, .int .i64 b.s1.hi, .int .i64 b.s2.lo, .int .i64 b.s2.hi, .int .i64 b.s3.lo, .int .i64 b.s3.hi, .int .i64 b.s4.lo, .int .i64 b.s4.hi], false, 0⟩)], g⟩) m.trees.length ⟨0, bump 5 (bump 3 g), by omega, by simp⟩ ?_
  rintro n s ⟨i, g, hi, rfl⟩
  by_cases h1 : i < m.trees.length
  case pos =>
    have w1 : IntKind.i64.wrap ((i : Int) + 1) = (i : Int) + 1 := wrap64 (by omega) (by omega)
    have hrow := rd_tree m.trees i h1
    have hrt := hr.rt (List.getElem_mem h1)
    have hV : EndsC m.trees[i].nodes b = some ((boundT m.trees[i].nodes b).a, (boundT m.trees[i].nodes b).b) := part_of ⟨⟨_, hrt⟩, hb, he⟩ _
    have hbd := boundF_le (c := c) he (m.trees.take (i + 1)) (m.bias.get c, m.bias.get c) (fun t ht => ⟨_, hr.rt (List.mem_of_mem_take ht)⟩)
    have hb2 := of_fits (Bias.get_fits hr c)
    have hs : (m.trees.take (i + 1)).foldl (boundF c b) (m.bias.get c, m.bias.get c) = boundF c b ((m.trees.take i).foldl (boundF c b) (m.bias.get c, m.bias.get c)) m.trees[i] := by
      rw [List.take_succ_eq_append_getElem h1, List.foldl_append]
      rfl
    have hl : (m.trees.take (i + 1)).length ≤ 8 := by simp; omega
    simp only at hbd
    by_cases hc : m.trees[i].cls = c
    case pos =>
      have hs1 : ((m.trees.take (i + 1)).foldl (boundF c b) (m.bias.get c, m.bias.get c)).1 = ((m.trees.take i).foldl (boundF c b) (m.bias.get c, m.bias.get c)).1 + (boundT m.trees[i].nodes b).a := by rw [hs, boundF, if_pos hc]
      have hs2 : ((m.trees.take (i + 1)).foldl (boundF c b) (m.bias.get c, m.bias.get c)).2 = ((m.trees.take i).foldl (boundF c b) (m.bias.get c, m.bias.get c)).2 + (boundT m.trees[i].nodes b).b := by rw [hs, boundF, if_pos hc]
      have w2 : IntKind.i64.wrap (((m.trees.take i).foldl (boundF c b) (m.bias.get c, m.bias.get c)).1 + (boundT m.trees[i].nodes b).a) = ((m.trees.take (i + 1)).foldl (boundF c b) (m.bias.get c, m.bias.get c)).1 := by rw [← hs1]; exact wrap64 (by omega) (by omega)
      have w3 : IntKind.i64.wrap (((m.trees.take i).foldl (boundF c b) (m.bias.get c, m.bias.get c)).2 + (boundT m.trees[i].nodes b).b) = ((m.trees.take (i + 1)).foldl (boundF c b) (m.bias.get c, m.bias.get c)).2 := by rw [← hs2]; exact wrap64 (by omega) (by omega)
      simp -implicitDefEqProofs [h1, hrow, hc, hV, w1, w2, w3]
      exact ⟨n - 1, by omega, i + 1, by omega, rfl, rfl, by omega⟩
    case neg =>
      have hs2 : (m.trees.take (i + 1)).foldl (boundF c b) (m.bias.get c, m.bias.get c) = (m.trees.take i).foldl (boundF c b) (m.bias.get c, m.bias.get c) := by rw [hs, boundF, if_neg hc]
      simp -implicitDefEqProofs [h1, hrow, hc, hV, w1]
      exact ⟨n - 1, by omega, i + 1, by omega, by rw [hs2], by rw [hs2], by omega⟩
  case neg =>
    have hil : i = m.trees.length := by omega
    subst hil
    simp -implicitDefEqProofs [h1, boundP]
theorem c_sums : Contract Try.prog 93 (sp3 SumsC) :=
  contract_of_runs mixed (tbl_cons c_mRight (tbl_cons c_bEmpty (tbl_cons c_ends tbl_nil))) Try.func93 m93 (sp3_runs runs_sums)
end Go.Co
