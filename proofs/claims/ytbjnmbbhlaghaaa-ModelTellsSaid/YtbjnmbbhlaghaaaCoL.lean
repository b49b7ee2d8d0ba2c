/- CO: the pieces of a tree within a box. -/
import Derived.Test.YtbjnmbbhlaghaaaCoF
namespace Go.Co
open Go.Am Go.Proofs
set_option linter.unusedSimpArgs false
set_option linter.unusedVariables false

/- copse/leaves.List -/
def c51_0 : ACode := .ops [⟨some 3, .box (.t 1) 10, none, []⟩,
  ⟨some 4, .mv (.c (.nils)), none, []⟩] [0, 3]
theorem r51_0 {C : Cs} {k : List Fr} {s : St} {Q : Post} : run C c51_0 k s Q = run C (.ops [⟨some 3, .box (.t 1) 10, none, []⟩,
  ⟨some 4, .mv (.c (.nils)), none, []⟩] [0, 3]) k s Q := rfl
def c51_1 : ACode := .ops [⟨some 11, .mv (.t 0), none, []⟩,
  ⟨some 12, .call 76 [.t 11, .c (.int .i64 4)], none, []⟩,
  ⟨some 13, .un .not (.t 12), none, []⟩,
  ⟨some 14, .mv (.t 13), none, []⟩,
  ⟨some 15, .load 10 true (.t 3), some (14, false), [3]⟩,
  ⟨some 16, .call 68 [.t 15], some (14, false), []⟩,
  ⟨some 17, .pick (.t 14) (.c (.bool true)) (.t 16), none, []⟩] [0, 3, 17]
theorem r51_1 {C : Cs} {k : List Fr} {s : St} {Q : Post} : run C c51_1 k s Q = run C (.ops [⟨some 11, .mv (.t 0), none, []⟩,
  ⟨some 12, .call 76 [.t 11, .c (.int .i64 4)], none, []⟩,
  ⟨some 13, .un .not (.t 12), none, []⟩,
  ⟨some 14, .mv (.t 13), none, []⟩,
  ⟨some 15, .load 10 true (.t 3), some (14, false), [3]⟩,
  ⟨some 16, .call 68 [.t 15], some (14, false), []⟩,
  ⟨some 17, .pick (.t 14) (.c (.bool true)) (.t 16), none, []⟩] [0, 3, 17]) k s Q := rfl
def c51_2 : ACode := .ops [⟨some 4, .mv (.c (.nils)), none, []⟩] [4]
theorem r51_2 {C : Cs} {k : List Fr} {s : St} {Q : Post} : run C c51_2 k s Q = run C (.ops [⟨some 4, .mv (.c (.nils)), none, []⟩] [4]) k s Q := rfl
def c51_3 : ACode := .seq c51_2 .ret
theorem r51_3 {C : Cs} {k : List Fr} {s : St} {Q : Post} : run C c51_3 k s Q = run C (.seq c51_2 .ret) k s Q := rfl
def c51_4 : ACode := .cond (.t 17) c51_3 .skip
theorem r51_4 {C : Cs} {k : List Fr} {s : St} {Q : Post} : run C c51_4 k s Q = run C (.cond (.t 17) c51_3 .skip) k s Q := rfl
def c51_5 : ACode := .seq c51_1 c51_4
theorem r51_5 {C : Cs} {k : List Fr} {s : St} {Q : Post} : run C c51_5 k s Q = run C (.seq c51_1 c51_4) k s Q := rfl
def c51_6 : ACode := .ops [⟨some 18, .mv (.t 0), none, []⟩,
  ⟨some 19, .len (.t 18), none, []⟩,
  ⟨some 20, .mks 5 (.t 19) 10 [.int .i64 0, .int .i64 0, .int .i64 0, .int .i64 0, .int .i64 0, .int .i64 0, .int .i64 0, .int .i64 0, .int .i64 0, .int .i64 0], none, []⟩,
  ⟨some 5, .mv (.t 20), none, []⟩] [0, 3, 5]
theorem r51_6 {C : Cs} {k : List Fr} {s : St} {Q : Post} : run C c51_6 k s Q = run C (.ops [⟨some 18, .mv (.t 0), none, []⟩,
  ⟨some 19, .len (.t 18), none, []⟩,
  ⟨some 20, .mks 5 (.t 19) 10 [.int .i64 0, .int .i64 0, .int .i64 0, .int .i64 0, .int .i64 0, .int .i64 0, .int .i64 0, .int .i64 0, .int .i64 0, .int .i64 0], none, []⟩,
  ⟨some 5, .mv (.t 20), none, []⟩] [0, 3, 5]) k s Q := rfl
def c51_7 : ACode := .ops [⟨some 21, .mv (.t 5), none, []⟩,
  ⟨some 22, .load 10 true (.t 3), none, [3]⟩,
  ⟨some 23, .ias (.t 21) (.c (.int .i64 0)) 10, none, [5]⟩,
  ⟨none, .store (.t 23) 10 (.t 22), none, [5]⟩] [0, 5]
theorem r51_7 {C : Cs} {k : List Fr} {s : St} {Q : Post} : run C c51_7 k s Q = run C (.ops [⟨some 21, .mv (.t 5), none, []⟩,
  ⟨some 22, .load 10 true (.t 3), none, [3]⟩,
  ⟨some 23, .ias (.t 21) (.c (.int .i64 0)) 10, none, [5]⟩,
  ⟨none, .store (.t 23) 10 (.t 22), none, [5]⟩] [0, 5]) k s Q := rfl
def c51_8 : ACode := .ops [⟨some 6, .nil0 6 11, none, []⟩] [0, 5, 6]
theorem r51_8 {C : Cs} {k : List Fr} {s : St} {Q : Post} : run C c51_8 k s Q = run C (.ops [⟨some 6, .nil0 6 11, none, []⟩] [0, 5, 6]) k s Q := rfl
def c51_9 : ACode := .ops [⟨some 24, .mv (.t 0), none, []⟩,
  ⟨some 25, .len (.t 24), none, []⟩,
  ⟨some 26, .mv (.c (.int .i64 0)), none, []⟩] [5, 6, 24, 25, 26]
theorem r51_9 {C : Cs} {k : List Fr} {s : St} {Q : Post} : run C c51_9 k s Q = run C (.ops [⟨some 24, .mv (.t 0), none, []⟩,
  ⟨some 25, .len (.t 24), none, []⟩,
  ⟨some 26, .mv (.c (.int .i64 0)), none, []⟩] [5, 6, 24, 25, 26]) k s Q := rfl
def c51_10 : ACode := .ops [⟨some 27, .bin .lss (.t 26) (.t 25), none, []⟩] [5, 6, 24, 25, 26, 27]
theorem r51_10 {C : Cs} {k : List Fr} {s : St} {Q : Post} : run C c51_10 k s Q = run C (.ops [⟨some 27, .bin .lss (.t 26) (.t 25), none, []⟩] [5, 6, 24, 25, 26, 27]) k s Q := rfl
def c51_11 : ACode := .cond (.t 27) .skip (.exit 0)
theorem r51_11 {C : Cs} {k : List Fr} {s : St} {Q : Post} : run C c51_11 k s Q = run C (.cond (.t 27) .skip (.exit 0)) k s Q := rfl
def c51_12 : ACode := .ops [⟨some 28, .mv (.t 26), none, []⟩,
  ⟨some 29, .ias (.t 24) (.t 26) 1, none, []⟩,
  ⟨some 30, .load 1 false (.t 29), none, []⟩,
  ⟨some 7, .mv (.t 28), none, []⟩,
  ⟨some 8, .mv (.t 30), none, []⟩] [5, 6, 7, 8, 24, 25, 26]
theorem r51_12 {C : Cs} {k : List Fr} {s : St} {Q : Post} : run C c51_12 k s Q = run C (.ops [⟨some 28, .mv (.t 26), none, []⟩,
  ⟨some 29, .ias (.t 24) (.t 26) 1, none, []⟩,
  ⟨some 30, .load 1 false (.t 29), none, []⟩,
  ⟨some 7, .mv (.t 28), none, []⟩,
  ⟨some 8, .mv (.t 30), none, []⟩] [5, 6, 7, 8, 24, 25, 26]) k s Q := rfl
def c51_13 : ACode := .ops [⟨some 32, .mv (.t 8), none, []⟩,
  ⟨some 33, .call 77 [.t 32], none, []⟩,
  ⟨some 31, .mv (.t 33), none, []⟩,
  ⟨some 34, .ext (.t 31) 0, none, []⟩,
  ⟨some 35, .ext (.t 31) 1, none, []⟩,
  ⟨some 9, .alloc [.bool false, .int .i64 0, .int .i64 0, .int .i64 0, .int .i64 0, .int .i64 0], none, []⟩,
  ⟨none, .store (.t 9) 6 (.t 34), none, [9]⟩,
  ⟨some 10, .mv (.t 35), none, []⟩] [5, 6, 7, 9, 24, 25, 26]
theorem r51_13 {C : Cs} {k : List Fr} {s : St} {Q : Post} : run C c51_13 k s Q = run C (.ops [⟨some 32, .mv (.t 8), none, []⟩,
  ⟨some 33, .call 77 [.t 32], none, []⟩,
  ⟨some 31, .mv (.t 33), none, []⟩,
  ⟨some 34, .ext (.t 31) 0, none, []⟩,
  ⟨some 35, .ext (.t 31) 1, none, []⟩,
  ⟨some 9, .alloc [.bool false, .int .i64 0, .int .i64 0, .int .i64 0, .int .i64 0, .int .i64 0], none, []⟩,
  ⟨none, .store (.t 9) 6 (.t 34), none, [9]⟩,
  ⟨some 10, .mv (.t 35), none, []⟩] [5, 6, 7, 9, 24, 25, 26]) k s Q := rfl
def c51_14 : ACode := .ops [⟨some 37, .fad (.t 9) 0, none, [9]⟩,
  ⟨some 38, .load 1 false (.t 37), none, [9]⟩,
  ⟨some 39, .un .not (.t 38), none, []⟩,
  ⟨some 36, .mv (.t 39), none, []⟩] [5, 6, 7, 9, 24, 25, 26, 36]
theorem r51_14 {C : Cs} {k : List Fr} {s : St} {Q : Post} : run C c51_14 k s Q = run C (.ops [⟨some 37, .fad (.t 9) 0, none, [9]⟩,
  ⟨some 38, .load 1 false (.t 37), none, [9]⟩,
  ⟨some 39, .un .not (.t 38), none, []⟩,
  ⟨some 36, .mv (.t 39), none, []⟩] [5, 6, 7, 9, 24, 25, 26, 36]) k s Q := rfl
def c51_15 : ACode := .ops [⟨some 41, .mv (.t 5), none, []⟩,
  ⟨some 42, .fad (.t 9) 4, none, [9]⟩,
  ⟨some 43, .load 1 false (.t 42), none, [9]⟩,
  ⟨some 44, .mv (.t 5), none, []⟩,
  ⟨some 45, .fad (.t 9) 5, none, [9]⟩,
  ⟨some 46, .load 1 false (.t 45), none, [9]⟩,
  ⟨some 47, .mv (.t 5), none, []⟩,
  ⟨some 48, .mv (.t 7), none, []⟩,
  ⟨some 49, .ias (.t 47) (.t 48) 10, none, [5]⟩,
  ⟨some 50, .load 10 true (.t 49), none, [5]⟩,
  ⟨some 51, .fad (.t 9) 2, none, [9]⟩,
  ⟨some 52, .load 1 false (.t 51), none, [9]⟩,
  ⟨some 53, .fad (.t 9) 3, none, [9]⟩,
  ⟨some 54, .load 1 false (.t 53), none, [9]⟩,
  ⟨some 55, .call 67 [.t 50, .t 52, .t 54], none, []⟩,
  ⟨some 40, .mv (.t 55), none, []⟩,
  ⟨some 56, .ext (.t 40) 0, none, []⟩,
  ⟨some 57, .ext (.t 40) 1, none, []⟩,
  ⟨some 58, .ias (.t 41) (.t 43) 10, none, [5]⟩,
  ⟨none, .store (.t 58) 10 (.t 56), none, [5]⟩,
  ⟨some 59, .ias (.t 44) (.t 46) 10, none, [5]⟩,
  ⟨none, .store (.t 59) 10 (.t 57), none, [5]⟩] [5, 6, 24, 25, 26]
theorem r51_15 {C : Cs} {k : List Fr} {s : St} {Q : Post} : run C c51_15 k s Q = run C (.ops [⟨some 41, .mv (.t 5), none, []⟩,
  ⟨some 42, .fad (.t 9) 4, none, [9]⟩,
  ⟨some 43, .load 1 false (.t 42), none, [9]⟩,
  ⟨some 44, .mv (.t 5), none, []⟩,
  ⟨some 45, .fad (.t 9) 5, none, [9]⟩,
  ⟨some 46, .load 1 false (.t 45), none, [9]⟩,
  ⟨some 47, .mv (.t 5), none, []⟩,
  ⟨some 48, .mv (.t 7), none, []⟩,
  ⟨some 49, .ias (.t 47) (.t 48) 10, none, [5]⟩,
  ⟨some 50, .load 10 true (.t 49), none, [5]⟩,
  ⟨some 51, .fad (.t 9) 2, none, [9]⟩,
  ⟨some 52, .load 1 false (.t 51), none, [9]⟩,
  ⟨some 53, .fad (.t 9) 3, none, [9]⟩,
  ⟨some 54, .load 1 false (.t 53), none, [9]⟩,
  ⟨some 55, .call 67 [.t 50, .t 52, .t 54], none, []⟩,
  ⟨some 40, .mv (.t 55), none, []⟩,
  ⟨some 56, .ext (.t 40) 0, none, []⟩,
  ⟨some 57, .ext (.t 40) 1, none, []⟩,
  ⟨some 58, .ias (.t 41) (.t 43) 10, none, [5]⟩,
  ⟨none, .store (.t 58) 10 (.t 56), none, [5]⟩,
  ⟨some 59, .ias (.t 44) (.t 46) 10, none, [5]⟩,
  ⟨none, .store (.t 59) 10 (.t 57), none, [5]⟩] [5, 6, 24, 25, 26]) k s Q := rfl
def c51_16 : ACode := .ops [⟨some 61, .mv (.t 5), none, []⟩,
  ⟨some 62, .mv (.t 7), none, []⟩,
  ⟨some 63, .ias (.t 61) (.t 62) 10, none, [5]⟩,
  ⟨some 64, .load 10 true (.t 63), none, [5]⟩,
  ⟨some 65, .call 68 [.t 64], none, []⟩,
  ⟨some 66, .un .not (.t 65), none, []⟩,
  ⟨some 60, .mv (.t 66), none, []⟩] [5, 6, 7, 9, 24, 25, 26, 60]
theorem r51_16 {C : Cs} {k : List Fr} {s : St} {Q : Post} : run C c51_16 k s Q = run C (.ops [⟨some 61, .mv (.t 5), none, []⟩,
  ⟨some 62, .mv (.t 7), none, []⟩,
  ⟨some 63, .ias (.t 61) (.t 62) 10, none, [5]⟩,
  ⟨some 64, .load 10 true (.t 63), none, [5]⟩,
  ⟨some 65, .call 68 [.t 64], none, []⟩,
  ⟨some 66, .un .not (.t 65), none, []⟩,
  ⟨some 60, .mv (.t 66), none, []⟩] [5, 6, 7, 9, 24, 25, 26, 60]) k s Q := rfl
def c51_17 : ACode := .ops [⟨some 67, .mv (.t 6), none, []⟩,
  ⟨some 68, .mv (.t 5), none, []⟩,
  ⟨some 69, .mv (.t 7), none, []⟩,
  ⟨some 70, .ias (.t 68) (.t 69) 10, none, [5]⟩,
  ⟨some 71, .load 10 true (.t 70), none, [5]⟩,
  ⟨some 72, .fad (.t 9) 1, none, [9]⟩,
  ⟨some 73, .load 1 false (.t 72), none, [9]⟩,
  ⟨some 74, .build [.int .i64 0, .int .i64 0, .int .i64 0, .int .i64 0, .int .i64 0, .int .i64 0, .int .i64 0, .int .i64 0, .int .i64 0, .int .i64 0, .int .i64 0] [(0, 10, .t 71), (10, 1, .t 73)], none, []⟩,
  ⟨some 75, .mkrow 75 1 11 [.int .i64 0, .int .i64 0, .int .i64 0, .int .i64 0, .int .i64 0, .int .i64 0, .int .i64 0, .int .i64 0, .int .i64 0, .int .i64 0, .int .i64 0] [(0, 11, .t 74)], none, []⟩,
  ⟨some 76, .app 6 [6] (.t 67) (.t 75) 11, none, [6, 75]⟩,
  ⟨some 6, .mv (.t 76), none, []⟩] [5, 6, 24, 25, 26]
theorem r51_17 {C : Cs} {k : List Fr} {s : St} {Q : Post} : run C c51_17 k s Q = run C (.ops [⟨some 67, .mv (.t 6), none, []⟩,
  ⟨some 68, .mv (.t 5), none, []⟩,
  ⟨some 69, .mv (.t 7), none, []⟩,
  ⟨some 70, .ias (.t 68) (.t 69) 10, none, [5]⟩,
  ⟨some 71, .load 10 true (.t 70), none, [5]⟩,
  ⟨some 72, .fad (.t 9) 1, none, [9]⟩,
  ⟨some 73, .load 1 false (.t 72), none, [9]⟩,
  ⟨some 74, .build [.int .i64 0, .int .i64 0, .int .i64 0, .int .i64 0, .int .i64 0, .int .i64 0, .int .i64 0, .int .i64 0, .int .i64 0, .int .i64 0, .int .i64 0] [(0, 10, .t 71), (10, 1, .t 73)], none, []⟩,
  ⟨some 75, .mkrow 75 1 11 [.int .i64 0, .int .i64 0, .int .i64 0, .int .i64 0, .int .i64 0, .int .i64 0, .int .i64 0, .int .i64 0, .int .i64 0, .int .i64 0, .int .i64 0] [(0, 11, .t 74)], none, []⟩,
  ⟨some 76, .app 6 [6] (.t 67) (.t 75) 11, none, [6, 75]⟩,
  ⟨some 6, .mv (.t 76), none, []⟩] [5, 6, 24, 25, 26]) k s Q := rfl
def c51_18 : ACode := .cond (.t 60) c51_17 .skip
theorem r51_18 {C : Cs} {k : List Fr} {s : St} {Q : Post} : run C c51_18 k s Q = run C (.cond (.t 60) c51_17 .skip) k s Q := rfl
def c51_19 : ACode := .seq c51_16 c51_18
theorem r51_19 {C : Cs} {k : List Fr} {s : St} {Q : Post} : run C c51_19 k s Q = run C (.seq c51_16 c51_18) k s Q := rfl
def c51_20 : ACode := .cond (.t 36) c51_15 c51_19
theorem r51_20 {C : Cs} {k : List Fr} {s : St} {Q : Post} : run C c51_20 k s Q = run C (.cond (.t 36) c51_15 c51_19) k s Q := rfl
def c51_21 : ACode := .seq c51_14 c51_20
theorem r51_21 {C : Cs} {k : List Fr} {s : St} {Q : Post} : run C c51_21 k s Q = run C (.seq c51_14 c51_20) k s Q := rfl
def c51_22 : ACode := .block 2 c51_21
theorem r51_22 {C : Cs} {k : List Fr} {s : St} {Q : Post} : run C c51_22 k s Q = run C (.block 2 c51_21) k s Q := rfl
def c51_23 : ACode := .seq c51_13 c51_22
theorem r51_23 {C : Cs} {k : List Fr} {s : St} {Q : Post} : run C c51_23 k s Q = run C (.seq c51_13 c51_22) k s Q := rfl
def c51_24 : ACode := .seq c51_12 c51_23
theorem r51_24 {C : Cs} {k : List Fr} {s : St} {Q : Post} : run C c51_24 k s Q = run C (.seq c51_12 c51_23) k s Q := rfl
def c51_25 : ACode := .block 1 c51_24
theorem r51_25 {C : Cs} {k : List Fr} {s : St} {Q : Post} : run C c51_25 k s Q = run C (.block 1 c51_24) k s Q := rfl
def c51_26 : ACode := .ops [⟨some 77, .bin .add (.t 26) (.c (.int .i64 1)), none, []⟩,
  ⟨some 26, .mv (.t 77), none, []⟩] [5, 6, 24, 25, 26]
theorem r51_26 {C : Cs} {k : List Fr} {s : St} {Q : Post} : run C c51_26 k s Q = run C (.ops [⟨some 77, .bin .add (.t 26) (.c (.int .i64 1)), none, []⟩,
  ⟨some 26, .mv (.t 77), none, []⟩] [5, 6, 24, 25, 26]) k s Q := rfl
def c51_27 : ACode := .seq c51_25 c51_26
theorem r51_27 {C : Cs} {k : List Fr} {s : St} {Q : Post} : run C c51_27 k s Q = run C (.seq c51_25 c51_26) k s Q := rfl
def c51_28 : ACode := .seq c51_11 c51_27
theorem r51_28 {C : Cs} {k : List Fr} {s : St} {Q : Post} : run C c51_28 k s Q = run C (.seq c51_11 c51_27) k s Q := rfl
def c51_29 : ACode := .seq c51_10 c51_28
theorem r51_29 {C : Cs} {k : List Fr} {s : St} {Q : Post} : run C c51_29 k s Q = run C (.seq c51_10 c51_28) k s Q := rfl
def c51_30 : ACode := .keep [5, 6, 24, 25, 26] [5, 6] c51_29
theorem r51_30 {C : Cs} {k : List Fr} {s : St} {Q : Post} : run C c51_30 k s Q = run C (.keep [5, 6, 24, 25, 26] [5, 6] c51_29) k s Q := rfl
def c51_31 : ACode := .loop c51_30
theorem r51_31 {C : Cs} {k : List Fr} {s : St} {Q : Post} : run C c51_31 k s Q = run C (.loop c51_30) k s Q := rfl
def c51_32 : ACode := .block 0 c51_31
theorem r51_32 {C : Cs} {k : List Fr} {s : St} {Q : Post} : run C c51_32 k s Q = run C (.block 0 c51_31) k s Q := rfl
def c51_33 : ACode := .seq c51_9 c51_32
theorem r51_33 {C : Cs} {k : List Fr} {s : St} {Q : Post} : run C c51_33 k s Q = run C (.seq c51_9 c51_32) k s Q := rfl
def c51_34 : ACode := .ops [⟨some 78, .mv (.t 6), none, []⟩,
  ⟨some 4, .mv (.t 78), none, []⟩] [4]
theorem r51_34 {C : Cs} {k : List Fr} {s : St} {Q : Post} : run C c51_34 k s Q = run C (.ops [⟨some 78, .mv (.t 6), none, []⟩,
  ⟨some 4, .mv (.t 78), none, []⟩] [4]) k s Q := rfl
def c51_35 : ACode := .seq c51_34 .ret
theorem r51_35 {C : Cs} {k : List Fr} {s : St} {Q : Post} : run C c51_35 k s Q = run C (.seq c51_34 .ret) k s Q := rfl
def c51_36 : ACode := .seq c51_33 c51_35
theorem r51_36 {C : Cs} {k : List Fr} {s : St} {Q : Post} : run C c51_36 k s Q = run C (.seq c51_33 c51_35) k s Q := rfl
def c51_37 : ACode := .seq c51_8 c51_36
theorem r51_37 {C : Cs} {k : List Fr} {s : St} {Q : Post} : run C c51_37 k s Q = run C (.seq c51_8 c51_36) k s Q := rfl
def c51_38 : ACode := .seq c51_7 c51_37
theorem r51_38 {C : Cs} {k : List Fr} {s : St} {Q : Post} : run C c51_38 k s Q = run C (.seq c51_7 c51_37) k s Q := rfl
def c51_39 : ACode := .seq c51_6 c51_38
theorem r51_39 {C : Cs} {k : List Fr} {s : St} {Q : Post} : run C c51_39 k s Q = run C (.seq c51_6 c51_38) k s Q := rfl
def c51_40 : ACode := .seq c51_5 c51_39
theorem r51_40 {C : Cs} {k : List Fr} {s : St} {Q : Post} : run C c51_40 k s Q = run C (.seq c51_5 c51_39) k s Q := rfl
def c51_41 : ACode := .seq c51_0 c51_40
theorem r51_41 {C : Cs} {k : List Fr} {s : St} {Q : Post} : run C c51_41 k s Q = run C (.seq c51_0 c51_40) k s Q := rfl
def a51 : AFun := ⟨2, 79, c51_41, [.t 4]⟩
attribute [simp] r51_0 r51_1 r51_2 r51_3 r51_4 r51_5 r51_6 r51_7 r51_8 r51_9 r51_10 r51_11 r51_12 r51_13 r51_14 r51_15 r51_16 r51_17 r51_18 r51_19 r51_20 r51_21 r51_22 r51_23 r51_24 r51_25 r51_26 r51_27 r51_28 r51_29 r51_30 r51_31 r51_32 r51_33 r51_34 r51_35 r51_36 r51_37 r51_38 r51_39 r51_40 r51_41
theorem m51 : mFun Try.prog Try.f51 a51 = true := by decide +kernel


def okS64 (s : Span) : Prop := ok64 s.lo ∧ ok64 s.hi
def okB (b : Box) : Prop := okS64 b.s0 ∧ okS64 b.s1 ∧ okS64 b.s2 ∧ okS64 b.s3 ∧ okS64 b.s4
theorem okS_of {lo hi : Int} (h : ok64 lo) (h' : ok64 hi) : okS64 (ofS lo hi) := by
  unfold ofS
  split
  · unfold okS64 ok64 noneS; simp only; omega
  · exact ⟨h, h'⟩
theorem okS_cut {s : Span} (h : okS64 s) {n : Int} (hn : ok64 n) : okS64 (cutS s n).1 ∧ okS64 (cutS s n).2 := by
  unfold cutS
  split
  · exact ⟨okS_of h.1 h.2, by unfold okS64 ok64 noneS; simp only; omega⟩
  · refine ⟨okS_of h.1 hn, okS_of ?_ h.2⟩
    have := h.1
    have := h.2
    unfold ok64 at *
    split <;> omega
theorem okB_get {b : Box} (h : okB b) (i : Int) : okS64 (b.get i) := by
  obtain ⟨h0, h1, h2, h3, h4⟩ := h
  unfold Box.get
  split
  · exact h0
  · split
    · exact h1
    · split
      · exact h2
      · split
        · exact h3
        · exact h4
theorem okB_set {b : Box} (h : okB b) (i : Int) {s : Span} (hs : okS64 s) : okB (b.set i s) := by
  obtain ⟨h0, h1, h2, h3, h4⟩ := h
  unfold Box.set
  split
  · exact ⟨hs, h1, h2, h3, h4⟩
  · split
    · exact ⟨h0, hs, h2, h3, h4⟩
    · split
      · exact ⟨h0, h1, hs, h3, h4⟩
      · split
        · exact ⟨h0, h1, h2, hs, h4⟩
        · exact ⟨h0, h1, h2, h3, hs⟩
theorem okB_cut {b : Box} (h : okB b) (i : Int) {n : Int} (hn : ok64 n) : okB (cutB b i n).1 ∧ okB (cutB b i n).2 := by
  unfold cutB
  split
  · have := okS_cut (okB_get h i) hn
    exact ⟨okB_set h i this.1, okB_set h i this.2⟩
  · exact ⟨h, h⟩
theorem ok64_fits {n : Int} (h : fits n = true) : ok64 n := by have := of_fits h; unfold ok64; omega
theorem okB_zero : okB zeroB := by unfold okB okS64 ok64 zeroB; simp only; omega
theorem okB_own {l : List Word} {dim : Int} (hr : RT l dim) {b : Box} (hb : okB b) : ∀ (i j : Nat), i ≤ l.length → okB (ownF l b i j)
  | 0, j, _ => by
    unfold ownF up
    split
    · exact hb
    · exact okB_zero
  | i + 1, j, hi => by
    unfold ownF
    have h0 := fun j => okB_own hr hb i j (by omega)
    split
    · exact h0 j
    · have hc := okB_cut (h0 i) (ndAt l i).feature (ok64_fits (hr.cutOk (show i < l.length by omega)))
      unfold up
      split
      · exact hc.2
      · split
        · exact hc.1
        · exact h0 j
theorem cutB_of {b : Box} (h : okB b) (i : Int) {n : Int} (hn : ok64 n) : CutB b i n = some (cutB b i n) := by
  unfold CutB
  rw [if_pos ⟨hn, (okB_get h i).2⟩]

theorem RT.four {l : List Word} {dim : Int} (h : RT l dim) : RT l 4 := by
  refine ⟨h.ok, h.pos, h.le, fun i hi hl => ?_, h.once⟩
  have h1 := h.inner i hi hl
  have h2 := h.feature hi (by rw [ndAt_lt hi]; exact hl)
  rw [ndAt_lt hi] at h2
  exact ⟨h2.2, h1.2⟩

def ownL (l : List Word) (b : Box) (i : Nat) : List Box := (List.range l.length).map (ownF l b i)
theorem ownL_len (l : List Word) (b : Box) (i : Nat) : (ownL l b i).length = l.length := by simp [ownL]
theorem ownL_get (l : List Word) (b : Box) (i j : Nat) (h : j < (ownL l b i).length) : (ownL l b i)[j] = ownF l b i j := by simp [ownL]
theorem ownL_zero (l : List Word) (b : Box) (h : 0 < l.length) : ownL l b 0 = (List.replicate l.length zeroB).set 0 b := by
  apply List.ext_getElem
  · simp [ownL]
  · intro j h1 h2
    rw [ownL_get, List.getElem_set]
    unfold ownF up
    by_cases hj : j = 0
    · subst hj; simp
    · rw [if_neg hj, if_neg (Ne.symm hj)]; simp
theorem ownL_leaf {l : List Word} (b : Box) {i : Nat} (hl : (ndAt l i).leaf = true) : ownL l b (i + 1) = ownL l b i := by
  unfold ownL
  congr 1
  funext j
  rw [ownF, hl]
  rfl
theorem ownL_inner {l : List Word} (b : Box) {i : Nat} (hl : (ndAt l i).leaf = false) : ownL l b (i + 1) =
    ((ownL l b i).set (ndAt l i).left.toNat (cutB (own l b i) (ndAt l i).feature (ndAt l i).cut).1).set (ndAt l i).right.toNat (cutB (own l b i) (ndAt l i).feature (ndAt l i).cut).2 := by
  apply List.ext_getElem
  · simp [ownL]
  · intro j h1 h2
    rw [ownL_get, List.getElem_set, List.getElem_set, ownF, hl]
    simp only [Bool.false_eq_true, if_false, up, ownL_get]
    by_cases e1 : j = (ndAt l i).right.toNat
    · rw [if_pos e1, if_pos e1.symm]; rfl
    · rw [if_neg e1, if_neg (Ne.symm e1)]
      by_cases e2 : j = (ndAt l i).left.toNat
      · rw [if_pos e2, if_pos e2.symm]; rfl
      · rw [if_neg e2, if_neg (Ne.symm e2)]

def piecesTo (l : List Word) (b : Box) (i : Nat) : List Piece := (List.range i).filterMap (pieceAt l b)
theorem piecesTo_succ (l : List Word) (b : Box) (i : Nat) : piecesTo l b (i + 1) = piecesTo l b i ++ (pieceAt l b i).toList := by
  unfold piecesTo
  rw [List.range_succ, List.filterMap_append]
  congr 1
theorem piecesTo_len (l : List Word) (b : Box) (i : Nat) : (piecesTo l b i).length ≤ i := by
  unfold piecesTo
  have := List.length_filterMap_le (pieceAt l b) (List.range i)
  simpa using this

theorem rd_box (l : List Box) (i : Nat) (h : i < l.length) : rd (encL l) (i * 10) 10 true = some (Arg.enc l[i]) := rd_row l i h
theorem wr_box (l : List Box) (i : Nat) (h : i < l.length) (b : Box) : wr (encL l) (i * 10) [.int .i64 b.s0.lo, .int .i64 b.s0.hi, .int .i64 b.s1.lo, .int .i64 b.s1.hi, .int .i64 b.s2.lo, .int .i64 b.s2.hi, .int .i64 b.s3.lo, .int .i64 b.s3.hi, .int .i64 b.s4.lo, .int .i64 b.s4.hi] = encL (l.set i b) := wr_row l i h b

noncomputable def ListC (l : List Word) (b : Box) : Option (List Piece) := Part ((∃ d, RT l d) ∧ okB b) (if b.empty then [] else pieces l b)
set_option maxHeartbeats 1000000 in
theorem runs_List (l : List Word) (b : Box) (c : List Piece) (h : ListC l b = some c) : Runs (tbl [(76, sp2 TreeRight), (68, sp1 fun (b : Box) => some b.empty), (77, sp1 Unpack), (67, sp3 CutB)]) a51 [Arg.enc l, Arg.enc b] (Arg.enc c) := by
  obtain ⟨⟨⟨d, hr⟩, hb⟩, rfl⟩ := part_some h
  refine ⟨rfl, fun g => run_def ?_⟩
  unfold a51
  have hT : TreeRight l 4 = some true := part_of hr.four _
  cases he : b.empty
  case true => simp -implicitDefEqProofs [hT, he, encL_nil]
  have hp := hr.pos
  have hle := hr.le
  have b3 : l.length ≤ maxN := by unfold maxN; omega
  have b4 : (l.length : Int) ≤ 1099511627776 := by omega
  have b5 : (0 : Int) < l.length := by omega
  have hz : rep l.length [.int .i64 0, .int .i64 0, .int .i64 0, .int .i64 0, .int .i64 0, .int .i64 0, .int .i64 0, .int .i64 0, .int .i64 0, .int .i64 0] = encL (List.replicate l.length zeroB) := rep_enc l.length zeroB
  have hw0 : wr (encL (List.replicate l.length zeroB)) 0 [.int .i64 b.s0.lo, .int .i64 b.s0.hi, .int .i64 b.s1.lo, .int .i64 b.s1.hi, .int .i64 b.s2.lo, .int .i64 b.s2.hi, .int .i64 b.s3.lo, .int .i64 b.s3.hi, .int .i64 b.s4.lo, .int .i64 b.s4.hi] = encL (ownL l b 0) := by
    rw [ownL_zero l b (by omega)]
    exact wr_box (List.replicate l.length zeroB) 0 (by simp; omega) b
  have hlen : 10 ≤ (encL (List.replicate l.length zeroB)).length := by rw [encL_length]; simp; omega
  have b6 : 0 < l.length := by omega
  simp -implicitDefEqProofs [hT, he, b3, b4, b6, hp, hz, hw0, hlen, -Go.Am.rep]
  refine run_while (c := c51_29) (fun n s => ∃ (i : Nat) (g : Nat → Nat), i + n = l.length ∧ s = ⟨[(5, .own 5 (g 5) 0 l.length), (6, .own 6 (g 6) 0 (piecesTo l b i).length), (24, .lst l.length (encL l)), (25, .int .i64 l.length), (26, .int .i64 i)],
    [(5, ⟨encL (ownL l b i), false, 10⟩), (6, ⟨encL (piecesTo l b i), false, 11⟩)], g⟩) l.length ⟨0, bump 6 (bump 5 (bump 3 g)), by omega, by simp [piecesTo, encL_nil]⟩ ?_
  rintro n s ⟨i, g, hi, rfl⟩
  have w1 : IntKind.i64.wrap ((i : Int) + 1) = (i : Int) + 1 := wrap64 (by omega) (by omega)
  by_cases h1 : i < l.length
  case pos =>
    have hU := unpack_at hr h1
    have hlen : i * 10 + 10 ≤ (encL (ownL l b i)).length := by rw [encL_length, ownL_len]; simp; omega
    have hrow : rd (encL (ownL l b i)) (i * 10) 10 true = some (Arg.enc (own l b i)) := by
      rw [rd_box _ _ (by rw [ownL_len]; exact h1), ownL_get]
      rfl
    cases hl : (ndAt l i).leaf
    case true =>
      cases hE : (own l b i).empty
      case true =>
        have hp1 : piecesTo l b (i + 1) = piecesTo l b i := by rw [piecesTo_succ, pieceAt, hl, hE]; simp
        have ho := ownL_leaf b hl
        simp -implicitDefEqProofs [h1, rd_words, hU, hl, w1, hrow, hE]
        exact ⟨n - 1, by omega, i + 1, by omega, ⟨by rw [hp1], by omega⟩, by rw [ho], by rw [hp1]⟩
      case false =>
        have hp1 : piecesTo l b (i + 1) = piecesTo l b i ++ [⟨own l b i, (ndAt l i).value⟩] := by rw [piecesTo_succ, pieceAt, hl, hE]; simp
        have ho := ownL_leaf b hl
        have hpl := piecesTo_len l b i
        have c1 : (piecesTo l b i).length * 11 ≤ (encL (piecesTo l b i)).length := by rw [encL_length]; simp
        have c2 : (piecesTo l b i).length ≤ 1099511627775 := by omega
        have htk : List.take ((piecesTo l b i).length * 11) (encL (piecesTo l b i)) = encL (piecesTo l b i) := take_rows _ _ (by simp)
        simp -implicitDefEqProofs [h1, rd_words, hU, hl, w1, hrow, hE, c1, c2, htk]
        exact ⟨n - 1, by omega, i + 1, by omega, ⟨by rw [hp1]; simp, by omega⟩, by rw [ho], by rw [hp1, encL_append]; rfl⟩
    case false =>
      have ha := hr.at h1 hl
      have f1 : 0 ≤ (ndAt l i).left := by omega
      have f2 : (ndAt l i).left < l.length := by omega
      have f3 : 0 ≤ (ndAt l i).right := by omega
      have f4 : (ndAt l i).right < l.length := by omega
      have f5 : (ndAt l i).left.toNat < l.length := by omega
      have f6 : (ndAt l i).right.toNat < l.length := by omega
      have hC := cutB_of (okB_own hr hb i i (by omega)) (ndAt l i).feature (ok64_fits (hr.cutOk h1))
      have hC : CutB (own l b i) (ndAt l i).feature (ndAt l i).cut = some (cutB (own l b i) (ndAt l i).feature (ndAt l i).cut) := hC
      have ho := ownL_inner b hl
      have hp1 : piecesTo l b (i + 1) = piecesTo l b i := by rw [piecesTo_succ, pieceAt, hl]; simp
      generalize cutB (own l b i) (ndAt l i).feature (ndAt l i).cut = z at *
      have hwA := wr_box (ownL l b i) (ndAt l i).left.toNat (by rw [ownL_len]; exact f5) z.1
      have hwB := wr_box ((ownL l b i).set (ndAt l i).left.toNat z.1) (ndAt l i).right.toNat (by rw [List.length_set, ownL_len]; exact f6) z.2
      simp -implicitDefEqProofs [h1, rd_words, hU, hl, w1, hrow, hC, f1, f2, f3, f4, hwA, hwB, encL_length, ownL_len]
      exact ⟨fun _ => ⟨fun _ => ⟨n - 1, by omega, i + 1, by omega, ⟨by rw [hp1], by omega⟩, by rw [ho], by rw [hp1]⟩, by omega⟩, by omega⟩
  case neg =>
    have hil : i = l.length := by omega
    subst hil
    have hpp : piecesTo l b l.length = pieces l b := rfl
    have c1 : (pieces l b).length * 11 ≤ (encL (pieces l b)).length := by rw [encL_length]; simp
    have htk : List.take ((pieces l b).length * 11) (encL (pieces l b)) = encL (pieces l b) := take_rows _ _ (by simp)
    simp -implicitDefEqProofs [h1, hpp, c1, htk]
theorem c_List : Contract Try.prog 51 (sp2 ListC) :=
  contract_of_runs mixed (tbl_cons c_tRight (tbl_cons c_bEmpty (tbl_cons c_Unpack (tbl_cons c_bCut tbl_nil)))) Try.func51 m51 (sp2_runs runs_List)
end Go.Co
