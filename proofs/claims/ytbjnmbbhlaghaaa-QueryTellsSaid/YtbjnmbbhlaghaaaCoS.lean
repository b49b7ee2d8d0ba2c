/- CO: the document's own answers: right queries, what breaks them (written by mkCoS.py). -/
import Derived.Test.YtbjnmbbhlaghaaaCoR
import Derived.Test.YtbjnmbbhlaghaaaCoK
namespace Go.Co
open Go.Am Go.Proofs
set_option linter.unusedSimpArgs false
set_option linter.unusedVariables false

/- copse/copseref10.Right -/
def c60_0 : ACode := .ops [⟨some 2, .box (.t 0) 6, none, []⟩,
  ⟨some 3, .box (.t 1) 17, none, []⟩,
  ⟨some 4, .mv (.c (.bool false)), none, []⟩] [2, 3]
theorem r60_0 {C : Cs} {k : List Fr} {s : St} {Q : Post} : run C c60_0 k s Q = run C (.ops [⟨some 2, .box (.t 0) 6, none, []⟩,
  ⟨some 3, .box (.t 1) 17, none, []⟩,
  ⟨some 4, .mv (.c (.bool false)), none, []⟩] [2, 3]) k s Q := rfl
def c60_1 : ACode := .ops [⟨some 7, .load 6 true (.t 2), none, [2]⟩,
  ⟨some 8, .call 97 [.t 7], none, []⟩,
  ⟨some 9, .un .not (.t 8), none, []⟩,
  ⟨some 10, .mv (.t 9), none, []⟩,
  ⟨some 11, .fad (.t 3) 1, some (10, false), [3]⟩,
  ⟨some 12, .load 1 false (.t 11), some (10, false), [3]⟩,
  ⟨some 13, .bin .lss (.t 12) (.c (.int .i64 0)), some (10, false), []⟩,
  ⟨some 14, .pick (.t 10) (.c (.bool true)) (.t 13), none, []⟩,
  ⟨some 15, .mv (.t 14), none, []⟩,
  ⟨some 16, .fad (.t 3) 1, some (15, false), [3]⟩,
  ⟨some 17, .load 1 false (.t 16), some (15, false), [3]⟩,
  ⟨some 18, .fad (.t 2) 1, some (15, false), [2]⟩,
  ⟨some 19, .load 1 false (.t 18), some (15, false), [2]⟩,
  ⟨some 20, .bin .geq (.t 17) (.t 19), some (15, false), []⟩,
  ⟨some 21, .pick (.t 15) (.c (.bool true)) (.t 20), none, []⟩,
  ⟨some 22, .mv (.t 21), none, []⟩,
  ⟨some 23, .fad (.t 3) 16, some (22, false), [3]⟩,
  ⟨some 24, .load 1 false (.t 23), some (22, false), [3]⟩,
  ⟨some 25, .bin .lss (.t 24) (.c (.int .i64 0)), some (22, false), []⟩,
  ⟨some 26, .pick (.t 22) (.c (.bool true)) (.t 25), none, []⟩,
  ⟨some 27, .mv (.t 26), none, []⟩,
  ⟨some 28, .fad (.t 3) 16, some (27, false), [3]⟩,
  ⟨some 29, .load 1 false (.t 28), some (27, false), [3]⟩,
  ⟨some 30, .bin .gtr (.t 29) (.c (.int .i64 65536)), some (27, false), []⟩,
  ⟨some 31, .pick (.t 27) (.c (.bool true)) (.t 30), none, []⟩] [2, 3, 31]
theorem r60_1 {C : Cs} {k : List Fr} {s : St} {Q : Post} : run C c60_1 k s Q = run C (.ops [⟨some 7, .load 6 true (.t 2), none, [2]⟩,
  ⟨some 8, .call 97 [.t 7], none, []⟩,
  ⟨some 9, .un .not (.t 8), none, []⟩,
  ⟨some 10, .mv (.t 9), none, []⟩,
  ⟨some 11, .fad (.t 3) 1, some (10, false), [3]⟩,
  ⟨some 12, .load 1 false (.t 11), some (10, false), [3]⟩,
  ⟨some 13, .bin .lss (.t 12) (.c (.int .i64 0)), some (10, false), []⟩,
  ⟨some 14, .pick (.t 10) (.c (.bool true)) (.t 13), none, []⟩,
  ⟨some 15, .mv (.t 14), none, []⟩,
  ⟨some 16, .fad (.t 3) 1, some (15, false), [3]⟩,
  ⟨some 17, .load 1 false (.t 16), some (15, false), [3]⟩,
  ⟨some 18, .fad (.t 2) 1, some (15, false), [2]⟩,
  ⟨some 19, .load 1 false (.t 18), some (15, false), [2]⟩,
  ⟨some 20, .bin .geq (.t 17) (.t 19), some (15, false), []⟩,
  ⟨some 21, .pick (.t 15) (.c (.bool true)) (.t 20), none, []⟩,
  ⟨some 22, .mv (.t 21), none, []⟩,
  ⟨some 23, .fad (.t 3) 16, some (22, false), [3]⟩,
  ⟨some 24, .load 1 false (.t 23), some (22, false), [3]⟩,
  ⟨some 25, .bin .lss (.t 24) (.c (.int .i64 0)), some (22, false), []⟩,
  ⟨some 26, .pick (.t 22) (.c (.bool true)) (.t 25), none, []⟩,
  ⟨some 27, .mv (.t 26), none, []⟩,
  ⟨some 28, .fad (.t 3) 16, some (27, false), [3]⟩,
  ⟨some 29, .load 1 false (.t 28), some (27, false), [3]⟩,
  ⟨some 30, .bin .gtr (.t 29) (.c (.int .i64 65536)), some (27, false), []⟩,
  ⟨some 31, .pick (.t 27) (.c (.bool true)) (.t 30), none, []⟩] [2, 3, 31]) k s Q := rfl
def c60_2 : ACode := .ops [⟨some 4, .mv (.c (.bool false)), none, []⟩] [4]
theorem r60_2 {C : Cs} {k : List Fr} {s : St} {Q : Post} : run C c60_2 k s Q = run C (.ops [⟨some 4, .mv (.c (.bool false)), none, []⟩] [4]) k s Q := rfl
def c60_3 : ACode := .seq c60_2 .ret
theorem r60_3 {C : Cs} {k : List Fr} {s : St} {Q : Post} : run C c60_3 k s Q = run C (.seq c60_2 .ret) k s Q := rfl
def c60_4 : ACode := .cond (.t 31) c60_3 .skip
theorem r60_4 {C : Cs} {k : List Fr} {s : St} {Q : Post} : run C c60_4 k s Q = run C (.cond (.t 31) c60_3 .skip) k s Q := rfl
def c60_5 : ACode := .seq c60_1 c60_4
theorem r60_5 {C : Cs} {k : List Fr} {s : St} {Q : Post} : run C c60_5 k s Q = run C (.seq c60_1 c60_4) k s Q := rfl
def c60_6 : ACode := .ops [⟨some 32, .fad (.t 3) 2, none, [3]⟩,
  ⟨some 33, .load 10 true (.t 32), none, [3]⟩,
  ⟨some 34, .mv (.c (.int .i64 0)), none, []⟩] [2, 3, 33, 34]
theorem r60_6 {C : Cs} {k : List Fr} {s : St} {Q : Post} : run C c60_6 k s Q = run C (.ops [⟨some 32, .fad (.t 3) 2, none, [3]⟩,
  ⟨some 33, .load 10 true (.t 32), none, [3]⟩,
  ⟨some 34, .mv (.c (.int .i64 0)), none, []⟩] [2, 3, 33, 34]) k s Q := rfl
def c60_7 : ACode := .ops [⟨some 35, .bin .lss (.t 34) (.c (.int .i64 5)), none, []⟩] [2, 3, 33, 34, 35]
theorem r60_7 {C : Cs} {k : List Fr} {s : St} {Q : Post} : run C c60_7 k s Q = run C (.ops [⟨some 35, .bin .lss (.t 34) (.c (.int .i64 5)), none, []⟩] [2, 3, 33, 34, 35]) k s Q := rfl
def c60_8 : ACode := .cond (.t 35) .skip (.exit 0)
theorem r60_8 {C : Cs} {k : List Fr} {s : St} {Q : Post} : run C c60_8 k s Q = run C (.cond (.t 35) .skip (.exit 0)) k s Q := rfl
def c60_9 : ACode := .ops [⟨some 36, .mv (.t 34), none, []⟩,
  ⟨some 37, .idx (.t 33) (.t 34) 2 5 true, none, []⟩,
  ⟨some 6, .alloc [.int .i64 0, .int .i64 0], none, []⟩,
  ⟨some 5, .mv (.t 36), none, []⟩,
  ⟨none, .store (.t 6) 2 (.t 37), none, [6]⟩] [2, 3, 5, 6, 33, 34]
theorem r60_9 {C : Cs} {k : List Fr} {s : St} {Q : Post} : run C c60_9 k s Q = run C (.ops [⟨some 36, .mv (.t 34), none, []⟩,
  ⟨some 37, .idx (.t 33) (.t 34) 2 5 true, none, []⟩,
  ⟨some 6, .alloc [.int .i64 0, .int .i64 0], none, []⟩,
  ⟨some 5, .mv (.t 36), none, []⟩,
  ⟨none, .store (.t 6) 2 (.t 37), none, [6]⟩] [2, 3, 5, 6, 33, 34]) k s Q := rfl
def c60_10 : ACode := .ops [⟨some 38, .mv (.t 5), none, []⟩,
  ⟨some 39, .fad (.t 2) 0, none, [2]⟩,
  ⟨some 40, .load 1 false (.t 39), none, [2]⟩,
  ⟨some 41, .bin .lss (.t 38) (.t 40), none, []⟩,
  ⟨some 42, .mv (.t 41), none, []⟩,
  ⟨some 43, .fad (.t 6) 0, some (42, true), [6]⟩,
  ⟨some 44, .load 1 false (.t 43), some (42, true), [6]⟩,
  ⟨some 45, .fad (.t 6) 1, some (42, true), [6]⟩,
  ⟨some 46, .load 1 false (.t 45), some (42, true), [6]⟩,
  ⟨some 47, .bin .gtr (.t 44) (.t 46), some (42, true), []⟩,
  ⟨some 48, .mv (.t 47), some (42, true), []⟩,
  ⟨some 49, .fad (.t 6) 0, some (48, false), [6]⟩,
  ⟨some 50, .load 1 false (.t 49), some (48, false), [6]⟩,
  ⟨some 51, .call 119 [.t 50, .c (.int .i64 32)], some (48, false), []⟩,
  ⟨some 52, .un .not (.t 51), some (48, false), []⟩,
  ⟨some 53, .pick (.t 48) (.c (.bool true)) (.t 52), some (42, true), []⟩,
  ⟨some 54, .mv (.t 53), some (42, true), []⟩,
  ⟨some 55, .fad (.t 6) 1, some (54, false), [6]⟩,
  ⟨some 56, .load 1 false (.t 55), some (54, false), [6]⟩,
  ⟨some 57, .call 119 [.t 56, .c (.int .i64 32)], some (54, false), []⟩,
  ⟨some 58, .un .not (.t 57), some (54, false), []⟩,
  ⟨some 59, .pick (.t 54) (.c (.bool true)) (.t 58), some (42, true), []⟩,
  ⟨some 60, .pick (.t 42) (.t 59) (.c (.bool false)), none, []⟩,
  ⟨some 61, .mv (.t 60), none, []⟩,
  ⟨some 62, .mv (.t 5), some (61, false), []⟩,
  ⟨some 63, .fad (.t 2) 0, some (61, false), [2]⟩,
  ⟨some 64, .load 1 false (.t 63), some (61, false), [2]⟩,
  ⟨some 65, .bin .geq (.t 62) (.t 64), some (61, false), []⟩,
  ⟨some 66, .mv (.t 65), some (61, false), []⟩,
  ⟨some 67, .load 2 true (.t 6), some (66, true), [6]⟩,
  ⟨some 68, .build [.int .i64 0, .int .i64 0] [], some (66, true), []⟩,
  ⟨some 69, .eqa true [false, false] (.t 67) (.t 68), some (66, true), []⟩,
  ⟨some 70, .pick (.t 66) (.t 69) (.c (.bool false)), some (61, false), []⟩,
  ⟨some 71, .pick (.t 61) (.c (.bool true)) (.t 70), none, []⟩] [2, 3, 33, 34, 71]
theorem r60_10 {C : Cs} {k : List Fr} {s : St} {Q : Post} : run C c60_10 k s Q = run C (.ops [⟨some 38, .mv (.t 5), none, []⟩,
  ⟨some 39, .fad (.t 2) 0, none, [2]⟩,
  ⟨some 40, .load 1 false (.t 39), none, [2]⟩,
  ⟨some 41, .bin .lss (.t 38) (.t 40), none, []⟩,
  ⟨some 42, .mv (.t 41), none, []⟩,
  ⟨some 43, .fad (.t 6) 0, some (42, true), [6]⟩,
  ⟨some 44, .load 1 false (.t 43), some (42, true), [6]⟩,
  ⟨some 45, .fad (.t 6) 1, some (42, true), [6]⟩,
  ⟨some 46, .load 1 false (.t 45), some (42, true), [6]⟩,
  ⟨some 47, .bin .gtr (.t 44) (.t 46), some (42, true), []⟩,
  ⟨some 48, .mv (.t 47), some (42, true), []⟩,
  ⟨some 49, .fad (.t 6) 0, some (48, false), [6]⟩,
  ⟨some 50, .load 1 false (.t 49), some (48, false), [6]⟩,
  ⟨some 51, .call 119 [.t 50, .c (.int .i64 32)], some (48, false), []⟩,
  ⟨some 52, .un .not (.t 51), some (48, false), []⟩,
  ⟨some 53, .pick (.t 48) (.c (.bool true)) (.t 52), some (42, true), []⟩,
  ⟨some 54, .mv (.t 53), some (42, true), []⟩,
  ⟨some 55, .fad (.t 6) 1, some (54, false), [6]⟩,
  ⟨some 56, .load 1 false (.t 55), some (54, false), [6]⟩,
  ⟨some 57, .call 119 [.t 56, .c (.int .i64 32)], some (54, false), []⟩,
  ⟨some 58, .un .not (.t 57), some (54, false), []⟩,
  ⟨some 59, .pick (.t 54) (.c (.bool true)) (.t 58), some (42, true), []⟩,
  ⟨some 60, .pick (.t 42) (.t 59) (.c (.bool false)), none, []⟩,
  ⟨some 61, .mv (.t 60), none, []⟩,
  ⟨some 62, .mv (.t 5), some (61, false), []⟩,
  ⟨some 63, .fad (.t 2) 0, some (61, false), [2]⟩,
  ⟨some 64, .load 1 false (.t 63), some (61, false), [2]⟩,
  ⟨some 65, .bin .geq (.t 62) (.t 64), some (61, false), []⟩,
  ⟨some 66, .mv (.t 65), some (61, false), []⟩,
  ⟨some 67, .load 2 true (.t 6), some (66, true), [6]⟩,
  ⟨some 68, .build [.int .i64 0, .int .i64 0] [], some (66, true), []⟩,
  ⟨some 69, .eqa true [false, false] (.t 67) (.t 68), some (66, true), []⟩,
  ⟨some 70, .pick (.t 66) (.t 69) (.c (.bool false)), some (61, false), []⟩,
  ⟨some 71, .pick (.t 61) (.c (.bool true)) (.t 70), none, []⟩] [2, 3, 33, 34, 71]) k s Q := rfl
def c60_11 : ACode := .ops [⟨some 4, .mv (.c (.bool false)), none, []⟩] [4]
theorem r60_11 {C : Cs} {k : List Fr} {s : St} {Q : Post} : run C c60_11 k s Q = run C (.ops [⟨some 4, .mv (.c (.bool false)), none, []⟩] [4]) k s Q := rfl
def c60_12 : ACode := .seq c60_11 .ret
theorem r60_12 {C : Cs} {k : List Fr} {s : St} {Q : Post} : run C c60_12 k s Q = run C (.seq c60_11 .ret) k s Q := rfl
def c60_13 : ACode := .cond (.t 71) c60_12 .skip
theorem r60_13 {C : Cs} {k : List Fr} {s : St} {Q : Post} : run C c60_13 k s Q = run C (.cond (.t 71) c60_12 .skip) k s Q := rfl
def c60_14 : ACode := .seq c60_10 c60_13
theorem r60_14 {C : Cs} {k : List Fr} {s : St} {Q : Post} : run C c60_14 k s Q = run C (.seq c60_10 c60_13) k s Q := rfl
def c60_15 : ACode := .seq c60_9 c60_14
theorem r60_15 {C : Cs} {k : List Fr} {s : St} {Q : Post} : run C c60_15 k s Q = run C (.seq c60_9 c60_14) k s Q := rfl
def c60_16 : ACode := .block 1 c60_15
theorem r60_16 {C : Cs} {k : List Fr} {s : St} {Q : Post} : run C c60_16 k s Q = run C (.block 1 c60_15) k s Q := rfl
def c60_17 : ACode := .ops [⟨some 72, .bin .add (.t 34) (.c (.int .i64 1)), none, []⟩,
  ⟨some 34, .mv (.t 72), none, []⟩] [2, 3, 33, 34]
theorem r60_17 {C : Cs} {k : List Fr} {s : St} {Q : Post} : run C c60_17 k s Q = run C (.ops [⟨some 72, .bin .add (.t 34) (.c (.int .i64 1)), none, []⟩,
  ⟨some 34, .mv (.t 72), none, []⟩] [2, 3, 33, 34]) k s Q := rfl
def c60_18 : ACode := .seq c60_16 c60_17
theorem r60_18 {C : Cs} {k : List Fr} {s : St} {Q : Post} : run C c60_18 k s Q = run C (.seq c60_16 c60_17) k s Q := rfl
def c60_19 : ACode := .seq c60_8 c60_18
theorem r60_19 {C : Cs} {k : List Fr} {s : St} {Q : Post} : run C c60_19 k s Q = run C (.seq c60_8 c60_18) k s Q := rfl
def c60_20 : ACode := .seq c60_7 c60_19
theorem r60_20 {C : Cs} {k : List Fr} {s : St} {Q : Post} : run C c60_20 k s Q = run C (.seq c60_7 c60_19) k s Q := rfl
def c60_21 : ACode := .keep [2, 3, 33, 34] [2, 3] c60_20
theorem r60_21 {C : Cs} {k : List Fr} {s : St} {Q : Post} : run C c60_21 k s Q = run C (.keep [2, 3, 33, 34] [2, 3] c60_20) k s Q := rfl
def c60_22 : ACode := .loop c60_21
theorem r60_22 {C : Cs} {k : List Fr} {s : St} {Q : Post} : run C c60_22 k s Q = run C (.loop c60_21) k s Q := rfl
def c60_23 : ACode := .block 0 c60_22
theorem r60_23 {C : Cs} {k : List Fr} {s : St} {Q : Post} : run C c60_23 k s Q = run C (.block 0 c60_22) k s Q := rfl
def c60_24 : ACode := .seq c60_6 c60_23
theorem r60_24 {C : Cs} {k : List Fr} {s : St} {Q : Post} : run C c60_24 k s Q = run C (.seq c60_6 c60_23) k s Q := rfl
def c60_25 : ACode := .ops [⟨some 73, .fad (.t 3) 0, none, [3]⟩,
  ⟨some 74, .load 1 false (.t 73), none, [3]⟩] [2, 3, 74]
theorem r60_25 {C : Cs} {k : List Fr} {s : St} {Q : Post} : run C c60_25 k s Q = run C (.ops [⟨some 73, .fad (.t 3) 0, none, [3]⟩,
  ⟨some 74, .load 1 false (.t 73), none, [3]⟩] [2, 3, 74]) k s Q := rfl
def c60_26 : ACode := .ops [⟨some 76, .bin .eql (.t 74) (.c (.int .i64 1)), none, []⟩,
  ⟨some 75, .mv (.t 76), none, []⟩] [2, 3, 74, 75]
theorem r60_26 {C : Cs} {k : List Fr} {s : St} {Q : Post} : run C c60_26 k s Q = run C (.ops [⟨some 76, .bin .eql (.t 74) (.c (.int .i64 1)), none, []⟩,
  ⟨some 75, .mv (.t 76), none, []⟩] [2, 3, 74, 75]) k s Q := rfl
def c60_27 : ACode := .ops [⟨some 77, .fad (.t 3) 12, none, [3]⟩,
  ⟨some 78, .load 1 false (.t 77), none, [3]⟩,
  ⟨some 79, .fad (.t 3) 13, none, [3]⟩,
  ⟨some 80, .load 1 false (.t 79), none, [3]⟩,
  ⟨some 81, .bin .leq (.t 78) (.t 80), none, []⟩,
  ⟨some 82, .mv (.t 81), none, []⟩,
  ⟨some 83, .fad (.t 3) 14, some (82, true), [3]⟩,
  ⟨some 84, .load 1 false (.t 83), some (82, true), [3]⟩,
  ⟨some 85, .bin .eql (.t 84) (.c (.int .i64 0)), some (82, true), []⟩,
  ⟨some 86, .pick (.t 82) (.t 85) (.c (.bool false)), none, []⟩,
  ⟨some 87, .mv (.t 86), none, []⟩,
  ⟨some 88, .fad (.t 3) 15, some (87, true), [3]⟩,
  ⟨some 89, .load 1 false (.t 88), some (87, true), [3]⟩,
  ⟨some 90, .un .not (.t 89), some (87, true), []⟩,
  ⟨some 91, .pick (.t 87) (.t 90) (.c (.bool false)), none, []⟩,
  ⟨some 4, .mv (.t 91), none, []⟩] [4]
theorem r60_27 {C : Cs} {k : List Fr} {s : St} {Q : Post} : run C c60_27 k s Q = run C (.ops [⟨some 77, .fad (.t 3) 12, none, [3]⟩,
  ⟨some 78, .load 1 false (.t 77), none, [3]⟩,
  ⟨some 79, .fad (.t 3) 13, none, [3]⟩,
  ⟨some 80, .load 1 false (.t 79), none, [3]⟩,
  ⟨some 81, .bin .leq (.t 78) (.t 80), none, []⟩,
  ⟨some 82, .mv (.t 81), none, []⟩,
  ⟨some 83, .fad (.t 3) 14, some (82, true), [3]⟩,
  ⟨some 84, .load 1 false (.t 83), some (82, true), [3]⟩,
  ⟨some 85, .bin .eql (.t 84) (.c (.int .i64 0)), some (82, true), []⟩,
  ⟨some 86, .pick (.t 82) (.t 85) (.c (.bool false)), none, []⟩,
  ⟨some 87, .mv (.t 86), none, []⟩,
  ⟨some 88, .fad (.t 3) 15, some (87, true), [3]⟩,
  ⟨some 89, .load 1 false (.t 88), some (87, true), [3]⟩,
  ⟨some 90, .un .not (.t 89), some (87, true), []⟩,
  ⟨some 91, .pick (.t 87) (.t 90) (.c (.bool false)), none, []⟩,
  ⟨some 4, .mv (.t 91), none, []⟩] [4]) k s Q := rfl
def c60_28 : ACode := .seq c60_27 .ret
theorem r60_28 {C : Cs} {k : List Fr} {s : St} {Q : Post} : run C c60_28 k s Q = run C (.seq c60_27 .ret) k s Q := rfl
def c60_29 : ACode := .ops [⟨some 93, .bin .eql (.t 74) (.c (.int .i64 2)), none, []⟩,
  ⟨some 92, .mv (.t 93), none, []⟩] [2, 3, 74, 92]
theorem r60_29 {C : Cs} {k : List Fr} {s : St} {Q : Post} : run C c60_29 k s Q = run C (.ops [⟨some 93, .bin .eql (.t 74) (.c (.int .i64 2)), none, []⟩,
  ⟨some 92, .mv (.t 93), none, []⟩] [2, 3, 74, 92]) k s Q := rfl
def c60_30 : ACode := .ops [⟨some 94, .fad (.t 2) 1, none, [2]⟩,
  ⟨some 95, .load 1 false (.t 94), none, [2]⟩,
  ⟨some 96, .bin .geq (.t 95) (.c (.int .i64 2)), none, []⟩,
  ⟨some 97, .mv (.t 96), none, []⟩,
  ⟨some 98, .fad (.t 3) 12, some (97, true), [3]⟩,
  ⟨some 99, .load 1 false (.t 98), some (97, true), [3]⟩,
  ⟨some 100, .bin .eql (.t 99) (.c (.int .i64 0)), some (97, true), []⟩,
  ⟨some 101, .pick (.t 97) (.t 100) (.c (.bool false)), none, []⟩,
  ⟨some 102, .mv (.t 101), none, []⟩,
  ⟨some 103, .fad (.t 3) 13, some (102, true), [3]⟩,
  ⟨some 104, .load 1 false (.t 103), some (102, true), [3]⟩,
  ⟨some 105, .bin .eql (.t 104) (.c (.int .i64 0)), some (102, true), []⟩,
  ⟨some 106, .pick (.t 102) (.t 105) (.c (.bool false)), none, []⟩,
  ⟨some 107, .mv (.t 106), none, []⟩,
  ⟨some 108, .fad (.t 3) 14, some (107, true), [3]⟩,
  ⟨some 109, .load 1 false (.t 108), some (107, true), [3]⟩,
  ⟨some 110, .bin .eql (.t 109) (.c (.int .i64 0)), some (107, true), []⟩,
  ⟨some 111, .pick (.t 107) (.t 110) (.c (.bool false)), none, []⟩,
  ⟨some 112, .mv (.t 111), none, []⟩,
  ⟨some 113, .fad (.t 3) 15, some (112, true), [3]⟩,
  ⟨some 114, .load 1 false (.t 113), some (112, true), [3]⟩,
  ⟨some 115, .un .not (.t 114), some (112, true), []⟩,
  ⟨some 116, .pick (.t 112) (.t 115) (.c (.bool false)), none, []⟩,
  ⟨some 4, .mv (.t 116), none, []⟩] [4]
theorem r60_30 {C : Cs} {k : List Fr} {s : St} {Q : Post} : run C c60_30 k s Q = run C (.ops [⟨some 94, .fad (.t 2) 1, none, [2]⟩,
  ⟨some 95, .load 1 false (.t 94), none, [2]⟩,
  ⟨some 96, .bin .geq (.t 95) (.c (.int .i64 2)), none, []⟩,
  ⟨some 97, .mv (.t 96), none, []⟩,
  ⟨some 98, .fad (.t 3) 12, some (97, true), [3]⟩,
  ⟨some 99, .load 1 false (.t 98), some (97, true), [3]⟩,
  ⟨some 100, .bin .eql (.t 99) (.c (.int .i64 0)), some (97, true), []⟩,
  ⟨some 101, .pick (.t 97) (.t 100) (.c (.bool false)), none, []⟩,
  ⟨some 102, .mv (.t 101), none, []⟩,
  ⟨some 103, .fad (.t 3) 13, some (102, true), [3]⟩,
  ⟨some 104, .load 1 false (.t 103), some (102, true), [3]⟩,
  ⟨some 105, .bin .eql (.t 104) (.c (.int .i64 0)), some (102, true), []⟩,
  ⟨some 106, .pick (.t 102) (.t 105) (.c (.bool false)), none, []⟩,
  ⟨some 107, .mv (.t 106), none, []⟩,
  ⟨some 108, .fad (.t 3) 14, some (107, true), [3]⟩,
  ⟨some 109, .load 1 false (.t 108), some (107, true), [3]⟩,
  ⟨some 110, .bin .eql (.t 109) (.c (.int .i64 0)), some (107, true), []⟩,
  ⟨some 111, .pick (.t 107) (.t 110) (.c (.bool false)), none, []⟩,
  ⟨some 112, .mv (.t 111), none, []⟩,
  ⟨some 113, .fad (.t 3) 15, some (112, true), [3]⟩,
  ⟨some 114, .load 1 false (.t 113), some (112, true), [3]⟩,
  ⟨some 115, .un .not (.t 114), some (112, true), []⟩,
  ⟨some 116, .pick (.t 112) (.t 115) (.c (.bool false)), none, []⟩,
  ⟨some 4, .mv (.t 116), none, []⟩] [4]) k s Q := rfl
def c60_31 : ACode := .seq c60_30 .ret
theorem r60_31 {C : Cs} {k : List Fr} {s : St} {Q : Post} : run C c60_31 k s Q = run C (.seq c60_30 .ret) k s Q := rfl
def c60_32 : ACode := .ops [⟨some 118, .bin .eql (.t 74) (.c (.int .i64 3)), none, []⟩,
  ⟨some 117, .mv (.t 118), none, []⟩] [2, 3, 117]
theorem r60_32 {C : Cs} {k : List Fr} {s : St} {Q : Post} : run C c60_32 k s Q = run C (.ops [⟨some 118, .bin .eql (.t 74) (.c (.int .i64 3)), none, []⟩,
  ⟨some 117, .mv (.t 118), none, []⟩] [2, 3, 117]) k s Q := rfl
def c60_33 : ACode := .ops [⟨some 119, .fad (.t 3) 14, none, [3]⟩,
  ⟨some 120, .load 1 false (.t 119), none, [3]⟩,
  ⟨some 121, .bin .geq (.t 120) (.c (.int .i64 0)), none, []⟩,
  ⟨some 122, .mv (.t 121), none, []⟩,
  ⟨some 123, .fad (.t 3) 14, some (122, true), [3]⟩,
  ⟨some 124, .load 1 false (.t 123), some (122, true), [3]⟩,
  ⟨some 125, .fad (.t 2) 0, some (122, true), [2]⟩,
  ⟨some 126, .load 1 false (.t 125), some (122, true), [2]⟩,
  ⟨some 127, .bin .lss (.t 124) (.t 126), some (122, true), []⟩,
  ⟨some 128, .pick (.t 122) (.t 127) (.c (.bool false)), none, []⟩,
  ⟨some 129, .mv (.t 128), none, []⟩,
  ⟨some 130, .fad (.t 3) 12, some (129, true), [3]⟩,
  ⟨some 131, .load 1 false (.t 130), some (129, true), [3]⟩,
  ⟨some 132, .bin .eql (.t 131) (.c (.int .i64 0)), some (129, true), []⟩,
  ⟨some 133, .pick (.t 129) (.t 132) (.c (.bool false)), none, []⟩,
  ⟨some 134, .mv (.t 133), none, []⟩,
  ⟨some 135, .fad (.t 3) 13, some (134, true), [3]⟩,
  ⟨some 136, .load 1 false (.t 135), some (134, true), [3]⟩,
  ⟨some 137, .bin .eql (.t 136) (.c (.int .i64 0)), some (134, true), []⟩,
  ⟨some 138, .pick (.t 134) (.t 137) (.c (.bool false)), none, []⟩,
  ⟨some 4, .mv (.t 138), none, []⟩] [4]
theorem r60_33 {C : Cs} {k : List Fr} {s : St} {Q : Post} : run C c60_33 k s Q = run C (.ops [⟨some 119, .fad (.t 3) 14, none, [3]⟩,
  ⟨some 120, .load 1 false (.t 119), none, [3]⟩,
  ⟨some 121, .bin .geq (.t 120) (.c (.int .i64 0)), none, []⟩,
  ⟨some 122, .mv (.t 121), none, []⟩,
  ⟨some 123, .fad (.t 3) 14, some (122, true), [3]⟩,
  ⟨some 124, .load 1 false (.t 123), some (122, true), [3]⟩,
  ⟨some 125, .fad (.t 2) 0, some (122, true), [2]⟩,
  ⟨some 126, .load 1 false (.t 125), some (122, true), [2]⟩,
  ⟨some 127, .bin .lss (.t 124) (.t 126), some (122, true), []⟩,
  ⟨some 128, .pick (.t 122) (.t 127) (.c (.bool false)), none, []⟩,
  ⟨some 129, .mv (.t 128), none, []⟩,
  ⟨some 130, .fad (.t 3) 12, some (129, true), [3]⟩,
  ⟨some 131, .load 1 false (.t 130), some (129, true), [3]⟩,
  ⟨some 132, .bin .eql (.t 131) (.c (.int .i64 0)), some (129, true), []⟩,
  ⟨some 133, .pick (.t 129) (.t 132) (.c (.bool false)), none, []⟩,
  ⟨some 134, .mv (.t 133), none, []⟩,
  ⟨some 135, .fad (.t 3) 13, some (134, true), [3]⟩,
  ⟨some 136, .load 1 false (.t 135), some (134, true), [3]⟩,
  ⟨some 137, .bin .eql (.t 136) (.c (.int .i64 0)), some (134, true), []⟩,
  ⟨some 138, .pick (.t 134) (.t 137) (.c (.bool false)), none, []⟩,
  ⟨some 4, .mv (.t 138), none, []⟩] [4]) k s Q := rfl
def c60_34 : ACode := .seq c60_33 .ret
theorem r60_34 {C : Cs} {k : List Fr} {s : St} {Q : Post} : run C c60_34 k s Q = run C (.seq c60_33 .ret) k s Q := rfl
def c60_35 : ACode := .cond (.t 117) c60_34 .skip
theorem r60_35 {C : Cs} {k : List Fr} {s : St} {Q : Post} : run C c60_35 k s Q = run C (.cond (.t 117) c60_34 .skip) k s Q := rfl
def c60_36 : ACode := .seq c60_32 c60_35
theorem r60_36 {C : Cs} {k : List Fr} {s : St} {Q : Post} : run C c60_36 k s Q = run C (.seq c60_32 c60_35) k s Q := rfl
def c60_37 : ACode := .cond (.t 92) c60_31 c60_36
theorem r60_37 {C : Cs} {k : List Fr} {s : St} {Q : Post} : run C c60_37 k s Q = run C (.cond (.t 92) c60_31 c60_36) k s Q := rfl
def c60_38 : ACode := .seq c60_29 c60_37
theorem r60_38 {C : Cs} {k : List Fr} {s : St} {Q : Post} : run C c60_38 k s Q = run C (.seq c60_29 c60_37) k s Q := rfl
def c60_39 : ACode := .cond (.t 75) c60_28 c60_38
theorem r60_39 {C : Cs} {k : List Fr} {s : St} {Q : Post} : run C c60_39 k s Q = run C (.cond (.t 75) c60_28 c60_38) k s Q := rfl
def c60_40 : ACode := .seq c60_26 c60_39
theorem r60_40 {C : Cs} {k : List Fr} {s : St} {Q : Post} : run C c60_40 k s Q = run C (.seq c60_26 c60_39) k s Q := rfl
def c60_41 : ACode := .block 2 c60_40
theorem r60_41 {C : Cs} {k : List Fr} {s : St} {Q : Post} : run C c60_41 k s Q = run C (.block 2 c60_40) k s Q := rfl
def c60_42 : ACode := .seq c60_25 c60_41
theorem r60_42 {C : Cs} {k : List Fr} {s : St} {Q : Post} : run C c60_42 k s Q = run C (.seq c60_25 c60_41) k s Q := rfl
def c60_43 : ACode := .ops [⟨some 4, .mv (.c (.bool false)), none, []⟩] [4]
theorem r60_43 {C : Cs} {k : List Fr} {s : St} {Q : Post} : run C c60_43 k s Q = run C (.ops [⟨some 4, .mv (.c (.bool false)), none, []⟩] [4]) k s Q := rfl
def c60_44 : ACode := .seq c60_43 .ret
theorem r60_44 {C : Cs} {k : List Fr} {s : St} {Q : Post} : run C c60_44 k s Q = run C (.seq c60_43 .ret) k s Q := rfl
def c60_45 : ACode := .seq c60_42 c60_44
theorem r60_45 {C : Cs} {k : List Fr} {s : St} {Q : Post} : run C c60_45 k s Q = run C (.seq c60_42 c60_44) k s Q := rfl
def c60_46 : ACode := .seq c60_24 c60_45
theorem r60_46 {C : Cs} {k : List Fr} {s : St} {Q : Post} : run C c60_46 k s Q = run C (.seq c60_24 c60_45) k s Q := rfl
def c60_47 : ACode := .seq c60_5 c60_46
theorem r60_47 {C : Cs} {k : List Fr} {s : St} {Q : Post} : run C c60_47 k s Q = run C (.seq c60_5 c60_46) k s Q := rfl
def c60_48 : ACode := .seq c60_0 c60_47
theorem r60_48 {C : Cs} {k : List Fr} {s : St} {Q : Post} : run C c60_48 k s Q = run C (.seq c60_0 c60_47) k s Q := rfl
def a60 : AFun := ⟨2, 139, c60_48, [.t 4]⟩
attribute [simp] r60_0 r60_1 r60_2 r60_3 r60_4 r60_5 r60_6 r60_7 r60_8 r60_9 r60_10 r60_11 r60_12 r60_13 r60_14 r60_15 r60_16 r60_17 r60_18 r60_19 r60_20 r60_21 r60_22 r60_23 r60_24 r60_25 r60_26 r60_27 r60_28 r60_29 r60_30 r60_31 r60_32 r60_33 r60_34 r60_35 r60_36 r60_37 r60_38 r60_39 r60_40 r60_41 r60_42 r60_43 r60_44 r60_45 r60_46 r60_47 r60_48
theorem m60 : mFun Try.prog Try.f60 a60 = true := by decide +kernel
/- copse/copseref10.Start -/
def c61_0 : ACode := .ops [⟨some 1, .box (.t 0) 17, none, []⟩,
  ⟨some 2, .alloc [.int .i64 0, .int .i64 0, .int .i64 0, .int .i64 0, .int .i64 0, .int .i64 0, .int .i64 0, .int .i64 0, .int .i64 0, .int .i64 0], none, []⟩] [1, 2]
theorem r61_0 {C : Cs} {k : List Fr} {s : St} {Q : Post} : run C c61_0 k s Q = run C (.ops [⟨some 1, .box (.t 0) 17, none, []⟩,
  ⟨some 2, .alloc [.int .i64 0, .int .i64 0, .int .i64 0, .int .i64 0, .int .i64 0, .int .i64 0, .int .i64 0, .int .i64 0, .int .i64 0, .int .i64 0], none, []⟩] [1, 2]) k s Q := rfl
def c61_1 : ACode := .ops [⟨some 4, .fad (.t 1) 2, none, [1]⟩,
  ⟨some 5, .load 10 true (.t 4), none, [1]⟩,
  ⟨some 3, .alloc [.int .i64 0, .int .i64 0, .int .i64 0, .int .i64 0, .int .i64 0, .int .i64 0, .int .i64 0, .int .i64 0, .int .i64 0, .int .i64 0], none, []⟩,
  ⟨none, .store (.t 3) 10 (.t 5), none, [3]⟩] [1, 2, 3]
theorem r61_1 {C : Cs} {k : List Fr} {s : St} {Q : Post} : run C c61_1 k s Q = run C (.ops [⟨some 4, .fad (.t 1) 2, none, [1]⟩,
  ⟨some 5, .load 10 true (.t 4), none, [1]⟩,
  ⟨some 3, .alloc [.int .i64 0, .int .i64 0, .int .i64 0, .int .i64 0, .int .i64 0, .int .i64 0, .int .i64 0, .int .i64 0, .int .i64 0, .int .i64 0], none, []⟩,
  ⟨none, .store (.t 3) 10 (.t 5), none, [3]⟩] [1, 2, 3]) k s Q := rfl
def c61_2 : ACode := .ops [⟨some 6, .build [.int .i64 0, .int .i64 0] [], none, []⟩,
  ⟨some 7, .iad (.t 3) (.c (.int .i64 4)) 2 5, none, [3]⟩,
  ⟨none, .store (.t 7) 2 (.t 6), none, [3]⟩] [1, 2, 3]
theorem r61_2 {C : Cs} {k : List Fr} {s : St} {Q : Post} : run C c61_2 k s Q = run C (.ops [⟨some 6, .build [.int .i64 0, .int .i64 0] [], none, []⟩,
  ⟨some 7, .iad (.t 3) (.c (.int .i64 4)) 2 5, none, [3]⟩,
  ⟨none, .store (.t 7) 2 (.t 6), none, [3]⟩] [1, 2, 3]) k s Q := rfl
def c61_3 : ACode := .ops [⟨some 8, .fad (.t 1) 0, none, [1]⟩,
  ⟨some 9, .load 1 false (.t 8), none, [1]⟩,
  ⟨some 10, .bin .eql (.t 9) (.c (.int .i64 3)), none, []⟩,
  ⟨some 11, .mv (.t 10), none, []⟩,
  ⟨some 12, .fad (.t 1) 14, some (11, true), [1]⟩,
  ⟨some 13, .load 1 false (.t 12), some (11, true), [1]⟩,
  ⟨some 14, .bin .geq (.t 13) (.c (.int .i64 0)), some (11, true), []⟩,
  ⟨some 15, .pick (.t 11) (.t 14) (.c (.bool false)), none, []⟩,
  ⟨some 16, .mv (.t 15), none, []⟩,
  ⟨some 17, .fad (.t 1) 14, some (16, true), [1]⟩,
  ⟨some 18, .load 1 false (.t 17), some (16, true), [1]⟩,
  ⟨some 19, .bin .lss (.t 18) (.c (.int .i64 4)), some (16, true), []⟩,
  ⟨some 20, .pick (.t 16) (.t 19) (.c (.bool false)), none, []⟩] [1, 2, 3, 20]
theorem r61_3 {C : Cs} {k : List Fr} {s : St} {Q : Post} : run C c61_3 k s Q = run C (.ops [⟨some 8, .fad (.t 1) 0, none, [1]⟩,
  ⟨some 9, .load 1 false (.t 8), none, [1]⟩,
  ⟨some 10, .bin .eql (.t 9) (.c (.int .i64 3)), none, []⟩,
  ⟨some 11, .mv (.t 10), none, []⟩,
  ⟨some 12, .fad (.t 1) 14, some (11, true), [1]⟩,
  ⟨some 13, .load 1 false (.t 12), some (11, true), [1]⟩,
  ⟨some 14, .bin .geq (.t 13) (.c (.int .i64 0)), some (11, true), []⟩,
  ⟨some 15, .pick (.t 11) (.t 14) (.c (.bool false)), none, []⟩,
  ⟨some 16, .mv (.t 15), none, []⟩,
  ⟨some 17, .fad (.t 1) 14, some (16, true), [1]⟩,
  ⟨some 18, .load 1 false (.t 17), some (16, true), [1]⟩,
  ⟨some 19, .bin .lss (.t 18) (.c (.int .i64 4)), some (16, true), []⟩,
  ⟨some 20, .pick (.t 16) (.t 19) (.c (.bool false)), none, []⟩] [1, 2, 3, 20]) k s Q := rfl
def c61_4 : ACode := .ops [⟨some 21, .fad (.t 1) 14, none, [1]⟩,
  ⟨some 22, .load 1 false (.t 21), none, [1]⟩,
  ⟨some 23, .fad (.t 1) 2, none, [1]⟩,
  ⟨some 24, .iad (.t 23) (.t 22) 2 5, none, [1]⟩,
  ⟨some 25, .load 2 true (.t 24), none, [1]⟩,
  ⟨some 26, .iad (.t 3) (.c (.int .i64 4)) 2 5, none, [3]⟩,
  ⟨none, .store (.t 26) 2 (.t 25), none, [3]⟩] [2, 3]
theorem r61_4 {C : Cs} {k : List Fr} {s : St} {Q : Post} : run C c61_4 k s Q = run C (.ops [⟨some 21, .fad (.t 1) 14, none, [1]⟩,
  ⟨some 22, .load 1 false (.t 21), none, [1]⟩,
  ⟨some 23, .fad (.t 1) 2, none, [1]⟩,
  ⟨some 24, .iad (.t 23) (.t 22) 2 5, none, [1]⟩,
  ⟨some 25, .load 2 true (.t 24), none, [1]⟩,
  ⟨some 26, .iad (.t 3) (.c (.int .i64 4)) 2 5, none, [3]⟩,
  ⟨none, .store (.t 26) 2 (.t 25), none, [3]⟩] [2, 3]) k s Q := rfl
def c61_5 : ACode := .cond (.t 20) c61_4 .skip
theorem r61_5 {C : Cs} {k : List Fr} {s : St} {Q : Post} : run C c61_5 k s Q = run C (.cond (.t 20) c61_4 .skip) k s Q := rfl
def c61_6 : ACode := .seq c61_3 c61_5
theorem r61_6 {C : Cs} {k : List Fr} {s : St} {Q : Post} : run C c61_6 k s Q = run C (.seq c61_3 c61_5) k s Q := rfl
def c61_7 : ACode := .ops [⟨some 27, .load 10 true (.t 3), none, [3]⟩,
  ⟨none, .store (.t 2) 10 (.t 27), none, [2]⟩] [2]
theorem r61_7 {C : Cs} {k : List Fr} {s : St} {Q : Post} : run C c61_7 k s Q = run C (.ops [⟨some 27, .load 10 true (.t 3), none, [3]⟩,
  ⟨none, .store (.t 2) 10 (.t 27), none, [2]⟩] [2]) k s Q := rfl
def c61_8 : ACode := .seq c61_7 .ret
theorem r61_8 {C : Cs} {k : List Fr} {s : St} {Q : Post} : run C c61_8 k s Q = run C (.seq c61_7 .ret) k s Q := rfl
def c61_9 : ACode := .seq c61_6 c61_8
theorem r61_9 {C : Cs} {k : List Fr} {s : St} {Q : Post} : run C c61_9 k s Q = run C (.seq c61_6 c61_8) k s Q := rfl
def c61_10 : ACode := .seq c61_2 c61_9
theorem r61_10 {C : Cs} {k : List Fr} {s : St} {Q : Post} : run C c61_10 k s Q = run C (.seq c61_2 c61_9) k s Q := rfl
def c61_11 : ACode := .seq c61_1 c61_10
theorem r61_11 {C : Cs} {k : List Fr} {s : St} {Q : Post} : run C c61_11 k s Q = run C (.seq c61_1 c61_10) k s Q := rfl
def c61_12 : ACode := .seq c61_0 c61_11
theorem r61_12 {C : Cs} {k : List Fr} {s : St} {Q : Post} : run C c61_12 k s Q = run C (.seq c61_0 c61_11) k s Q := rfl
def a61 : AFun := ⟨1, 28, c61_12, [.cell 2 10 true]⟩
attribute [simp] r61_0 r61_1 r61_2 r61_3 r61_4 r61_5 r61_6 r61_7 r61_8 r61_9 r61_10 r61_11 r61_12
theorem m61 : mFun Try.prog Try.f61 a61 = true := by decide +kernel
/- copse/copseref10.Breaks -/
def c62_0 : ACode := .ops [⟨some 4, .box (.t 0) 6, none, []⟩,
  ⟨some 5, .box (.t 1) 17, none, []⟩,
  ⟨some 6, .box (.t 2) 4, none, []⟩,
  ⟨some 8, .mv (.c (.bool false)), none, []⟩] [3, 4, 5, 6]
theorem r62_0 {C : Cs} {k : List Fr} {s : St} {Q : Post} : run C c62_0 k s Q = run C (.ops [⟨some 4, .box (.t 0) 6, none, []⟩,
  ⟨some 5, .box (.t 1) 17, none, []⟩,
  ⟨some 6, .box (.t 2) 4, none, []⟩,
  ⟨some 8, .mv (.c (.bool false)), none, []⟩] [3, 4, 5, 6]) k s Q := rfl
def c62_1 : ACode := .ops [⟨some 12, .load 6 true (.t 4), none, [4]⟩,
  ⟨some 13, .load 17 true (.t 5), none, [5]⟩,
  ⟨some 14, .call 60 [.t 12, .t 13], none, []⟩,
  ⟨some 15, .un .not (.t 14), none, []⟩] [3, 4, 5, 6, 15]
theorem r62_1 {C : Cs} {k : List Fr} {s : St} {Q : Post} : run C c62_1 k s Q = run C (.ops [⟨some 12, .load 6 true (.t 4), none, [4]⟩,
  ⟨some 13, .load 17 true (.t 5), none, [5]⟩,
  ⟨some 14, .call 60 [.t 12, .t 13], none, []⟩,
  ⟨some 15, .un .not (.t 14), none, []⟩] [3, 4, 5, 6, 15]) k s Q := rfl
def c62_2 : ACode := .ops [⟨some 8, .mv (.c (.bool false)), none, []⟩] [8]
theorem r62_2 {C : Cs} {k : List Fr} {s : St} {Q : Post} : run C c62_2 k s Q = run C (.ops [⟨some 8, .mv (.c (.bool false)), none, []⟩] [8]) k s Q := rfl
def c62_3 : ACode := .seq c62_2 .ret
theorem r62_3 {C : Cs} {k : List Fr} {s : St} {Q : Post} : run C c62_3 k s Q = run C (.seq c62_2 .ret) k s Q := rfl
def c62_4 : ACode := .cond (.t 15) c62_3 .skip
theorem r62_4 {C : Cs} {k : List Fr} {s : St} {Q : Post} : run C c62_4 k s Q = run C (.cond (.t 15) c62_3 .skip) k s Q := rfl
def c62_5 : ACode := .seq c62_1 c62_4
theorem r62_5 {C : Cs} {k : List Fr} {s : St} {Q : Post} : run C c62_5 k s Q = run C (.seq c62_1 c62_4) k s Q := rfl
def c62_6 : ACode := .ops [⟨some 16, .load 6 true (.t 4), none, [4]⟩,
  ⟨some 17, .fad (.t 5) 1, none, [5]⟩,
  ⟨some 18, .load 1 false (.t 17), none, [5]⟩,
  ⟨some 19, .load 4 true (.t 6), none, [6]⟩,
  ⟨some 20, .call 98 [.t 16, .t 18, .t 19], none, []⟩,
  ⟨some 9, .mv (.t 20), none, []⟩] [3, 4, 5, 6, 9]
theorem r62_6 {C : Cs} {k : List Fr} {s : St} {Q : Post} : run C c62_6 k s Q = run C (.ops [⟨some 16, .load 6 true (.t 4), none, [4]⟩,
  ⟨some 17, .fad (.t 5) 1, none, [5]⟩,
  ⟨some 18, .load 1 false (.t 17), none, [5]⟩,
  ⟨some 19, .load 4 true (.t 6), none, [6]⟩,
  ⟨some 20, .call 98 [.t 16, .t 18, .t 19], none, []⟩,
  ⟨some 9, .mv (.t 20), none, []⟩] [3, 4, 5, 6, 9]) k s Q := rfl
def c62_7 : ACode := .ops [⟨some 21, .fad (.t 5) 0, none, [5]⟩,
  ⟨some 22, .load 1 false (.t 21), none, [5]⟩] [3, 4, 5, 6, 9, 22]
theorem r62_7 {C : Cs} {k : List Fr} {s : St} {Q : Post} : run C c62_7 k s Q = run C (.ops [⟨some 21, .fad (.t 5) 0, none, [5]⟩,
  ⟨some 22, .load 1 false (.t 21), none, [5]⟩] [3, 4, 5, 6, 9, 22]) k s Q := rfl
def c62_8 : ACode := .ops [⟨some 24, .bin .eql (.t 22) (.c (.int .i64 1)), none, []⟩,
  ⟨some 23, .mv (.t 24), none, []⟩] [3, 4, 5, 6, 9, 22, 23]
theorem r62_8 {C : Cs} {k : List Fr} {s : St} {Q : Post} : run C c62_8 k s Q = run C (.ops [⟨some 24, .bin .eql (.t 22) (.c (.int .i64 1)), none, []⟩,
  ⟨some 23, .mv (.t 24), none, []⟩] [3, 4, 5, 6, 9, 22, 23]) k s Q := rfl
def c62_9 : ACode := .ops [⟨some 25, .mv (.t 9), none, []⟩,
  ⟨some 26, .fad (.t 5) 12, none, [5]⟩,
  ⟨some 27, .load 1 false (.t 26), none, [5]⟩,
  ⟨some 28, .bin .lss (.t 25) (.t 27), none, []⟩,
  ⟨some 29, .mv (.t 28), none, []⟩,
  ⟨some 30, .mv (.t 9), some (29, false), []⟩,
  ⟨some 31, .fad (.t 5) 13, some (29, false), [5]⟩,
  ⟨some 32, .load 1 false (.t 31), some (29, false), [5]⟩,
  ⟨some 33, .bin .gtr (.t 30) (.t 32), some (29, false), []⟩,
  ⟨some 34, .pick (.t 29) (.c (.bool true)) (.t 33), none, []⟩,
  ⟨some 8, .mv (.t 34), none, []⟩] [8]
theorem r62_9 {C : Cs} {k : List Fr} {s : St} {Q : Post} : run C c62_9 k s Q = run C (.ops [⟨some 25, .mv (.t 9), none, []⟩,
  ⟨some 26, .fad (.t 5) 12, none, [5]⟩,
  ⟨some 27, .load 1 false (.t 26), none, [5]⟩,
  ⟨some 28, .bin .lss (.t 25) (.t 27), none, []⟩,
  ⟨some 29, .mv (.t 28), none, []⟩,
  ⟨some 30, .mv (.t 9), some (29, false), []⟩,
  ⟨some 31, .fad (.t 5) 13, some (29, false), [5]⟩,
  ⟨some 32, .load 1 false (.t 31), some (29, false), [5]⟩,
  ⟨some 33, .bin .gtr (.t 30) (.t 32), some (29, false), []⟩,
  ⟨some 34, .pick (.t 29) (.c (.bool true)) (.t 33), none, []⟩,
  ⟨some 8, .mv (.t 34), none, []⟩] [8]) k s Q := rfl
def c62_10 : ACode := .seq c62_9 .ret
theorem r62_10 {C : Cs} {k : List Fr} {s : St} {Q : Post} : run C c62_10 k s Q = run C (.seq c62_9 .ret) k s Q := rfl
def c62_11 : ACode := .ops [⟨some 36, .bin .eql (.t 22) (.c (.int .i64 2)), none, []⟩,
  ⟨some 35, .mv (.t 36), none, []⟩] [3, 4, 5, 6, 9, 35]
theorem r62_11 {C : Cs} {k : List Fr} {s : St} {Q : Post} : run C c62_11 k s Q = run C (.ops [⟨some 36, .bin .eql (.t 22) (.c (.int .i64 2)), none, []⟩,
  ⟨some 35, .mv (.t 36), none, []⟩] [3, 4, 5, 6, 9, 35]) k s Q := rfl
def c62_12 : ACode := .ops [⟨some 37, .fad (.t 4) 1, none, [4]⟩,
  ⟨some 38, .load 1 false (.t 37), none, [4]⟩,
  ⟨some 39, .mv (.c (.int .i64 0)), none, []⟩] [4, 5, 6, 9, 38, 39]
theorem r62_12 {C : Cs} {k : List Fr} {s : St} {Q : Post} : run C c62_12 k s Q = run C (.ops [⟨some 37, .fad (.t 4) 1, none, [4]⟩,
  ⟨some 38, .load 1 false (.t 37), none, [4]⟩,
  ⟨some 39, .mv (.c (.int .i64 0)), none, []⟩] [4, 5, 6, 9, 38, 39]) k s Q := rfl
def c62_13 : ACode := .ops [⟨some 40, .bin .lss (.t 39) (.t 38), none, []⟩] [4, 5, 6, 9, 38, 39, 40]
theorem r62_13 {C : Cs} {k : List Fr} {s : St} {Q : Post} : run C c62_13 k s Q = run C (.ops [⟨some 40, .bin .lss (.t 39) (.t 38), none, []⟩] [4, 5, 6, 9, 38, 39, 40]) k s Q := rfl
def c62_14 : ACode := .cond (.t 40) .skip (.exit 1)
theorem r62_14 {C : Cs} {k : List Fr} {s : St} {Q : Post} : run C c62_14 k s Q = run C (.cond (.t 40) .skip (.exit 1)) k s Q := rfl
def c62_15 : ACode := .ops [⟨some 41, .mv (.t 39), none, []⟩,
  ⟨some 10, .mv (.t 41), none, []⟩] [4, 5, 6, 9, 10, 38, 39]
theorem r62_15 {C : Cs} {k : List Fr} {s : St} {Q : Post} : run C c62_15 k s Q = run C (.ops [⟨some 41, .mv (.t 39), none, []⟩,
  ⟨some 10, .mv (.t 41), none, []⟩] [4, 5, 6, 9, 10, 38, 39]) k s Q := rfl
def c62_16 : ACode := .ops [⟨some 42, .mv (.t 10), none, []⟩,
  ⟨some 43, .fad (.t 5) 1, none, [5]⟩,
  ⟨some 44, .load 1 false (.t 43), none, [5]⟩,
  ⟨some 45, .bin .neq (.t 42) (.t 44), none, []⟩,
  ⟨some 46, .mv (.t 45), none, []⟩,
  ⟨some 47, .load 6 true (.t 4), some (46, true), [4]⟩,
  ⟨some 48, .mv (.t 10), some (46, true), []⟩,
  ⟨some 49, .load 4 true (.t 6), some (46, true), [6]⟩,
  ⟨some 50, .call 98 [.t 47, .t 48, .t 49], some (46, true), []⟩,
  ⟨some 51, .mv (.t 9), some (46, true), []⟩,
  ⟨some 52, .bin .geq (.t 50) (.t 51), some (46, true), []⟩,
  ⟨some 53, .pick (.t 46) (.t 52) (.c (.bool false)), none, []⟩] [4, 5, 6, 9, 38, 39, 53]
theorem r62_16 {C : Cs} {k : List Fr} {s : St} {Q : Post} : run C c62_16 k s Q = run C (.ops [⟨some 42, .mv (.t 10), none, []⟩,
  ⟨some 43, .fad (.t 5) 1, none, [5]⟩,
  ⟨some 44, .load 1 false (.t 43), none, [5]⟩,
  ⟨some 45, .bin .neq (.t 42) (.t 44), none, []⟩,
  ⟨some 46, .mv (.t 45), none, []⟩,
  ⟨some 47, .load 6 true (.t 4), some (46, true), [4]⟩,
  ⟨some 48, .mv (.t 10), some (46, true), []⟩,
  ⟨some 49, .load 4 true (.t 6), some (46, true), [6]⟩,
  ⟨some 50, .call 98 [.t 47, .t 48, .t 49], some (46, true), []⟩,
  ⟨some 51, .mv (.t 9), some (46, true), []⟩,
  ⟨some 52, .bin .geq (.t 50) (.t 51), some (46, true), []⟩,
  ⟨some 53, .pick (.t 46) (.t 52) (.c (.bool false)), none, []⟩] [4, 5, 6, 9, 38, 39, 53]) k s Q := rfl
def c62_17 : ACode := .ops [⟨some 8, .mv (.c (.bool true)), none, []⟩] [8]
theorem r62_17 {C : Cs} {k : List Fr} {s : St} {Q : Post} : run C c62_17 k s Q = run C (.ops [⟨some 8, .mv (.c (.bool true)), none, []⟩] [8]) k s Q := rfl
def c62_18 : ACode := .seq c62_17 .ret
theorem r62_18 {C : Cs} {k : List Fr} {s : St} {Q : Post} : run C c62_18 k s Q = run C (.seq c62_17 .ret) k s Q := rfl
def c62_19 : ACode := .cond (.t 53) c62_18 .skip
theorem r62_19 {C : Cs} {k : List Fr} {s : St} {Q : Post} : run C c62_19 k s Q = run C (.cond (.t 53) c62_18 .skip) k s Q := rfl
def c62_20 : ACode := .seq c62_16 c62_19
theorem r62_20 {C : Cs} {k : List Fr} {s : St} {Q : Post} : run C c62_20 k s Q = run C (.seq c62_16 c62_19) k s Q := rfl
def c62_21 : ACode := .seq c62_15 c62_20
theorem r62_21 {C : Cs} {k : List Fr} {s : St} {Q : Post} : run C c62_21 k s Q = run C (.seq c62_15 c62_20) k s Q := rfl
def c62_22 : ACode := .block 2 c62_21
theorem r62_22 {C : Cs} {k : List Fr} {s : St} {Q : Post} : run C c62_22 k s Q = run C (.block 2 c62_21) k s Q := rfl
def c62_23 : ACode := .ops [⟨some 54, .bin .add (.t 39) (.c (.int .i64 1)), none, []⟩,
  ⟨some 39, .mv (.t 54), none, []⟩] [4, 5, 6, 9, 38, 39]
theorem r62_23 {C : Cs} {k : List Fr} {s : St} {Q : Post} : run C c62_23 k s Q = run C (.ops [⟨some 54, .bin .add (.t 39) (.c (.int .i64 1)), none, []⟩,
  ⟨some 39, .mv (.t 54), none, []⟩] [4, 5, 6, 9, 38, 39]) k s Q := rfl
def c62_24 : ACode := .seq c62_22 c62_23
theorem r62_24 {C : Cs} {k : List Fr} {s : St} {Q : Post} : run C c62_24 k s Q = run C (.seq c62_22 c62_23) k s Q := rfl
def c62_25 : ACode := .seq c62_14 c62_24
theorem r62_25 {C : Cs} {k : List Fr} {s : St} {Q : Post} : run C c62_25 k s Q = run C (.seq c62_14 c62_24) k s Q := rfl
def c62_26 : ACode := .seq c62_13 c62_25
theorem r62_26 {C : Cs} {k : List Fr} {s : St} {Q : Post} : run C c62_26 k s Q = run C (.seq c62_13 c62_25) k s Q := rfl
def c62_27 : ACode := .keep [4, 5, 6, 9, 38, 39] [4, 5, 6] c62_26
theorem r62_27 {C : Cs} {k : List Fr} {s : St} {Q : Post} : run C c62_27 k s Q = run C (.keep [4, 5, 6, 9, 38, 39] [4, 5, 6] c62_26) k s Q := rfl
def c62_28 : ACode := .loop c62_27
theorem r62_28 {C : Cs} {k : List Fr} {s : St} {Q : Post} : run C c62_28 k s Q = run C (.loop c62_27) k s Q := rfl
def c62_29 : ACode := .block 1 c62_28
theorem r62_29 {C : Cs} {k : List Fr} {s : St} {Q : Post} : run C c62_29 k s Q = run C (.block 1 c62_28) k s Q := rfl
def c62_30 : ACode := .seq c62_12 c62_29
theorem r62_30 {C : Cs} {k : List Fr} {s : St} {Q : Post} : run C c62_30 k s Q = run C (.seq c62_12 c62_29) k s Q := rfl
def c62_31 : ACode := .ops [⟨some 8, .mv (.c (.bool false)), none, []⟩] [8]
theorem r62_31 {C : Cs} {k : List Fr} {s : St} {Q : Post} : run C c62_31 k s Q = run C (.ops [⟨some 8, .mv (.c (.bool false)), none, []⟩] [8]) k s Q := rfl
def c62_32 : ACode := .seq c62_31 .ret
theorem r62_32 {C : Cs} {k : List Fr} {s : St} {Q : Post} : run C c62_32 k s Q = run C (.seq c62_31 .ret) k s Q := rfl
def c62_33 : ACode := .seq c62_30 c62_32
theorem r62_33 {C : Cs} {k : List Fr} {s : St} {Q : Post} : run C c62_33 k s Q = run C (.seq c62_30 c62_32) k s Q := rfl
def c62_34 : ACode := .cond (.t 35) c62_33 .skip
theorem r62_34 {C : Cs} {k : List Fr} {s : St} {Q : Post} : run C c62_34 k s Q = run C (.cond (.t 35) c62_33 .skip) k s Q := rfl
def c62_35 : ACode := .seq c62_11 c62_34
theorem r62_35 {C : Cs} {k : List Fr} {s : St} {Q : Post} : run C c62_35 k s Q = run C (.seq c62_11 c62_34) k s Q := rfl
def c62_36 : ACode := .cond (.t 23) c62_10 c62_35
theorem r62_36 {C : Cs} {k : List Fr} {s : St} {Q : Post} : run C c62_36 k s Q = run C (.cond (.t 23) c62_10 c62_35) k s Q := rfl
def c62_37 : ACode := .seq c62_8 c62_36
theorem r62_37 {C : Cs} {k : List Fr} {s : St} {Q : Post} : run C c62_37 k s Q = run C (.seq c62_8 c62_36) k s Q := rfl
def c62_38 : ACode := .block 0 c62_37
theorem r62_38 {C : Cs} {k : List Fr} {s : St} {Q : Post} : run C c62_38 k s Q = run C (.block 0 c62_37) k s Q := rfl
def c62_39 : ACode := .seq c62_7 c62_38
theorem r62_39 {C : Cs} {k : List Fr} {s : St} {Q : Post} : run C c62_39 k s Q = run C (.seq c62_7 c62_38) k s Q := rfl
def c62_40 : ACode := .ops [⟨some 55, .fad (.t 5) 14, none, [5]⟩,
  ⟨some 56, .load 1 false (.t 55), none, [5]⟩,
  ⟨some 57, .iad (.t 6) (.t 56) 1 4, none, [6]⟩,
  ⟨some 58, .load 1 false (.t 57), none, [6]⟩,
  ⟨some 59, .mv (.t 3), none, []⟩,
  ⟨some 60, .bin .geq (.t 58) (.t 59), none, []⟩] [3, 4, 5, 6, 9, 60]
theorem r62_40 {C : Cs} {k : List Fr} {s : St} {Q : Post} : run C c62_40 k s Q = run C (.ops [⟨some 55, .fad (.t 5) 14, none, [5]⟩,
  ⟨some 56, .load 1 false (.t 55), none, [5]⟩,
  ⟨some 57, .iad (.t 6) (.t 56) 1 4, none, [6]⟩,
  ⟨some 58, .load 1 false (.t 57), none, [6]⟩,
  ⟨some 59, .mv (.t 3), none, []⟩,
  ⟨some 60, .bin .geq (.t 58) (.t 59), none, []⟩] [3, 4, 5, 6, 9, 60]) k s Q := rfl
def c62_41 : ACode := .ops [⟨some 8, .mv (.c (.bool false)), none, []⟩] [8]
theorem r62_41 {C : Cs} {k : List Fr} {s : St} {Q : Post} : run C c62_41 k s Q = run C (.ops [⟨some 8, .mv (.c (.bool false)), none, []⟩] [8]) k s Q := rfl
def c62_42 : ACode := .seq c62_41 .ret
theorem r62_42 {C : Cs} {k : List Fr} {s : St} {Q : Post} : run C c62_42 k s Q = run C (.seq c62_41 .ret) k s Q := rfl
def c62_43 : ACode := .cond (.t 60) c62_42 .skip
theorem r62_43 {C : Cs} {k : List Fr} {s : St} {Q : Post} : run C c62_43 k s Q = run C (.cond (.t 60) c62_42 .skip) k s Q := rfl
def c62_44 : ACode := .seq c62_40 c62_43
theorem r62_44 {C : Cs} {k : List Fr} {s : St} {Q : Post} : run C c62_44 k s Q = run C (.seq c62_40 c62_43) k s Q := rfl
def c62_45 : ACode := .ops [⟨some 61, .fad (.t 5) 14, none, [5]⟩,
  ⟨some 62, .load 1 false (.t 61), none, [5]⟩,
  ⟨some 63, .mv (.t 3), none, []⟩,
  ⟨some 64, .iad (.t 6) (.t 62) 1 4, none, [6]⟩,
  ⟨none, .store (.t 64) 1 (.t 63), none, [6]⟩] [4, 5, 6, 9]
theorem r62_45 {C : Cs} {k : List Fr} {s : St} {Q : Post} : run C c62_45 k s Q = run C (.ops [⟨some 61, .fad (.t 5) 14, none, [5]⟩,
  ⟨some 62, .load 1 false (.t 61), none, [5]⟩,
  ⟨some 63, .mv (.t 3), none, []⟩,
  ⟨some 64, .iad (.t 6) (.t 62) 1 4, none, [6]⟩,
  ⟨none, .store (.t 64) 1 (.t 63), none, [6]⟩] [4, 5, 6, 9]) k s Q := rfl
def c62_46 : ACode := .ops [⟨some 65, .load 6 true (.t 4), none, [4]⟩,
  ⟨some 66, .fad (.t 5) 1, none, [5]⟩,
  ⟨some 67, .load 1 false (.t 66), none, [5]⟩,
  ⟨some 68, .load 4 true (.t 6), none, [6]⟩,
  ⟨some 69, .call 98 [.t 65, .t 67, .t 68], none, []⟩,
  ⟨some 11, .mv (.t 69), none, []⟩] [5, 9, 11]
theorem r62_46 {C : Cs} {k : List Fr} {s : St} {Q : Post} : run C c62_46 k s Q = run C (.ops [⟨some 65, .load 6 true (.t 4), none, [4]⟩,
  ⟨some 66, .fad (.t 5) 1, none, [5]⟩,
  ⟨some 67, .load 1 false (.t 66), none, [5]⟩,
  ⟨some 68, .load 4 true (.t 6), none, [6]⟩,
  ⟨some 69, .call 98 [.t 65, .t 67, .t 68], none, []⟩,
  ⟨some 11, .mv (.t 69), none, []⟩] [5, 9, 11]) k s Q := rfl
def c62_47 : ACode := .ops [⟨some 70, .fad (.t 5) 15, none, [5]⟩,
  ⟨some 71, .load 1 false (.t 70), none, [5]⟩,
  ⟨some 72, .mv (.t 71), none, []⟩,
  ⟨some 73, .mv (.t 9), some (72, true), []⟩,
  ⟨some 74, .mv (.t 11), some (72, true), []⟩,
  ⟨some 75, .bin .lss (.t 73) (.t 74), some (72, true), []⟩,
  ⟨some 76, .pick (.t 72) (.t 75) (.c (.bool false)), none, []⟩,
  ⟨some 77, .mv (.t 76), none, []⟩,
  ⟨some 78, .fad (.t 5) 15, some (77, false), [5]⟩,
  ⟨some 79, .load 1 false (.t 78), some (77, false), [5]⟩,
  ⟨some 80, .un .not (.t 79), some (77, false), []⟩,
  ⟨some 81, .mv (.t 80), some (77, false), []⟩,
  ⟨some 82, .mv (.t 9), some (81, true), []⟩,
  ⟨some 83, .mv (.t 11), some (81, true), []⟩,
  ⟨some 84, .bin .gtr (.t 82) (.t 83), some (81, true), []⟩,
  ⟨some 85, .pick (.t 81) (.t 84) (.c (.bool false)), some (77, false), []⟩,
  ⟨some 86, .pick (.t 77) (.c (.bool true)) (.t 85), none, []⟩,
  ⟨some 8, .mv (.t 86), none, []⟩] [8]
theorem r62_47 {C : Cs} {k : List Fr} {s : St} {Q : Post} : run C c62_47 k s Q = run C (.ops [⟨some 70, .fad (.t 5) 15, none, [5]⟩,
  ⟨some 71, .load 1 false (.t 70), none, [5]⟩,
  ⟨some 72, .mv (.t 71), none, []⟩,
  ⟨some 73, .mv (.t 9), some (72, true), []⟩,
  ⟨some 74, .mv (.t 11), some (72, true), []⟩,
  ⟨some 75, .bin .lss (.t 73) (.t 74), some (72, true), []⟩,
  ⟨some 76, .pick (.t 72) (.t 75) (.c (.bool false)), none, []⟩,
  ⟨some 77, .mv (.t 76), none, []⟩,
  ⟨some 78, .fad (.t 5) 15, some (77, false), [5]⟩,
  ⟨some 79, .load 1 false (.t 78), some (77, false), [5]⟩,
  ⟨some 80, .un .not (.t 79), some (77, false), []⟩,
  ⟨some 81, .mv (.t 80), some (77, false), []⟩,
  ⟨some 82, .mv (.t 9), some (81, true), []⟩,
  ⟨some 83, .mv (.t 11), some (81, true), []⟩,
  ⟨some 84, .bin .gtr (.t 82) (.t 83), some (81, true), []⟩,
  ⟨some 85, .pick (.t 81) (.t 84) (.c (.bool false)), some (77, false), []⟩,
  ⟨some 86, .pick (.t 77) (.c (.bool true)) (.t 85), none, []⟩,
  ⟨some 8, .mv (.t 86), none, []⟩] [8]) k s Q := rfl
def c62_48 : ACode := .seq c62_47 .ret
theorem r62_48 {C : Cs} {k : List Fr} {s : St} {Q : Post} : run C c62_48 k s Q = run C (.seq c62_47 .ret) k s Q := rfl
def c62_49 : ACode := .seq c62_46 c62_48
theorem r62_49 {C : Cs} {k : List Fr} {s : St} {Q : Post} : run C c62_49 k s Q = run C (.seq c62_46 c62_48) k s Q := rfl
def c62_50 : ACode := .seq c62_45 c62_49
theorem r62_50 {C : Cs} {k : List Fr} {s : St} {Q : Post} : run C c62_50 k s Q = run C (.seq c62_45 c62_49) k s Q := rfl
def c62_51 : ACode := .seq c62_44 c62_50
theorem r62_51 {C : Cs} {k : List Fr} {s : St} {Q : Post} : run C c62_51 k s Q = run C (.seq c62_44 c62_50) k s Q := rfl
def c62_52 : ACode := .seq c62_39 c62_51
theorem r62_52 {C : Cs} {k : List Fr} {s : St} {Q : Post} : run C c62_52 k s Q = run C (.seq c62_39 c62_51) k s Q := rfl
def c62_53 : ACode := .seq c62_6 c62_52
theorem r62_53 {C : Cs} {k : List Fr} {s : St} {Q : Post} : run C c62_53 k s Q = run C (.seq c62_6 c62_52) k s Q := rfl
def c62_54 : ACode := .seq c62_5 c62_53
theorem r62_54 {C : Cs} {k : List Fr} {s : St} {Q : Post} : run C c62_54 k s Q = run C (.seq c62_5 c62_53) k s Q := rfl
def c62_55 : ACode := .seq c62_0 c62_54
theorem r62_55 {C : Cs} {k : List Fr} {s : St} {Q : Post} : run C c62_55 k s Q = run C (.seq c62_0 c62_54) k s Q := rfl
def a62 : AFun := ⟨4, 87, c62_55, [.t 8]⟩
attribute [simp] r62_0 r62_1 r62_2 r62_3 r62_4 r62_5 r62_6 r62_7 r62_8 r62_9 r62_10 r62_11 r62_12 r62_13 r62_14 r62_15 r62_16 r62_17 r62_18 r62_19 r62_20 r62_21 r62_22 r62_23 r62_24 r62_25 r62_26 r62_27 r62_28 r62_29 r62_30 r62_31 r62_32 r62_33 r62_34 r62_35 r62_36 r62_37 r62_38 r62_39 r62_40 r62_41 r62_42 r62_43 r62_44 r62_45 r62_46 r62_47 r62_48 r62_49 r62_50 r62_51 r62_52 r62_53 r62_54 r62_55
theorem m62 : mFun Try.prog Try.f62 a62 = true := by decide +kernel


theorem rRight_rest {C : Cs} (m : Model) (q : Query) (g : Nat → Nat) (h : Hp) (x y z : AV) : run C c60_45 [] ⟨[(2, .ptr 2 (g 2) 0), (3, .ptr 3 (g 3) 0), (33, x), (34, y), (35, z)], (2, ⟨Row.enc m, false, 0⟩) :: (3, ⟨Row.enc q, false, 0⟩) :: h, g⟩ (fin [.t 4] (.bool (okKind m q))) := by
  by_cases k1 : q.kind = 1
  case pos =>
    by_cases a0 : q.lo ≤ q.hi
    case neg => simp -implicitDefEqProofs [okKind, k1, a0]
    by_cases a1 : q.feature = 0
    case neg => simp -implicitDefEqProofs [okKind, k1, a0, a1]
    cases q.falls <;> simp -implicitDefEqProofs [okKind, k1, a0, a1]
  by_cases k2 : q.kind = 2
  case pos =>
    by_cases a0 : 2 ≤ m.classes
    case neg => simp -implicitDefEqProofs [okKind, k1, k2, a0]
    by_cases a1 : q.lo = 0
    case neg => simp -implicitDefEqProofs [okKind, k1, k2, a0, a1]
    by_cases a2 : q.hi = 0
    case neg => simp -implicitDefEqProofs [okKind, k1, k2, a0, a1, a2]
    by_cases a3 : q.feature = 0
    case neg => simp -implicitDefEqProofs [okKind, k1, k2, a0, a1, a2, a3]
    cases q.falls <;> simp -implicitDefEqProofs [okKind, k1, k2, a0, a1, a2, a3]
  by_cases k3 : q.kind = 3
  case pos =>
    by_cases a0 : 0 ≤ q.feature
    case neg => simp -implicitDefEqProofs [okKind, k1, k2, k3, a0]
    by_cases a1 : q.feature < m.dim
    case neg => simp -implicitDefEqProofs [okKind, k1, k2, k3, a0, a1]
    by_cases a2 : q.lo = 0
    case neg => simp -implicitDefEqProofs [okKind, k1, k2, k3, a0, a1, a2]
    simp -implicitDefEqProofs [okKind, k1, k2, k3, a0, a1, a2]
  simp -implicitDefEqProofs [okKind, k1, k2, k3]

theorem okRegion_get (b : Box) (dim : Int) : okRegion b dim = true ↔ ∀ j : Nat, j < 5 → okSpan dim j (b.get j) = true := by
  unfold okRegion
  simp only [Bool.and_eq_true]
  constructor
  · rintro ⟨⟨⟨⟨h0, h1⟩, h2⟩, h3⟩, h4⟩ j hj
    have : j = 0 ∨ j = 1 ∨ j = 2 ∨ j = 3 ∨ j = 4 := by omega
    rcases this with rfl | rfl | rfl | rfl | rfl
    · exact h0
    · exact h1
    · exact h2
    · exact h3
    · exact h4
  · intro h
    exact ⟨⟨⟨⟨h 0 (by omega), h 1 (by omega)⟩, h 2 (by omega)⟩, h 3 (by omega)⟩, h 4 (by omega)⟩
@[simp high] theorem rd_spanN (b : Box) (k : Nat) (h : k < 5) : rd [.int .i64 b.s0.lo, .int .i64 b.s0.hi, .int .i64 b.s1.lo, .int .i64 b.s1.hi, .int .i64 b.s2.lo, .int .i64 b.s2.hi, .int .i64 b.s3.lo, .int .i64 b.s3.hi, .int .i64 b.s4.lo, .int .i64 b.s4.hi] (k * 2) 2 true = some (.agg [.int .i64 (b.get k).lo, .int .i64 (b.get k).hi]) := by
  have hf : k = 0 ∨ k = 1 ∨ k = 2 ∨ k = 3 ∨ k = 4 := by omega
  rcases hf with rfl | rfl | rfl | rfl | rfl <;> rfl
set_option maxHeartbeats 4000000 in
theorem rRight_loop (m : Model) (q : Query) (hd : 1 ≤ m.dim ∧ m.dim ≤ 4) (g : Nat → Nat) (h : Hp) (hh : keepH h [2, 3] = [(2, ⟨Row.enc m, false, 0⟩), (3, ⟨Row.enc q, false, 0⟩)]) :
    run (tbl [(97, sp1 RModel), (119, sp2 Fits)]) (.loop c60_21) [Fr.blk 0, Fr.c c60_45] ⟨[(2, .ptr 2 (g 2) 0), (3, .ptr 3 (g 3) 0), (33, .agg (Row.enc q.region)), (34, .int .i64 0)], h, g⟩ (fin [.t 4] (.bool (okRegion q.region m.dim && okKind m q))) := by
  refine run_while (c := c60_20) (fun n s => ∃ (i : Nat) (g : Nat → Nat), i + n = 5 ∧ (∀ j : Nat, j < i → okSpan m.dim j (q.region.get j) = true) ∧ s = ⟨[(2, .ptr 2 (g 2) 0), (3, .ptr 3 (g 3) 0), (33, .agg (Row.enc q.region)), (34, .int .i64 i)], [(2, ⟨Row.enc m, false, 0⟩), (3, ⟨Row.enc q, false, 0⟩)], g⟩) 5 ⟨0, g, by omega, fun j hj => by omega, by simp only [hh]; rfl⟩ ?_
  rintro n s ⟨i, g, hi, hok, rfl⟩
  by_cases h1 : i < 5
  case neg =>
    have h1i : ¬ (i : Int) < 5 := by omega
    have hall : okRegion q.region m.dim = true := (okRegion_get _ _).2 fun j hj => hok j (by omega)
    rw [hall, Bool.true_and]
    simp -implicitDefEqProofs [h1i, -r60_45]
    exact rRight_rest m q g [] _ _ _
  have h1i : (i : Int) < 5 := by omega
  have w1 : IntKind.i64.wrap ((i : Int) + 1) = (i : Int) + 1 := wrap64 (by omega) (by omega)
  have hbad : okSpan m.dim i (q.region.get i) = false → (okRegion q.region m.dim && okKind m q) = false := by
    intro hb
    have : okRegion q.region m.dim = false := by
      cases hr : okRegion q.region m.dim
      · rfl
      · rw [(okRegion_get _ _).1 hr i h1] at hb; cases hb
    rw [this]
    rfl
  have hgood : okSpan m.dim i (q.region.get i) = true → ∀ j : Nat, j < i + 1 → okSpan m.dim j (q.region.get j) = true := by
    intro hb j hj
    by_cases e : j = i
    · subst e; exact hb
    · exact hok j (by omega)
  unfold okSpan Span.empty at hbad hgood
  generalize hsp : q.region.get i = sp at *
  have hrd : q.region.get (i : Int) = sp := hsp
  by_cases a1 : (i : Int) < m.dim
  · have a2 : ¬ m.dim ≤ i := by omega
    by_cases e1 : sp.hi < sp.lo
    case pos =>
      rw [hbad (by simp [e1])]
      simp -implicitDefEqProofs [h1, h1i, hrd, a1, a2, e1, Fits]
    cases e2 : fits sp.lo
    case false =>
      rw [hbad (by simp [e2])]
      simp -implicitDefEqProofs [h1, h1i, hrd, a1, a2, e1, e2, Fits]
    cases e3 : fits sp.hi
    case false =>
      rw [hbad (by simp [e3])]
      simp -implicitDefEqProofs [h1, h1i, hrd, a1, a2, e1, e2, e3, Fits]
    have hg := hgood (by simp [a1, e1, e2, e3])
    simp -implicitDefEqProofs [h1, h1i, hrd, a1, a2, e1, e2, e3, Fits, w1]
    exact ⟨n - 1, by omega, i + 1, by omega, hg, by omega⟩
  · have a2 : m.dim ≤ i := by omega
    by_cases e1 : sp.lo = 0
    case neg =>
      rw [hbad (by have : sp ≠ ⟨0, 0⟩ := fun e => e1 (by rw [e]); simp [a1, this])]
      simp -implicitDefEqProofs [h1, h1i, hrd, a1, a2, e1, Fits]
    by_cases e2 : sp.hi = 0
    case neg =>
      rw [hbad (by have : sp ≠ ⟨0, 0⟩ := fun e => e2 (by rw [e]); simp [a1, this])]
      simp -implicitDefEqProofs [h1, h1i, hrd, a1, a2, e1, e2, Fits]
    have hz : sp = ⟨0, 0⟩ := by obtain ⟨x, y⟩ := sp; simp only at e1 e2; rw [e1, e2]
    have fz : fits 0 = true := rfl
    have hg := hgood (by rw [hz]; simp [fz])
    simp -implicitDefEqProofs [h1, h1i, hrd, a1, a2, e1, e2, Fits, w1]
    exact ⟨n - 1, by omega, i + 1, by omega, hg, by omega⟩

set_option maxHeartbeats 4000000 in
theorem runs_rRight (m : Model) (q : Query) (c : Bool) (h : Part (RM m) (okQuery m q) = some c) : Runs (tbl [(97, sp1 RModel), (119, sp2 Fits)]) a60 [Arg.enc m, Arg.enc q] (Arg.enc c) := by
  obtain ⟨hr, rfl⟩ := part_some h
  clear h
  refine ⟨rfl, fun g => run_def ?_⟩
  unfold a60
  have hM : RModel m = some true := part_of hr _
  have hd := hr.dim
  by_cases a0 : q.cls < 0
  case pos =>
    have : ¬ 0 ≤ q.cls := by omega
    simp -implicitDefEqProofs [hM, a0, okQuery, this]
  have a0' : 0 ≤ q.cls := by omega
  by_cases a1 : m.classes ≤ q.cls
  case pos =>
    have : ¬ q.cls < m.classes := by omega
    simp -implicitDefEqProofs [hM, a0, a1, okQuery, this]
  have a1' : q.cls < m.classes := by omega
  by_cases a2 : q.budget < 0
  case pos =>
    have : ¬ 0 ≤ q.budget := by omega
    simp -implicitDefEqProofs [hM, a0, a1, a2, okQuery, this]
  have a2' : 0 ≤ q.budget := by omega
  by_cases a3 : 65536 < q.budget
  case pos =>
    have : ¬ q.budget ≤ 65536 := by omega
    simp -implicitDefEqProofs [hM, a0, a1, a2, a3, okQuery, this]
  have a3' : q.budget ≤ 65536 := by omega
  have hres : okQuery m q = (okRegion q.region m.dim && okKind m q) := by simp [okQuery, a0', a1', a2', a3']
  rw [hres]
  simp -implicitDefEqProofs [hM, a0, a1, a2, a3, -r60_22]
  exact rRight_loop m q hd (bump 3 (bump 2 g)) _ (by simp)
noncomputable def RQRight (m : Model) (q : Query) : Option Bool := Part (RM m) (okQuery m q)
theorem c_rRight' : Contract Try.prog 60 (sp2 RQRight) :=
  contract_of_runs mixed (tbl_cons c_rModel (tbl_cons c_rFits tbl_nil)) Try.func60 m60 (sp2_runs runs_rRight)

theorem runs_rStart (q : Query) (c : Box) (h : some (startOf q) = some c) : Runs (tbl []) a61 [Arg.enc q] (Arg.enc c) := by
  cases h
  refine ⟨rfl, fun g => run_def ?_⟩
  unfold a61
  obtain ⟨kind, cls, region, lo, hi, feature, falls, budget⟩ := q
  by_cases k1 : kind = 3
  case neg => simp -implicitDefEqProofs [startOf, paired, k1]
  by_cases k2 : 0 ≤ feature
  case neg => simp -implicitDefEqProofs [startOf, paired, k1, k2]
  by_cases k3 : feature < 4
  case neg => simp -implicitDefEqProofs [startOf, paired, k1, k2, k3]
  have hf : feature = 0 ∨ feature = 1 ∨ feature = 2 ∨ feature = 3 := by omega
  rcases hf with rfl | rfl | rfl | rfl <;> simp -implicitDefEqProofs [startOf, paired, k1, Box.get]
theorem c_rStart : Contract Try.prog 61 (sp1 fun q => some (startOf q)) :=
  contract_of_runs mixed tbl_nil Try.func61 m61 (sp1_runs runs_rStart)
end Go.Co
