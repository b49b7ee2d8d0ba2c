/- CO: the document's own answers: trees and models. -/
import Derived.Test.YtbjnmbbhlaghaaaCoM
import Derived.Test.YtbjnmbbhlaghaaaCoMap
namespace Go.Co
open Go.Am Go.Proofs
set_option linter.unusedSimpArgs false
set_option linter.unusedVariables false

/- copse/copseref6.RightTree -/
def c146_0 : ACode := .ops [⟨some 4, .mv (.c (.bool false)), none, []⟩] [0, 1]
theorem r146_0 {C : Cs} {k : List Fr} {s : St} {Q : Post} : run C c146_0 k s Q = run C (.ops [⟨some 4, .mv (.c (.bool false)), none, []⟩] [0, 1]) k s Q := rfl
def c146_1 : ACode := .ops [⟨some 11, .mv (.t 0), none, []⟩,
  ⟨some 12, .len (.t 11), none, []⟩,
  ⟨some 13, .bin .lss (.t 12) (.c (.int .i64 1)), none, []⟩,
  ⟨some 14, .mv (.t 13), none, []⟩,
  ⟨some 15, .mv (.t 0), some (14, false), []⟩,
  ⟨some 16, .len (.t 15), some (14, false), []⟩,
  ⟨some 17, .bin .gtr (.t 16) (.c (.int .i64 31)), some (14, false), []⟩,
  ⟨some 18, .pick (.t 14) (.c (.bool true)) (.t 17), none, []⟩] [0, 1, 18]
theorem r146_1 {C : Cs} {k : List Fr} {s : St} {Q : Post} : run C c146_1 k s Q = run C (.ops [⟨some 11, .mv (.t 0), none, []⟩,
  ⟨some 12, .len (.t 11), none, []⟩,
  ⟨some 13, .bin .lss (.t 12) (.c (.int .i64 1)), none, []⟩,
  ⟨some 14, .mv (.t 13), none, []⟩,
  ⟨some 15, .mv (.t 0), some (14, false), []⟩,
  ⟨some 16, .len (.t 15), some (14, false), []⟩,
  ⟨some 17, .bin .gtr (.t 16) (.c (.int .i64 31)), some (14, false), []⟩,
  ⟨some 18, .pick (.t 14) (.c (.bool true)) (.t 17), none, []⟩] [0, 1, 18]) k s Q := rfl
def c146_2 : ACode := .ops [⟨some 4, .mv (.c (.bool false)), none, []⟩] [4]
theorem r146_2 {C : Cs} {k : List Fr} {s : St} {Q : Post} : run C c146_2 k s Q = run C (.ops [⟨some 4, .mv (.c (.bool false)), none, []⟩] [4]) k s Q := rfl
def c146_3 : ACode := .seq c146_2 .ret
theorem r146_3 {C : Cs} {k : List Fr} {s : St} {Q : Post} : run C c146_3 k s Q = run C (.seq c146_2 .ret) k s Q := rfl
def c146_4 : ACode := .cond (.t 18) c146_3 .skip
theorem r146_4 {C : Cs} {k : List Fr} {s : St} {Q : Post} : run C c146_4 k s Q = run C (.cond (.t 18) c146_3 .skip) k s Q := rfl
def c146_5 : ACode := .seq c146_1 c146_4
theorem r146_5 {C : Cs} {k : List Fr} {s : St} {Q : Post} : run C c146_5 k s Q = run C (.seq c146_1 c146_4) k s Q := rfl
def c146_6 : ACode := .ops [⟨some 19, .mkmap, none, []⟩,
  ⟨some 5, .mv (.t 19), none, []⟩] [0, 1, 5]
theorem r146_6 {C : Cs} {k : List Fr} {s : St} {Q : Post} : run C c146_6 k s Q = run C (.ops [⟨some 19, .mkmap, none, []⟩,
  ⟨some 5, .mv (.t 19), none, []⟩] [0, 1, 5]) k s Q := rfl
def c146_7 : ACode := .ops [⟨some 20, .mv (.t 0), none, []⟩,
  ⟨some 21, .len (.t 20), none, []⟩,
  ⟨some 22, .mv (.c (.int .i64 0)), none, []⟩] [0, 1, 5, 20, 21, 22]
theorem r146_7 {C : Cs} {k : List Fr} {s : St} {Q : Post} : run C c146_7 k s Q = run C (.ops [⟨some 20, .mv (.t 0), none, []⟩,
  ⟨some 21, .len (.t 20), none, []⟩,
  ⟨some 22, .mv (.c (.int .i64 0)), none, []⟩] [0, 1, 5, 20, 21, 22]) k s Q := rfl
def c146_8 : ACode := .ops [⟨some 23, .bin .lss (.t 22) (.t 21), none, []⟩] [0, 1, 5, 20, 21, 22, 23]
theorem r146_8 {C : Cs} {k : List Fr} {s : St} {Q : Post} : run C c146_8 k s Q = run C (.ops [⟨some 23, .bin .lss (.t 22) (.t 21), none, []⟩] [0, 1, 5, 20, 21, 22, 23]) k s Q := rfl
def c146_9 : ACode := .cond (.t 23) .skip (.exit 0)
theorem r146_9 {C : Cs} {k : List Fr} {s : St} {Q : Post} : run C c146_9 k s Q = run C (.cond (.t 23) .skip (.exit 0)) k s Q := rfl
def c146_10 : ACode := .ops [⟨some 24, .mv (.t 22), none, []⟩,
  ⟨some 25, .ias (.t 20) (.t 22) 1, none, []⟩,
  ⟨some 26, .load 1 false (.t 25), none, []⟩,
  ⟨some 6, .mv (.t 24), none, []⟩,
  ⟨some 7, .mv (.t 26), none, []⟩] [0, 1, 5, 6, 7, 20, 21, 22]
theorem r146_10 {C : Cs} {k : List Fr} {s : St} {Q : Post} : run C c146_10 k s Q = run C (.ops [⟨some 24, .mv (.t 22), none, []⟩,
  ⟨some 25, .ias (.t 20) (.t 22) 1, none, []⟩,
  ⟨some 26, .load 1 false (.t 25), none, []⟩,
  ⟨some 6, .mv (.t 24), none, []⟩,
  ⟨some 7, .mv (.t 26), none, []⟩] [0, 1, 5, 6, 7, 20, 21, 22]) k s Q := rfl
def c146_11 : ACode := .ops [⟨some 28, .mv (.t 7), none, []⟩,
  ⟨some 29, .call 136 [.t 28], none, []⟩,
  ⟨some 27, .mv (.t 29), none, []⟩,
  ⟨some 30, .ext (.t 27) 0, none, []⟩,
  ⟨some 31, .ext (.t 27) 1, none, []⟩,
  ⟨some 8, .alloc [.bool false, .int .i64 0, .int .i64 0, .int .i64 0, .int .i64 0, .int .i64 0], none, []⟩,
  ⟨none, .store (.t 8) 6 (.t 30), none, [8]⟩,
  ⟨some 9, .mv (.t 31), none, []⟩] [0, 1, 5, 6, 8, 9, 20, 21, 22]
theorem r146_11 {C : Cs} {k : List Fr} {s : St} {Q : Post} : run C c146_11 k s Q = run C (.ops [⟨some 28, .mv (.t 7), none, []⟩,
  ⟨some 29, .call 136 [.t 28], none, []⟩,
  ⟨some 27, .mv (.t 29), none, []⟩,
  ⟨some 30, .ext (.t 27) 0, none, []⟩,
  ⟨some 31, .ext (.t 27) 1, none, []⟩,
  ⟨some 8, .alloc [.bool false, .int .i64 0, .int .i64 0, .int .i64 0, .int .i64 0, .int .i64 0], none, []⟩,
  ⟨none, .store (.t 8) 6 (.t 30), none, [8]⟩,
  ⟨some 9, .mv (.t 31), none, []⟩] [0, 1, 5, 6, 8, 9, 20, 21, 22]) k s Q := rfl
def c146_12 : ACode := .ops [⟨some 32, .mv (.t 9), none, []⟩,
  ⟨some 33, .un .not (.t 32), none, []⟩] [0, 1, 5, 6, 8, 20, 21, 22, 33]
theorem r146_12 {C : Cs} {k : List Fr} {s : St} {Q : Post} : run C c146_12 k s Q = run C (.ops [⟨some 32, .mv (.t 9), none, []⟩,
  ⟨some 33, .un .not (.t 32), none, []⟩] [0, 1, 5, 6, 8, 20, 21, 22, 33]) k s Q := rfl
def c146_13 : ACode := .ops [⟨some 4, .mv (.c (.bool false)), none, []⟩] [4]
theorem r146_13 {C : Cs} {k : List Fr} {s : St} {Q : Post} : run C c146_13 k s Q = run C (.ops [⟨some 4, .mv (.c (.bool false)), none, []⟩] [4]) k s Q := rfl
def c146_14 : ACode := .seq c146_13 .ret
theorem r146_14 {C : Cs} {k : List Fr} {s : St} {Q : Post} : run C c146_14 k s Q = run C (.seq c146_13 .ret) k s Q := rfl
def c146_15 : ACode := .cond (.t 33) c146_14 .skip
theorem r146_15 {C : Cs} {k : List Fr} {s : St} {Q : Post} : run C c146_15 k s Q = run C (.cond (.t 33) c146_14 .skip) k s Q := rfl
def c146_16 : ACode := .seq c146_12 c146_15
theorem r146_16 {C : Cs} {k : List Fr} {s : St} {Q : Post} : run C c146_16 k s Q = run C (.seq c146_12 c146_15) k s Q := rfl
def c146_17 : ACode := .ops [⟨some 34, .fad (.t 8) 0, none, [8]⟩,
  ⟨some 35, .load 1 false (.t 34), none, [8]⟩] [0, 1, 5, 6, 8, 20, 21, 22, 35]
theorem r146_17 {C : Cs} {k : List Fr} {s : St} {Q : Post} : run C c146_17 k s Q = run C (.ops [⟨some 34, .fad (.t 8) 0, none, [8]⟩,
  ⟨some 35, .load 1 false (.t 34), none, [8]⟩] [0, 1, 5, 6, 8, 20, 21, 22, 35]) k s Q := rfl
def c146_18 : ACode := .cond (.t 35) (.exit 1) .skip
theorem r146_18 {C : Cs} {k : List Fr} {s : St} {Q : Post} : run C c146_18 k s Q = run C (.cond (.t 35) (.exit 1) .skip) k s Q := rfl
def c146_19 : ACode := .seq c146_17 c146_18
theorem r146_19 {C : Cs} {k : List Fr} {s : St} {Q : Post} : run C c146_19 k s Q = run C (.seq c146_17 c146_18) k s Q := rfl
def c146_20 : ACode := .ops [⟨some 36, .fad (.t 8) 2, none, [8]⟩,
  ⟨some 37, .load 1 false (.t 36), none, [8]⟩,
  ⟨some 38, .mv (.t 1), none, []⟩,
  ⟨some 39, .bin .geq (.t 37) (.t 38), none, []⟩,
  ⟨some 40, .mv (.t 39), none, []⟩,
  ⟨some 41, .fad (.t 8) 4, some (40, false), [8]⟩,
  ⟨some 42, .load 1 false (.t 41), some (40, false), [8]⟩,
  ⟨some 43, .mv (.t 6), some (40, false), []⟩,
  ⟨some 44, .bin .leq (.t 42) (.t 43), some (40, false), []⟩,
  ⟨some 45, .pick (.t 40) (.c (.bool true)) (.t 44), none, []⟩,
  ⟨some 46, .mv (.t 45), none, []⟩,
  ⟨some 47, .fad (.t 8) 5, some (46, false), [8]⟩,
  ⟨some 48, .load 1 false (.t 47), some (46, false), [8]⟩,
  ⟨some 49, .mv (.t 6), some (46, false), []⟩,
  ⟨some 50, .bin .leq (.t 48) (.t 49), some (46, false), []⟩,
  ⟨some 51, .pick (.t 46) (.c (.bool true)) (.t 50), none, []⟩,
  ⟨some 52, .mv (.t 51), none, []⟩,
  ⟨some 53, .fad (.t 8) 4, some (52, false), [8]⟩,
  ⟨some 54, .load 1 false (.t 53), some (52, false), [8]⟩,
  ⟨some 55, .mv (.t 0), some (52, false), []⟩,
  ⟨some 56, .len (.t 55), some (52, false), []⟩,
  ⟨some 57, .bin .geq (.t 54) (.t 56), some (52, false), []⟩,
  ⟨some 58, .pick (.t 52) (.c (.bool true)) (.t 57), none, []⟩,
  ⟨some 59, .mv (.t 58), none, []⟩,
  ⟨some 60, .fad (.t 8) 5, some (59, false), [8]⟩,
  ⟨some 61, .load 1 false (.t 60), some (59, false), [8]⟩,
  ⟨some 62, .mv (.t 0), some (59, false), []⟩,
  ⟨some 63, .len (.t 62), some (59, false), []⟩,
  ⟨some 64, .bin .geq (.t 61) (.t 63), some (59, false), []⟩,
  ⟨some 65, .pick (.t 59) (.c (.bool true)) (.t 64), none, []⟩,
  ⟨some 66, .mv (.t 65), none, []⟩,
  ⟨some 67, .fad (.t 8) 4, some (66, false), [8]⟩,
  ⟨some 68, .load 1 false (.t 67), some (66, false), [8]⟩,
  ⟨some 69, .fad (.t 8) 5, some (66, false), [8]⟩,
  ⟨some 70, .load 1 false (.t 69), some (66, false), [8]⟩,
  ⟨some 71, .bin .eql (.t 68) (.t 70), some (66, false), []⟩,
  ⟨some 72, .pick (.t 66) (.c (.bool true)) (.t 71), none, []⟩] [0, 1, 5, 8, 20, 21, 22, 72]
theorem r146_20 {C : Cs} {k : List Fr} {s : St} {Q : Post} : run C c146_20 k s Q = run C (.ops [⟨some 36, .fad (.t 8) 2, none, [8]⟩,
  ⟨some 37, .load 1 false (.t 36), none, [8]⟩,
  ⟨some 38, .mv (.t 1), none, []⟩,
  ⟨some 39, .bin .geq (.t 37) (.t 38), none, []⟩,
  ⟨some 40, .mv (.t 39), none, []⟩,
  ⟨some 41, .fad (.t 8) 4, some (40, false), [8]⟩,
  ⟨some 42, .load 1 false (.t 41), some (40, false), [8]⟩,
  ⟨some 43, .mv (.t 6), some (40, false), []⟩,
  ⟨some 44, .bin .leq (.t 42) (.t 43), some (40, false), []⟩,
  ⟨some 45, .pick (.t 40) (.c (.bool true)) (.t 44), none, []⟩,
  ⟨some 46, .mv (.t 45), none, []⟩,
  ⟨some 47, .fad (.t 8) 5, some (46, false), [8]⟩,
  ⟨some 48, .load 1 false (.t 47), some (46, false), [8]⟩,
  ⟨some 49, .mv (.t 6), some (46, false), []⟩,
  ⟨some 50, .bin .leq (.t 48) (.t 49), some (46, false), []⟩,
  ⟨some 51, .pick (.t 46) (.c (.bool true)) (.t 50), none, []⟩,
  ⟨some 52, .mv (.t 51), none, []⟩,
  ⟨some 53, .fad (.t 8) 4, some (52, false), [8]⟩,
  ⟨some 54, .load 1 false (.t 53), some (52, false), [8]⟩,
  ⟨some 55, .mv (.t 0), some (52, false), []⟩,
  ⟨some 56, .len (.t 55), some (52, false), []⟩,
  ⟨some 57, .bin .geq (.t 54) (.t 56), some (52, false), []⟩,
  ⟨some 58, .pick (.t 52) (.c (.bool true)) (.t 57), none, []⟩,
  ⟨some 59, .mv (.t 58), none, []⟩,
  ⟨some 60, .fad (.t 8) 5, some (59, false), [8]⟩,
  ⟨some 61, .load 1 false (.t 60), some (59, false), [8]⟩,
  ⟨some 62, .mv (.t 0), some (59, false), []⟩,
  ⟨some 63, .len (.t 62), some (59, false), []⟩,
  ⟨some 64, .bin .geq (.t 61) (.t 63), some (59, false), []⟩,
  ⟨some 65, .pick (.t 59) (.c (.bool true)) (.t 64), none, []⟩,
  ⟨some 66, .mv (.t 65), none, []⟩,
  ⟨some 67, .fad (.t 8) 4, some (66, false), [8]⟩,
  ⟨some 68, .load 1 false (.t 67), some (66, false), [8]⟩,
  ⟨some 69, .fad (.t 8) 5, some (66, false), [8]⟩,
  ⟨some 70, .load 1 false (.t 69), some (66, false), [8]⟩,
  ⟨some 71, .bin .eql (.t 68) (.t 70), some (66, false), []⟩,
  ⟨some 72, .pick (.t 66) (.c (.bool true)) (.t 71), none, []⟩] [0, 1, 5, 8, 20, 21, 22, 72]) k s Q := rfl
def c146_21 : ACode := .ops [⟨some 4, .mv (.c (.bool false)), none, []⟩] [4]
theorem r146_21 {C : Cs} {k : List Fr} {s : St} {Q : Post} : run C c146_21 k s Q = run C (.ops [⟨some 4, .mv (.c (.bool false)), none, []⟩] [4]) k s Q := rfl
def c146_22 : ACode := .seq c146_21 .ret
theorem r146_22 {C : Cs} {k : List Fr} {s : St} {Q : Post} : run C c146_22 k s Q = run C (.seq c146_21 .ret) k s Q := rfl
def c146_23 : ACode := .cond (.t 72) c146_22 .skip
theorem r146_23 {C : Cs} {k : List Fr} {s : St} {Q : Post} : run C c146_23 k s Q = run C (.cond (.t 72) c146_22 .skip) k s Q := rfl
def c146_24 : ACode := .seq c146_20 c146_23
theorem r146_24 {C : Cs} {k : List Fr} {s : St} {Q : Post} : run C c146_24 k s Q = run C (.seq c146_20 c146_23) k s Q := rfl
def c146_25 : ACode := .ops [⟨some 73, .mv (.t 5), none, []⟩,
  ⟨some 74, .fad (.t 8) 4, none, [8]⟩,
  ⟨some 75, .load 1 false (.t 74), none, [8]⟩,
  ⟨some 76, .mget (.t 73) (.t 75) (.int .i64 0), none, [19]⟩,
  ⟨some 77, .bin .add (.t 76) (.c (.int .i64 1)), none, []⟩,
  ⟨none, .mupd (.t 73) (.t 75) (.t 77), none, [19]⟩] [0, 1, 5, 8, 20, 21, 22]
theorem r146_25 {C : Cs} {k : List Fr} {s : St} {Q : Post} : run C c146_25 k s Q = run C (.ops [⟨some 73, .mv (.t 5), none, []⟩,
  ⟨some 74, .fad (.t 8) 4, none, [8]⟩,
  ⟨some 75, .load 1 false (.t 74), none, [8]⟩,
  ⟨some 76, .mget (.t 73) (.t 75) (.int .i64 0), none, [19]⟩,
  ⟨some 77, .bin .add (.t 76) (.c (.int .i64 1)), none, []⟩,
  ⟨none, .mupd (.t 73) (.t 75) (.t 77), none, [19]⟩] [0, 1, 5, 8, 20, 21, 22]) k s Q := rfl
def c146_26 : ACode := .ops [⟨some 78, .mv (.t 5), none, []⟩,
  ⟨some 79, .fad (.t 8) 5, none, [8]⟩,
  ⟨some 80, .load 1 false (.t 79), none, [8]⟩,
  ⟨some 81, .mget (.t 78) (.t 80) (.int .i64 0), none, [19]⟩,
  ⟨some 82, .bin .add (.t 81) (.c (.int .i64 1)), none, []⟩,
  ⟨none, .mupd (.t 78) (.t 80) (.t 82), none, [19]⟩] [0, 1, 5, 20, 21, 22]
theorem r146_26 {C : Cs} {k : List Fr} {s : St} {Q : Post} : run C c146_26 k s Q = run C (.ops [⟨some 78, .mv (.t 5), none, []⟩,
  ⟨some 79, .fad (.t 8) 5, none, [8]⟩,
  ⟨some 80, .load 1 false (.t 79), none, [8]⟩,
  ⟨some 81, .mget (.t 78) (.t 80) (.int .i64 0), none, [19]⟩,
  ⟨some 82, .bin .add (.t 81) (.c (.int .i64 1)), none, []⟩,
  ⟨none, .mupd (.t 78) (.t 80) (.t 82), none, [19]⟩] [0, 1, 5, 20, 21, 22]) k s Q := rfl
def c146_27 : ACode := .seq c146_25 c146_26
theorem r146_27 {C : Cs} {k : List Fr} {s : St} {Q : Post} : run C c146_27 k s Q = run C (.seq c146_25 c146_26) k s Q := rfl
def c146_28 : ACode := .seq c146_24 c146_27
theorem r146_28 {C : Cs} {k : List Fr} {s : St} {Q : Post} : run C c146_28 k s Q = run C (.seq c146_24 c146_27) k s Q := rfl
def c146_29 : ACode := .seq c146_19 c146_28
theorem r146_29 {C : Cs} {k : List Fr} {s : St} {Q : Post} : run C c146_29 k s Q = run C (.seq c146_19 c146_28) k s Q := rfl
def c146_30 : ACode := .seq c146_16 c146_29
theorem r146_30 {C : Cs} {k : List Fr} {s : St} {Q : Post} : run C c146_30 k s Q = run C (.seq c146_16 c146_29) k s Q := rfl
def c146_31 : ACode := .seq c146_11 c146_30
theorem r146_31 {C : Cs} {k : List Fr} {s : St} {Q : Post} : run C c146_31 k s Q = run C (.seq c146_11 c146_30) k s Q := rfl
def c146_32 : ACode := .seq c146_10 c146_31
theorem r146_32 {C : Cs} {k : List Fr} {s : St} {Q : Post} : run C c146_32 k s Q = run C (.seq c146_10 c146_31) k s Q := rfl
def c146_33 : ACode := .block 1 c146_32
theorem r146_33 {C : Cs} {k : List Fr} {s : St} {Q : Post} : run C c146_33 k s Q = run C (.block 1 c146_32) k s Q := rfl
def c146_34 : ACode := .ops [⟨some 83, .bin .add (.t 22) (.c (.int .i64 1)), none, []⟩,
  ⟨some 22, .mv (.t 83), none, []⟩] [0, 1, 5, 20, 21, 22]
theorem r146_34 {C : Cs} {k : List Fr} {s : St} {Q : Post} : run C c146_34 k s Q = run C (.ops [⟨some 83, .bin .add (.t 22) (.c (.int .i64 1)), none, []⟩,
  ⟨some 22, .mv (.t 83), none, []⟩] [0, 1, 5, 20, 21, 22]) k s Q := rfl
def c146_35 : ACode := .seq c146_33 c146_34
theorem r146_35 {C : Cs} {k : List Fr} {s : St} {Q : Post} : run C c146_35 k s Q = run C (.seq c146_33 c146_34) k s Q := rfl
def c146_36 : ACode := .seq c146_9 c146_35
theorem r146_36 {C : Cs} {k : List Fr} {s : St} {Q : Post} : run C c146_36 k s Q = run C (.seq c146_9 c146_35) k s Q := rfl
def c146_37 : ACode := .seq c146_8 c146_36
theorem r146_37 {C : Cs} {k : List Fr} {s : St} {Q : Post} : run C c146_37 k s Q = run C (.seq c146_8 c146_36) k s Q := rfl
def c146_38 : ACode := .keep [0, 1, 5, 20, 21, 22] [19] c146_37
theorem r146_38 {C : Cs} {k : List Fr} {s : St} {Q : Post} : run C c146_38 k s Q = run C (.keep [0, 1, 5, 20, 21, 22] [19] c146_37) k s Q := rfl
def c146_39 : ACode := .loop c146_38
theorem r146_39 {C : Cs} {k : List Fr} {s : St} {Q : Post} : run C c146_39 k s Q = run C (.loop c146_38) k s Q := rfl
def c146_40 : ACode := .block 0 c146_39
theorem r146_40 {C : Cs} {k : List Fr} {s : St} {Q : Post} : run C c146_40 k s Q = run C (.block 0 c146_39) k s Q := rfl
def c146_41 : ACode := .seq c146_7 c146_40
theorem r146_41 {C : Cs} {k : List Fr} {s : St} {Q : Post} : run C c146_41 k s Q = run C (.seq c146_7 c146_40) k s Q := rfl
def c146_42 : ACode := .ops [⟨some 10, .mv (.c (.int .i64 1)), none, []⟩] [0, 5, 10]
theorem r146_42 {C : Cs} {k : List Fr} {s : St} {Q : Post} : run C c146_42 k s Q = run C (.ops [⟨some 10, .mv (.c (.int .i64 1)), none, []⟩] [0, 5, 10]) k s Q := rfl
def c146_43 : ACode := .ops [⟨some 84, .mv (.t 10), none, []⟩,
  ⟨some 85, .mv (.t 0), none, []⟩,
  ⟨some 86, .len (.t 85), none, []⟩,
  ⟨some 87, .bin .lss (.t 84) (.t 86), none, []⟩] [0, 5, 10, 87]
theorem r146_43 {C : Cs} {k : List Fr} {s : St} {Q : Post} : run C c146_43 k s Q = run C (.ops [⟨some 84, .mv (.t 10), none, []⟩,
  ⟨some 85, .mv (.t 0), none, []⟩,
  ⟨some 86, .len (.t 85), none, []⟩,
  ⟨some 87, .bin .lss (.t 84) (.t 86), none, []⟩] [0, 5, 10, 87]) k s Q := rfl
def c146_44 : ACode := .cond (.t 87) .skip (.exit 2)
theorem r146_44 {C : Cs} {k : List Fr} {s : St} {Q : Post} : run C c146_44 k s Q = run C (.cond (.t 87) .skip (.exit 2)) k s Q := rfl
def c146_45 : ACode := .seq c146_43 c146_44
theorem r146_45 {C : Cs} {k : List Fr} {s : St} {Q : Post} : run C c146_45 k s Q = run C (.seq c146_43 c146_44) k s Q := rfl
def c146_46 : ACode := .ops [⟨some 90, .mv (.t 5), none, []⟩,
  ⟨some 91, .mv (.t 10), none, []⟩,
  ⟨some 92, .mget (.t 90) (.t 91) (.int .i64 0), none, [19]⟩,
  ⟨some 93, .bin .neq (.t 92) (.c (.int .i64 1)), none, []⟩] [0, 5, 10, 93]
theorem r146_46 {C : Cs} {k : List Fr} {s : St} {Q : Post} : run C c146_46 k s Q = run C (.ops [⟨some 90, .mv (.t 5), none, []⟩,
  ⟨some 91, .mv (.t 10), none, []⟩,
  ⟨some 92, .mget (.t 90) (.t 91) (.int .i64 0), none, [19]⟩,
  ⟨some 93, .bin .neq (.t 92) (.c (.int .i64 1)), none, []⟩] [0, 5, 10, 93]) k s Q := rfl
def c146_47 : ACode := .ops [⟨some 4, .mv (.c (.bool false)), none, []⟩] [4]
theorem r146_47 {C : Cs} {k : List Fr} {s : St} {Q : Post} : run C c146_47 k s Q = run C (.ops [⟨some 4, .mv (.c (.bool false)), none, []⟩] [4]) k s Q := rfl
def c146_48 : ACode := .seq c146_47 .ret
theorem r146_48 {C : Cs} {k : List Fr} {s : St} {Q : Post} : run C c146_48 k s Q = run C (.seq c146_47 .ret) k s Q := rfl
def c146_49 : ACode := .cond (.t 93) c146_48 .skip
theorem r146_49 {C : Cs} {k : List Fr} {s : St} {Q : Post} : run C c146_49 k s Q = run C (.cond (.t 93) c146_48 .skip) k s Q := rfl
def c146_50 : ACode := .seq c146_46 c146_49
theorem r146_50 {C : Cs} {k : List Fr} {s : St} {Q : Post} : run C c146_50 k s Q = run C (.seq c146_46 c146_49) k s Q := rfl
def c146_51 : ACode := .block 3 c146_50
theorem r146_51 {C : Cs} {k : List Fr} {s : St} {Q : Post} : run C c146_51 k s Q = run C (.block 3 c146_50) k s Q := rfl
def c146_52 : ACode := .ops [⟨some 88, .mv (.t 10), none, []⟩,
  ⟨some 89, .bin .add (.t 88) (.c (.int .i64 1)), none, []⟩,
  ⟨some 10, .mv (.t 89), none, []⟩] [0, 5, 10]
theorem r146_52 {C : Cs} {k : List Fr} {s : St} {Q : Post} : run C c146_52 k s Q = run C (.ops [⟨some 88, .mv (.t 10), none, []⟩,
  ⟨some 89, .bin .add (.t 88) (.c (.int .i64 1)), none, []⟩,
  ⟨some 10, .mv (.t 89), none, []⟩] [0, 5, 10]) k s Q := rfl
def c146_53 : ACode := .seq c146_51 c146_52
theorem r146_53 {C : Cs} {k : List Fr} {s : St} {Q : Post} : run C c146_53 k s Q = run C (.seq c146_51 c146_52) k s Q := rfl
def c146_54 : ACode := .seq c146_45 c146_53
theorem r146_54 {C : Cs} {k : List Fr} {s : St} {Q : Post} : run C c146_54 k s Q = run C (.seq c146_45 c146_53) k s Q := rfl
def c146_55 : ACode := .keep [0, 5, 10] [19] c146_54
theorem r146_55 {C : Cs} {k : List Fr} {s : St} {Q : Post} : run C c146_55 k s Q = run C (.keep [0, 5, 10] [19] c146_54) k s Q := rfl
def c146_56 : ACode := .loop c146_55
theorem r146_56 {C : Cs} {k : List Fr} {s : St} {Q : Post} : run C c146_56 k s Q = run C (.loop c146_55) k s Q := rfl
def c146_57 : ACode := .block 2 c146_56
theorem r146_57 {C : Cs} {k : List Fr} {s : St} {Q : Post} : run C c146_57 k s Q = run C (.block 2 c146_56) k s Q := rfl
def c146_58 : ACode := .seq c146_42 c146_57
theorem r146_58 {C : Cs} {k : List Fr} {s : St} {Q : Post} : run C c146_58 k s Q = run C (.seq c146_42 c146_57) k s Q := rfl
def c146_59 : ACode := .ops [⟨some 4, .mv (.c (.bool true)), none, []⟩] [4]
theorem r146_59 {C : Cs} {k : List Fr} {s : St} {Q : Post} : run C c146_59 k s Q = run C (.ops [⟨some 4, .mv (.c (.bool true)), none, []⟩] [4]) k s Q := rfl
def c146_60 : ACode := .seq c146_59 .ret
theorem r146_60 {C : Cs} {k : List Fr} {s : St} {Q : Post} : run C c146_60 k s Q = run C (.seq c146_59 .ret) k s Q := rfl
def c146_61 : ACode := .seq c146_58 c146_60
theorem r146_61 {C : Cs} {k : List Fr} {s : St} {Q : Post} : run C c146_61 k s Q = run C (.seq c146_58 c146_60) k s Q := rfl
def c146_62 : ACode := .seq c146_41 c146_61
theorem r146_62 {C : Cs} {k : List Fr} {s : St} {Q : Post} : run C c146_62 k s Q = run C (.seq c146_41 c146_61) k s Q := rfl
def c146_63 : ACode := .seq c146_6 c146_62
theorem r146_63 {C : Cs} {k : List Fr} {s : St} {Q : Post} : run C c146_63 k s Q = run C (.seq c146_6 c146_62) k s Q := rfl
def c146_64 : ACode := .seq c146_5 c146_63
theorem r146_64 {C : Cs} {k : List Fr} {s : St} {Q : Post} : run C c146_64 k s Q = run C (.seq c146_5 c146_63) k s Q := rfl
def c146_65 : ACode := .seq c146_0 c146_64
theorem r146_65 {C : Cs} {k : List Fr} {s : St} {Q : Post} : run C c146_65 k s Q = run C (.seq c146_0 c146_64) k s Q := rfl
def a146 : AFun := ⟨2, 94, c146_65, [.t 4]⟩
attribute [simp] r146_0 r146_1 r146_2 r146_3 r146_4 r146_5 r146_6 r146_7 r146_8 r146_9 r146_10 r146_11 r146_12 r146_13 r146_14 r146_15 r146_16 r146_17 r146_18 r146_19 r146_20 r146_21 r146_22 r146_23 r146_24 r146_25 r146_26 r146_27 r146_28 r146_29 r146_30 r146_31 r146_32 r146_33 r146_34 r146_35 r146_36 r146_37 r146_38 r146_39 r146_40 r146_41 r146_42 r146_43 r146_44 r146_45 r146_46 r146_47 r146_48 r146_49 r146_50 r146_51 r146_52 r146_53 r146_54 r146_55 r146_56 r146_57 r146_58 r146_59 r146_60 r146_61 r146_62 r146_63 r146_64 r146_65
theorem m146 : mFun Try.prog Try.f146 a146 = true := by decide +kernel


theorem runs_rRT (l : List Word) (dim : Int) (c : Bool) (h : TreeRight l dim = some c) : Runs (tbl [(136, sp1 Unpack)]) a146 [Arg.enc l, Arg.enc dim] (Arg.enc c) := by
  obtain ⟨hr, rfl⟩ := part_some h
  refine ⟨rfl, fun g => run_def ?_⟩
  unfold a146
  have hp := hr.pos
  have hle := hr.le
  have b1 : ¬ (l.length : Int) < 1 := by omega
  have b2 : ¬ (l.length : Int) > 31 := by omega
  have b3 : l.length ≤ maxN := by unfold maxN; omega
  simp -implicitDefEqProofs [b1, b2, b3]
  refine run_while (c := c146_37) (fun n s => ∃ (i : Nat) (A : List (Int × Int)) (g : Nat → Nat), i + n = l.length ∧ (∀ j : Nat, getA j A = cnt l i j) ∧ s = ⟨[(0, .lst l.length (encL l)), (1, .int .i64 dim), (5, .mp 19 (g 19)), (20, .lst l.length (encL l)), (21, .int .i64 l.length), (22, .int .i64 i)], [(19, ⟨flatA A, false, mapTag⟩)], g⟩) l.length ⟨0, [], bump 19 g, by omega, fun j => by simp [getA, cnt], by simp [flatA]⟩ ?_
  rintro n s ⟨i, A, g, hi, hA, rfl⟩
  by_cases h1 : i < l.length
  case pos =>
    have hU := unpack_at hr h1
    have w1 : IntKind.i64.wrap ((i : Int) + 1) = (i : Int) + 1 := wrap64 (by omega) (by omega)
    cases hl : (ndAt l i).leaf
    case true =>
      simp -implicitDefEqProofs [h1, rd_words, hU, hl, w1]
      exact ⟨n - 1, by omega, i + 1, by omega, A, fun j => by rw [hA, cnt_succ h1]; simp [names, hl], by omega, rfl⟩
    case false =>
      have ha := hr.at h1 hl
      have e1 : ¬ dim ≤ (ndAt l i).feature := by omega
      have e2 : ¬ (ndAt l i).left = (ndAt l i).right := ha.2.1
      have f1 : ¬ (ndAt l i).left ≤ i := by omega
      have f2 : ¬ (l.length : Int) ≤ (ndAt l i).left := by omega
      have f3 : ¬ (ndAt l i).right ≤ i := by omega
      have f4 : ¬ (l.length : Int) ≤ (ndAt l i).right := by omega
      have n1 := cnt_le l i (ndAt l i).left.toNat
      have n2 := cnt_le l i (ndAt l i).right.toNat
      have a1 : getA (ndAt l i).left A = cnt l i (ndAt l i).left.toNat := by rw [← hA, show (((ndAt l i).left.toNat : Nat) : Int) = (ndAt l i).left by omega]
      have a2 : getA (ndAt l i).right (setA (ndAt l i).left (cnt l i (ndAt l i).left.toNat + 1) A) = cnt l i (ndAt l i).right.toNat := by
        rw [getA_setA, if_neg (Ne.symm e2), ← hA, show (((ndAt l i).right.toNat : Nat) : Int) = (ndAt l i).right by omega]
      have w2 : IntKind.i64.wrap (cnt l i (ndAt l i).left.toNat + 1) = cnt l i (ndAt l i).left.toNat + 1 := wrap64 (by omega) (by omega)
      have w3 : IntKind.i64.wrap (cnt l i (ndAt l i).right.toNat + 1) = cnt l i (ndAt l i).right.toNat + 1 := wrap64 (by omega) (by omega)
      simp -implicitDefEqProofs [h1, rd_words, hU, hl, w1, b3, e1, e2, f1, f2, f3, f4, a1, a2, w2, w3]
      refine ⟨n - 1, by omega, i + 1, by omega, _, fun j => ?_, by omega, rfl⟩
      rw [getA_setA, getA_setA, cnt_succ h1, hA]
      unfold names
      rw [hl]
      by_cases q1 : (j : Int) = (ndAt l i).right
      · rw [if_pos q1, show (ndAt l i).right.toNat = j by omega]
        simp [q1]
      · rw [if_neg q1]
        by_cases q2 : (j : Int) = (ndAt l i).left
        · rw [if_pos q2, show (ndAt l i).left.toNat = j by omega]
          simp [q2]
        · rw [if_neg q2]
          have q3 : ¬ (ndAt l i).right = (j : Int) := fun e => q1 e.symm
          have q4 : ¬ (ndAt l i).left = (j : Int) := fun e => q2 e.symm
          simp [q3, q4]
  case neg =>
    have hil : i = l.length := by omega
    subst hil
    simp -implicitDefEqProofs [h1]
    refine run_while (c := c146_54) (fun n s => ∃ (i : Nat), i + n = l.length ∧ 1 ≤ i ∧ s = ⟨[(0, .lst l.length (encL l)), (5, .mp 19 (g 19)), (10, .int .i64 i)], [(19, ⟨flatA A, false, mapTag⟩)], g⟩) (l.length - 1) ⟨1, by omega, by omega, by simp⟩ ?_
    rintro n s ⟨i, hi, hi1, rfl⟩
    by_cases h1 : i < l.length
    case pos =>
      have w1 : IntKind.i64.wrap ((i : Int) + 1) = (i : Int) + 1 := wrap64 (by omega) (by omega)
      have hc : getA i A = 1 := by
        rw [hA]
        unfold cnt
        rw [List.take_length, hr.once i hi1 h1]
        rfl
      simp -implicitDefEqProofs [h1, b3, hc, w1]
      exact ⟨n - 1, by omega, i + 1, by omega, by omega, by omega⟩
    case neg =>
      simp -implicitDefEqProofs [h1, b3]
theorem c_rRT : Contract Try.prog 146 (sp2 TreeRight) :=
  contract_of_runs mixed (tbl_cons c_rUnpack tbl_nil) Try.func146 m146 (sp2_runs runs_rRT)

/- copse/copseref6.RightModel -/
def c97_0 : ACode := .ops [⟨some 1, .box (.t 0) 6, none, []⟩,
  ⟨some 2, .mv (.c (.bool false)), none, []⟩] [1]
theorem r97_0 {C : Cs} {k : List Fr} {s : St} {Q : Post} : run C c97_0 k s Q = run C (.ops [⟨some 1, .box (.t 0) 6, none, []⟩,
  ⟨some 2, .mv (.c (.bool false)), none, []⟩] [1]) k s Q := rfl
def c97_1 : ACode := .ops [⟨some 7, .fad (.t 1) 0, none, [1]⟩,
  ⟨some 8, .load 1 false (.t 7), none, [1]⟩,
  ⟨some 9, .bin .lss (.t 8) (.c (.int .i64 1)), none, []⟩,
  ⟨some 10, .mv (.t 9), none, []⟩,
  ⟨some 11, .fad (.t 1) 0, some (10, false), [1]⟩,
  ⟨some 12, .load 1 false (.t 11), some (10, false), [1]⟩,
  ⟨some 13, .bin .gtr (.t 12) (.c (.int .i64 4)), some (10, false), []⟩,
  ⟨some 14, .pick (.t 10) (.c (.bool true)) (.t 13), none, []⟩,
  ⟨some 15, .mv (.t 14), none, []⟩,
  ⟨some 16, .fad (.t 1) 1, some (15, false), [1]⟩,
  ⟨some 17, .load 1 false (.t 16), some (15, false), [1]⟩,
  ⟨some 18, .bin .lss (.t 17) (.c (.int .i64 1)), some (15, false), []⟩,
  ⟨some 19, .pick (.t 15) (.c (.bool true)) (.t 18), none, []⟩,
  ⟨some 20, .mv (.t 19), none, []⟩,
  ⟨some 21, .fad (.t 1) 1, some (20, false), [1]⟩,
  ⟨some 22, .load 1 false (.t 21), some (20, false), [1]⟩,
  ⟨some 23, .bin .gtr (.t 22) (.c (.int .i64 3)), some (20, false), []⟩,
  ⟨some 24, .pick (.t 20) (.c (.bool true)) (.t 23), none, []⟩,
  ⟨some 25, .mv (.t 24), none, []⟩,
  ⟨some 26, .fad (.t 1) 5, some (25, false), [1]⟩,
  ⟨some 27, .load 1 false (.t 26), some (25, false), [1]⟩,
  ⟨some 28, .len (.t 27), some (25, false), []⟩,
  ⟨some 29, .bin .gtr (.t 28) (.c (.int .i64 8)), some (25, false), []⟩,
  ⟨some 30, .pick (.t 25) (.c (.bool true)) (.t 29), none, []⟩] [1, 30]
theorem r97_1 {C : Cs} {k : List Fr} {s : St} {Q : Post} : run C c97_1 k s Q = run C (.ops [⟨some 7, .fad (.t 1) 0, none, [1]⟩,
  ⟨some 8, .load 1 false (.t 7), none, [1]⟩,
  ⟨some 9, .bin .lss (.t 8) (.c (.int .i64 1)), none, []⟩,
  ⟨some 10, .mv (.t 9), none, []⟩,
  ⟨some 11, .fad (.t 1) 0, some (10, false), [1]⟩,
  ⟨some 12, .load 1 false (.t 11), some (10, false), [1]⟩,
  ⟨some 13, .bin .gtr (.t 12) (.c (.int .i64 4)), some (10, false), []⟩,
  ⟨some 14, .pick (.t 10) (.c (.bool true)) (.t 13), none, []⟩,
  ⟨some 15, .mv (.t 14), none, []⟩,
  ⟨some 16, .fad (.t 1) 1, some (15, false), [1]⟩,
  ⟨some 17, .load 1 false (.t 16), some (15, false), [1]⟩,
  ⟨some 18, .bin .lss (.t 17) (.c (.int .i64 1)), some (15, false), []⟩,
  ⟨some 19, .pick (.t 15) (.c (.bool true)) (.t 18), none, []⟩,
  ⟨some 20, .mv (.t 19), none, []⟩,
  ⟨some 21, .fad (.t 1) 1, some (20, false), [1]⟩,
  ⟨some 22, .load 1 false (.t 21), some (20, false), [1]⟩,
  ⟨some 23, .bin .gtr (.t 22) (.c (.int .i64 3)), some (20, false), []⟩,
  ⟨some 24, .pick (.t 20) (.c (.bool true)) (.t 23), none, []⟩,
  ⟨some 25, .mv (.t 24), none, []⟩,
  ⟨some 26, .fad (.t 1) 5, some (25, false), [1]⟩,
  ⟨some 27, .load 1 false (.t 26), some (25, false), [1]⟩,
  ⟨some 28, .len (.t 27), some (25, false), []⟩,
  ⟨some 29, .bin .gtr (.t 28) (.c (.int .i64 8)), some (25, false), []⟩,
  ⟨some 30, .pick (.t 25) (.c (.bool true)) (.t 29), none, []⟩] [1, 30]) k s Q := rfl
def c97_2 : ACode := .ops [⟨some 2, .mv (.c (.bool false)), none, []⟩] [2]
theorem r97_2 {C : Cs} {k : List Fr} {s : St} {Q : Post} : run C c97_2 k s Q = run C (.ops [⟨some 2, .mv (.c (.bool false)), none, []⟩] [2]) k s Q := rfl
def c97_3 : ACode := .seq c97_2 .ret
theorem r97_3 {C : Cs} {k : List Fr} {s : St} {Q : Post} : run C c97_3 k s Q = run C (.seq c97_2 .ret) k s Q := rfl
def c97_4 : ACode := .cond (.t 30) c97_3 .skip
theorem r97_4 {C : Cs} {k : List Fr} {s : St} {Q : Post} : run C c97_4 k s Q = run C (.cond (.t 30) c97_3 .skip) k s Q := rfl
def c97_5 : ACode := .seq c97_1 c97_4
theorem r97_5 {C : Cs} {k : List Fr} {s : St} {Q : Post} : run C c97_5 k s Q = run C (.seq c97_1 c97_4) k s Q := rfl
def c97_6 : ACode := .ops [⟨some 31, .fad (.t 1) 2, none, [1]⟩,
  ⟨some 32, .load 3 true (.t 31), none, [1]⟩,
  ⟨some 33, .mv (.c (.int .i64 0)), none, []⟩] [1, 32, 33]
theorem r97_6 {C : Cs} {k : List Fr} {s : St} {Q : Post} : run C c97_6 k s Q = run C (.ops [⟨some 31, .fad (.t 1) 2, none, [1]⟩,
  ⟨some 32, .load 3 true (.t 31), none, [1]⟩,
  ⟨some 33, .mv (.c (.int .i64 0)), none, []⟩] [1, 32, 33]) k s Q := rfl
def c97_7 : ACode := .ops [⟨some 34, .bin .lss (.t 33) (.c (.int .i64 3)), none, []⟩] [1, 32, 33, 34]
theorem r97_7 {C : Cs} {k : List Fr} {s : St} {Q : Post} : run C c97_7 k s Q = run C (.ops [⟨some 34, .bin .lss (.t 33) (.c (.int .i64 3)), none, []⟩] [1, 32, 33, 34]) k s Q := rfl
def c97_8 : ACode := .cond (.t 34) .skip (.exit 0)
theorem r97_8 {C : Cs} {k : List Fr} {s : St} {Q : Post} : run C c97_8 k s Q = run C (.cond (.t 34) .skip (.exit 0)) k s Q := rfl
def c97_9 : ACode := .ops [⟨some 35, .mv (.t 33), none, []⟩,
  ⟨some 36, .idx (.t 32) (.t 33) 1 3 false, none, []⟩,
  ⟨some 3, .mv (.t 35), none, []⟩,
  ⟨some 4, .mv (.t 36), none, []⟩] [1, 3, 4, 32, 33]
theorem r97_9 {C : Cs} {k : List Fr} {s : St} {Q : Post} : run C c97_9 k s Q = run C (.ops [⟨some 35, .mv (.t 33), none, []⟩,
  ⟨some 36, .idx (.t 32) (.t 33) 1 3 false, none, []⟩,
  ⟨some 3, .mv (.t 35), none, []⟩,
  ⟨some 4, .mv (.t 36), none, []⟩] [1, 3, 4, 32, 33]) k s Q := rfl
def c97_10 : ACode := .ops [⟨some 37, .mv (.t 4), none, []⟩,
  ⟨some 38, .call 119 [.t 37, .c (.int .i64 32)], none, []⟩,
  ⟨some 39, .un .not (.t 38), none, []⟩,
  ⟨some 40, .mv (.t 39), none, []⟩,
  ⟨some 41, .mv (.t 3), some (40, false), []⟩,
  ⟨some 42, .fad (.t 1) 1, some (40, false), [1]⟩,
  ⟨some 43, .load 1 false (.t 42), some (40, false), [1]⟩,
  ⟨some 44, .bin .geq (.t 41) (.t 43), some (40, false), []⟩,
  ⟨some 45, .mv (.t 44), some (40, false), []⟩,
  ⟨some 46, .mv (.t 4), some (45, true), []⟩,
  ⟨some 47, .bin .neq (.t 46) (.c (.int .i64 0)), some (45, true), []⟩,
  ⟨some 48, .pick (.t 45) (.t 47) (.c (.bool false)), some (40, false), []⟩,
  ⟨some 49, .pick (.t 40) (.c (.bool true)) (.t 48), none, []⟩] [1, 32, 33, 49]
theorem r97_10 {C : Cs} {k : List Fr} {s : St} {Q : Post} : run C c97_10 k s Q = run C (.ops [⟨some 37, .mv (.t 4), none, []⟩,
  ⟨some 38, .call 119 [.t 37, .c (.int .i64 32)], none, []⟩,
  ⟨some 39, .un .not (.t 38), none, []⟩,
  ⟨some 40, .mv (.t 39), none, []⟩,
  ⟨some 41, .mv (.t 3), some (40, false), []⟩,
  ⟨some 42, .fad (.t 1) 1, some (40, false), [1]⟩,
  ⟨some 43, .load 1 false (.t 42), some (40, false), [1]⟩,
  ⟨some 44, .bin .geq (.t 41) (.t 43), some (40, false), []⟩,
  ⟨some 45, .mv (.t 44), some (40, false), []⟩,
  ⟨some 46, .mv (.t 4), some (45, true), []⟩,
  ⟨some 47, .bin .neq (.t 46) (.c (.int .i64 0)), some (45, true), []⟩,
  ⟨some 48, .pick (.t 45) (.t 47) (.c (.bool false)), some (40, false), []⟩,
  ⟨some 49, .pick (.t 40) (.c (.bool true)) (.t 48), none, []⟩] [1, 32, 33, 49]) k s Q := rfl
def c97_11 : ACode := .ops [⟨some 2, .mv (.c (.bool false)), none, []⟩] [2]
theorem r97_11 {C : Cs} {k : List Fr} {s : St} {Q : Post} : run C c97_11 k s Q = run C (.ops [⟨some 2, .mv (.c (.bool false)), none, []⟩] [2]) k s Q := rfl
def c97_12 : ACode := .seq c97_11 .ret
theorem r97_12 {C : Cs} {k : List Fr} {s : St} {Q : Post} : run C c97_12 k s Q = run C (.seq c97_11 .ret) k s Q := rfl
def c97_13 : ACode := .cond (.t 49) c97_12 .skip
theorem r97_13 {C : Cs} {k : List Fr} {s : St} {Q : Post} : run C c97_13 k s Q = run C (.cond (.t 49) c97_12 .skip) k s Q := rfl
def c97_14 : ACode := .seq c97_10 c97_13
theorem r97_14 {C : Cs} {k : List Fr} {s : St} {Q : Post} : run C c97_14 k s Q = run C (.seq c97_10 c97_13) k s Q := rfl
def c97_15 : ACode := .seq c97_9 c97_14
theorem r97_15 {C : Cs} {k : List Fr} {s : St} {Q : Post} : run C c97_15 k s Q = run C (.seq c97_9 c97_14) k s Q := rfl
def c97_16 : ACode := .block 1 c97_15
theorem r97_16 {C : Cs} {k : List Fr} {s : St} {Q : Post} : run C c97_16 k s Q = run C (.block 1 c97_15) k s Q := rfl
def c97_17 : ACode := .ops [⟨some 50, .bin .add (.t 33) (.c (.int .i64 1)), none, []⟩,
  ⟨some 33, .mv (.t 50), none, []⟩] [1, 32, 33]
theorem r97_17 {C : Cs} {k : List Fr} {s : St} {Q : Post} : run C c97_17 k s Q = run C (.ops [⟨some 50, .bin .add (.t 33) (.c (.int .i64 1)), none, []⟩,
  ⟨some 33, .mv (.t 50), none, []⟩] [1, 32, 33]) k s Q := rfl
def c97_18 : ACode := .seq c97_16 c97_17
theorem r97_18 {C : Cs} {k : List Fr} {s : St} {Q : Post} : run C c97_18 k s Q = run C (.seq c97_16 c97_17) k s Q := rfl
def c97_19 : ACode := .seq c97_8 c97_18
theorem r97_19 {C : Cs} {k : List Fr} {s : St} {Q : Post} : run C c97_19 k s Q = run C (.seq c97_8 c97_18) k s Q := rfl
def c97_20 : ACode := .seq c97_7 c97_19
theorem r97_20 {C : Cs} {k : List Fr} {s : St} {Q : Post} : run C c97_20 k s Q = run C (.seq c97_7 c97_19) k s Q := rfl
def c97_21 : ACode := .keep [1, 32, 33] [1] c97_20
theorem r97_21 {C : Cs} {k : List Fr} {s : St} {Q : Post} : run C c97_21 k s Q = run C (.keep [1, 32, 33] [1] c97_20) k s Q := rfl
def c97_22 : ACode := .loop c97_21
theorem r97_22 {C : Cs} {k : List Fr} {s : St} {Q : Post} : run C c97_22 k s Q = run C (.loop c97_21) k s Q := rfl
def c97_23 : ACode := .block 0 c97_22
theorem r97_23 {C : Cs} {k : List Fr} {s : St} {Q : Post} : run C c97_23 k s Q = run C (.block 0 c97_22) k s Q := rfl
def c97_24 : ACode := .seq c97_6 c97_23
theorem r97_24 {C : Cs} {k : List Fr} {s : St} {Q : Post} : run C c97_24 k s Q = run C (.seq c97_6 c97_23) k s Q := rfl
def c97_25 : ACode := .ops [⟨some 51, .fad (.t 1) 5, none, [1]⟩,
  ⟨some 52, .load 1 false (.t 51), none, [1]⟩,
  ⟨some 53, .len (.t 52), none, []⟩,
  ⟨some 54, .mv (.c (.int .i64 0)), none, []⟩] [1, 52, 53, 54]
theorem r97_25 {C : Cs} {k : List Fr} {s : St} {Q : Post} : run C c97_25 k s Q = run C (.ops [⟨some 51, .fad (.t 1) 5, none, [1]⟩,
  ⟨some 52, .load 1 false (.t 51), none, [1]⟩,
  ⟨some 53, .len (.t 52), none, []⟩,
  ⟨some 54, .mv (.c (.int .i64 0)), none, []⟩] [1, 52, 53, 54]) k s Q := rfl
def c97_26 : ACode := .ops [⟨some 55, .bin .lss (.t 54) (.t 53), none, []⟩] [1, 52, 53, 54, 55]
theorem r97_26 {C : Cs} {k : List Fr} {s : St} {Q : Post} : run C c97_26 k s Q = run C (.ops [⟨some 55, .bin .lss (.t 54) (.t 53), none, []⟩] [1, 52, 53, 54, 55]) k s Q := rfl
def c97_27 : ACode := .cond (.t 55) .skip (.exit 2)
theorem r97_27 {C : Cs} {k : List Fr} {s : St} {Q : Post} : run C c97_27 k s Q = run C (.cond (.t 55) .skip (.exit 2)) k s Q := rfl
def c97_28 : ACode := .ops [⟨some 56, .ias (.t 52) (.t 54) 2, none, []⟩,
  ⟨some 57, .load 2 true (.t 56), none, []⟩,
  ⟨some 6, .alloc [.int .i64 0, .nils], none, []⟩,
  ⟨none, .store (.t 6) 2 (.t 57), none, [6]⟩] [1, 6, 52, 53, 54]
theorem r97_28 {C : Cs} {k : List Fr} {s : St} {Q : Post} : run C c97_28 k s Q = run C (.ops [⟨some 56, .ias (.t 52) (.t 54) 2, none, []⟩,
  ⟨some 57, .load 2 true (.t 56), none, []⟩,
  ⟨some 6, .alloc [.int .i64 0, .nils], none, []⟩,
  ⟨none, .store (.t 6) 2 (.t 57), none, [6]⟩] [1, 6, 52, 53, 54]) k s Q := rfl
def c97_29 : ACode := .ops [⟨some 58, .fad (.t 6) 0, none, [6]⟩,
  ⟨some 59, .load 1 false (.t 58), none, [6]⟩,
  ⟨some 60, .bin .lss (.t 59) (.c (.int .i64 0)), none, []⟩,
  ⟨some 61, .mv (.t 60), none, []⟩,
  ⟨some 62, .fad (.t 6) 0, some (61, false), [6]⟩,
  ⟨some 63, .load 1 false (.t 62), some (61, false), [6]⟩,
  ⟨some 64, .fad (.t 1) 1, some (61, false), [1]⟩,
  ⟨some 65, .load 1 false (.t 64), some (61, false), [1]⟩,
  ⟨some 66, .bin .geq (.t 63) (.t 65), some (61, false), []⟩,
  ⟨some 67, .pick (.t 61) (.c (.bool true)) (.t 66), none, []⟩,
  ⟨some 68, .mv (.t 67), none, []⟩,
  ⟨some 69, .fad (.t 6) 1, some (68, false), [6]⟩,
  ⟨some 70, .load 1 false (.t 69), some (68, false), [6]⟩,
  ⟨some 71, .fad (.t 1) 0, some (68, false), [1]⟩,
  ⟨some 72, .load 1 false (.t 71), some (68, false), [1]⟩,
  ⟨some 73, .call 146 [.t 70, .t 72], some (68, false), []⟩,
  ⟨some 74, .un .not (.t 73), some (68, false), []⟩,
  ⟨some 75, .pick (.t 68) (.c (.bool true)) (.t 74), none, []⟩] [1, 52, 53, 54, 75]
theorem r97_29 {C : Cs} {k : List Fr} {s : St} {Q : Post} : run C c97_29 k s Q = run C (.ops [⟨some 58, .fad (.t 6) 0, none, [6]⟩,
  ⟨some 59, .load 1 false (.t 58), none, [6]⟩,
  ⟨some 60, .bin .lss (.t 59) (.c (.int .i64 0)), none, []⟩,
  ⟨some 61, .mv (.t 60), none, []⟩,
  ⟨some 62, .fad (.t 6) 0, some (61, false), [6]⟩,
  ⟨some 63, .load 1 false (.t 62), some (61, false), [6]⟩,
  ⟨some 64, .fad (.t 1) 1, some (61, false), [1]⟩,
  ⟨some 65, .load 1 false (.t 64), some (61, false), [1]⟩,
  ⟨some 66, .bin .geq (.t 63) (.t 65), some (61, false), []⟩,
  ⟨some 67, .pick (.t 61) (.c (.bool true)) (.t 66), none, []⟩,
  ⟨some 68, .mv (.t 67), none, []⟩,
  ⟨some 69, .fad (.t 6) 1, some (68, false), [6]⟩,
  ⟨some 70, .load 1 false (.t 69), some (68, false), [6]⟩,
  ⟨some 71, .fad (.t 1) 0, some (68, false), [1]⟩,
  ⟨some 72, .load 1 false (.t 71), some (68, false), [1]⟩,
  ⟨some 73, .call 146 [.t 70, .t 72], some (68, false), []⟩,
  ⟨some 74, .un .not (.t 73), some (68, false), []⟩,
  ⟨some 75, .pick (.t 68) (.c (.bool true)) (.t 74), none, []⟩] [1, 52, 53, 54, 75]) k s Q := rfl
def c97_30 : ACode := .ops [⟨some 2, .mv (.c (.bool false)), none, []⟩] [2]
theorem r97_30 {C : Cs} {k : List Fr} {s : St} {Q : Post} : run C c97_30 k s Q = run C (.ops [⟨some 2, .mv (.c (.bool false)), none, []⟩] [2]) k s Q := rfl
def c97_31 : ACode := .seq c97_30 .ret
theorem r97_31 {C : Cs} {k : List Fr} {s : St} {Q : Post} : run C c97_31 k s Q = run C (.seq c97_30 .ret) k s Q := rfl
def c97_32 : ACode := .cond (.t 75) c97_31 .skip
theorem r97_32 {C : Cs} {k : List Fr} {s : St} {Q : Post} : run C c97_32 k s Q = run C (.cond (.t 75) c97_31 .skip) k s Q := rfl
def c97_33 : ACode := .seq c97_29 c97_32
theorem r97_33 {C : Cs} {k : List Fr} {s : St} {Q : Post} : run C c97_33 k s Q = run C (.seq c97_29 c97_32) k s Q := rfl
def c97_34 : ACode := .seq c97_28 c97_33
theorem r97_34 {C : Cs} {k : List Fr} {s : St} {Q : Post} : run C c97_34 k s Q = run C (.seq c97_28 c97_33) k s Q := rfl
def c97_35 : ACode := .block 3 c97_34
theorem r97_35 {C : Cs} {k : List Fr} {s : St} {Q : Post} : run C c97_35 k s Q = run C (.block 3 c97_34) k s Q := rfl
def c97_36 : ACode := .ops [⟨some 76, .bin .add (.t 54) (.c (.int .i64 1)), none, []⟩,
  ⟨some 54, .mv (.t 76), none, []⟩] [1, 52, 53, 54]
theorem r97_36 {C : Cs} {k : List Fr} {s : St} {Q : Post} : run C c97_36 k s Q = run C (.ops [⟨some 76, .bin .add (.t 54) (.c (.int .i64 1)), none, []⟩,
  ⟨some 54, .mv (.t 76), none, []⟩] [1, 52, 53, 54]) k s Q := rfl
def c97_37 : ACode := .seq c97_35 c97_36
theorem r97_37 {C : Cs} {k : List Fr} {s : St} {Q : Post} : run C c97_37 k s Q = run C (.seq c97_35 c97_36) k s Q := rfl
def c97_38 : ACode := .seq c97_27 c97_37
theorem r97_38 {C : Cs} {k : List Fr} {s : St} {Q : Post} : run C c97_38 k s Q = run C (.seq c97_27 c97_37) k s Q := rfl
def c97_39 : ACode := .seq c97_26 c97_38
theorem r97_39 {C : Cs} {k : List Fr} {s : St} {Q : Post} : run C c97_39 k s Q = run C (.seq c97_26 c97_38) k s Q := rfl
def c97_40 : ACode := .keep [1, 52, 53, 54] [1] c97_39
theorem r97_40 {C : Cs} {k : List Fr} {s : St} {Q : Post} : run C c97_40 k s Q = run C (.keep [1, 52, 53, 54] [1] c97_39) k s Q := rfl
def c97_41 : ACode := .loop c97_40
theorem r97_41 {C : Cs} {k : List Fr} {s : St} {Q : Post} : run C c97_41 k s Q = run C (.loop c97_40) k s Q := rfl
def c97_42 : ACode := .block 2 c97_41
theorem r97_42 {C : Cs} {k : List Fr} {s : St} {Q : Post} : run C c97_42 k s Q = run C (.block 2 c97_41) k s Q := rfl
def c97_43 : ACode := .seq c97_25 c97_42
theorem r97_43 {C : Cs} {k : List Fr} {s : St} {Q : Post} : run C c97_43 k s Q = run C (.seq c97_25 c97_42) k s Q := rfl
def c97_44 : ACode := .ops [⟨some 2, .mv (.c (.bool true)), none, []⟩] [2]
theorem r97_44 {C : Cs} {k : List Fr} {s : St} {Q : Post} : run C c97_44 k s Q = run C (.ops [⟨some 2, .mv (.c (.bool true)), none, []⟩] [2]) k s Q := rfl
def c97_45 : ACode := .seq c97_44 .ret
theorem r97_45 {C : Cs} {k : List Fr} {s : St} {Q : Post} : run C c97_45 k s Q = run C (.seq c97_44 .ret) k s Q := rfl
def c97_46 : ACode := .seq c97_43 c97_45
theorem r97_46 {C : Cs} {k : List Fr} {s : St} {Q : Post} : run C c97_46 k s Q = run C (.seq c97_43 c97_45) k s Q := rfl
def c97_47 : ACode := .seq c97_24 c97_46
theorem r97_47 {C : Cs} {k : List Fr} {s : St} {Q : Post} : run C c97_47 k s Q = run C (.seq c97_24 c97_46) k s Q := rfl
def c97_48 : ACode := .seq c97_5 c97_47
theorem r97_48 {C : Cs} {k : List Fr} {s : St} {Q : Post} : run C c97_48 k s Q = run C (.seq c97_5 c97_47) k s Q := rfl
def c97_49 : ACode := .seq c97_0 c97_48
theorem r97_49 {C : Cs} {k : List Fr} {s : St} {Q : Post} : run C c97_49 k s Q = run C (.seq c97_0 c97_48) k s Q := rfl
def a97 : AFun := ⟨1, 77, c97_49, [.t 2]⟩
attribute [simp] r97_0 r97_1 r97_2 r97_3 r97_4 r97_5 r97_6 r97_7 r97_8 r97_9 r97_10 r97_11 r97_12 r97_13 r97_14 r97_15 r97_16 r97_17 r97_18 r97_19 r97_20 r97_21 r97_22 r97_23 r97_24 r97_25 r97_26 r97_27 r97_28 r97_29 r97_30 r97_31 r97_32 r97_33 r97_34 r97_35 r97_36 r97_37 r97_38 r97_39 r97_40 r97_41 r97_42 r97_43 r97_44 r97_45 r97_46 r97_47 r97_48 r97_49
theorem m97 : mFun Try.prog Try.f97 a97 = true := by decide +kernel
/- copse/copseref6.Walk -/
def c173_0 : ACode := .ops [⟨some 3, .box (.t 1) 4, none, []⟩,
  ⟨some 4, .mv (.c (.int .i64 0)), none, []⟩] [0, 3]
theorem r173_0 {C : Cs} {k : List Fr} {s : St} {Q : Post} : run C c173_0 k s Q = run C (.ops [⟨some 3, .box (.t 1) 4, none, []⟩,
  ⟨some 4, .mv (.c (.int .i64 0)), none, []⟩] [0, 3]) k s Q := rfl
def c173_1 : ACode := .ops [⟨some 5, .mv (.c (.int .i64 0)), none, []⟩] [0, 3, 5]
theorem r173_1 {C : Cs} {k : List Fr} {s : St} {Q : Post} : run C c173_1 k s Q = run C (.ops [⟨some 5, .mv (.c (.int .i64 0)), none, []⟩] [0, 3, 5]) k s Q := rfl
def c173_2 : ACode := .ops [⟨some 8, .mv (.c (.int .i64 0)), none, []⟩] [0, 3, 5, 8]
theorem r173_2 {C : Cs} {k : List Fr} {s : St} {Q : Post} : run C c173_2 k s Q = run C (.ops [⟨some 8, .mv (.c (.int .i64 0)), none, []⟩] [0, 3, 5, 8]) k s Q := rfl
def c173_3 : ACode := .ops [⟨some 9, .bin .lss (.t 8) (.c (.int .i64 31)), none, []⟩] [0, 3, 5, 8, 9]
theorem r173_3 {C : Cs} {k : List Fr} {s : St} {Q : Post} : run C c173_3 k s Q = run C (.ops [⟨some 9, .bin .lss (.t 8) (.c (.int .i64 31)), none, []⟩] [0, 3, 5, 8, 9]) k s Q := rfl
def c173_4 : ACode := .cond (.t 9) .skip (.exit 0)
theorem r173_4 {C : Cs} {k : List Fr} {s : St} {Q : Post} : run C c173_4 k s Q = run C (.cond (.t 9) .skip (.exit 0)) k s Q := rfl
def c173_5 : ACode := .ops [⟨some 10, .mv (.t 5), none, []⟩,
  ⟨some 11, .mv (.t 0), none, []⟩,
  ⟨some 12, .len (.t 11), none, []⟩,
  ⟨some 13, .bin .geq (.t 10) (.t 12), none, []⟩] [0, 3, 5, 8, 13]
theorem r173_5 {C : Cs} {k : List Fr} {s : St} {Q : Post} : run C c173_5 k s Q = run C (.ops [⟨some 10, .mv (.t 5), none, []⟩,
  ⟨some 11, .mv (.t 0), none, []⟩,
  ⟨some 12, .len (.t 11), none, []⟩,
  ⟨some 13, .bin .geq (.t 10) (.t 12), none, []⟩] [0, 3, 5, 8, 13]) k s Q := rfl
def c173_6 : ACode := .ops [⟨some 4, .mv (.c (.int .i64 (-1))), none, []⟩] [4]
theorem r173_6 {C : Cs} {k : List Fr} {s : St} {Q : Post} : run C c173_6 k s Q = run C (.ops [⟨some 4, .mv (.c (.int .i64 (-1))), none, []⟩] [4]) k s Q := rfl
def c173_7 : ACode := .seq c173_6 .ret
theorem r173_7 {C : Cs} {k : List Fr} {s : St} {Q : Post} : run C c173_7 k s Q = run C (.seq c173_6 .ret) k s Q := rfl
def c173_8 : ACode := .cond (.t 13) c173_7 .skip
theorem r173_8 {C : Cs} {k : List Fr} {s : St} {Q : Post} : run C c173_8 k s Q = run C (.cond (.t 13) c173_7 .skip) k s Q := rfl
def c173_9 : ACode := .seq c173_5 c173_8
theorem r173_9 {C : Cs} {k : List Fr} {s : St} {Q : Post} : run C c173_9 k s Q = run C (.seq c173_5 c173_8) k s Q := rfl
def c173_10 : ACode := .ops [⟨some 15, .mv (.t 0), none, []⟩,
  ⟨some 16, .mv (.t 5), none, []⟩,
  ⟨some 17, .ias (.t 15) (.t 16) 1, none, []⟩,
  ⟨some 18, .load 1 false (.t 17), none, []⟩,
  ⟨some 19, .call 136 [.t 18], none, []⟩,
  ⟨some 14, .mv (.t 19), none, []⟩,
  ⟨some 20, .ext (.t 14) 0, none, []⟩,
  ⟨some 21, .ext (.t 14) 1, none, []⟩,
  ⟨some 6, .alloc [.bool false, .int .i64 0, .int .i64 0, .int .i64 0, .int .i64 0, .int .i64 0], none, []⟩,
  ⟨none, .store (.t 6) 6 (.t 20), none, [6]⟩,
  ⟨some 7, .mv (.t 21), none, []⟩] [0, 3, 5, 6, 7, 8]
theorem r173_10 {C : Cs} {k : List Fr} {s : St} {Q : Post} : run C c173_10 k s Q = run C (.ops [⟨some 15, .mv (.t 0), none, []⟩,
  ⟨some 16, .mv (.t 5), none, []⟩,
  ⟨some 17, .ias (.t 15) (.t 16) 1, none, []⟩,
  ⟨some 18, .load 1 false (.t 17), none, []⟩,
  ⟨some 19, .call 136 [.t 18], none, []⟩,
  ⟨some 14, .mv (.t 19), none, []⟩,
  ⟨some 20, .ext (.t 14) 0, none, []⟩,
  ⟨some 21, .ext (.t 14) 1, none, []⟩,
  ⟨some 6, .alloc [.bool false, .int .i64 0, .int .i64 0, .int .i64 0, .int .i64 0, .int .i64 0], none, []⟩,
  ⟨none, .store (.t 6) 6 (.t 20), none, [6]⟩,
  ⟨some 7, .mv (.t 21), none, []⟩] [0, 3, 5, 6, 7, 8]) k s Q := rfl
def c173_11 : ACode := .ops [⟨some 22, .mv (.t 7), none, []⟩,
  ⟨some 23, .un .not (.t 22), none, []⟩] [0, 3, 5, 6, 8, 23]
theorem r173_11 {C : Cs} {k : List Fr} {s : St} {Q : Post} : run C c173_11 k s Q = run C (.ops [⟨some 22, .mv (.t 7), none, []⟩,
  ⟨some 23, .un .not (.t 22), none, []⟩] [0, 3, 5, 6, 8, 23]) k s Q := rfl
def c173_12 : ACode := .ops [⟨some 4, .mv (.c (.int .i64 (-1))), none, []⟩] [4]
theorem r173_12 {C : Cs} {k : List Fr} {s : St} {Q : Post} : run C c173_12 k s Q = run C (.ops [⟨some 4, .mv (.c (.int .i64 (-1))), none, []⟩] [4]) k s Q := rfl
def c173_13 : ACode := .seq c173_12 .ret
theorem r173_13 {C : Cs} {k : List Fr} {s : St} {Q : Post} : run C c173_13 k s Q = run C (.seq c173_12 .ret) k s Q := rfl
def c173_14 : ACode := .cond (.t 23) c173_13 .skip
theorem r173_14 {C : Cs} {k : List Fr} {s : St} {Q : Post} : run C c173_14 k s Q = run C (.cond (.t 23) c173_13 .skip) k s Q := rfl
def c173_15 : ACode := .seq c173_11 c173_14
theorem r173_15 {C : Cs} {k : List Fr} {s : St} {Q : Post} : run C c173_15 k s Q = run C (.seq c173_11 c173_14) k s Q := rfl
def c173_16 : ACode := .ops [⟨some 27, .fad (.t 6) 0, none, [6]⟩,
  ⟨some 28, .load 1 false (.t 27), none, [6]⟩,
  ⟨some 26, .mv (.t 28), none, []⟩] [0, 3, 5, 6, 8, 26]
theorem r173_16 {C : Cs} {k : List Fr} {s : St} {Q : Post} : run C c173_16 k s Q = run C (.ops [⟨some 27, .fad (.t 6) 0, none, [6]⟩,
  ⟨some 28, .load 1 false (.t 27), none, [6]⟩,
  ⟨some 26, .mv (.t 28), none, []⟩] [0, 3, 5, 6, 8, 26]) k s Q := rfl
def c173_17 : ACode := .ops [⟨some 29, .mv (.t 5), none, []⟩,
  ⟨some 4, .mv (.t 29), none, []⟩] [4]
theorem r173_17 {C : Cs} {k : List Fr} {s : St} {Q : Post} : run C c173_17 k s Q = run C (.ops [⟨some 29, .mv (.t 5), none, []⟩,
  ⟨some 4, .mv (.t 29), none, []⟩] [4]) k s Q := rfl
def c173_18 : ACode := .seq c173_17 .ret
theorem r173_18 {C : Cs} {k : List Fr} {s : St} {Q : Post} : run C c173_18 k s Q = run C (.seq c173_17 .ret) k s Q := rfl
def c173_19 : ACode := .ops [⟨some 31, .fad (.t 6) 2, none, [6]⟩,
  ⟨some 32, .load 1 false (.t 31), none, [6]⟩,
  ⟨some 33, .iad (.t 3) (.t 32) 1 4, none, [3]⟩,
  ⟨some 34, .load 1 false (.t 33), none, [3]⟩,
  ⟨some 35, .fad (.t 6) 3, none, [6]⟩,
  ⟨some 36, .load 1 false (.t 35), none, [6]⟩,
  ⟨some 37, .bin .leq (.t 34) (.t 36), none, []⟩,
  ⟨some 30, .mv (.t 37), none, []⟩] [0, 3, 6, 8, 30]
theorem r173_19 {C : Cs} {k : List Fr} {s : St} {Q : Post} : run C c173_19 k s Q = run C (.ops [⟨some 31, .fad (.t 6) 2, none, [6]⟩,
  ⟨some 32, .load 1 false (.t 31), none, [6]⟩,
  ⟨some 33, .iad (.t 3) (.t 32) 1 4, none, [3]⟩,
  ⟨some 34, .load 1 false (.t 33), none, [3]⟩,
  ⟨some 35, .fad (.t 6) 3, none, [6]⟩,
  ⟨some 36, .load 1 false (.t 35), none, [6]⟩,
  ⟨some 37, .bin .leq (.t 34) (.t 36), none, []⟩,
  ⟨some 30, .mv (.t 37), none, []⟩] [0, 3, 6, 8, 30]) k s Q := rfl
def c173_20 : ACode := .ops [⟨some 38, .fad (.t 6) 4, none, [6]⟩,
  ⟨some 39, .load 1 false (.t 38), none, [6]⟩,
  ⟨some 5, .mv (.t 39), none, []⟩] [0, 3, 5, 8]
theorem r173_20 {C : Cs} {k : List Fr} {s : St} {Q : Post} : run C c173_20 k s Q = run C (.ops [⟨some 38, .fad (.t 6) 4, none, [6]⟩,
  ⟨some 39, .load 1 false (.t 38), none, [6]⟩,
  ⟨some 5, .mv (.t 39), none, []⟩] [0, 3, 5, 8]) k s Q := rfl
def c173_21 : ACode := .ops [⟨some 24, .fad (.t 6) 5, none, [6]⟩,
  ⟨some 25, .load 1 false (.t 24), none, [6]⟩,
  ⟨some 5, .mv (.t 25), none, []⟩] [0, 3, 5, 8]
theorem r173_21 {C : Cs} {k : List Fr} {s : St} {Q : Post} : run C c173_21 k s Q = run C (.ops [⟨some 24, .fad (.t 6) 5, none, [6]⟩,
  ⟨some 25, .load 1 false (.t 24), none, [6]⟩,
  ⟨some 5, .mv (.t 25), none, []⟩] [0, 3, 5, 8]) k s Q := rfl
def c173_22 : ACode := .cond (.t 30) c173_20 c173_21
theorem r173_22 {C : Cs} {k : List Fr} {s : St} {Q : Post} : run C c173_22 k s Q = run C (.cond (.t 30) c173_20 c173_21) k s Q := rfl
def c173_23 : ACode := .seq c173_19 c173_22
theorem r173_23 {C : Cs} {k : List Fr} {s : St} {Q : Post} : run C c173_23 k s Q = run C (.seq c173_19 c173_22) k s Q := rfl
def c173_24 : ACode := .cond (.t 26) c173_18 c173_23
theorem r173_24 {C : Cs} {k : List Fr} {s : St} {Q : Post} : run C c173_24 k s Q = run C (.cond (.t 26) c173_18 c173_23) k s Q := rfl
def c173_25 : ACode := .seq c173_16 c173_24
theorem r173_25 {C : Cs} {k : List Fr} {s : St} {Q : Post} : run C c173_25 k s Q = run C (.seq c173_16 c173_24) k s Q := rfl
def c173_26 : ACode := .block 2 c173_25
theorem r173_26 {C : Cs} {k : List Fr} {s : St} {Q : Post} : run C c173_26 k s Q = run C (.block 2 c173_25) k s Q := rfl
def c173_27 : ACode := .seq c173_15 c173_26
theorem r173_27 {C : Cs} {k : List Fr} {s : St} {Q : Post} : run C c173_27 k s Q = run C (.seq c173_15 c173_26) k s Q := rfl
def c173_28 : ACode := .seq c173_10 c173_27
theorem r173_28 {C : Cs} {k : List Fr} {s : St} {Q : Post} : run C c173_28 k s Q = run C (.seq c173_10 c173_27) k s Q := rfl
def c173_29 : ACode := .seq c173_9 c173_28
theorem r173_29 {C : Cs} {k : List Fr} {s : St} {Q : Post} : run C c173_29 k s Q = run C (.seq c173_9 c173_28) k s Q := rfl
def c173_30 : ACode := .block 1 c173_29
theorem r173_30 {C : Cs} {k : List Fr} {s : St} {Q : Post} : run C c173_30 k s Q = run C (.block 1 c173_29) k s Q := rfl
def c173_31 : ACode := .ops [⟨some 40, .bin .add (.t 8) (.c (.int .i64 1)), none, []⟩,
  ⟨some 8, .mv (.t 40), none, []⟩] [0, 3, 5, 8]
theorem r173_31 {C : Cs} {k : List Fr} {s : St} {Q : Post} : run C c173_31 k s Q = run C (.ops [⟨some 40, .bin .add (.t 8) (.c (.int .i64 1)), none, []⟩,
  ⟨some 8, .mv (.t 40), none, []⟩] [0, 3, 5, 8]) k s Q := rfl
def c173_32 : ACode := .seq c173_30 c173_31
theorem r173_32 {C : Cs} {k : List Fr} {s : St} {Q : Post} : run C c173_32 k s Q = run C (.seq c173_30 c173_31) k s Q := rfl
def c173_33 : ACode := .seq c173_4 c173_32
theorem r173_33 {C : Cs} {k : List Fr} {s : St} {Q : Post} : run C c173_33 k s Q = run C (.seq c173_4 c173_32) k s Q := rfl
def c173_34 : ACode := .seq c173_3 c173_33
theorem r173_34 {C : Cs} {k : List Fr} {s : St} {Q : Post} : run C c173_34 k s Q = run C (.seq c173_3 c173_33) k s Q := rfl
def c173_35 : ACode := .keep [0, 3, 5, 8] [3] c173_34
theorem r173_35 {C : Cs} {k : List Fr} {s : St} {Q : Post} : run C c173_35 k s Q = run C (.keep [0, 3, 5, 8] [3] c173_34) k s Q := rfl
def c173_36 : ACode := .loop c173_35
theorem r173_36 {C : Cs} {k : List Fr} {s : St} {Q : Post} : run C c173_36 k s Q = run C (.loop c173_35) k s Q := rfl
def c173_37 : ACode := .block 0 c173_36
theorem r173_37 {C : Cs} {k : List Fr} {s : St} {Q : Post} : run C c173_37 k s Q = run C (.block 0 c173_36) k s Q := rfl
def c173_38 : ACode := .seq c173_2 c173_37
theorem r173_38 {C : Cs} {k : List Fr} {s : St} {Q : Post} : run C c173_38 k s Q = run C (.seq c173_2 c173_37) k s Q := rfl
def c173_39 : ACode := .ops [⟨some 4, .mv (.c (.int .i64 (-1))), none, []⟩] [4]
theorem r173_39 {C : Cs} {k : List Fr} {s : St} {Q : Post} : run C c173_39 k s Q = run C (.ops [⟨some 4, .mv (.c (.int .i64 (-1))), none, []⟩] [4]) k s Q := rfl
def c173_40 : ACode := .seq c173_39 .ret
theorem r173_40 {C : Cs} {k : List Fr} {s : St} {Q : Post} : run C c173_40 k s Q = run C (.seq c173_39 .ret) k s Q := rfl
def c173_41 : ACode := .seq c173_38 c173_40
theorem r173_41 {C : Cs} {k : List Fr} {s : St} {Q : Post} : run C c173_41 k s Q = run C (.seq c173_38 c173_40) k s Q := rfl
def c173_42 : ACode := .seq c173_1 c173_41
theorem r173_42 {C : Cs} {k : List Fr} {s : St} {Q : Post} : run C c173_42 k s Q = run C (.seq c173_1 c173_41) k s Q := rfl
def c173_43 : ACode := .seq c173_0 c173_42
theorem r173_43 {C : Cs} {k : List Fr} {s : St} {Q : Post} : run C c173_43 k s Q = run C (.seq c173_0 c173_42) k s Q := rfl
def a173 : AFun := ⟨2, 41, c173_43, [.t 4]⟩
attribute [simp] r173_0 r173_1 r173_2 r173_3 r173_4 r173_5 r173_6 r173_7 r173_8 r173_9 r173_10 r173_11 r173_12 r173_13 r173_14 r173_15 r173_16 r173_17 r173_18 r173_19 r173_20 r173_21 r173_22 r173_23 r173_24 r173_25 r173_26 r173_27 r173_28 r173_29 r173_30 r173_31 r173_32 r173_33 r173_34 r173_35 r173_36 r173_37 r173_38 r173_39 r173_40 r173_41 r173_42 r173_43
theorem m173 : mFun Try.prog Try.f173 a173 = true := by decide +kernel
/- copse/copseref6.Value -/
def c147_0 : ACode := .ops [⟨some 3, .box (.t 1) 4, none, []⟩,
  ⟨some 4, .mv (.c (.int .i64 0)), none, []⟩] [0, 3]
theorem r147_0 {C : Cs} {k : List Fr} {s : St} {Q : Post} : run C c147_0 k s Q = run C (.ops [⟨some 3, .box (.t 1) 4, none, []⟩,
  ⟨some 4, .mv (.c (.int .i64 0)), none, []⟩] [0, 3]) k s Q := rfl
def c147_1 : ACode := .ops [⟨some 8, .mv (.t 0), none, []⟩,
  ⟨some 9, .load 4 true (.t 3), none, [3]⟩,
  ⟨some 10, .call 173 [.t 8, .t 9], none, []⟩,
  ⟨some 5, .mv (.t 10), none, []⟩] [0, 5]
theorem r147_1 {C : Cs} {k : List Fr} {s : St} {Q : Post} : run C c147_1 k s Q = run C (.ops [⟨some 8, .mv (.t 0), none, []⟩,
  ⟨some 9, .load 4 true (.t 3), none, [3]⟩,
  ⟨some 10, .call 173 [.t 8, .t 9], none, []⟩,
  ⟨some 5, .mv (.t 10), none, []⟩] [0, 5]) k s Q := rfl
def c147_2 : ACode := .ops [⟨some 11, .mv (.t 5), none, []⟩,
  ⟨some 12, .bin .lss (.t 11) (.c (.int .i64 0)), none, []⟩] [0, 5, 12]
theorem r147_2 {C : Cs} {k : List Fr} {s : St} {Q : Post} : run C c147_2 k s Q = run C (.ops [⟨some 11, .mv (.t 5), none, []⟩,
  ⟨some 12, .bin .lss (.t 11) (.c (.int .i64 0)), none, []⟩] [0, 5, 12]) k s Q := rfl
def c147_3 : ACode := .ops [⟨some 4, .mv (.c (.int .i64 0)), none, []⟩] [4]
theorem r147_3 {C : Cs} {k : List Fr} {s : St} {Q : Post} : run C c147_3 k s Q = run C (.ops [⟨some 4, .mv (.c (.int .i64 0)), none, []⟩] [4]) k s Q := rfl
def c147_4 : ACode := .seq c147_3 .ret
theorem r147_4 {C : Cs} {k : List Fr} {s : St} {Q : Post} : run C c147_4 k s Q = run C (.seq c147_3 .ret) k s Q := rfl
def c147_5 : ACode := .cond (.t 12) c147_4 .skip
theorem r147_5 {C : Cs} {k : List Fr} {s : St} {Q : Post} : run C c147_5 k s Q = run C (.cond (.t 12) c147_4 .skip) k s Q := rfl
def c147_6 : ACode := .seq c147_2 c147_5
theorem r147_6 {C : Cs} {k : List Fr} {s : St} {Q : Post} : run C c147_6 k s Q = run C (.seq c147_2 c147_5) k s Q := rfl
def c147_7 : ACode := .ops [⟨some 14, .mv (.t 0), none, []⟩,
  ⟨some 15, .mv (.t 5), none, []⟩,
  ⟨some 16, .ias (.t 14) (.t 15) 1, none, []⟩,
  ⟨some 17, .load 1 false (.t 16), none, []⟩,
  ⟨some 18, .call 136 [.t 17], none, []⟩,
  ⟨some 13, .mv (.t 18), none, []⟩,
  ⟨some 19, .ext (.t 13) 0, none, []⟩,
  ⟨some 20, .ext (.t 13) 1, none, []⟩,
  ⟨some 6, .alloc [.bool false, .int .i64 0, .int .i64 0, .int .i64 0, .int .i64 0, .int .i64 0], none, []⟩,
  ⟨none, .store (.t 6) 6 (.t 19), none, [6]⟩,
  ⟨some 7, .mv (.t 20), none, []⟩] [6]
theorem r147_7 {C : Cs} {k : List Fr} {s : St} {Q : Post} : run C c147_7 k s Q = run C (.ops [⟨some 14, .mv (.t 0), none, []⟩,
  ⟨some 15, .mv (.t 5), none, []⟩,
  ⟨some 16, .ias (.t 14) (.t 15) 1, none, []⟩,
  ⟨some 17, .load 1 false (.t 16), none, []⟩,
  ⟨some 18, .call 136 [.t 17], none, []⟩,
  ⟨some 13, .mv (.t 18), none, []⟩,
  ⟨some 19, .ext (.t 13) 0, none, []⟩,
  ⟨some 20, .ext (.t 13) 1, none, []⟩,
  ⟨some 6, .alloc [.bool false, .int .i64 0, .int .i64 0, .int .i64 0, .int .i64 0, .int .i64 0], none, []⟩,
  ⟨none, .store (.t 6) 6 (.t 19), none, [6]⟩,
  ⟨some 7, .mv (.t 20), none, []⟩] [6]) k s Q := rfl
def c147_8 : ACode := .ops [⟨some 21, .fad (.t 6) 1, none, [6]⟩,
  ⟨some 22, .load 1 false (.t 21), none, [6]⟩,
  ⟨some 4, .mv (.t 22), none, []⟩] [4]
theorem r147_8 {C : Cs} {k : List Fr} {s : St} {Q : Post} : run C c147_8 k s Q = run C (.ops [⟨some 21, .fad (.t 6) 1, none, [6]⟩,
  ⟨some 22, .load 1 false (.t 21), none, [6]⟩,
  ⟨some 4, .mv (.t 22), none, []⟩] [4]) k s Q := rfl
def c147_9 : ACode := .seq c147_8 .ret
theorem r147_9 {C : Cs} {k : List Fr} {s : St} {Q : Post} : run C c147_9 k s Q = run C (.seq c147_8 .ret) k s Q := rfl
def c147_10 : ACode := .seq c147_7 c147_9
theorem r147_10 {C : Cs} {k : List Fr} {s : St} {Q : Post} : run C c147_10 k s Q = run C (.seq c147_7 c147_9) k s Q := rfl
def c147_11 : ACode := .seq c147_6 c147_10
theorem r147_11 {C : Cs} {k : List Fr} {s : St} {Q : Post} : run C c147_11 k s Q = run C (.seq c147_6 c147_10) k s Q := rfl
def c147_12 : ACode := .seq c147_1 c147_11
theorem r147_12 {C : Cs} {k : List Fr} {s : St} {Q : Post} : run C c147_12 k s Q = run C (.seq c147_1 c147_11) k s Q := rfl
def c147_13 : ACode := .seq c147_0 c147_12
theorem r147_13 {C : Cs} {k : List Fr} {s : St} {Q : Post} : run C c147_13 k s Q = run C (.seq c147_0 c147_12) k s Q := rfl
def a147 : AFun := ⟨2, 23, c147_13, [.t 4]⟩
attribute [simp] r147_0 r147_1 r147_2 r147_3 r147_4 r147_5 r147_6 r147_7 r147_8 r147_9 r147_10 r147_11 r147_12 r147_13
theorem m147 : mFun Try.prog Try.f147 a147 = true := by decide +kernel
/- copse/copseref6.Eval -/
def c98_0 : ACode := .ops [⟨some 3, .box (.t 0) 6, none, []⟩,
  ⟨some 5, .box (.t 2) 4, none, []⟩,
  ⟨some 6, .mv (.c (.int .i64 0)), none, []⟩] [1, 3, 5]
theorem r98_0 {C : Cs} {k : List Fr} {s : St} {Q : Post} : run C c98_0 k s Q = run C (.ops [⟨some 3, .box (.t 0) 6, none, []⟩,
  ⟨some 5, .box (.t 2) 4, none, []⟩,
  ⟨some 6, .mv (.c (.int .i64 0)), none, []⟩] [1, 3, 5]) k s Q := rfl
def c98_1 : ACode := .ops [⟨some 10, .load 6 true (.t 3), none, [3]⟩,
  ⟨some 11, .call 97 [.t 10], none, []⟩,
  ⟨some 12, .un .not (.t 11), none, []⟩,
  ⟨some 13, .mv (.t 12), none, []⟩,
  ⟨some 14, .mv (.t 1), some (13, false), []⟩,
  ⟨some 15, .bin .lss (.t 14) (.c (.int .i64 0)), some (13, false), []⟩,
  ⟨some 16, .pick (.t 13) (.c (.bool true)) (.t 15), none, []⟩,
  ⟨some 17, .mv (.t 16), none, []⟩,
  ⟨some 18, .mv (.t 1), some (17, false), []⟩,
  ⟨some 19, .fad (.t 3) 1, some (17, false), [3]⟩,
  ⟨some 20, .load 1 false (.t 19), some (17, false), [3]⟩,
  ⟨some 21, .bin .geq (.t 18) (.t 20), some (17, false), []⟩,
  ⟨some 22, .pick (.t 17) (.c (.bool true)) (.t 21), none, []⟩] [1, 3, 5, 22]
theorem r98_1 {C : Cs} {k : List Fr} {s : St} {Q : Post} : run C c98_1 k s Q = run C (.ops [⟨some 10, .load 6 true (.t 3), none, [3]⟩,
  ⟨some 11, .call 97 [.t 10], none, []⟩,
  ⟨some 12, .un .not (.t 11), none, []⟩,
  ⟨some 13, .mv (.t 12), none, []⟩,
  ⟨some 14, .mv (.t 1), some (13, false), []⟩,
  ⟨some 15, .bin .lss (.t 14) (.c (.int .i64 0)), some (13, false), []⟩,
  ⟨some 16, .pick (.t 13) (.c (.bool true)) (.t 15), none, []⟩,
  ⟨some 17, .mv (.t 16), none, []⟩,
  ⟨some 18, .mv (.t 1), some (17, false), []⟩,
  ⟨some 19, .fad (.t 3) 1, some (17, false), [3]⟩,
  ⟨some 20, .load 1 false (.t 19), some (17, false), [3]⟩,
  ⟨some 21, .bin .geq (.t 18) (.t 20), some (17, false), []⟩,
  ⟨some 22, .pick (.t 17) (.c (.bool true)) (.t 21), none, []⟩] [1, 3, 5, 22]) k s Q := rfl
def c98_2 : ACode := .ops [⟨some 6, .mv (.c (.int .i64 0)), none, []⟩] [6]
theorem r98_2 {C : Cs} {k : List Fr} {s : St} {Q : Post} : run C c98_2 k s Q = run C (.ops [⟨some 6, .mv (.c (.int .i64 0)), none, []⟩] [6]) k s Q := rfl
def c98_3 : ACode := .seq c98_2 .ret
theorem r98_3 {C : Cs} {k : List Fr} {s : St} {Q : Post} : run C c98_3 k s Q = run C (.seq c98_2 .ret) k s Q := rfl
def c98_4 : ACode := .cond (.t 22) c98_3 .skip
theorem r98_4 {C : Cs} {k : List Fr} {s : St} {Q : Post} : run C c98_4 k s Q = run C (.cond (.t 22) c98_3 .skip) k s Q := rfl
def c98_5 : ACode := .seq c98_1 c98_4
theorem r98_5 {C : Cs} {k : List Fr} {s : St} {Q : Post} : run C c98_5 k s Q = run C (.seq c98_1 c98_4) k s Q := rfl
def c98_6 : ACode := .ops [⟨some 23, .mv (.t 1), none, []⟩,
  ⟨some 24, .fad (.t 3) 2, none, [3]⟩,
  ⟨some 25, .iad (.t 24) (.t 23) 1 3, none, [3]⟩,
  ⟨some 26, .load 1 false (.t 25), none, [3]⟩,
  ⟨some 7, .mv (.t 26), none, []⟩] [1, 3, 5, 7]
theorem r98_6 {C : Cs} {k : List Fr} {s : St} {Q : Post} : run C c98_6 k s Q = run C (.ops [⟨some 23, .mv (.t 1), none, []⟩,
  ⟨some 24, .fad (.t 3) 2, none, [3]⟩,
  ⟨some 25, .iad (.t 24) (.t 23) 1 3, none, [3]⟩,
  ⟨some 26, .load 1 false (.t 25), none, [3]⟩,
  ⟨some 7, .mv (.t 26), none, []⟩] [1, 3, 5, 7]) k s Q := rfl
def c98_7 : ACode := .ops [⟨some 27, .fad (.t 3) 5, none, [3]⟩,
  ⟨some 28, .load 1 false (.t 27), none, [3]⟩,
  ⟨some 29, .len (.t 28), none, []⟩,
  ⟨some 30, .mv (.c (.int .i64 0)), none, []⟩] [1, 5, 7, 28, 29, 30]
theorem r98_7 {C : Cs} {k : List Fr} {s : St} {Q : Post} : run C c98_7 k s Q = run C (.ops [⟨some 27, .fad (.t 3) 5, none, [3]⟩,
  ⟨some 28, .load 1 false (.t 27), none, [3]⟩,
  ⟨some 29, .len (.t 28), none, []⟩,
  ⟨some 30, .mv (.c (.int .i64 0)), none, []⟩] [1, 5, 7, 28, 29, 30]) k s Q := rfl
def c98_8 : ACode := .ops [⟨some 31, .bin .lss (.t 30) (.t 29), none, []⟩] [1, 5, 7, 28, 29, 30, 31]
theorem r98_8 {C : Cs} {k : List Fr} {s : St} {Q : Post} : run C c98_8 k s Q = run C (.ops [⟨some 31, .bin .lss (.t 30) (.t 29), none, []⟩] [1, 5, 7, 28, 29, 30, 31]) k s Q := rfl
def c98_9 : ACode := .cond (.t 31) .skip (.exit 0)
theorem r98_9 {C : Cs} {k : List Fr} {s : St} {Q : Post} : run C c98_9 k s Q = run C (.cond (.t 31) .skip (.exit 0)) k s Q := rfl
def c98_10 : ACode := .ops [⟨some 32, .ias (.t 28) (.t 30) 2, none, []⟩,
  ⟨some 33, .load 2 true (.t 32), none, []⟩,
  ⟨some 9, .alloc [.int .i64 0, .nils], none, []⟩,
  ⟨none, .store (.t 9) 2 (.t 33), none, [9]⟩] [1, 5, 7, 9, 28, 29, 30]
theorem r98_10 {C : Cs} {k : List Fr} {s : St} {Q : Post} : run C c98_10 k s Q = run C (.ops [⟨some 32, .ias (.t 28) (.t 30) 2, none, []⟩,
  ⟨some 33, .load 2 true (.t 32), none, []⟩,
  ⟨some 9, .alloc [.int .i64 0, .nils], none, []⟩,
  ⟨none, .store (.t 9) 2 (.t 33), none, [9]⟩] [1, 5, 7, 9, 28, 29, 30]) k s Q := rfl
def c98_11 : ACode := .ops [⟨some 34, .fad (.t 9) 0, none, [9]⟩,
  ⟨some 35, .load 1 false (.t 34), none, [9]⟩,
  ⟨some 36, .mv (.t 1), none, []⟩,
  ⟨some 37, .bin .eql (.t 35) (.t 36), none, []⟩] [1, 5, 7, 9, 28, 29, 30, 37]
theorem r98_11 {C : Cs} {k : List Fr} {s : St} {Q : Post} : run C c98_11 k s Q = run C (.ops [⟨some 34, .fad (.t 9) 0, none, [9]⟩,
  ⟨some 35, .load 1 false (.t 34), none, [9]⟩,
  ⟨some 36, .mv (.t 1), none, []⟩,
  ⟨some 37, .bin .eql (.t 35) (.t 36), none, []⟩] [1, 5, 7, 9, 28, 29, 30, 37]) k s Q := rfl
def c98_12 : ACode := .ops [⟨some 38, .mv (.t 7), none, []⟩,
  ⟨some 39, .fad (.t 9) 1, none, [9]⟩,
  ⟨some 40, .load 1 false (.t 39), none, [9]⟩,
  ⟨some 41, .load 4 true (.t 5), none, [5]⟩,
  ⟨some 42, .call 147 [.t 40, .t 41], none, []⟩,
  ⟨some 43, .bin .add (.t 38) (.t 42), none, []⟩,
  ⟨some 7, .mv (.t 43), none, []⟩] [1, 5, 7, 28, 29, 30]
theorem r98_12 {C : Cs} {k : List Fr} {s : St} {Q : Post} : run C c98_12 k s Q = run C (.ops [⟨some 38, .mv (.t 7), none, []⟩,
  ⟨some 39, .fad (.t 9) 1, none, [9]⟩,
  ⟨some 40, .load 1 false (.t 39), none, [9]⟩,
  ⟨some 41, .load 4 true (.t 5), none, [5]⟩,
  ⟨some 42, .call 147 [.t 40, .t 41], none, []⟩,
  ⟨some 43, .bin .add (.t 38) (.t 42), none, []⟩,
  ⟨some 7, .mv (.t 43), none, []⟩] [1, 5, 7, 28, 29, 30]) k s Q := rfl
def c98_13 : ACode := .cond (.t 37) c98_12 .skip
theorem r98_13 {C : Cs} {k : List Fr} {s : St} {Q : Post} : run C c98_13 k s Q = run C (.cond (.t 37) c98_12 .skip) k s Q := rfl
def c98_14 : ACode := .seq c98_11 c98_13
theorem r98_14 {C : Cs} {k : List Fr} {s : St} {Q : Post} : run C c98_14 k s Q = run C (.seq c98_11 c98_13) k s Q := rfl
def c98_15 : ACode := .seq c98_10 c98_14
theorem r98_15 {C : Cs} {k : List Fr} {s : St} {Q : Post} : run C c98_15 k s Q = run C (.seq c98_10 c98_14) k s Q := rfl
def c98_16 : ACode := .block 1 c98_15
theorem r98_16 {C : Cs} {k : List Fr} {s : St} {Q : Post} : run C c98_16 k s Q = run C (.block 1 c98_15) k s Q := rfl
def c98_17 : ACode := .ops [⟨some 44, .bin .add (.t 30) (.c (.int .i64 1)), none, []⟩,
  ⟨some 30, .mv (.t 44), none, []⟩] [1, 5, 7, 28, 29, 30]
theorem r98_17 {C : Cs} {k : List Fr} {s : St} {Q : Post} : run C c98_17 k s Q = run C (.ops [⟨some 44, .bin .add (.t 30) (.c (.int .i64 1)), none, []⟩,
  ⟨some 30, .mv (.t 44), none, []⟩] [1, 5, 7, 28, 29, 30]) k s Q := rfl
def c98_18 : ACode := .seq c98_16 c98_17
theorem r98_18 {C : Cs} {k : List Fr} {s : St} {Q : Post} : run C c98_18 k s Q = run C (.seq c98_16 c98_17) k s Q := rfl
def c98_19 : ACode := .seq c98_9 c98_18
theorem r98_19 {C : Cs} {k : List Fr} {s : St} {Q : Post} : run C c98_19 k s Q = run C (.seq c98_9 c98_18) k s Q := rfl
def c98_20 : ACode := .seq c98_8 c98_19
theorem r98_20 {C : Cs} {k : List Fr} {s : St} {Q : Post} : run C c98_20 k s Q = run C (.seq c98_8 c98_19) k s Q := rfl
def c98_21 : ACode := .keep [1, 5, 7, 28, 29, 30] [5] c98_20
theorem r98_21 {C : Cs} {k : List Fr} {s : St} {Q : Post} : run C c98_21 k s Q = run C (.keep [1, 5, 7, 28, 29, 30] [5] c98_20) k s Q := rfl
def c98_22 : ACode := .loop c98_21
theorem r98_22 {C : Cs} {k : List Fr} {s : St} {Q : Post} : run C c98_22 k s Q = run C (.loop c98_21) k s Q := rfl
def c98_23 : ACode := .block 0 c98_22
theorem r98_23 {C : Cs} {k : List Fr} {s : St} {Q : Post} : run C c98_23 k s Q = run C (.block 0 c98_22) k s Q := rfl
def c98_24 : ACode := .seq c98_7 c98_23
theorem r98_24 {C : Cs} {k : List Fr} {s : St} {Q : Post} : run C c98_24 k s Q = run C (.seq c98_7 c98_23) k s Q := rfl
def c98_25 : ACode := .ops [⟨some 45, .mv (.t 7), none, []⟩,
  ⟨some 6, .mv (.t 45), none, []⟩] [6]
theorem r98_25 {C : Cs} {k : List Fr} {s : St} {Q : Post} : run C c98_25 k s Q = run C (.ops [⟨some 45, .mv (.t 7), none, []⟩,
  ⟨some 6, .mv (.t 45), none, []⟩] [6]) k s Q := rfl
def c98_26 : ACode := .seq c98_25 .ret
theorem r98_26 {C : Cs} {k : List Fr} {s : St} {Q : Post} : run C c98_26 k s Q = run C (.seq c98_25 .ret) k s Q := rfl
def c98_27 : ACode := .seq c98_24 c98_26
theorem r98_27 {C : Cs} {k : List Fr} {s : St} {Q : Post} : run C c98_27 k s Q = run C (.seq c98_24 c98_26) k s Q := rfl
def c98_28 : ACode := .seq c98_6 c98_27
theorem r98_28 {C : Cs} {k : List Fr} {s : St} {Q : Post} : run C c98_28 k s Q = run C (.seq c98_6 c98_27) k s Q := rfl
def c98_29 : ACode := .seq c98_5 c98_28
theorem r98_29 {C : Cs} {k : List Fr} {s : St} {Q : Post} : run C c98_29 k s Q = run C (.seq c98_5 c98_28) k s Q := rfl
def c98_30 : ACode := .seq c98_0 c98_29
theorem r98_30 {C : Cs} {k : List Fr} {s : St} {Q : Post} : run C c98_30 k s Q = run C (.seq c98_0 c98_29) k s Q := rfl
def a98 : AFun := ⟨3, 46, c98_30, [.t 6]⟩
attribute [simp] r98_0 r98_1 r98_2 r98_3 r98_4 r98_5 r98_6 r98_7 r98_8 r98_9 r98_10 r98_11 r98_12 r98_13 r98_14 r98_15 r98_16 r98_17 r98_18 r98_19 r98_20 r98_21 r98_22 r98_23 r98_24 r98_25 r98_26 r98_27 r98_28 r98_29 r98_30
theorem m98 : mFun Try.prog Try.f98 a98 = true := by decide +kernel

noncomputable def RModel (m : Model) : Option Bool := Part (RM m) true
set_option maxRecDepth 100000 in
set_option maxHeartbeats 2000000 in
theorem runs_rModel (m : Model) (c : Bool) (h : RModel m = some c) : Runs (tbl [(119, sp2 Fits), (146, sp2 TreeRight)]) a97 [Arg.enc m] (Arg.enc c) := by
  obtain ⟨hr, rfl⟩ := part_some h
  clear h
  refine ⟨rfl, fun g => run_def ?_⟩
  unfold a97
  have b3 : m.trees.length ≤ maxN := by have := hr.trees; unfold maxN; omega
  have e0 : ¬ m.dim < 1 := by have := hr.dim; omega
  have e1 : ¬ 4 < m.dim := by have := hr.dim; omega
  have e2 : ¬ m.classes < 1 := by have := hr.classes; omega
  have e3 : ¬ 3 < m.classes := by have := hr.classes; omega
  have e4 : ¬ (8 : Int) < m.trees.length := by have := hr.trees; omega
  have e5 : ¬ m.classes ≤ 0 := by omega
  have hb := hr.bias
  have f0 := hb.1
  have f1 := hb.2.1
  have f2 := hb.2.2
  have n1 := hr.none1
  have n2 := hr.none2
  have fz : fits 0 = true := rfl
  have z1 : m.classes ≤ 1 → decide (m.bias.b1 = 0) = true := fun h => by simp [n1 h]
  have z2 : m.classes ≤ 2 → decide (m.bias.b2 = 0) = true := fun h => by simp [n2 h]
  have key : ∀ (g : Nat → Nat) (h : Hp), keepH h [1] = [(1, ⟨Row.enc m, false, 0⟩)] → run (tbl [(119, sp2 Fits), (146, sp2 TreeRight)]) (.loop c97_40) [Fr.blk 2, Fr.c c97_45] ⟨[(1, .ptr 1 (g 1) 0), (52, .lst m.trees.length (encL m.trees)), (53, .int .i64 m.trees.length), (54, .int .i64 0)], h, g⟩ (fin [ARes.t 2] (AV.bool true)) := by
    intro g h hh
    refine run_while (c := c97_39) (fun n s => ∃ (i : Nat) (g : Nat → Nat), i + n = m.trees.length ∧ s = ⟨[(1, .ptr 1 (g 1) 0), (52, .lst m.trees.length (encL m.trees)), (53, .int .i64 m.trees.length), (54, .int .i64 i)], [(1, ⟨Row.enc m, false, 0⟩)], g⟩) m.trees.length ⟨0, g, by omega, by simp only [hh]; rfl⟩ ?_
    rintro n s ⟨i, g, hi, rfl⟩
    by_cases h1 : i < m.trees.length
    case pos =>
      have w1 : IntKind.i64.wrap ((i : Int) + 1) = (i : Int) + 1 := wrap64 (by omega) (by omega)
      have hrow := rd_tree m.trees i h1
      have ht := hr.tree _ (List.getElem_mem h1)
      have hT : TreeRight m.trees[i].nodes m.dim = some true := part_of ht.2.2 _
      have c1 : ¬ m.trees[i].cls < 0 := by omega
      have c2 : ¬ m.classes ≤ m.trees[i].cls := by omega
      simp -implicitDefEqProofs [h1, hrow, hT, c1, c2, w1]
      exact ⟨n - 1, by omega, i + 1, by omega, by omega⟩
    case neg =>
      simp -implicitDefEqProofs [h1]
  by_cases k1 : m.classes ≤ 1 <;> by_cases k2 : m.classes ≤ 2
  · have z1 := z1 k1
    have z2 := z2 k2
    simp -implicitDefEqProofs [run_round, b3, e0, e1, e2, e3, e4, e5, Fits, fz, f0, f1, f2, k1, k2, z1, z2, -r97_41]
    exact key (bump 1 g) _ (by simp)
  · omega
  · have z2 := z2 k2
    simp -implicitDefEqProofs [run_round, b3, e0, e1, e2, e3, e4, e5, Fits, fz, f0, f1, f2, k1, k2, z2, -r97_41]
    exact key (bump 1 g) _ (by simp)
  · simp -implicitDefEqProofs [run_round, b3, e0, e1, e2, e3, e4, e5, Fits, fz, f0, f1, f2, k1, k2, -r97_41]
    exact key (bump 1 g) _ (by simp)
theorem c_rModel : Contract Try.prog 97 (sp1 RModel) :=
  contract_of_runs mixed (tbl_cons c_rFits (tbl_cons c_rRT tbl_nil)) Try.func97 m97 (sp1_runs runs_rModel)

noncomputable def WalkC (l : List Word) (p : Point) : Option Int := Part (∃ d, RT l d) (leafOf l p : Int)
theorem runs_rWalk (l : List Word) (p : Point) (c : Int) (h : WalkC l p = some c) : Runs (tbl [(136, sp1 Unpack)]) a173 [Arg.enc l, Arg.enc p] (Arg.enc c) := by
  obtain ⟨⟨d, hr⟩, rfl⟩ := part_some h
  refine ⟨rfl, fun g => run_def ?_⟩
  unfold a173
  have hp := hr.pos
  have hle := hr.le
  have b3 : l.length ≤ maxN := by unfold maxN; omega
  simp -implicitDefEqProofs [b3]
  refine run_while (c := c173_34) (fun m s => ∃ (i j : Nat) (g : Nat → Nat), i < l.length ∧ l.length ≤ m + i ∧ j + m = 31 ∧ walk l p m i = leafOf l p ∧ s = ⟨[(0, .lst l.length (encL l)), (3, .ptr 3 (g 3) 0), (5, .int .i64 i), (8, .int .i64 j)],
    [(3, ⟨[.int .i64 p.p0, .int .i64 p.p1, .int .i64 p.p2, .int .i64 p.p3], false, 0⟩)], g⟩) 31 ⟨0, 0, bump 3 g, by omega, by omega, by omega, rfl, by simp⟩ ?_
  rintro m s ⟨i, j, g, h1, h2, h3, h4, rfl⟩
  have hU := unpack_at hr h1
  have e1 : (j : Int) < 31 := by omega
  have e2 : ¬ (l.length : Int) ≤ i := by omega
  have w1 : IntKind.i64.wrap ((j : Int) + 1) = (j : Int) + 1 := wrap64 (by omega) (by omega)
  obtain ⟨m, rfl⟩ : ∃ n, m = n + 1 := ⟨m - 1, by omega⟩
  rw [walk] at h4
  cases hl : (ndAt l i).leaf
  case true =>
    rw [hl] at h4
    simp only [if_true] at h4
    simp -implicitDefEqProofs [h1, e1, e2, b3, rd_words, hU, hl, w1]
    rw [← h4]
  case false =>
    rw [hl] at h4
    simp only [Bool.false_eq_true, if_false] at h4
    have ha := hr.at h1 hl
    have hn := nxt_lt hr h1 hl p
    have hf := hr.feature h1 hl
    have f1 := hf.1
    have f2 := hf.2
    by_cases hc : p.get (ndAt l i).feature ≤ (ndAt l i).cut
    case pos =>
      simp -implicitDefEqProofs [h1, e1, e2, b3, rd_words, hU, hl, w1, f1, f2, hc]
      have he : (nxt (ndAt l i) p : Int) = (ndAt l i).left := by unfold nxt; rw [if_pos hc]; omega
      exact ⟨m, by omega, _, hn.2, by omega, j + 1, by omega, h4, he.symm, by omega⟩
    case neg =>
      simp -implicitDefEqProofs [h1, e1, e2, b3, rd_words, hU, hl, w1, f1, f2, hc]
      have he : (nxt (ndAt l i) p : Int) = (ndAt l i).right := by unfold nxt; rw [if_neg hc]; omega
      exact ⟨m, by omega, _, hn.2, by omega, j + 1, by omega, h4, he.symm, by omega⟩
theorem c_rWalk : Contract Try.prog 173 (sp2 WalkC) :=
  contract_of_runs mixed (tbl_cons c_rUnpack tbl_nil) Try.func173 m173 (sp2_runs runs_rWalk)
noncomputable def RValue (l : List Word) (p : Point) : Option Int := Part (∃ d, RT l d) (valueAt l p)
theorem runs_rValue (l : List Word) (p : Point) (c : Int) (h : RValue l p = some c) : Runs (tbl [(173, sp2 WalkC), (136, sp1 Unpack)]) a147 [Arg.enc l, Arg.enc p] (Arg.enc c) := by
  obtain ⟨hh, rfl⟩ := part_some h
  refine ⟨rfl, fun g => run_def ?_⟩
  unfold a147
  have hW : WalkC l p = some (leafOf l p : Int) := part_of hh _
  obtain ⟨d, hr⟩ := hh
  have hl := (leafOf_lt hr p).1
  have hU := unpack_at hr hl
  have c0 : ¬ (leafOf l p : Int) < 0 := by omega
  simp -implicitDefEqProofs [hW, hl, hU, c0, rd_words, valueAt]
theorem c_rValue : Contract Try.prog 147 (sp2 RValue) :=
  contract_of_runs mixed (tbl_cons c_rWalk (tbl_cons c_rUnpack tbl_nil)) Try.func147 m147 (sp2_runs runs_rValue)
noncomputable def REval (m : Model) (c : Int) (p : Point) : Option Int := Part (RM m) (evalX m c p)
theorem runs_rEval (m : Model) (c : Int) (p : Point) (r : Int) (h : REval m c p = some r) : Runs (tbl [(97, sp1 RModel), (147, sp2 RValue)]) a98 [Arg.enc m, Arg.enc c, Arg.enc p] (Arg.enc r) := by
  obtain ⟨hr, rfl⟩ := part_some h
  clear h
  refine ⟨rfl, fun g => run_def ?_⟩
  unfold a98
  have hM : RModel m = some true := part_of hr _
  by_cases c0 : c < 0
  case pos =>
    have : ¬ 0 ≤ c := by omega
    simp -implicitDefEqProofs [hM, c0, evalX, this]
  by_cases c1 : m.classes ≤ c
  case pos =>
    have : ¬ c < m.classes := by omega
    simp -implicitDefEqProofs [hM, c0, c1, evalX, this]
  have h0 : 0 ≤ c := by omega
  have h3 : c < 3 := by have := hr.classes; omega
  have he : evalX m c p = evalM m c p := by unfold evalX; rw [if_pos ⟨h0, by omega⟩]
  rw [he]
  have hle := hr.trees
  have b3 : m.trees.length ≤ maxN := by unfold maxN; omega
  simp -implicitDefEqProofs [hM, c0, c1, b3, h0, h3]
  refine run_while (c := c98_20) (fun n s => ∃ (i : Nat) (g : Nat → Nat), i + n = m.trees.length ∧ s = ⟨[(1, .int .i64 c), (5, .ptr 5 (g 5) 0), (7, .int .i64 ((m.trees.take i).foldl (evalF c p) (m.bias.get c))), (28, .lst m.trees.length (encL m.trees)), (29, .int .i64 m.trees.length), (30, .int .i64 i)],
    [(5, ⟨[.int .i64 p.p0, .int .i64 p.p1, .int .i64 p.p2, .int .i64 p.p3], false, 0⟩)], g⟩) m.trees.length ⟨0, bump 5 (bump 3 g), by omega, by simp⟩ ?_
  rintro n s ⟨i, g, hi, rfl⟩
  by_cases h1 : i < m.trees.length
  case pos =>
    have w1 : IntKind.i64.wrap ((i : Int) + 1) = (i : Int) + 1 := wrap64 (by omega) (by omega)
    have hrow := rd_tree m.trees i h1
    have hrt := hr.rt (List.getElem_mem h1)
    have hV : RValue m.trees[i].nodes p = some (valueAt m.trees[i].nodes p) := part_of ⟨_, hrt⟩ _
    have hb := evalF_le (c := c) (p := p) (m.trees.take (i + 1)) (m.bias.get c) (fun t ht => ⟨_, hr.rt (List.mem_of_mem_take ht)⟩)
    have hb2 := of_fits (Bias.get_fits hr c)
    have hs : (m.trees.take (i + 1)).foldl (evalF c p) (m.bias.get c) = evalF c p ((m.trees.take i).foldl (evalF c p) (m.bias.get c)) m.trees[i] := by
      rw [List.take_succ_eq_append_getElem h1, List.foldl_append]
      rfl
    have hl : (m.trees.take (i + 1)).length ≤ 8 := by simp; omega
    rw [hs] at hb
    rw [← hs] at hb
    by_cases hc : m.trees[i].cls = c
    case pos =>
      have hs2 : (m.trees.take (i + 1)).foldl (evalF c p) (m.bias.get c) = (m.trees.take i).foldl (evalF c p) (m.bias.get c) + valueAt m.trees[i].nodes p := by rw [hs, evalF, if_pos hc]
      have w2 : IntKind.i64.wrap ((m.trees.take i).foldl (evalF c p) (m.bias.get c) + valueAt m.trees[i].nodes p) = (m.trees.take (i + 1)).foldl (evalF c p) (m.bias.get c) := by rw [← hs2]; exact wrap64 (by omega) (by omega)
      simp -implicitDefEqProofs [h1, hrow, hc, hV, w1, w2]
      exact ⟨n - 1, by omega, i + 1, by omega, rfl, by omega⟩
    case neg =>
      have hs2 : (m.trees.take (i + 1)).foldl (evalF c p) (m.bias.get c) = (m.trees.take i).foldl (evalF c p) (m.bias.get c) := by rw [hs, evalF, if_neg hc]
      simp -implicitDefEqProofs [h1, hrow, hc, hV, w1]
      exact ⟨n - 1, by omega, i + 1, by omega, hs2.symm, by omega⟩
  case neg =>
    have hil : i = m.trees.length := by omega
    subst hil
    simp -implicitDefEqProofs [h1, evalM]
theorem c_rEval : Contract Try.prog 98 (sp3 REval) :=
  contract_of_runs mixed (tbl_cons c_rModel (tbl_cons c_rValue tbl_nil)) Try.func98 m98 (sp3_runs runs_rEval)
end Go.Co
