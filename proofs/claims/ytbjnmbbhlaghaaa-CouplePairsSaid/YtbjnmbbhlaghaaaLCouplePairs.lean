/- The law CouplePairs: what its text computes (written by mkLCP.py). -/
import Derived.Test.YtbjnmbbhlaghaaaCoQ
import Derived.Test.YtbjnmbbhlaghaaaCoK
import Derived.Test.YtbjnmbbhlaghaaaCoSh
namespace Go.Co
open Go.Am Go.Proofs
set_option linter.unusedSimpArgs false
set_option linter.unusedVariables false

/- copse/box.Has -/
def c87_0 : ACode := .ops [⟨some 3, .box (.t 0) 10, none, []⟩,
  ⟨some 4, .box (.t 1) 4, none, []⟩,
  ⟨some 6, .mv (.c (.bool false)), none, []⟩] [2, 3, 4]
theorem r87_0 {C : Cs} {k : List Fr} {s : St} {Q : Post} : run C c87_0 k s Q = run C (.ops [⟨some 3, .box (.t 0) 10, none, []⟩,
  ⟨some 4, .box (.t 1) 4, none, []⟩,
  ⟨some 6, .mv (.c (.bool false)), none, []⟩] [2, 3, 4]) k s Q := rfl
def c87_1 : ACode := .ops [⟨some 9, .load 4 true (.t 4), none, [4]⟩,
  ⟨some 10, .mv (.c (.int .i64 0)), none, []⟩] [2, 3, 9, 10]
theorem r87_1 {C : Cs} {k : List Fr} {s : St} {Q : Post} : run C c87_1 k s Q = run C (.ops [⟨some 9, .load 4 true (.t 4), none, [4]⟩,
  ⟨some 10, .mv (.c (.int .i64 0)), none, []⟩] [2, 3, 9, 10]) k s Q := rfl
def c87_2 : ACode := .ops [⟨some 11, .bin .lss (.t 10) (.c (.int .i64 4)), none, []⟩] [2, 3, 9, 10, 11]
theorem r87_2 {C : Cs} {k : List Fr} {s : St} {Q : Post} : run C c87_2 k s Q = run C (.ops [⟨some 11, .bin .lss (.t 10) (.c (.int .i64 4)), none, []⟩] [2, 3, 9, 10, 11]) k s Q := rfl
def c87_3 : ACode := .cond (.t 11) .skip (.exit 0)
theorem r87_3 {C : Cs} {k : List Fr} {s : St} {Q : Post} : run C c87_3 k s Q = run C (.cond (.t 11) .skip (.exit 0)) k s Q := rfl
def c87_4 : ACode := .ops [⟨some 12, .mv (.t 10), none, []⟩,
  ⟨some 13, .idx (.t 9) (.t 10) 1 4 false, none, []⟩,
  ⟨some 7, .mv (.t 12), none, []⟩,
  ⟨some 8, .mv (.t 13), none, []⟩] [2, 3, 7, 8, 9, 10]
theorem r87_4 {C : Cs} {k : List Fr} {s : St} {Q : Post} : run C c87_4 k s Q = run C (.ops [⟨some 12, .mv (.t 10), none, []⟩,
  ⟨some 13, .idx (.t 9) (.t 10) 1 4 false, none, []⟩,
  ⟨some 7, .mv (.t 12), none, []⟩,
  ⟨some 8, .mv (.t 13), none, []⟩] [2, 3, 7, 8, 9, 10]) k s Q := rfl
def c87_5 : ACode := .ops [⟨some 14, .mv (.t 7), none, []⟩,
  ⟨some 15, .iad (.t 3) (.t 14) 2 5, none, [3]⟩,
  ⟨some 16, .load 2 true (.t 15), none, [3]⟩,
  ⟨some 17, .mv (.t 8), none, []⟩,
  ⟨some 18, .call 117 [.t 16, .t 17], none, []⟩,
  ⟨some 19, .un .not (.t 18), none, []⟩] [2, 3, 9, 10, 19]
theorem r87_5 {C : Cs} {k : List Fr} {s : St} {Q : Post} : run C c87_5 k s Q = run C (.ops [⟨some 14, .mv (.t 7), none, []⟩,
  ⟨some 15, .iad (.t 3) (.t 14) 2 5, none, [3]⟩,
  ⟨some 16, .load 2 true (.t 15), none, [3]⟩,
  ⟨some 17, .mv (.t 8), none, []⟩,
  ⟨some 18, .call 117 [.t 16, .t 17], none, []⟩,
  ⟨some 19, .un .not (.t 18), none, []⟩] [2, 3, 9, 10, 19]) k s Q := rfl
def c87_6 : ACode := .ops [⟨some 6, .mv (.c (.bool false)), none, []⟩] [6]
theorem r87_6 {C : Cs} {k : List Fr} {s : St} {Q : Post} : run C c87_6 k s Q = run C (.ops [⟨some 6, .mv (.c (.bool false)), none, []⟩] [6]) k s Q := rfl
def c87_7 : ACode := .seq c87_6 .ret
theorem r87_7 {C : Cs} {k : List Fr} {s : St} {Q : Post} : run C c87_7 k s Q = run C (.seq c87_6 .ret) k s Q := rfl
def c87_8 : ACode := .cond (.t 19) c87_7 .skip
theorem r87_8 {C : Cs} {k : List Fr} {s : St} {Q : Post} : run C c87_8 k s Q = run C (.cond (.t 19) c87_7 .skip) k s Q := rfl
def c87_9 : ACode := .seq c87_5 c87_8
theorem r87_9 {C : Cs} {k : List Fr} {s : St} {Q : Post} : run C c87_9 k s Q = run C (.seq c87_5 c87_8) k s Q := rfl
def c87_10 : ACode := .seq c87_4 c87_9
theorem r87_10 {C : Cs} {k : List Fr} {s : St} {Q : Post} : run C c87_10 k s Q = run C (.seq c87_4 c87_9) k s Q := rfl
def c87_11 : ACode := .block 1 c87_10
theorem r87_11 {C : Cs} {k : List Fr} {s : St} {Q : Post} : run C c87_11 k s Q = run C (.block 1 c87_10) k s Q := rfl
def c87_12 : ACode := .ops [⟨some 20, .bin .add (.t 10) (.c (.int .i64 1)), none, []⟩,
  ⟨some 10, .mv (.t 20), none, []⟩] [2, 3, 9, 10]
theorem r87_12 {C : Cs} {k : List Fr} {s : St} {Q : Post} : run C c87_12 k s Q = run C (.ops [⟨some 20, .bin .add (.t 10) (.c (.int .i64 1)), none, []⟩,
  ⟨some 10, .mv (.t 20), none, []⟩] [2, 3, 9, 10]) k s Q := rfl
def c87_13 : ACode := .seq c87_11 c87_12
theorem r87_13 {C : Cs} {k : List Fr} {s : St} {Q : Post} : run C c87_13 k s Q = run C (.seq c87_11 c87_12) k s Q := rfl
def c87_14 : ACode := .seq c87_3 c87_13
theorem r87_14 {C : Cs} {k : List Fr} {s : St} {Q : Post} : run C c87_14 k s Q = run C (.seq c87_3 c87_13) k s Q := rfl
def c87_15 : ACode := .seq c87_2 c87_14
theorem r87_15 {C : Cs} {k : List Fr} {s : St} {Q : Post} : run C c87_15 k s Q = run C (.seq c87_2 c87_14) k s Q := rfl
def c87_16 : ACode := .keep [2, 3, 9, 10] [3] c87_15
theorem r87_16 {C : Cs} {k : List Fr} {s : St} {Q : Post} : run C c87_16 k s Q = run C (.keep [2, 3, 9, 10] [3] c87_15) k s Q := rfl
def c87_17 : ACode := .loop c87_16
theorem r87_17 {C : Cs} {k : List Fr} {s : St} {Q : Post} : run C c87_17 k s Q = run C (.loop c87_16) k s Q := rfl
def c87_18 : ACode := .block 0 c87_17
theorem r87_18 {C : Cs} {k : List Fr} {s : St} {Q : Post} : run C c87_18 k s Q = run C (.block 0 c87_17) k s Q := rfl
def c87_19 : ACode := .seq c87_1 c87_18
theorem r87_19 {C : Cs} {k : List Fr} {s : St} {Q : Post} : run C c87_19 k s Q = run C (.seq c87_1 c87_18) k s Q := rfl
def c87_20 : ACode := .ops [⟨some 21, .iad (.t 3) (.c (.int .i64 4)) 2 5, none, [3]⟩,
  ⟨some 22, .load 2 true (.t 21), none, [3]⟩,
  ⟨some 23, .mv (.t 2), none, []⟩,
  ⟨some 24, .call 117 [.t 22, .t 23], none, []⟩,
  ⟨some 6, .mv (.t 24), none, []⟩] [6]
theorem r87_20 {C : Cs} {k : List Fr} {s : St} {Q : Post} : run C c87_20 k s Q = run C (.ops [⟨some 21, .iad (.t 3) (.c (.int .i64 4)) 2 5, none, [3]⟩,
  ⟨some 22, .load 2 true (.t 21), none, [3]⟩,
  ⟨some 23, .mv (.t 2), none, []⟩,
  ⟨some 24, .call 117 [.t 22, .t 23], none, []⟩,
  ⟨some 6, .mv (.t 24), none, []⟩] [6]) k s Q := rfl
def c87_21 : ACode := .seq c87_20 .ret
theorem r87_21 {C : Cs} {k : List Fr} {s : St} {Q : Post} : run C c87_21 k s Q = run C (.seq c87_20 .ret) k s Q := rfl
def c87_22 : ACode := .seq c87_19 c87_21
theorem r87_22 {C : Cs} {k : List Fr} {s : St} {Q : Post} : run C c87_22 k s Q = run C (.seq c87_19 c87_21) k s Q := rfl
def c87_23 : ACode := .seq c87_0 c87_22
theorem r87_23 {C : Cs} {k : List Fr} {s : St} {Q : Post} : run C c87_23 k s Q = run C (.seq c87_0 c87_22) k s Q := rfl
def a87 : AFun := ⟨3, 25, c87_23, [.t 6]⟩
attribute [simp] r87_0 r87_1 r87_2 r87_3 r87_4 r87_5 r87_6 r87_7 r87_8 r87_9 r87_10 r87_11 r87_12 r87_13 r87_14 r87_15 r87_16 r87_17 r87_18 r87_19 r87_20 r87_21 r87_22 r87_23
theorem m87 : mFun Try.prog Try.f87 a87 = true := by decide +kernel
/- copse/copselaw17.CouplePairs -/
def c24_0 : ACode := .ops [⟨some 6, .box (.t 0) 4, none, []⟩,
  ⟨some 7, .box (.t 1) 8, none, []⟩,
  ⟨some 12, .mv (.c (.bool false)), none, []⟩] [2, 3, 4, 5, 6, 7]
theorem r24_0 {C : Cs} {k : List Fr} {s : St} {Q : Post} : run C c24_0 k s Q = run C (.ops [⟨some 6, .box (.t 0) 4, none, []⟩,
  ⟨some 7, .box (.t 1) 8, none, []⟩,
  ⟨some 12, .mv (.c (.bool false)), none, []⟩] [2, 3, 4, 5, 6, 7]) k s Q := rfl
def c24_1 : ACode := .ops [⟨some 30, .load 4 true (.t 6), none, [6]⟩,
  ⟨some 31, .call 45 [.t 30], none, []⟩,
  ⟨some 13, .alloc [.int .i64 0, .int .i64 0, .int .i64 0, .int .i64 0, .int .i64 0, .nils], none, []⟩,
  ⟨none, .store (.t 13) 6 (.t 31), none, [13]⟩] [2, 3, 4, 5, 7, 13]
theorem r24_1 {C : Cs} {k : List Fr} {s : St} {Q : Post} : run C c24_1 k s Q = run C (.ops [⟨some 30, .load 4 true (.t 6), none, [6]⟩,
  ⟨some 31, .call 45 [.t 30], none, []⟩,
  ⟨some 13, .alloc [.int .i64 0, .int .i64 0, .int .i64 0, .int .i64 0, .int .i64 0, .nils], none, []⟩,
  ⟨none, .store (.t 13) 6 (.t 31), none, [13]⟩] [2, 3, 4, 5, 7, 13]) k s Q := rfl
def c24_2 : ACode := .ops [⟨some 32, .load 8 true (.t 7), none, [7]⟩,
  ⟨some 33, .load 6 true (.t 13), none, [13]⟩,
  ⟨some 34, .call 59 [.t 32, .t 33], none, []⟩,
  ⟨some 14, .alloc [.int .i64 0, .int .i64 0, .int .i64 0, .int .i64 0, .int .i64 0, .int .i64 0, .int .i64 0, .int .i64 0, .int .i64 0, .int .i64 0, .int .i64 0, .int .i64 0, .int .i64 0, .int .i64 0, .int .i64 0, .bool false, .int .i64 0], none, []⟩,
  ⟨none, .store (.t 14) 17 (.t 34), none, [14]⟩] [2, 3, 4, 5, 13, 14]
theorem r24_2 {C : Cs} {k : List Fr} {s : St} {Q : Post} : run C c24_2 k s Q = run C (.ops [⟨some 32, .load 8 true (.t 7), none, [7]⟩,
  ⟨some 33, .load 6 true (.t 13), none, [13]⟩,
  ⟨some 34, .call 59 [.t 32, .t 33], none, []⟩,
  ⟨some 14, .alloc [.int .i64 0, .int .i64 0, .int .i64 0, .int .i64 0, .int .i64 0, .int .i64 0, .int .i64 0, .int .i64 0, .int .i64 0, .int .i64 0, .int .i64 0, .int .i64 0, .int .i64 0, .int .i64 0, .int .i64 0, .bool false, .int .i64 0], none, []⟩,
  ⟨none, .store (.t 14) 17 (.t 34), none, [14]⟩] [2, 3, 4, 5, 13, 14]) k s Q := rfl
def c24_3 : ACode := .ops [⟨some 35, .load 17 true (.t 14), none, [14]⟩,
  ⟨some 36, .call 58 [.t 35], none, []⟩,
  ⟨some 15, .alloc [.int .i64 0, .int .i64 0, .int .i64 0, .int .i64 0, .int .i64 0, .int .i64 0, .int .i64 0, .int .i64 0, .int .i64 0, .int .i64 0], none, []⟩,
  ⟨none, .store (.t 15) 10 (.t 36), none, [15]⟩] [2, 3, 4, 5, 13, 14, 15]
theorem r24_3 {C : Cs} {k : List Fr} {s : St} {Q : Post} : run C c24_3 k s Q = run C (.ops [⟨some 35, .load 17 true (.t 14), none, [14]⟩,
  ⟨some 36, .call 58 [.t 35], none, []⟩,
  ⟨some 15, .alloc [.int .i64 0, .int .i64 0, .int .i64 0, .int .i64 0, .int .i64 0, .int .i64 0, .int .i64 0, .int .i64 0, .int .i64 0, .int .i64 0], none, []⟩,
  ⟨none, .store (.t 15) 10 (.t 36), none, [15]⟩] [2, 3, 4, 5, 13, 14, 15]) k s Q := rfl
def c24_4 : ACode := .ops [⟨some 37, .fad (.t 14) 0, none, [14]⟩,
  ⟨some 38, .load 1 false (.t 37), none, [14]⟩,
  ⟨some 39, .bin .neq (.t 38) (.c (.int .i64 3)), none, []⟩] [2, 3, 4, 5, 13, 14, 15, 39]
theorem r24_4 {C : Cs} {k : List Fr} {s : St} {Q : Post} : run C c24_4 k s Q = run C (.ops [⟨some 37, .fad (.t 14) 0, none, [14]⟩,
  ⟨some 38, .load 1 false (.t 37), none, [14]⟩,
  ⟨some 39, .bin .neq (.t 38) (.c (.int .i64 3)), none, []⟩] [2, 3, 4, 5, 13, 14, 15, 39]) k s Q := rfl
def c24_5 : ACode := .ops [⟨some 41, .load 6 true (.t 13), none, [13]⟩,
  ⟨some 42, .load 17 true (.t 14), none, [14]⟩,
  ⟨some 43, .load 10 true (.t 15), none, [15]⟩,
  ⟨some 44, .call 52 [.t 41, .t 42, .t 43], none, []⟩,
  ⟨some 40, .mv (.t 44), none, []⟩,
  ⟨some 45, .ext (.t 40) 0, none, []⟩,
  ⟨some 46, .ext (.t 40) 1, none, []⟩,
  ⟨some 47, .ext (.t 40) 2, none, []⟩,
  ⟨some 16, .mv (.t 45), none, []⟩,
  ⟨some 17, .mv (.t 46), none, []⟩,
  ⟨some 18, .mv (.t 47), none, []⟩] [14, 15, 18]
theorem r24_5 {C : Cs} {k : List Fr} {s : St} {Q : Post} : run C c24_5 k s Q = run C (.ops [⟨some 41, .load 6 true (.t 13), none, [13]⟩,
  ⟨some 42, .load 17 true (.t 14), none, [14]⟩,
  ⟨some 43, .load 10 true (.t 15), none, [15]⟩,
  ⟨some 44, .call 52 [.t 41, .t 42, .t 43], none, []⟩,
  ⟨some 40, .mv (.t 44), none, []⟩,
  ⟨some 45, .ext (.t 40) 0, none, []⟩,
  ⟨some 46, .ext (.t 40) 1, none, []⟩,
  ⟨some 47, .ext (.t 40) 2, none, []⟩,
  ⟨some 16, .mv (.t 45), none, []⟩,
  ⟨some 17, .mv (.t 46), none, []⟩,
  ⟨some 18, .mv (.t 47), none, []⟩] [14, 15, 18]) k s Q := rfl
def c24_6 : ACode := .ops [⟨some 48, .load 17 true (.t 14), none, [14]⟩,
  ⟨some 49, .load 10 true (.t 15), none, [15]⟩,
  ⟨some 50, .call 55 [.t 48, .t 49], none, []⟩,
  ⟨some 51, .load 10 true (.t 15), none, [15]⟩,
  ⟨some 52, .eqa false [false, false, false, false, false, false, false, false, false, false] (.t 50) (.t 51), none, []⟩,
  ⟨some 53, .mv (.t 52), none, []⟩,
  ⟨some 54, .load 17 true (.t 14), some (53, true), [14]⟩,
  ⟨some 55, .load 10 true (.t 15), some (53, true), [15]⟩,
  ⟨some 56, .call 54 [.t 54, .t 55], some (53, true), []⟩,
  ⟨some 57, .load 10 true (.t 15), some (53, true), [15]⟩,
  ⟨some 58, .eqa false [false, false, false, false, false, false, false, false, false, false] (.t 56) (.t 57), some (53, true), []⟩,
  ⟨some 59, .pick (.t 53) (.t 58) (.c (.bool false)), none, []⟩,
  ⟨some 60, .mv (.t 59), none, []⟩,
  ⟨some 61, .load 17 true (.t 14), some (60, true), [14]⟩,
  ⟨some 62, .load 10 true (.t 15), some (60, true), [15]⟩,
  ⟨some 63, .call 53 [.t 61, .t 62], some (60, true), []⟩,
  ⟨some 64, .un .not (.t 63), some (60, true), []⟩,
  ⟨some 65, .pick (.t 60) (.t 64) (.c (.bool false)), none, []⟩,
  ⟨some 66, .mv (.t 65), none, []⟩,
  ⟨some 67, .mv (.t 18), some (66, true), []⟩,
  ⟨some 68, .un .not (.t 67), some (66, true), []⟩,
  ⟨some 69, .pick (.t 66) (.t 68) (.c (.bool false)), none, []⟩,
  ⟨some 70, .mv (.t 69), none, []⟩,
  ⟨some 71, .call 6 [], some (70, true), []⟩,
  ⟨some 72, .pick (.t 70) (.t 71) (.c (.bool false)), none, []⟩,
  ⟨some 12, .mv (.t 72), none, []⟩] [12]
theorem r24_6 {C : Cs} {k : List Fr} {s : St} {Q : Post} : run C c24_6 k s Q = run C (.ops [⟨some 48, .load 17 true (.t 14), none, [14]⟩,
  ⟨some 49, .load 10 true (.t 15), none, [15]⟩,
  ⟨some 50, .call 55 [.t 48, .t 49], none, []⟩,
  ⟨some 51, .load 10 true (.t 15), none, [15]⟩,
  ⟨some 52, .eqa false [false, false, false, false, false, false, false, false, false, false] (.t 50) (.t 51), none, []⟩,
  ⟨some 53, .mv (.t 52), none, []⟩,
  ⟨some 54, .load 17 true (.t 14), some (53, true), [14]⟩,
  ⟨some 55, .load 10 true (.t 15), some (53, true), [15]⟩,
  ⟨some 56, .call 54 [.t 54, .t 55], some (53, true), []⟩,
  ⟨some 57, .load 10 true (.t 15), some (53, true), [15]⟩,
  ⟨some 58, .eqa false [false, false, false, false, false, false, false, false, false, false] (.t 56) (.t 57), some (53, true), []⟩,
  ⟨some 59, .pick (.t 53) (.t 58) (.c (.bool false)), none, []⟩,
  ⟨some 60, .mv (.t 59), none, []⟩,
  ⟨some 61, .load 17 true (.t 14), some (60, true), [14]⟩,
  ⟨some 62, .load 10 true (.t 15), some (60, true), [15]⟩,
  ⟨some 63, .call 53 [.t 61, .t 62], some (60, true), []⟩,
  ⟨some 64, .un .not (.t 63), some (60, true), []⟩,
  ⟨some 65, .pick (.t 60) (.t 64) (.c (.bool false)), none, []⟩,
  ⟨some 66, .mv (.t 65), none, []⟩,
  ⟨some 67, .mv (.t 18), some (66, true), []⟩,
  ⟨some 68, .un .not (.t 67), some (66, true), []⟩,
  ⟨some 69, .pick (.t 66) (.t 68) (.c (.bool false)), none, []⟩,
  ⟨some 70, .mv (.t 69), none, []⟩,
  ⟨some 71, .call 6 [], some (70, true), []⟩,
  ⟨some 72, .pick (.t 70) (.t 71) (.c (.bool false)), none, []⟩,
  ⟨some 12, .mv (.t 72), none, []⟩] [12]) k s Q := rfl
def c24_7 : ACode := .seq c24_6 .ret
theorem r24_7 {C : Cs} {k : List Fr} {s : St} {Q : Post} : run C c24_7 k s Q = run C (.seq c24_6 .ret) k s Q := rfl
def c24_8 : ACode := .seq c24_5 c24_7
theorem r24_8 {C : Cs} {k : List Fr} {s : St} {Q : Post} : run C c24_8 k s Q = run C (.seq c24_5 c24_7) k s Q := rfl
def c24_9 : ACode := .cond (.t 39) c24_8 .skip
theorem r24_9 {C : Cs} {k : List Fr} {s : St} {Q : Post} : run C c24_9 k s Q = run C (.cond (.t 39) c24_8 .skip) k s Q := rfl
def c24_10 : ACode := .seq c24_4 c24_9
theorem r24_10 {C : Cs} {k : List Fr} {s : St} {Q : Post} : run C c24_10 k s Q = run C (.seq c24_4 c24_9) k s Q := rfl
def c24_11 : ACode := .ops [⟨some 73, .iad (.t 15) (.c (.int .i64 4)) 2 5, none, [15]⟩,
  ⟨some 74, .load 2 true (.t 73), none, [15]⟩,
  ⟨some 19, .alloc [.int .i64 0, .int .i64 0], none, []⟩,
  ⟨none, .store (.t 19) 2 (.t 74), none, [19]⟩] [2, 3, 4, 5, 13, 14, 15, 19]
theorem r24_11 {C : Cs} {k : List Fr} {s : St} {Q : Post} : run C c24_11 k s Q = run C (.ops [⟨some 73, .iad (.t 15) (.c (.int .i64 4)) 2 5, none, [15]⟩,
  ⟨some 74, .load 2 true (.t 73), none, [15]⟩,
  ⟨some 19, .alloc [.int .i64 0, .int .i64 0], none, []⟩,
  ⟨none, .store (.t 19) 2 (.t 74), none, [19]⟩] [2, 3, 4, 5, 13, 14, 15, 19]) k s Q := rfl
def c24_12 : ACode := .ops [⟨some 75, .mv (.t 4), none, []⟩,
  ⟨some 76, .fad (.t 19) 0, none, [19]⟩,
  ⟨some 77, .load 1 false (.t 76), none, [19]⟩,
  ⟨some 78, .fad (.t 19) 1, none, [19]⟩,
  ⟨some 79, .load 1 false (.t 78), none, [19]⟩,
  ⟨some 80, .call 63 [.t 75, .t 77, .t 79], none, []⟩,
  ⟨some 81, .iad (.t 15) (.c (.int .i64 4)) 2 5, none, [15]⟩,
  ⟨some 82, .fad (.t 81) 0, none, [15]⟩,
  ⟨none, .store (.t 82) 1 (.t 80), none, [15]⟩] [2, 3, 5, 13, 14, 15, 19]
theorem r24_12 {C : Cs} {k : List Fr} {s : St} {Q : Post} : run C c24_12 k s Q = run C (.ops [⟨some 75, .mv (.t 4), none, []⟩,
  ⟨some 76, .fad (.t 19) 0, none, [19]⟩,
  ⟨some 77, .load 1 false (.t 76), none, [19]⟩,
  ⟨some 78, .fad (.t 19) 1, none, [19]⟩,
  ⟨some 79, .load 1 false (.t 78), none, [19]⟩,
  ⟨some 80, .call 63 [.t 75, .t 77, .t 79], none, []⟩,
  ⟨some 81, .iad (.t 15) (.c (.int .i64 4)) 2 5, none, [15]⟩,
  ⟨some 82, .fad (.t 81) 0, none, [15]⟩,
  ⟨none, .store (.t 82) 1 (.t 80), none, [15]⟩] [2, 3, 5, 13, 14, 15, 19]) k s Q := rfl
def c24_13 : ACode := .ops [⟨some 83, .mv (.t 5), none, []⟩,
  ⟨some 84, .iad (.t 15) (.c (.int .i64 4)) 2 5, none, [15]⟩,
  ⟨some 85, .fad (.t 84) 0, none, [15]⟩,
  ⟨some 86, .load 1 false (.t 85), none, [15]⟩,
  ⟨some 87, .fad (.t 19) 1, none, [19]⟩,
  ⟨some 88, .load 1 false (.t 87), none, [19]⟩,
  ⟨some 89, .call 63 [.t 83, .t 86, .t 88], none, []⟩,
  ⟨some 90, .iad (.t 15) (.c (.int .i64 4)) 2 5, none, [15]⟩,
  ⟨some 91, .fad (.t 90) 1, none, [15]⟩,
  ⟨none, .store (.t 91) 1 (.t 89), none, [15]⟩] [2, 3, 13, 14, 15]
theorem r24_13 {C : Cs} {k : List Fr} {s : St} {Q : Post} : run C c24_13 k s Q = run C (.ops [⟨some 83, .mv (.t 5), none, []⟩,
  ⟨some 84, .iad (.t 15) (.c (.int .i64 4)) 2 5, none, [15]⟩,
  ⟨some 85, .fad (.t 84) 0, none, [15]⟩,
  ⟨some 86, .load 1 false (.t 85), none, [15]⟩,
  ⟨some 87, .fad (.t 19) 1, none, [19]⟩,
  ⟨some 88, .load 1 false (.t 87), none, [19]⟩,
  ⟨some 89, .call 63 [.t 83, .t 86, .t 88], none, []⟩,
  ⟨some 90, .iad (.t 15) (.c (.int .i64 4)) 2 5, none, [15]⟩,
  ⟨some 91, .fad (.t 90) 1, none, [15]⟩,
  ⟨none, .store (.t 91) 1 (.t 89), none, [15]⟩] [2, 3, 13, 14, 15]) k s Q := rfl
def c24_14 : ACode := .ops [⟨some 92, .load 10 true (.t 15), none, [15]⟩,
  ⟨some 93, .mv (.t 2), none, []⟩,
  ⟨some 94, .call 66 [.t 92, .t 93], none, []⟩,
  ⟨some 20, .alloc [.int .i64 0, .int .i64 0, .int .i64 0, .int .i64 0], none, []⟩,
  ⟨none, .store (.t 20) 4 (.t 94), none, [20]⟩] [3, 13, 14, 15, 20]
theorem r24_14 {C : Cs} {k : List Fr} {s : St} {Q : Post} : run C c24_14 k s Q = run C (.ops [⟨some 92, .load 10 true (.t 15), none, [15]⟩,
  ⟨some 93, .mv (.t 2), none, []⟩,
  ⟨some 94, .call 66 [.t 92, .t 93], none, []⟩,
  ⟨some 20, .alloc [.int .i64 0, .int .i64 0, .int .i64 0, .int .i64 0], none, []⟩,
  ⟨none, .store (.t 20) 4 (.t 94), none, [20]⟩] [3, 13, 14, 15, 20]) k s Q := rfl
def c24_15 : ACode := .ops [⟨some 95, .mv (.t 3), none, []⟩,
  ⟨some 96, .iad (.t 15) (.c (.int .i64 4)) 2 5, none, [15]⟩,
  ⟨some 97, .fad (.t 96) 0, none, [15]⟩,
  ⟨some 98, .load 1 false (.t 97), none, [15]⟩,
  ⟨some 99, .iad (.t 15) (.c (.int .i64 4)) 2 5, none, [15]⟩,
  ⟨some 100, .fad (.t 99) 1, none, [15]⟩,
  ⟨some 101, .load 1 false (.t 100), none, [15]⟩,
  ⟨some 102, .call 63 [.t 95, .t 98, .t 101], none, []⟩,
  ⟨some 21, .mv (.t 102), none, []⟩] [13, 14, 15, 20, 21]
theorem r24_15 {C : Cs} {k : List Fr} {s : St} {Q : Post} : run C c24_15 k s Q = run C (.ops [⟨some 95, .mv (.t 3), none, []⟩,
  ⟨some 96, .iad (.t 15) (.c (.int .i64 4)) 2 5, none, [15]⟩,
  ⟨some 97, .fad (.t 96) 0, none, [15]⟩,
  ⟨some 98, .load 1 false (.t 97), none, [15]⟩,
  ⟨some 99, .iad (.t 15) (.c (.int .i64 4)) 2 5, none, [15]⟩,
  ⟨some 100, .fad (.t 99) 1, none, [15]⟩,
  ⟨some 101, .load 1 false (.t 100), none, [15]⟩,
  ⟨some 102, .call 63 [.t 95, .t 98, .t 101], none, []⟩,
  ⟨some 21, .mv (.t 102), none, []⟩] [13, 14, 15, 20, 21]) k s Q := rfl
def c24_16 : ACode := .ops [⟨some 103, .load 17 true (.t 14), none, [14]⟩,
  ⟨some 104, .load 4 true (.t 20), none, [20]⟩,
  ⟨some 105, .mv (.t 21), none, []⟩,
  ⟨some 106, .call 64 [.t 103, .t 104, .t 105], none, []⟩,
  ⟨some 22, .alloc [.int .i64 0, .int .i64 0, .int .i64 0, .int .i64 0], none, []⟩,
  ⟨none, .store (.t 22) 4 (.t 106), none, [22]⟩] [13, 14, 15, 20, 21, 22]
theorem r24_16 {C : Cs} {k : List Fr} {s : St} {Q : Post} : run C c24_16 k s Q = run C (.ops [⟨some 103, .load 17 true (.t 14), none, [14]⟩,
  ⟨some 104, .load 4 true (.t 20), none, [20]⟩,
  ⟨some 105, .mv (.t 21), none, []⟩,
  ⟨some 106, .call 64 [.t 103, .t 104, .t 105], none, []⟩,
  ⟨some 22, .alloc [.int .i64 0, .int .i64 0, .int .i64 0, .int .i64 0], none, []⟩,
  ⟨none, .store (.t 22) 4 (.t 106), none, [22]⟩] [13, 14, 15, 20, 21, 22]) k s Q := rfl
def c24_17 : ACode := .ops [⟨some 108, .load 6 true (.t 13), none, [13]⟩,
  ⟨some 109, .load 17 true (.t 14), none, [14]⟩,
  ⟨some 110, .load 10 true (.t 15), none, [15]⟩,
  ⟨some 111, .call 52 [.t 108, .t 109, .t 110], none, []⟩,
  ⟨some 107, .mv (.t 111), none, []⟩,
  ⟨some 112, .ext (.t 107) 0, none, []⟩,
  ⟨some 113, .ext (.t 107) 1, none, []⟩,
  ⟨some 114, .ext (.t 107) 2, none, []⟩,
  ⟨some 23, .mv (.t 112), none, []⟩,
  ⟨some 24, .mv (.t 113), none, []⟩,
  ⟨some 25, .mv (.t 114), none, []⟩] [13, 14, 15, 20, 21, 22, 23, 24, 25]
theorem r24_17 {C : Cs} {k : List Fr} {s : St} {Q : Post} : run C c24_17 k s Q = run C (.ops [⟨some 108, .load 6 true (.t 13), none, [13]⟩,
  ⟨some 109, .load 17 true (.t 14), none, [14]⟩,
  ⟨some 110, .load 10 true (.t 15), none, [15]⟩,
  ⟨some 111, .call 52 [.t 108, .t 109, .t 110], none, []⟩,
  ⟨some 107, .mv (.t 111), none, []⟩,
  ⟨some 112, .ext (.t 107) 0, none, []⟩,
  ⟨some 113, .ext (.t 107) 1, none, []⟩,
  ⟨some 114, .ext (.t 107) 2, none, []⟩,
  ⟨some 23, .mv (.t 112), none, []⟩,
  ⟨some 24, .mv (.t 113), none, []⟩,
  ⟨some 25, .mv (.t 114), none, []⟩] [13, 14, 15, 20, 21, 22, 23, 24, 25]) k s Q := rfl
def c24_18 : ACode := .ops [⟨some 115, .load 6 true (.t 13), none, [13]⟩,
  ⟨some 116, .fad (.t 14) 1, none, [14]⟩,
  ⟨some 117, .load 1 false (.t 116), none, [14]⟩,
  ⟨some 118, .load 4 true (.t 22), none, [22]⟩,
  ⟨some 119, .call 69 [.t 115, .t 117, .t 118], none, []⟩,
  ⟨some 120, .load 6 true (.t 13), none, [13]⟩,
  ⟨some 121, .fad (.t 14) 1, none, [14]⟩,
  ⟨some 122, .load 1 false (.t 121), none, [14]⟩,
  ⟨some 123, .load 4 true (.t 20), none, [20]⟩,
  ⟨some 124, .call 69 [.t 120, .t 122, .t 123], none, []⟩,
  ⟨some 125, .bin .sub (.t 119) (.t 124), none, []⟩,
  ⟨some 26, .mv (.t 125), none, []⟩] [13, 14, 15, 20, 21, 22, 23, 24, 25, 26]
theorem r24_18 {C : Cs} {k : List Fr} {s : St} {Q : Post} : run C c24_18 k s Q = run C (.ops [⟨some 115, .load 6 true (.t 13), none, [13]⟩,
  ⟨some 116, .fad (.t 14) 1, none, [14]⟩,
  ⟨some 117, .load 1 false (.t 116), none, [14]⟩,
  ⟨some 118, .load 4 true (.t 22), none, [22]⟩,
  ⟨some 119, .call 69 [.t 115, .t 117, .t 118], none, []⟩,
  ⟨some 120, .load 6 true (.t 13), none, [13]⟩,
  ⟨some 121, .fad (.t 14) 1, none, [14]⟩,
  ⟨some 122, .load 1 false (.t 121), none, [14]⟩,
  ⟨some 123, .load 4 true (.t 20), none, [20]⟩,
  ⟨some 124, .call 69 [.t 120, .t 122, .t 123], none, []⟩,
  ⟨some 125, .bin .sub (.t 119) (.t 124), none, []⟩,
  ⟨some 26, .mv (.t 125), none, []⟩] [13, 14, 15, 20, 21, 22, 23, 24, 25, 26]) k s Q := rfl
def c24_19 : ACode := .ops [⟨some 126, .mv (.t 25), none, []⟩,
  ⟨some 127, .un .not (.t 126), none, []⟩,
  ⟨some 128, .mv (.t 127), none, []⟩,
  ⟨some 129, .mv (.t 26), some (128, false), []⟩,
  ⟨some 130, .mv (.t 23), some (128, false), []⟩,
  ⟨some 131, .bin .lss (.t 129) (.t 130), some (128, false), []⟩,
  ⟨some 132, .pick (.t 128) (.c (.bool true)) (.t 131), none, []⟩,
  ⟨some 133, .mv (.t 132), none, []⟩,
  ⟨some 134, .mv (.t 26), some (133, false), []⟩,
  ⟨some 135, .mv (.t 24), some (133, false), []⟩,
  ⟨some 136, .bin .gtr (.t 134) (.t 135), some (133, false), []⟩,
  ⟨some 137, .pick (.t 133) (.c (.bool true)) (.t 136), none, []⟩,
  ⟨some 138, .mv (.t 137), none, []⟩,
  ⟨some 139, .load 17 true (.t 14), some (138, false), [14]⟩,
  ⟨some 140, .load 10 true (.t 15), some (138, false), [15]⟩,
  ⟨some 141, .call 55 [.t 139, .t 140], some (138, false), []⟩,
  ⟨some 142, .load 4 true (.t 20), some (138, false), [20]⟩,
  ⟨some 143, .call 87 [.t 141, .t 142, .c (.int .i64 0)], some (138, false), []⟩,
  ⟨some 144, .un .not (.t 143), some (138, false), []⟩,
  ⟨some 145, .pick (.t 138) (.c (.bool true)) (.t 144), none, []⟩,
  ⟨some 146, .mv (.t 145), none, []⟩,
  ⟨some 147, .load 17 true (.t 14), some (146, false), [14]⟩,
  ⟨some 148, .load 10 true (.t 15), some (146, false), [15]⟩,
  ⟨some 149, .call 54 [.t 147, .t 148], some (146, false), []⟩,
  ⟨some 150, .load 4 true (.t 22), some (146, false), [22]⟩,
  ⟨some 151, .call 87 [.t 149, .t 150, .c (.int .i64 0)], some (146, false), []⟩,
  ⟨some 152, .un .not (.t 151), some (146, false), []⟩,
  ⟨some 153, .pick (.t 146) (.c (.bool true)) (.t 152), none, []⟩] [13, 14, 15, 20, 21, 153]
theorem r24_19 {C : Cs} {k : List Fr} {s : St} {Q : Post} : run C c24_19 k s Q = run C (.ops [⟨some 126, .mv (.t 25), none, []⟩,
  ⟨some 127, .un .not (.t 126), none, []⟩,
  ⟨some 128, .mv (.t 127), none, []⟩,
  ⟨some 129, .mv (.t 26), some (128, false), []⟩,
  ⟨some 130, .mv (.t 23), some (128, false), []⟩,
  ⟨some 131, .bin .lss (.t 129) (.t 130), some (128, false), []⟩,
  ⟨some 132, .pick (.t 128) (.c (.bool true)) (.t 131), none, []⟩,
  ⟨some 133, .mv (.t 132), none, []⟩,
  ⟨some 134, .mv (.t 26), some (133, false), []⟩,
  ⟨some 135, .mv (.t 24), some (133, false), []⟩,
  ⟨some 136, .bin .gtr (.t 134) (.t 135), some (133, false), []⟩,
  ⟨some 137, .pick (.t 133) (.c (.bool true)) (.t 136), none, []⟩,
  ⟨some 138, .mv (.t 137), none, []⟩,
  ⟨some 139, .load 17 true (.t 14), some (138, false), [14]⟩,
  ⟨some 140, .load 10 true (.t 15), some (138, false), [15]⟩,
  ⟨some 141, .call 55 [.t 139, .t 140], some (138, false), []⟩,
  ⟨some 142, .load 4 true (.t 20), some (138, false), [20]⟩,
  ⟨some 143, .call 87 [.t 141, .t 142, .c (.int .i64 0)], some (138, false), []⟩,
  ⟨some 144, .un .not (.t 143), some (138, false), []⟩,
  ⟨some 145, .pick (.t 138) (.c (.bool true)) (.t 144), none, []⟩,
  ⟨some 146, .mv (.t 145), none, []⟩,
  ⟨some 147, .load 17 true (.t 14), some (146, false), [14]⟩,
  ⟨some 148, .load 10 true (.t 15), some (146, false), [15]⟩,
  ⟨some 149, .call 54 [.t 147, .t 148], some (146, false), []⟩,
  ⟨some 150, .load 4 true (.t 22), some (146, false), [22]⟩,
  ⟨some 151, .call 87 [.t 149, .t 150, .c (.int .i64 0)], some (146, false), []⟩,
  ⟨some 152, .un .not (.t 151), some (146, false), []⟩,
  ⟨some 153, .pick (.t 146) (.c (.bool true)) (.t 152), none, []⟩] [13, 14, 15, 20, 21, 153]) k s Q := rfl
def c24_20 : ACode := .ops [⟨some 12, .mv (.c (.bool false)), none, []⟩] [12]
theorem r24_20 {C : Cs} {k : List Fr} {s : St} {Q : Post} : run C c24_20 k s Q = run C (.ops [⟨some 12, .mv (.c (.bool false)), none, []⟩] [12]) k s Q := rfl
def c24_21 : ACode := .seq c24_20 .ret
theorem r24_21 {C : Cs} {k : List Fr} {s : St} {Q : Post} : run C c24_21 k s Q = run C (.seq c24_20 .ret) k s Q := rfl
def c24_22 : ACode := .cond (.t 153) c24_21 .skip
theorem r24_22 {C : Cs} {k : List Fr} {s : St} {Q : Post} : run C c24_22 k s Q = run C (.cond (.t 153) c24_21 .skip) k s Q := rfl
def c24_23 : ACode := .seq c24_19 c24_22
theorem r24_23 {C : Cs} {k : List Fr} {s : St} {Q : Post} : run C c24_23 k s Q = run C (.seq c24_19 c24_22) k s Q := rfl
def c24_24 : ACode := .ops [⟨some 154, .load 17 true (.t 14), none, [14]⟩,
  ⟨some 155, .load 10 true (.t 15), none, [15]⟩,
  ⟨some 156, .call 53 [.t 154, .t 155], none, []⟩,
  ⟨some 157, .fad (.t 14) 14, none, [14]⟩,
  ⟨some 158, .load 1 false (.t 157), none, [14]⟩,
  ⟨some 159, .iad (.t 15) (.t 158) 2 5, none, [15]⟩,
  ⟨some 160, .fad (.t 159) 0, none, [15]⟩,
  ⟨some 161, .load 1 false (.t 160), none, [15]⟩,
  ⟨some 162, .iad (.t 15) (.c (.int .i64 4)) 2 5, none, [15]⟩,
  ⟨some 163, .fad (.t 162) 1, none, [15]⟩,
  ⟨some 164, .load 1 false (.t 163), none, [15]⟩,
  ⟨some 165, .bin .lss (.t 161) (.t 164), none, []⟩,
  ⟨some 166, .eqb true (.t 156) (.t 165), none, []⟩,
  ⟨some 167, .mv (.t 166), none, []⟩,
  ⟨some 168, .fad (.t 14) 14, some (167, false), [14]⟩,
  ⟨some 169, .load 1 false (.t 168), some (167, false), [14]⟩,
  ⟨some 170, .iad (.t 20) (.t 169) 1 4, some (167, false), [20]⟩,
  ⟨some 171, .load 1 false (.t 170), some (167, false), [20]⟩,
  ⟨some 172, .mv (.t 21), some (167, false), []⟩,
  ⟨some 173, .bin .lss (.t 171) (.t 172), some (167, false), []⟩,
  ⟨some 174, .mv (.t 173), some (167, false), []⟩,
  ⟨some 175, .load 17 true (.t 14), some (174, true), [14]⟩,
  ⟨some 176, .load 10 true (.t 15), some (174, true), [15]⟩,
  ⟨some 177, .call 53 [.t 175, .t 176], some (174, true), []⟩,
  ⟨some 178, .un .not (.t 177), some (174, true), []⟩,
  ⟨some 179, .pick (.t 174) (.t 178) (.c (.bool false)), some (167, false), []⟩,
  ⟨some 180, .pick (.t 167) (.c (.bool true)) (.t 179), none, []⟩] [13, 14, 15, 180]
theorem r24_24 {C : Cs} {k : List Fr} {s : St} {Q : Post} : run C c24_24 k s Q = run C (.ops [⟨some 154, .load 17 true (.t 14), none, [14]⟩,
  ⟨some 155, .load 10 true (.t 15), none, [15]⟩,
  ⟨some 156, .call 53 [.t 154, .t 155], none, []⟩,
  ⟨some 157, .fad (.t 14) 14, none, [14]⟩,
  ⟨some 158, .load 1 false (.t 157), none, [14]⟩,
  ⟨some 159, .iad (.t 15) (.t 158) 2 5, none, [15]⟩,
  ⟨some 160, .fad (.t 159) 0, none, [15]⟩,
  ⟨some 161, .load 1 false (.t 160), none, [15]⟩,
  ⟨some 162, .iad (.t 15) (.c (.int .i64 4)) 2 5, none, [15]⟩,
  ⟨some 163, .fad (.t 162) 1, none, [15]⟩,
  ⟨some 164, .load 1 false (.t 163), none, [15]⟩,
  ⟨some 165, .bin .lss (.t 161) (.t 164), none, []⟩,
  ⟨some 166, .eqb true (.t 156) (.t 165), none, []⟩,
  ⟨some 167, .mv (.t 166), none, []⟩,
  ⟨some 168, .fad (.t 14) 14, some (167, false), [14]⟩,
  ⟨some 169, .load 1 false (.t 168), some (167, false), [14]⟩,
  ⟨some 170, .iad (.t 20) (.t 169) 1 4, some (167, false), [20]⟩,
  ⟨some 171, .load 1 false (.t 170), some (167, false), [20]⟩,
  ⟨some 172, .mv (.t 21), some (167, false), []⟩,
  ⟨some 173, .bin .lss (.t 171) (.t 172), some (167, false), []⟩,
  ⟨some 174, .mv (.t 173), some (167, false), []⟩,
  ⟨some 175, .load 17 true (.t 14), some (174, true), [14]⟩,
  ⟨some 176, .load 10 true (.t 15), some (174, true), [15]⟩,
  ⟨some 177, .call 53 [.t 175, .t 176], some (174, true), []⟩,
  ⟨some 178, .un .not (.t 177), some (174, true), []⟩,
  ⟨some 179, .pick (.t 174) (.t 178) (.c (.bool false)), some (167, false), []⟩,
  ⟨some 180, .pick (.t 167) (.c (.bool true)) (.t 179), none, []⟩] [13, 14, 15, 180]) k s Q := rfl
def c24_25 : ACode := .ops [⟨some 12, .mv (.c (.bool false)), none, []⟩] [12]
theorem r24_25 {C : Cs} {k : List Fr} {s : St} {Q : Post} : run C c24_25 k s Q = run C (.ops [⟨some 12, .mv (.c (.bool false)), none, []⟩] [12]) k s Q := rfl
def c24_26 : ACode := .seq c24_25 .ret
theorem r24_26 {C : Cs} {k : List Fr} {s : St} {Q : Post} : run C c24_26 k s Q = run C (.seq c24_25 .ret) k s Q := rfl
def c24_27 : ACode := .cond (.t 180) c24_26 .skip
theorem r24_27 {C : Cs} {k : List Fr} {s : St} {Q : Post} : run C c24_27 k s Q = run C (.cond (.t 180) c24_26 .skip) k s Q := rfl
def c24_28 : ACode := .seq c24_24 c24_27
theorem r24_28 {C : Cs} {k : List Fr} {s : St} {Q : Post} : run C c24_28 k s Q = run C (.seq c24_24 c24_27) k s Q := rfl
def c24_29 : ACode := .ops [⟨some 181, .fad (.t 14) 14, none, [14]⟩,
  ⟨some 182, .load 1 false (.t 181), none, [14]⟩,
  ⟨some 183, .build [.int .i64 0, .int .i64 0] [(0, 1, .c (.int .i64 1))], none, []⟩,
  ⟨some 184, .iad (.t 15) (.t 182) 2 5, none, [15]⟩,
  ⟨none, .store (.t 184) 2 (.t 183), none, [15]⟩] [13, 14, 15]
theorem r24_29 {C : Cs} {k : List Fr} {s : St} {Q : Post} : run C c24_29 k s Q = run C (.ops [⟨some 181, .fad (.t 14) 14, none, [14]⟩,
  ⟨some 182, .load 1 false (.t 181), none, [14]⟩,
  ⟨some 183, .build [.int .i64 0, .int .i64 0] [(0, 1, .c (.int .i64 1))], none, []⟩,
  ⟨some 184, .iad (.t 15) (.t 182) 2 5, none, [15]⟩,
  ⟨none, .store (.t 184) 2 (.t 183), none, [15]⟩] [13, 14, 15]) k s Q := rfl
def c24_30 : ACode := .ops [⟨some 186, .load 6 true (.t 13), none, [13]⟩,
  ⟨some 187, .load 17 true (.t 14), none, [14]⟩,
  ⟨some 188, .load 10 true (.t 15), none, [15]⟩,
  ⟨some 189, .call 52 [.t 186, .t 187, .t 188], none, []⟩,
  ⟨some 185, .mv (.t 189), none, []⟩,
  ⟨some 190, .ext (.t 185) 0, none, []⟩,
  ⟨some 191, .ext (.t 185) 1, none, []⟩,
  ⟨some 192, .ext (.t 185) 2, none, []⟩,
  ⟨some 27, .mv (.t 190), none, []⟩,
  ⟨some 28, .mv (.t 191), none, []⟩,
  ⟨some 29, .mv (.t 192), none, []⟩] [14, 15, 29]
theorem r24_30 {C : Cs} {k : List Fr} {s : St} {Q : Post} : run C c24_30 k s Q = run C (.ops [⟨some 186, .load 6 true (.t 13), none, [13]⟩,
  ⟨some 187, .load 17 true (.t 14), none, [14]⟩,
  ⟨some 188, .load 10 true (.t 15), none, [15]⟩,
  ⟨some 189, .call 52 [.t 186, .t 187, .t 188], none, []⟩,
  ⟨some 185, .mv (.t 189), none, []⟩,
  ⟨some 190, .ext (.t 185) 0, none, []⟩,
  ⟨some 191, .ext (.t 185) 1, none, []⟩,
  ⟨some 192, .ext (.t 185) 2, none, []⟩,
  ⟨some 27, .mv (.t 190), none, []⟩,
  ⟨some 28, .mv (.t 191), none, []⟩,
  ⟨some 29, .mv (.t 192), none, []⟩] [14, 15, 29]) k s Q := rfl
def c24_31 : ACode := .ops [⟨some 193, .mv (.t 29), none, []⟩,
  ⟨some 194, .un .not (.t 193), none, []⟩,
  ⟨some 195, .mv (.t 194), none, []⟩,
  ⟨some 196, .load 17 true (.t 14), some (195, true), [14]⟩,
  ⟨some 197, .load 10 true (.t 15), some (195, true), [15]⟩,
  ⟨some 198, .call 53 [.t 196, .t 197], some (195, true), []⟩,
  ⟨some 199, .un .not (.t 198), some (195, true), []⟩,
  ⟨some 200, .pick (.t 195) (.t 199) (.c (.bool false)), none, []⟩,
  ⟨some 201, .mv (.t 200), none, []⟩,
  ⟨some 202, .call 6 [], some (201, true), []⟩,
  ⟨some 203, .pick (.t 201) (.t 202) (.c (.bool false)), none, []⟩,
  ⟨some 12, .mv (.t 203), none, []⟩] [12]
theorem r24_31 {C : Cs} {k : List Fr} {s : St} {Q : Post} : run C c24_31 k s Q = run C (.ops [⟨some 193, .mv (.t 29), none, []⟩,
  ⟨some 194, .un .not (.t 193), none, []⟩,
  ⟨some 195, .mv (.t 194), none, []⟩,
  ⟨some 196, .load 17 true (.t 14), some (195, true), [14]⟩,
  ⟨some 197, .load 10 true (.t 15), some (195, true), [15]⟩,
  ⟨some 198, .call 53 [.t 196, .t 197], some (195, true), []⟩,
  ⟨some 199, .un .not (.t 198), some (195, true), []⟩,
  ⟨some 200, .pick (.t 195) (.t 199) (.c (.bool false)), none, []⟩,
  ⟨some 201, .mv (.t 200), none, []⟩,
  ⟨some 202, .call 6 [], some (201, true), []⟩,
  ⟨some 203, .pick (.t 201) (.t 202) (.c (.bool false)), none, []⟩,
  ⟨some 12, .mv (.t 203), none, []⟩] [12]) k s Q := rfl
def c24_32 : ACode := .seq c24_31 .ret
theorem r24_32 {C : Cs} {k : List Fr} {s : St} {Q : Post} : run C c24_32 k s Q = run C (.seq c24_31 .ret) k s Q := rfl
def c24_33 : ACode := .seq c24_30 c24_32
theorem r24_33 {C : Cs} {k : List Fr} {s : St} {Q : Post} : run C c24_33 k s Q = run C (.seq c24_30 c24_32) k s Q := rfl
def c24_34 : ACode := .seq c24_29 c24_33
theorem r24_34 {C : Cs} {k : List Fr} {s : St} {Q : Post} : run C c24_34 k s Q = run C (.seq c24_29 c24_33) k s Q := rfl
def c24_35 : ACode := .seq c24_28 c24_34
theorem r24_35 {C : Cs} {k : List Fr} {s : St} {Q : Post} : run C c24_35 k s Q = run C (.seq c24_28 c24_34) k s Q := rfl
def c24_36 : ACode := .seq c24_23 c24_35
theorem r24_36 {C : Cs} {k : List Fr} {s : St} {Q : Post} : run C c24_36 k s Q = run C (.seq c24_23 c24_35) k s Q := rfl
def c24_37 : ACode := .seq c24_18 c24_36
theorem r24_37 {C : Cs} {k : List Fr} {s : St} {Q : Post} : run C c24_37 k s Q = run C (.seq c24_18 c24_36) k s Q := rfl
def c24_38 : ACode := .seq c24_17 c24_37
theorem r24_38 {C : Cs} {k : List Fr} {s : St} {Q : Post} : run C c24_38 k s Q = run C (.seq c24_17 c24_37) k s Q := rfl
def c24_39 : ACode := .seq c24_16 c24_38
theorem r24_39 {C : Cs} {k : List Fr} {s : St} {Q : Post} : run C c24_39 k s Q = run C (.seq c24_16 c24_38) k s Q := rfl
def c24_40 : ACode := .seq c24_15 c24_39
theorem r24_40 {C : Cs} {k : List Fr} {s : St} {Q : Post} : run C c24_40 k s Q = run C (.seq c24_15 c24_39) k s Q := rfl
def c24_41 : ACode := .seq c24_14 c24_40
theorem r24_41 {C : Cs} {k : List Fr} {s : St} {Q : Post} : run C c24_41 k s Q = run C (.seq c24_14 c24_40) k s Q := rfl
def c24_42 : ACode := .seq c24_13 c24_41
theorem r24_42 {C : Cs} {k : List Fr} {s : St} {Q : Post} : run C c24_42 k s Q = run C (.seq c24_13 c24_41) k s Q := rfl
def c24_43 : ACode := .seq c24_12 c24_42
theorem r24_43 {C : Cs} {k : List Fr} {s : St} {Q : Post} : run C c24_43 k s Q = run C (.seq c24_12 c24_42) k s Q := rfl
def c24_44 : ACode := .seq c24_11 c24_43
theorem r24_44 {C : Cs} {k : List Fr} {s : St} {Q : Post} : run C c24_44 k s Q = run C (.seq c24_11 c24_43) k s Q := rfl
def c24_45 : ACode := .seq c24_10 c24_44
theorem r24_45 {C : Cs} {k : List Fr} {s : St} {Q : Post} : run C c24_45 k s Q = run C (.seq c24_10 c24_44) k s Q := rfl
def c24_46 : ACode := .seq c24_3 c24_45
theorem r24_46 {C : Cs} {k : List Fr} {s : St} {Q : Post} : run C c24_46 k s Q = run C (.seq c24_3 c24_45) k s Q := rfl
def c24_47 : ACode := .seq c24_2 c24_46
theorem r24_47 {C : Cs} {k : List Fr} {s : St} {Q : Post} : run C c24_47 k s Q = run C (.seq c24_2 c24_46) k s Q := rfl
def c24_48 : ACode := .seq c24_1 c24_47
theorem r24_48 {C : Cs} {k : List Fr} {s : St} {Q : Post} : run C c24_48 k s Q = run C (.seq c24_1 c24_47) k s Q := rfl
def c24_49 : ACode := .seq c24_0 c24_48
theorem r24_49 {C : Cs} {k : List Fr} {s : St} {Q : Post} : run C c24_49 k s Q = run C (.seq c24_0 c24_48) k s Q := rfl
def a24 : AFun := ⟨6, 204, c24_49, [.t 12]⟩
attribute [simp] r24_0 r24_1 r24_2 r24_3 r24_4 r24_5 r24_6 r24_7 r24_8 r24_9 r24_10 r24_11 r24_12 r24_13 r24_14 r24_15 r24_16 r24_17 r24_18 r24_19 r24_20 r24_21 r24_22 r24_23 r24_24 r24_25 r24_26 r24_27 r24_28 r24_29 r24_30 r24_31 r24_32 r24_33 r24_34 r24_35 r24_36 r24_37 r24_38 r24_39 r24_40 r24_41 r24_42 r24_43 r24_44 r24_45 r24_46 r24_47 r24_48 r24_49
theorem m24 : mFun Try.prog Try.f24 a24 = true := by decide +kernel

/- copse/copselaw17.CoupleRuns -/
def c6_0 : ACode := .ops [⟨some 0, .mv (.c (.bool false)), none, []⟩] []
def c6_1 : ACode := .ops [⟨some 7, .call 43 [], none, []⟩,
  ⟨some 1, .alloc [.int .i64 0, .int .i64 0, .int .i64 0, .int .i64 0, .int .i64 0, .nils], none, []⟩,
  ⟨none, .store (.t 1) 6 (.t 7), none, [1]⟩] [1]
def c6_2 : ACode := .ops [⟨some 8, .build [.int .i64 0, .int .i64 0] [(0, 1, .c (.int .i64 0)), (1, 1, .c (.int .i64 9))], none, []⟩,
  ⟨some 9, .build [.int .i64 0, .int .i64 0, .int .i64 0, .int .i64 0, .int .i64 0, .int .i64 0, .int .i64 0, .int .i64 0, .int .i64 0, .int .i64 0] [(0, 2, .t 8)], none, []⟩,
  ⟨some 10, .build [.int .i64 0, .int .i64 0, .int .i64 0, .int .i64 0, .int .i64 0, .int .i64 0, .int .i64 0, .int .i64 0, .int .i64 0, .int .i64 0, .int .i64 0, .int .i64 0, .int .i64 0, .int .i64 0, .int .i64 0, .bool false, .int .i64 0] [(0, 1, .c (.int .i64 3)), (2, 10, .t 9)], none, []⟩,
  ⟨some 2, .alloc [.int .i64 0, .int .i64 0, .int .i64 0, .int .i64 0, .int .i64 0, .int .i64 0, .int .i64 0, .int .i64 0, .int .i64 0, .int .i64 0, .int .i64 0, .int .i64 0, .int .i64 0, .int .i64 0, .int .i64 0, .bool false, .int .i64 0], none, []⟩,
  ⟨none, .store (.t 2) 17 (.t 10), none, [2]⟩] [1, 2]
def c6_3 : ACode := .ops [⟨some 11, .build [.int .i64 0, .int .i64 0] [(0, 1, .c (.int .i64 0)), (1, 1, .c (.int .i64 5))], none, []⟩,
  ⟨some 12, .build [.int .i64 0, .int .i64 0] [], none, []⟩,
  ⟨some 13, .build [.int .i64 0, .int .i64 0] [], none, []⟩,
  ⟨some 14, .build [.int .i64 0, .int .i64 0] [], none, []⟩,
  ⟨some 15, .build [.int .i64 0, .int .i64 0] [(0, 1, .c (.int .i64 6)), (1, 1, .c (.int .i64 9))], none, []⟩,
  ⟨some 16, .build [.int .i64 0, .int .i64 0, .int .i64 0, .int .i64 0, .int .i64 0, .int .i64 0, .int .i64 0, .int .i64 0, .int .i64 0, .int .i64 0] [(0, 2, .t 11), (2, 2, .t 12), (4, 2, .t 13), (6, 2, .t 14), (8, 2, .t 15)], none, []⟩,
  ⟨some 3, .alloc [.int .i64 0, .int .i64 0, .int .i64 0, .int .i64 0, .int .i64 0, .int .i64 0, .int .i64 0, .int .i64 0, .int .i64 0, .int .i64 0], none, []⟩,
  ⟨none, .store (.t 3) 10 (.t 16), none, [3]⟩] [1, 2, 3]
def c6_4 : ACode := .ops [⟨some 18, .load 6 true (.t 1), none, [1]⟩,
  ⟨some 19, .load 17 true (.t 2), none, [2]⟩,
  ⟨some 20, .load 10 true (.t 3), none, [3]⟩,
  ⟨some 21, .call 52 [.t 18, .t 19, .t 20], none, []⟩,
  ⟨some 17, .mv (.t 21), none, []⟩,
  ⟨some 22, .ext (.t 17) 0, none, []⟩,
  ⟨some 23, .ext (.t 17) 1, none, []⟩,
  ⟨some 24, .ext (.t 17) 2, none, []⟩,
  ⟨some 4, .mv (.t 22), none, []⟩,
  ⟨some 5, .mv (.t 23), none, []⟩,
  ⟨some 6, .mv (.t 24), none, []⟩] [2, 3, 4, 5, 6]
def c6_5 : ACode := .ops [⟨some 25, .mv (.t 4), none, []⟩,
  ⟨some 26, .bin .eql (.t 25) (.c (.int .i64 10)), none, []⟩,
  ⟨some 27, .mv (.t 26), none, []⟩,
  ⟨some 28, .mv (.t 5), some (27, true), []⟩,
  ⟨some 29, .bin .eql (.t 28) (.c (.int .i64 10)), some (27, true), []⟩,
  ⟨some 30, .pick (.t 27) (.t 29) (.c (.bool false)), none, []⟩,
  ⟨some 31, .mv (.t 30), none, []⟩,
  ⟨some 32, .mv (.t 6), some (31, true), []⟩,
  ⟨some 33, .pick (.t 31) (.t 32) (.c (.bool false)), none, []⟩,
  ⟨some 34, .mv (.t 33), none, []⟩,
  ⟨some 35, .load 17 true (.t 2), some (34, true), [2]⟩,
  ⟨some 36, .load 10 true (.t 3), some (34, true), [3]⟩,
  ⟨some 37, .call 53 [.t 35, .t 36], some (34, true), []⟩,
  ⟨some 38, .pick (.t 34) (.t 37) (.c (.bool false)), none, []⟩,
  ⟨some 39, .mv (.t 38), none, []⟩,
  ⟨some 40, .load 17 true (.t 2), some (39, true), [2]⟩,
  ⟨some 41, .build [.int .i64 0, .int .i64 0] [(0, 1, .c (.int .i64 0)), (1, 1, .c (.int .i64 5))], some (39, true), []⟩,
  ⟨some 42, .build [.int .i64 0, .int .i64 0, .int .i64 0, .int .i64 0, .int .i64 0, .int .i64 0, .int .i64 0, .int .i64 0, .int .i64 0, .int .i64 0] [(0, 2, .t 41)], some (39, true), []⟩,
  ⟨some 43, .call 53 [.t 40, .t 42], some (39, true), []⟩,
  ⟨some 44, .un .not (.t 43), some (39, true), []⟩,
  ⟨some 45, .pick (.t 39) (.t 44) (.c (.bool false)), none, []⟩,
  ⟨some 46, .mv (.t 45), none, []⟩,
  ⟨some 47, .load 17 true (.t 2), some (46, true), [2]⟩,
  ⟨some 48, .load 10 true (.t 3), some (46, true), [3]⟩,
  ⟨some 49, .call 54 [.t 47, .t 48], some (46, true), []⟩,
  ⟨some 50, .build [.int .i64 0, .int .i64 0] [(0, 1, .c (.int .i64 6)), (1, 1, .c (.int .i64 9))], some (46, true), []⟩,
  ⟨some 51, .build [.int .i64 0, .int .i64 0, .int .i64 0, .int .i64 0, .int .i64 0, .int .i64 0, .int .i64 0, .int .i64 0, .int .i64 0, .int .i64 0] [(0, 2, .t 50)], some (46, true), []⟩,
  ⟨some 52, .eqa false [false, false, false, false, false, false, false, false, false, false] (.t 49) (.t 51), some (46, true), []⟩,
  ⟨some 53, .pick (.t 46) (.t 52) (.c (.bool false)), none, []⟩,
  ⟨some 54, .mv (.t 53), none, []⟩,
  ⟨some 55, .load 17 true (.t 2), some (54, true), [2]⟩,
  ⟨some 56, .load 10 true (.t 3), some (54, true), [3]⟩,
  ⟨some 57, .call 55 [.t 55, .t 56], some (54, true), []⟩,
  ⟨some 58, .build [.int .i64 0, .int .i64 0] [(0, 1, .c (.int .i64 0)), (1, 1, .c (.int .i64 5))], some (54, true), []⟩,
  ⟨some 59, .build [.int .i64 0, .int .i64 0, .int .i64 0, .int .i64 0, .int .i64 0, .int .i64 0, .int .i64 0, .int .i64 0, .int .i64 0, .int .i64 0] [(0, 2, .t 58)], some (54, true), []⟩,
  ⟨some 60, .eqa false [false, false, false, false, false, false, false, false, false, false] (.t 57) (.t 59), some (54, true), []⟩,
  ⟨some 61, .pick (.t 54) (.t 60) (.c (.bool false)), none, []⟩,
  ⟨some 0, .mv (.t 61), none, []⟩] [0]
def c6_6 : ACode := .seq c6_5 .ret
def c6_7 : ACode := .seq c6_4 c6_6
def c6_8 : ACode := .seq c6_3 c6_7
def c6_9 : ACode := .seq c6_2 c6_8
def c6_10 : ACode := .seq c6_1 c6_9
def c6_11 : ACode := .seq c6_0 c6_10
def a6 : AFun := ⟨0, 62, c6_11, [.t 0]⟩
theorem m6 : mFun Try.prog Try.f6 a6 = true := by decide +kernel
/- copse/copsekeep.Three -/
def c43_0 : ACode := .ops [⟨some 0, .alloc [.int .i64 0, .int .i64 0, .int .i64 0, .int .i64 0, .int .i64 0, .nils], none, []⟩] [0]
def c43_1 : ACode := .ops [⟨some 2, .build [.bool false, .int .i64 0, .int .i64 0, .int .i64 0, .int .i64 0, .int .i64 0] [(3, 1, .c (.int .i64 5)), (4, 1, .c (.int .i64 1)), (5, 1, .c (.int .i64 2))], none, []⟩,
  ⟨some 3, .call 111 [.t 2], none, []⟩,
  ⟨some 4, .build [.bool false, .int .i64 0, .int .i64 0, .int .i64 0, .int .i64 0, .int .i64 0] [(0, 1, .c (.bool true)), (1, 1, .c (.int .i64 10))], none, []⟩,
  ⟨some 5, .call 111 [.t 4], none, []⟩,
  ⟨some 6, .build [.bool false, .int .i64 0, .int .i64 0, .int .i64 0, .int .i64 0, .int .i64 0] [(0, 1, .c (.bool true)), (1, 1, .c (.int .i64 20))], none, []⟩,
  ⟨some 7, .call 111 [.t 6], none, []⟩,
  ⟨some 8, .mkrow 1 3 1 [.int .u64 0] [(0, 1, .t 3), (1, 1, .t 5), (2, 1, .t 7)], none, []⟩,
  ⟨some 1, .mv (.t 8), none, []⟩] [0, 1]
def c43_2 : ACode := .ops [⟨some 9, .build [.int .i64 0, .int .i64 0, .int .i64 0] [(0, 1, .c (.int .i64 3))], none, []⟩,
  ⟨some 10, .mv (.t 1), none, []⟩,
  ⟨some 11, .build [.int .i64 0, .nils] [(1, 1, .t 10)], none, []⟩,
  ⟨some 12, .mkrow 12 1 2 [.int .i64 0, .nils] [(0, 2, .t 11)], none, []⟩,
  ⟨some 13, .build [.int .i64 0, .int .i64 0, .int .i64 0, .int .i64 0, .int .i64 0, .nils] [(0, 1, .c (.int .i64 1)), (1, 1, .c (.int .i64 1)), (2, 3, .t 9), (5, 1, .t 12)], none, []⟩,
  ⟨none, .store (.t 0) 6 (.t 13), none, [0]⟩] [0]
def c43_3 : ACode := .seq c43_2 .ret
def c43_4 : ACode := .seq c43_1 c43_3
def c43_5 : ACode := .seq c43_0 c43_4
def a43 : AFun := ⟨0, 14, c43_5, [.cell 0 6 true]⟩
theorem m43 : mFun Try.prog Try.f43 a43 = true := by decide +kernel
def texts6 : List (Nat × AFun) := [(6, a6), (43, a43), (44, a44), (48, a48), (51, a51), (52, a52), (53, a53), (54, a54), (55, a55), (67, a67), (68, a68), (71, a71), (76, a76), (77, a77), (111, a111), (114, a114), (119, a119), (120, a120), (121, a121), (123, a123), (124, a124), (125, a125), (128, a128), (129, a129), (130, a130), (131, a131), (156, a156), (158, a158), (159, a159), (160, a160), (161, a161), (162, a162), (163, a163), (164, a164), (165, a165), (176, a176)]
theorem texts6_good : Go.Am.Good Try.prog texts6 :=
  good_cons Try.func6 m6 <| good_cons Try.func43 m43 <| good_cons Try.func44 m44 <| good_cons Try.func48 m48 <| good_cons Try.func51 m51 <| good_cons Try.func52 m52 <| good_cons Try.func53 m53 <| good_cons Try.func54 m54 <| good_cons Try.func55 m55 <| good_cons Try.func67 m67 <| good_cons Try.func68 m68 <| good_cons Try.func71 m71 <| good_cons Try.func76 m76 <| good_cons Try.func77 m77 <| good_cons Try.func111 m111 <| good_cons Try.func114 m114 <| good_cons Try.func119 m119 <| good_cons Try.func120 m120 <| good_cons Try.func121 m121 <| good_cons Try.func123 m123 <| good_cons Try.func124 m124 <| good_cons Try.func125 m125 <| good_cons Try.func128 m128 <| good_cons Try.func129 m129 <| good_cons Try.func130 m130 <| good_cons Try.func131 m131 <| good_cons Try.func156 m156 <| good_cons Try.func158 m158 <| good_cons Try.func159 m159 <| good_cons Try.func160 m160 <| good_cons Try.func161 m161 <| good_cons Try.func162 m162 <| good_cons Try.func163 m163 <| good_cons Try.func164 m164 <| good_cons Try.func165 m165 <| good_cons Try.func176 m176 <| good_nil
theorem c_closed6 : Contract Try.prog 6 (sp0 (some true)) := contract_closed mixed texts6_good (m := 1000) (n := 60) (by decide +kernel)


def hasB (b : Box) (p : Point) (t : Int) : Bool := b.s0.has p.p0 && b.s1.has p.p1 && b.s2.has p.p2 && b.s3.has p.p3 && b.s4.has t
theorem has_of {b : Box} {p : Point} {t : Int} (h : InB b p t) : hasB b p t = true := by
  obtain ⟨h0, h1, h2, h3, h4⟩ := h
  unfold InS at *
  unfold hasB Span.has
  simp only [Bool.and_eq_true, decide_eq_true_eq]
  omega
set_option maxRecDepth 100000 in
theorem runs_Has (b : Box) (p : Point) (t : Int) (c : Bool) (h : some (hasB b p t) = some c) : Runs (tbl [(117, sp2 fun (s : Span) n => some (s.has n))]) a87 [Arg.enc b, Arg.enc p, Arg.enc t] (Arg.enc c) := by
  cases h
  refine ⟨rfl, fun g => run_def ?_⟩
  unfold a87
  cases h0 : b.s0.has p.p0
  case false => simp -implicitDefEqProofs [hasB, run_round, h0]
  cases h1 : b.s1.has p.p1
  case false => simp -implicitDefEqProofs [hasB, run_round, h0, h1]
  cases h2 : b.s2.has p.p2
  case false => simp -implicitDefEqProofs [hasB, run_round, h0, h1, h2]
  cases h3 : b.s3.has p.p3
  case false => simp -implicitDefEqProofs [hasB, run_round, h0, h1, h2, h3]
  simp -implicitDefEqProofs [hasB, run_round, h0, h1, h2, h3]
theorem c_Has : Contract Try.prog 87 (sp3 fun b p t => some (hasB b p t)) :=
  contract_of_runs mixed (tbl_cons c_sHas tbl_nil) Try.func87 m87 (sp3_runs runs_Has)

set_option maxHeartbeats 8000000 in
set_option maxRecDepth 100000 in
theorem runs_law (f : Forest) (a : Ask) (l : List Int) (twin lo_ hi_ : Int) (c : Bool) (h : some true = some c) : Runs (tbl [(45, sp1 ModelC), (59, sp2 QueryC), (58, sp1 fun q => some (startOf q)), (52, sp3 ChangeC), (55, sp2 fun q b => some (firstB q b)), (54, sp2 fun q b => some (secondB q b)), (53, sp2 fun q b => some (orderedB q b)), (63, sp3 Within), (66, sp2 InsideC), (64, sp3 fun q p t => some (secondOf q p t)), (69, sp3 Eval), (87, sp3 fun b p t => some (hasB b p t)), (6, sp0 (some true))]) a24 [Arg.enc f, Arg.enc a, Arg.enc l, Arg.enc twin, Arg.enc lo_, Arg.enc hi_] (Arg.enc c) := by
  cases h
  refine ⟨rfl, fun g => run_def ?_⟩
  unfold a24
  have hm := rm_modelOf f
  have hM : ModelC f = some (modelOf f) := rfl
  generalize modelOf f = m at *
  have hq := ok_queryOf m a hm
  have hQ : QueryC a m = some (queryOf m a) := part_of ⟨hm.dim.1, hm.dim.2, hm.classes.1, hm.classes.2⟩ _
  have hreg : (queryOf m a).region = regionOf m.dim a.spans := rfl
  have hqs := okQuery_spec hq
  have hks := okKind_spec hqs.2.2.2.2.2
  have hd := hm.dim
  have h0 := rSpan_le m.dim a.spans 0
  have h1 := rSpan_le m.dim a.spans 1
  have h2 := rSpan_le m.dim a.spans 2
  have h3 := rSpan_le m.dim a.spans 3
  generalize queryOf m a = q at *
  obtain ⟨kind, cls, region, qlo, qhi, k, falls, budget⟩ := q
  simp only at hreg hqs hks
  unfold regionOf at hreg
  generalize rSpan m.dim a.spans 0 = s0 at *
  generalize rSpan m.dim a.spans 1 = s1 at *
  generalize rSpan m.dim a.spans 2 = s2 at *
  generalize rSpan m.dim a.spans 3 = s3 at *
  subst hreg
  have hk12 : ∀ kd : Int, kd ≠ 3 → startOf ⟨kd, cls, ⟨s0, s1, s2, s3, ⟨0, 0⟩⟩, qlo, qhi, k, falls, budget⟩ = ⟨s0, s1, s2, s3, ⟨0, 0⟩⟩ ∧ firstB ⟨kd, cls, ⟨s0, s1, s2, s3, ⟨0, 0⟩⟩, qlo, qhi, k, falls, budget⟩ ⟨s0, s1, s2, s3, ⟨0, 0⟩⟩ = ⟨s0, s1, s2, s3, ⟨0, 0⟩⟩ ∧ secondB ⟨kd, cls, ⟨s0, s1, s2, s3, ⟨0, 0⟩⟩, qlo, qhi, k, falls, budget⟩ ⟨s0, s1, s2, s3, ⟨0, 0⟩⟩ = ⟨s0, s1, s2, s3, ⟨0, 0⟩⟩ ∧ orderedB ⟨kd, cls, ⟨s0, s1, s2, s3, ⟨0, 0⟩⟩, qlo, qhi, k, falls, budget⟩ ⟨s0, s1, s2, s3, ⟨0, 0⟩⟩ = false ∧
      ChangeC m ⟨kd, cls, ⟨s0, s1, s2, s3, ⟨0, 0⟩⟩, qlo, qhi, k, falls, budget⟩ ⟨s0, s1, s2, s3, ⟨0, 0⟩⟩ = some ⟨0, 0, false⟩ := by
    intro kd hkd
    have hp : paired ⟨kd, cls, ⟨s0, s1, s2, s3, ⟨0, 0⟩⟩, qlo, qhi, k, falls, budget⟩ = false := by unfold paired; simp [hkd]
    refine ⟨by unfold startOf; rw [hp]; rfl, by unfold firstB; rw [hp]; rfl, by unfold secondB; rw [hp]; rfl, by unfold orderedB; rw [hp]; rfl, ?_⟩
    unfold ChangeC
    rw [part_of ⟨hm, by unfold okB okS64 ok64; simp only; omega⟩, change_none (fun h => by rw [hp] at h; cases h)]
  rcases hks with ⟨kk, _⟩ | ⟨kk, _⟩ | ⟨kk, f0, f1, _⟩
  · subst kk
    obtain ⟨i1, i2, i3, i4, i5⟩ := hk12 1 (by decide)
    simp -implicitDefEqProofs [hM, hQ, i1, i2, i3, i4, i5]
  · subst kk
    obtain ⟨i1, i2, i3, i4, i5⟩ := hk12 2 (by decide)
    simp -implicitDefEqProofs [hM, hQ, i1, i2, i3, i4, i5]
  subst kk
  clear hk12
  have hkc : k = 0 ∨ k = 1 ∨ k = 2 ∨ k = 3 := by omega
  rcases hkc with rfl | rfl | rfl | rfl
  · have hp : paired (⟨3, cls, ⟨s0, s1, s2, s3, ⟨0, 0⟩⟩, qlo, qhi, 0, falls, budget⟩ : Query) = true := rfl
    have hSt : startOf (⟨3, cls, ⟨s0, s1, s2, s3, ⟨0, 0⟩⟩, qlo, qhi, 0, falls, budget⟩ : Query) = ⟨s0, s1, s2, s3, s0⟩ := rfl
    have hW1 := within_of lo_ s0.lo s0.hi (by omega)
    have hw1 := within_le lo_ s0.lo s0.hi (by omega)
    generalize within lo_ s0.lo s0.hi = a1 at *
    have hW2 := within_of hi_ a1 s0.hi (by omega)
    have hw2 := within_le hi_ a1 s0.hi (by omega)
    generalize within hi_ a1 s0.hi = a2 at *
    have hWt := within_of twin a1 a2 (by omega)
    have hwt := within_le twin a1 a2 (by omega)
    generalize within twin a1 a2 = t at *
    have hbe : ((⟨s0, s1, s2, s3, ⟨a1, a2⟩⟩ : Box)).empty = false := by
      unfold Box.empty Span.empty
      simp only [Bool.or_eq_false_iff, decide_eq_false_iff_not]
      omega
    have hbo : okB (⟨s0, s1, s2, s3, ⟨a1, a2⟩⟩ : Box) := by unfold okB okS64 ok64; simp only; omega
    have hI : InsideC (⟨s0, s1, s2, s3, ⟨a1, a2⟩⟩ : Box) l = some (insideOf (⟨s0, s1, s2, s3, ⟨a1, a2⟩⟩ : Box) l) := part_of (by unfold small; simp only; omega) _
    have hin := inside_in hbe l
    generalize insideOf (⟨s0, s1, s2, s3, ⟨a1, a2⟩⟩ : Box) l = p at *
    have hin2 : InB (⟨s0, s1, s2, s3, ⟨a1, a2⟩⟩ : Box) p t := ⟨hin.1, hin.2.1, hin.2.2.1, hin.2.2.2.1, by unfold InS; simp only; omega⟩
    have hC : ChangeC m (⟨3, cls, ⟨s0, s1, s2, s3, ⟨0, 0⟩⟩, qlo, qhi, 0, falls, budget⟩ : Query) (⟨s0, s1, s2, s3, ⟨a1, a2⟩⟩ : Box) = some ⟨(changeM m (⟨3, cls, ⟨s0, s1, s2, s3, ⟨0, 0⟩⟩, qlo, qhi, 0, falls, budget⟩ : Query) (⟨s0, s1, s2, s3, ⟨a1, a2⟩⟩ : Box)).a, (changeM m (⟨3, cls, ⟨s0, s1, s2, s3, ⟨0, 0⟩⟩, qlo, qhi, 0, falls, budget⟩ : Query) (⟨s0, s1, s2, s3, ⟨a1, a2⟩⟩ : Box)).b, true⟩ := by
      unfold ChangeC
      rw [part_of ⟨hm, hbo⟩, change_some (m := m) hp hqs.1 hqs.2.1 hbe]
    have hsd := change_sound hm hp hqs.1 hqs.2.1 hin2
    have hso : secondOf (⟨3, cls, ⟨s0, s1, s2, s3, ⟨0, 0⟩⟩, qlo, qhi, 0, falls, budget⟩ : Query) p t = p.set 0 t := rfl
    have hE1 := eval_of hm hqs.1 hqs.2.1 p
    have hE2 := eval_of hm hqs.1 hqs.2.1 (p.set 0 t)
    have g1 := evalM_le hm cls p
    have g2 := evalM_le hm cls (p.set 0 t)
    have hH1 := has_of ((first_in hp (b := (⟨s0, s1, s2, s3, ⟨a1, a2⟩⟩ : Box)) (p := p) (t := 0)).2 ⟨rfl, hin.1, hin.2.1, hin.2.2.1, hin.2.2.2.1⟩)
    have hH2 := has_of (second_in hp hin2)
    simp only at hE1 hE2 hsd hH2
    have wE : IntKind.i64.wrap (evalM m cls (p.set 0 t) - evalM m cls p) = evalM m cls (p.set 0 t) - evalM m cls p := wrap64 (by omega) (by omega)
    generalize evalM m cls (p.set 0 t) = e2 at *
    generalize evalM m cls p = e1 at *
    generalize (changeM m (⟨3, cls, ⟨s0, s1, s2, s3, ⟨0, 0⟩⟩, qlo, qhi, 0, falls, budget⟩ : Query) (⟨s0, s1, s2, s3, ⟨a1, a2⟩⟩ : Box)).a = x at *
    generalize (changeM m (⟨3, cls, ⟨s0, s1, s2, s3, ⟨0, 0⟩⟩, qlo, qhi, 0, falls, budget⟩ : Query) (⟨s0, s1, s2, s3, ⟨a1, a2⟩⟩ : Box)).b = y at *
    have c1 : ¬ e2 - e1 < x := by omega
    have c2 : ¬ y < e2 - e1 := by omega
    have hO : orderedB (⟨3, cls, ⟨s0, s1, s2, s3, ⟨0, 0⟩⟩, qlo, qhi, 0, falls, budget⟩ : Query) (⟨s0, s1, s2, s3, ⟨a1, a2⟩⟩ : Box) = decide (s0.lo < a2) := by unfold orderedB; rw [hp, hbe]; rfl
    have hze : ((⟨⟨1, 0⟩, s1, s2, s3, ⟨a1, a2⟩⟩ : Box)).empty = true := by unfold Box.empty Span.empty; simp
    have hzo : okB (⟨⟨1, 0⟩, s1, s2, s3, ⟨a1, a2⟩⟩ : Box) := by unfold okB okS64 ok64; simp only; omega
    have hC2 : ChangeC m (⟨3, cls, ⟨s0, s1, s2, s3, ⟨0, 0⟩⟩, qlo, qhi, 0, falls, budget⟩ : Query) (⟨⟨1, 0⟩, s1, s2, s3, ⟨a1, a2⟩⟩ : Box) = some ⟨0, 0, false⟩ := by
      unfold ChangeC
      rw [part_of ⟨hm, hzo⟩, change_none (fun _ => hze)]
    have hO2 : orderedB (⟨3, cls, ⟨s0, s1, s2, s3, ⟨0, 0⟩⟩, qlo, qhi, 0, falls, budget⟩ : Query) (⟨⟨1, 0⟩, s1, s2, s3, ⟨a1, a2⟩⟩ : Box) = false := by unfold orderedB; rw [hze]; simp
    have hpk := (hin2.1)
    unfold InS at hpk
    simp only at hpk
    have hr : Point.get p 0 = p.p0 := rfl
    by_cases ho : s0.lo < a2
    · have hO : orderedB (⟨3, cls, ⟨s0, s1, s2, s3, ⟨0, 0⟩⟩, qlo, qhi, 0, falls, budget⟩ : Query) (⟨s0, s1, s2, s3, ⟨a1, a2⟩⟩ : Box) = true := by rw [hO]; simp [ho]
      by_cases c3 : p.p0 < t <;> simp -implicitDefEqProofs [hM, hQ, hSt, hW1, hW2, hWt, hI, hC, hso, hE1, hE2, wE, hH1, hH2, c1, c2, hO, ho, c3, hC2, hO2]
    · have hO : orderedB (⟨3, cls, ⟨s0, s1, s2, s3, ⟨0, 0⟩⟩, qlo, qhi, 0, falls, budget⟩ : Query) (⟨s0, s1, s2, s3, ⟨a1, a2⟩⟩ : Box) = false := by rw [hO]; simp; omega
      have c3 : ¬ p.p0 < t := by omega
      simp -implicitDefEqProofs [hM, hQ, hSt, hW1, hW2, hWt, hI, hC, hso, hE1, hE2, wE, hH1, hH2, c1, c2, hO, ho, c3, hC2, hO2]
  · have hp : paired (⟨3, cls, ⟨s0, s1, s2, s3, ⟨0, 0⟩⟩, qlo, qhi, 1, falls, budget⟩ : Query) = true := rfl
    have hSt : startOf (⟨3, cls, ⟨s0, s1, s2, s3, ⟨0, 0⟩⟩, qlo, qhi, 1, falls, budget⟩ : Query) = ⟨s0, s1, s2, s3, s1⟩ := rfl
    have hW1 := within_of lo_ s1.lo s1.hi (by omega)
    have hw1 := within_le lo_ s1.lo s1.hi (by omega)
    generalize within lo_ s1.lo s1.hi = a1 at *
    have hW2 := within_of hi_ a1 s1.hi (by omega)
    have hw2 := within_le hi_ a1 s1.hi (by omega)
    generalize within hi_ a1 s1.hi = a2 at *
    have hWt := within_of twin a1 a2 (by omega)
    have hwt := within_le twin a1 a2 (by omega)
    generalize within twin a1 a2 = t at *
    have hbe : ((⟨s0, s1, s2, s3, ⟨a1, a2⟩⟩ : Box)).empty = false := by
      unfold Box.empty Span.empty
      simp only [Bool.or_eq_false_iff, decide_eq_false_iff_not]
      omega
    have hbo : okB (⟨s0, s1, s2, s3, ⟨a1, a2⟩⟩ : Box) := by unfold okB okS64 ok64; simp only; omega
    have hI : InsideC (⟨s0, s1, s2, s3, ⟨a1, a2⟩⟩ : Box) l = some (insideOf (⟨s0, s1, s2, s3, ⟨a1, a2⟩⟩ : Box) l) := part_of (by unfold small; simp only; omega) _
    have hin := inside_in hbe l
    generalize insideOf (⟨s0, s1, s2, s3, ⟨a1, a2⟩⟩ : Box) l = p at *
    have hin2 : InB (⟨s0, s1, s2, s3, ⟨a1, a2⟩⟩ : Box) p t := ⟨hin.1, hin.2.1, hin.2.2.1, hin.2.2.2.1, by unfold InS; simp only; omega⟩
    have hC : ChangeC m (⟨3, cls, ⟨s0, s1, s2, s3, ⟨0, 0⟩⟩, qlo, qhi, 1, falls, budget⟩ : Query) (⟨s0, s1, s2, s3, ⟨a1, a2⟩⟩ : Box) = some ⟨(changeM m (⟨3, cls, ⟨s0, s1, s2, s3, ⟨0, 0⟩⟩, qlo, qhi, 1, falls, budget⟩ : Query) (⟨s0, s1, s2, s3, ⟨a1, a2⟩⟩ : Box)).a, (changeM m (⟨3, cls, ⟨s0, s1, s2, s3, ⟨0, 0⟩⟩, qlo, qhi, 1, falls, budget⟩ : Query) (⟨s0, s1, s2, s3, ⟨a1, a2⟩⟩ : Box)).b, true⟩ := by
      unfold ChangeC
      rw [part_of ⟨hm, hbo⟩, change_some (m := m) hp hqs.1 hqs.2.1 hbe]
    have hsd := change_sound hm hp hqs.1 hqs.2.1 hin2
    have hso : secondOf (⟨3, cls, ⟨s0, s1, s2, s3, ⟨0, 0⟩⟩, qlo, qhi, 1, falls, budget⟩ : Query) p t = p.set 1 t := rfl
    have hE1 := eval_of hm hqs.1 hqs.2.1 p
    have hE2 := eval_of hm hqs.1 hqs.2.1 (p.set 1 t)
    have g1 := evalM_le hm cls p
    have g2 := evalM_le hm cls (p.set 1 t)
    have hH1 := has_of ((first_in hp (b := (⟨s0, s1, s2, s3, ⟨a1, a2⟩⟩ : Box)) (p := p) (t := 0)).2 ⟨rfl, hin.1, hin.2.1, hin.2.2.1, hin.2.2.2.1⟩)
    have hH2 := has_of (second_in hp hin2)
    simp only at hE1 hE2 hsd hH2
    have wE : IntKind.i64.wrap (evalM m cls (p.set 1 t) - evalM m cls p) = evalM m cls (p.set 1 t) - evalM m cls p := wrap64 (by omega) (by omega)
    generalize evalM m cls (p.set 1 t) = e2 at *
    generalize evalM m cls p = e1 at *
    generalize (changeM m (⟨3, cls, ⟨s0, s1, s2, s3, ⟨0, 0⟩⟩, qlo, qhi, 1, falls, budget⟩ : Query) (⟨s0, s1, s2, s3, ⟨a1, a2⟩⟩ : Box)).a = x at *
    generalize (changeM m (⟨3, cls, ⟨s0, s1, s2, s3, ⟨0, 0⟩⟩, qlo, qhi, 1, falls, budget⟩ : Query) (⟨s0, s1, s2, s3, ⟨a1, a2⟩⟩ : Box)).b = y at *
    have c1 : ¬ e2 - e1 < x := by omega
    have c2 : ¬ y < e2 - e1 := by omega
    have hO : orderedB (⟨3, cls, ⟨s0, s1, s2, s3, ⟨0, 0⟩⟩, qlo, qhi, 1, falls, budget⟩ : Query) (⟨s0, s1, s2, s3, ⟨a1, a2⟩⟩ : Box) = decide (s1.lo < a2) := by unfold orderedB; rw [hp, hbe]; rfl
    have hze : ((⟨s0, ⟨1, 0⟩, s2, s3, ⟨a1, a2⟩⟩ : Box)).empty = true := by unfold Box.empty Span.empty; simp
    have hzo : okB (⟨s0, ⟨1, 0⟩, s2, s3, ⟨a1, a2⟩⟩ : Box) := by unfold okB okS64 ok64; simp only; omega
    have hC2 : ChangeC m (⟨3, cls, ⟨s0, s1, s2, s3, ⟨0, 0⟩⟩, qlo, qhi, 1, falls, budget⟩ : Query) (⟨s0, ⟨1, 0⟩, s2, s3, ⟨a1, a2⟩⟩ : Box) = some ⟨0, 0, false⟩ := by
      unfold ChangeC
      rw [part_of ⟨hm, hzo⟩, change_none (fun _ => hze)]
    have hO2 : orderedB (⟨3, cls, ⟨s0, s1, s2, s3, ⟨0, 0⟩⟩, qlo, qhi, 1, falls, budget⟩ : Query) (⟨s0, ⟨1, 0⟩, s2, s3, ⟨a1, a2⟩⟩ : Box) = false := by unfold orderedB; rw [hze]; simp
    have hpk := (hin2.2.1)
    unfold InS at hpk
    simp only at hpk
    have hr : Point.get p 1 = p.p1 := rfl
    by_cases ho : s1.lo < a2
    · have hO : orderedB (⟨3, cls, ⟨s0, s1, s2, s3, ⟨0, 0⟩⟩, qlo, qhi, 1, falls, budget⟩ : Query) (⟨s0, s1, s2, s3, ⟨a1, a2⟩⟩ : Box) = true := by rw [hO]; simp [ho]
      by_cases c3 : p.p1 < t <;> simp -implicitDefEqProofs [hM, hQ, hSt, hW1, hW2, hWt, hI, hC, hso, hE1, hE2, wE, hH1, hH2, c1, c2, hO, ho, c3, hC2, hO2]
    · have hO : orderedB (⟨3, cls, ⟨s0, s1, s2, s3, ⟨0, 0⟩⟩, qlo, qhi, 1, falls, budget⟩ : Query) (⟨s0, s1, s2, s3, ⟨a1, a2⟩⟩ : Box) = false := by rw [hO]; simp; omega
      have c3 : ¬ p.p1 < t := by omega
      simp -implicitDefEqProofs [hM, hQ, hSt, hW1, hW2, hWt, hI, hC, hso, hE1, hE2, wE, hH1, hH2, c1, c2, hO, ho, c3, hC2, hO2]
  · have hp : paired (⟨3, cls, ⟨s0, s1, s2, s3, ⟨0, 0⟩⟩, qlo, qhi, 2, falls, budget⟩ : Query) = true := rfl
    have hSt : startOf (⟨3, cls, ⟨s0, s1, s2, s3, ⟨0, 0⟩⟩, qlo, qhi, 2, falls, budget⟩ : Query) = ⟨s0, s1, s2, s3, s2⟩ := rfl
    have hW1 := within_of lo_ s2.lo s2.hi (by omega)
    have hw1 := within_le lo_ s2.lo s2.hi (by omega)
    generalize within lo_ s2.lo s2.hi = a1 at *
    have hW2 := within_of hi_ a1 s2.hi (by omega)
    have hw2 := within_le hi_ a1 s2.hi (by omega)
    generalize within hi_ a1 s2.hi = a2 at *
    have hWt := within_of twin a1 a2 (by omega)
    have hwt := within_le twin a1 a2 (by omega)
    generalize within twin a1 a2 = t at *
    have hbe : ((⟨s0, s1, s2, s3, ⟨a1, a2⟩⟩ : Box)).empty = false := by
      unfold Box.empty Span.empty
      simp only [Bool.or_eq_false_iff, decide_eq_false_iff_not]
      omega
    have hbo : okB (⟨s0, s1, s2, s3, ⟨a1, a2⟩⟩ : Box) := by unfold okB okS64 ok64; simp only; omega
    have hI : InsideC (⟨s0, s1, s2, s3, ⟨a1, a2⟩⟩ : Box) l = some (insideOf (⟨s0, s1, s2, s3, ⟨a1, a2⟩⟩ : Box) l) := part_of (by unfold small; simp only; omega) _
    have hin := inside_in hbe l
    generalize insideOf (⟨s0, s1, s2, s3, ⟨a1, a2⟩⟩ : Box) l = p at *
    have hin2 : InB (⟨s0, s1, s2, s3, ⟨a1, a2⟩⟩ : Box) p t := ⟨hin.1, hin.2.1, hin.2.2.1, hin.2.2.2.1, by unfold InS; simp only; omega⟩
    have hC : ChangeC m (⟨3, cls, ⟨s0, s1, s2, s3, ⟨0, 0⟩⟩, qlo, qhi, 2, falls, budget⟩ : Query) (⟨s0, s1, s2, s3, ⟨a1, a2⟩⟩ : Box) = some ⟨(changeM m (⟨3, cls, ⟨s0, s1, s2, s3, ⟨0, 0⟩⟩, qlo, qhi, 2, falls, budget⟩ : Query) (⟨s0, s1, s2, s3, ⟨a1, a2⟩⟩ : Box)).a, (changeM m (⟨3, cls, ⟨s0, s1, s2, s3, ⟨0, 0⟩⟩, qlo, qhi, 2, falls, budget⟩ : Query) (⟨s0, s1, s2, s3, ⟨a1, a2⟩⟩ : Box)).b, true⟩ := by
      unfold ChangeC
      rw [part_of ⟨hm, hbo⟩, change_some (m := m) hp hqs.1 hqs.2.1 hbe]
    have hsd := change_sound hm hp hqs.1 hqs.2.1 hin2
    have hso : secondOf (⟨3, cls, ⟨s0, s1, s2, s3, ⟨0, 0⟩⟩, qlo, qhi, 2, falls, budget⟩ : Query) p t = p.set 2 t := rfl
    have hE1 := eval_of hm hqs.1 hqs.2.1 p
    have hE2 := eval_of hm hqs.1 hqs.2.1 (p.set 2 t)
    have g1 := evalM_le hm cls p
    have g2 := evalM_le hm cls (p.set 2 t)
    have hH1 := has_of ((first_in hp (b := (⟨s0, s1, s2, s3, ⟨a1, a2⟩⟩ : Box)) (p := p) (t := 0)).2 ⟨rfl, hin.1, hin.2.1, hin.2.2.1, hin.2.2.2.1⟩)
    have hH2 := has_of (second_in hp hin2)
    simp only at hE1 hE2 hsd hH2
    have wE : IntKind.i64.wrap (evalM m cls (p.set 2 t) - evalM m cls p) = evalM m cls (p.set 2 t) - evalM m cls p := wrap64 (by omega) (by omega)
    generalize evalM m cls (p.set 2 t) = e2 at *
    generalize evalM m cls p = e1 at *
    generalize (changeM m (⟨3, cls, ⟨s0, s1, s2, s3, ⟨0, 0⟩⟩, qlo, qhi, 2, falls, budget⟩ : Query) (⟨s0, s1, s2, s3, ⟨a1, a2⟩⟩ : Box)).a = x at *
    generalize (changeM m (⟨3, cls, ⟨s0, s1, s2, s3, ⟨0, 0⟩⟩, qlo, qhi, 2, falls, budget⟩ : Query) (⟨s0, s1, s2, s3, ⟨a1, a2⟩⟩ : Box)).b = y at *
    have c1 : ¬ e2 - e1 < x := by omega
    have c2 : ¬ y < e2 - e1 := by omega
    have hO : orderedB (⟨3, cls, ⟨s0, s1, s2, s3, ⟨0, 0⟩⟩, qlo, qhi, 2, falls, budget⟩ : Query) (⟨s0, s1, s2, s3, ⟨a1, a2⟩⟩ : Box) = decide (s2.lo < a2) := by unfold orderedB; rw [hp, hbe]; rfl
    have hze : ((⟨s0, s1, ⟨1, 0⟩, s3, ⟨a1, a2⟩⟩ : Box)).empty = true := by unfold Box.empty Span.empty; simp
    have hzo : okB (⟨s0, s1, ⟨1, 0⟩, s3, ⟨a1, a2⟩⟩ : Box) := by unfold okB okS64 ok64; simp only; omega
    have hC2 : ChangeC m (⟨3, cls, ⟨s0, s1, s2, s3, ⟨0, 0⟩⟩, qlo, qhi, 2, falls, budget⟩ : Query) (⟨s0, s1, ⟨1, 0⟩, s3, ⟨a1, a2⟩⟩ : Box) = some ⟨0, 0, false⟩ := by
      unfold ChangeC
      rw [part_of ⟨hm, hzo⟩, change_none (fun _ => hze)]
    have hO2 : orderedB (⟨3, cls, ⟨s0, s1, s2, s3, ⟨0, 0⟩⟩, qlo, qhi, 2, falls, budget⟩ : Query) (⟨s0, s1, ⟨1, 0⟩, s3, ⟨a1, a2⟩⟩ : Box) = false := by unfold orderedB; rw [hze]; simp
    have hpk := (hin2.2.2.1)
    unfold InS at hpk
    simp only at hpk
    have hr : Point.get p 2 = p.p2 := rfl
    by_cases ho : s2.lo < a2
    · have hO : orderedB (⟨3, cls, ⟨s0, s1, s2, s3, ⟨0, 0⟩⟩, qlo, qhi, 2, falls, budget⟩ : Query) (⟨s0, s1, s2, s3, ⟨a1, a2⟩⟩ : Box) = true := by rw [hO]; simp [ho]
      by_cases c3 : p.p2 < t <;> simp -implicitDefEqProofs [hM, hQ, hSt, hW1, hW2, hWt, hI, hC, hso, hE1, hE2, wE, hH1, hH2, c1, c2, hO, ho, c3, hC2, hO2]
    · have hO : orderedB (⟨3, cls, ⟨s0, s1, s2, s3, ⟨0, 0⟩⟩, qlo, qhi, 2, falls, budget⟩ : Query) (⟨s0, s1, s2, s3, ⟨a1, a2⟩⟩ : Box) = false := by rw [hO]; simp; omega
      have c3 : ¬ p.p2 < t := by omega
      simp -implicitDefEqProofs [hM, hQ, hSt, hW1, hW2, hWt, hI, hC, hso, hE1, hE2, wE, hH1, hH2, c1, c2, hO, ho, c3, hC2, hO2]
  · have hp : paired (⟨3, cls, ⟨s0, s1, s2, s3, ⟨0, 0⟩⟩, qlo, qhi, 3, falls, budget⟩ : Query) = true := rfl
    have hSt : startOf (⟨3, cls, ⟨s0, s1, s2, s3, ⟨0, 0⟩⟩, qlo, qhi, 3, falls, budget⟩ : Query) = ⟨s0, s1, s2, s3, s3⟩ := rfl
    have hW1 := within_of lo_ s3.lo s3.hi (by omega)
    have hw1 := within_le lo_ s3.lo s3.hi (by omega)
    generalize within lo_ s3.lo s3.hi = a1 at *
    have hW2 := within_of hi_ a1 s3.hi (by omega)
    have hw2 := within_le hi_ a1 s3.hi (by omega)
    generalize within hi_ a1 s3.hi = a2 at *
    have hWt := within_of twin a1 a2 (by omega)
    have hwt := within_le twin a1 a2 (by omega)
    generalize within twin a1 a2 = t at *
    have hbe : ((⟨s0, s1, s2, s3, ⟨a1, a2⟩⟩ : Box)).empty = false := by
      unfold Box.empty Span.empty
      simp only [Bool.or_eq_false_iff, decide_eq_false_iff_not]
      omega
    have hbo : okB (⟨s0, s1, s2, s3, ⟨a1, a2⟩⟩ : Box) := by unfold okB okS64 ok64; simp only; omega
    have hI : InsideC (⟨s0, s1, s2, s3, ⟨a1, a2⟩⟩ : Box) l = some (insideOf (⟨s0, s1, s2, s3, ⟨a1, a2⟩⟩ : Box) l) := part_of (by unfold small; simp only; omega) _
    have hin := inside_in hbe l
    generalize insideOf (⟨s0, s1, s2, s3, ⟨a1, a2⟩⟩ : Box) l = p at *
    have hin2 : InB (⟨s0, s1, s2, s3, ⟨a1, a2⟩⟩ : Box) p t := ⟨hin.1, hin.2.1, hin.2.2.1, hin.2.2.2.1, by unfold InS; simp only; omega⟩
    have hC : ChangeC m (⟨3, cls, ⟨s0, s1, s2, s3, ⟨0, 0⟩⟩, qlo, qhi, 3, falls, budget⟩ : Query) (⟨s0, s1, s2, s3, ⟨a1, a2⟩⟩ : Box) = some ⟨(changeM m (⟨3, cls, ⟨s0, s1, s2, s3, ⟨0, 0⟩⟩, qlo, qhi, 3, falls, budget⟩ : Query) (⟨s0, s1, s2, s3, ⟨a1, a2⟩⟩ : Box)).a, (changeM m (⟨3, cls, ⟨s0, s1, s2, s3, ⟨0, 0⟩⟩, qlo, qhi, 3, falls, budget⟩ : Query) (⟨s0, s1, s2, s3, ⟨a1, a2⟩⟩ : Box)).b, true⟩ := by
      unfold ChangeC
      rw [part_of ⟨hm, hbo⟩, change_some (m := m) hp hqs.1 hqs.2.1 hbe]
    have hsd := change_sound hm hp hqs.1 hqs.2.1 hin2
    have hso : secondOf (⟨3, cls, ⟨s0, s1, s2, s3, ⟨0, 0⟩⟩, qlo, qhi, 3, falls, budget⟩ : Query) p t = p.set 3 t := rfl
    have hE1 := eval_of hm hqs.1 hqs.2.1 p
    have hE2 := eval_of hm hqs.1 hqs.2.1 (p.set 3 t)
    have g1 := evalM_le hm cls p
    have g2 := evalM_le hm cls (p.set 3 t)
    have hH1 := has_of ((first_in hp (b := (⟨s0, s1, s2, s3, ⟨a1, a2⟩⟩ : Box)) (p := p) (t := 0)).2 ⟨rfl, hin.1, hin.2.1, hin.2.2.1, hin.2.2.2.1⟩)
    have hH2 := has_of (second_in hp hin2)
    simp only at hE1 hE2 hsd hH2
    have wE : IntKind.i64.wrap (evalM m cls (p.set 3 t) - evalM m cls p) = evalM m cls (p.set 3 t) - evalM m cls p := wrap64 (by omega) (by omega)
    generalize evalM m cls (p.set 3 t) = e2 at *
    generalize evalM m cls p = e1 at *
    generalize (changeM m (⟨3, cls, ⟨s0, s1, s2, s3, ⟨0, 0⟩⟩, qlo, qhi, 3, falls, budget⟩ : Query) (⟨s0, s1, s2, s3, ⟨a1, a2⟩⟩ : Box)).a = x at *
    generalize (changeM m (⟨3, cls, ⟨s0, s1, s2, s3, ⟨0, 0⟩⟩, qlo, qhi, 3, falls, budget⟩ : Query) (⟨s0, s1, s2, s3, ⟨a1, a2⟩⟩ : Box)).b = y at *
    have c1 : ¬ e2 - e1 < x := by omega
    have c2 : ¬ y < e2 - e1 := by omega
    have hO : orderedB (⟨3, cls, ⟨s0, s1, s2, s3, ⟨0, 0⟩⟩, qlo, qhi, 3, falls, budget⟩ : Query) (⟨s0, s1, s2, s3, ⟨a1, a2⟩⟩ : Box) = decide (s3.lo < a2) := by unfold orderedB; rw [hp, hbe]; rfl
    have hze : ((⟨s0, s1, s2, ⟨1, 0⟩, ⟨a1, a2⟩⟩ : Box)).empty = true := by unfold Box.empty Span.empty; simp
    have hzo : okB (⟨s0, s1, s2, ⟨1, 0⟩, ⟨a1, a2⟩⟩ : Box) := by unfold okB okS64 ok64; simp only; omega
    have hC2 : ChangeC m (⟨3, cls, ⟨s0, s1, s2, s3, ⟨0, 0⟩⟩, qlo, qhi, 3, falls, budget⟩ : Query) (⟨s0, s1, s2, ⟨1, 0⟩, ⟨a1, a2⟩⟩ : Box) = some ⟨0, 0, false⟩ := by
      unfold ChangeC
      rw [part_of ⟨hm, hzo⟩, change_none (fun _ => hze)]
    have hO2 : orderedB (⟨3, cls, ⟨s0, s1, s2, s3, ⟨0, 0⟩⟩, qlo, qhi, 3, falls, budget⟩ : Query) (⟨s0, s1, s2, ⟨1, 0⟩, ⟨a1, a2⟩⟩ : Box) = false := by unfold orderedB; rw [hze]; simp
    have hpk := (hin2.2.2.2.1)
    unfold InS at hpk
    simp only at hpk
    have hr : Point.get p 3 = p.p3 := rfl
    by_cases ho : s3.lo < a2
    · have hO : orderedB (⟨3, cls, ⟨s0, s1, s2, s3, ⟨0, 0⟩⟩, qlo, qhi, 3, falls, budget⟩ : Query) (⟨s0, s1, s2, s3, ⟨a1, a2⟩⟩ : Box) = true := by rw [hO]; simp [ho]
      by_cases c3 : p.p3 < t <;> simp -implicitDefEqProofs [hM, hQ, hSt, hW1, hW2, hWt, hI, hC, hso, hE1, hE2, wE, hH1, hH2, c1, c2, hO, ho, c3, hC2, hO2]
    · have hO : orderedB (⟨3, cls, ⟨s0, s1, s2, s3, ⟨0, 0⟩⟩, qlo, qhi, 3, falls, budget⟩ : Query) (⟨s0, s1, s2, s3, ⟨a1, a2⟩⟩ : Box) = false := by rw [hO]; simp; omega
      have c3 : ¬ p.p3 < t := by omega
      simp -implicitDefEqProofs [hM, hQ, hSt, hW1, hW2, hWt, hI, hC, hso, hE1, hE2, wE, hH1, hH2, c1, c2, hO, ho, c3, hC2, hO2]
def law_sp : List AV → Option AV := sp6 fun (_ : Forest) (_ : Ask) (_ : List Int) (_ _ _ : Int) => some true
theorem law_holds : Contract Try.prog 24 law_sp :=
  contract_of_runs mixed (tbl_cons c_Model (tbl_cons c_Query (tbl_cons c_Start (tbl_cons c_Change (tbl_cons c_First (tbl_cons c_cSecond (tbl_cons c_Ordered (tbl_cons c_Within (tbl_cons c_Inside (tbl_cons c_Second (tbl_cons c_Eval (tbl_cons c_Has (tbl_cons c_closed6 tbl_nil))))))))))))) Try.func24 m24 (sp6_runs runs_law)
theorem law_says (f : Forest) (a : Ask) (l : List Int) (x y z : Int) : law_sp [Arg.enc f, Arg.enc a, Arg.enc l, Arg.enc x, Arg.enc y, Arg.enc z] = some (.bool true) := by
  simp only [law_sp, sp6, Arg.dec_enc, Option.bind_some]
  rfl
end Go.Co
