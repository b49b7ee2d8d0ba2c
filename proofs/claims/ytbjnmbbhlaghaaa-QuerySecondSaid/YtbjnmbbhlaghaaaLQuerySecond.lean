/- The law QuerySecond: what its text computes. -/
import Derived.Test.YtbjnmbbhlaghaaaCoK
import Derived.Test.YtbjnmbbhlaghaaaCoSh
namespace Go.Co
open Go.Am Go.Proofs
set_option linter.unusedSimpArgs false
set_option linter.unusedVariables false

/- copse/copselaw10.QuerySecond -/
def c10_0 : ACode := .ops [⟨some 4, .box (.t 0) 4, none, []⟩,
  ⟨some 5, .box (.t 1) 8, none, []⟩,
  ⟨some 6, .box (.t 2) 4, none, []⟩,
  ⟨some 8, .mv (.c (.bool false)), none, []⟩] [3, 4, 5, 6]
theorem r10_0 {C : Cs} {k : List Fr} {s : St} {Q : Post} : run C c10_0 k s Q = run C (.ops [⟨some 4, .box (.t 0) 4, none, []⟩,
  ⟨some 5, .box (.t 1) 8, none, []⟩,
  ⟨some 6, .box (.t 2) 4, none, []⟩,
  ⟨some 8, .mv (.c (.bool false)), none, []⟩] [3, 4, 5, 6]) k s Q := rfl
def c10_1 : ACode := .ops [⟨some 15, .load 4 true (.t 4), none, [4]⟩,
  ⟨some 16, .call 45 [.t 15], none, []⟩,
  ⟨some 9, .alloc [.int .i64 0, .int .i64 0, .int .i64 0, .int .i64 0, .int .i64 0, .nils], none, []⟩,
  ⟨none, .store (.t 9) 6 (.t 16), none, [9]⟩] [3, 5, 6, 9]
theorem r10_1 {C : Cs} {k : List Fr} {s : St} {Q : Post} : run C c10_1 k s Q = run C (.ops [⟨some 15, .load 4 true (.t 4), none, [4]⟩,
  ⟨some 16, .call 45 [.t 15], none, []⟩,
  ⟨some 9, .alloc [.int .i64 0, .int .i64 0, .int .i64 0, .int .i64 0, .int .i64 0, .nils], none, []⟩,
  ⟨none, .store (.t 9) 6 (.t 16), none, [9]⟩] [3, 5, 6, 9]) k s Q := rfl
def c10_2 : ACode := .ops [⟨some 17, .load 8 true (.t 5), none, [5]⟩,
  ⟨some 18, .load 6 true (.t 9), none, [9]⟩,
  ⟨some 19, .call 59 [.t 17, .t 18], none, []⟩,
  ⟨some 10, .alloc [.int .i64 0, .int .i64 0, .int .i64 0, .int .i64 0, .int .i64 0, .int .i64 0, .int .i64 0, .int .i64 0, .int .i64 0, .int .i64 0, .int .i64 0, .int .i64 0, .int .i64 0, .int .i64 0, .int .i64 0, .bool false, .int .i64 0], none, []⟩,
  ⟨none, .store (.t 10) 17 (.t 19), none, [10]⟩] [3, 5, 6, 9, 10]
theorem r10_2 {C : Cs} {k : List Fr} {s : St} {Q : Post} : run C c10_2 k s Q = run C (.ops [⟨some 17, .load 8 true (.t 5), none, [5]⟩,
  ⟨some 18, .load 6 true (.t 9), none, [9]⟩,
  ⟨some 19, .call 59 [.t 17, .t 18], none, []⟩,
  ⟨some 10, .alloc [.int .i64 0, .int .i64 0, .int .i64 0, .int .i64 0, .int .i64 0, .int .i64 0, .int .i64 0, .int .i64 0, .int .i64 0, .int .i64 0, .int .i64 0, .int .i64 0, .int .i64 0, .int .i64 0, .int .i64 0, .bool false, .int .i64 0], none, []⟩,
  ⟨none, .store (.t 10) 17 (.t 19), none, [10]⟩] [3, 5, 6, 9, 10]) k s Q := rfl
def c10_3 : ACode := .ops [⟨some 20, .load 17 true (.t 10), none, [10]⟩,
  ⟨some 21, .call 58 [.t 20], none, []⟩,
  ⟨some 22, .load 17 true (.t 10), none, [10]⟩,
  ⟨some 23, .load 4 true (.t 6), none, [6]⟩,
  ⟨some 24, .mv (.t 3), none, []⟩,
  ⟨some 25, .call 64 [.t 22, .t 23, .t 24], none, []⟩,
  ⟨some 11, .alloc [.int .i64 0, .int .i64 0, .int .i64 0, .int .i64 0, .int .i64 0, .int .i64 0, .int .i64 0, .int .i64 0, .int .i64 0, .int .i64 0], none, []⟩,
  ⟨some 12, .alloc [.int .i64 0, .int .i64 0, .int .i64 0, .int .i64 0], none, []⟩,
  ⟨none, .store (.t 11) 10 (.t 21), none, [11]⟩,
  ⟨none, .store (.t 12) 4 (.t 25), none, [12]⟩] [3, 5, 6, 9, 10, 11, 12]
theorem r10_3 {C : Cs} {k : List Fr} {s : St} {Q : Post} : run C c10_3 k s Q = run C (.ops [⟨some 20, .load 17 true (.t 10), none, [10]⟩,
  ⟨some 21, .call 58 [.t 20], none, []⟩,
  ⟨some 22, .load 17 true (.t 10), none, [10]⟩,
  ⟨some 23, .load 4 true (.t 6), none, [6]⟩,
  ⟨some 24, .mv (.t 3), none, []⟩,
  ⟨some 25, .call 64 [.t 22, .t 23, .t 24], none, []⟩,
  ⟨some 11, .alloc [.int .i64 0, .int .i64 0, .int .i64 0, .int .i64 0, .int .i64 0, .int .i64 0, .int .i64 0, .int .i64 0, .int .i64 0, .int .i64 0], none, []⟩,
  ⟨some 12, .alloc [.int .i64 0, .int .i64 0, .int .i64 0, .int .i64 0], none, []⟩,
  ⟨none, .store (.t 11) 10 (.t 21), none, [11]⟩,
  ⟨none, .store (.t 12) 4 (.t 25), none, [12]⟩] [3, 5, 6, 9, 10, 11, 12]) k s Q := rfl
def c10_4 : ACode := .ops [⟨some 26, .mv (.c (.int .i64 0)), none, []⟩] [3, 5, 6, 9, 10, 11, 12, 26]
theorem r10_4 {C : Cs} {k : List Fr} {s : St} {Q : Post} : run C c10_4 k s Q = run C (.ops [⟨some 26, .mv (.c (.int .i64 0)), none, []⟩] [3, 5, 6, 9, 10, 11, 12, 26]) k s Q := rfl
def c10_5 : ACode := .ops [⟨some 27, .bin .lss (.t 26) (.c (.int .i64 4)), none, []⟩] [3, 5, 6, 9, 10, 11, 12, 26, 27]
theorem r10_5 {C : Cs} {k : List Fr} {s : St} {Q : Post} : run C c10_5 k s Q = run C (.ops [⟨some 27, .bin .lss (.t 26) (.c (.int .i64 4)), none, []⟩] [3, 5, 6, 9, 10, 11, 12, 26, 27]) k s Q := rfl
def c10_6 : ACode := .cond (.t 27) .skip (.exit 0)
theorem r10_6 {C : Cs} {k : List Fr} {s : St} {Q : Post} : run C c10_6 k s Q = run C (.cond (.t 27) .skip (.exit 0)) k s Q := rfl
def c10_7 : ACode := .ops [⟨some 28, .mv (.t 26), none, []⟩,
  ⟨some 13, .mv (.t 28), none, []⟩] [3, 5, 6, 9, 10, 11, 12, 13, 26]
theorem r10_7 {C : Cs} {k : List Fr} {s : St} {Q : Post} : run C c10_7 k s Q = run C (.ops [⟨some 28, .mv (.t 26), none, []⟩,
  ⟨some 13, .mv (.t 28), none, []⟩] [3, 5, 6, 9, 10, 11, 12, 13, 26]) k s Q := rfl
def c10_8 : ACode := .ops [⟨some 29, .mv (.t 13), none, []⟩,
  ⟨some 30, .iad (.t 6) (.t 29) 1 4, none, [6]⟩,
  ⟨some 31, .load 1 false (.t 30), none, [6]⟩,
  ⟨some 14, .mv (.t 31), none, []⟩] [3, 5, 6, 9, 10, 11, 12, 13, 14, 26]
theorem r10_8 {C : Cs} {k : List Fr} {s : St} {Q : Post} : run C c10_8 k s Q = run C (.ops [⟨some 29, .mv (.t 13), none, []⟩,
  ⟨some 30, .iad (.t 6) (.t 29) 1 4, none, [6]⟩,
  ⟨some 31, .load 1 false (.t 30), none, [6]⟩,
  ⟨some 14, .mv (.t 31), none, []⟩] [3, 5, 6, 9, 10, 11, 12, 13, 14, 26]) k s Q := rfl
def c10_9 : ACode := .ops [⟨some 32, .fad (.t 10) 0, none, [10]⟩,
  ⟨some 33, .load 1 false (.t 32), none, [10]⟩,
  ⟨some 34, .bin .eql (.t 33) (.c (.int .i64 3)), none, []⟩,
  ⟨some 35, .mv (.t 34), none, []⟩,
  ⟨some 36, .mv (.t 13), some (35, true), []⟩,
  ⟨some 37, .fad (.t 10) 14, some (35, true), [10]⟩,
  ⟨some 38, .load 1 false (.t 37), some (35, true), [10]⟩,
  ⟨some 39, .bin .eql (.t 36) (.t 38), some (35, true), []⟩,
  ⟨some 40, .pick (.t 35) (.t 39) (.c (.bool false)), none, []⟩] [3, 5, 6, 9, 10, 11, 12, 13, 14, 26, 40]
theorem r10_9 {C : Cs} {k : List Fr} {s : St} {Q : Post} : run C c10_9 k s Q = run C (.ops [⟨some 32, .fad (.t 10) 0, none, [10]⟩,
  ⟨some 33, .load 1 false (.t 32), none, [10]⟩,
  ⟨some 34, .bin .eql (.t 33) (.c (.int .i64 3)), none, []⟩,
  ⟨some 35, .mv (.t 34), none, []⟩,
  ⟨some 36, .mv (.t 13), some (35, true), []⟩,
  ⟨some 37, .fad (.t 10) 14, some (35, true), [10]⟩,
  ⟨some 38, .load 1 false (.t 37), some (35, true), [10]⟩,
  ⟨some 39, .bin .eql (.t 36) (.t 38), some (35, true), []⟩,
  ⟨some 40, .pick (.t 35) (.t 39) (.c (.bool false)), none, []⟩] [3, 5, 6, 9, 10, 11, 12, 13, 14, 26, 40]) k s Q := rfl
def c10_10 : ACode := .ops [⟨some 41, .mv (.t 3), none, []⟩,
  ⟨some 14, .mv (.t 41), none, []⟩] [3, 5, 6, 9, 10, 11, 12, 13, 14, 26]
theorem r10_10 {C : Cs} {k : List Fr} {s : St} {Q : Post} : run C c10_10 k s Q = run C (.ops [⟨some 41, .mv (.t 3), none, []⟩,
  ⟨some 14, .mv (.t 41), none, []⟩] [3, 5, 6, 9, 10, 11, 12, 13, 14, 26]) k s Q := rfl
def c10_11 : ACode := .cond (.t 40) c10_10 .skip
theorem r10_11 {C : Cs} {k : List Fr} {s : St} {Q : Post} : run C c10_11 k s Q = run C (.cond (.t 40) c10_10 .skip) k s Q := rfl
def c10_12 : ACode := .seq c10_9 c10_11
theorem r10_12 {C : Cs} {k : List Fr} {s : St} {Q : Post} : run C c10_12 k s Q = run C (.seq c10_9 c10_11) k s Q := rfl
def c10_13 : ACode := .ops [⟨some 42, .mv (.t 13), none, []⟩,
  ⟨some 43, .iad (.t 12) (.t 42) 1 4, none, [12]⟩,
  ⟨some 44, .load 1 false (.t 43), none, [12]⟩,
  ⟨some 45, .mv (.t 14), none, []⟩,
  ⟨some 46, .bin .neq (.t 44) (.t 45), none, []⟩,
  ⟨some 47, .mv (.t 46), none, []⟩,
  ⟨some 48, .mv (.t 13), some (47, false), []⟩,
  ⟨some 49, .iad (.t 11) (.t 48) 2 5, some (47, false), [11]⟩,
  ⟨some 50, .load 2 true (.t 49), some (47, false), [11]⟩,
  ⟨some 51, .mv (.t 13), some (47, false), []⟩,
  ⟨some 52, .fad (.t 10) 2, some (47, false), [10]⟩,
  ⟨some 53, .iad (.t 52) (.t 51) 2 5, some (47, false), [10]⟩,
  ⟨some 54, .load 2 true (.t 53), some (47, false), [10]⟩,
  ⟨some 55, .eqa true [false, false] (.t 50) (.t 54), some (47, false), []⟩,
  ⟨some 56, .pick (.t 47) (.c (.bool true)) (.t 55), none, []⟩] [3, 5, 6, 9, 10, 11, 12, 26, 56]
theorem r10_13 {C : Cs} {k : List Fr} {s : St} {Q : Post} : run C c10_13 k s Q = run C (.ops [⟨some 42, .mv (.t 13), none, []⟩,
  ⟨some 43, .iad (.t 12) (.t 42) 1 4, none, [12]⟩,
  ⟨some 44, .load 1 false (.t 43), none, [12]⟩,
  ⟨some 45, .mv (.t 14), none, []⟩,
  ⟨some 46, .bin .neq (.t 44) (.t 45), none, []⟩,
  ⟨some 47, .mv (.t 46), none, []⟩,
  ⟨some 48, .mv (.t 13), some (47, false), []⟩,
  ⟨some 49, .iad (.t 11) (.t 48) 2 5, some (47, false), [11]⟩,
  ⟨some 50, .load 2 true (.t 49), some (47, false), [11]⟩,
  ⟨some 51, .mv (.t 13), some (47, false), []⟩,
  ⟨some 52, .fad (.t 10) 2, some (47, false), [10]⟩,
  ⟨some 53, .iad (.t 52) (.t 51) 2 5, some (47, false), [10]⟩,
  ⟨some 54, .load 2 true (.t 53), some (47, false), [10]⟩,
  ⟨some 55, .eqa true [false, false] (.t 50) (.t 54), some (47, false), []⟩,
  ⟨some 56, .pick (.t 47) (.c (.bool true)) (.t 55), none, []⟩] [3, 5, 6, 9, 10, 11, 12, 26, 56]) k s Q := rfl
def c10_14 : ACode := .ops [⟨some 8, .mv (.c (.bool false)), none, []⟩] [8]
theorem r10_14 {C : Cs} {k : List Fr} {s : St} {Q : Post} : run C c10_14 k s Q = run C (.ops [⟨some 8, .mv (.c (.bool false)), none, []⟩] [8]) k s Q := rfl
def c10_15 : ACode := .seq c10_14 .ret
theorem r10_15 {C : Cs} {k : List Fr} {s : St} {Q : Post} : run C c10_15 k s Q = run C (.seq c10_14 .ret) k s Q := rfl
def c10_16 : ACode := .cond (.t 56) c10_15 .skip
theorem r10_16 {C : Cs} {k : List Fr} {s : St} {Q : Post} : run C c10_16 k s Q = run C (.cond (.t 56) c10_15 .skip) k s Q := rfl
def c10_17 : ACode := .seq c10_13 c10_16
theorem r10_17 {C : Cs} {k : List Fr} {s : St} {Q : Post} : run C c10_17 k s Q = run C (.seq c10_13 c10_16) k s Q := rfl
def c10_18 : ACode := .seq c10_12 c10_17
theorem r10_18 {C : Cs} {k : List Fr} {s : St} {Q : Post} : run C c10_18 k s Q = run C (.seq c10_12 c10_17) k s Q := rfl
def c10_19 : ACode := .seq c10_8 c10_18
theorem r10_19 {C : Cs} {k : List Fr} {s : St} {Q : Post} : run C c10_19 k s Q = run C (.seq c10_8 c10_18) k s Q := rfl
def c10_20 : ACode := .seq c10_7 c10_19
theorem r10_20 {C : Cs} {k : List Fr} {s : St} {Q : Post} : run C c10_20 k s Q = run C (.seq c10_7 c10_19) k s Q := rfl
def c10_21 : ACode := .block 1 c10_20
theorem r10_21 {C : Cs} {k : List Fr} {s : St} {Q : Post} : run C c10_21 k s Q = run C (.block 1 c10_20) k s Q := rfl
def c10_22 : ACode := .ops [⟨some 57, .bin .add (.t 26) (.c (.int .i64 1)), none, []⟩,
  ⟨some 26, .mv (.t 57), none, []⟩] [3, 5, 6, 9, 10, 11, 12, 26]
theorem r10_22 {C : Cs} {k : List Fr} {s : St} {Q : Post} : run C c10_22 k s Q = run C (.ops [⟨some 57, .bin .add (.t 26) (.c (.int .i64 1)), none, []⟩,
  ⟨some 26, .mv (.t 57), none, []⟩] [3, 5, 6, 9, 10, 11, 12, 26]) k s Q := rfl
def c10_23 : ACode := .seq c10_21 c10_22
theorem r10_23 {C : Cs} {k : List Fr} {s : St} {Q : Post} : run C c10_23 k s Q = run C (.seq c10_21 c10_22) k s Q := rfl
def c10_24 : ACode := .seq c10_6 c10_23
theorem r10_24 {C : Cs} {k : List Fr} {s : St} {Q : Post} : run C c10_24 k s Q = run C (.seq c10_6 c10_23) k s Q := rfl
def c10_25 : ACode := .seq c10_5 c10_24
theorem r10_25 {C : Cs} {k : List Fr} {s : St} {Q : Post} : run C c10_25 k s Q = run C (.seq c10_5 c10_24) k s Q := rfl
def c10_26 : ACode := .keep [3, 5, 6, 9, 10, 11, 12, 26] [5, 6, 9, 10, 11, 12] c10_25
theorem r10_26 {C : Cs} {k : List Fr} {s : St} {Q : Post} : run C c10_26 k s Q = run C (.keep [3, 5, 6, 9, 10, 11, 12, 26] [5, 6, 9, 10, 11, 12] c10_25) k s Q := rfl
def c10_27 : ACode := .loop c10_26
theorem r10_27 {C : Cs} {k : List Fr} {s : St} {Q : Post} : run C c10_27 k s Q = run C (.loop c10_26) k s Q := rfl
def c10_28 : ACode := .block 0 c10_27
theorem r10_28 {C : Cs} {k : List Fr} {s : St} {Q : Post} : run C c10_28 k s Q = run C (.block 0 c10_27) k s Q := rfl
def c10_29 : ACode := .seq c10_4 c10_28
theorem r10_29 {C : Cs} {k : List Fr} {s : St} {Q : Post} : run C c10_29 k s Q = run C (.seq c10_4 c10_28) k s Q := rfl
def c10_30 : ACode := .ops [⟨some 58, .fad (.t 10) 0, none, [10]⟩,
  ⟨some 59, .load 1 false (.t 58), none, [10]⟩,
  ⟨some 60, .bin .neq (.t 59) (.c (.int .i64 3)), none, []⟩] [3, 5, 6, 9, 10, 11, 60]
theorem r10_30 {C : Cs} {k : List Fr} {s : St} {Q : Post} : run C c10_30 k s Q = run C (.ops [⟨some 58, .fad (.t 10) 0, none, [10]⟩,
  ⟨some 59, .load 1 false (.t 58), none, [10]⟩,
  ⟨some 60, .bin .neq (.t 59) (.c (.int .i64 3)), none, []⟩] [3, 5, 6, 9, 10, 11, 60]) k s Q := rfl
def c10_31 : ACode := .ops [⟨some 61, .iad (.t 11) (.c (.int .i64 4)) 2 5, none, [11]⟩,
  ⟨some 62, .load 2 true (.t 61), none, [11]⟩,
  ⟨some 63, .build [.int .i64 0, .int .i64 0] [], none, []⟩,
  ⟨some 64, .eqa false [false, false] (.t 62) (.t 63), none, []⟩,
  ⟨some 65, .mv (.t 64), none, []⟩,
  ⟨some 66, .load 6 true (.t 9), some (65, true), [9]⟩,
  ⟨some 67, .load 17 true (.t 10), some (65, true), [10]⟩,
  ⟨some 68, .load 4 true (.t 6), some (65, true), [6]⟩,
  ⟨some 69, .mv (.t 3), some (65, true), []⟩,
  ⟨some 70, .call 57 [.t 66, .t 67, .t 68, .t 69], some (65, true), []⟩,
  ⟨some 71, .load 6 true (.t 9), some (65, true), [9]⟩,
  ⟨some 72, .load 17 true (.t 10), some (65, true), [10]⟩,
  ⟨some 73, .load 4 true (.t 6), some (65, true), [6]⟩,
  ⟨some 74, .mv (.t 3), some (65, true), []⟩,
  ⟨some 75, .bin .add (.t 74) (.c (.int .i64 1)), some (65, true), []⟩,
  ⟨some 76, .call 57 [.t 71, .t 72, .t 73, .t 75], some (65, true), []⟩,
  ⟨some 77, .eqb false (.t 70) (.t 76), some (65, true), []⟩,
  ⟨some 78, .pick (.t 65) (.t 77) (.c (.bool false)), none, []⟩,
  ⟨some 79, .mv (.t 78), none, []⟩,
  ⟨some 80, .call 7 [], some (79, true), []⟩,
  ⟨some 81, .pick (.t 79) (.t 80) (.c (.bool false)), none, []⟩,
  ⟨some 8, .mv (.t 81), none, []⟩] [8]
theorem r10_31 {C : Cs} {k : List Fr} {s : St} {Q : Post} : run C c10_31 k s Q = run C (.ops [⟨some 61, .iad (.t 11) (.c (.int .i64 4)) 2 5, none, [11]⟩,
  ⟨some 62, .load 2 true (.t 61), none, [11]⟩,
  ⟨some 63, .build [.int .i64 0, .int .i64 0] [], none, []⟩,
  ⟨some 64, .eqa false [false, false] (.t 62) (.t 63), none, []⟩,
  ⟨some 65, .mv (.t 64), none, []⟩,
  ⟨some 66, .load 6 true (.t 9), some (65, true), [9]⟩,
  ⟨some 67, .load 17 true (.t 10), some (65, true), [10]⟩,
  ⟨some 68, .load 4 true (.t 6), some (65, true), [6]⟩,
  ⟨some 69, .mv (.t 3), some (65, true), []⟩,
  ⟨some 70, .call 57 [.t 66, .t 67, .t 68, .t 69], some (65, true), []⟩,
  ⟨some 71, .load 6 true (.t 9), some (65, true), [9]⟩,
  ⟨some 72, .load 17 true (.t 10), some (65, true), [10]⟩,
  ⟨some 73, .load 4 true (.t 6), some (65, true), [6]⟩,
  ⟨some 74, .mv (.t 3), some (65, true), []⟩,
  ⟨some 75, .bin .add (.t 74) (.c (.int .i64 1)), some (65, true), []⟩,
  ⟨some 76, .call 57 [.t 71, .t 72, .t 73, .t 75], some (65, true), []⟩,
  ⟨some 77, .eqb false (.t 70) (.t 76), some (65, true), []⟩,
  ⟨some 78, .pick (.t 65) (.t 77) (.c (.bool false)), none, []⟩,
  ⟨some 79, .mv (.t 78), none, []⟩,
  ⟨some 80, .call 7 [], some (79, true), []⟩,
  ⟨some 81, .pick (.t 79) (.t 80) (.c (.bool false)), none, []⟩,
  ⟨some 8, .mv (.t 81), none, []⟩] [8]) k s Q := rfl
def c10_32 : ACode := .seq c10_31 .ret
theorem r10_32 {C : Cs} {k : List Fr} {s : St} {Q : Post} : run C c10_32 k s Q = run C (.seq c10_31 .ret) k s Q := rfl
def c10_33 : ACode := .cond (.t 60) c10_32 .skip
theorem r10_33 {C : Cs} {k : List Fr} {s : St} {Q : Post} : run C c10_33 k s Q = run C (.cond (.t 60) c10_32 .skip) k s Q := rfl
def c10_34 : ACode := .seq c10_30 c10_33
theorem r10_34 {C : Cs} {k : List Fr} {s : St} {Q : Post} : run C c10_34 k s Q = run C (.seq c10_30 c10_33) k s Q := rfl
def c10_35 : ACode := .ops [⟨some 82, .mv (.t 3), none, []⟩,
  ⟨some 83, .call 63 [.t 82, .c (.int .i64 0), .c (.int .i64 9)], none, []⟩,
  ⟨some 84, .bin .add (.c (.int .i64 4)) (.t 83), none, []⟩,
  ⟨some 85, .fad (.t 10) 14, none, [10]⟩,
  ⟨none, .store (.t 85) 1 (.t 84), none, [10]⟩] [3, 5, 6, 9, 10, 11]
theorem r10_35 {C : Cs} {k : List Fr} {s : St} {Q : Post} : run C c10_35 k s Q = run C (.ops [⟨some 82, .mv (.t 3), none, []⟩,
  ⟨some 83, .call 63 [.t 82, .c (.int .i64 0), .c (.int .i64 9)], none, []⟩,
  ⟨some 84, .bin .add (.c (.int .i64 4)) (.t 83), none, []⟩,
  ⟨some 85, .fad (.t 10) 14, none, [10]⟩,
  ⟨none, .store (.t 85) 1 (.t 84), none, [10]⟩] [3, 5, 6, 9, 10, 11]) k s Q := rfl
def c10_36 : ACode := .ops [⟨some 86, .iad (.t 11) (.c (.int .i64 4)) 2 5, none, [11]⟩,
  ⟨some 87, .load 2 true (.t 86), none, [11]⟩,
  ⟨some 88, .load 8 true (.t 5), none, [5]⟩,
  ⟨some 89, .load 6 true (.t 9), none, [9]⟩,
  ⟨some 90, .call 65 [.t 88, .t 89], none, []⟩,
  ⟨some 91, .iad (.t 11) (.t 90) 2 5, none, [11]⟩,
  ⟨some 92, .load 2 true (.t 91), none, [11]⟩,
  ⟨some 93, .eqa false [false, false] (.t 87) (.t 92), none, []⟩,
  ⟨some 94, .mv (.t 93), none, []⟩,
  ⟨some 95, .load 17 true (.t 10), some (94, true), [10]⟩,
  ⟨some 96, .load 4 true (.t 6), some (94, true), [6]⟩,
  ⟨some 97, .mv (.t 3), some (94, true), []⟩,
  ⟨some 98, .call 64 [.t 95, .t 96, .t 97], some (94, true), []⟩,
  ⟨some 99, .load 4 true (.t 6), some (94, true), [6]⟩,
  ⟨some 100, .eqa false [false, false, false, false] (.t 98) (.t 99), some (94, true), []⟩,
  ⟨some 101, .pick (.t 94) (.t 100) (.c (.bool false)), none, []⟩,
  ⟨some 102, .mv (.t 101), none, []⟩,
  ⟨some 103, .load 17 true (.t 10), some (102, true), [10]⟩,
  ⟨some 104, .call 58 [.t 103], some (102, true), []⟩,
  ⟨some 105, .idx (.t 104) (.c (.int .i64 4)) 2 5 true, some (102, true), []⟩,
  ⟨some 106, .build [.int .i64 0, .int .i64 0] [], some (102, true), []⟩,
  ⟨some 107, .eqa false [false, false] (.t 105) (.t 106), some (102, true), []⟩,
  ⟨some 108, .pick (.t 102) (.t 107) (.c (.bool false)), none, []⟩,
  ⟨some 109, .mv (.t 108), none, []⟩,
  ⟨some 110, .load 6 true (.t 9), some (109, true), [9]⟩,
  ⟨some 111, .load 17 true (.t 10), some (109, true), [10]⟩,
  ⟨some 112, .load 4 true (.t 6), some (109, true), [6]⟩,
  ⟨some 113, .mv (.t 3), some (109, true), []⟩,
  ⟨some 114, .call 57 [.t 110, .t 111, .t 112, .t 113], some (109, true), []⟩,
  ⟨some 115, .un .not (.t 114), some (109, true), []⟩,
  ⟨some 116, .pick (.t 109) (.t 115) (.c (.bool false)), none, []⟩,
  ⟨some 117, .mv (.t 116), none, []⟩,
  ⟨some 118, .call 7 [], some (117, true), []⟩,
  ⟨some 119, .pick (.t 117) (.t 118) (.c (.bool false)), none, []⟩,
  ⟨some 8, .mv (.t 119), none, []⟩] [8]
theorem r10_36 {C : Cs} {k : List Fr} {s : St} {Q : Post} : run C c10_36 k s Q = run C (.ops [⟨some 86, .iad (.t 11) (.c (.int .i64 4)) 2 5, none, [11]⟩,
  ⟨some 87, .load 2 true (.t 86), none, [11]⟩,
  ⟨some 88, .load 8 true (.t 5), none, [5]⟩,
  ⟨some 89, .load 6 true (.t 9), none, [9]⟩,
  ⟨some 90, .call 65 [.t 88, .t 89], none, []⟩,
  ⟨some 91, .iad (.t 11) (.t 90) 2 5, none, [11]⟩,
  ⟨some 92, .load 2 true (.t 91), none, [11]⟩,
  ⟨some 93, .eqa false [false, false] (.t 87) (.t 92), none, []⟩,
  ⟨some 94, .mv (.t 93), none, []⟩,
  ⟨some 95, .load 17 true (.t 10), some (94, true), [10]⟩,
  ⟨some 96, .load 4 true (.t 6), some (94, true), [6]⟩,
  ⟨some 97, .mv (.t 3), some (94, true), []⟩,
  ⟨some 98, .call 64 [.t 95, .t 96, .t 97], some (94, true), []⟩,
  ⟨some 99, .load 4 true (.t 6), some (94, true), [6]⟩,
  ⟨some 100, .eqa false [false, false, false, false] (.t 98) (.t 99), some (94, true), []⟩,
  ⟨some 101, .pick (.t 94) (.t 100) (.c (.bool false)), none, []⟩,
  ⟨some 102, .mv (.t 101), none, []⟩,
  ⟨some 103, .load 17 true (.t 10), some (102, true), [10]⟩,
  ⟨some 104, .call 58 [.t 103], some (102, true), []⟩,
  ⟨some 105, .idx (.t 104) (.c (.int .i64 4)) 2 5 true, some (102, true), []⟩,
  ⟨some 106, .build [.int .i64 0, .int .i64 0] [], some (102, true), []⟩,
  ⟨some 107, .eqa false [false, false] (.t 105) (.t 106), some (102, true), []⟩,
  ⟨some 108, .pick (.t 102) (.t 107) (.c (.bool false)), none, []⟩,
  ⟨some 109, .mv (.t 108), none, []⟩,
  ⟨some 110, .load 6 true (.t 9), some (109, true), [9]⟩,
  ⟨some 111, .load 17 true (.t 10), some (109, true), [10]⟩,
  ⟨some 112, .load 4 true (.t 6), some (109, true), [6]⟩,
  ⟨some 113, .mv (.t 3), some (109, true), []⟩,
  ⟨some 114, .call 57 [.t 110, .t 111, .t 112, .t 113], some (109, true), []⟩,
  ⟨some 115, .un .not (.t 114), some (109, true), []⟩,
  ⟨some 116, .pick (.t 109) (.t 115) (.c (.bool false)), none, []⟩,
  ⟨some 117, .mv (.t 116), none, []⟩,
  ⟨some 118, .call 7 [], some (117, true), []⟩,
  ⟨some 119, .pick (.t 117) (.t 118) (.c (.bool false)), none, []⟩,
  ⟨some 8, .mv (.t 119), none, []⟩] [8]) k s Q := rfl
def c10_37 : ACode := .seq c10_36 .ret
theorem r10_37 {C : Cs} {k : List Fr} {s : St} {Q : Post} : run C c10_37 k s Q = run C (.seq c10_36 .ret) k s Q := rfl
def c10_38 : ACode := .seq c10_35 c10_37
theorem r10_38 {C : Cs} {k : List Fr} {s : St} {Q : Post} : run C c10_38 k s Q = run C (.seq c10_35 c10_37) k s Q := rfl
def c10_39 : ACode := .seq c10_34 c10_38
theorem r10_39 {C : Cs} {k : List Fr} {s : St} {Q : Post} : run C c10_39 k s Q = run C (.seq c10_34 c10_38) k s Q := rfl
def c10_40 : ACode := .seq c10_29 c10_39
theorem r10_40 {C : Cs} {k : List Fr} {s : St} {Q : Post} : run C c10_40 k s Q = run C (.seq c10_29 c10_39) k s Q := rfl
def c10_41 : ACode := .seq c10_3 c10_40
theorem r10_41 {C : Cs} {k : List Fr} {s : St} {Q : Post} : run C c10_41 k s Q = run C (.seq c10_3 c10_40) k s Q := rfl
def c10_42 : ACode := .seq c10_2 c10_41
theorem r10_42 {C : Cs} {k : List Fr} {s : St} {Q : Post} : run C c10_42 k s Q = run C (.seq c10_2 c10_41) k s Q := rfl
def c10_43 : ACode := .seq c10_1 c10_42
theorem r10_43 {C : Cs} {k : List Fr} {s : St} {Q : Post} : run C c10_43 k s Q = run C (.seq c10_1 c10_42) k s Q := rfl
def c10_44 : ACode := .seq c10_0 c10_43
theorem r10_44 {C : Cs} {k : List Fr} {s : St} {Q : Post} : run C c10_44 k s Q = run C (.seq c10_0 c10_43) k s Q := rfl
def a10 : AFun := ⟨4, 120, c10_44, [.t 8]⟩
attribute [simp] r10_0 r10_1 r10_2 r10_3 r10_4 r10_5 r10_6 r10_7 r10_8 r10_9 r10_10 r10_11 r10_12 r10_13 r10_14 r10_15 r10_16 r10_17 r10_18 r10_19 r10_20 r10_21 r10_22 r10_23 r10_24 r10_25 r10_26 r10_27 r10_28 r10_29 r10_30 r10_31 r10_32 r10_33 r10_34 r10_35 r10_36 r10_37 r10_38 r10_39 r10_40 r10_41 r10_42 r10_43 r10_44
theorem m10 : mFun Try.prog Try.f10 a10 = true := by decide +kernel
/- copse/copselaw10.a2 -/
def c65_0 : ACode := .ops [⟨some 2, .box (.t 0) 8, none, []⟩,
  ⟨some 3, .box (.t 1) 6, none, []⟩,
  ⟨some 4, .mv (.c (.int .i64 0)), none, []⟩] [2, 3]
theorem r65_0 {C : Cs} {k : List Fr} {s : St} {Q : Post} : run C c65_0 k s Q = run C (.ops [⟨some 2, .box (.t 0) 8, none, []⟩,
  ⟨some 3, .box (.t 1) 6, none, []⟩,
  ⟨some 4, .mv (.c (.int .i64 0)), none, []⟩] [2, 3]) k s Q := rfl
def c65_1 : ACode := .ops [⟨some 5, .load 8 true (.t 2), none, [2]⟩,
  ⟨some 6, .load 6 true (.t 3), none, [3]⟩,
  ⟨some 7, .call 59 [.t 5, .t 6], none, []⟩,
  ⟨some 8, .fld (.t 7) 14 1 false, none, []⟩,
  ⟨some 4, .mv (.t 8), none, []⟩] [4]
theorem r65_1 {C : Cs} {k : List Fr} {s : St} {Q : Post} : run C c65_1 k s Q = run C (.ops [⟨some 5, .load 8 true (.t 2), none, [2]⟩,
  ⟨some 6, .load 6 true (.t 3), none, [3]⟩,
  ⟨some 7, .call 59 [.t 5, .t 6], none, []⟩,
  ⟨some 8, .fld (.t 7) 14 1 false, none, []⟩,
  ⟨some 4, .mv (.t 8), none, []⟩] [4]) k s Q := rfl
def c65_2 : ACode := .seq c65_1 .ret
theorem r65_2 {C : Cs} {k : List Fr} {s : St} {Q : Post} : run C c65_2 k s Q = run C (.seq c65_1 .ret) k s Q := rfl
def c65_3 : ACode := .seq c65_0 c65_2
theorem r65_3 {C : Cs} {k : List Fr} {s : St} {Q : Post} : run C c65_3 k s Q = run C (.seq c65_0 c65_2) k s Q := rfl
def a65 : AFun := ⟨2, 9, c65_3, [.t 4]⟩
attribute [simp] r65_0 r65_1 r65_2 r65_3
theorem m65 : mFun Try.prog Try.f65 a65 = true := by decide +kernel

/- copse/copselaw10.QueryRuns -/
def c7_0 : ACode := .ops [⟨some 0, .mv (.c (.bool false)), none, []⟩] []
def c7_1 : ACode := .ops [⟨some 5, .call 43 [], none, []⟩,
  ⟨some 1, .alloc [.int .i64 0, .int .i64 0, .int .i64 0, .int .i64 0, .int .i64 0, .nils], none, []⟩,
  ⟨none, .store (.t 1) 6 (.t 5), none, [1]⟩] [1]
def c7_2 : ACode := .ops [⟨some 6, .build [.int .i64 0, .int .i64 0] [(0, 1, .c (.int .i64 0)), (1, 1, .c (.int .i64 9))], none, []⟩,
  ⟨some 7, .build [.int .i64 0, .int .i64 0, .int .i64 0, .int .i64 0, .int .i64 0, .int .i64 0, .int .i64 0, .int .i64 0, .int .i64 0, .int .i64 0] [(0, 2, .t 6)], none, []⟩,
  ⟨some 8, .build [.int .i64 0, .int .i64 0, .int .i64 0, .int .i64 0, .int .i64 0, .int .i64 0, .int .i64 0, .int .i64 0, .int .i64 0, .int .i64 0, .int .i64 0, .int .i64 0, .int .i64 0, .int .i64 0, .int .i64 0, .bool false, .int .i64 0] [(0, 1, .c (.int .i64 3)), (2, 10, .t 7)], none, []⟩,
  ⟨some 2, .alloc [.int .i64 0, .int .i64 0, .int .i64 0, .int .i64 0, .int .i64 0, .int .i64 0, .int .i64 0, .int .i64 0, .int .i64 0, .int .i64 0, .int .i64 0, .int .i64 0, .int .i64 0, .int .i64 0, .int .i64 0, .bool false, .int .i64 0], none, []⟩,
  ⟨none, .store (.t 2) 17 (.t 8), none, [2]⟩] [1, 2]
def c7_3 : ACode := .ops [⟨some 9, .load 17 true (.t 2), none, [2]⟩,
  ⟨some 3, .alloc [.int .i64 0, .int .i64 0, .int .i64 0, .int .i64 0, .int .i64 0, .int .i64 0, .int .i64 0, .int .i64 0, .int .i64 0, .int .i64 0, .int .i64 0, .int .i64 0, .int .i64 0, .int .i64 0, .int .i64 0, .bool false, .int .i64 0], none, []⟩,
  ⟨none, .store (.t 3) 17 (.t 9), none, [3]⟩] [1, 2, 3]
def c7_4 : ACode := .ops [⟨some 10, .fad (.t 3) 15, none, [3]⟩,
  ⟨none, .store (.t 10) 1 (.c (.bool true)), none, [3]⟩] [1, 2, 3]
def c7_5 : ACode := .ops [⟨some 11, .build [.int .i64 0, .int .i64 0] [(0, 1, .c (.int .i64 0)), (1, 1, .c (.int .i64 9))], none, []⟩,
  ⟨some 12, .build [.int .i64 0, .int .i64 0, .int .i64 0, .int .i64 0, .int .i64 0, .int .i64 0, .int .i64 0, .int .i64 0, .int .i64 0, .int .i64 0] [(0, 2, .t 11)], none, []⟩,
  ⟨some 13, .build [.int .i64 0, .int .i64 0, .int .i64 0, .int .i64 0, .int .i64 0, .int .i64 0, .int .i64 0, .int .i64 0, .int .i64 0, .int .i64 0, .int .i64 0, .int .i64 0, .int .i64 0, .int .i64 0, .int .i64 0, .bool false, .int .i64 0] [(0, 1, .c (.int .i64 1)), (2, 10, .t 12), (13, 1, .c (.int .i64 20))], none, []⟩,
  ⟨some 4, .alloc [.int .i64 0, .int .i64 0, .int .i64 0, .int .i64 0, .int .i64 0, .int .i64 0, .int .i64 0, .int .i64 0, .int .i64 0, .int .i64 0, .int .i64 0, .int .i64 0, .int .i64 0, .int .i64 0, .int .i64 0, .bool false, .int .i64 0], none, []⟩,
  ⟨none, .store (.t 4) 17 (.t 13), none, [4]⟩] [1, 2, 3, 4]
def c7_6 : ACode := .ops [⟨some 14, .load 6 true (.t 1), none, [1]⟩,
  ⟨some 15, .load 17 true (.t 2), none, [2]⟩,
  ⟨some 16, .call 56 [.t 14, .t 15], none, []⟩,
  ⟨some 17, .mv (.t 16), none, []⟩,
  ⟨some 18, .load 6 true (.t 1), some (17, true), [1]⟩,
  ⟨some 19, .load 17 true (.t 2), some (17, true), [2]⟩,
  ⟨some 20, .build [.int .i64 0, .int .i64 0, .int .i64 0, .int .i64 0] [(0, 1, .c (.int .i64 5))], some (17, true), []⟩,
  ⟨some 21, .call 57 [.t 18, .t 19, .t 20, .c (.int .i64 6)], some (17, true), []⟩,
  ⟨some 22, .un .not (.t 21), some (17, true), []⟩,
  ⟨some 23, .pick (.t 17) (.t 22) (.c (.bool false)), none, []⟩,
  ⟨some 24, .mv (.t 23), none, []⟩,
  ⟨some 25, .load 6 true (.t 1), some (24, true), [1]⟩,
  ⟨some 26, .load 17 true (.t 3), some (24, true), [3]⟩,
  ⟨some 27, .build [.int .i64 0, .int .i64 0, .int .i64 0, .int .i64 0] [(0, 1, .c (.int .i64 5))], some (24, true), []⟩,
  ⟨some 28, .call 57 [.t 25, .t 26, .t 27, .c (.int .i64 6)], some (24, true), []⟩,
  ⟨some 29, .pick (.t 24) (.t 28) (.c (.bool false)), none, []⟩,
  ⟨some 30, .mv (.t 29), none, []⟩,
  ⟨some 31, .load 6 true (.t 1), some (30, true), [1]⟩,
  ⟨some 32, .load 17 true (.t 4), some (30, true), [4]⟩,
  ⟨some 33, .build [.int .i64 0, .int .i64 0, .int .i64 0, .int .i64 0] [(0, 1, .c (.int .i64 6))], some (30, true), []⟩,
  ⟨some 34, .call 57 [.t 31, .t 32, .t 33, .c (.int .i64 0)], some (30, true), []⟩,
  ⟨some 35, .pick (.t 30) (.t 34) (.c (.bool false)), none, []⟩,
  ⟨some 36, .mv (.t 35), none, []⟩,
  ⟨some 37, .load 17 true (.t 2), some (36, true), [2]⟩,
  ⟨some 38, .call 58 [.t 37], some (36, true), []⟩,
  ⟨some 39, .build [.int .i64 0, .int .i64 0] [(0, 1, .c (.int .i64 0)), (1, 1, .c (.int .i64 9))], some (36, true), []⟩,
  ⟨some 40, .build [.int .i64 0, .int .i64 0] [], some (36, true), []⟩,
  ⟨some 41, .build [.int .i64 0, .int .i64 0] [], some (36, true), []⟩,
  ⟨some 42, .build [.int .i64 0, .int .i64 0] [], some (36, true), []⟩,
  ⟨some 43, .build [.int .i64 0, .int .i64 0] [(0, 1, .c (.int .i64 0)), (1, 1, .c (.int .i64 9))], some (36, true), []⟩,
  ⟨some 44, .build [.int .i64 0, .int .i64 0, .int .i64 0, .int .i64 0, .int .i64 0, .int .i64 0, .int .i64 0, .int .i64 0, .int .i64 0, .int .i64 0] [(0, 2, .t 39), (2, 2, .t 40), (4, 2, .t 41), (6, 2, .t 42), (8, 2, .t 43)], some (36, true), []⟩,
  ⟨some 45, .eqa false [false, false, false, false, false, false, false, false, false, false] (.t 38) (.t 44), some (36, true), []⟩,
  ⟨some 46, .pick (.t 36) (.t 45) (.c (.bool false)), none, []⟩,
  ⟨some 0, .mv (.t 46), none, []⟩] [0]
def c7_7 : ACode := .seq c7_6 .ret
def c7_8 : ACode := .seq c7_5 c7_7
def c7_9 : ACode := .seq c7_4 c7_8
def c7_10 : ACode := .seq c7_3 c7_9
def c7_11 : ACode := .seq c7_2 c7_10
def c7_12 : ACode := .seq c7_1 c7_11
def c7_13 : ACode := .seq c7_0 c7_12
def a7 : AFun := ⟨0, 47, c7_13, [.t 0]⟩
theorem m7 : mFun Try.prog Try.f7 a7 = true := by decide +kernel
/- copse/copsekeep.Three -/
def c43_0 : ACode := .ops [⟨some 0, .alloc [.int .i64 0, .int .i64 0, .int .i64 0, .int .i64 0, .int .i64 0, .nils], none, []⟩] [0]
def c43_1 : ACode := .ops [⟨some 2, .build [.bool false, .int .i64 0, .int .i64 0, .int .i64 0, .int .i64 0, .int .i64 0] [(3, 1, .c (.int .i64 5)), (4, 1, .c (.int .i64 1)), (5, 1, .c (.int .i64 2))], none, []⟩,
  ⟨some 3, .call 111 [.t 2], none, []⟩,
  ⟨some 4, .build [.bool false, .int .i64 0, .int .i64 0, .int .i64 0, .int .i64 0, .int .i64 0] [(0, 1, .c (.bool true)), (1, 1, .c (.int .i64 10))], none, []⟩,
  ⟨some 5, .call 111 [.t 4], none, []⟩,
  ⟨some 6, .build [.bool false, .int .i64 0, .int .i64 0, .int .i64 0, .int .i64 0, .int .i64 0] [(0, 1, .c (.bool true)), (1, 1, .c (.int .i64 20))], none, []⟩,
  ⟨some 7, .call 111 [.t 6], none, []⟩,
  ⟨some 8, .mkrow 1 3 1 [.int .u64 0] [(0, 1, .t 3), (1, 1, .t 5), (2, 1, .t 7)], none, []⟩,
  ⟨some 1, .mv (.t 8), none, []⟩] [0, 1]
def c43_2 : ACode := .ops [⟨some 9, .build [.int .i64 0, .int .i64 0, .int .i64 0] [(0, 1, .c (.int .i64 3))], none, []⟩,
  ⟨some 10, .mv (.t 1), none, []⟩,
  ⟨some 11, .build [.int .i64 0, .nils] [(1, 1, .t 10)], none, []⟩,
  ⟨some 12, .mkrow 12 1 2 [.int .i64 0, .nils] [(0, 2, .t 11)], none, []⟩,
  ⟨some 13, .build [.int .i64 0, .int .i64 0, .int .i64 0, .int .i64 0, .int .i64 0, .nils] [(0, 1, .c (.int .i64 1)), (1, 1, .c (.int .i64 1)), (2, 3, .t 9), (5, 1, .t 12)], none, []⟩,
  ⟨none, .store (.t 0) 6 (.t 13), none, [0]⟩] [0]
def c43_3 : ACode := .seq c43_2 .ret
def c43_4 : ACode := .seq c43_1 c43_3
def c43_5 : ACode := .seq c43_0 c43_4
def a43 : AFun := ⟨0, 14, c43_5, [.cell 0 6 true]⟩
theorem m43 : mFun Try.prog Try.f43 a43 = true := by decide +kernel
def texts7 : List (Nat × AFun) := [(7, a7), (43, a43), (56, a56), (57, a57), (58, a58), (64, a64), (69, a69), (71, a71), (76, a76), (77, a77), (99, a99), (111, a111), (115, a115), (116, a116), (117, a117), (118, a118), (119, a119), (121, a121), (122, a122), (123, a123), (124, a124), (125, a125), (128, a128), (129, a129), (130, a130), (131, a131), (148, a148), (156, a156), (160, a160), (161, a161), (162, a162), (163, a163), (164, a164), (165, a165), (176, a176)]
theorem texts7_good : Go.Am.Good Try.prog texts7 :=
  good_cons Try.func7 m7 <| good_cons Try.func43 m43 <| good_cons Try.func56 m56 <| good_cons Try.func57 m57 <| good_cons Try.func58 m58 <| good_cons Try.func64 m64 <| good_cons Try.func69 m69 <| good_cons Try.func71 m71 <| good_cons Try.func76 m76 <| good_cons Try.func77 m77 <| good_cons Try.func99 m99 <| good_cons Try.func111 m111 <| good_cons Try.func115 m115 <| good_cons Try.func116 m116 <| good_cons Try.func117 m117 <| good_cons Try.func118 m118 <| good_cons Try.func119 m119 <| good_cons Try.func121 m121 <| good_cons Try.func122 m122 <| good_cons Try.func123 m123 <| good_cons Try.func124 m124 <| good_cons Try.func125 m125 <| good_cons Try.func128 m128 <| good_cons Try.func129 m129 <| good_cons Try.func130 m130 <| good_cons Try.func131 m131 <| good_cons Try.func148 m148 <| good_cons Try.func156 m156 <| good_cons Try.func160 m160 <| good_cons Try.func161 m161 <| good_cons Try.func162 m162 <| good_cons Try.func163 m163 <| good_cons Try.func164 m164 <| good_cons Try.func165 m165 <| good_cons Try.func176 m176 <| good_nil
theorem c_closed7 : Contract Try.prog 7 (sp0 (some true)) := contract_closed mixed texts7_good (m := 1000) (n := 60) (by decide +kernel)


noncomputable def A2 (a : Ask) (m : Model) : Option Int := Part (1 ≤ m.dim ∧ m.dim ≤ 4 ∧ 1 ≤ m.classes ∧ m.classes ≤ 3) (queryOf m a).feature
theorem runs_A2 (a : Ask) (m : Model) (c : Int) (h : A2 a m = some c) : Runs (tbl [(59, sp2 QueryC)]) a65 [Arg.enc a, Arg.enc m] (Arg.enc c) := by
  obtain ⟨hm, rfl⟩ := part_some h
  refine ⟨rfl, fun g => run_def ?_⟩
  unfold a65
  have hQ : QueryC a m = some (queryOf m a) := part_of hm _
  simp -implicitDefEqProofs [hQ]
theorem c_A2 : Contract Try.prog 65 (sp2 A2) :=
  contract_of_runs mixed (tbl_cons c_Query tbl_nil) Try.func65 m65 (sp2_runs runs_A2)

theorem breaks_kind {m : Model} {q : Query} (h : q.kind ≠ 3) (p : Point) (t t' : Int) : breaks m q p t = breaks m q p t' := by
  unfold breaks
  cases hq : okQuery m q
  · rfl
  · have hs := okKind_spec (okQuery_spec hq).2.2.2.2.2
    rcases hs with ⟨k, _⟩ | ⟨k, _⟩ | ⟨k, _⟩
    · simp [k]
    · simp [k]
    · exact (h k).elim
theorem bad {m : Model} {q : Query} (hr : RM m) (h : okQuery m q = true → False) : ∀ p t, BreaksC m q p t = some false := by
  have h0 : okQuery m q = false := by
    cases hq : okQuery m q
    · rfl
    · exact (h hq).elim
  intro p t
  unfold BreaksC breaks
  rw [part_of hr, h0]
  rfl

set_option maxHeartbeats 4000000 in
set_option maxRecDepth 8000 in
theorem runs_law (f : Forest) (a : Ask) (p : Point) (t : Int) (c : Bool) (h : some true = some c) : Runs (tbl [(45, sp1 ModelC), (59, sp2 QueryC), (58, sp1 fun q => some (startOf q)), (64, sp3 fun q p t => some (secondOf q p t)), (63, sp3 Within), (57, sp4 BreaksC), (65, sp2 A2), (7, sp0 (some true))]) a10 [Arg.enc f, Arg.enc a, Arg.enc p, Arg.enc t] (Arg.enc c) := by
  cases h
  refine ⟨rfl, fun g => run_def ?_⟩
  unfold a10
  have hm := rm_modelOf f
  have hM : ModelC f = some (modelOf f) := rfl
  generalize modelOf f = m at *
  have hq := ok_queryOf m a hm
  have hQ : QueryC a m = some (queryOf m a) := part_of ⟨hm.dim.1, hm.dim.2, hm.classes.1, hm.classes.2⟩ _
  have hA : A2 a m = some (queryOf m a).feature := part_of ⟨hm.dim.1, hm.dim.2, hm.classes.1, hm.classes.2⟩ _
  generalize queryOf m a = q at *
  have hs := okQuery_spec hq
  have hk := okKind_spec hs.2.2.2.2.2
  have hd := hm.dim
  have hB : ∀ t', BreaksC m q p t' = some (breaks m q p t') := fun t' => part_of hm _
  have hBk := breaks_kind (m := m) (q := q)
  have hV := within_of t 0 9 (by omega)
  have hv := within_le t 0 9 (by omega)
  generalize within t 0 9 = v at *
  have w1 : IntKind.i64.wrap (4 + v) = 4 + v := wrap64 (by omega) (by omega)
  obtain ⟨kind, cls, region, lo, hi, feature, falls, budget⟩ := q
  simp only at hk hA
  rcases hk with ⟨k, _⟩ | ⟨k, _⟩ | ⟨k, f0, f1, _⟩
  · subst k
    have hB1 := hB t
    have hB2 : BreaksC m ⟨1, cls, region, lo, hi, feature, falls, budget⟩ p (IntKind.i64.wrap (t + 1)) = some (breaks m ⟨1, cls, region, lo, hi, feature, falls, budget⟩ p t) := by rw [hB, hBk (by simp) p (IntKind.i64.wrap (t + 1)) t]
    simp -implicitDefEqProofs [hM, hQ, hB1, hB2, startOf, secondOf, paired, run_round]
  · subst k
    have hB1 := hB t
    have hB2 : BreaksC m ⟨2, cls, region, lo, hi, feature, falls, budget⟩ p (IntKind.i64.wrap (t + 1)) = some (breaks m ⟨2, cls, region, lo, hi, feature, falls, budget⟩ p t) := by rw [hB, hBk (by simp) p (IntKind.i64.wrap (t + 1)) t]
    simp -implicitDefEqProofs [hM, hQ, hB1, hB2, startOf, secondOf, paired, run_round]
  · subst k
    have b1 := bad (q := ⟨3, cls, region, lo, hi, 4 + v, falls, budget⟩) hm (fun h => by have := okKind_spec (okQuery_spec h).2.2.2.2.2; simp only at this; omega) p t
    have e1 : ¬ 4 + v < 4 := by omega
    have hf : feature = 0 ∨ feature = 1 ∨ feature = 2 ∨ feature = 3 := by omega
    rcases hf with rfl | rfl | rfl | rfl <;>
      simp (config := { maxSteps := 1000000 }) -implicitDefEqProofs [hM, hQ, hA, hV, w1, b1, e1, startOf, secondOf, paired, Point.set, Box.get, run_round]
def law_sp : List AV → Option AV := sp4 fun (_ : Forest) (_ : Ask) (_ : Point) (_ : Int) => some true
theorem law_holds : Contract Try.prog 10 law_sp :=
  contract_of_runs mixed (tbl_cons c_Model (tbl_cons c_Query (tbl_cons c_Start (tbl_cons c_Second (tbl_cons c_Within (tbl_cons c_Breaks (tbl_cons c_A2 (tbl_cons c_closed7 tbl_nil)))))))) Try.func10 m10 (sp4_runs runs_law)
theorem law_says (f : Forest) (a : Ask) (x : Point) (y : Int) : law_sp [Arg.enc f, Arg.enc a, Arg.enc x, Arg.enc y] = some (.bool true) := by
  simp only [law_sp, sp4, Arg.dec_enc, Option.bind_some]
  rfl
end Go.Co
