/- The law ModelBest: what its text computes. -/
import Derived.Test.YtbjnmbbhlaghaaaCoRt
import Derived.Test.YtbjnmbbhlaghaaaCoH
import Derived.Test.YtbjnmbbhlaghaaaCoLib
import Derived.Test.YtbjnmbbhlaghaaaCoSh
namespace Go.Co
open Go.Am Go.Proofs
set_option linter.unusedSimpArgs false
set_option linter.unusedVariables false

/- copse/copselaw8.ModelBest -/
def c33_0 : ACode := .ops [⟨some 2, .box (.t 0) 4, none, []⟩,
  ⟨some 3, .box (.t 1) 4, none, []⟩,
  ⟨some 4, .mv (.c (.bool false)), none, []⟩] [2, 3]
theorem r33_0 {C : Cs} {k : List Fr} {s : St} {Q : Post} : run C c33_0 k s Q = run C (.ops [⟨some 2, .box (.t 0) 4, none, []⟩,
  ⟨some 3, .box (.t 1) 4, none, []⟩,
  ⟨some 4, .mv (.c (.bool false)), none, []⟩] [2, 3]) k s Q := rfl
def c33_1 : ACode := .ops [⟨some 10, .load 4 true (.t 2), none, [2]⟩,
  ⟨some 11, .call 45 [.t 10], none, []⟩,
  ⟨some 5, .alloc [.int .i64 0, .int .i64 0, .int .i64 0, .int .i64 0, .int .i64 0, .nils], none, []⟩,
  ⟨none, .store (.t 5) 6 (.t 11), none, [5]⟩] [3, 5]
theorem r33_1 {C : Cs} {k : List Fr} {s : St} {Q : Post} : run C c33_1 k s Q = run C (.ops [⟨some 10, .load 4 true (.t 2), none, [2]⟩,
  ⟨some 11, .call 45 [.t 10], none, []⟩,
  ⟨some 5, .alloc [.int .i64 0, .int .i64 0, .int .i64 0, .int .i64 0, .int .i64 0, .nils], none, []⟩,
  ⟨none, .store (.t 5) 6 (.t 11), none, [5]⟩] [3, 5]) k s Q := rfl
def c33_2 : ACode := .ops [⟨some 12, .load 6 true (.t 5), none, [5]⟩,
  ⟨some 13, .load 4 true (.t 3), none, [3]⟩,
  ⟨some 14, .call 78 [.t 12, .t 13], none, []⟩,
  ⟨some 6, .mv (.t 14), none, []⟩] [3, 5, 6]
theorem r33_2 {C : Cs} {k : List Fr} {s : St} {Q : Post} : run C c33_2 k s Q = run C (.ops [⟨some 12, .load 6 true (.t 5), none, [5]⟩,
  ⟨some 13, .load 4 true (.t 3), none, [3]⟩,
  ⟨some 14, .call 78 [.t 12, .t 13], none, []⟩,
  ⟨some 6, .mv (.t 14), none, []⟩] [3, 5, 6]) k s Q := rfl
def c33_3 : ACode := .ops [⟨some 15, .load 6 true (.t 5), none, [5]⟩,
  ⟨some 16, .call 71 [.t 15], none, []⟩,
  ⟨some 17, .un .not (.t 16), none, []⟩,
  ⟨some 18, .mv (.t 17), none, []⟩,
  ⟨some 19, .mv (.t 6), some (18, false), []⟩,
  ⟨some 20, .bin .lss (.t 19) (.c (.int .i64 0)), some (18, false), []⟩,
  ⟨some 21, .pick (.t 18) (.c (.bool true)) (.t 20), none, []⟩,
  ⟨some 22, .mv (.t 21), none, []⟩,
  ⟨some 23, .mv (.t 6), some (22, false), []⟩,
  ⟨some 24, .fad (.t 5) 1, some (22, false), [5]⟩,
  ⟨some 25, .load 1 false (.t 24), some (22, false), [5]⟩,
  ⟨some 26, .bin .geq (.t 23) (.t 25), some (22, false), []⟩,
  ⟨some 27, .pick (.t 22) (.c (.bool true)) (.t 26), none, []⟩] [3, 5, 6, 27]
theorem r33_3 {C : Cs} {k : List Fr} {s : St} {Q : Post} : run C c33_3 k s Q = run C (.ops [⟨some 15, .load 6 true (.t 5), none, [5]⟩,
  ⟨some 16, .call 71 [.t 15], none, []⟩,
  ⟨some 17, .un .not (.t 16), none, []⟩,
  ⟨some 18, .mv (.t 17), none, []⟩,
  ⟨some 19, .mv (.t 6), some (18, false), []⟩,
  ⟨some 20, .bin .lss (.t 19) (.c (.int .i64 0)), some (18, false), []⟩,
  ⟨some 21, .pick (.t 18) (.c (.bool true)) (.t 20), none, []⟩,
  ⟨some 22, .mv (.t 21), none, []⟩,
  ⟨some 23, .mv (.t 6), some (22, false), []⟩,
  ⟨some 24, .fad (.t 5) 1, some (22, false), [5]⟩,
  ⟨some 25, .load 1 false (.t 24), some (22, false), [5]⟩,
  ⟨some 26, .bin .geq (.t 23) (.t 25), some (22, false), []⟩,
  ⟨some 27, .pick (.t 22) (.c (.bool true)) (.t 26), none, []⟩] [3, 5, 6, 27]) k s Q := rfl
def c33_4 : ACode := .ops [⟨some 4, .mv (.c (.bool false)), none, []⟩] [4]
theorem r33_4 {C : Cs} {k : List Fr} {s : St} {Q : Post} : run C c33_4 k s Q = run C (.ops [⟨some 4, .mv (.c (.bool false)), none, []⟩] [4]) k s Q := rfl
def c33_5 : ACode := .seq c33_4 .ret
theorem r33_5 {C : Cs} {k : List Fr} {s : St} {Q : Post} : run C c33_5 k s Q = run C (.seq c33_4 .ret) k s Q := rfl
def c33_6 : ACode := .cond (.t 27) c33_5 .skip
theorem r33_6 {C : Cs} {k : List Fr} {s : St} {Q : Post} : run C c33_6 k s Q = run C (.cond (.t 27) c33_5 .skip) k s Q := rfl
def c33_7 : ACode := .seq c33_3 c33_6
theorem r33_7 {C : Cs} {k : List Fr} {s : St} {Q : Post} : run C c33_7 k s Q = run C (.seq c33_3 c33_6) k s Q := rfl
def c33_8 : ACode := .ops [⟨some 28, .load 6 true (.t 5), none, [5]⟩,
  ⟨some 29, .mv (.t 6), none, []⟩,
  ⟨some 30, .load 4 true (.t 3), none, [3]⟩,
  ⟨some 31, .call 69 [.t 28, .t 29, .t 30], none, []⟩,
  ⟨some 7, .mv (.t 31), none, []⟩] [3, 5, 6, 7]
theorem r33_8 {C : Cs} {k : List Fr} {s : St} {Q : Post} : run C c33_8 k s Q = run C (.ops [⟨some 28, .load 6 true (.t 5), none, [5]⟩,
  ⟨some 29, .mv (.t 6), none, []⟩,
  ⟨some 30, .load 4 true (.t 3), none, [3]⟩,
  ⟨some 31, .call 69 [.t 28, .t 29, .t 30], none, []⟩,
  ⟨some 7, .mv (.t 31), none, []⟩] [3, 5, 6, 7]) k s Q := rfl
def c33_9 : ACode := .ops [⟨some 8, .mv (.c (.int .i64 0)), none, []⟩] [3, 5, 6, 7, 8]
theorem r33_9 {C : Cs} {k : List Fr} {s : St} {Q : Post} : run C c33_9 k s Q = run C (.ops [⟨some 8, .mv (.c (.int .i64 0)), none, []⟩] [3, 5, 6, 7, 8]) k s Q := rfl
def c33_10 : ACode := .ops [⟨some 32, .mv (.t 8), none, []⟩,
  ⟨some 33, .fad (.t 5) 1, none, [5]⟩,
  ⟨some 34, .load 1 false (.t 33), none, [5]⟩,
  ⟨some 35, .bin .lss (.t 32) (.t 34), none, []⟩] [3, 5, 6, 7, 8, 35]
theorem r33_10 {C : Cs} {k : List Fr} {s : St} {Q : Post} : run C c33_10 k s Q = run C (.ops [⟨some 32, .mv (.t 8), none, []⟩,
  ⟨some 33, .fad (.t 5) 1, none, [5]⟩,
  ⟨some 34, .load 1 false (.t 33), none, [5]⟩,
  ⟨some 35, .bin .lss (.t 32) (.t 34), none, []⟩] [3, 5, 6, 7, 8, 35]) k s Q := rfl
def c33_11 : ACode := .cond (.t 35) .skip (.exit 0)
theorem r33_11 {C : Cs} {k : List Fr} {s : St} {Q : Post} : run C c33_11 k s Q = run C (.cond (.t 35) .skip (.exit 0)) k s Q := rfl
def c33_12 : ACode := .seq c33_10 c33_11
theorem r33_12 {C : Cs} {k : List Fr} {s : St} {Q : Post} : run C c33_12 k s Q = run C (.seq c33_10 c33_11) k s Q := rfl
def c33_13 : ACode := .ops [⟨some 38, .load 6 true (.t 5), none, [5]⟩,
  ⟨some 39, .mv (.t 8), none, []⟩,
  ⟨some 40, .load 4 true (.t 3), none, [3]⟩,
  ⟨some 41, .call 69 [.t 38, .t 39, .t 40], none, []⟩,
  ⟨some 9, .mv (.t 41), none, []⟩] [3, 5, 6, 7, 8, 9]
theorem r33_13 {C : Cs} {k : List Fr} {s : St} {Q : Post} : run C c33_13 k s Q = run C (.ops [⟨some 38, .load 6 true (.t 5), none, [5]⟩,
  ⟨some 39, .mv (.t 8), none, []⟩,
  ⟨some 40, .load 4 true (.t 3), none, [3]⟩,
  ⟨some 41, .call 69 [.t 38, .t 39, .t 40], none, []⟩,
  ⟨some 9, .mv (.t 41), none, []⟩] [3, 5, 6, 7, 8, 9]) k s Q := rfl
def c33_14 : ACode := .ops [⟨some 42, .mv (.t 9), none, []⟩,
  ⟨some 43, .mv (.t 7), none, []⟩,
  ⟨some 44, .bin .gtr (.t 42) (.t 43), none, []⟩,
  ⟨some 45, .mv (.t 44), none, []⟩,
  ⟨some 46, .mv (.t 8), some (45, false), []⟩,
  ⟨some 47, .mv (.t 6), some (45, false), []⟩,
  ⟨some 48, .bin .lss (.t 46) (.t 47), some (45, false), []⟩,
  ⟨some 49, .mv (.t 48), some (45, false), []⟩,
  ⟨some 50, .mv (.t 9), some (49, true), []⟩,
  ⟨some 51, .mv (.t 7), some (49, true), []⟩,
  ⟨some 52, .bin .eql (.t 50) (.t 51), some (49, true), []⟩,
  ⟨some 53, .pick (.t 49) (.t 52) (.c (.bool false)), some (45, false), []⟩,
  ⟨some 54, .pick (.t 45) (.c (.bool true)) (.t 53), none, []⟩] [3, 5, 6, 7, 8, 54]
theorem r33_14 {C : Cs} {k : List Fr} {s : St} {Q : Post} : run C c33_14 k s Q = run C (.ops [⟨some 42, .mv (.t 9), none, []⟩,
  ⟨some 43, .mv (.t 7), none, []⟩,
  ⟨some 44, .bin .gtr (.t 42) (.t 43), none, []⟩,
  ⟨some 45, .mv (.t 44), none, []⟩,
  ⟨some 46, .mv (.t 8), some (45, false), []⟩,
  ⟨some 47, .mv (.t 6), some (45, false), []⟩,
  ⟨some 48, .bin .lss (.t 46) (.t 47), some (45, false), []⟩,
  ⟨some 49, .mv (.t 48), some (45, false), []⟩,
  ⟨some 50, .mv (.t 9), some (49, true), []⟩,
  ⟨some 51, .mv (.t 7), some (49, true), []⟩,
  ⟨some 52, .bin .eql (.t 50) (.t 51), some (49, true), []⟩,
  ⟨some 53, .pick (.t 49) (.t 52) (.c (.bool false)), some (45, false), []⟩,
  ⟨some 54, .pick (.t 45) (.c (.bool true)) (.t 53), none, []⟩] [3, 5, 6, 7, 8, 54]) k s Q := rfl
def c33_15 : ACode := .ops [⟨some 4, .mv (.c (.bool false)), none, []⟩] [4]
theorem r33_15 {C : Cs} {k : List Fr} {s : St} {Q : Post} : run C c33_15 k s Q = run C (.ops [⟨some 4, .mv (.c (.bool false)), none, []⟩] [4]) k s Q := rfl
def c33_16 : ACode := .seq c33_15 .ret
theorem r33_16 {C : Cs} {k : List Fr} {s : St} {Q : Post} : run C c33_16 k s Q = run C (.seq c33_15 .ret) k s Q := rfl
def c33_17 : ACode := .cond (.t 54) c33_16 .skip
theorem r33_17 {C : Cs} {k : List Fr} {s : St} {Q : Post} : run C c33_17 k s Q = run C (.cond (.t 54) c33_16 .skip) k s Q := rfl
def c33_18 : ACode := .seq c33_14 c33_17
theorem r33_18 {C : Cs} {k : List Fr} {s : St} {Q : Post} : run C c33_18 k s Q = run C (.seq c33_14 c33_17) k s Q := rfl
def c33_19 : ACode := .seq c33_13 c33_18
theorem r33_19 {C : Cs} {k : List Fr} {s : St} {Q : Post} : run C c33_19 k s Q = run C (.seq c33_13 c33_18) k s Q := rfl
def c33_20 : ACode := .block 1 c33_19
theorem r33_20 {C : Cs} {k : List Fr} {s : St} {Q : Post} : run C c33_20 k s Q = run C (.block 1 c33_19) k s Q := rfl
def c33_21 : ACode := .ops [⟨some 36, .mv (.t 8), none, []⟩,
  ⟨some 37, .bin .add (.t 36) (.c (.int .i64 1)), none, []⟩,
  ⟨some 8, .mv (.t 37), none, []⟩] [3, 5, 6, 7, 8]
theorem r33_21 {C : Cs} {k : List Fr} {s : St} {Q : Post} : run C c33_21 k s Q = run C (.ops [⟨some 36, .mv (.t 8), none, []⟩,
  ⟨some 37, .bin .add (.t 36) (.c (.int .i64 1)), none, []⟩,
  ⟨some 8, .mv (.t 37), none, []⟩] [3, 5, 6, 7, 8]) k s Q := rfl
def c33_22 : ACode := .seq c33_20 c33_21
theorem r33_22 {C : Cs} {k : List Fr} {s : St} {Q : Post} : run C c33_22 k s Q = run C (.seq c33_20 c33_21) k s Q := rfl
def c33_23 : ACode := .seq c33_12 c33_22
theorem r33_23 {C : Cs} {k : List Fr} {s : St} {Q : Post} : run C c33_23 k s Q = run C (.seq c33_12 c33_22) k s Q := rfl
def c33_24 : ACode := .keep [3, 5, 6, 7, 8] [3, 5] c33_23
theorem r33_24 {C : Cs} {k : List Fr} {s : St} {Q : Post} : run C c33_24 k s Q = run C (.keep [3, 5, 6, 7, 8] [3, 5] c33_23) k s Q := rfl
def c33_25 : ACode := .loop c33_24
theorem r33_25 {C : Cs} {k : List Fr} {s : St} {Q : Post} : run C c33_25 k s Q = run C (.loop c33_24) k s Q := rfl
def c33_26 : ACode := .block 0 c33_25
theorem r33_26 {C : Cs} {k : List Fr} {s : St} {Q : Post} : run C c33_26 k s Q = run C (.block 0 c33_25) k s Q := rfl
def c33_27 : ACode := .seq c33_9 c33_26
theorem r33_27 {C : Cs} {k : List Fr} {s : St} {Q : Post} : run C c33_27 k s Q = run C (.seq c33_9 c33_26) k s Q := rfl
def c33_28 : ACode := .ops [⟨some 55, .fad (.t 5) 0, none, [5]⟩,
  ⟨none, .store (.t 55) 1 (.c (.int .i64 0)), none, [5]⟩] [3, 5]
theorem r33_28 {C : Cs} {k : List Fr} {s : St} {Q : Post} : run C c33_28 k s Q = run C (.ops [⟨some 55, .fad (.t 5) 0, none, [5]⟩,
  ⟨none, .store (.t 55) 1 (.c (.int .i64 0)), none, [5]⟩] [3, 5]) k s Q := rfl
def c33_29 : ACode := .ops [⟨some 56, .load 6 true (.t 5), none, [5]⟩,
  ⟨some 57, .load 4 true (.t 3), none, [3]⟩,
  ⟨some 58, .call 78 [.t 56, .t 57], none, []⟩,
  ⟨some 59, .bin .eql (.t 58) (.c (.int .i64 (-1))), none, []⟩,
  ⟨some 60, .mv (.t 59), none, []⟩,
  ⟨some 61, .load 6 true (.t 5), some (60, true), [5]⟩,
  ⟨some 62, .load 4 true (.t 3), some (60, true), [3]⟩,
  ⟨some 63, .call 69 [.t 61, .c (.int .i64 0), .t 62], some (60, true), []⟩,
  ⟨some 64, .bin .eql (.t 63) (.c (.int .i64 0)), some (60, true), []⟩,
  ⟨some 65, .pick (.t 60) (.t 64) (.c (.bool false)), none, []⟩,
  ⟨some 66, .mv (.t 65), none, []⟩,
  ⟨some 67, .call 31 [], some (66, true), []⟩,
  ⟨some 68, .pick (.t 66) (.t 67) (.c (.bool false)), none, []⟩,
  ⟨some 4, .mv (.t 68), none, []⟩] [4]
theorem r33_29 {C : Cs} {k : List Fr} {s : St} {Q : Post} : run C c33_29 k s Q = run C (.ops [⟨some 56, .load 6 true (.t 5), none, [5]⟩,
  ⟨some 57, .load 4 true (.t 3), none, [3]⟩,
  ⟨some 58, .call 78 [.t 56, .t 57], none, []⟩,
  ⟨some 59, .bin .eql (.t 58) (.c (.int .i64 (-1))), none, []⟩,
  ⟨some 60, .mv (.t 59), none, []⟩,
  ⟨some 61, .load 6 true (.t 5), some (60, true), [5]⟩,
  ⟨some 62, .load 4 true (.t 3), some (60, true), [3]⟩,
  ⟨some 63, .call 69 [.t 61, .c (.int .i64 0), .t 62], some (60, true), []⟩,
  ⟨some 64, .bin .eql (.t 63) (.c (.int .i64 0)), some (60, true), []⟩,
  ⟨some 65, .pick (.t 60) (.t 64) (.c (.bool false)), none, []⟩,
  ⟨some 66, .mv (.t 65), none, []⟩,
  ⟨some 67, .call 31 [], some (66, true), []⟩,
  ⟨some 68, .pick (.t 66) (.t 67) (.c (.bool false)), none, []⟩,
  ⟨some 4, .mv (.t 68), none, []⟩] [4]) k s Q := rfl
def c33_30 : ACode := .seq c33_29 .ret
theorem r33_30 {C : Cs} {k : List Fr} {s : St} {Q : Post} : run C c33_30 k s Q = run C (.seq c33_29 .ret) k s Q := rfl
def c33_31 : ACode := .seq c33_28 c33_30
theorem r33_31 {C : Cs} {k : List Fr} {s : St} {Q : Post} : run C c33_31 k s Q = run C (.seq c33_28 c33_30) k s Q := rfl
def c33_32 : ACode := .seq c33_27 c33_31
theorem r33_32 {C : Cs} {k : List Fr} {s : St} {Q : Post} : run C c33_32 k s Q = run C (.seq c33_27 c33_31) k s Q := rfl
def c33_33 : ACode := .seq c33_8 c33_32
theorem r33_33 {C : Cs} {k : List Fr} {s : St} {Q : Post} : run C c33_33 k s Q = run C (.seq c33_8 c33_32) k s Q := rfl
def c33_34 : ACode := .seq c33_7 c33_33
theorem r33_34 {C : Cs} {k : List Fr} {s : St} {Q : Post} : run C c33_34 k s Q = run C (.seq c33_7 c33_33) k s Q := rfl
def c33_35 : ACode := .seq c33_2 c33_34
theorem r33_35 {C : Cs} {k : List Fr} {s : St} {Q : Post} : run C c33_35 k s Q = run C (.seq c33_2 c33_34) k s Q := rfl
def c33_36 : ACode := .seq c33_1 c33_35
theorem r33_36 {C : Cs} {k : List Fr} {s : St} {Q : Post} : run C c33_36 k s Q = run C (.seq c33_1 c33_35) k s Q := rfl
def c33_37 : ACode := .seq c33_0 c33_36
theorem r33_37 {C : Cs} {k : List Fr} {s : St} {Q : Post} : run C c33_37 k s Q = run C (.seq c33_0 c33_36) k s Q := rfl
def a33 : AFun := ⟨2, 69, c33_37, [.t 4]⟩
attribute [simp] r33_0 r33_1 r33_2 r33_3 r33_4 r33_5 r33_6 r33_7 r33_8 r33_9 r33_10 r33_11 r33_12 r33_13 r33_14 r33_15 r33_16 r33_17 r33_18 r33_19 r33_20 r33_21 r33_22 r33_23 r33_24 r33_25 r33_26 r33_27 r33_28 r33_29 r33_30 r33_31 r33_32 r33_33 r33_34 r33_35 r33_36 r33_37
theorem m33 : mFun Try.prog Try.f33 a33 = true := by decide +kernel

/- copse/copselaw8.ModelRuns -/
def c31_0 : ACode := .ops [⟨some 0, .mv (.c (.bool false)), none, []⟩] []
def c31_1 : ACode := .ops [⟨some 2, .build [.int .i64 0, .int .i64 0, .int .i64 0] [(0, 1, .c (.int .i64 3))], none, []⟩,
  ⟨some 3, .call 95 [.c (.int .i64 5), .c (.int .i64 10), .c (.int .i64 20)], none, []⟩,
  ⟨some 4, .build [.int .i64 0, .nils] [(1, 1, .t 3)], none, []⟩,
  ⟨some 5, .mkrow 5 1 2 [.int .i64 0, .nils] [(0, 2, .t 4)], none, []⟩,
  ⟨some 6, .build [.int .i64 0, .int .i64 0, .int .i64 0, .int .i64 0, .int .i64 0, .nils] [(0, 1, .c (.int .i64 1)), (1, 1, .c (.int .i64 1)), (2, 3, .t 2), (5, 1, .t 5)], none, []⟩,
  ⟨some 1, .alloc [.int .i64 0, .int .i64 0, .int .i64 0, .int .i64 0, .int .i64 0, .nils], none, []⟩,
  ⟨none, .store (.t 1) 6 (.t 6), none, [1]⟩] [1]
def c31_2 : ACode := .ops [⟨some 7, .load 6 true (.t 1), none, [1]⟩,
  ⟨some 8, .call 71 [.t 7], none, [5]⟩,
  ⟨some 9, .mv (.t 8), none, []⟩,
  ⟨some 10, .load 6 true (.t 1), some (9, true), [1]⟩,
  ⟨some 11, .build [.int .i64 0, .int .i64 0, .int .i64 0, .int .i64 0] [(0, 1, .c (.int .i64 5))], some (9, true), []⟩,
  ⟨some 12, .call 69 [.t 10, .c (.int .i64 0), .t 11], some (9, true), [5]⟩,
  ⟨some 13, .bin .eql (.t 12) (.c (.int .i64 13)), some (9, true), []⟩,
  ⟨some 14, .pick (.t 9) (.t 13) (.c (.bool false)), none, []⟩,
  ⟨some 15, .mv (.t 14), none, []⟩,
  ⟨some 16, .load 6 true (.t 1), some (15, true), [1]⟩,
  ⟨some 17, .build [.int .i64 0, .int .i64 0, .int .i64 0, .int .i64 0] [(0, 1, .c (.int .i64 6))], some (15, true), []⟩,
  ⟨some 18, .call 69 [.t 16, .c (.int .i64 0), .t 17], some (15, true), [5]⟩,
  ⟨some 19, .bin .eql (.t 18) (.c (.int .i64 23)), some (15, true), []⟩,
  ⟨some 20, .pick (.t 15) (.t 19) (.c (.bool false)), none, []⟩,
  ⟨some 21, .mv (.t 20), none, []⟩,
  ⟨some 22, .load 6 true (.t 1), some (21, true), [1]⟩,
  ⟨some 23, .call 96 [.t 22, .c (.int .i64 0)], some (21, true), [5]⟩,
  ⟨some 24, .mkrow 24 1 1 [.int .i64 0] [(0, 1, .c (.int .i64 5))], some (21, true), []⟩,
  ⟨some 25, .call 83 [.t 23, .t 24], some (21, true), [24]⟩,
  ⟨some 26, .pick (.t 21) (.t 25) (.c (.bool false)), none, []⟩,
  ⟨some 27, .mv (.t 26), none, []⟩,
  ⟨some 28, .load 6 true (.t 1), some (27, true), [1]⟩,
  ⟨some 29, .call 72 [.t 28], some (27, true), [5]⟩,
  ⟨some 30, .bin .eql (.t 29) (.c (.int .i64 3)), some (27, true), []⟩,
  ⟨some 31, .pick (.t 27) (.t 30) (.c (.bool false)), none, []⟩,
  ⟨some 32, .mv (.t 31), none, []⟩,
  ⟨some 33, .load 6 true (.t 1), some (32, true), [1]⟩,
  ⟨some 34, .build [.int .i64 0, .int .i64 0, .int .i64 0, .int .i64 0] [], some (32, true), []⟩,
  ⟨some 35, .call 78 [.t 33, .t 34], some (32, true), [5]⟩,
  ⟨some 36, .bin .eql (.t 35) (.c (.int .i64 0)), some (32, true), []⟩,
  ⟨some 37, .pick (.t 32) (.t 36) (.c (.bool false)), none, []⟩,
  ⟨some 0, .mv (.t 37), none, []⟩] [0]
def c31_3 : ACode := .seq c31_2 .ret
def c31_4 : ACode := .seq c31_1 c31_3
def c31_5 : ACode := .seq c31_0 c31_4
def a31 : AFun := ⟨0, 38, c31_5, [.t 0]⟩
theorem m31 : mFun Try.prog Try.f31 a31 = true := by decide +kernel
/- copse/copsebook.Same[int] -/
def c83_0 : ACode := .ops [⟨some 4, .mv (.c (.bool false)), none, []⟩] [0, 1]
def c83_1 : ACode := .ops [⟨some 6, .mv (.t 0), none, []⟩,
  ⟨some 7, .len (.t 6), none, []⟩,
  ⟨some 8, .mv (.t 1), none, []⟩,
  ⟨some 9, .len (.t 8), none, []⟩,
  ⟨some 10, .bin .neq (.t 7) (.t 9), none, []⟩] [0, 1, 10]
def c83_2 : ACode := .ops [⟨some 4, .mv (.c (.bool false)), none, []⟩] [4]
def c83_3 : ACode := .seq c83_2 .ret
def c83_4 : ACode := .cond (.t 10) c83_3 .skip
def c83_5 : ACode := .seq c83_1 c83_4
def c83_6 : ACode := .ops [⟨some 5, .mv (.c (.int .i64 0)), none, []⟩] [0, 1, 5]
def c83_7 : ACode := .ops [⟨some 11, .mv (.t 5), none, []⟩,
  ⟨some 12, .mv (.t 0), none, []⟩,
  ⟨some 13, .len (.t 12), none, []⟩,
  ⟨some 14, .bin .lss (.t 11) (.t 13), none, []⟩] [0, 1, 5, 14]
def c83_8 : ACode := .cond (.t 14) .skip (.exit 0)
def c83_9 : ACode := .seq c83_7 c83_8
def c83_10 : ACode := .ops [⟨some 17, .mv (.t 0), none, []⟩,
  ⟨some 18, .mv (.t 5), none, []⟩,
  ⟨some 19, .ias (.t 17) (.t 18) 1, none, []⟩,
  ⟨some 20, .load 1 false (.t 19), none, []⟩,
  ⟨some 21, .mv (.t 1), none, []⟩,
  ⟨some 22, .mv (.t 5), none, []⟩,
  ⟨some 23, .ias (.t 21) (.t 22) 1, none, []⟩,
  ⟨some 24, .load 1 false (.t 23), none, []⟩,
  ⟨some 25, .bin .neq (.t 20) (.t 24), none, []⟩] [0, 1, 5, 25]
def c83_11 : ACode := .ops [⟨some 4, .mv (.c (.bool false)), none, []⟩] [4]
def c83_12 : ACode := .seq c83_11 .ret
def c83_13 : ACode := .cond (.t 25) c83_12 .skip
def c83_14 : ACode := .seq c83_10 c83_13
def c83_15 : ACode := .block 1 c83_14
def c83_16 : ACode := .ops [⟨some 15, .mv (.t 5), none, []⟩,
  ⟨some 16, .bin .add (.t 15) (.c (.int .i64 1)), none, []⟩,
  ⟨some 5, .mv (.t 16), none, []⟩] [0, 1, 5]
def c83_17 : ACode := .seq c83_15 c83_16
def c83_18 : ACode := .seq c83_9 c83_17
def c83_19 : ACode := .keep [0, 1, 5] [] c83_18
def c83_20 : ACode := .loop c83_19
def c83_21 : ACode := .block 0 c83_20
def c83_22 : ACode := .seq c83_6 c83_21
def c83_23 : ACode := .ops [⟨some 4, .mv (.c (.bool true)), none, []⟩] [4]
def c83_24 : ACode := .seq c83_23 .ret
def c83_25 : ACode := .seq c83_22 c83_24
def c83_26 : ACode := .seq c83_5 c83_25
def c83_27 : ACode := .seq c83_0 c83_26
def a83 : AFun := ⟨2, 26, c83_27, [.t 4]⟩
theorem m83 : mFun Try.prog Try.f83 a83 = true := by decide +kernel
/- copse/copselaw8.three -/
def c95_0 : ACode := .ops [⟨some 6, .nil0 6 1, none, []⟩] [0, 1, 2]
def c95_1 : ACode := .ops [⟨some 7, .mv (.t 0), none, []⟩,
  ⟨some 8, .build [.bool false, .int .i64 0, .int .i64 0, .int .i64 0, .int .i64 0, .int .i64 0] [(3, 1, .t 7), (4, 1, .c (.int .i64 1)), (5, 1, .c (.int .i64 2))], none, []⟩,
  ⟨some 9, .call 111 [.t 8], none, []⟩,
  ⟨some 10, .mv (.t 1), none, []⟩,
  ⟨some 11, .build [.bool false, .int .i64 0, .int .i64 0, .int .i64 0, .int .i64 0, .int .i64 0] [(0, 1, .c (.bool true)), (1, 1, .t 10)], none, []⟩,
  ⟨some 12, .call 111 [.t 11], none, []⟩,
  ⟨some 13, .mv (.t 2), none, []⟩,
  ⟨some 14, .build [.bool false, .int .i64 0, .int .i64 0, .int .i64 0, .int .i64 0, .int .i64 0] [(0, 1, .c (.bool true)), (1, 1, .t 13)], none, []⟩,
  ⟨some 15, .call 111 [.t 14], none, []⟩,
  ⟨some 16, .mkrow 6 3 1 [.int .u64 0] [(0, 1, .t 9), (1, 1, .t 12), (2, 1, .t 15)], none, []⟩,
  ⟨some 6, .mv (.t 16), none, []⟩] [6]
def c95_2 : ACode := .seq c95_1 .ret
def c95_3 : ACode := .seq c95_0 c95_2
def a95 : AFun := ⟨3, 17, c95_3, [.t 6]⟩
theorem m95 : mFun Try.prog Try.f95 a95 = true := by decide +kernel
/- copse/model.Thresholds -/
def c96_0 : ACode := .ops [⟨some 2, .box (.t 0) 6, none, []⟩,
  ⟨some 4, .mv (.c (.nils)), none, []⟩] [1, 2]
def c96_1 : ACode := .ops [⟨some 12, .load 6 true (.t 2), none, [2]⟩,
  ⟨some 13, .call 71 [.t 12], none, []⟩,
  ⟨some 14, .un .not (.t 13), none, []⟩] [1, 2, 14]
def c96_2 : ACode := .ops [⟨some 4, .mv (.c (.nils)), none, []⟩] [4]
def c96_3 : ACode := .seq c96_2 .ret
def c96_4 : ACode := .cond (.t 14) c96_3 .skip
def c96_5 : ACode := .seq c96_1 c96_4
def c96_6 : ACode := .ops [⟨some 5, .nil0 5 1, none, []⟩] [1, 2, 5]
def c96_7 : ACode := .ops [⟨some 15, .fad (.t 2) 5, none, [2]⟩,
  ⟨some 16, .load 1 false (.t 15), none, [2]⟩,
  ⟨some 17, .len (.t 16), none, []⟩,
  ⟨some 18, .mv (.c (.int .i64 0)), none, []⟩] [1, 5, 16, 17, 18]
def c96_8 : ACode := .ops [⟨some 19, .bin .lss (.t 18) (.t 17), none, []⟩] [1, 5, 16, 17, 18, 19]
def c96_9 : ACode := .cond (.t 19) .skip (.exit 0)
def c96_10 : ACode := .ops [⟨some 20, .ias (.t 16) (.t 18) 2, none, []⟩,
  ⟨some 21, .load 2 true (.t 20), none, []⟩,
  ⟨some 7, .alloc [.int .i64 0, .nils], none, []⟩,
  ⟨none, .store (.t 7) 2 (.t 21), none, [7]⟩] [1, 5, 7, 16, 17, 18]
def c96_11 : ACode := .ops [⟨some 22, .fad (.t 7) 1, none, [7]⟩,
  ⟨some 23, .load 1 false (.t 22), none, [7]⟩,
  ⟨some 24, .len (.t 23), none, []⟩,
  ⟨some 25, .mv (.c (.int .i64 0)), none, []⟩] [1, 5, 16, 17, 18, 23, 24, 25]
def c96_12 : ACode := .ops [⟨some 26, .bin .lss (.t 25) (.t 24), none, []⟩] [1, 5, 16, 17, 18, 23, 24, 25, 26]
def c96_13 : ACode := .cond (.t 26) .skip (.exit 2)
def c96_14 : ACode := .ops [⟨some 27, .ias (.t 23) (.t 25) 1, none, []⟩,
  ⟨some 28, .load 1 false (.t 27), none, []⟩,
  ⟨some 9, .mv (.t 28), none, []⟩] [1, 5, 9, 16, 17, 18, 23, 24, 25]
def c96_15 : ACode := .ops [⟨some 30, .mv (.t 9), none, []⟩,
  ⟨some 31, .call 77 [.t 30], none, []⟩,
  ⟨some 29, .mv (.t 31), none, []⟩,
  ⟨some 32, .ext (.t 29) 0, none, []⟩,
  ⟨some 33, .ext (.t 29) 1, none, []⟩,
  ⟨some 10, .alloc [.bool false, .int .i64 0, .int .i64 0, .int .i64 0, .int .i64 0, .int .i64 0], none, []⟩,
  ⟨none, .store (.t 10) 6 (.t 32), none, [10]⟩,
  ⟨some 11, .mv (.t 33), none, []⟩] [1, 5, 10, 16, 17, 18, 23, 24, 25]
def c96_16 : ACode := .ops [⟨some 34, .fad (.t 10) 0, none, [10]⟩,
  ⟨some 35, .load 1 false (.t 34), none, [10]⟩,
  ⟨some 36, .un .not (.t 35), none, []⟩,
  ⟨some 37, .mv (.t 36), none, []⟩,
  ⟨some 38, .fad (.t 10) 2, some (37, true), [10]⟩,
  ⟨some 39, .load 1 false (.t 38), some (37, true), [10]⟩,
  ⟨some 40, .mv (.t 1), some (37, true), []⟩,
  ⟨some 41, .bin .eql (.t 39) (.t 40), some (37, true), []⟩,
  ⟨some 42, .pick (.t 37) (.t 41) (.c (.bool false)), none, []⟩] [1, 5, 10, 16, 17, 18, 23, 24, 25, 42]
def c96_17 : ACode := .ops [⟨some 43, .mv (.t 5), none, []⟩,
  ⟨some 44, .fad (.t 10) 3, none, [10]⟩,
  ⟨some 45, .load 1 false (.t 44), none, [10]⟩,
  ⟨some 46, .mkrow 46 1 1 [.int .i64 0] [(0, 1, .t 45)], none, []⟩,
  ⟨some 47, .app 5 [5] (.t 43) (.t 46) 1, none, [5, 46]⟩,
  ⟨some 5, .mv (.t 47), none, []⟩] [1, 5, 16, 17, 18, 23, 24, 25]
def c96_18 : ACode := .cond (.t 42) c96_17 .skip
def c96_19 : ACode := .seq c96_16 c96_18
def c96_20 : ACode := .seq c96_15 c96_19
def c96_21 : ACode := .seq c96_14 c96_20
def c96_22 : ACode := .block 3 c96_21
def c96_23 : ACode := .ops [⟨some 48, .bin .add (.t 25) (.c (.int .i64 1)), none, []⟩,
  ⟨some 25, .mv (.t 48), none, []⟩] [1, 5, 16, 17, 18, 23, 24, 25]
def c96_24 : ACode := .seq c96_22 c96_23
def c96_25 : ACode := .seq c96_13 c96_24
def c96_26 : ACode := .seq c96_12 c96_25
def c96_27 : ACode := .keep [1, 5, 16, 17, 18, 23, 24, 25] [5] c96_26
def c96_28 : ACode := .loop c96_27
def c96_29 : ACode := .block 2 c96_28
def c96_30 : ACode := .seq c96_11 c96_29
def c96_31 : ACode := .seq c96_10 c96_30
def c96_32 : ACode := .block 1 c96_31
def c96_33 : ACode := .ops [⟨some 49, .bin .add (.t 18) (.c (.int .i64 1)), none, []⟩,
  ⟨some 18, .mv (.t 49), none, []⟩] [1, 5, 16, 17, 18]
def c96_34 : ACode := .seq c96_32 c96_33
def c96_35 : ACode := .seq c96_9 c96_34
def c96_36 : ACode := .seq c96_8 c96_35
def c96_37 : ACode := .keep [1, 5, 16, 17, 18] [5] c96_36
def c96_38 : ACode := .loop c96_37
def c96_39 : ACode := .block 0 c96_38
def c96_40 : ACode := .seq c96_7 c96_39
def c96_41 : ACode := .ops [⟨some 50, .mv (.t 5), none, []⟩,
  ⟨some 51, .gcall 144 [.t 50] [5] 5, none, [5]⟩] [5]
def c96_42 : ACode := .ops [⟨some 52, .mv (.t 5), none, []⟩,
  ⟨some 53, .gcall 145 [.t 52] [5] 5, none, [5]⟩,
  ⟨some 4, .mv (.t 53), none, []⟩] [4]
def c96_43 : ACode := .seq c96_42 .ret
def c96_44 : ACode := .seq c96_41 c96_43
def c96_45 : ACode := .seq c96_40 c96_44
def c96_46 : ACode := .seq c96_6 c96_45
def c96_47 : ACode := .seq c96_5 c96_46
def c96_48 : ACode := .seq c96_0 c96_47
def a96 : AFun := ⟨2, 54, c96_48, [.t 4]⟩
theorem m96 : mFun Try.prog Try.f96 a96 = true := by decide +kernel
def texts31 : List (Nat × AFun) := [(31, a31), (69, a69), (71, a71), (72, a72), (76, a76), (77, a77), (78, a78), (83, a83), (95, a95), (96, a96), (99, a99), (111, a111), (119, a119), (122, a122), (123, a123), (124, a124), (125, a125), (128, a128), (129, a129), (130, a130), (131, a131), (148, a148), (156, a156), (160, a160), (161, a161), (162, a162), (163, a163), (164, a164), (165, a165), (176, a176)]
theorem texts31_good : Go.Am.Good Try.prog texts31 :=
  good_cons Try.func31 m31 <| good_cons Try.func69 m69 <| good_cons Try.func71 m71 <| good_cons Try.func72 m72 <| good_cons Try.func76 m76 <| good_cons Try.func77 m77 <| good_cons Try.func78 m78 <| good_cons Try.func83 m83 <| good_cons Try.func95 m95 <| good_cons Try.func96 m96 <| good_cons Try.func99 m99 <| good_cons Try.func111 m111 <| good_cons Try.func119 m119 <| good_cons Try.func122 m122 <| good_cons Try.func123 m123 <| good_cons Try.func124 m124 <| good_cons Try.func125 m125 <| good_cons Try.func128 m128 <| good_cons Try.func129 m129 <| good_cons Try.func130 m130 <| good_cons Try.func131 m131 <| good_cons Try.func148 m148 <| good_cons Try.func156 m156 <| good_cons Try.func160 m160 <| good_cons Try.func161 m161 <| good_cons Try.func162 m162 <| good_cons Try.func163 m163 <| good_cons Try.func164 m164 <| good_cons Try.func165 m165 <| good_cons Try.func176 m176 <| good_nil
theorem c_closed31 : Contract Try.prog 31 (sp0 (some true)) := contract_closedG mixed texts31_good lib (NW := fun f => if f = 96 then some 5 else if f = 127 then some 10001 else none) (m := 2000) (n := 80) (by decide +kernel)


theorem bestM_spec {m : Model} (h : RM m) (p : Point) : 0 ≤ bestM m p ∧ bestM m p < m.classes ∧ ∀ c : Int, 0 ≤ c → c < m.classes → evalM m c p ≤ evalM m (bestM m p) p ∧ (c < bestM m p → evalM m c p < evalM m (bestM m p) p) := by
  have hk := h.classes
  unfold bestM
  by_cases k1 : m.classes = 1
  · rw [if_pos k1]
    refine ⟨by omega, by omega, fun c c0 c1 => ?_⟩
    have : c = 0 := by omega
    subst this
    exact ⟨Int.le_refl _, fun h => by omega⟩
  rw [if_neg k1]
  by_cases k2 : m.classes = 2
  · rw [if_pos k2]
    by_cases g1 : evalM m 0 p < evalM m 1 p
    · rw [if_pos g1]
      refine ⟨by omega, by omega, fun c c0 c1 => ?_⟩
      have : c = 0 ∨ c = 1 := by omega
      rcases this with rfl | rfl
      · exact ⟨by omega, fun _ => g1⟩
      · exact ⟨Int.le_refl _, fun h => by omega⟩
    · rw [if_neg g1]
      refine ⟨by omega, by omega, fun c c0 c1 => ?_⟩
      have : c = 0 ∨ c = 1 := by omega
      rcases this with rfl | rfl
      · exact ⟨Int.le_refl _, fun h => by omega⟩
      · exact ⟨by omega, fun h => by omega⟩
  rw [if_neg k2]
  have k3 : m.classes = 3 := by omega
  have fin : ∀ b : Int, (b = 0 ∨ b = 1 ∨ b = 2) → (evalM m 0 p ≤ evalM m b p ∧ (0 < b → evalM m 0 p < evalM m b p)) → (evalM m 1 p ≤ evalM m b p ∧ (1 < b → evalM m 1 p < evalM m b p)) → evalM m 2 p ≤ evalM m b p →
      0 ≤ b ∧ b < m.classes ∧ ∀ c : Int, 0 ≤ c → c < m.classes → evalM m c p ≤ evalM m b p ∧ (c < b → evalM m c p < evalM m b p) := by
    intro b hb h0 h1 h2
    refine ⟨by omega, by omega, fun c c0 c1 => ?_⟩
    have : c = 0 ∨ c = 1 ∨ c = 2 := by omega
    rcases this with rfl | rfl | rfl
    · exact h0
    · exact h1
    · exact ⟨h2, fun h => by omega⟩
  split
  · split
    · exact fin 2 (by simp) ⟨by omega, fun _ => by omega⟩ ⟨by omega, fun _ => by omega⟩ (Int.le_refl _)
    · exact fin 1 (by simp) ⟨by omega, fun _ => by omega⟩ ⟨Int.le_refl _, fun h => by omega⟩ (by omega)
  · split
    · exact fin 2 (by simp) ⟨by omega, fun _ => by omega⟩ ⟨by omega, fun _ => by omega⟩ (Int.le_refl _)
    · exact fin 0 (by simp) ⟨Int.le_refl _, fun h => by omega⟩ ⟨by omega, fun h => by omega⟩ (by omega)

set_option maxHeartbeats 4000000 in
set_option maxRecDepth 8000 in
theorem runs_law (f : Forest) (p : Point) (c : Bool) (h : some true = some c) : Runs (tbl [(45, sp1 ModelC), (78, sp2 BestT), (71, sp1 MRightT), (69, sp3 EvalT), (31, sp0 (some true))]) a33 [Arg.enc f, Arg.enc p] (Arg.enc c) := by
  cases h
  refine ⟨rfl, fun g => run_def ?_⟩
  unfold a33
  have hm := rm_modelOf f
  have hM : ModelC f = some (modelOf f) := rfl
  generalize modelOf f = m at *
  have hB : BestT m p = some (bestM m p) := by unfold BestT; rw [part_of hm.okMW, rightM_true.2 hm]; rfl
  have hR : MRightT m = some true := by unfold MRightT; rw [part_of hm.okMW, rightM_true.2 hm]
  have hE : ∀ c, 0 ≤ c → c < m.classes → EvalT m c p = some (evalM m c p) := fun c c0 c1 => by unfold EvalT; rw [part_of hm.okMW, rightM_true.2 hm, if_pos rfl, evalX, if_pos ⟨c0, c1⟩]
  obtain ⟨s0, s1, s2⟩ := bestM_spec hm p
  have hk := hm.classes
  have hn : ¬ RM ⟨0, m.classes, m.bias, m.trees⟩ := fun h => by have := h.dim; simp at this
  have hw : okMW ⟨0, m.classes, m.bias, m.trees⟩ := hm.okMW
  have hB0 : BestT ⟨0, m.classes, m.bias, m.trees⟩ p = some (-1) := by unfold BestT; rw [part_of hw, rightM_false.2 hn]; rfl
  have hE0 : EvalT ⟨0, m.classes, m.bias, m.trees⟩ 0 p = some 0 := by unfold EvalT; rw [part_of hw, rightM_false.2 hn]; rfl
  have hE1 := hE _ s0 s1
  generalize bestM m p = b at *
  have b0 : ¬ b < 0 := by omega
  have b1 : ¬ m.classes ≤ b := by omega
  simp -implicitDefEqProofs [hM, hB, hR, b0, b1, hE1]
  refine run_while (c := c33_23) (fun n s => ∃ (i : Int) (g : Nat → Nat), 0 ≤ i ∧ i ≤ m.classes ∧ (n : Int) = m.classes - i ∧ s = ⟨[(3, .ptr 3 (g 3) 0), (5, .ptr 5 (g 5) 0), (6, .int .i64 b), (7, .int .i64 (evalM m b p)), (8, .int .i64 i)],
    [(3, ⟨Row.enc p, false, 0⟩), (5, ⟨Row.enc m, false, 0⟩)], g⟩) m.classes.toNat ⟨0, bump 5 (bump 3 (bump 2 g)), by omega, by omega, by omega, by simp⟩ ?_
  rintro n s ⟨i, g, i0, i1, hn2, rfl⟩
  by_cases h1 : i < m.classes
  case pos =>
    have w1 : IntKind.i64.wrap (i + 1) = i + 1 := wrap64 (by omega) (by omega)
    have hEi := hE i i0 h1
    have hs := s2 i i0 h1
    have e1 : ¬ evalM m b p < evalM m i p := by omega
    by_cases e2 : i < b
    · have e3 : ¬ evalM m i p = evalM m b p := by have := hs.2 e2; omega
      simp -implicitDefEqProofs [h1, w1, hEi, e1, e2, e3]
      exact ⟨n - 1, by omega, i + 1, by omega, by omega, by omega, rfl⟩
    · simp -implicitDefEqProofs [h1, w1, hEi, e1, e2]
      exact ⟨n - 1, by omega, i + 1, by omega, by omega, by omega, rfl⟩
  case neg =>
    simp -implicitDefEqProofs [h1, hB0, hE0]
noncomputable def law_sp : List AV → Option AV := sp2 fun (_ : Forest) (_ : Point) => some true
theorem law_holds : Contract Try.prog 33 law_sp :=
  contract_of_runs mixed (tbl_cons c_Model (tbl_cons c_BestT (tbl_cons c_mRightT (tbl_cons c_EvalT (tbl_cons c_closed31 tbl_nil))))) Try.func33 m33 (sp2_runs runs_law)
theorem law_says (f : Forest) (p : Point) : law_sp [Arg.enc f, Arg.enc p] = some (.bool true) := by
  simp only [law_sp, sp2, Arg.dec_enc, Option.bind_some]
  rfl
end Go.Co
