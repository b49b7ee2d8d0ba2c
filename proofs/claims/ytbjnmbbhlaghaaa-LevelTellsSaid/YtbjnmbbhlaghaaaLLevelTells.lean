/- The law LevelTells: what its text computes. -/
import Derived.Test.YtbjnmbbhlaghaaaCoY
import Derived.Test.YtbjnmbbhlaghaaaCoI
import Derived.Test.YtbjnmbbhlaghaaaCoSh
namespace Go.Co
open Go.Am Go.Proofs
set_option linter.unusedSimpArgs false
set_option linter.unusedVariables false

/- copse/copselaw16.LevelTells -/
def c21_0 : ACode := .ops [⟨some 6, .box (.t 0) 4, none, []⟩,
  ⟨some 8, .box (.t 2) 10, none, []⟩,
  ⟨some 12, .mv (.c (.bool false)), none, []⟩] [1, 3, 4, 5, 6, 8]
theorem r21_0 {C : Cs} {k : List Fr} {s : St} {Q : Post} : run C c21_0 k s Q = run C (.ops [⟨some 6, .box (.t 0) 4, none, []⟩,
  ⟨some 8, .box (.t 2) 10, none, []⟩,
  ⟨some 12, .mv (.c (.bool false)), none, []⟩] [1, 3, 4, 5, 6, 8]) k s Q := rfl
def c21_1 : ACode := .ops [⟨some 21, .load 4 true (.t 6), none, [6]⟩,
  ⟨some 22, .call 45 [.t 21], none, []⟩,
  ⟨some 13, .alloc [.int .i64 0, .int .i64 0, .int .i64 0, .int .i64 0, .int .i64 0, .nils], none, []⟩,
  ⟨none, .store (.t 13) 6 (.t 22), none, [13]⟩] [1, 3, 4, 5, 8, 13]
theorem r21_1 {C : Cs} {k : List Fr} {s : St} {Q : Post} : run C c21_1 k s Q = run C (.ops [⟨some 21, .load 4 true (.t 6), none, [6]⟩,
  ⟨some 22, .call 45 [.t 21], none, []⟩,
  ⟨some 13, .alloc [.int .i64 0, .int .i64 0, .int .i64 0, .int .i64 0, .int .i64 0, .nils], none, []⟩,
  ⟨none, .store (.t 13) 6 (.t 22), none, [13]⟩] [1, 3, 4, 5, 8, 13]) k s Q := rfl
def c21_2 : ACode := .ops [⟨some 23, .mv (.t 4), none, []⟩] [1, 3, 5, 8, 13, 23]
theorem r21_2 {C : Cs} {k : List Fr} {s : St} {Q : Post} : run C c21_2 k s Q = run C (.ops [⟨some 23, .mv (.t 4), none, []⟩] [1, 3, 5, 8, 13, 23]) k s Q := rfl
def c21_3 : ACode := .ops [⟨some 24, .load 6 true (.t 13), none, [13]⟩,
  ⟨some 25, .mv (.t 3), none, []⟩,
  ⟨some 26, .call 46 [.t 24, .t 25], none, []⟩,
  ⟨none, .store (.t 8) 10 (.t 26), none, [8]⟩] [1, 5, 8, 13]
theorem r21_3 {C : Cs} {k : List Fr} {s : St} {Q : Post} : run C c21_3 k s Q = run C (.ops [⟨some 24, .load 6 true (.t 13), none, [13]⟩,
  ⟨some 25, .mv (.t 3), none, []⟩,
  ⟨some 26, .call 46 [.t 24, .t 25], none, []⟩,
  ⟨none, .store (.t 8) 10 (.t 26), none, [8]⟩] [1, 5, 8, 13]) k s Q := rfl
def c21_4 : ACode := .cond (.t 23) c21_3 .skip
theorem r21_4 {C : Cs} {k : List Fr} {s : St} {Q : Post} : run C c21_4 k s Q = run C (.cond (.t 23) c21_3 .skip) k s Q := rfl
def c21_5 : ACode := .seq c21_2 c21_4
theorem r21_5 {C : Cs} {k : List Fr} {s : St} {Q : Post} : run C c21_5 k s Q = run C (.seq c21_2 c21_4) k s Q := rfl
def c21_6 : ACode := .ops [⟨some 27, .mv (.t 5), none, []⟩,
  ⟨some 28, .call 63 [.t 27, .c (.int .i64 0), .c (.int .i64 300)], none, []⟩,
  ⟨some 14, .mv (.t 28), none, []⟩] [1, 8, 13, 14]
theorem r21_6 {C : Cs} {k : List Fr} {s : St} {Q : Post} : run C c21_6 k s Q = run C (.ops [⟨some 27, .mv (.t 5), none, []⟩,
  ⟨some 28, .call 63 [.t 27, .c (.int .i64 0), .c (.int .i64 300)], none, []⟩,
  ⟨some 14, .mv (.t 28), none, []⟩] [1, 8, 13, 14]) k s Q := rfl
def c21_7 : ACode := .ops [⟨some 30, .load 6 true (.t 13), none, [13]⟩,
  ⟨some 31, .mv (.t 1), none, []⟩,
  ⟨some 32, .load 10 true (.t 8), none, [8]⟩,
  ⟨some 33, .mv (.t 14), none, []⟩,
  ⟨some 34, .call 82 [.t 30, .t 31, .t 32, .t 33], none, []⟩,
  ⟨some 29, .mv (.t 34), none, []⟩,
  ⟨some 35, .ext (.t 29) 0, none, []⟩,
  ⟨some 36, .ext (.t 29) 1, none, []⟩,
  ⟨some 37, .ext (.t 29) 2, none, []⟩,
  ⟨some 15, .mv (.t 35), none, []⟩,
  ⟨some 16, .mv (.t 36), none, []⟩,
  ⟨some 17, .mv (.t 37), none, []⟩] [1, 8, 13, 14, 15, 16, 17]
theorem r21_7 {C : Cs} {k : List Fr} {s : St} {Q : Post} : run C c21_7 k s Q = run C (.ops [⟨some 30, .load 6 true (.t 13), none, [13]⟩,
  ⟨some 31, .mv (.t 1), none, []⟩,
  ⟨some 32, .load 10 true (.t 8), none, [8]⟩,
  ⟨some 33, .mv (.t 14), none, []⟩,
  ⟨some 34, .call 82 [.t 30, .t 31, .t 32, .t 33], none, []⟩,
  ⟨some 29, .mv (.t 34), none, []⟩,
  ⟨some 35, .ext (.t 29) 0, none, []⟩,
  ⟨some 36, .ext (.t 29) 1, none, []⟩,
  ⟨some 37, .ext (.t 29) 2, none, []⟩,
  ⟨some 15, .mv (.t 35), none, []⟩,
  ⟨some 16, .mv (.t 36), none, []⟩,
  ⟨some 17, .mv (.t 37), none, []⟩] [1, 8, 13, 14, 15, 16, 17]) k s Q := rfl
def c21_8 : ACode := .ops [⟨some 39, .load 6 true (.t 13), none, [13]⟩,
  ⟨some 40, .mv (.t 1), none, []⟩,
  ⟨some 41, .load 10 true (.t 8), none, [8]⟩,
  ⟨some 42, .mv (.t 14), none, []⟩,
  ⟨some 43, .call 85 [.t 39, .t 40, .t 41, .t 42], none, []⟩,
  ⟨some 38, .mv (.t 43), none, []⟩,
  ⟨some 44, .ext (.t 38) 0, none, []⟩,
  ⟨some 45, .ext (.t 38) 1, none, []⟩,
  ⟨some 46, .ext (.t 38) 2, none, []⟩,
  ⟨some 18, .mv (.t 44), none, []⟩,
  ⟨some 19, .mv (.t 45), none, []⟩,
  ⟨some 20, .mv (.t 46), none, []⟩] [15, 16, 17, 18, 19, 20]
theorem r21_8 {C : Cs} {k : List Fr} {s : St} {Q : Post} : run C c21_8 k s Q = run C (.ops [⟨some 39, .load 6 true (.t 13), none, [13]⟩,
  ⟨some 40, .mv (.t 1), none, []⟩,
  ⟨some 41, .load 10 true (.t 8), none, [8]⟩,
  ⟨some 42, .mv (.t 14), none, []⟩,
  ⟨some 43, .call 85 [.t 39, .t 40, .t 41, .t 42], none, []⟩,
  ⟨some 38, .mv (.t 43), none, []⟩,
  ⟨some 44, .ext (.t 38) 0, none, []⟩,
  ⟨some 45, .ext (.t 38) 1, none, []⟩,
  ⟨some 46, .ext (.t 38) 2, none, []⟩,
  ⟨some 18, .mv (.t 44), none, []⟩,
  ⟨some 19, .mv (.t 45), none, []⟩,
  ⟨some 20, .mv (.t 46), none, []⟩] [15, 16, 17, 18, 19, 20]) k s Q := rfl
def c21_9 : ACode := .ops [⟨some 47, .mv (.t 15), none, []⟩,
  ⟨some 48, .mv (.t 18), none, []⟩,
  ⟨some 49, .bin .eql (.t 47) (.t 48), none, []⟩,
  ⟨some 50, .mv (.t 49), none, []⟩,
  ⟨some 51, .mv (.t 16), some (50, true), []⟩,
  ⟨some 52, .mv (.t 19), some (50, true), []⟩,
  ⟨some 53, .bin .eql (.t 51) (.t 52), some (50, true), []⟩,
  ⟨some 54, .pick (.t 50) (.t 53) (.c (.bool false)), none, []⟩,
  ⟨some 55, .mv (.t 54), none, []⟩,
  ⟨some 56, .mv (.t 17), some (55, true), []⟩,
  ⟨some 57, .mv (.t 20), some (55, true), []⟩,
  ⟨some 58, .eqb false (.t 56) (.t 57), some (55, true), []⟩,
  ⟨some 59, .pick (.t 55) (.t 58) (.c (.bool false)), none, []⟩,
  ⟨some 60, .mv (.t 59), none, []⟩,
  ⟨some 61, .call 20 [], some (60, true), []⟩,
  ⟨some 62, .pick (.t 60) (.t 61) (.c (.bool false)), none, []⟩,
  ⟨some 12, .mv (.t 62), none, []⟩] [12]
theorem r21_9 {C : Cs} {k : List Fr} {s : St} {Q : Post} : run C c21_9 k s Q = run C (.ops [⟨some 47, .mv (.t 15), none, []⟩,
  ⟨some 48, .mv (.t 18), none, []⟩,
  ⟨some 49, .bin .eql (.t 47) (.t 48), none, []⟩,
  ⟨some 50, .mv (.t 49), none, []⟩,
  ⟨some 51, .mv (.t 16), some (50, true), []⟩,
  ⟨some 52, .mv (.t 19), some (50, true), []⟩,
  ⟨some 53, .bin .eql (.t 51) (.t 52), some (50, true), []⟩,
  ⟨some 54, .pick (.t 50) (.t 53) (.c (.bool false)), none, []⟩,
  ⟨some 55, .mv (.t 54), none, []⟩,
  ⟨some 56, .mv (.t 17), some (55, true), []⟩,
  ⟨some 57, .mv (.t 20), some (55, true), []⟩,
  ⟨some 58, .eqb false (.t 56) (.t 57), some (55, true), []⟩,
  ⟨some 59, .pick (.t 55) (.t 58) (.c (.bool false)), none, []⟩,
  ⟨some 60, .mv (.t 59), none, []⟩,
  ⟨some 61, .call 20 [], some (60, true), []⟩,
  ⟨some 62, .pick (.t 60) (.t 61) (.c (.bool false)), none, []⟩,
  ⟨some 12, .mv (.t 62), none, []⟩] [12]) k s Q := rfl
def c21_10 : ACode := .seq c21_9 .ret
theorem r21_10 {C : Cs} {k : List Fr} {s : St} {Q : Post} : run C c21_10 k s Q = run C (.seq c21_9 .ret) k s Q := rfl
def c21_11 : ACode := .seq c21_8 c21_10
theorem r21_11 {C : Cs} {k : List Fr} {s : St} {Q : Post} : run C c21_11 k s Q = run C (.seq c21_8 c21_10) k s Q := rfl
def c21_12 : ACode := .seq c21_7 c21_11
theorem r21_12 {C : Cs} {k : List Fr} {s : St} {Q : Post} : run C c21_12 k s Q = run C (.seq c21_7 c21_11) k s Q := rfl
def c21_13 : ACode := .seq c21_6 c21_12
theorem r21_13 {C : Cs} {k : List Fr} {s : St} {Q : Post} : run C c21_13 k s Q = run C (.seq c21_6 c21_12) k s Q := rfl
def c21_14 : ACode := .seq c21_5 c21_13
theorem r21_14 {C : Cs} {k : List Fr} {s : St} {Q : Post} : run C c21_14 k s Q = run C (.seq c21_5 c21_13) k s Q := rfl
def c21_15 : ACode := .seq c21_1 c21_14
theorem r21_15 {C : Cs} {k : List Fr} {s : St} {Q : Post} : run C c21_15 k s Q = run C (.seq c21_1 c21_14) k s Q := rfl
def c21_16 : ACode := .seq c21_0 c21_15
theorem r21_16 {C : Cs} {k : List Fr} {s : St} {Q : Post} : run C c21_16 k s Q = run C (.seq c21_0 c21_15) k s Q := rfl
def a21 : AFun := ⟨6, 63, c21_16, [.t 12]⟩
attribute [simp] r21_0 r21_1 r21_2 r21_3 r21_4 r21_5 r21_6 r21_7 r21_8 r21_9 r21_10 r21_11 r21_12 r21_13 r21_14 r21_15 r21_16
theorem m21 : mFun Try.prog Try.f21 a21 = true := by decide +kernel

/- copse/copselaw16.LevelRuns -/
def c20_0 : ACode := .ops [⟨some 0, .mv (.c (.bool false)), none, []⟩] []
def c20_1 : ACode := .ops [⟨some 9, .call 43 [], none, []⟩,
  ⟨some 1, .alloc [.int .i64 0, .int .i64 0, .int .i64 0, .int .i64 0, .int .i64 0, .nils], none, []⟩,
  ⟨none, .store (.t 1) 6 (.t 9), none, [1]⟩] [1]
def c20_2 : ACode := .ops [⟨some 10, .build [.int .i64 0, .int .i64 0, .int .i64 0] [], none, []⟩,
  ⟨some 11, .fad (.t 1) 2, none, [1]⟩,
  ⟨none, .store (.t 11) 3 (.t 10), none, [1]⟩] [1]
def c20_3 : ACode := .ops [⟨some 12, .call 81 [.c (.int .i64 5), .c (.int .i64 1), .c (.int .i64 (-1))], none, []⟩,
  ⟨some 13, .build [.int .i64 0, .nils] [(1, 1, .t 12)], none, []⟩,
  ⟨some 14, .call 81 [.c (.int .i64 5), .c (.int .i64 (-1)), .c (.int .i64 1)], none, []⟩,
  ⟨some 15, .build [.int .i64 0, .nils] [(1, 1, .t 14)], none, []⟩,
  ⟨some 16, .mkrow 10105 2 2 [.int .i64 0, .nils] [(0, 2, .t 13), (2, 2, .t 15)], none, []⟩,
  ⟨some 17, .fad (.t 1) 5, none, [1]⟩,
  ⟨none, .store (.t 17) 1 (.t 16), none, [1]⟩] [1]
def c20_4 : ACode := .ops [⟨some 18, .build [.int .i64 0, .int .i64 0] [(0, 1, .c (.int .i64 0)), (1, 1, .c (.int .i64 9))], none, []⟩,
  ⟨some 19, .build [.int .i64 0, .int .i64 0, .int .i64 0, .int .i64 0, .int .i64 0, .int .i64 0, .int .i64 0, .int .i64 0, .int .i64 0, .int .i64 0] [(0, 2, .t 18)], none, []⟩,
  ⟨some 2, .alloc [.int .i64 0, .int .i64 0, .int .i64 0, .int .i64 0, .int .i64 0, .int .i64 0, .int .i64 0, .int .i64 0, .int .i64 0, .int .i64 0], none, []⟩,
  ⟨none, .store (.t 2) 10 (.t 19), none, [2]⟩] [1, 2]
def c20_5 : ACode := .ops [⟨some 21, .load 6 true (.t 1), none, [1]⟩,
  ⟨some 22, .load 10 true (.t 2), none, [2]⟩,
  ⟨some 23, .call 82 [.t 21, .c (.int .i64 0), .t 22, .c (.int .i64 9)], none, [10105]⟩,
  ⟨some 20, .mv (.t 23), none, []⟩,
  ⟨some 24, .ext (.t 20) 0, none, []⟩,
  ⟨some 25, .ext (.t 20) 1, none, []⟩,
  ⟨some 26, .ext (.t 20) 2, none, []⟩,
  ⟨some 3, .mv (.t 24), none, []⟩,
  ⟨some 4, .mv (.t 25), none, []⟩,
  ⟨some 5, .mv (.t 26), none, []⟩] [1, 2, 3, 4, 5]
def c20_6 : ACode := .ops [⟨some 28, .load 6 true (.t 1), none, [1]⟩,
  ⟨some 29, .load 10 true (.t 2), none, [2]⟩,
  ⟨some 30, .call 82 [.t 28, .c (.int .i64 0), .t 29, .c (.int .i64 1)], none, [10105]⟩,
  ⟨some 27, .mv (.t 30), none, []⟩,
  ⟨some 31, .ext (.t 27) 0, none, []⟩,
  ⟨some 32, .ext (.t 27) 1, none, []⟩,
  ⟨some 33, .ext (.t 27) 2, none, []⟩,
  ⟨some 6, .mv (.t 31), none, []⟩,
  ⟨some 7, .mv (.t 32), none, []⟩,
  ⟨some 8, .mv (.t 33), none, []⟩] [1, 2, 3, 4, 5, 6, 7, 8]
def c20_7 : ACode := .ops [⟨some 34, .mv (.t 3), none, []⟩,
  ⟨some 35, .bin .eql (.t 34) (.c (.int .i64 0)), none, []⟩,
  ⟨some 36, .mv (.t 35), none, []⟩,
  ⟨some 37, .mv (.t 4), some (36, true), []⟩,
  ⟨some 38, .bin .eql (.t 37) (.c (.int .i64 0)), some (36, true), []⟩,
  ⟨some 39, .pick (.t 36) (.t 38) (.c (.bool false)), none, []⟩,
  ⟨some 40, .mv (.t 39), none, []⟩,
  ⟨some 41, .mv (.t 5), some (40, true), []⟩,
  ⟨some 42, .pick (.t 40) (.t 41) (.c (.bool false)), none, []⟩,
  ⟨some 43, .mv (.t 42), none, []⟩,
  ⟨some 44, .mv (.t 6), some (43, true), []⟩,
  ⟨some 45, .bin .eql (.t 44) (.c (.int .i64 (-2))), some (43, true), []⟩,
  ⟨some 46, .pick (.t 43) (.t 45) (.c (.bool false)), none, []⟩,
  ⟨some 47, .mv (.t 46), none, []⟩,
  ⟨some 48, .mv (.t 7), some (47, true), []⟩,
  ⟨some 49, .bin .eql (.t 48) (.c (.int .i64 2)), some (47, true), []⟩,
  ⟨some 50, .pick (.t 47) (.t 49) (.c (.bool false)), none, []⟩,
  ⟨some 51, .mv (.t 50), none, []⟩,
  ⟨some 52, .mv (.t 8), some (51, true), []⟩,
  ⟨some 53, .un .not (.t 52), some (51, true), []⟩,
  ⟨some 54, .pick (.t 51) (.t 53) (.c (.bool false)), none, []⟩,
  ⟨some 55, .mv (.t 54), none, []⟩,
  ⟨some 56, .load 6 true (.t 1), some (55, true), [1]⟩,
  ⟨some 57, .load 10 true (.t 2), some (55, true), [2]⟩,
  ⟨some 58, .call 84 [.t 56, .c (.int .i64 0), .t 57, .c (.int .i64 9)], some (55, true), [10105]⟩,
  ⟨some 59, .mkrow 59 2 1 [.int .i64 0] [(0, 1, .c (.int .i64 2)), (1, 1, .c (.int .i64 1))], some (55, true), []⟩,
  ⟨some 60, .call 83 [.t 58, .t 59], some (55, true), [59]⟩,
  ⟨some 61, .pick (.t 55) (.t 60) (.c (.bool false)), none, []⟩,
  ⟨some 62, .mv (.t 61), none, []⟩,
  ⟨some 63, .load 6 true (.t 1), some (62, true), [1]⟩,
  ⟨some 64, .load 10 true (.t 2), some (62, true), [2]⟩,
  ⟨some 65, .call 84 [.t 63, .c (.int .i64 0), .t 64, .c (.int .i64 1)], some (62, true), [10105]⟩,
  ⟨some 66, .mkrow 66 1 1 [.int .i64 0] [(0, 1, .c (.int .i64 2))], some (62, true), []⟩,
  ⟨some 67, .call 83 [.t 65, .t 66], some (62, true), [66]⟩,
  ⟨some 68, .pick (.t 62) (.t 67) (.c (.bool false)), none, []⟩,
  ⟨some 0, .mv (.t 68), none, []⟩] [0]
def c20_8 : ACode := .seq c20_7 .ret
def c20_9 : ACode := .seq c20_6 c20_8
def c20_10 : ACode := .seq c20_5 c20_9
def c20_11 : ACode := .seq c20_4 c20_10
def c20_12 : ACode := .seq c20_3 c20_11
def c20_13 : ACode := .seq c20_2 c20_12
def c20_14 : ACode := .seq c20_1 c20_13
def c20_15 : ACode := .seq c20_0 c20_14
def a20 : AFun := ⟨0, 69, c20_15, [.t 0]⟩
theorem m20 : mFun Try.prog Try.f20 a20 = true := by decide +kernel
/- copse/copsekeep.Three -/
def c43_0 : ACode := .ops [⟨some 0, .alloc [.int .i64 0, .int .i64 0, .int .i64 0, .int .i64 0, .int .i64 0, .nils], none, []⟩] [0]
def c43_1 : ACode := .ops [⟨some 2, .build [.bool false, .int .i64 0, .int .i64 0, .int .i64 0, .int .i64 0, .int .i64 0] [(3, 1, .c (.int .i64 5)), (4, 1, .c (.int .i64 1)), (5, 1, .c (.int .i64 2))], none, []⟩,
  ⟨some 3, .call 111 [.t 2], none, []⟩,
  ⟨some 4, .build [.bool false, .int .i64 0, .int .i64 0, .int .i64 0, .int .i64 0, .int .i64 0] [(0, 1, .c (.bool true)), (1, 1, .c (.int .i64 10))], none, []⟩,
  ⟨some 5, .call 111 [.t 4], none, []⟩,
  ⟨some 6, .build [.bool false, .int .i64 0, .int .i64 0, .int .i64 0, .int .i64 0, .int .i64 0] [(0, 1, .c (.bool true)), (1, 1, .c (.int .i64 20))], none, []⟩,
  ⟨some 7, .call 111 [.t 6], none, []⟩,
  ⟨some 8, .mkrow 1 3 1 [.int .u64 0] [(0, 1, .t 3), (1, 1, .t 5), (2, 1, .t 7)], none, []⟩,
  ⟨some 1, .mv (.t 8), none, []⟩] [0, 1]
def c43_2 : ACode := .ops [⟨some 9, .build [.int .i64 0, .int .i64 0, .int .i64 0] [(0, 1, .c (.int .i64 3))], none, []⟩,
  ⟨some 10, .mv (.t 1), none, []⟩,
  ⟨some 11, .build [.int .i64 0, .nils] [(1, 1, .t 10)], none, []⟩,
  ⟨some 12, .mkrow 12 1 2 [.int .i64 0, .nils] [(0, 2, .t 11)], none, []⟩,
  ⟨some 13, .build [.int .i64 0, .int .i64 0, .int .i64 0, .int .i64 0, .int .i64 0, .nils] [(0, 1, .c (.int .i64 1)), (1, 1, .c (.int .i64 1)), (2, 3, .t 9), (5, 1, .t 12)], none, []⟩,
  ⟨none, .store (.t 0) 6 (.t 13), none, [0]⟩] [0]
def c43_3 : ACode := .seq c43_2 .ret
def c43_4 : ACode := .seq c43_1 c43_3
def c43_5 : ACode := .seq c43_0 c43_4
def a43 : AFun := ⟨0, 14, c43_5, [.cell 0 6 true]⟩
theorem m43 : mFun Try.prog Try.f43 a43 = true := by decide +kernel
/- copse/copsekeep.Stump -/
def c81_0 : ACode := .ops [⟨some 6, .nil0 6 1, none, []⟩] [0, 1, 2]
def c81_1 : ACode := .ops [⟨some 7, .mv (.t 0), none, []⟩,
  ⟨some 8, .build [.bool false, .int .i64 0, .int .i64 0, .int .i64 0, .int .i64 0, .int .i64 0] [(3, 1, .t 7), (4, 1, .c (.int .i64 1)), (5, 1, .c (.int .i64 2))], none, []⟩,
  ⟨some 9, .call 111 [.t 8], none, []⟩,
  ⟨some 10, .mv (.t 1), none, []⟩,
  ⟨some 11, .build [.bool false, .int .i64 0, .int .i64 0, .int .i64 0, .int .i64 0, .int .i64 0] [(0, 1, .c (.bool true)), (1, 1, .t 10)], none, []⟩,
  ⟨some 12, .call 111 [.t 11], none, []⟩,
  ⟨some 13, .mv (.t 2), none, []⟩,
  ⟨some 14, .build [.bool false, .int .i64 0, .int .i64 0, .int .i64 0, .int .i64 0, .int .i64 0] [(0, 1, .c (.bool true)), (1, 1, .t 13)], none, []⟩,
  ⟨some 15, .call 111 [.t 14], none, []⟩,
  ⟨some 16, .mkrow 6 3 1 [.int .u64 0] [(0, 1, .t 9), (1, 1, .t 12), (2, 1, .t 15)], none, []⟩,
  ⟨some 6, .mv (.t 16), none, []⟩] [6]
def c81_2 : ACode := .seq c81_1 .ret
def c81_3 : ACode := .seq c81_0 c81_2
def a81 : AFun := ⟨3, 17, c81_3, [.t 6]⟩
theorem m81 : mFun Try.prog Try.f81 a81 = true := by decide +kernel
/- copse/copsebook.Same[int] -/
def c83_0 : ACode := .ops [⟨some 4, .mv (.c (.bool false)), none, []⟩] [0, 1]
def c83_1 : ACode := .ops [⟨some 6, .mv (.t 0), none, []⟩,
  ⟨some 7, .len (.t 6), none, []⟩,
  ⟨some 8, .mv (.t 1), none, []⟩,
  ⟨some 9, .len (.t 8), none, []⟩,
  ⟨some 10, .bin .neq (.t 7) (.t 9), none, []⟩] [0, 1, 10]
def c83_2 : ACode := .ops [⟨some 4, .mv (.c (.bool false)), none, []⟩] [4]
def c83_3 : ACode := .seq c83_2 .ret
def c83_4 : ACode := .cond (.t 10) c83_3 .skip
def c83_5 : ACode := .seq c83_1 c83_4
def c83_6 : ACode := .ops [⟨some 5, .mv (.c (.int .i64 0)), none, []⟩] [0, 1, 5]
def c83_7 : ACode := .ops [⟨some 11, .mv (.t 5), none, []⟩,
  ⟨some 12, .mv (.t 0), none, []⟩,
  ⟨some 13, .len (.t 12), none, []⟩,
  ⟨some 14, .bin .lss (.t 11) (.t 13), none, []⟩] [0, 1, 5, 14]
def c83_8 : ACode := .cond (.t 14) .skip (.exit 0)
def c83_9 : ACode := .seq c83_7 c83_8
def c83_10 : ACode := .ops [⟨some 17, .mv (.t 0), none, []⟩,
  ⟨some 18, .mv (.t 5), none, []⟩,
  ⟨some 19, .ias (.t 17) (.t 18) 1, none, []⟩,
  ⟨some 20, .load 1 false (.t 19), none, []⟩,
  ⟨some 21, .mv (.t 1), none, []⟩,
  ⟨some 22, .mv (.t 5), none, []⟩,
  ⟨some 23, .ias (.t 21) (.t 22) 1, none, []⟩,
  ⟨some 24, .load 1 false (.t 23), none, []⟩,
  ⟨some 25, .bin .neq (.t 20) (.t 24), none, []⟩] [0, 1, 5, 25]
def c83_11 : ACode := .ops [⟨some 4, .mv (.c (.bool false)), none, []⟩] [4]
def c83_12 : ACode := .seq c83_11 .ret
def c83_13 : ACode := .cond (.t 25) c83_12 .skip
def c83_14 : ACode := .seq c83_10 c83_13
def c83_15 : ACode := .block 1 c83_14
def c83_16 : ACode := .ops [⟨some 15, .mv (.t 5), none, []⟩,
  ⟨some 16, .bin .add (.t 15) (.c (.int .i64 1)), none, []⟩,
  ⟨some 5, .mv (.t 16), none, []⟩] [0, 1, 5]
def c83_17 : ACode := .seq c83_15 c83_16
def c83_18 : ACode := .seq c83_9 c83_17
def c83_19 : ACode := .keep [0, 1, 5] [] c83_18
def c83_20 : ACode := .loop c83_19
def c83_21 : ACode := .block 0 c83_20
def c83_22 : ACode := .seq c83_6 c83_21
def c83_23 : ACode := .ops [⟨some 4, .mv (.c (.bool true)), none, []⟩] [4]
def c83_24 : ACode := .seq c83_23 .ret
def c83_25 : ACode := .seq c83_22 c83_24
def c83_26 : ACode := .seq c83_5 c83_25
def c83_27 : ACode := .seq c83_0 c83_26
def a83 : AFun := ⟨2, 26, c83_27, [.t 4]⟩
theorem m83 : mFun Try.prog Try.f83 a83 = true := by decide +kernel
def texts20 : List (Nat × AFun) := [(20, a20), (43, a43), (44, a44), (48, a48), (51, a51), (67, a67), (68, a68), (71, a71), (76, a76), (77, a77), (81, a81), (82, a82), (83, a83), (84, a84), (111, a111), (119, a119), (120, a120), (121, a121), (123, a123), (124, a124), (125, a125), (128, a128), (129, a129), (130, a130), (131, a131), (132, a132), (133, a133), (134, a134), (156, a156), (158, a158), (159, a159), (160, a160), (161, a161), (162, a162), (163, a163), (164, a164), (165, a165), (166, a166), (176, a176), (177, a177), (190, a190), (198, a198)]
theorem texts20_good : Go.Am.Good Try.prog texts20 :=
  good_cons Try.func20 m20 <| good_cons Try.func43 m43 <| good_cons Try.func44 m44 <| good_cons Try.func48 m48 <| good_cons Try.func51 m51 <| good_cons Try.func67 m67 <| good_cons Try.func68 m68 <| good_cons Try.func71 m71 <| good_cons Try.func76 m76 <| good_cons Try.func77 m77 <| good_cons Try.func81 m81 <| good_cons Try.func82 m82 <| good_cons Try.func83 m83 <| good_cons Try.func84 m84 <| good_cons Try.func111 m111 <| good_cons Try.func119 m119 <| good_cons Try.func120 m120 <| good_cons Try.func121 m121 <| good_cons Try.func123 m123 <| good_cons Try.func124 m124 <| good_cons Try.func125 m125 <| good_cons Try.func128 m128 <| good_cons Try.func129 m129 <| good_cons Try.func130 m130 <| good_cons Try.func131 m131 <| good_cons Try.func132 m132 <| good_cons Try.func133 m133 <| good_cons Try.func134 m134 <| good_cons Try.func156 m156 <| good_cons Try.func158 m158 <| good_cons Try.func159 m159 <| good_cons Try.func160 m160 <| good_cons Try.func161 m161 <| good_cons Try.func162 m162 <| good_cons Try.func163 m163 <| good_cons Try.func164 m164 <| good_cons Try.func165 m165 <| good_cons Try.func166 m166 <| good_cons Try.func176 m176 <| good_cons Try.func177 m177 <| good_cons Try.func190 m190 <| good_cons Try.func198 m198 <| good_nil
theorem c_closed20 : Contract Try.prog 20 (sp0 (some true)) := contract_closed mixed texts20_good (m := 1000) (n := 60) (by decide +kernel)


theorem okB_reg (dim : Int) (l : List Int) : okB (regionOf dim l) := by
  have h0 := rSpan_le dim l 0
  have h1 := rSpan_le dim l 1
  have h2 := rSpan_le dim l 2
  have h3 := rSpan_le dim l 3
  unfold okB okS64 ok64 regionOf
  simp only
  omega
set_option maxHeartbeats 4000000 in
set_option maxRecDepth 8000 in
theorem runs_law (f : Forest) (class_ : Int) (b : Box) (l : List Int) (own : Bool) (most : Int) (c : Bool) (h : Part (okB b) true = some c) : Runs (tbl [(45, sp1 ModelC), (46, sp2 RegionC), (63, sp3 Within), (82, sp4 RangeC), (85, sp4 RangeC), (20, sp0 (some true))]) a21 [Arg.enc f, Arg.enc class_, Arg.enc b, Arg.enc l, Arg.enc own, Arg.enc most] (Arg.enc c) := by
  obtain ⟨hb, rfl⟩ := part_some h
  clear h
  refine ⟨rfl, fun g => run_def ?_⟩
  unfold a21
  have hm := rm_modelOf f
  have hM : ModelC f = some (modelOf f) := rfl
  generalize modelOf f = m at *
  have hR : RegionC m l = some (regionOf m.dim l) := part_of hm.dim _
  have hrb := okB_reg m.dim l
  generalize regionOf m.dim l = r at *
  have hW := within_of most 0 300 (by omega)
  have hk := within_le most 0 300 (by omega)
  generalize within most 0 300 = k at *
  have hS : ∀ z, okB z → RangeC m class_ z k = some (rangeP m class_ z k) := fun z hz => part_of ⟨hm, hz, by omega, by omega⟩ _
  cases own
  case false =>
    have s1 := hS b hb
    simp -implicitDefEqProofs [hM, hW, s1]
  case true =>
    have s1 := hS r hrb
    simp -implicitDefEqProofs [hM, hR, hW, s1]
open Classical in
noncomputable def law_sp : List AV → Option AV := sp6 fun (_ : Forest) (_ : Int) (b : Box) (_ : List Int) (_ : Bool) (_ : Int) => Part (okB b) true
/- GOOD 2 -/
theorem law_holds : Contract Try.prog 21 law_sp :=
  contract_of_runs mixed (tbl_cons c_Model (tbl_cons c_Region (tbl_cons c_Within (tbl_cons c_lrange (tbl_cons c_rRange (tbl_cons c_closed20 tbl_nil)))))) Try.func21 m21 (sp6_runs runs_law)
theorem law_says (f : Forest) (k : Int) (b : Box) (l : List Int) (own : Bool) (most : Int) (h : Sh.good b) : law_sp [Arg.enc f, Arg.enc k, Arg.enc b, Arg.enc l, Arg.enc own, Arg.enc most] = some (.bool true) := by
  obtain ⟨h0, h1, h2, h3, h4, h5, h6, h7, h8, h9⟩ := h
  have hb : okB b := ⟨⟨h0, h1⟩, ⟨h2, h3⟩, ⟨h4, h5⟩, ⟨h6, h7⟩, h8, h9⟩
  simp only [law_sp, sp6, Arg.dec_enc, Option.bind_some, part_of hb]
  rfl
end Go.Co
