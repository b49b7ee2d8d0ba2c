/- The law QueryTells: what its text computes. -/
import Derived.Test.YtbjnmbbhlaghaaaCoT
import Derived.Test.YtbjnmbbhlaghaaaCoSh
namespace Go.Co
open Go.Am Go.Proofs
set_option linter.unusedSimpArgs false
set_option linter.unusedVariables false

/- copse/copselaw10.QueryTells -/
def c8_0 : ACode := .ops [⟨some 6, .box (.t 0) 4, none, []⟩,
  ⟨some 7, .box (.t 1) 8, none, []⟩,
  ⟨some 8, .box (.t 2) 17, none, []⟩,
  ⟨some 10, .box (.t 4) 4, none, []⟩,
  ⟨some 12, .mv (.c (.bool false)), none, []⟩] [3, 5, 6, 7, 8, 10]
theorem r8_0 {C : Cs} {k : List Fr} {s : St} {Q : Post} : run C c8_0 k s Q = run C (.ops [⟨some 6, .box (.t 0) 4, none, []⟩,
  ⟨some 7, .box (.t 1) 8, none, []⟩,
  ⟨some 8, .box (.t 2) 17, none, []⟩,
  ⟨some 10, .box (.t 4) 4, none, []⟩,
  ⟨some 12, .mv (.c (.bool false)), none, []⟩] [3, 5, 6, 7, 8, 10]) k s Q := rfl
def c8_1 : ACode := .ops [⟨some 14, .load 4 true (.t 6), none, [6]⟩,
  ⟨some 15, .call 45 [.t 14], none, []⟩,
  ⟨some 13, .alloc [.int .i64 0, .int .i64 0, .int .i64 0, .int .i64 0, .int .i64 0, .nils], none, []⟩,
  ⟨none, .store (.t 13) 6 (.t 15), none, [13]⟩] [3, 5, 7, 8, 10, 13]
theorem r8_1 {C : Cs} {k : List Fr} {s : St} {Q : Post} : run C c8_1 k s Q = run C (.ops [⟨some 14, .load 4 true (.t 6), none, [6]⟩,
  ⟨some 15, .call 45 [.t 14], none, []⟩,
  ⟨some 13, .alloc [.int .i64 0, .int .i64 0, .int .i64 0, .int .i64 0, .int .i64 0, .nils], none, []⟩,
  ⟨none, .store (.t 13) 6 (.t 15), none, [13]⟩] [3, 5, 7, 8, 10, 13]) k s Q := rfl
def c8_2 : ACode := .ops [⟨some 16, .mv (.t 3), none, []⟩] [5, 7, 8, 10, 13, 16]
theorem r8_2 {C : Cs} {k : List Fr} {s : St} {Q : Post} : run C c8_2 k s Q = run C (.ops [⟨some 16, .mv (.t 3), none, []⟩] [5, 7, 8, 10, 13, 16]) k s Q := rfl
def c8_3 : ACode := .ops [⟨some 17, .load 8 true (.t 7), none, [7]⟩,
  ⟨some 18, .load 6 true (.t 13), none, [13]⟩,
  ⟨some 19, .call 59 [.t 17, .t 18], none, []⟩,
  ⟨none, .store (.t 8) 17 (.t 19), none, [8]⟩] [5, 8, 10, 13]
theorem r8_3 {C : Cs} {k : List Fr} {s : St} {Q : Post} : run C c8_3 k s Q = run C (.ops [⟨some 17, .load 8 true (.t 7), none, [7]⟩,
  ⟨some 18, .load 6 true (.t 13), none, [13]⟩,
  ⟨some 19, .call 59 [.t 17, .t 18], none, []⟩,
  ⟨none, .store (.t 8) 17 (.t 19), none, [8]⟩] [5, 8, 10, 13]) k s Q := rfl
def c8_4 : ACode := .cond (.t 16) c8_3 .skip
theorem r8_4 {C : Cs} {k : List Fr} {s : St} {Q : Post} : run C c8_4 k s Q = run C (.cond (.t 16) c8_3 .skip) k s Q := rfl
def c8_5 : ACode := .seq c8_2 c8_4
theorem r8_5 {C : Cs} {k : List Fr} {s : St} {Q : Post} : run C c8_5 k s Q = run C (.seq c8_2 c8_4) k s Q := rfl
def c8_6 : ACode := .ops [⟨some 20, .load 6 true (.t 13), none, [13]⟩,
  ⟨some 21, .load 17 true (.t 8), none, [8]⟩,
  ⟨some 22, .call 56 [.t 20, .t 21], none, []⟩,
  ⟨some 23, .load 6 true (.t 13), none, [13]⟩,
  ⟨some 24, .load 17 true (.t 8), none, [8]⟩,
  ⟨some 25, .call 60 [.t 23, .t 24], none, []⟩,
  ⟨some 26, .eqb false (.t 22) (.t 25), none, []⟩,
  ⟨some 27, .mv (.t 26), none, []⟩,
  ⟨some 28, .load 17 true (.t 8), some (27, true), [8]⟩,
  ⟨some 29, .call 58 [.t 28], some (27, true), []⟩,
  ⟨some 30, .load 17 true (.t 8), some (27, true), [8]⟩,
  ⟨some 31, .call 61 [.t 30], some (27, true), []⟩,
  ⟨some 32, .eqa false [false, false, false, false, false, false, false, false, false, false] (.t 29) (.t 31), some (27, true), []⟩,
  ⟨some 33, .pick (.t 27) (.t 32) (.c (.bool false)), none, []⟩,
  ⟨some 34, .mv (.t 33), none, []⟩,
  ⟨some 35, .load 6 true (.t 13), some (34, true), [13]⟩,
  ⟨some 36, .load 17 true (.t 8), some (34, true), [8]⟩,
  ⟨some 37, .load 4 true (.t 10), some (34, true), [10]⟩,
  ⟨some 38, .mv (.t 5), some (34, true), []⟩,
  ⟨some 39, .call 57 [.t 35, .t 36, .t 37, .t 38], some (34, true), []⟩,
  ⟨some 40, .load 6 true (.t 13), some (34, true), [13]⟩,
  ⟨some 41, .load 17 true (.t 8), some (34, true), [8]⟩,
  ⟨some 42, .load 4 true (.t 10), some (34, true), [10]⟩,
  ⟨some 43, .mv (.t 5), some (34, true), []⟩,
  ⟨some 44, .call 62 [.t 40, .t 41, .t 42, .t 43], some (34, true), []⟩,
  ⟨some 45, .eqb false (.t 39) (.t 44), some (34, true), []⟩,
  ⟨some 46, .pick (.t 34) (.t 45) (.c (.bool false)), none, []⟩,
  ⟨some 47, .mv (.t 46), none, []⟩,
  ⟨some 48, .call 7 [], some (47, true), []⟩,
  ⟨some 49, .pick (.t 47) (.t 48) (.c (.bool false)), none, []⟩,
  ⟨some 12, .mv (.t 49), none, []⟩] [12]
theorem r8_6 {C : Cs} {k : List Fr} {s : St} {Q : Post} : run C c8_6 k s Q = run C (.ops [⟨some 20, .load 6 true (.t 13), none, [13]⟩,
  ⟨some 21, .load 17 true (.t 8), none, [8]⟩,
  ⟨some 22, .call 56 [.t 20, .t 21], none, []⟩,
  ⟨some 23, .load 6 true (.t 13), none, [13]⟩,
  ⟨some 24, .load 17 true (.t 8), none, [8]⟩,
  ⟨some 25, .call 60 [.t 23, .t 24], none, []⟩,
  ⟨some 26, .eqb false (.t 22) (.t 25), none, []⟩,
  ⟨some 27, .mv (.t 26), none, []⟩,
  ⟨some 28, .load 17 true (.t 8), some (27, true), [8]⟩,
  ⟨some 29, .call 58 [.t 28], some (27, true), []⟩,
  ⟨some 30, .load 17 true (.t 8), some (27, true), [8]⟩,
  ⟨some 31, .call 61 [.t 30], some (27, true), []⟩,
  ⟨some 32, .eqa false [false, false, false, false, false, false, false, false, false, false] (.t 29) (.t 31), some (27, true), []⟩,
  ⟨some 33, .pick (.t 27) (.t 32) (.c (.bool false)), none, []⟩,
  ⟨some 34, .mv (.t 33), none, []⟩,
  ⟨some 35, .load 6 true (.t 13), some (34, true), [13]⟩,
  ⟨some 36, .load 17 true (.t 8), some (34, true), [8]⟩,
  ⟨some 37, .load 4 true (.t 10), some (34, true), [10]⟩,
  ⟨some 38, .mv (.t 5), some (34, true), []⟩,
  ⟨some 39, .call 57 [.t 35, .t 36, .t 37, .t 38], some (34, true), []⟩,
  ⟨some 40, .load 6 true (.t 13), some (34, true), [13]⟩,
  ⟨some 41, .load 17 true (.t 8), some (34, true), [8]⟩,
  ⟨some 42, .load 4 true (.t 10), some (34, true), [10]⟩,
  ⟨some 43, .mv (.t 5), some (34, true), []⟩,
  ⟨some 44, .call 62 [.t 40, .t 41, .t 42, .t 43], some (34, true), []⟩,
  ⟨some 45, .eqb false (.t 39) (.t 44), some (34, true), []⟩,
  ⟨some 46, .pick (.t 34) (.t 45) (.c (.bool false)), none, []⟩,
  ⟨some 47, .mv (.t 46), none, []⟩,
  ⟨some 48, .call 7 [], some (47, true), []⟩,
  ⟨some 49, .pick (.t 47) (.t 48) (.c (.bool false)), none, []⟩,
  ⟨some 12, .mv (.t 49), none, []⟩] [12]) k s Q := rfl
def c8_7 : ACode := .seq c8_6 .ret
theorem r8_7 {C : Cs} {k : List Fr} {s : St} {Q : Post} : run C c8_7 k s Q = run C (.seq c8_6 .ret) k s Q := rfl
def c8_8 : ACode := .seq c8_5 c8_7
theorem r8_8 {C : Cs} {k : List Fr} {s : St} {Q : Post} : run C c8_8 k s Q = run C (.seq c8_5 c8_7) k s Q := rfl
def c8_9 : ACode := .seq c8_1 c8_8
theorem r8_9 {C : Cs} {k : List Fr} {s : St} {Q : Post} : run C c8_9 k s Q = run C (.seq c8_1 c8_8) k s Q := rfl
def c8_10 : ACode := .seq c8_0 c8_9
theorem r8_10 {C : Cs} {k : List Fr} {s : St} {Q : Post} : run C c8_10 k s Q = run C (.seq c8_0 c8_9) k s Q := rfl
def a8 : AFun := ⟨6, 50, c8_10, [.t 12]⟩
attribute [simp] r8_0 r8_1 r8_2 r8_3 r8_4 r8_5 r8_6 r8_7 r8_8 r8_9 r8_10
theorem m8 : mFun Try.prog Try.f8 a8 = true := by decide +kernel

/- copse/copselaw10.QueryRuns -/
def c7_0 : ACode := .ops [⟨some 0, .mv (.c (.bool false)), none, []⟩] []
def c7_1 : ACode := .ops [⟨some 5, .call 43 [], none, []⟩,
  ⟨some 1, .alloc [.int .i64 0, .int .i64 0, .int .i64 0, .int .i64 0, .int .i64 0, .nils], none, []⟩,
  ⟨none, .store (.t 1) 6 (.t 5), none, [1]⟩] [1]
def c7_2 : ACode := .ops [⟨some 6, .build [.int .i64 0, .int .i64 0] [(0, 1, .c (.int .i64 0)), (1, 1, .c (.int .i64 9))], none, []⟩,
  ⟨some 7, .build [.int .i64 0, .int .i64 0, .int .i64 0, .int .i64 0, .int .i64 0, .int .i64 0, .int .i64 0, .int .i64 0, .int .i64 0, .int .i64 0] [(0, 2, .t 6)], none, []⟩,
  ⟨some 8, .build [.int .i64 0, .int .i64 0, .int .i64 0, .int .i64 0, .int .i64 0, .int .i64 0, .int .i64 0, .int .i64 0, .int .i64 0, .int .i64 0, .int .i64 0, .int .i64 0, .int .i64 0, .int .i64 0, .int .i64 0, .bool false, .int .i64 0] [(0, 1, .c (.int .i64 3)), (2, 10, .t 7)], none, []⟩,
  ⟨some 2, .alloc [.int .i64 0, .int .i64 0, .int .i64 0, .int .i64 0, .int .i64 0, .int .i64 0, .int .i64 0, .int .i64 0, .int .i64 0, .int .i64 0, .int .i64 0, .int .i64 0, .int .i64 0, .int .i64 0, .int .i64 0, .bool false, .int .i64 0], none, []⟩,
  ⟨none, .store (.t 2) 17 (.t 8), none, [2]⟩] [1, 2]
def c7_3 : ACode := .ops [⟨some 9, .load 17 true (.t 2), none, [2]⟩,
  ⟨some 3, .alloc [.int .i64 0, .int .i64 0, .int .i64 0, .int .i64 0, .int .i64 0, .int .i64 0, .int .i64 0, .int .i64 0, .int .i64 0, .int .i64 0, .int .i64 0, .int .i64 0, .int .i64 0, .int .i64 0, .int .i64 0, .bool false, .int .i64 0], none, []⟩,
  ⟨none, .store (.t 3) 17 (.t 9), none, [3]⟩] [1, 2, 3]
def c7_4 : ACode := .ops [⟨some 10, .fad (.t 3) 15, none, [3]⟩,
  ⟨none, .store (.t 10) 1 (.c (.bool true)), none, [3]⟩] [1, 2, 3]
def c7_5 : ACode := .ops [⟨some 11, .build [.int .i64 0, .int .i64 0] [(0, 1, .c (.int .i64 0)), (1, 1, .c (.int .i64 9))], none, []⟩,
  ⟨some 12, .build [.int .i64 0, .int .i64 0, .int .i64 0, .int .i64 0, .int .i64 0, .int .i64 0, .int .i64 0, .int .i64 0, .int .i64 0, .int .i64 0] [(0, 2, .t 11)], none, []⟩,
  ⟨some 13, .build [.int .i64 0, .int .i64 0, .int .i64 0, .int .i64 0, .int .i64 0, .int .i64 0, .int .i64 0, .int .i64 0, .int .i64 0, .int .i64 0, .int .i64 0, .int .i64 0, .int .i64 0, .int .i64 0, .int .i64 0, .bool false, .int .i64 0] [(0, 1, .c (.int .i64 1)), (2, 10, .t 12), (13, 1, .c (.int .i64 20))], none, []⟩,
  ⟨some 4, .alloc [.int .i64 0, .int .i64 0, .int .i64 0, .int .i64 0, .int .i64 0, .int .i64 0, .int .i64 0, .int .i64 0, .int .i64 0, .int .i64 0, .int .i64 0, .int .i64 0, .int .i64 0, .int .i64 0, .int .i64 0, .bool false, .int .i64 0], none, []⟩,
  ⟨none, .store (.t 4) 17 (.t 13), none, [4]⟩] [1, 2, 3, 4]
def c7_6 : ACode := .ops [⟨some 14, .load 6 true (.t 1), none, [1]⟩,
  ⟨some 15, .load 17 true (.t 2), none, [2]⟩,
  ⟨some 16, .call 56 [.t 14, .t 15], none, []⟩,
  ⟨some 17, .mv (.t 16), none, []⟩,
  ⟨some 18, .load 6 true (.t 1), some (17, true), [1]⟩,
  ⟨some 19, .load 17 true (.t 2), some (17, true), [2]⟩,
  ⟨some 20, .build [.int .i64 0, .int .i64 0, .int .i64 0, .int .i64 0] [(0, 1, .c (.int .i64 5))], some (17, true), []⟩,
  ⟨some 21, .call 57 [.t 18, .t 19, .t 20, .c (.int .i64 6)], some (17, true), []⟩,
  ⟨some 22, .un .not (.t 21), some (17, true), []⟩,
  ⟨some 23, .pick (.t 17) (.t 22) (.c (.bool false)), none, []⟩,
  ⟨some 24, .mv (.t 23), none, []⟩,
  ⟨some 25, .load 6 true (.t 1), some (24, true), [1]⟩,
  ⟨some 26, .load 17 true (.t 3), some (24, true), [3]⟩,
  ⟨some 27, .build [.int .i64 0, .int .i64 0, .int .i64 0, .int .i64 0] [(0, 1, .c (.int .i64 5))], some (24, true), []⟩,
  ⟨some 28, .call 57 [.t 25, .t 26, .t 27, .c (.int .i64 6)], some (24, true), []⟩,
  ⟨some 29, .pick (.t 24) (.t 28) (.c (.bool false)), none, []⟩,
  ⟨some 30, .mv (.t 29), none, []⟩,
  ⟨some 31, .load 6 true (.t 1), some (30, true), [1]⟩,
  ⟨some 32, .load 17 true (.t 4), some (30, true), [4]⟩,
  ⟨some 33, .build [.int .i64 0, .int .i64 0, .int .i64 0, .int .i64 0] [(0, 1, .c (.int .i64 6))], some (30, true), []⟩,
  ⟨some 34, .call 57 [.t 31, .t 32, .t 33, .c (.int .i64 0)], some (30, true), []⟩,
  ⟨some 35, .pick (.t 30) (.t 34) (.c (.bool false)), none, []⟩,
  ⟨some 36, .mv (.t 35), none, []⟩,
  ⟨some 37, .load 17 true (.t 2), some (36, true), [2]⟩,
  ⟨some 38, .call 58 [.t 37], some (36, true), []⟩,
  ⟨some 39, .build [.int .i64 0, .int .i64 0] [(0, 1, .c (.int .i64 0)), (1, 1, .c (.int .i64 9))], some (36, true), []⟩,
  ⟨some 40, .build [.int .i64 0, .int .i64 0] [], some (36, true), []⟩,
  ⟨some 41, .build [.int .i64 0, .int .i64 0] [], some (36, true), []⟩,
  ⟨some 42, .build [.int .i64 0, .int .i64 0] [], some (36, true), []⟩,
  ⟨some 43, .build [.int .i64 0, .int .i64 0] [(0, 1, .c (.int .i64 0)), (1, 1, .c (.int .i64 9))], some (36, true), []⟩,
  ⟨some 44, .build [.int .i64 0, .int .i64 0, .int .i64 0, .int .i64 0, .int .i64 0, .int .i64 0, .int .i64 0, .int .i64 0, .int .i64 0, .int .i64 0] [(0, 2, .t 39), (2, 2, .t 40), (4, 2, .t 41), (6, 2, .t 42), (8, 2, .t 43)], some (36, true), []⟩,
  ⟨some 45, .eqa false [false, false, false, false, false, false, false, false, false, false] (.t 38) (.t 44), some (36, true), []⟩,
  ⟨some 46, .pick (.t 36) (.t 45) (.c (.bool false)), none, []⟩,
  ⟨some 0, .mv (.t 46), none, []⟩] [0]
def c7_7 : ACode := .seq c7_6 .ret
def c7_8 : ACode := .seq c7_5 c7_7
def c7_9 : ACode := .seq c7_4 c7_8
def c7_10 : ACode := .seq c7_3 c7_9
def c7_11 : ACode := .seq c7_2 c7_10
def c7_12 : ACode := .seq c7_1 c7_11
def c7_13 : ACode := .seq c7_0 c7_12
def a7 : AFun := ⟨0, 47, c7_13, [.t 0]⟩
theorem m7 : mFun Try.prog Try.f7 a7 = true := by decide +kernel
/- copse/copsekeep.Three -/
def c43_0 : ACode := .ops [⟨some 0, .alloc [.int .i64 0, .int .i64 0, .int .i64 0, .int .i64 0, .int .i64 0, .nils], none, []⟩] [0]
def c43_1 : ACode := .ops [⟨some 2, .build [.bool false, .int .i64 0, .int .i64 0, .int .i64 0, .int .i64 0, .int .i64 0] [(3, 1, .c (.int .i64 5)), (4, 1, .c (.int .i64 1)), (5, 1, .c (.int .i64 2))], none, []⟩,
  ⟨some 3, .call 111 [.t 2], none, []⟩,
  ⟨some 4, .build [.bool false, .int .i64 0, .int .i64 0, .int .i64 0, .int .i64 0, .int .i64 0] [(0, 1, .c (.bool true)), (1, 1, .c (.int .i64 10))], none, []⟩,
  ⟨some 5, .call 111 [.t 4], none, []⟩,
  ⟨some 6, .build [.bool false, .int .i64 0, .int .i64 0, .int .i64 0, .int .i64 0, .int .i64 0] [(0, 1, .c (.bool true)), (1, 1, .c (.int .i64 20))], none, []⟩,
  ⟨some 7, .call 111 [.t 6], none, []⟩,
  ⟨some 8, .mkrow 1 3 1 [.int .u64 0] [(0, 1, .t 3), (1, 1, .t 5), (2, 1, .t 7)], none, []⟩,
  ⟨some 1, .mv (.t 8), none, []⟩] [0, 1]
def c43_2 : ACode := .ops [⟨some 9, .build [.int .i64 0, .int .i64 0, .int .i64 0] [(0, 1, .c (.int .i64 3))], none, []⟩,
  ⟨some 10, .mv (.t 1), none, []⟩,
  ⟨some 11, .build [.int .i64 0, .nils] [(1, 1, .t 10)], none, []⟩,
  ⟨some 12, .mkrow 12 1 2 [.int .i64 0, .nils] [(0, 2, .t 11)], none, []⟩,
  ⟨some 13, .build [.int .i64 0, .int .i64 0, .int .i64 0, .int .i64 0, .int .i64 0, .nils] [(0, 1, .c (.int .i64 1)), (1, 1, .c (.int .i64 1)), (2, 3, .t 9), (5, 1, .t 12)], none, []⟩,
  ⟨none, .store (.t 0) 6 (.t 13), none, [0]⟩] [0]
def c43_3 : ACode := .seq c43_2 .ret
def c43_4 : ACode := .seq c43_1 c43_3
def c43_5 : ACode := .seq c43_0 c43_4
def a43 : AFun := ⟨0, 14, c43_5, [.cell 0 6 true]⟩
theorem m43 : mFun Try.prog Try.f43 a43 = true := by decide +kernel
def texts7 : List (Nat × AFun) := [(7, a7), (43, a43), (56, a56), (57, a57), (58, a58), (64, a64), (69, a69), (71, a71), (76, a76), (77, a77), (99, a99), (111, a111), (115, a115), (116, a116), (117, a117), (118, a118), (119, a119), (121, a121), (122, a122), (123, a123), (124, a124), (125, a125), (128, a128), (129, a129), (130, a130), (131, a131), (148, a148), (156, a156), (160, a160), (161, a161), (162, a162), (163, a163), (164, a164), (165, a165), (176, a176)]
theorem texts7_good : Go.Am.Good Try.prog texts7 :=
  good_cons Try.func7 m7 <| good_cons Try.func43 m43 <| good_cons Try.func56 m56 <| good_cons Try.func57 m57 <| good_cons Try.func58 m58 <| good_cons Try.func64 m64 <| good_cons Try.func69 m69 <| good_cons Try.func71 m71 <| good_cons Try.func76 m76 <| good_cons Try.func77 m77 <| good_cons Try.func99 m99 <| good_cons Try.func111 m111 <| good_cons Try.func115 m115 <| good_cons Try.func116 m116 <| good_cons Try.func117 m117 <| good_cons Try.func118 m118 <| good_cons Try.func119 m119 <| good_cons Try.func121 m121 <| good_cons Try.func122 m122 <| good_cons Try.func123 m123 <| good_cons Try.func124 m124 <| good_cons Try.func125 m125 <| good_cons Try.func128 m128 <| good_cons Try.func129 m129 <| good_cons Try.func130 m130 <| good_cons Try.func131 m131 <| good_cons Try.func148 m148 <| good_cons Try.func156 m156 <| good_cons Try.func160 m160 <| good_cons Try.func161 m161 <| good_cons Try.func162 m162 <| good_cons Try.func163 m163 <| good_cons Try.func164 m164 <| good_cons Try.func165 m165 <| good_cons Try.func176 m176 <| good_nil
theorem c_closed7 : Contract Try.prog 7 (sp0 (some true)) := contract_closed mixed texts7_good (m := 1000) (n := 60) (by decide +kernel)


set_option maxHeartbeats 4000000 in
set_option maxRecDepth 100000 in
theorem runs_law (f : Forest) (a : Ask) (q : Query) (own : Bool) (p : Point) (t : Int) (c : Bool) (h : some true = some c) : Runs (tbl [(45, sp1 ModelC), (59, sp2 QueryC), (56, sp2 QRight), (60, sp2 RQRight), (58, sp1 fun q => some (startOf q)), (61, sp1 fun q => some (startOf q)), (57, sp4 BreaksC), (62, sp4 BreaksC), (7, sp0 (some true))]) a8 [Arg.enc f, Arg.enc a, Arg.enc q, Arg.enc own, Arg.enc p, Arg.enc t] (Arg.enc c) := by
  cases h
  refine ⟨rfl, fun g => run_def ?_⟩
  unfold a8
  have hm := rm_modelOf f
  have hM : ModelC f = some (modelOf f) := rfl
  generalize modelOf f = m at *
  have hQ : QueryC a m = some (queryOf m a) := part_of ⟨hm.dim.1, hm.dim.2, hm.classes.1, hm.classes.2⟩ _
  generalize queryOf m a = q2 at *
  have hR : ∀ x, QRight m x = some (okQuery m x) := fun x => by unfold QRight; rw [if_neg (by have := hm.dim; omega), part_of hm]
  have hR2 : ∀ x, RQRight m x = some (okQuery m x) := fun x => part_of hm _
  have hB : ∀ x, BreaksC m x p t = some (breaks m x p t) := fun x => part_of hm _
  cases own
  case false =>
    have r1 := hR q
    have r2 := hR2 q
    have b1 := hB q
    simp -implicitDefEqProofs [hM, r1, r2, b1]
  case true =>
    have r1 := hR q2
    have r2 := hR2 q2
    have b1 := hB q2
    simp -implicitDefEqProofs [hM, hQ, r1, r2, b1]
def law_sp : List AV → Option AV := sp6 fun (_ : Forest) (_ : Ask) (_ : Query) (_ : Bool) (_ : Point) (_ : Int) => some true
theorem law_holds : Contract Try.prog 8 law_sp :=
  contract_of_runs mixed (tbl_cons c_Model (tbl_cons c_Query (tbl_cons c_qRight (tbl_cons c_rRight' (tbl_cons c_Start (tbl_cons c_rStart (tbl_cons c_Breaks (tbl_cons c_rBreaks (tbl_cons c_closed7 tbl_nil))))))))) Try.func8 m8 (sp6_runs runs_law)
theorem law_says (f : Forest) (a : Ask) (q : Query) (o : Bool) (p : Point) (t : Int) : law_sp [Arg.enc f, Arg.enc a, Arg.enc q, Arg.enc o, Arg.enc p, Arg.enc t] = some (.bool true) := by
  simp only [law_sp, sp6, Arg.dec_enc, Option.bind_some]
  rfl
end Go.Co
