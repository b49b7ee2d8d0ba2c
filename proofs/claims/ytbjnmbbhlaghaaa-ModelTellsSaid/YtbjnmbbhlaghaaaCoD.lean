/- CO: spans and boxes. -/
import Derived.Test.YtbjnmbbhlaghaaaCoC
namespace Go.Co
open Go.Am Go.Proofs
set_option linter.unusedSimpArgs false
set_option linter.unusedVariables false

/- copse/span.none -/
def c159_0 : ACode := .ops [⟨some 0, .alloc [.int .i64 0, .int .i64 0], none, []⟩] [0]
theorem r159_0 {C : Cs} {k : List Fr} {s : St} {Q : Post} : run C c159_0 k s Q = run C (.ops [⟨some 0, .alloc [.int .i64 0, .int .i64 0], none, []⟩] [0]) k s Q := rfl
def c159_1 : ACode := .ops [⟨some 1, .build [.int .i64 0, .int .i64 0] [(0, 1, .c (.int .i64 1))], none, []⟩,
  ⟨none, .store (.t 0) 2 (.t 1), none, [0]⟩] [0]
theorem r159_1 {C : Cs} {k : List Fr} {s : St} {Q : Post} : run C c159_1 k s Q = run C (.ops [⟨some 1, .build [.int .i64 0, .int .i64 0] [(0, 1, .c (.int .i64 1))], none, []⟩,
  ⟨none, .store (.t 0) 2 (.t 1), none, [0]⟩] [0]) k s Q := rfl
def c159_2 : ACode := .seq c159_1 .ret
theorem r159_2 {C : Cs} {k : List Fr} {s : St} {Q : Post} : run C c159_2 k s Q = run C (.seq c159_1 .ret) k s Q := rfl
def c159_3 : ACode := .seq c159_0 c159_2
theorem r159_3 {C : Cs} {k : List Fr} {s : St} {Q : Post} : run C c159_3 k s Q = run C (.seq c159_0 c159_2) k s Q := rfl
def a159 : AFun := ⟨0, 2, c159_3, [.cell 0 2 true]⟩
attribute [simp] r159_0 r159_1 r159_2 r159_3
theorem m159 : mFun Try.prog Try.f159 a159 = true := by decide +kernel
/- copse/span.of -/
def c158_0 : ACode := .ops [⟨some 4, .alloc [.int .i64 0, .int .i64 0], none, []⟩] [0, 1, 4]
theorem r158_0 {C : Cs} {k : List Fr} {s : St} {Q : Post} : run C c158_0 k s Q = run C (.ops [⟨some 4, .alloc [.int .i64 0, .int .i64 0], none, []⟩] [0, 1, 4]) k s Q := rfl
def c158_1 : ACode := .ops [⟨some 5, .mv (.t 0), none, []⟩,
  ⟨some 6, .mv (.t 1), none, []⟩,
  ⟨some 7, .bin .gtr (.t 5) (.t 6), none, []⟩] [0, 1, 4, 7]
theorem r158_1 {C : Cs} {k : List Fr} {s : St} {Q : Post} : run C c158_1 k s Q = run C (.ops [⟨some 5, .mv (.t 0), none, []⟩,
  ⟨some 6, .mv (.t 1), none, []⟩,
  ⟨some 7, .bin .gtr (.t 5) (.t 6), none, []⟩] [0, 1, 4, 7]) k s Q := rfl
def c158_2 : ACode := .ops [⟨some 8, .call 159 [], none, []⟩,
  ⟨none, .store (.t 4) 2 (.t 8), none, [4]⟩] [4]
theorem r158_2 {C : Cs} {k : List Fr} {s : St} {Q : Post} : run C c158_2 k s Q = run C (.ops [⟨some 8, .call 159 [], none, []⟩,
  ⟨none, .store (.t 4) 2 (.t 8), none, [4]⟩] [4]) k s Q := rfl
def c158_3 : ACode := .seq c158_2 .ret
theorem r158_3 {C : Cs} {k : List Fr} {s : St} {Q : Post} : run C c158_3 k s Q = run C (.seq c158_2 .ret) k s Q := rfl
def c158_4 : ACode := .cond (.t 7) c158_3 .skip
theorem r158_4 {C : Cs} {k : List Fr} {s : St} {Q : Post} : run C c158_4 k s Q = run C (.cond (.t 7) c158_3 .skip) k s Q := rfl
def c158_5 : ACode := .seq c158_1 c158_4
theorem r158_5 {C : Cs} {k : List Fr} {s : St} {Q : Post} : run C c158_5 k s Q = run C (.seq c158_1 c158_4) k s Q := rfl
def c158_6 : ACode := .ops [⟨some 9, .mv (.t 0), none, []⟩,
  ⟨some 10, .mv (.t 1), none, []⟩,
  ⟨some 11, .build [.int .i64 0, .int .i64 0] [(0, 1, .t 9), (1, 1, .t 10)], none, []⟩,
  ⟨none, .store (.t 4) 2 (.t 11), none, [4]⟩] [4]
theorem r158_6 {C : Cs} {k : List Fr} {s : St} {Q : Post} : run C c158_6 k s Q = run C (.ops [⟨some 9, .mv (.t 0), none, []⟩,
  ⟨some 10, .mv (.t 1), none, []⟩,
  ⟨some 11, .build [.int .i64 0, .int .i64 0] [(0, 1, .t 9), (1, 1, .t 10)], none, []⟩,
  ⟨none, .store (.t 4) 2 (.t 11), none, [4]⟩] [4]) k s Q := rfl
def c158_7 : ACode := .seq c158_6 .ret
theorem r158_7 {C : Cs} {k : List Fr} {s : St} {Q : Post} : run C c158_7 k s Q = run C (.seq c158_6 .ret) k s Q := rfl
def c158_8 : ACode := .seq c158_5 c158_7
theorem r158_8 {C : Cs} {k : List Fr} {s : St} {Q : Post} : run C c158_8 k s Q = run C (.seq c158_5 c158_7) k s Q := rfl
def c158_9 : ACode := .seq c158_0 c158_8
theorem r158_9 {C : Cs} {k : List Fr} {s : St} {Q : Post} : run C c158_9 k s Q = run C (.seq c158_0 c158_8) k s Q := rfl
def a158 : AFun := ⟨2, 12, c158_9, [.cell 4 2 true]⟩
attribute [simp] r158_0 r158_1 r158_2 r158_3 r158_4 r158_5 r158_6 r158_7 r158_8 r158_9
theorem m158 : mFun Try.prog Try.f158 a158 = true := by decide +kernel
/- copse/span.Empty -/
def c121_0 : ACode := .ops [⟨some 1, .box (.t 0) 2, none, []⟩,
  ⟨some 2, .mv (.c (.bool false)), none, []⟩] [1]
theorem r121_0 {C : Cs} {k : List Fr} {s : St} {Q : Post} : run C c121_0 k s Q = run C (.ops [⟨some 1, .box (.t 0) 2, none, []⟩,
  ⟨some 2, .mv (.c (.bool false)), none, []⟩] [1]) k s Q := rfl
def c121_1 : ACode := .ops [⟨some 3, .fad (.t 1) 0, none, [1]⟩,
  ⟨some 4, .load 1 false (.t 3), none, [1]⟩,
  ⟨some 5, .fad (.t 1) 1, none, [1]⟩,
  ⟨some 6, .load 1 false (.t 5), none, [1]⟩,
  ⟨some 7, .bin .gtr (.t 4) (.t 6), none, []⟩,
  ⟨some 2, .mv (.t 7), none, []⟩] [2]
theorem r121_1 {C : Cs} {k : List Fr} {s : St} {Q : Post} : run C c121_1 k s Q = run C (.ops [⟨some 3, .fad (.t 1) 0, none, [1]⟩,
  ⟨some 4, .load 1 false (.t 3), none, [1]⟩,
  ⟨some 5, .fad (.t 1) 1, none, [1]⟩,
  ⟨some 6, .load 1 false (.t 5), none, [1]⟩,
  ⟨some 7, .bin .gtr (.t 4) (.t 6), none, []⟩,
  ⟨some 2, .mv (.t 7), none, []⟩] [2]) k s Q := rfl
def c121_2 : ACode := .seq c121_1 .ret
theorem r121_2 {C : Cs} {k : List Fr} {s : St} {Q : Post} : run C c121_2 k s Q = run C (.seq c121_1 .ret) k s Q := rfl
def c121_3 : ACode := .seq c121_0 c121_2
theorem r121_3 {C : Cs} {k : List Fr} {s : St} {Q : Post} : run C c121_3 k s Q = run C (.seq c121_0 c121_2) k s Q := rfl
def a121 : AFun := ⟨1, 8, c121_3, [.t 2]⟩
attribute [simp] r121_0 r121_1 r121_2 r121_3
theorem m121 : mFun Try.prog Try.f121 a121 = true := by decide +kernel
/- copse/span.Cut -/
def c120_0 : ACode := .ops [⟨some 2, .box (.t 0) 2, none, []⟩,
  ⟨some 4, .alloc [.int .i64 0, .int .i64 0], none, []⟩,
  ⟨some 5, .alloc [.int .i64 0, .int .i64 0], none, []⟩] [1, 2, 4, 5]
theorem r120_0 {C : Cs} {k : List Fr} {s : St} {Q : Post} : run C c120_0 k s Q = run C (.ops [⟨some 2, .box (.t 0) 2, none, []⟩,
  ⟨some 4, .alloc [.int .i64 0, .int .i64 0], none, []⟩,
  ⟨some 5, .alloc [.int .i64 0, .int .i64 0], none, []⟩] [1, 2, 4, 5]) k s Q := rfl
def c120_1 : ACode := .ops [⟨some 7, .fad (.t 2) 0, none, [2]⟩,
  ⟨some 8, .load 1 false (.t 7), none, [2]⟩,
  ⟨some 9, .fad (.t 2) 1, none, [2]⟩,
  ⟨some 10, .load 1 false (.t 9), none, [2]⟩,
  ⟨some 11, .mv (.t 1), none, []⟩,
  ⟨some 12, .mnmx false (.t 10) (.t 11), none, []⟩,
  ⟨some 13, .call 158 [.t 8, .t 12], none, []⟩,
  ⟨some 6, .alloc [.int .i64 0, .int .i64 0], none, []⟩,
  ⟨none, .store (.t 6) 2 (.t 13), none, [6]⟩] [1, 2, 4, 5, 6]
theorem r120_1 {C : Cs} {k : List Fr} {s : St} {Q : Post} : run C c120_1 k s Q = run C (.ops [⟨some 7, .fad (.t 2) 0, none, [2]⟩,
  ⟨some 8, .load 1 false (.t 7), none, [2]⟩,
  ⟨some 9, .fad (.t 2) 1, none, [2]⟩,
  ⟨some 10, .load 1 false (.t 9), none, [2]⟩,
  ⟨some 11, .mv (.t 1), none, []⟩,
  ⟨some 12, .mnmx false (.t 10) (.t 11), none, []⟩,
  ⟨some 13, .call 158 [.t 8, .t 12], none, []⟩,
  ⟨some 6, .alloc [.int .i64 0, .int .i64 0], none, []⟩,
  ⟨none, .store (.t 6) 2 (.t 13), none, [6]⟩] [1, 2, 4, 5, 6]) k s Q := rfl
def c120_2 : ACode := .ops [⟨some 14, .mv (.t 1), none, []⟩,
  ⟨some 15, .fad (.t 2) 1, none, [2]⟩,
  ⟨some 16, .load 1 false (.t 15), none, [2]⟩,
  ⟨some 17, .bin .geq (.t 14) (.t 16), none, []⟩] [1, 2, 4, 5, 6, 17]
theorem r120_2 {C : Cs} {k : List Fr} {s : St} {Q : Post} : run C c120_2 k s Q = run C (.ops [⟨some 14, .mv (.t 1), none, []⟩,
  ⟨some 15, .fad (.t 2) 1, none, [2]⟩,
  ⟨some 16, .load 1 false (.t 15), none, [2]⟩,
  ⟨some 17, .bin .geq (.t 14) (.t 16), none, []⟩] [1, 2, 4, 5, 6, 17]) k s Q := rfl
def c120_3 : ACode := .ops [⟨some 18, .load 2 true (.t 6), none, [6]⟩,
  ⟨some 19, .call 159 [], none, []⟩,
  ⟨none, .store (.t 4) 2 (.t 18), none, [4]⟩,
  ⟨none, .store (.t 5) 2 (.t 19), none, [5]⟩] [4, 5]
theorem r120_3 {C : Cs} {k : List Fr} {s : St} {Q : Post} : run C c120_3 k s Q = run C (.ops [⟨some 18, .load 2 true (.t 6), none, [6]⟩,
  ⟨some 19, .call 159 [], none, []⟩,
  ⟨none, .store (.t 4) 2 (.t 18), none, [4]⟩,
  ⟨none, .store (.t 5) 2 (.t 19), none, [5]⟩] [4, 5]) k s Q := rfl
def c120_4 : ACode := .seq c120_3 .ret
theorem r120_4 {C : Cs} {k : List Fr} {s : St} {Q : Post} : run C c120_4 k s Q = run C (.seq c120_3 .ret) k s Q := rfl
def c120_5 : ACode := .cond (.t 17) c120_4 .skip
theorem r120_5 {C : Cs} {k : List Fr} {s : St} {Q : Post} : run C c120_5 k s Q = run C (.cond (.t 17) c120_4 .skip) k s Q := rfl
def c120_6 : ACode := .seq c120_2 c120_5
theorem r120_6 {C : Cs} {k : List Fr} {s : St} {Q : Post} : run C c120_6 k s Q = run C (.seq c120_2 c120_5) k s Q := rfl
def c120_7 : ACode := .ops [⟨some 20, .load 2 true (.t 6), none, [6]⟩,
  ⟨some 21, .fad (.t 2) 0, none, [2]⟩,
  ⟨some 22, .load 1 false (.t 21), none, [2]⟩,
  ⟨some 23, .mv (.t 1), none, []⟩,
  ⟨some 24, .bin .add (.t 23) (.c (.int .i64 1)), none, []⟩,
  ⟨some 25, .mnmx true (.t 22) (.t 24), none, []⟩,
  ⟨some 26, .fad (.t 2) 1, none, [2]⟩,
  ⟨some 27, .load 1 false (.t 26), none, [2]⟩,
  ⟨some 28, .call 158 [.t 25, .t 27], none, []⟩,
  ⟨none, .store (.t 4) 2 (.t 20), none, [4]⟩,
  ⟨none, .store (.t 5) 2 (.t 28), none, [5]⟩] [4, 5]
theorem r120_7 {C : Cs} {k : List Fr} {s : St} {Q : Post} : run C c120_7 k s Q = run C (.ops [⟨some 20, .load 2 true (.t 6), none, [6]⟩,
  ⟨some 21, .fad (.t 2) 0, none, [2]⟩,
  ⟨some 22, .load 1 false (.t 21), none, [2]⟩,
  ⟨some 23, .mv (.t 1), none, []⟩,
  ⟨some 24, .bin .add (.t 23) (.c (.int .i64 1)), none, []⟩,
  ⟨some 25, .mnmx true (.t 22) (.t 24), none, []⟩,
  ⟨some 26, .fad (.t 2) 1, none, [2]⟩,
  ⟨some 27, .load 1 false (.t 26), none, [2]⟩,
  ⟨some 28, .call 158 [.t 25, .t 27], none, []⟩,
  ⟨none, .store (.t 4) 2 (.t 20), none, [4]⟩,
  ⟨none, .store (.t 5) 2 (.t 28), none, [5]⟩] [4, 5]) k s Q := rfl
def c120_8 : ACode := .seq c120_7 .ret
theorem r120_8 {C : Cs} {k : List Fr} {s : St} {Q : Post} : run C c120_8 k s Q = run C (.seq c120_7 .ret) k s Q := rfl
def c120_9 : ACode := .seq c120_6 c120_8
theorem r120_9 {C : Cs} {k : List Fr} {s : St} {Q : Post} : run C c120_9 k s Q = run C (.seq c120_6 c120_8) k s Q := rfl
def c120_10 : ACode := .seq c120_1 c120_9
theorem r120_10 {C : Cs} {k : List Fr} {s : St} {Q : Post} : run C c120_10 k s Q = run C (.seq c120_1 c120_9) k s Q := rfl
def c120_11 : ACode := .seq c120_0 c120_10
theorem r120_11 {C : Cs} {k : List Fr} {s : St} {Q : Post} : run C c120_11 k s Q = run C (.seq c120_0 c120_10) k s Q := rfl
def a120 : AFun := ⟨2, 29, c120_11, [.cell 4 2 true, .cell 5 2 true]⟩
attribute [simp] r120_0 r120_1 r120_2 r120_3 r120_4 r120_5 r120_6 r120_7 r120_8 r120_9 r120_10 r120_11
theorem m120 : mFun Try.prog Try.f120 a120 = true := by decide +kernel
/- copse/box.Empty -/
def c68_0 : ACode := .ops [⟨some 1, .box (.t 0) 10, none, []⟩,
  ⟨some 2, .mv (.c (.bool false)), none, []⟩] [1]
theorem r68_0 {C : Cs} {k : List Fr} {s : St} {Q : Post} : run C c68_0 k s Q = run C (.ops [⟨some 1, .box (.t 0) 10, none, []⟩,
  ⟨some 2, .mv (.c (.bool false)), none, []⟩] [1]) k s Q := rfl
def c68_1 : ACode := .ops [⟨some 5, .load 10 true (.t 1), none, [1]⟩,
  ⟨some 6, .mv (.c (.int .i64 0)), none, []⟩] [5, 6]
theorem r68_1 {C : Cs} {k : List Fr} {s : St} {Q : Post} : run C c68_1 k s Q = run C (.ops [⟨some 5, .load 10 true (.t 1), none, [1]⟩,
  ⟨some 6, .mv (.c (.int .i64 0)), none, []⟩] [5, 6]) k s Q := rfl
def c68_2 : ACode := .ops [⟨some 7, .bin .lss (.t 6) (.c (.int .i64 5)), none, []⟩] [5, 6, 7]
theorem r68_2 {C : Cs} {k : List Fr} {s : St} {Q : Post} : run C c68_2 k s Q = run C (.ops [⟨some 7, .bin .lss (.t 6) (.c (.int .i64 5)), none, []⟩] [5, 6, 7]) k s Q := rfl
def c68_3 : ACode := .cond (.t 7) .skip (.exit 0)
theorem r68_3 {C : Cs} {k : List Fr} {s : St} {Q : Post} : run C c68_3 k s Q = run C (.cond (.t 7) .skip (.exit 0)) k s Q := rfl
def c68_4 : ACode := .ops [⟨some 8, .idx (.t 5) (.t 6) 2 5 true, none, []⟩,
  ⟨some 4, .alloc [.int .i64 0, .int .i64 0], none, []⟩,
  ⟨none, .store (.t 4) 2 (.t 8), none, [4]⟩] [4, 5, 6]
theorem r68_4 {C : Cs} {k : List Fr} {s : St} {Q : Post} : run C c68_4 k s Q = run C (.ops [⟨some 8, .idx (.t 5) (.t 6) 2 5 true, none, []⟩,
  ⟨some 4, .alloc [.int .i64 0, .int .i64 0], none, []⟩,
  ⟨none, .store (.t 4) 2 (.t 8), none, [4]⟩] [4, 5, 6]) k s Q := rfl
def c68_5 : ACode := .ops [⟨some 9, .load 2 true (.t 4), none, [4]⟩,
  ⟨some 10, .call 121 [.t 9], none, []⟩] [5, 6, 10]
theorem r68_5 {C : Cs} {k : List Fr} {s : St} {Q : Post} : run C c68_5 k s Q = run C (.ops [⟨some 9, .load 2 true (.t 4), none, [4]⟩,
  ⟨some 10, .call 121 [.t 9], none, []⟩] [5, 6, 10]) k s Q := rfl
def c68_6 : ACode := .ops [⟨some 2, .mv (.c (.bool true)), none, []⟩] [2]
theorem r68_6 {C : Cs} {k : List Fr} {s : St} {Q : Post} : run C c68_6 k s Q = run C (.ops [⟨some 2, .mv (.c (.bool true)), none, []⟩] [2]) k s Q := rfl
def c68_7 : ACode := .seq c68_6 .ret
theorem r68_7 {C : Cs} {k : List Fr} {s : St} {Q : Post} : run C c68_7 k s Q = run C (.seq c68_6 .ret) k s Q := rfl
def c68_8 : ACode := .cond (.t 10) c68_7 .skip
theorem r68_8 {C : Cs} {k : List Fr} {s : St} {Q : Post} : run C c68_8 k s Q = run C (.cond (.t 10) c68_7 .skip) k s Q := rfl
def c68_9 : ACode := .seq c68_5 c68_8
theorem r68_9 {C : Cs} {k : List Fr} {s : St} {Q : Post} : run C c68_9 k s Q = run C (.seq c68_5 c68_8) k s Q := rfl
def c68_10 : ACode := .seq c68_4 c68_9
theorem r68_10 {C : Cs} {k : List Fr} {s : St} {Q : Post} : run C c68_10 k s Q = run C (.seq c68_4 c68_9) k s Q := rfl
def c68_11 : ACode := .block 1 c68_10
theorem r68_11 {C : Cs} {k : List Fr} {s : St} {Q : Post} : run C c68_11 k s Q = run C (.block 1 c68_10) k s Q := rfl
def c68_12 : ACode := .ops [⟨some 11, .bin .add (.t 6) (.c (.int .i64 1)), none, []⟩,
  ⟨some 6, .mv (.t 11), none, []⟩] [5, 6]
theorem r68_12 {C : Cs} {k : List Fr} {s : St} {Q : Post} : run C c68_12 k s Q = run C (.ops [⟨some 11, .bin .add (.t 6) (.c (.int .i64 1)), none, []⟩,
  ⟨some 6, .mv (.t 11), none, []⟩] [5, 6]) k s Q := rfl
def c68_13 : ACode := .seq c68_11 c68_12
theorem r68_13 {C : Cs} {k : List Fr} {s : St} {Q : Post} : run C c68_13 k s Q = run C (.seq c68_11 c68_12) k s Q := rfl
def c68_14 : ACode := .seq c68_3 c68_13
theorem r68_14 {C : Cs} {k : List Fr} {s : St} {Q : Post} : run C c68_14 k s Q = run C (.seq c68_3 c68_13) k s Q := rfl
def c68_15 : ACode := .seq c68_2 c68_14
theorem r68_15 {C : Cs} {k : List Fr} {s : St} {Q : Post} : run C c68_15 k s Q = run C (.seq c68_2 c68_14) k s Q := rfl
def c68_16 : ACode := .keep [5, 6] [] c68_15
theorem r68_16 {C : Cs} {k : List Fr} {s : St} {Q : Post} : run C c68_16 k s Q = run C (.keep [5, 6] [] c68_15) k s Q := rfl
def c68_17 : ACode := .loop c68_16
theorem r68_17 {C : Cs} {k : List Fr} {s : St} {Q : Post} : run C c68_17 k s Q = run C (.loop c68_16) k s Q := rfl
def c68_18 : ACode := .block 0 c68_17
theorem r68_18 {C : Cs} {k : List Fr} {s : St} {Q : Post} : run C c68_18 k s Q = run C (.block 0 c68_17) k s Q := rfl
def c68_19 : ACode := .seq c68_1 c68_18
theorem r68_19 {C : Cs} {k : List Fr} {s : St} {Q : Post} : run C c68_19 k s Q = run C (.seq c68_1 c68_18) k s Q := rfl
def c68_20 : ACode := .ops [⟨some 2, .mv (.c (.bool false)), none, []⟩] [2]
theorem r68_20 {C : Cs} {k : List Fr} {s : St} {Q : Post} : run C c68_20 k s Q = run C (.ops [⟨some 2, .mv (.c (.bool false)), none, []⟩] [2]) k s Q := rfl
def c68_21 : ACode := .seq c68_20 .ret
theorem r68_21 {C : Cs} {k : List Fr} {s : St} {Q : Post} : run C c68_21 k s Q = run C (.seq c68_20 .ret) k s Q := rfl
def c68_22 : ACode := .seq c68_19 c68_21
theorem r68_22 {C : Cs} {k : List Fr} {s : St} {Q : Post} : run C c68_22 k s Q = run C (.seq c68_19 c68_21) k s Q := rfl
def c68_23 : ACode := .seq c68_0 c68_22
theorem r68_23 {C : Cs} {k : List Fr} {s : St} {Q : Post} : run C c68_23 k s Q = run C (.seq c68_0 c68_22) k s Q := rfl
def a68 : AFun := ⟨1, 12, c68_23, [.t 2]⟩
attribute [simp] r68_0 r68_1 r68_2 r68_3 r68_4 r68_5 r68_6 r68_7 r68_8 r68_9 r68_10 r68_11 r68_12 r68_13 r68_14 r68_15 r68_16 r68_17 r68_18 r68_19 r68_20 r68_21 r68_22 r68_23
theorem m68 : mFun Try.prog Try.f68 a68 = true := by decide +kernel
/- copse/box.Cut -/
def c67_0 : ACode := .ops [⟨some 3, .box (.t 0) 10, none, []⟩,
  ⟨some 6, .alloc [.int .i64 0, .int .i64 0, .int .i64 0, .int .i64 0, .int .i64 0, .int .i64 0, .int .i64 0, .int .i64 0, .int .i64 0, .int .i64 0], none, []⟩,
  ⟨some 7, .alloc [.int .i64 0, .int .i64 0, .int .i64 0, .int .i64 0, .int .i64 0, .int .i64 0, .int .i64 0, .int .i64 0, .int .i64 0, .int .i64 0], none, []⟩] [1, 2, 3, 6, 7]
theorem r67_0 {C : Cs} {k : List Fr} {s : St} {Q : Post} : run C c67_0 k s Q = run C (.ops [⟨some 3, .box (.t 0) 10, none, []⟩,
  ⟨some 6, .alloc [.int .i64 0, .int .i64 0, .int .i64 0, .int .i64 0, .int .i64 0, .int .i64 0, .int .i64 0, .int .i64 0, .int .i64 0, .int .i64 0], none, []⟩,
  ⟨some 7, .alloc [.int .i64 0, .int .i64 0, .int .i64 0, .int .i64 0, .int .i64 0, .int .i64 0, .int .i64 0, .int .i64 0, .int .i64 0, .int .i64 0], none, []⟩] [1, 2, 3, 6, 7]) k s Q := rfl
def c67_1 : ACode := .ops [⟨some 10, .load 10 true (.t 3), none, [3]⟩,
  ⟨some 11, .load 10 true (.t 3), none, [3]⟩,
  ⟨some 8, .alloc [.int .i64 0, .int .i64 0, .int .i64 0, .int .i64 0, .int .i64 0, .int .i64 0, .int .i64 0, .int .i64 0, .int .i64 0, .int .i64 0], none, []⟩,
  ⟨some 9, .alloc [.int .i64 0, .int .i64 0, .int .i64 0, .int .i64 0, .int .i64 0, .int .i64 0, .int .i64 0, .int .i64 0, .int .i64 0, .int .i64 0], none, []⟩,
  ⟨none, .store (.t 8) 10 (.t 10), none, [8]⟩,
  ⟨none, .store (.t 9) 10 (.t 11), none, [9]⟩] [1, 2, 3, 6, 7, 8, 9]
theorem r67_1 {C : Cs} {k : List Fr} {s : St} {Q : Post} : run C c67_1 k s Q = run C (.ops [⟨some 10, .load 10 true (.t 3), none, [3]⟩,
  ⟨some 11, .load 10 true (.t 3), none, [3]⟩,
  ⟨some 8, .alloc [.int .i64 0, .int .i64 0, .int .i64 0, .int .i64 0, .int .i64 0, .int .i64 0, .int .i64 0, .int .i64 0, .int .i64 0, .int .i64 0], none, []⟩,
  ⟨some 9, .alloc [.int .i64 0, .int .i64 0, .int .i64 0, .int .i64 0, .int .i64 0, .int .i64 0, .int .i64 0, .int .i64 0, .int .i64 0, .int .i64 0], none, []⟩,
  ⟨none, .store (.t 8) 10 (.t 10), none, [8]⟩,
  ⟨none, .store (.t 9) 10 (.t 11), none, [9]⟩] [1, 2, 3, 6, 7, 8, 9]) k s Q := rfl
def c67_2 : ACode := .ops [⟨some 12, .mv (.t 1), none, []⟩,
  ⟨some 13, .bin .geq (.t 12) (.c (.int .i64 0)), none, []⟩,
  ⟨some 14, .mv (.t 13), none, []⟩,
  ⟨some 15, .mv (.t 1), some (14, true), []⟩,
  ⟨some 16, .bin .lss (.t 15) (.c (.int .i64 5)), some (14, true), []⟩,
  ⟨some 17, .pick (.t 14) (.t 16) (.c (.bool false)), none, []⟩] [1, 2, 3, 6, 7, 8, 9, 17]
theorem r67_2 {C : Cs} {k : List Fr} {s : St} {Q : Post} : run C c67_2 k s Q = run C (.ops [⟨some 12, .mv (.t 1), none, []⟩,
  ⟨some 13, .bin .geq (.t 12) (.c (.int .i64 0)), none, []⟩,
  ⟨some 14, .mv (.t 13), none, []⟩,
  ⟨some 15, .mv (.t 1), some (14, true), []⟩,
  ⟨some 16, .bin .lss (.t 15) (.c (.int .i64 5)), some (14, true), []⟩,
  ⟨some 17, .pick (.t 14) (.t 16) (.c (.bool false)), none, []⟩] [1, 2, 3, 6, 7, 8, 9, 17]) k s Q := rfl
def c67_3 : ACode := .ops [⟨some 19, .mv (.t 1), none, []⟩,
  ⟨some 20, .mv (.t 1), none, []⟩,
  ⟨some 21, .mv (.t 1), none, []⟩,
  ⟨some 22, .iad (.t 3) (.t 21) 2 5, none, [3]⟩,
  ⟨some 23, .load 2 true (.t 22), none, [3]⟩,
  ⟨some 24, .mv (.t 2), none, []⟩,
  ⟨some 25, .call 120 [.t 23, .t 24], none, []⟩,
  ⟨some 18, .mv (.t 25), none, []⟩,
  ⟨some 26, .ext (.t 18) 0, none, []⟩,
  ⟨some 27, .ext (.t 18) 1, none, []⟩,
  ⟨some 28, .iad (.t 8) (.t 19) 2 5, none, [8]⟩,
  ⟨none, .store (.t 28) 2 (.t 26), none, [8]⟩,
  ⟨some 29, .iad (.t 9) (.t 20) 2 5, none, [9]⟩,
  ⟨none, .store (.t 29) 2 (.t 27), none, [9]⟩] [6, 7, 8, 9]
theorem r67_3 {C : Cs} {k : List Fr} {s : St} {Q : Post} : run C c67_3 k s Q = run C (.ops [⟨some 19, .mv (.t 1), none, []⟩,
  ⟨some 20, .mv (.t 1), none, []⟩,
  ⟨some 21, .mv (.t 1), none, []⟩,
  ⟨some 22, .iad (.t 3) (.t 21) 2 5, none, [3]⟩,
  ⟨some 23, .load 2 true (.t 22), none, [3]⟩,
  ⟨some 24, .mv (.t 2), none, []⟩,
  ⟨some 25, .call 120 [.t 23, .t 24], none, []⟩,
  ⟨some 18, .mv (.t 25), none, []⟩,
  ⟨some 26, .ext (.t 18) 0, none, []⟩,
  ⟨some 27, .ext (.t 18) 1, none, []⟩,
  ⟨some 28, .iad (.t 8) (.t 19) 2 5, none, [8]⟩,
  ⟨none, .store (.t 28) 2 (.t 26), none, [8]⟩,
  ⟨some 29, .iad (.t 9) (.t 20) 2 5, none, [9]⟩,
  ⟨none, .store (.t 29) 2 (.t 27), none, [9]⟩] [6, 7, 8, 9]) k s Q := rfl
def c67_4 : ACode := .cond (.t 17) c67_3 .skip
theorem r67_4 {C : Cs} {k : List Fr} {s : St} {Q : Post} : run C c67_4 k s Q = run C (.cond (.t 17) c67_3 .skip) k s Q := rfl
def c67_5 : ACode := .seq c67_2 c67_4
theorem r67_5 {C : Cs} {k : List Fr} {s : St} {Q : Post} : run C c67_5 k s Q = run C (.seq c67_2 c67_4) k s Q := rfl
def c67_6 : ACode := .ops [⟨some 30, .load 10 true (.t 8), none, [8]⟩,
  ⟨some 31, .load 10 true (.t 9), none, [9]⟩,
  ⟨none, .store (.t 6) 10 (.t 30), none, [6]⟩,
  ⟨none, .store (.t 7) 10 (.t 31), none, [7]⟩] [6, 7]
theorem r67_6 {C : Cs} {k : List Fr} {s : St} {Q : Post} : run C c67_6 k s Q = run C (.ops [⟨some 30, .load 10 true (.t 8), none, [8]⟩,
  ⟨some 31, .load 10 true (.t 9), none, [9]⟩,
  ⟨none, .store (.t 6) 10 (.t 30), none, [6]⟩,
  ⟨none, .store (.t 7) 10 (.t 31), none, [7]⟩] [6, 7]) k s Q := rfl
def c67_7 : ACode := .seq c67_6 .ret
theorem r67_7 {C : Cs} {k : List Fr} {s : St} {Q : Post} : run C c67_7 k s Q = run C (.seq c67_6 .ret) k s Q := rfl
def c67_8 : ACode := .seq c67_5 c67_7
theorem r67_8 {C : Cs} {k : List Fr} {s : St} {Q : Post} : run C c67_8 k s Q = run C (.seq c67_5 c67_7) k s Q := rfl
def c67_9 : ACode := .seq c67_1 c67_8
theorem r67_9 {C : Cs} {k : List Fr} {s : St} {Q : Post} : run C c67_9 k s Q = run C (.seq c67_1 c67_8) k s Q := rfl
def c67_10 : ACode := .seq c67_0 c67_9
theorem r67_10 {C : Cs} {k : List Fr} {s : St} {Q : Post} : run C c67_10 k s Q = run C (.seq c67_0 c67_9) k s Q := rfl
def a67 : AFun := ⟨3, 32, c67_10, [.cell 6 10 true, .cell 7 10 true]⟩
attribute [simp] r67_0 r67_1 r67_2 r67_3 r67_4 r67_5 r67_6 r67_7 r67_8 r67_9 r67_10
theorem m67 : mFun Try.prog Try.f67 a67 = true := by decide +kernel


theorem runs_none (c : Span) (h : some noneS = some c) : Runs (tbl []) a159 [] (Arg.enc c) := by
  cases h
  refine ⟨rfl, fun g => run_def ?_⟩
  unfold a159
  simp -implicitDefEqProofs [noneS]
theorem c_none : Contract Try.prog 159 (sp0 (some noneS)) := contract_of_runs mixed tbl_nil Try.func159 m159 (sp0_runs runs_none)

theorem runs_of (lo hi : Int) (c : Span) (h : some (ofS lo hi) = some c) : Runs (tbl [(159, sp0 (some noneS))]) a158 [Arg.enc lo, Arg.enc hi] (Arg.enc c) := by
  cases h
  refine ⟨rfl, fun g => run_def ?_⟩
  unfold a158
  by_cases h1 : hi < lo <;> simp -implicitDefEqProofs [ofS, noneS, h1]
theorem c_of : Contract Try.prog 158 (sp2 fun lo hi => some (ofS lo hi)) :=
  contract_of_runs mixed (tbl_cons c_none tbl_nil) Try.func158 m158 (sp2_runs runs_of)

theorem runs_sEmpty (s : Span) (c : Bool) (h : some s.empty = some c) : Runs (tbl []) a121 [Arg.enc s] (Arg.enc c) := by
  cases h
  refine ⟨rfl, fun g => run_def ?_⟩
  unfold a121
  simp -implicitDefEqProofs [Span.empty]
theorem c_sEmpty : Contract Try.prog 121 (sp1 fun (s : Span) => some s.empty) := contract_of_runs mixed tbl_nil Try.func121 m121 (sp1_runs runs_sEmpty)

def CutS (s : Span) (n : Int) : Option (Span × Span) := if ok64 n ∧ ok64 s.hi then some (cutS s n) else none
theorem runs_sCut (s : Span) (n : Int) (c : Span × Span) (h : CutS s n = some c) : Runs (tbl [(158, sp2 fun lo hi => some (ofS lo hi)), (159, sp0 (some noneS))]) a120 [Arg.enc s, Arg.enc n] (Arg.enc c) := by
  unfold CutS at h
  split at h
  · rename_i hb
    cases h
    obtain ⟨⟨b1, b2⟩, b3, b4⟩ := hb
    refine ⟨rfl, fun g => run_def ?_⟩
    unfold a120
    by_cases h1 : s.hi ≤ n
    · by_cases h2 : n < s.hi
      · omega
      · simp -implicitDefEqProofs [cutS, noneS, h1, h2]
    · have e : IntKind.i64.wrap (n + 1) = n + 1 := wrap64 (by omega) (by omega)
      have h2 : n < s.hi := by omega
      simp -implicitDefEqProofs [cutS, h1, h2, e]
  · cases h
theorem c_sCut : Contract Try.prog 120 (sp2 CutS) :=
  contract_of_runs mixed (tbl_cons c_of (tbl_cons c_none tbl_nil)) Try.func120 m120 (sp2_runs runs_sCut)

theorem runs_bEmpty (b : Box) (c : Bool) (h : some b.empty = some c) : Runs (tbl [(121, sp1 fun (s : Span) => some s.empty)]) a68 [Arg.enc b] (Arg.enc c) := by
  cases h
  refine ⟨rfl, fun g => run_def ?_⟩
  unfold a68
  cases h0 : b.s0.empty
  case true => simp -implicitDefEqProofs [Box.empty, run_round, h0]
  cases h1 : b.s1.empty
  case true => simp -implicitDefEqProofs [Box.empty, run_round, h0, h1]
  cases h2 : b.s2.empty
  case true => simp -implicitDefEqProofs [Box.empty, run_round, h0, h1, h2]
  cases h3 : b.s3.empty
  case true => simp -implicitDefEqProofs [Box.empty, run_round, h0, h1, h2, h3]
  cases h4 : b.s4.empty <;> simp -implicitDefEqProofs [Box.empty, run_round, h0, h1, h2, h3, h4]
theorem c_bEmpty : Contract Try.prog 68 (sp1 fun (b : Box) => some b.empty) :=
  contract_of_runs mixed (tbl_cons c_sEmpty tbl_nil) Try.func68 m68 (sp1_runs runs_bEmpty)

def CutB (b : Box) (p n : Int) : Option (Box × Box) := if ok64 n ∧ ok64 (b.get p).hi then some (cutB b p n) else none
theorem runs_bCut (b : Box) (p n : Int) (c : Box × Box) (h : CutB b p n = some c) : Runs (tbl [(120, sp2 CutS)]) a67 [Arg.enc b, Arg.enc p, Arg.enc n] (Arg.enc c) := by
  unfold CutB at h
  split at h
  · rename_i hb
    cases h
    obtain ⟨b1, b2⟩ := hb
    refine ⟨rfl, fun g => run_def ?_⟩
    unfold a67
    by_cases h1 : 0 ≤ p
    case neg => simp -implicitDefEqProofs [cutB, h1]
    by_cases h2 : p < 5
    case neg => simp -implicitDefEqProofs [cutB, h1, h2]
    have hp : p = 0 ∨ p = 1 ∨ p = 2 ∨ p = 3 ∨ p = 4 := by omega
    rcases hp with rfl | rfl | rfl | rfl | rfl <;> simp [Box.get] at b2 <;> simp -implicitDefEqProofs [cutB, Box.get, Box.set, CutS, b1, b2]
  · cases h
theorem c_bCut : Contract Try.prog 67 (sp3 CutB) :=
  contract_of_runs mixed (tbl_cons c_sCut tbl_nil) Try.func67 m67 (sp3_runs runs_bCut)

/- copse/copseref1.Empty -/
def c49_0 : ACode := .ops [⟨some 1, .box (.t 0) 10, none, []⟩,
  ⟨some 2, .mv (.c (.bool false)), none, []⟩] [1]
theorem r49_0 {C : Cs} {k : List Fr} {s : St} {Q : Post} : run C c49_0 k s Q = run C (.ops [⟨some 1, .box (.t 0) 10, none, []⟩,
  ⟨some 2, .mv (.c (.bool false)), none, []⟩] [1]) k s Q := rfl
def c49_1 : ACode := .ops [⟨some 5, .load 10 true (.t 1), none, [1]⟩,
  ⟨some 6, .mv (.c (.int .i64 0)), none, []⟩] [5, 6]
theorem r49_1 {C : Cs} {k : List Fr} {s : St} {Q : Post} : run C c49_1 k s Q = run C (.ops [⟨some 5, .load 10 true (.t 1), none, [1]⟩,
  ⟨some 6, .mv (.c (.int .i64 0)), none, []⟩] [5, 6]) k s Q := rfl
def c49_2 : ACode := .ops [⟨some 7, .bin .lss (.t 6) (.c (.int .i64 5)), none, []⟩] [5, 6, 7]
theorem r49_2 {C : Cs} {k : List Fr} {s : St} {Q : Post} : run C c49_2 k s Q = run C (.ops [⟨some 7, .bin .lss (.t 6) (.c (.int .i64 5)), none, []⟩] [5, 6, 7]) k s Q := rfl
def c49_3 : ACode := .cond (.t 7) .skip (.exit 0)
theorem r49_3 {C : Cs} {k : List Fr} {s : St} {Q : Post} : run C c49_3 k s Q = run C (.cond (.t 7) .skip (.exit 0)) k s Q := rfl
def c49_4 : ACode := .ops [⟨some 8, .idx (.t 5) (.t 6) 2 5 true, none, []⟩,
  ⟨some 4, .alloc [.int .i64 0, .int .i64 0], none, []⟩,
  ⟨none, .store (.t 4) 2 (.t 8), none, [4]⟩] [4, 5, 6]
theorem r49_4 {C : Cs} {k : List Fr} {s : St} {Q : Post} : run C c49_4 k s Q = run C (.ops [⟨some 8, .idx (.t 5) (.t 6) 2 5 true, none, []⟩,
  ⟨some 4, .alloc [.int .i64 0, .int .i64 0], none, []⟩,
  ⟨none, .store (.t 4) 2 (.t 8), none, [4]⟩] [4, 5, 6]) k s Q := rfl
def c49_5 : ACode := .ops [⟨some 9, .fad (.t 4) 0, none, [4]⟩,
  ⟨some 10, .load 1 false (.t 9), none, [4]⟩,
  ⟨some 11, .fad (.t 4) 1, none, [4]⟩,
  ⟨some 12, .load 1 false (.t 11), none, [4]⟩,
  ⟨some 13, .bin .gtr (.t 10) (.t 12), none, []⟩] [5, 6, 13]
theorem r49_5 {C : Cs} {k : List Fr} {s : St} {Q : Post} : run C c49_5 k s Q = run C (.ops [⟨some 9, .fad (.t 4) 0, none, [4]⟩,
  ⟨some 10, .load 1 false (.t 9), none, [4]⟩,
  ⟨some 11, .fad (.t 4) 1, none, [4]⟩,
  ⟨some 12, .load 1 false (.t 11), none, [4]⟩,
  ⟨some 13, .bin .gtr (.t 10) (.t 12), none, []⟩] [5, 6, 13]) k s Q := rfl
def c49_6 : ACode := .ops [⟨some 2, .mv (.c (.bool true)), none, []⟩] [2]
theorem r49_6 {C : Cs} {k : List Fr} {s : St} {Q : Post} : run C c49_6 k s Q = run C (.ops [⟨some 2, .mv (.c (.bool true)), none, []⟩] [2]) k s Q := rfl
def c49_7 : ACode := .seq c49_6 .ret
theorem r49_7 {C : Cs} {k : List Fr} {s : St} {Q : Post} : run C c49_7 k s Q = run C (.seq c49_6 .ret) k s Q := rfl
def c49_8 : ACode := .cond (.t 13) c49_7 .skip
theorem r49_8 {C : Cs} {k : List Fr} {s : St} {Q : Post} : run C c49_8 k s Q = run C (.cond (.t 13) c49_7 .skip) k s Q := rfl
def c49_9 : ACode := .seq c49_5 c49_8
theorem r49_9 {C : Cs} {k : List Fr} {s : St} {Q : Post} : run C c49_9 k s Q = run C (.seq c49_5 c49_8) k s Q := rfl
def c49_10 : ACode := .seq c49_4 c49_9
theorem r49_10 {C : Cs} {k : List Fr} {s : St} {Q : Post} : run C c49_10 k s Q = run C (.seq c49_4 c49_9) k s Q := rfl
def c49_11 : ACode := .block 1 c49_10
theorem r49_11 {C : Cs} {k : List Fr} {s : St} {Q : Post} : run C c49_11 k s Q = run C (.block 1 c49_10) k s Q := rfl
def c49_12 : ACode := .ops [⟨some 14, .bin .add (.t 6) (.c (.int .i64 1)), none, []⟩,
  ⟨some 6, .mv (.t 14), none, []⟩] [5, 6]
theorem r49_12 {C : Cs} {k : List Fr} {s : St} {Q : Post} : run C c49_12 k s Q = run C (.ops [⟨some 14, .bin .add (.t 6) (.c (.int .i64 1)), none, []⟩,
  ⟨some 6, .mv (.t 14), none, []⟩] [5, 6]) k s Q := rfl
def c49_13 : ACode := .seq c49_11 c49_12
theorem r49_13 {C : Cs} {k : List Fr} {s : St} {Q : Post} : run C c49_13 k s Q = run C (.seq c49_11 c49_12) k s Q := rfl
def c49_14 : ACode := .seq c49_3 c49_13
theorem r49_14 {C : Cs} {k : List Fr} {s : St} {Q : Post} : run C c49_14 k s Q = run C (.seq c49_3 c49_13) k s Q := rfl
def c49_15 : ACode := .seq c49_2 c49_14
theorem r49_15 {C : Cs} {k : List Fr} {s : St} {Q : Post} : run C c49_15 k s Q = run C (.seq c49_2 c49_14) k s Q := rfl
def c49_16 : ACode := .keep [5, 6] [] c49_15
theorem r49_16 {C : Cs} {k : List Fr} {s : St} {Q : Post} : run C c49_16 k s Q = run C (.keep [5, 6] [] c49_15) k s Q := rfl
def c49_17 : ACode := .loop c49_16
theorem r49_17 {C : Cs} {k : List Fr} {s : St} {Q : Post} : run C c49_17 k s Q = run C (.loop c49_16) k s Q := rfl
def c49_18 : ACode := .block 0 c49_17
theorem r49_18 {C : Cs} {k : List Fr} {s : St} {Q : Post} : run C c49_18 k s Q = run C (.block 0 c49_17) k s Q := rfl
def c49_19 : ACode := .seq c49_1 c49_18
theorem r49_19 {C : Cs} {k : List Fr} {s : St} {Q : Post} : run C c49_19 k s Q = run C (.seq c49_1 c49_18) k s Q := rfl
def c49_20 : ACode := .ops [⟨some 2, .mv (.c (.bool false)), none, []⟩] [2]
theorem r49_20 {C : Cs} {k : List Fr} {s : St} {Q : Post} : run C c49_20 k s Q = run C (.ops [⟨some 2, .mv (.c (.bool false)), none, []⟩] [2]) k s Q := rfl
def c49_21 : ACode := .seq c49_20 .ret
theorem r49_21 {C : Cs} {k : List Fr} {s : St} {Q : Post} : run C c49_21 k s Q = run C (.seq c49_20 .ret) k s Q := rfl
def c49_22 : ACode := .seq c49_19 c49_21
theorem r49_22 {C : Cs} {k : List Fr} {s : St} {Q : Post} : run C c49_22 k s Q = run C (.seq c49_19 c49_21) k s Q := rfl
def c49_23 : ACode := .seq c49_0 c49_22
theorem r49_23 {C : Cs} {k : List Fr} {s : St} {Q : Post} : run C c49_23 k s Q = run C (.seq c49_0 c49_22) k s Q := rfl
def a49 : AFun := ⟨1, 15, c49_23, [.t 2]⟩
attribute [simp] r49_0 r49_1 r49_2 r49_3 r49_4 r49_5 r49_6 r49_7 r49_8 r49_9 r49_10 r49_11 r49_12 r49_13 r49_14 r49_15 r49_16 r49_17 r49_18 r49_19 r49_20 r49_21 r49_22 r49_23
theorem m49 : mFun Try.prog Try.f49 a49 = true := by decide +kernel
/- copse/copseref1.Meet -/
def c157_0 : ACode := .ops [⟨some 2, .box (.t 0) 2, none, []⟩,
  ⟨some 3, .box (.t 1) 2, none, []⟩,
  ⟨some 4, .alloc [.int .i64 0, .int .i64 0], none, []⟩] [2, 3, 4]
theorem r157_0 {C : Cs} {k : List Fr} {s : St} {Q : Post} : run C c157_0 k s Q = run C (.ops [⟨some 2, .box (.t 0) 2, none, []⟩,
  ⟨some 3, .box (.t 1) 2, none, []⟩,
  ⟨some 4, .alloc [.int .i64 0, .int .i64 0], none, []⟩] [2, 3, 4]) k s Q := rfl
def c157_1 : ACode := .ops [⟨some 6, .fad (.t 2) 0, none, [2]⟩,
  ⟨some 7, .load 1 false (.t 6), none, [2]⟩,
  ⟨some 8, .fad (.t 3) 0, none, [3]⟩,
  ⟨some 9, .load 1 false (.t 8), none, [3]⟩,
  ⟨some 10, .mnmx true (.t 7) (.t 9), none, []⟩,
  ⟨some 11, .fad (.t 2) 1, none, [2]⟩,
  ⟨some 12, .load 1 false (.t 11), none, [2]⟩,
  ⟨some 13, .fad (.t 3) 1, none, [3]⟩,
  ⟨some 14, .load 1 false (.t 13), none, [3]⟩,
  ⟨some 15, .mnmx false (.t 12) (.t 14), none, []⟩,
  ⟨some 16, .build [.int .i64 0, .int .i64 0] [(0, 1, .t 10), (1, 1, .t 15)], none, []⟩,
  ⟨some 5, .alloc [.int .i64 0, .int .i64 0], none, []⟩,
  ⟨none, .store (.t 5) 2 (.t 16), none, [5]⟩] [4, 5]
theorem r157_1 {C : Cs} {k : List Fr} {s : St} {Q : Post} : run C c157_1 k s Q = run C (.ops [⟨some 6, .fad (.t 2) 0, none, [2]⟩,
  ⟨some 7, .load 1 false (.t 6), none, [2]⟩,
  ⟨some 8, .fad (.t 3) 0, none, [3]⟩,
  ⟨some 9, .load 1 false (.t 8), none, [3]⟩,
  ⟨some 10, .mnmx true (.t 7) (.t 9), none, []⟩,
  ⟨some 11, .fad (.t 2) 1, none, [2]⟩,
  ⟨some 12, .load 1 false (.t 11), none, [2]⟩,
  ⟨some 13, .fad (.t 3) 1, none, [3]⟩,
  ⟨some 14, .load 1 false (.t 13), none, [3]⟩,
  ⟨some 15, .mnmx false (.t 12) (.t 14), none, []⟩,
  ⟨some 16, .build [.int .i64 0, .int .i64 0] [(0, 1, .t 10), (1, 1, .t 15)], none, []⟩,
  ⟨some 5, .alloc [.int .i64 0, .int .i64 0], none, []⟩,
  ⟨none, .store (.t 5) 2 (.t 16), none, [5]⟩] [4, 5]) k s Q := rfl
def c157_2 : ACode := .ops [⟨some 17, .fad (.t 5) 0, none, [5]⟩,
  ⟨some 18, .load 1 false (.t 17), none, [5]⟩,
  ⟨some 19, .fad (.t 5) 1, none, [5]⟩,
  ⟨some 20, .load 1 false (.t 19), none, [5]⟩,
  ⟨some 21, .bin .gtr (.t 18) (.t 20), none, []⟩] [4, 5, 21]
theorem r157_2 {C : Cs} {k : List Fr} {s : St} {Q : Post} : run C c157_2 k s Q = run C (.ops [⟨some 17, .fad (.t 5) 0, none, [5]⟩,
  ⟨some 18, .load 1 false (.t 17), none, [5]⟩,
  ⟨some 19, .fad (.t 5) 1, none, [5]⟩,
  ⟨some 20, .load 1 false (.t 19), none, [5]⟩,
  ⟨some 21, .bin .gtr (.t 18) (.t 20), none, []⟩] [4, 5, 21]) k s Q := rfl
def c157_3 : ACode := .ops [⟨some 22, .build [.int .i64 0, .int .i64 0] [(0, 1, .c (.int .i64 1))], none, []⟩,
  ⟨none, .store (.t 4) 2 (.t 22), none, [4]⟩] [4]
theorem r157_3 {C : Cs} {k : List Fr} {s : St} {Q : Post} : run C c157_3 k s Q = run C (.ops [⟨some 22, .build [.int .i64 0, .int .i64 0] [(0, 1, .c (.int .i64 1))], none, []⟩,
  ⟨none, .store (.t 4) 2 (.t 22), none, [4]⟩] [4]) k s Q := rfl
def c157_4 : ACode := .seq c157_3 .ret
theorem r157_4 {C : Cs} {k : List Fr} {s : St} {Q : Post} : run C c157_4 k s Q = run C (.seq c157_3 .ret) k s Q := rfl
def c157_5 : ACode := .cond (.t 21) c157_4 .skip
theorem r157_5 {C : Cs} {k : List Fr} {s : St} {Q : Post} : run C c157_5 k s Q = run C (.cond (.t 21) c157_4 .skip) k s Q := rfl
def c157_6 : ACode := .seq c157_2 c157_5
theorem r157_6 {C : Cs} {k : List Fr} {s : St} {Q : Post} : run C c157_6 k s Q = run C (.seq c157_2 c157_5) k s Q := rfl
def c157_7 : ACode := .ops [⟨some 23, .load 2 true (.t 5), none, [5]⟩,
  ⟨none, .store (.t 4) 2 (.t 23), none, [4]⟩] [4]
theorem r157_7 {C : Cs} {k : List Fr} {s : St} {Q : Post} : run C c157_7 k s Q = run C (.ops [⟨some 23, .load 2 true (.t 5), none, [5]⟩,
  ⟨none, .store (.t 4) 2 (.t 23), none, [4]⟩] [4]) k s Q := rfl
def c157_8 : ACode := .seq c157_7 .ret
theorem r157_8 {C : Cs} {k : List Fr} {s : St} {Q : Post} : run C c157_8 k s Q = run C (.seq c157_7 .ret) k s Q := rfl
def c157_9 : ACode := .seq c157_6 c157_8
theorem r157_9 {C : Cs} {k : List Fr} {s : St} {Q : Post} : run C c157_9 k s Q = run C (.seq c157_6 c157_8) k s Q := rfl
def c157_10 : ACode := .seq c157_1 c157_9
theorem r157_10 {C : Cs} {k : List Fr} {s : St} {Q : Post} : run C c157_10 k s Q = run C (.seq c157_1 c157_9) k s Q := rfl
def c157_11 : ACode := .seq c157_0 c157_10
theorem r157_11 {C : Cs} {k : List Fr} {s : St} {Q : Post} : run C c157_11 k s Q = run C (.seq c157_0 c157_10) k s Q := rfl
def a157 : AFun := ⟨2, 24, c157_11, [.cell 4 2 true]⟩
attribute [simp] r157_0 r157_1 r157_2 r157_3 r157_4 r157_5 r157_6 r157_7 r157_8 r157_9 r157_10 r157_11
theorem m157 : mFun Try.prog Try.f157 a157 = true := by decide +kernel
/- copse/copseref10.cut -/
def c142_0 : ACode := .ops [⟨some 3, .box (.t 0) 10, none, []⟩,
  ⟨some 6, .alloc [.int .i64 0, .int .i64 0, .int .i64 0, .int .i64 0, .int .i64 0, .int .i64 0, .int .i64 0, .int .i64 0, .int .i64 0, .int .i64 0], none, []⟩,
  ⟨some 7, .alloc [.int .i64 0, .int .i64 0, .int .i64 0, .int .i64 0, .int .i64 0, .int .i64 0, .int .i64 0, .int .i64 0, .int .i64 0, .int .i64 0], none, []⟩] [1, 2, 3, 6, 7]
theorem r142_0 {C : Cs} {k : List Fr} {s : St} {Q : Post} : run C c142_0 k s Q = run C (.ops [⟨some 3, .box (.t 0) 10, none, []⟩,
  ⟨some 6, .alloc [.int .i64 0, .int .i64 0, .int .i64 0, .int .i64 0, .int .i64 0, .int .i64 0, .int .i64 0, .int .i64 0, .int .i64 0, .int .i64 0], none, []⟩,
  ⟨some 7, .alloc [.int .i64 0, .int .i64 0, .int .i64 0, .int .i64 0, .int .i64 0, .int .i64 0, .int .i64 0, .int .i64 0, .int .i64 0, .int .i64 0], none, []⟩] [1, 2, 3, 6, 7]) k s Q := rfl
def c142_1 : ACode := .ops [⟨some 11, .load 10 true (.t 3), none, [3]⟩,
  ⟨some 12, .load 10 true (.t 3), none, [3]⟩,
  ⟨some 8, .alloc [.int .i64 0, .int .i64 0, .int .i64 0, .int .i64 0, .int .i64 0, .int .i64 0, .int .i64 0, .int .i64 0, .int .i64 0, .int .i64 0], none, []⟩,
  ⟨some 9, .alloc [.int .i64 0, .int .i64 0, .int .i64 0, .int .i64 0, .int .i64 0, .int .i64 0, .int .i64 0, .int .i64 0, .int .i64 0, .int .i64 0], none, []⟩,
  ⟨none, .store (.t 8) 10 (.t 11), none, [8]⟩,
  ⟨none, .store (.t 9) 10 (.t 12), none, [9]⟩] [1, 2, 3, 6, 7, 8, 9]
theorem r142_1 {C : Cs} {k : List Fr} {s : St} {Q : Post} : run C c142_1 k s Q = run C (.ops [⟨some 11, .load 10 true (.t 3), none, [3]⟩,
  ⟨some 12, .load 10 true (.t 3), none, [3]⟩,
  ⟨some 8, .alloc [.int .i64 0, .int .i64 0, .int .i64 0, .int .i64 0, .int .i64 0, .int .i64 0, .int .i64 0, .int .i64 0, .int .i64 0, .int .i64 0], none, []⟩,
  ⟨some 9, .alloc [.int .i64 0, .int .i64 0, .int .i64 0, .int .i64 0, .int .i64 0, .int .i64 0, .int .i64 0, .int .i64 0, .int .i64 0, .int .i64 0], none, []⟩,
  ⟨none, .store (.t 8) 10 (.t 11), none, [8]⟩,
  ⟨none, .store (.t 9) 10 (.t 12), none, [9]⟩] [1, 2, 3, 6, 7, 8, 9]) k s Q := rfl
def c142_2 : ACode := .ops [⟨some 13, .mv (.t 1), none, []⟩,
  ⟨some 14, .iad (.t 3) (.t 13) 2 5, none, [3]⟩,
  ⟨some 15, .load 2 true (.t 14), none, [3]⟩,
  ⟨some 10, .alloc [.int .i64 0, .int .i64 0], none, []⟩,
  ⟨none, .store (.t 10) 2 (.t 15), none, [10]⟩] [1, 2, 6, 7, 8, 9, 10]
theorem r142_2 {C : Cs} {k : List Fr} {s : St} {Q : Post} : run C c142_2 k s Q = run C (.ops [⟨some 13, .mv (.t 1), none, []⟩,
  ⟨some 14, .iad (.t 3) (.t 13) 2 5, none, [3]⟩,
  ⟨some 15, .load 2 true (.t 14), none, [3]⟩,
  ⟨some 10, .alloc [.int .i64 0, .int .i64 0], none, []⟩,
  ⟨none, .store (.t 10) 2 (.t 15), none, [10]⟩] [1, 2, 6, 7, 8, 9, 10]) k s Q := rfl
def c142_3 : ACode := .ops [⟨some 16, .mv (.t 1), none, []⟩,
  ⟨some 17, .mv (.t 1), none, []⟩,
  ⟨some 18, .load 2 true (.t 10), none, [10]⟩,
  ⟨some 19, .fad (.t 10) 0, none, [10]⟩,
  ⟨some 20, .load 1 false (.t 19), none, [10]⟩,
  ⟨some 21, .mv (.t 2), none, []⟩,
  ⟨some 22, .build [.int .i64 0, .int .i64 0] [(0, 1, .t 20), (1, 1, .t 21)], none, []⟩,
  ⟨some 23, .call 157 [.t 18, .t 22], none, []⟩,
  ⟨some 24, .load 2 true (.t 10), none, [10]⟩,
  ⟨some 25, .mv (.t 2), none, []⟩,
  ⟨some 26, .bin .add (.t 25) (.c (.int .i64 1)), none, []⟩,
  ⟨some 27, .fad (.t 10) 1, none, [10]⟩,
  ⟨some 28, .load 1 false (.t 27), none, [10]⟩,
  ⟨some 29, .build [.int .i64 0, .int .i64 0] [(0, 1, .t 26), (1, 1, .t 28)], none, []⟩,
  ⟨some 30, .call 157 [.t 24, .t 29], none, []⟩,
  ⟨some 31, .iad (.t 8) (.t 16) 2 5, none, [8]⟩,
  ⟨none, .store (.t 31) 2 (.t 23), none, [8]⟩,
  ⟨some 32, .iad (.t 9) (.t 17) 2 5, none, [9]⟩,
  ⟨none, .store (.t 32) 2 (.t 30), none, [9]⟩] [6, 7, 8, 9]
theorem r142_3 {C : Cs} {k : List Fr} {s : St} {Q : Post} : run C c142_3 k s Q = run C (.ops [⟨some 16, .mv (.t 1), none, []⟩,
  ⟨some 17, .mv (.t 1), none, []⟩,
  ⟨some 18, .load 2 true (.t 10), none, [10]⟩,
  ⟨some 19, .fad (.t 10) 0, none, [10]⟩,
  ⟨some 20, .load 1 false (.t 19), none, [10]⟩,
  ⟨some 21, .mv (.t 2), none, []⟩,
  ⟨some 22, .build [.int .i64 0, .int .i64 0] [(0, 1, .t 20), (1, 1, .t 21)], none, []⟩,
  ⟨some 23, .call 157 [.t 18, .t 22], none, []⟩,
  ⟨some 24, .load 2 true (.t 10), none, [10]⟩,
  ⟨some 25, .mv (.t 2), none, []⟩,
  ⟨some 26, .bin .add (.t 25) (.c (.int .i64 1)), none, []⟩,
  ⟨some 27, .fad (.t 10) 1, none, [10]⟩,
  ⟨some 28, .load 1 false (.t 27), none, [10]⟩,
  ⟨some 29, .build [.int .i64 0, .int .i64 0] [(0, 1, .t 26), (1, 1, .t 28)], none, []⟩,
  ⟨some 30, .call 157 [.t 24, .t 29], none, []⟩,
  ⟨some 31, .iad (.t 8) (.t 16) 2 5, none, [8]⟩,
  ⟨none, .store (.t 31) 2 (.t 23), none, [8]⟩,
  ⟨some 32, .iad (.t 9) (.t 17) 2 5, none, [9]⟩,
  ⟨none, .store (.t 32) 2 (.t 30), none, [9]⟩] [6, 7, 8, 9]) k s Q := rfl
def c142_4 : ACode := .ops [⟨some 33, .load 10 true (.t 8), none, [8]⟩,
  ⟨some 34, .load 10 true (.t 9), none, [9]⟩,
  ⟨none, .store (.t 6) 10 (.t 33), none, [6]⟩,
  ⟨none, .store (.t 7) 10 (.t 34), none, [7]⟩] [6, 7]
theorem r142_4 {C : Cs} {k : List Fr} {s : St} {Q : Post} : run C c142_4 k s Q = run C (.ops [⟨some 33, .load 10 true (.t 8), none, [8]⟩,
  ⟨some 34, .load 10 true (.t 9), none, [9]⟩,
  ⟨none, .store (.t 6) 10 (.t 33), none, [6]⟩,
  ⟨none, .store (.t 7) 10 (.t 34), none, [7]⟩] [6, 7]) k s Q := rfl
def c142_5 : ACode := .seq c142_4 .ret
theorem r142_5 {C : Cs} {k : List Fr} {s : St} {Q : Post} : run C c142_5 k s Q = run C (.seq c142_4 .ret) k s Q := rfl
def c142_6 : ACode := .seq c142_3 c142_5
theorem r142_6 {C : Cs} {k : List Fr} {s : St} {Q : Post} : run C c142_6 k s Q = run C (.seq c142_3 c142_5) k s Q := rfl
def c142_7 : ACode := .seq c142_2 c142_6
theorem r142_7 {C : Cs} {k : List Fr} {s : St} {Q : Post} : run C c142_7 k s Q = run C (.seq c142_2 c142_6) k s Q := rfl
def c142_8 : ACode := .seq c142_1 c142_7
theorem r142_8 {C : Cs} {k : List Fr} {s : St} {Q : Post} : run C c142_8 k s Q = run C (.seq c142_1 c142_7) k s Q := rfl
def c142_9 : ACode := .seq c142_0 c142_8
theorem r142_9 {C : Cs} {k : List Fr} {s : St} {Q : Post} : run C c142_9 k s Q = run C (.seq c142_0 c142_8) k s Q := rfl
def a142 : AFun := ⟨3, 35, c142_9, [.cell 6 10 true, .cell 7 10 true]⟩
attribute [simp] r142_0 r142_1 r142_2 r142_3 r142_4 r142_5 r142_6 r142_7 r142_8 r142_9
theorem m142 : mFun Try.prog Try.f142 a142 = true := by decide +kernel
/- copse/copseref1.MeetBox -/
def c167_0 : ACode := .ops [⟨some 2, .box (.t 0) 10, none, []⟩,
  ⟨some 3, .box (.t 1) 10, none, []⟩,
  ⟨some 4, .alloc [.int .i64 0, .int .i64 0, .int .i64 0, .int .i64 0, .int .i64 0, .int .i64 0, .int .i64 0, .int .i64 0, .int .i64 0, .int .i64 0], none, []⟩] [2, 3, 4]
theorem r167_0 {C : Cs} {k : List Fr} {s : St} {Q : Post} : run C c167_0 k s Q = run C (.ops [⟨some 2, .box (.t 0) 10, none, []⟩,
  ⟨some 3, .box (.t 1) 10, none, []⟩,
  ⟨some 4, .alloc [.int .i64 0, .int .i64 0, .int .i64 0, .int .i64 0, .int .i64 0, .int .i64 0, .int .i64 0, .int .i64 0, .int .i64 0, .int .i64 0], none, []⟩] [2, 3, 4]) k s Q := rfl
def c167_1 : ACode := .ops [⟨some 6, .mv (.c (.int .i64 0)), none, []⟩] [2, 3, 4, 6]
theorem r167_1 {C : Cs} {k : List Fr} {s : St} {Q : Post} : run C c167_1 k s Q = run C (.ops [⟨some 6, .mv (.c (.int .i64 0)), none, []⟩] [2, 3, 4, 6]) k s Q := rfl
def c167_2 : ACode := .ops [⟨some 7, .bin .lss (.t 6) (.c (.int .i64 5)), none, []⟩] [2, 3, 4, 6, 7]
theorem r167_2 {C : Cs} {k : List Fr} {s : St} {Q : Post} : run C c167_2 k s Q = run C (.ops [⟨some 7, .bin .lss (.t 6) (.c (.int .i64 5)), none, []⟩] [2, 3, 4, 6, 7]) k s Q := rfl
def c167_3 : ACode := .cond (.t 7) .skip (.exit 0)
theorem r167_3 {C : Cs} {k : List Fr} {s : St} {Q : Post} : run C c167_3 k s Q = run C (.cond (.t 7) .skip (.exit 0)) k s Q := rfl
def c167_4 : ACode := .ops [⟨some 8, .mv (.t 6), none, []⟩,
  ⟨some 5, .mv (.t 8), none, []⟩] [2, 3, 4, 5, 6]
theorem r167_4 {C : Cs} {k : List Fr} {s : St} {Q : Post} : run C c167_4 k s Q = run C (.ops [⟨some 8, .mv (.t 6), none, []⟩,
  ⟨some 5, .mv (.t 8), none, []⟩] [2, 3, 4, 5, 6]) k s Q := rfl
def c167_5 : ACode := .ops [⟨some 9, .mv (.t 5), none, []⟩,
  ⟨some 10, .mv (.t 5), none, []⟩,
  ⟨some 11, .iad (.t 2) (.t 10) 2 5, none, [2]⟩,
  ⟨some 12, .load 2 true (.t 11), none, [2]⟩,
  ⟨some 13, .mv (.t 5), none, []⟩,
  ⟨some 14, .iad (.t 3) (.t 13) 2 5, none, [3]⟩,
  ⟨some 15, .load 2 true (.t 14), none, [3]⟩,
  ⟨some 16, .call 157 [.t 12, .t 15], none, []⟩,
  ⟨some 17, .iad (.t 2) (.t 9) 2 5, none, [2]⟩,
  ⟨none, .store (.t 17) 2 (.t 16), none, [2]⟩] [2, 3, 4, 6]
theorem r167_5 {C : Cs} {k : List Fr} {s : St} {Q : Post} : run C c167_5 k s Q = run C (.ops [⟨some 9, .mv (.t 5), none, []⟩,
  ⟨some 10, .mv (.t 5), none, []⟩,
  ⟨some 11, .iad (.t 2) (.t 10) 2 5, none, [2]⟩,
  ⟨some 12, .load 2 true (.t 11), none, [2]⟩,
  ⟨some 13, .mv (.t 5), none, []⟩,
  ⟨some 14, .iad (.t 3) (.t 13) 2 5, none, [3]⟩,
  ⟨some 15, .load 2 true (.t 14), none, [3]⟩,
  ⟨some 16, .call 157 [.t 12, .t 15], none, []⟩,
  ⟨some 17, .iad (.t 2) (.t 9) 2 5, none, [2]⟩,
  ⟨none, .store (.t 17) 2 (.t 16), none, [2]⟩] [2, 3, 4, 6]) k s Q := rfl
def c167_6 : ACode := .seq c167_4 c167_5
theorem r167_6 {C : Cs} {k : List Fr} {s : St} {Q : Post} : run C c167_6 k s Q = run C (.seq c167_4 c167_5) k s Q := rfl
def c167_7 : ACode := .block 1 c167_6
theorem r167_7 {C : Cs} {k : List Fr} {s : St} {Q : Post} : run C c167_7 k s Q = run C (.block 1 c167_6) k s Q := rfl
def c167_8 : ACode := .ops [⟨some 18, .bin .add (.t 6) (.c (.int .i64 1)), none, []⟩,
  ⟨some 6, .mv (.t 18), none, []⟩] [2, 3, 4, 6]
theorem r167_8 {C : Cs} {k : List Fr} {s : St} {Q : Post} : run C c167_8 k s Q = run C (.ops [⟨some 18, .bin .add (.t 6) (.c (.int .i64 1)), none, []⟩,
  ⟨some 6, .mv (.t 18), none, []⟩] [2, 3, 4, 6]) k s Q := rfl
def c167_9 : ACode := .seq c167_7 c167_8
theorem r167_9 {C : Cs} {k : List Fr} {s : St} {Q : Post} : run C c167_9 k s Q = run C (.seq c167_7 c167_8) k s Q := rfl
def c167_10 : ACode := .seq c167_3 c167_9
theorem r167_10 {C : Cs} {k : List Fr} {s : St} {Q : Post} : run C c167_10 k s Q = run C (.seq c167_3 c167_9) k s Q := rfl
def c167_11 : ACode := .seq c167_2 c167_10
theorem r167_11 {C : Cs} {k : List Fr} {s : St} {Q : Post} : run C c167_11 k s Q = run C (.seq c167_2 c167_10) k s Q := rfl
def c167_12 : ACode := .keep [2, 3, 4, 6] [2, 3, 4] c167_11
theorem r167_12 {C : Cs} {k : List Fr} {s : St} {Q : Post} : run C c167_12 k s Q = run C (.keep [2, 3, 4, 6] [2, 3, 4] c167_11) k s Q := rfl
def c167_13 : ACode := .loop c167_12
theorem r167_13 {C : Cs} {k : List Fr} {s : St} {Q : Post} : run C c167_13 k s Q = run C (.loop c167_12) k s Q := rfl
def c167_14 : ACode := .block 0 c167_13
theorem r167_14 {C : Cs} {k : List Fr} {s : St} {Q : Post} : run C c167_14 k s Q = run C (.block 0 c167_13) k s Q := rfl
def c167_15 : ACode := .seq c167_1 c167_14
theorem r167_15 {C : Cs} {k : List Fr} {s : St} {Q : Post} : run C c167_15 k s Q = run C (.seq c167_1 c167_14) k s Q := rfl
def c167_16 : ACode := .ops [⟨some 19, .load 10 true (.t 2), none, [2]⟩,
  ⟨none, .store (.t 4) 10 (.t 19), none, [4]⟩] [4]
theorem r167_16 {C : Cs} {k : List Fr} {s : St} {Q : Post} : run C c167_16 k s Q = run C (.ops [⟨some 19, .load 10 true (.t 2), none, [2]⟩,
  ⟨none, .store (.t 4) 10 (.t 19), none, [4]⟩] [4]) k s Q := rfl
def c167_17 : ACode := .seq c167_16 .ret
theorem r167_17 {C : Cs} {k : List Fr} {s : St} {Q : Post} : run C c167_17 k s Q = run C (.seq c167_16 .ret) k s Q := rfl
def c167_18 : ACode := .seq c167_15 c167_17
theorem r167_18 {C : Cs} {k : List Fr} {s : St} {Q : Post} : run C c167_18 k s Q = run C (.seq c167_15 c167_17) k s Q := rfl
def c167_19 : ACode := .seq c167_0 c167_18
theorem r167_19 {C : Cs} {k : List Fr} {s : St} {Q : Post} : run C c167_19 k s Q = run C (.seq c167_0 c167_18) k s Q := rfl
def a167 : AFun := ⟨2, 20, c167_19, [.cell 4 10 true]⟩
attribute [simp] r167_0 r167_1 r167_2 r167_3 r167_4 r167_5 r167_6 r167_7 r167_8 r167_9 r167_10 r167_11 r167_12 r167_13 r167_14 r167_15 r167_16 r167_17 r167_18 r167_19
theorem m167 : mFun Try.prog Try.f167 a167 = true := by decide +kernel
/- copse/box.Meet -/
def c190_0 : ACode := .ops [⟨some 2, .box (.t 0) 10, none, []⟩,
  ⟨some 3, .box (.t 1) 10, none, []⟩,
  ⟨some 4, .alloc [.int .i64 0, .int .i64 0, .int .i64 0, .int .i64 0, .int .i64 0, .int .i64 0, .int .i64 0, .int .i64 0, .int .i64 0, .int .i64 0], none, []⟩] [2, 3, 4]
theorem r190_0 {C : Cs} {k : List Fr} {s : St} {Q : Post} : run C c190_0 k s Q = run C (.ops [⟨some 2, .box (.t 0) 10, none, []⟩,
  ⟨some 3, .box (.t 1) 10, none, []⟩,
  ⟨some 4, .alloc [.int .i64 0, .int .i64 0, .int .i64 0, .int .i64 0, .int .i64 0, .int .i64 0, .int .i64 0, .int .i64 0, .int .i64 0, .int .i64 0], none, []⟩] [2, 3, 4]) k s Q := rfl
def c190_1 : ACode := .ops [⟨some 6, .mv (.c (.int .i64 0)), none, []⟩] [2, 3, 4, 6]
theorem r190_1 {C : Cs} {k : List Fr} {s : St} {Q : Post} : run C c190_1 k s Q = run C (.ops [⟨some 6, .mv (.c (.int .i64 0)), none, []⟩] [2, 3, 4, 6]) k s Q := rfl
def c190_2 : ACode := .ops [⟨some 7, .bin .lss (.t 6) (.c (.int .i64 5)), none, []⟩] [2, 3, 4, 6, 7]
theorem r190_2 {C : Cs} {k : List Fr} {s : St} {Q : Post} : run C c190_2 k s Q = run C (.ops [⟨some 7, .bin .lss (.t 6) (.c (.int .i64 5)), none, []⟩] [2, 3, 4, 6, 7]) k s Q := rfl
def c190_3 : ACode := .cond (.t 7) .skip (.exit 0)
theorem r190_3 {C : Cs} {k : List Fr} {s : St} {Q : Post} : run C c190_3 k s Q = run C (.cond (.t 7) .skip (.exit 0)) k s Q := rfl
def c190_4 : ACode := .ops [⟨some 8, .mv (.t 6), none, []⟩,
  ⟨some 5, .mv (.t 8), none, []⟩] [2, 3, 4, 5, 6]
theorem r190_4 {C : Cs} {k : List Fr} {s : St} {Q : Post} : run C c190_4 k s Q = run C (.ops [⟨some 8, .mv (.t 6), none, []⟩,
  ⟨some 5, .mv (.t 8), none, []⟩] [2, 3, 4, 5, 6]) k s Q := rfl
def c190_5 : ACode := .ops [⟨some 9, .mv (.t 5), none, []⟩,
  ⟨some 10, .mv (.t 5), none, []⟩,
  ⟨some 11, .iad (.t 2) (.t 10) 2 5, none, [2]⟩,
  ⟨some 12, .load 2 true (.t 11), none, [2]⟩,
  ⟨some 13, .mv (.t 5), none, []⟩,
  ⟨some 14, .iad (.t 3) (.t 13) 2 5, none, [3]⟩,
  ⟨some 15, .load 2 true (.t 14), none, [3]⟩,
  ⟨some 16, .call 198 [.t 12, .t 15], none, []⟩,
  ⟨some 17, .iad (.t 2) (.t 9) 2 5, none, [2]⟩,
  ⟨none, .store (.t 17) 2 (.t 16), none, [2]⟩] [2, 3, 4, 6]
theorem r190_5 {C : Cs} {k : List Fr} {s : St} {Q : Post} : run C c190_5 k s Q = run C (.ops [⟨some 9, .mv (.t 5), none, []⟩,
  ⟨some 10, .mv (.t 5), none, []⟩,
  ⟨some 11, .iad (.t 2) (.t 10) 2 5, none, [2]⟩,
  ⟨some 12, .load 2 true (.t 11), none, [2]⟩,
  ⟨some 13, .mv (.t 5), none, []⟩,
  ⟨some 14, .iad (.t 3) (.t 13) 2 5, none, [3]⟩,
  ⟨some 15, .load 2 true (.t 14), none, [3]⟩,
  ⟨some 16, .call 198 [.t 12, .t 15], none, []⟩,
  ⟨some 17, .iad (.t 2) (.t 9) 2 5, none, [2]⟩,
  ⟨none, .store (.t 17) 2 (.t 16), none, [2]⟩] [2, 3, 4, 6]) k s Q := rfl
def c190_6 : ACode := .seq c190_4 c190_5
theorem r190_6 {C : Cs} {k : List Fr} {s : St} {Q : Post} : run C c190_6 k s Q = run C (.seq c190_4 c190_5) k s Q := rfl
def c190_7 : ACode := .block 1 c190_6
theorem r190_7 {C : Cs} {k : List Fr} {s : St} {Q : Post} : run C c190_7 k s Q = run C (.block 1 c190_6) k s Q := rfl
def c190_8 : ACode := .ops [⟨some 18, .bin .add (.t 6) (.c (.int .i64 1)), none, []⟩,
  ⟨some 6, .mv (.t 18), none, []⟩] [2, 3, 4, 6]
theorem r190_8 {C : Cs} {k : List Fr} {s : St} {Q : Post} : run C c190_8 k s Q = run C (.ops [⟨some 18, .bin .add (.t 6) (.c (.int .i64 1)), none, []⟩,
  ⟨some 6, .mv (.t 18), none, []⟩] [2, 3, 4, 6]) k s Q := rfl
def c190_9 : ACode := .seq c190_7 c190_8
theorem r190_9 {C : Cs} {k : List Fr} {s : St} {Q : Post} : run C c190_9 k s Q = run C (.seq c190_7 c190_8) k s Q := rfl
def c190_10 : ACode := .seq c190_3 c190_9
theorem r190_10 {C : Cs} {k : List Fr} {s : St} {Q : Post} : run C c190_10 k s Q = run C (.seq c190_3 c190_9) k s Q := rfl
def c190_11 : ACode := .seq c190_2 c190_10
theorem r190_11 {C : Cs} {k : List Fr} {s : St} {Q : Post} : run C c190_11 k s Q = run C (.seq c190_2 c190_10) k s Q := rfl
def c190_12 : ACode := .keep [2, 3, 4, 6] [2, 3, 4] c190_11
theorem r190_12 {C : Cs} {k : List Fr} {s : St} {Q : Post} : run C c190_12 k s Q = run C (.keep [2, 3, 4, 6] [2, 3, 4] c190_11) k s Q := rfl
def c190_13 : ACode := .loop c190_12
theorem r190_13 {C : Cs} {k : List Fr} {s : St} {Q : Post} : run C c190_13 k s Q = run C (.loop c190_12) k s Q := rfl
def c190_14 : ACode := .block 0 c190_13
theorem r190_14 {C : Cs} {k : List Fr} {s : St} {Q : Post} : run C c190_14 k s Q = run C (.block 0 c190_13) k s Q := rfl
def c190_15 : ACode := .seq c190_1 c190_14
theorem r190_15 {C : Cs} {k : List Fr} {s : St} {Q : Post} : run C c190_15 k s Q = run C (.seq c190_1 c190_14) k s Q := rfl
def c190_16 : ACode := .ops [⟨some 19, .load 10 true (.t 2), none, [2]⟩,
  ⟨none, .store (.t 4) 10 (.t 19), none, [4]⟩] [4]
theorem r190_16 {C : Cs} {k : List Fr} {s : St} {Q : Post} : run C c190_16 k s Q = run C (.ops [⟨some 19, .load 10 true (.t 2), none, [2]⟩,
  ⟨none, .store (.t 4) 10 (.t 19), none, [4]⟩] [4]) k s Q := rfl
def c190_17 : ACode := .seq c190_16 .ret
theorem r190_17 {C : Cs} {k : List Fr} {s : St} {Q : Post} : run C c190_17 k s Q = run C (.seq c190_16 .ret) k s Q := rfl
def c190_18 : ACode := .seq c190_15 c190_17
theorem r190_18 {C : Cs} {k : List Fr} {s : St} {Q : Post} : run C c190_18 k s Q = run C (.seq c190_15 c190_17) k s Q := rfl
def c190_19 : ACode := .seq c190_0 c190_18
theorem r190_19 {C : Cs} {k : List Fr} {s : St} {Q : Post} : run C c190_19 k s Q = run C (.seq c190_0 c190_18) k s Q := rfl
def a190 : AFun := ⟨2, 20, c190_19, [.cell 4 10 true]⟩
attribute [simp] r190_0 r190_1 r190_2 r190_3 r190_4 r190_5 r190_6 r190_7 r190_8 r190_9 r190_10 r190_11 r190_12 r190_13 r190_14 r190_15 r190_16 r190_17 r190_18 r190_19
theorem m190 : mFun Try.prog Try.f190 a190 = true := by decide +kernel
/- copse/span.Meet -/
def c198_0 : ACode := .ops [⟨some 2, .box (.t 0) 2, none, []⟩,
  ⟨some 3, .box (.t 1) 2, none, []⟩,
  ⟨some 4, .alloc [.int .i64 0, .int .i64 0], none, []⟩] [2, 3, 4]
theorem r198_0 {C : Cs} {k : List Fr} {s : St} {Q : Post} : run C c198_0 k s Q = run C (.ops [⟨some 2, .box (.t 0) 2, none, []⟩,
  ⟨some 3, .box (.t 1) 2, none, []⟩,
  ⟨some 4, .alloc [.int .i64 0, .int .i64 0], none, []⟩] [2, 3, 4]) k s Q := rfl
def c198_1 : ACode := .ops [⟨some 5, .fad (.t 2) 0, none, [2]⟩,
  ⟨some 6, .load 1 false (.t 5), none, [2]⟩,
  ⟨some 7, .fad (.t 3) 0, none, [3]⟩,
  ⟨some 8, .load 1 false (.t 7), none, [3]⟩,
  ⟨some 9, .mnmx true (.t 6) (.t 8), none, []⟩,
  ⟨some 10, .fad (.t 2) 1, none, [2]⟩,
  ⟨some 11, .load 1 false (.t 10), none, [2]⟩,
  ⟨some 12, .fad (.t 3) 1, none, [3]⟩,
  ⟨some 13, .load 1 false (.t 12), none, [3]⟩,
  ⟨some 14, .mnmx false (.t 11) (.t 13), none, []⟩,
  ⟨some 15, .call 158 [.t 9, .t 14], none, []⟩,
  ⟨none, .store (.t 4) 2 (.t 15), none, [4]⟩] [4]
theorem r198_1 {C : Cs} {k : List Fr} {s : St} {Q : Post} : run C c198_1 k s Q = run C (.ops [⟨some 5, .fad (.t 2) 0, none, [2]⟩,
  ⟨some 6, .load 1 false (.t 5), none, [2]⟩,
  ⟨some 7, .fad (.t 3) 0, none, [3]⟩,
  ⟨some 8, .load 1 false (.t 7), none, [3]⟩,
  ⟨some 9, .mnmx true (.t 6) (.t 8), none, []⟩,
  ⟨some 10, .fad (.t 2) 1, none, [2]⟩,
  ⟨some 11, .load 1 false (.t 10), none, [2]⟩,
  ⟨some 12, .fad (.t 3) 1, none, [3]⟩,
  ⟨some 13, .load 1 false (.t 12), none, [3]⟩,
  ⟨some 14, .mnmx false (.t 11) (.t 13), none, []⟩,
  ⟨some 15, .call 158 [.t 9, .t 14], none, []⟩,
  ⟨none, .store (.t 4) 2 (.t 15), none, [4]⟩] [4]) k s Q := rfl
def c198_2 : ACode := .seq c198_1 .ret
theorem r198_2 {C : Cs} {k : List Fr} {s : St} {Q : Post} : run C c198_2 k s Q = run C (.seq c198_1 .ret) k s Q := rfl
def c198_3 : ACode := .seq c198_0 c198_2
theorem r198_3 {C : Cs} {k : List Fr} {s : St} {Q : Post} : run C c198_3 k s Q = run C (.seq c198_0 c198_2) k s Q := rfl
def a198 : AFun := ⟨2, 16, c198_3, [.cell 4 2 true]⟩
attribute [simp] r198_0 r198_1 r198_2 r198_3
theorem m198 : mFun Try.prog Try.f198 a198 = true := by decide +kernel

set_option maxRecDepth 8000 in
theorem runs_rEmpty (b : Box) (c : Bool) (h : some b.empty = some c) : Runs (tbl []) a49 [Arg.enc b] (Arg.enc c) := by
  cases h
  refine ⟨rfl, fun g => run_def ?_⟩
  unfold a49
  by_cases h0 : b.s0.hi < b.s0.lo
  case pos => simp -implicitDefEqProofs [Box.empty, Span.empty, run_round, h0]
  by_cases h1 : b.s1.hi < b.s1.lo
  case pos => simp -implicitDefEqProofs [Box.empty, Span.empty, run_round, h0, h1]
  by_cases h2 : b.s2.hi < b.s2.lo
  case pos => simp -implicitDefEqProofs [Box.empty, Span.empty, run_round, h0, h1, h2]
  by_cases h3 : b.s3.hi < b.s3.lo
  case pos => simp -implicitDefEqProofs [Box.empty, Span.empty, run_round, h0, h1, h2, h3]
  by_cases h4 : b.s4.hi < b.s4.lo <;> simp -implicitDefEqProofs [Box.empty, Span.empty, run_round, h0, h1, h2, h3, h4]
theorem c_rEmpty : Contract Try.prog 49 (sp1 fun (b : Box) => some b.empty) :=
  contract_of_runs mixed tbl_nil Try.func49 m49 (sp1_runs runs_rEmpty)

theorem runs_rMeet (a b c : Span) (h : some (meetS a b) = some c) : Runs (tbl []) a157 [Arg.enc a, Arg.enc b] (Arg.enc c) := by
  cases h
  refine ⟨rfl, fun g => run_def ?_⟩
  unfold a157
  simp -implicitDefEqProofs [meetS, ofS, noneS, min2, max2]
  generalize (if b.hi < a.hi then b.hi else a.hi) = x
  generalize (if a.lo < b.lo then b.lo else a.lo) = y
  by_cases h1 : x < y
  · simp [h1]
    omega
  · simp [h1]
theorem c_rMeet : Contract Try.prog 157 (sp2 fun (a b : Span) => some (meetS a b)) :=
  contract_of_runs mixed tbl_nil Try.func157 m157 (sp2_runs runs_rMeet)
theorem runs_sMeet (a b c : Span) (h : some (meetS a b) = some c) : Runs (tbl [(158, sp2 fun lo hi => some (ofS lo hi))]) a198 [Arg.enc a, Arg.enc b] (Arg.enc c) := by
  cases h
  refine ⟨rfl, fun g => run_def ?_⟩
  unfold a198
  simp -implicitDefEqProofs [meetS, min2, max2]
theorem c_sMeet : Contract Try.prog 198 (sp2 fun (a b : Span) => some (meetS a b)) :=
  contract_of_runs mixed (tbl_cons c_of tbl_nil) Try.func198 m198 (sp2_runs runs_sMeet)
end Go.Co
