/- The law ModelTells: what its text computes. -/
import Derived.Test.YtbjnmbbhlaghaaaCoTh
import Derived.Test.YtbjnmbbhlaghaaaCoMg
import Derived.Test.YtbjnmbbhlaghaaaCoSh
namespace Go.Co
open Go.Am Go.Proofs
set_option linter.unusedSimpArgs false
set_option linter.unusedVariables false
attribute [-simp] Go.Am.eff_gcall

/- copse/copselaw8.three -/
def c95_0 : ACode := .ops [⟨some 6, .nil0 6 1, none, []⟩] [0, 1, 2]
theorem r95_0 {C : Cs} {k : List Fr} {s : St} {Q : Post} : run C c95_0 k s Q = run C (.ops [⟨some 6, .nil0 6 1, none, []⟩] [0, 1, 2]) k s Q := rfl
def c95_1 : ACode := .ops [⟨some 7, .mv (.t 0), none, []⟩,
  ⟨some 8, .build [.bool false, .int .i64 0, .int .i64 0, .int .i64 0, .int .i64 0, .int .i64 0] [(3, 1, .t 7), (4, 1, .c (.int .i64 1)), (5, 1, .c (.int .i64 2))], none, []⟩,
  ⟨some 9, .call 111 [.t 8], none, []⟩,
  ⟨some 10, .mv (.t 1), none, []⟩,
  ⟨some 11, .build [.bool false, .int .i64 0, .int .i64 0, .int .i64 0, .int .i64 0, .int .i64 0] [(0, 1, .c (.bool true)), (1, 1, .t 10)], none, []⟩,
  ⟨some 12, .call 111 [.t 11], none, []⟩,
  ⟨some 13, .mv (.t 2), none, []⟩,
  ⟨some 14, .build [.bool false, .int .i64 0, .int .i64 0, .int .i64 0, .int .i64 0, .int .i64 0] [(0, 1, .c (.bool true)), (1, 1, .t 13)], none, []⟩,
  ⟨some 15, .call 111 [.t 14], none, []⟩,
  ⟨some 16, .mkrow 6 3 1 [.int .u64 0] [(0, 1, .t 9), (1, 1, .t 12), (2, 1, .t 15)], none, []⟩,
  ⟨some 6, .mv (.t 16), none, []⟩] [6]
theorem r95_1 {C : Cs} {k : List Fr} {s : St} {Q : Post} : run C c95_1 k s Q = run C (.ops [⟨some 7, .mv (.t 0), none, []⟩,
  ⟨some 8, .build [.bool false, .int .i64 0, .int .i64 0, .int .i64 0, .int .i64 0, .int .i64 0] [(3, 1, .t 7), (4, 1, .c (.int .i64 1)), (5, 1, .c (.int .i64 2))], none, []⟩,
  ⟨some 9, .call 111 [.t 8], none, []⟩,
  ⟨some 10, .mv (.t 1), none, []⟩,
  ⟨some 11, .build [.bool false, .int .i64 0, .int .i64 0, .int .i64 0, .int .i64 0, .int .i64 0] [(0, 1, .c (.bool true)), (1, 1, .t 10)], none, []⟩,
  ⟨some 12, .call 111 [.t 11], none, []⟩,
  ⟨some 13, .mv (.t 2), none, []⟩,
  ⟨some 14, .build [.bool false, .int .i64 0, .int .i64 0, .int .i64 0, .int .i64 0, .int .i64 0] [(0, 1, .c (.bool true)), (1, 1, .t 13)], none, []⟩,
  ⟨some 15, .call 111 [.t 14], none, []⟩,
  ⟨some 16, .mkrow 6 3 1 [.int .u64 0] [(0, 1, .t 9), (1, 1, .t 12), (2, 1, .t 15)], none, []⟩,
  ⟨some 6, .mv (.t 16), none, []⟩] [6]) k s Q := rfl
def c95_2 : ACode := .seq c95_1 .ret
theorem r95_2 {C : Cs} {k : List Fr} {s : St} {Q : Post} : run C c95_2 k s Q = run C (.seq c95_1 .ret) k s Q := rfl
def c95_3 : ACode := .seq c95_0 c95_2
theorem r95_3 {C : Cs} {k : List Fr} {s : St} {Q : Post} : run C c95_3 k s Q = run C (.seq c95_0 c95_2) k s Q := rfl
def a95 : AFun := ⟨3, 17, c95_3, [.t 6]⟩
attribute [simp] r95_0 r95_1 r95_2 r95_3
theorem m95 : mFun Try.prog Try.f95 a95 = true := by decide +kernel
/- copse/copselaw8.ModelTells -/
def c32_0 : ACode := .ops [⟨some 5, .box (.t 0) 6, none, []⟩,
  ⟨some 6, .box (.t 1) 4, none, []⟩,
  ⟨some 8, .box (.t 3) 4, none, []⟩,
  ⟨some 10, .mv (.c (.bool false)), none, []⟩] [2, 4, 5, 6, 8]
theorem r32_0 {C : Cs} {k : List Fr} {s : St} {Q : Post} : run C c32_0 k s Q = run C (.ops [⟨some 5, .box (.t 0) 6, none, []⟩,
  ⟨some 6, .box (.t 1) 4, none, []⟩,
  ⟨some 8, .box (.t 3) 4, none, []⟩,
  ⟨some 10, .mv (.c (.bool false)), none, []⟩] [2, 4, 5, 6, 8]) k s Q := rfl
def c32_1 : ACode := .ops [⟨some 14, .fad (.t 5) 5, none, [5]⟩,
  ⟨some 15, .load 1 false (.t 14), none, [5]⟩,
  ⟨some 16, .len (.t 15), none, [46, 58, 10505]⟩,
  ⟨some 17, .bin .gtr (.t 16) (.c (.int .i64 10)), none, []⟩] [2, 4, 5, 6, 8, 17]
theorem r32_1 {C : Cs} {k : List Fr} {s : St} {Q : Post} : run C c32_1 k s Q = run C (.ops [⟨some 14, .fad (.t 5) 5, none, [5]⟩,
  ⟨some 15, .load 1 false (.t 14), none, [5]⟩,
  ⟨some 16, .len (.t 15), none, [46, 58, 10505]⟩,
  ⟨some 17, .bin .gtr (.t 16) (.c (.int .i64 10)), none, []⟩] [2, 4, 5, 6, 8, 17]) k s Q := rfl
def c32_2 : ACode := .ops [⟨some 18, .fad (.t 5) 5, none, [5]⟩,
  ⟨some 19, .load 1 false (.t 18), none, [5]⟩,
  ⟨some 20, .sl (.t 19) none (some (.c (.int .i64 10))) 2, none, [46, 58, 10505]⟩,
  ⟨some 21, .fad (.t 5) 5, none, [5]⟩,
  ⟨none, .store (.t 21) 1 (.t 20), none, [5]⟩] [2, 4, 5, 6, 8]
theorem r32_2 {C : Cs} {k : List Fr} {s : St} {Q : Post} : run C c32_2 k s Q = run C (.ops [⟨some 18, .fad (.t 5) 5, none, [5]⟩,
  ⟨some 19, .load 1 false (.t 18), none, [5]⟩,
  ⟨some 20, .sl (.t 19) none (some (.c (.int .i64 10))) 2, none, [46, 58, 10505]⟩,
  ⟨some 21, .fad (.t 5) 5, none, [5]⟩,
  ⟨none, .store (.t 21) 1 (.t 20), none, [5]⟩] [2, 4, 5, 6, 8]) k s Q := rfl
def c32_3 : ACode := .cond (.t 17) c32_2 .skip
theorem r32_3 {C : Cs} {k : List Fr} {s : St} {Q : Post} : run C c32_3 k s Q = run C (.cond (.t 17) c32_2 .skip) k s Q := rfl
def c32_4 : ACode := .seq c32_1 c32_3
theorem r32_4 {C : Cs} {k : List Fr} {s : St} {Q : Post} : run C c32_4 k s Q = run C (.seq c32_1 c32_3) k s Q := rfl
def c32_5 : ACode := .ops [⟨some 22, .mv (.t 4), none, []⟩,
  ⟨some 23, .call 63 [.t 22, .c (.int .i64 0), .c (.int .i64 9)], none, []⟩] [2, 5, 6, 8, 23]
theorem r32_5 {C : Cs} {k : List Fr} {s : St} {Q : Post} : run C c32_5 k s Q = run C (.ops [⟨some 22, .mv (.t 4), none, []⟩,
  ⟨some 23, .call 63 [.t 22, .c (.int .i64 0), .c (.int .i64 9)], none, []⟩] [2, 5, 6, 8, 23]) k s Q := rfl
def c32_6 : ACode := .ops [⟨some 25, .bin .eql (.t 23) (.c (.int .i64 0)), none, []⟩,
  ⟨some 24, .mv (.t 25), none, []⟩] [2, 5, 6, 8, 23, 24]
theorem r32_6 {C : Cs} {k : List Fr} {s : St} {Q : Post} : run C c32_6 k s Q = run C (.ops [⟨some 25, .bin .eql (.t 23) (.c (.int .i64 0)), none, []⟩,
  ⟨some 24, .mv (.t 25), none, []⟩] [2, 5, 6, 8, 23, 24]) k s Q := rfl
def c32_7 : ACode := .ops [⟨some 26, .load 4 true (.t 6), none, [6]⟩,
  ⟨some 27, .call 45 [.t 26], none, []⟩,
  ⟨none, .store (.t 5) 6 (.t 27), none, [5]⟩] [2, 5, 8]
theorem r32_7 {C : Cs} {k : List Fr} {s : St} {Q : Post} : run C c32_7 k s Q = run C (.ops [⟨some 26, .load 4 true (.t 6), none, [6]⟩,
  ⟨some 27, .call 45 [.t 26], none, []⟩,
  ⟨none, .store (.t 5) 6 (.t 27), none, [5]⟩] [2, 5, 8]) k s Q := rfl
def c32_8 : ACode := .ops [⟨some 28, .mv (.t 2), none, []⟩,
  ⟨some 29, .fad (.t 5) 0, none, [5]⟩,
  ⟨none, .store (.t 29) 1 (.t 28), none, [5]⟩] [2, 5, 8]
theorem r32_8 {C : Cs} {k : List Fr} {s : St} {Q : Post} : run C c32_8 k s Q = run C (.ops [⟨some 28, .mv (.t 2), none, []⟩,
  ⟨some 29, .fad (.t 5) 0, none, [5]⟩,
  ⟨none, .store (.t 29) 1 (.t 28), none, [5]⟩] [2, 5, 8]) k s Q := rfl
def c32_9 : ACode := .seq c32_7 c32_8
theorem r32_9 {C : Cs} {k : List Fr} {s : St} {Q : Post} : run C c32_9 k s Q = run C (.seq c32_7 c32_8) k s Q := rfl
def c32_10 : ACode := .ops [⟨some 31, .bin .eql (.t 23) (.c (.int .i64 1)), none, []⟩,
  ⟨some 30, .mv (.t 31), none, []⟩] [2, 5, 6, 8, 23, 30]
theorem r32_10 {C : Cs} {k : List Fr} {s : St} {Q : Post} : run C c32_10 k s Q = run C (.ops [⟨some 31, .bin .eql (.t 23) (.c (.int .i64 1)), none, []⟩,
  ⟨some 30, .mv (.t 31), none, []⟩] [2, 5, 6, 8, 23, 30]) k s Q := rfl
def c32_11 : ACode := .ops [⟨some 32, .load 4 true (.t 6), none, [6]⟩,
  ⟨some 33, .call 45 [.t 32], none, []⟩,
  ⟨none, .store (.t 5) 6 (.t 33), none, [5]⟩] [2, 5, 8]
theorem r32_11 {C : Cs} {k : List Fr} {s : St} {Q : Post} : run C c32_11 k s Q = run C (.ops [⟨some 32, .load 4 true (.t 6), none, [6]⟩,
  ⟨some 33, .call 45 [.t 32], none, []⟩,
  ⟨none, .store (.t 5) 6 (.t 33), none, [5]⟩] [2, 5, 8]) k s Q := rfl
def c32_12 : ACode := .ops [⟨some 34, .mv (.t 2), none, []⟩,
  ⟨some 35, .fad (.t 5) 1, none, [5]⟩,
  ⟨none, .store (.t 35) 1 (.t 34), none, [5]⟩] [2, 5, 8]
theorem r32_12 {C : Cs} {k : List Fr} {s : St} {Q : Post} : run C c32_12 k s Q = run C (.ops [⟨some 34, .mv (.t 2), none, []⟩,
  ⟨some 35, .fad (.t 5) 1, none, [5]⟩,
  ⟨none, .store (.t 35) 1 (.t 34), none, [5]⟩] [2, 5, 8]) k s Q := rfl
def c32_13 : ACode := .seq c32_11 c32_12
theorem r32_13 {C : Cs} {k : List Fr} {s : St} {Q : Post} : run C c32_13 k s Q = run C (.seq c32_11 c32_12) k s Q := rfl
def c32_14 : ACode := .ops [⟨some 37, .bin .eql (.t 23) (.c (.int .i64 2)), none, []⟩,
  ⟨some 36, .mv (.t 37), none, []⟩] [2, 5, 6, 8, 23, 36]
theorem r32_14 {C : Cs} {k : List Fr} {s : St} {Q : Post} : run C c32_14 k s Q = run C (.ops [⟨some 37, .bin .eql (.t 23) (.c (.int .i64 2)), none, []⟩,
  ⟨some 36, .mv (.t 37), none, []⟩] [2, 5, 6, 8, 23, 36]) k s Q := rfl
def c32_15 : ACode := .ops [⟨some 38, .load 4 true (.t 6), none, [6]⟩,
  ⟨some 39, .call 45 [.t 38], none, []⟩,
  ⟨none, .store (.t 5) 6 (.t 39), none, [5]⟩] [2, 5, 8]
theorem r32_15 {C : Cs} {k : List Fr} {s : St} {Q : Post} : run C c32_15 k s Q = run C (.ops [⟨some 38, .load 4 true (.t 6), none, [6]⟩,
  ⟨some 39, .call 45 [.t 38], none, []⟩,
  ⟨none, .store (.t 5) 6 (.t 39), none, [5]⟩] [2, 5, 8]) k s Q := rfl
def c32_16 : ACode := .ops [⟨some 40, .mv (.t 2), none, []⟩,
  ⟨some 41, .fad (.t 5) 2, none, [5]⟩,
  ⟨some 42, .iad (.t 41) (.c (.int .i64 2)) 1 3, none, [5]⟩,
  ⟨none, .store (.t 42) 1 (.t 40), none, [5]⟩] [2, 5, 8]
theorem r32_16 {C : Cs} {k : List Fr} {s : St} {Q : Post} : run C c32_16 k s Q = run C (.ops [⟨some 40, .mv (.t 2), none, []⟩,
  ⟨some 41, .fad (.t 5) 2, none, [5]⟩,
  ⟨some 42, .iad (.t 41) (.c (.int .i64 2)) 1 3, none, [5]⟩,
  ⟨none, .store (.t 42) 1 (.t 40), none, [5]⟩] [2, 5, 8]) k s Q := rfl
def c32_17 : ACode := .seq c32_15 c32_16
theorem r32_17 {C : Cs} {k : List Fr} {s : St} {Q : Post} : run C c32_17 k s Q = run C (.seq c32_15 c32_16) k s Q := rfl
def c32_18 : ACode := .ops [⟨some 44, .bin .eql (.t 23) (.c (.int .i64 3)), none, []⟩,
  ⟨some 43, .mv (.t 44), none, []⟩] [2, 5, 6, 8, 23, 43]
theorem r32_18 {C : Cs} {k : List Fr} {s : St} {Q : Post} : run C c32_18 k s Q = run C (.ops [⟨some 44, .bin .eql (.t 23) (.c (.int .i64 3)), none, []⟩,
  ⟨some 43, .mv (.t 44), none, []⟩] [2, 5, 6, 8, 23, 43]) k s Q := rfl
def c32_19 : ACode := .ops [⟨some 45, .load 4 true (.t 6), none, [6]⟩,
  ⟨some 46, .gcall 45 [.t 45] [] 46, none, []⟩,
  ⟨none, .store (.t 5) 6 (.t 46), none, [5]⟩] [2, 5, 8]
theorem r32_19 {C : Cs} {k : List Fr} {s : St} {Q : Post} : run C c32_19 k s Q = run C (.ops [⟨some 45, .load 4 true (.t 6), none, [6]⟩,
  ⟨some 46, .gcall 45 [.t 45] [] 46, none, []⟩,
  ⟨none, .store (.t 5) 6 (.t 46), none, [5]⟩] [2, 5, 8]) k s Q := rfl
def c32_20 : ACode := .ops [⟨some 47, .fad (.t 5) 5, none, [5]⟩,
  ⟨some 48, .load 1 false (.t 47), none, [5]⟩,
  ⟨some 49, .mv (.t 2), none, []⟩,
  ⟨some 50, .call 95 [.c (.int .i64 5), .c (.int .i64 1), .c (.int .i64 2)], none, []⟩,
  ⟨some 51, .build [.int .i64 0, .nils] [(0, 1, .t 49), (1, 1, .t 50)], none, []⟩,
  ⟨some 52, .mkrow 52 1 2 [.int .i64 0, .nils] [(0, 2, .t 51)], none, []⟩,
  ⟨some 53, .app 10505 [46, 58, 10505] (.t 48) (.t 52) 2, none, [46, 52, 58, 10505]⟩,
  ⟨some 54, .fad (.t 5) 5, none, [5]⟩,
  ⟨none, .store (.t 54) 1 (.t 53), none, [5]⟩] [2, 5, 8]
theorem r32_20 {C : Cs} {k : List Fr} {s : St} {Q : Post} : run C c32_20 k s Q = run C (.ops [⟨some 47, .fad (.t 5) 5, none, [5]⟩,
  ⟨some 48, .load 1 false (.t 47), none, [5]⟩,
  ⟨some 49, .mv (.t 2), none, []⟩,
  ⟨some 50, .call 95 [.c (.int .i64 5), .c (.int .i64 1), .c (.int .i64 2)], none, []⟩,
  ⟨some 51, .build [.int .i64 0, .nils] [(0, 1, .t 49), (1, 1, .t 50)], none, []⟩,
  ⟨some 52, .mkrow 52 1 2 [.int .i64 0, .nils] [(0, 2, .t 51)], none, []⟩,
  ⟨some 53, .app 10505 [46, 58, 10505] (.t 48) (.t 52) 2, none, [46, 52, 58, 10505]⟩,
  ⟨some 54, .fad (.t 5) 5, none, [5]⟩,
  ⟨none, .store (.t 54) 1 (.t 53), none, [5]⟩] [2, 5, 8]) k s Q := rfl
def c32_21 : ACode := .seq c32_19 c32_20
theorem r32_21 {C : Cs} {k : List Fr} {s : St} {Q : Post} : run C c32_21 k s Q = run C (.seq c32_19 c32_20) k s Q := rfl
def c32_22 : ACode := .ops [⟨some 56, .bin .eql (.t 23) (.c (.int .i64 4)), none, []⟩,
  ⟨some 55, .mv (.t 56), none, []⟩] [2, 5, 6, 8, 23, 55]
theorem r32_22 {C : Cs} {k : List Fr} {s : St} {Q : Post} : run C c32_22 k s Q = run C (.ops [⟨some 56, .bin .eql (.t 23) (.c (.int .i64 4)), none, []⟩,
  ⟨some 55, .mv (.t 56), none, []⟩] [2, 5, 6, 8, 23, 55]) k s Q := rfl
def c32_23 : ACode := .ops [⟨some 57, .load 4 true (.t 6), none, [6]⟩,
  ⟨some 58, .gcall 45 [.t 57] [] 58, none, []⟩,
  ⟨none, .store (.t 5) 6 (.t 58), none, [5]⟩] [2, 5, 8]
theorem r32_23 {C : Cs} {k : List Fr} {s : St} {Q : Post} : run C c32_23 k s Q = run C (.ops [⟨some 57, .load 4 true (.t 6), none, [6]⟩,
  ⟨some 58, .gcall 45 [.t 57] [] 58, none, []⟩,
  ⟨none, .store (.t 5) 6 (.t 58), none, [5]⟩] [2, 5, 8]) k s Q := rfl
def c32_24 : ACode := .ops [⟨some 59, .fad (.t 5) 5, none, [5]⟩,
  ⟨some 60, .load 1 false (.t 59), none, [5]⟩,
  ⟨some 61, .len (.t 60), none, [46, 58, 10505]⟩,
  ⟨some 62, .bin .sub (.c (.int .i64 9)) (.t 61), none, []⟩,
  ⟨some 63, .mv (.c (.int .i64 0)), none, []⟩] [2, 5, 8, 62, 63]
theorem r32_24 {C : Cs} {k : List Fr} {s : St} {Q : Post} : run C c32_24 k s Q = run C (.ops [⟨some 59, .fad (.t 5) 5, none, [5]⟩,
  ⟨some 60, .load 1 false (.t 59), none, [5]⟩,
  ⟨some 61, .len (.t 60), none, [46, 58, 10505]⟩,
  ⟨some 62, .bin .sub (.c (.int .i64 9)) (.t 61), none, []⟩,
  ⟨some 63, .mv (.c (.int .i64 0)), none, []⟩] [2, 5, 8, 62, 63]) k s Q := rfl
def c32_25 : ACode := .ops [⟨some 64, .bin .lss (.t 63) (.t 62), none, []⟩] [2, 5, 8, 62, 63, 64]
theorem r32_25 {C : Cs} {k : List Fr} {s : St} {Q : Post} : run C c32_25 k s Q = run C (.ops [⟨some 64, .bin .lss (.t 63) (.t 62), none, []⟩] [2, 5, 8, 62, 63, 64]) k s Q := rfl
def c32_26 : ACode := .cond (.t 64) .skip (.exit 1)
theorem r32_26 {C : Cs} {k : List Fr} {s : St} {Q : Post} : run C c32_26 k s Q = run C (.cond (.t 64) .skip (.exit 1)) k s Q := rfl
def c32_27 : ACode := .ops [⟨some 65, .fad (.t 5) 5, none, [5]⟩,
  ⟨some 66, .load 1 false (.t 65), none, [5]⟩,
  ⟨some 67, .call 95 [.c (.int .i64 5), .c (.int .i64 1), .c (.int .i64 2)], none, []⟩,
  ⟨some 68, .build [.int .i64 0, .nils] [(1, 1, .t 67)], none, []⟩,
  ⟨some 69, .mkrow 69 1 2 [.int .i64 0, .nils] [(0, 2, .t 68)], none, []⟩,
  ⟨some 70, .app 10505 [46, 58, 10505] (.t 66) (.t 69) 2, none, [46, 58, 69, 10505]⟩,
  ⟨some 71, .fad (.t 5) 5, none, [5]⟩,
  ⟨none, .store (.t 71) 1 (.t 70), none, [5]⟩] [2, 5, 8, 62, 63]
theorem r32_27 {C : Cs} {k : List Fr} {s : St} {Q : Post} : run C c32_27 k s Q = run C (.ops [⟨some 65, .fad (.t 5) 5, none, [5]⟩,
  ⟨some 66, .load 1 false (.t 65), none, [5]⟩,
  ⟨some 67, .call 95 [.c (.int .i64 5), .c (.int .i64 1), .c (.int .i64 2)], none, []⟩,
  ⟨some 68, .build [.int .i64 0, .nils] [(1, 1, .t 67)], none, []⟩,
  ⟨some 69, .mkrow 69 1 2 [.int .i64 0, .nils] [(0, 2, .t 68)], none, []⟩,
  ⟨some 70, .app 10505 [46, 58, 10505] (.t 66) (.t 69) 2, none, [46, 58, 69, 10505]⟩,
  ⟨some 71, .fad (.t 5) 5, none, [5]⟩,
  ⟨none, .store (.t 71) 1 (.t 70), none, [5]⟩] [2, 5, 8, 62, 63]) k s Q := rfl
def c32_28 : ACode := .block 2 c32_27
theorem r32_28 {C : Cs} {k : List Fr} {s : St} {Q : Post} : run C c32_28 k s Q = run C (.block 2 c32_27) k s Q := rfl
def c32_29 : ACode := .ops [⟨some 72, .bin .add (.t 63) (.c (.int .i64 1)), none, []⟩,
  ⟨some 63, .mv (.t 72), none, []⟩] [2, 5, 8, 62, 63]
theorem r32_29 {C : Cs} {k : List Fr} {s : St} {Q : Post} : run C c32_29 k s Q = run C (.ops [⟨some 72, .bin .add (.t 63) (.c (.int .i64 1)), none, []⟩,
  ⟨some 63, .mv (.t 72), none, []⟩] [2, 5, 8, 62, 63]) k s Q := rfl
def c32_30 : ACode := .seq c32_28 c32_29
theorem r32_30 {C : Cs} {k : List Fr} {s : St} {Q : Post} : run C c32_30 k s Q = run C (.seq c32_28 c32_29) k s Q := rfl
def c32_31 : ACode := .seq c32_26 c32_30
theorem r32_31 {C : Cs} {k : List Fr} {s : St} {Q : Post} : run C c32_31 k s Q = run C (.seq c32_26 c32_30) k s Q := rfl
def c32_32 : ACode := .seq c32_25 c32_31
theorem r32_32 {C : Cs} {k : List Fr} {s : St} {Q : Post} : run C c32_32 k s Q = run C (.seq c32_25 c32_31) k s Q := rfl
def c32_33 : ACode := .keep [2, 5, 8, 62, 63] [5, 8, 46, 58, 10505] c32_32
theorem r32_33 {C : Cs} {k : List Fr} {s : St} {Q : Post} : run C c32_33 k s Q = run C (.keep [2, 5, 8, 62, 63] [5, 8, 46, 58, 10505] c32_32) k s Q := rfl
def c32_34 : ACode := .loop c32_33
theorem r32_34 {C : Cs} {k : List Fr} {s : St} {Q : Post} : run C c32_34 k s Q = run C (.loop c32_33) k s Q := rfl
def c32_35 : ACode := .block 1 c32_34
theorem r32_35 {C : Cs} {k : List Fr} {s : St} {Q : Post} : run C c32_35 k s Q = run C (.block 1 c32_34) k s Q := rfl
def c32_36 : ACode := .seq c32_24 c32_35
theorem r32_36 {C : Cs} {k : List Fr} {s : St} {Q : Post} : run C c32_36 k s Q = run C (.seq c32_24 c32_35) k s Q := rfl
def c32_37 : ACode := .seq c32_23 c32_36
theorem r32_37 {C : Cs} {k : List Fr} {s : St} {Q : Post} : run C c32_37 k s Q = run C (.seq c32_23 c32_36) k s Q := rfl
def c32_38 : ACode := .ops [⟨some 74, .bin .eql (.t 23) (.c (.int .i64 5)), none, []⟩,
  ⟨some 73, .mv (.t 74), none, []⟩] [2, 5, 6, 8, 23, 73]
theorem r32_38 {C : Cs} {k : List Fr} {s : St} {Q : Post} : run C c32_38 k s Q = run C (.ops [⟨some 74, .bin .eql (.t 23) (.c (.int .i64 5)), none, []⟩,
  ⟨some 73, .mv (.t 74), none, []⟩] [2, 5, 6, 8, 23, 73]) k s Q := rfl
def c32_39 : ACode := .ops [⟨some 75, .bin .eql (.t 23) (.c (.int .i64 6)), none, []⟩,
  ⟨some 73, .mv (.t 75), none, []⟩] [2, 5, 6, 8, 23, 73]
theorem r32_39 {C : Cs} {k : List Fr} {s : St} {Q : Post} : run C c32_39 k s Q = run C (.ops [⟨some 75, .bin .eql (.t 23) (.c (.int .i64 6)), none, []⟩,
  ⟨some 73, .mv (.t 75), none, []⟩] [2, 5, 6, 8, 23, 73]) k s Q := rfl
def c32_40 : ACode := .ops [⟨some 76, .bin .eql (.t 23) (.c (.int .i64 7)), none, []⟩,
  ⟨some 73, .mv (.t 76), none, []⟩] [2, 5, 6, 8, 23, 73]
theorem r32_40 {C : Cs} {k : List Fr} {s : St} {Q : Post} : run C c32_40 k s Q = run C (.ops [⟨some 76, .bin .eql (.t 23) (.c (.int .i64 7)), none, []⟩,
  ⟨some 73, .mv (.t 76), none, []⟩] [2, 5, 6, 8, 23, 73]) k s Q := rfl
def c32_41 : ACode := .ops [⟨some 77, .bin .eql (.t 23) (.c (.int .i64 8)), none, []⟩,
  ⟨some 73, .mv (.t 77), none, []⟩] [2, 5, 6, 8, 73]
theorem r32_41 {C : Cs} {k : List Fr} {s : St} {Q : Post} : run C c32_41 k s Q = run C (.ops [⟨some 77, .bin .eql (.t 23) (.c (.int .i64 8)), none, []⟩,
  ⟨some 73, .mv (.t 77), none, []⟩] [2, 5, 6, 8, 73]) k s Q := rfl
def c32_42 : ACode := .cond (.t 73) .skip c32_41
theorem r32_42 {C : Cs} {k : List Fr} {s : St} {Q : Post} : run C c32_42 k s Q = run C (.cond (.t 73) .skip c32_41) k s Q := rfl
def c32_43 : ACode := .seq c32_40 c32_42
theorem r32_43 {C : Cs} {k : List Fr} {s : St} {Q : Post} : run C c32_43 k s Q = run C (.seq c32_40 c32_42) k s Q := rfl
def c32_44 : ACode := .cond (.t 73) .skip c32_43
theorem r32_44 {C : Cs} {k : List Fr} {s : St} {Q : Post} : run C c32_44 k s Q = run C (.cond (.t 73) .skip c32_43) k s Q := rfl
def c32_45 : ACode := .seq c32_39 c32_44
theorem r32_45 {C : Cs} {k : List Fr} {s : St} {Q : Post} : run C c32_45 k s Q = run C (.seq c32_39 c32_44) k s Q := rfl
def c32_46 : ACode := .cond (.t 73) .skip c32_45
theorem r32_46 {C : Cs} {k : List Fr} {s : St} {Q : Post} : run C c32_46 k s Q = run C (.cond (.t 73) .skip c32_45) k s Q := rfl
def c32_47 : ACode := .seq c32_38 c32_46
theorem r32_47 {C : Cs} {k : List Fr} {s : St} {Q : Post} : run C c32_47 k s Q = run C (.seq c32_38 c32_46) k s Q := rfl
def c32_48 : ACode := .ops [⟨some 78, .load 4 true (.t 6), none, [6]⟩,
  ⟨some 79, .call 45 [.t 78], none, []⟩,
  ⟨none, .store (.t 5) 6 (.t 79), none, [5]⟩] [2, 5, 8]
theorem r32_48 {C : Cs} {k : List Fr} {s : St} {Q : Post} : run C c32_48 k s Q = run C (.ops [⟨some 78, .load 4 true (.t 6), none, [6]⟩,
  ⟨some 79, .call 45 [.t 78], none, []⟩,
  ⟨none, .store (.t 5) 6 (.t 79), none, [5]⟩] [2, 5, 8]) k s Q := rfl
def c32_49 : ACode := .cond (.t 73) c32_48 .skip
theorem r32_49 {C : Cs} {k : List Fr} {s : St} {Q : Post} : run C c32_49 k s Q = run C (.cond (.t 73) c32_48 .skip) k s Q := rfl
def c32_50 : ACode := .seq c32_47 c32_49
theorem r32_50 {C : Cs} {k : List Fr} {s : St} {Q : Post} : run C c32_50 k s Q = run C (.seq c32_47 c32_49) k s Q := rfl
def c32_51 : ACode := .cond (.t 55) c32_37 c32_50
theorem r32_51 {C : Cs} {k : List Fr} {s : St} {Q : Post} : run C c32_51 k s Q = run C (.cond (.t 55) c32_37 c32_50) k s Q := rfl
def c32_52 : ACode := .seq c32_22 c32_51
theorem r32_52 {C : Cs} {k : List Fr} {s : St} {Q : Post} : run C c32_52 k s Q = run C (.seq c32_22 c32_51) k s Q := rfl
def c32_53 : ACode := .cond (.t 43) c32_21 c32_52
theorem r32_53 {C : Cs} {k : List Fr} {s : St} {Q : Post} : run C c32_53 k s Q = run C (.cond (.t 43) c32_21 c32_52) k s Q := rfl
def c32_54 : ACode := .seq c32_18 c32_53
theorem r32_54 {C : Cs} {k : List Fr} {s : St} {Q : Post} : run C c32_54 k s Q = run C (.seq c32_18 c32_53) k s Q := rfl
def c32_55 : ACode := .cond (.t 36) c32_17 c32_54
theorem r32_55 {C : Cs} {k : List Fr} {s : St} {Q : Post} : run C c32_55 k s Q = run C (.cond (.t 36) c32_17 c32_54) k s Q := rfl
def c32_56 : ACode := .seq c32_14 c32_55
theorem r32_56 {C : Cs} {k : List Fr} {s : St} {Q : Post} : run C c32_56 k s Q = run C (.seq c32_14 c32_55) k s Q := rfl
def c32_57 : ACode := .cond (.t 30) c32_13 c32_56
theorem r32_57 {C : Cs} {k : List Fr} {s : St} {Q : Post} : run C c32_57 k s Q = run C (.cond (.t 30) c32_13 c32_56) k s Q := rfl
def c32_58 : ACode := .seq c32_10 c32_57
theorem r32_58 {C : Cs} {k : List Fr} {s : St} {Q : Post} : run C c32_58 k s Q = run C (.seq c32_10 c32_57) k s Q := rfl
def c32_59 : ACode := .cond (.t 24) c32_9 c32_58
theorem r32_59 {C : Cs} {k : List Fr} {s : St} {Q : Post} : run C c32_59 k s Q = run C (.cond (.t 24) c32_9 c32_58) k s Q := rfl
def c32_60 : ACode := .seq c32_6 c32_59
theorem r32_60 {C : Cs} {k : List Fr} {s : St} {Q : Post} : run C c32_60 k s Q = run C (.seq c32_6 c32_59) k s Q := rfl
def c32_61 : ACode := .block 0 c32_60
theorem r32_61 {C : Cs} {k : List Fr} {s : St} {Q : Post} : run C c32_61 k s Q = run C (.block 0 c32_60) k s Q := rfl
def c32_62 : ACode := .seq c32_5 c32_61
theorem r32_62 {C : Cs} {k : List Fr} {s : St} {Q : Post} : run C c32_62 k s Q = run C (.seq c32_5 c32_61) k s Q := rfl
def c32_63 : ACode := .ops [⟨some 11, .mv (.c (.int .i64 0)), none, []⟩] [2, 5, 8, 11]
theorem r32_63 {C : Cs} {k : List Fr} {s : St} {Q : Post} : run C c32_63 k s Q = run C (.ops [⟨some 11, .mv (.c (.int .i64 0)), none, []⟩] [2, 5, 8, 11]) k s Q := rfl
def c32_64 : ACode := .ops [⟨some 80, .fad (.t 5) 5, none, [5]⟩,
  ⟨some 81, .load 1 false (.t 80), none, [5]⟩,
  ⟨some 82, .len (.t 81), none, [46, 58, 10505]⟩,
  ⟨some 83, .mv (.c (.int .i64 0)), none, []⟩] [2, 5, 8, 11, 81, 82, 83]
theorem r32_64 {C : Cs} {k : List Fr} {s : St} {Q : Post} : run C c32_64 k s Q = run C (.ops [⟨some 80, .fad (.t 5) 5, none, [5]⟩,
  ⟨some 81, .load 1 false (.t 80), none, [5]⟩,
  ⟨some 82, .len (.t 81), none, [46, 58, 10505]⟩,
  ⟨some 83, .mv (.c (.int .i64 0)), none, []⟩] [2, 5, 8, 11, 81, 82, 83]) k s Q := rfl
def c32_65 : ACode := .ops [⟨some 84, .bin .lss (.t 83) (.t 82), none, []⟩] [2, 5, 8, 11, 81, 82, 83, 84]
theorem r32_65 {C : Cs} {k : List Fr} {s : St} {Q : Post} : run C c32_65 k s Q = run C (.ops [⟨some 84, .bin .lss (.t 83) (.t 82), none, []⟩] [2, 5, 8, 11, 81, 82, 83, 84]) k s Q := rfl
def c32_66 : ACode := .cond (.t 84) .skip (.exit 3)
theorem r32_66 {C : Cs} {k : List Fr} {s : St} {Q : Post} : run C c32_66 k s Q = run C (.cond (.t 84) .skip (.exit 3)) k s Q := rfl
def c32_67 : ACode := .ops [⟨some 85, .ias (.t 81) (.t 83) 2, none, [46, 58, 10505]⟩,
  ⟨some 86, .load 2 true (.t 85), none, [46, 58, 10505]⟩,
  ⟨some 13, .alloc [.int .i64 0, .nils], none, []⟩,
  ⟨none, .store (.t 13) 2 (.t 86), none, [13]⟩] [2, 5, 8, 11, 13, 81, 82, 83]
theorem r32_67 {C : Cs} {k : List Fr} {s : St} {Q : Post} : run C c32_67 k s Q = run C (.ops [⟨some 85, .ias (.t 81) (.t 83) 2, none, [46, 58, 10505]⟩,
  ⟨some 86, .load 2 true (.t 85), none, [46, 58, 10505]⟩,
  ⟨some 13, .alloc [.int .i64 0, .nils], none, []⟩,
  ⟨none, .store (.t 13) 2 (.t 86), none, [13]⟩] [2, 5, 8, 11, 13, 81, 82, 83]) k s Q := rfl
def c32_68 : ACode := .ops [⟨some 87, .mv (.t 11), none, []⟩,
  ⟨some 88, .fad (.t 13) 1, none, [13]⟩,
  ⟨some 89, .load 1 false (.t 88), none, [13]⟩,
  ⟨some 90, .len (.t 89), none, []⟩,
  ⟨some 91, .bin .add (.t 87) (.t 90), none, []⟩,
  ⟨some 11, .mv (.t 91), none, []⟩] [2, 5, 8, 11, 81, 82, 83]
theorem r32_68 {C : Cs} {k : List Fr} {s : St} {Q : Post} : run C c32_68 k s Q = run C (.ops [⟨some 87, .mv (.t 11), none, []⟩,
  ⟨some 88, .fad (.t 13) 1, none, [13]⟩,
  ⟨some 89, .load 1 false (.t 88), none, [13]⟩,
  ⟨some 90, .len (.t 89), none, []⟩,
  ⟨some 91, .bin .add (.t 87) (.t 90), none, []⟩,
  ⟨some 11, .mv (.t 91), none, []⟩] [2, 5, 8, 11, 81, 82, 83]) k s Q := rfl
def c32_69 : ACode := .seq c32_67 c32_68
theorem r32_69 {C : Cs} {k : List Fr} {s : St} {Q : Post} : run C c32_69 k s Q = run C (.seq c32_67 c32_68) k s Q := rfl
def c32_70 : ACode := .block 4 c32_69
theorem r32_70 {C : Cs} {k : List Fr} {s : St} {Q : Post} : run C c32_70 k s Q = run C (.block 4 c32_69) k s Q := rfl
def c32_71 : ACode := .ops [⟨some 92, .bin .add (.t 83) (.c (.int .i64 1)), none, []⟩,
  ⟨some 83, .mv (.t 92), none, []⟩] [2, 5, 8, 11, 81, 82, 83]
theorem r32_71 {C : Cs} {k : List Fr} {s : St} {Q : Post} : run C c32_71 k s Q = run C (.ops [⟨some 92, .bin .add (.t 83) (.c (.int .i64 1)), none, []⟩,
  ⟨some 83, .mv (.t 92), none, []⟩] [2, 5, 8, 11, 81, 82, 83]) k s Q := rfl
def c32_72 : ACode := .seq c32_70 c32_71
theorem r32_72 {C : Cs} {k : List Fr} {s : St} {Q : Post} : run C c32_72 k s Q = run C (.seq c32_70 c32_71) k s Q := rfl
def c32_73 : ACode := .seq c32_66 c32_72
theorem r32_73 {C : Cs} {k : List Fr} {s : St} {Q : Post} : run C c32_73 k s Q = run C (.seq c32_66 c32_72) k s Q := rfl
def c32_74 : ACode := .seq c32_65 c32_73
theorem r32_74 {C : Cs} {k : List Fr} {s : St} {Q : Post} : run C c32_74 k s Q = run C (.seq c32_65 c32_73) k s Q := rfl
def c32_75 : ACode := .keep [2, 5, 8, 11, 81, 82, 83] [5, 8, 46, 58, 10505] c32_74
theorem r32_75 {C : Cs} {k : List Fr} {s : St} {Q : Post} : run C c32_75 k s Q = run C (.keep [2, 5, 8, 11, 81, 82, 83] [5, 8, 46, 58, 10505] c32_74) k s Q := rfl
def c32_76 : ACode := .loop c32_75
theorem r32_76 {C : Cs} {k : List Fr} {s : St} {Q : Post} : run C c32_76 k s Q = run C (.loop c32_75) k s Q := rfl
def c32_77 : ACode := .block 3 c32_76
theorem r32_77 {C : Cs} {k : List Fr} {s : St} {Q : Post} : run C c32_77 k s Q = run C (.block 3 c32_76) k s Q := rfl
def c32_78 : ACode := .seq c32_64 c32_77
theorem r32_78 {C : Cs} {k : List Fr} {s : St} {Q : Post} : run C c32_78 k s Q = run C (.seq c32_64 c32_77) k s Q := rfl
def c32_79 : ACode := .ops [⟨some 93, .load 6 true (.t 5), none, [5]⟩,
  ⟨some 94, .call 71 [.t 93], none, [46, 58, 10505]⟩,
  ⟨some 95, .load 6 true (.t 5), none, [5]⟩,
  ⟨some 96, .call 97 [.t 95], none, [46, 58, 10505]⟩,
  ⟨some 97, .eqb false (.t 94) (.t 96), none, []⟩,
  ⟨some 98, .mv (.t 97), none, []⟩,
  ⟨some 99, .load 6 true (.t 5), some (98, true), [5]⟩,
  ⟨some 100, .mv (.t 2), some (98, true), []⟩,
  ⟨some 101, .load 4 true (.t 8), some (98, true), [8]⟩,
  ⟨some 102, .call 69 [.t 99, .t 100, .t 101], some (98, true), [46, 58, 10505]⟩,
  ⟨some 103, .load 6 true (.t 5), some (98, true), [5]⟩,
  ⟨some 104, .mv (.t 2), some (98, true), []⟩,
  ⟨some 105, .load 4 true (.t 8), some (98, true), [8]⟩,
  ⟨some 106, .call 98 [.t 103, .t 104, .t 105], some (98, true), [46, 58, 10505]⟩,
  ⟨some 107, .bin .eql (.t 102) (.t 106), some (98, true), []⟩,
  ⟨some 108, .pick (.t 98) (.t 107) (.c (.bool false)), none, []⟩,
  ⟨some 109, .mv (.t 108), none, []⟩,
  ⟨some 110, .load 6 true (.t 5), some (109, true), [5]⟩,
  ⟨some 111, .call 72 [.t 110], some (109, true), [46, 58, 10505]⟩,
  ⟨some 112, .mv (.t 11), some (109, true), []⟩,
  ⟨some 113, .bin .eql (.t 111) (.t 112), some (109, true), []⟩,
  ⟨some 114, .pick (.t 109) (.t 113) (.c (.bool false)), none, []⟩,
  ⟨some 115, .mv (.t 114), none, []⟩,
  ⟨some 116, .call 31 [], some (115, true), []⟩,
  ⟨some 117, .pick (.t 115) (.t 116) (.c (.bool false)), none, []⟩,
  ⟨some 10, .mv (.t 117), none, []⟩] [10]
theorem r32_79 {C : Cs} {k : List Fr} {s : St} {Q : Post} : run C c32_79 k s Q = run C (.ops [⟨some 93, .load 6 true (.t 5), none, [5]⟩,
  ⟨some 94, .call 71 [.t 93], none, [46, 58, 10505]⟩,
  ⟨some 95, .load 6 true (.t 5), none, [5]⟩,
  ⟨some 96, .call 97 [.t 95], none, [46, 58, 10505]⟩,
  ⟨some 97, .eqb false (.t 94) (.t 96), none, []⟩,
  ⟨some 98, .mv (.t 97), none, []⟩,
  ⟨some 99, .load 6 true (.t 5), some (98, true), [5]⟩,
  ⟨some 100, .mv (.t 2), some (98, true), []⟩,
  ⟨some 101, .load 4 true (.t 8), some (98, true), [8]⟩,
  ⟨some 102, .call 69 [.t 99, .t 100, .t 101], some (98, true), [46, 58, 10505]⟩,
  ⟨some 103, .load 6 true (.t 5), some (98, true), [5]⟩,
  ⟨some 104, .mv (.t 2), some (98, true), []⟩,
  ⟨some 105, .load 4 true (.t 8), some (98, true), [8]⟩,
  ⟨some 106, .call 98 [.t 103, .t 104, .t 105], some (98, true), [46, 58, 10505]⟩,
  ⟨some 107, .bin .eql (.t 102) (.t 106), some (98, true), []⟩,
  ⟨some 108, .pick (.t 98) (.t 107) (.c (.bool false)), none, []⟩,
  ⟨some 109, .mv (.t 108), none, []⟩,
  ⟨some 110, .load 6 true (.t 5), some (109, true), [5]⟩,
  ⟨some 111, .call 72 [.t 110], some (109, true), [46, 58, 10505]⟩,
  ⟨some 112, .mv (.t 11), some (109, true), []⟩,
  ⟨some 113, .bin .eql (.t 111) (.t 112), some (109, true), []⟩,
  ⟨some 114, .pick (.t 109) (.t 113) (.c (.bool false)), none, []⟩,
  ⟨some 115, .mv (.t 114), none, []⟩,
  ⟨some 116, .call 31 [], some (115, true), []⟩,
  ⟨some 117, .pick (.t 115) (.t 116) (.c (.bool false)), none, []⟩,
  ⟨some 10, .mv (.t 117), none, []⟩] [10]) k s Q := rfl
def c32_80 : ACode := .seq c32_79 .ret
theorem r32_80 {C : Cs} {k : List Fr} {s : St} {Q : Post} : run C c32_80 k s Q = run C (.seq c32_79 .ret) k s Q := rfl
def c32_81 : ACode := .seq c32_78 c32_80
theorem r32_81 {C : Cs} {k : List Fr} {s : St} {Q : Post} : run C c32_81 k s Q = run C (.seq c32_78 c32_80) k s Q := rfl
def c32_82 : ACode := .seq c32_63 c32_81
theorem r32_82 {C : Cs} {k : List Fr} {s : St} {Q : Post} : run C c32_82 k s Q = run C (.seq c32_63 c32_81) k s Q := rfl
def c32_83 : ACode := .seq c32_62 c32_82
theorem r32_83 {C : Cs} {k : List Fr} {s : St} {Q : Post} : run C c32_83 k s Q = run C (.seq c32_62 c32_82) k s Q := rfl
def c32_84 : ACode := .seq c32_4 c32_83
theorem r32_84 {C : Cs} {k : List Fr} {s : St} {Q : Post} : run C c32_84 k s Q = run C (.seq c32_4 c32_83) k s Q := rfl
def c32_85 : ACode := .seq c32_0 c32_84
theorem r32_85 {C : Cs} {k : List Fr} {s : St} {Q : Post} : run C c32_85 k s Q = run C (.seq c32_0 c32_84) k s Q := rfl
def a32 : AFun := ⟨5, 118, c32_85, [.t 10]⟩
attribute [simp] r32_0 r32_1 r32_2 r32_3 r32_4 r32_5 r32_6 r32_7 r32_8 r32_9 r32_10 r32_11 r32_12 r32_13 r32_14 r32_15 r32_16 r32_17 r32_18 r32_19 r32_20 r32_21 r32_22 r32_23 r32_24 r32_25 r32_26 r32_27 r32_28 r32_29 r32_30 r32_31 r32_32 r32_33 r32_34 r32_35 r32_36 r32_37 r32_38 r32_39 r32_40 r32_41 r32_42 r32_43 r32_44 r32_45 r32_46 r32_47 r32_48 r32_49 r32_50 r32_51 r32_52 r32_53 r32_54 r32_55 r32_56 r32_57 r32_58 r32_59 r32_60 r32_61 r32_62 r32_63 r32_64 r32_65 r32_66 r32_67 r32_68 r32_69 r32_70 r32_71 r32_72 r32_73 r32_74 r32_75 r32_76 r32_77 r32_78 r32_79 r32_80 r32_81 r32_82 r32_83 r32_84 r32_85
theorem m32 : mFun Try.prog Try.f32 a32 = true := by decide +kernel

/- copse/copselaw8.ModelRuns -/
def c31_0 : ACode := .ops [⟨some 0, .mv (.c (.bool false)), none, []⟩] []
def c31_1 : ACode := .ops [⟨some 2, .build [.int .i64 0, .int .i64 0, .int .i64 0] [(0, 1, .c (.int .i64 3))], none, []⟩,
  ⟨some 3, .call 95 [.c (.int .i64 5), .c (.int .i64 10), .c (.int .i64 20)], none, []⟩,
  ⟨some 4, .build [.int .i64 0, .nils] [(1, 1, .t 3)], none, []⟩,
  ⟨some 5, .mkrow 5 1 2 [.int .i64 0, .nils] [(0, 2, .t 4)], none, []⟩,
  ⟨some 6, .build [.int .i64 0, .int .i64 0, .int .i64 0, .int .i64 0, .int .i64 0, .nils] [(0, 1, .c (.int .i64 1)), (1, 1, .c (.int .i64 1)), (2, 3, .t 2), (5, 1, .t 5)], none, []⟩,
  ⟨some 1, .alloc [.int .i64 0, .int .i64 0, .int .i64 0, .int .i64 0, .int .i64 0, .nils], none, []⟩,
  ⟨none, .store (.t 1) 6 (.t 6), none, [1]⟩] [1]
def c31_2 : ACode := .ops [⟨some 7, .load 6 true (.t 1), none, [1]⟩,
  ⟨some 8, .call 71 [.t 7], none, [5]⟩,
  ⟨some 9, .mv (.t 8), none, []⟩,
  ⟨some 10, .load 6 true (.t 1), some (9, true), [1]⟩,
  ⟨some 11, .build [.int .i64 0, .int .i64 0, .int .i64 0, .int .i64 0] [(0, 1, .c (.int .i64 5))], some (9, true), []⟩,
  ⟨some 12, .call 69 [.t 10, .c (.int .i64 0), .t 11], some (9, true), [5]⟩,
  ⟨some 13, .bin .eql (.t 12) (.c (.int .i64 13)), some (9, true), []⟩,
  ⟨some 14, .pick (.t 9) (.t 13) (.c (.bool false)), none, []⟩,
  ⟨some 15, .mv (.t 14), none, []⟩,
  ⟨some 16, .load 6 true (.t 1), some (15, true), [1]⟩,
  ⟨some 17, .build [.int .i64 0, .int .i64 0, .int .i64 0, .int .i64 0] [(0, 1, .c (.int .i64 6))], some (15, true), []⟩,
  ⟨some 18, .call 69 [.t 16, .c (.int .i64 0), .t 17], some (15, true), [5]⟩,
  ⟨some 19, .bin .eql (.t 18) (.c (.int .i64 23)), some (15, true), []⟩,
  ⟨some 20, .pick (.t 15) (.t 19) (.c (.bool false)), none, []⟩,
  ⟨some 21, .mv (.t 20), none, []⟩,
  ⟨some 22, .load 6 true (.t 1), some (21, true), [1]⟩,
  ⟨some 23, .call 96 [.t 22, .c (.int .i64 0)], some (21, true), [5]⟩,
  ⟨some 24, .mkrow 24 1 1 [.int .i64 0] [(0, 1, .c (.int .i64 5))], some (21, true), []⟩,
  ⟨some 25, .call 83 [.t 23, .t 24], some (21, true), [24]⟩,
  ⟨some 26, .pick (.t 21) (.t 25) (.c (.bool false)), none, []⟩,
  ⟨some 27, .mv (.t 26), none, []⟩,
  ⟨some 28, .load 6 true (.t 1), some (27, true), [1]⟩,
  ⟨some 29, .call 72 [.t 28], some (27, true), [5]⟩,
  ⟨some 30, .bin .eql (.t 29) (.c (.int .i64 3)), some (27, true), []⟩,
  ⟨some 31, .pick (.t 27) (.t 30) (.c (.bool false)), none, []⟩,
  ⟨some 32, .mv (.t 31), none, []⟩,
  ⟨some 33, .load 6 true (.t 1), some (32, true), [1]⟩,
  ⟨some 34, .build [.int .i64 0, .int .i64 0, .int .i64 0, .int .i64 0] [], some (32, true), []⟩,
  ⟨some 35, .call 78 [.t 33, .t 34], some (32, true), [5]⟩,
  ⟨some 36, .bin .eql (.t 35) (.c (.int .i64 0)), some (32, true), []⟩,
  ⟨some 37, .pick (.t 32) (.t 36) (.c (.bool false)), none, []⟩,
  ⟨some 0, .mv (.t 37), none, []⟩] [0]
def c31_3 : ACode := .seq c31_2 .ret
def c31_4 : ACode := .seq c31_1 c31_3
def c31_5 : ACode := .seq c31_0 c31_4
def a31 : AFun := ⟨0, 38, c31_5, [.t 0]⟩
theorem m31 : mFun Try.prog Try.f31 a31 = true := by decide +kernel
/- copse/copsebook.Same[int] -/
def c83_0 : ACode := .ops [⟨some 4, .mv (.c (.bool false)), none, []⟩] [0, 1]
def c83_1 : ACode := .ops [⟨some 6, .mv (.t 0), none, []⟩,
  ⟨some 7, .len (.t 6), none, []⟩,
  ⟨some 8, .mv (.t 1), none, []⟩,
  ⟨some 9, .len (.t 8), none, []⟩,
  ⟨some 10, .bin .neq (.t 7) (.t 9), none, []⟩] [0, 1, 10]
def c83_2 : ACode := .ops [⟨some 4, .mv (.c (.bool false)), none, []⟩] [4]
def c83_3 : ACode := .seq c83_2 .ret
def c83_4 : ACode := .cond (.t 10) c83_3 .skip
def c83_5 : ACode := .seq c83_1 c83_4
def c83_6 : ACode := .ops [⟨some 5, .mv (.c (.int .i64 0)), none, []⟩] [0, 1, 5]
def c83_7 : ACode := .ops [⟨some 11, .mv (.t 5), none, []⟩,
  ⟨some 12, .mv (.t 0), none, []⟩,
  ⟨some 13, .len (.t 12), none, []⟩,
  ⟨some 14, .bin .lss (.t 11) (.t 13), none, []⟩] [0, 1, 5, 14]
def c83_8 : ACode := .cond (.t 14) .skip (.exit 0)
def c83_9 : ACode := .seq c83_7 c83_8
def c83_10 : ACode := .ops [⟨some 17, .mv (.t 0), none, []⟩,
  ⟨some 18, .mv (.t 5), none, []⟩,
  ⟨some 19, .ias (.t 17) (.t 18) 1, none, []⟩,
  ⟨some 20, .load 1 false (.t 19), none, []⟩,
  ⟨some 21, .mv (.t 1), none, []⟩,
  ⟨some 22, .mv (.t 5), none, []⟩,
  ⟨some 23, .ias (.t 21) (.t 22) 1, none, []⟩,
  ⟨some 24, .load 1 false (.t 23), none, []⟩,
  ⟨some 25, .bin .neq (.t 20) (.t 24), none, []⟩] [0, 1, 5, 25]
def c83_11 : ACode := .ops [⟨some 4, .mv (.c (.bool false)), none, []⟩] [4]
def c83_12 : ACode := .seq c83_11 .ret
def c83_13 : ACode := .cond (.t 25) c83_12 .skip
def c83_14 : ACode := .seq c83_10 c83_13
def c83_15 : ACode := .block 1 c83_14
def c83_16 : ACode := .ops [⟨some 15, .mv (.t 5), none, []⟩,
  ⟨some 16, .bin .add (.t 15) (.c (.int .i64 1)), none, []⟩,
  ⟨some 5, .mv (.t 16), none, []⟩] [0, 1, 5]
def c83_17 : ACode := .seq c83_15 c83_16
def c83_18 : ACode := .seq c83_9 c83_17
def c83_19 : ACode := .keep [0, 1, 5] [] c83_18
def c83_20 : ACode := .loop c83_19
def c83_21 : ACode := .block 0 c83_20
def c83_22 : ACode := .seq c83_6 c83_21
def c83_23 : ACode := .ops [⟨some 4, .mv (.c (.bool true)), none, []⟩] [4]
def c83_24 : ACode := .seq c83_23 .ret
def c83_25 : ACode := .seq c83_22 c83_24
def c83_26 : ACode := .seq c83_5 c83_25
def c83_27 : ACode := .seq c83_0 c83_26
def a83 : AFun := ⟨2, 26, c83_27, [.t 4]⟩
theorem m83 : mFun Try.prog Try.f83 a83 = true := by decide +kernel
def texts31 : List (Nat × AFun) := [(31, a31), (69, a69), (71, a71), (72, a72), (76, a76), (77, a77), (78, a78), (83, a83), (95, a95), (96, a96), (99, a99), (111, a111), (119, a119), (122, a122), (123, a123), (124, a124), (125, a125), (128, a128), (129, a129), (130, a130), (131, a131), (148, a148), (156, a156), (160, a160), (161, a161), (162, a162), (163, a163), (164, a164), (165, a165), (176, a176)]
theorem texts31_good : Go.Am.Good Try.prog texts31 :=
  good_cons Try.func31 m31 <| good_cons Try.func69 m69 <| good_cons Try.func71 m71 <| good_cons Try.func72 m72 <| good_cons Try.func76 m76 <| good_cons Try.func77 m77 <| good_cons Try.func78 m78 <| good_cons Try.func83 m83 <| good_cons Try.func95 m95 <| good_cons Try.func96 m96 <| good_cons Try.func99 m99 <| good_cons Try.func111 m111 <| good_cons Try.func119 m119 <| good_cons Try.func122 m122 <| good_cons Try.func123 m123 <| good_cons Try.func124 m124 <| good_cons Try.func125 m125 <| good_cons Try.func128 m128 <| good_cons Try.func129 m129 <| good_cons Try.func130 m130 <| good_cons Try.func131 m131 <| good_cons Try.func148 m148 <| good_cons Try.func156 m156 <| good_cons Try.func160 m160 <| good_cons Try.func161 m161 <| good_cons Try.func162 m162 <| good_cons Try.func163 m163 <| good_cons Try.func164 m164 <| good_cons Try.func165 m165 <| good_cons Try.func176 m176 <| good_nil
theorem c_closed31 : Contract Try.prog 31 (sp0 (some true)) := contract_closedG mixed texts31_good lib (NW := fun f => if f = 96 then some 5 else if f = 127 then some 10001 else none) (m := 2000) (n := 80) (by decide +kernel)


def threeL (at_ a b : Int) : List Word := [pack ⟨false, 0, 0, at_, 1, 2⟩, pack ⟨true, a, 0, 0, 0, 0⟩, pack ⟨true, b, 0, 0, 0, 0⟩]
theorem runs_three (at_ a b : Int) (r : List Word) (h : some (threeL at_ a b) = some r) : Runs (tbl [(111, sp1 fun n => some (pack n))]) a95 [Arg.enc at_, Arg.enc a, Arg.enc b] (Arg.enc r) := by
  cases h
  refine ⟨rfl, fun g => run_def ?_⟩
  unfold a95
  simp -implicitDefEqProofs [threeL]
  rfl
theorem c_three : Contract Try.prog 95 (sp3 fun (x y z : Int) => some (threeL x y z)) :=
  contract_of_runs mixed (tbl_cons c_rPack tbl_nil) Try.func95 m95 (sp3_runs runs_three)
theorem threeL_ok (x y z : Int) : okL (threeL x y z) ∧ (threeL x y z).length ≤ maxN := by
  refine ⟨fun w hw => ?_, by unfold maxN; simp [threeL]⟩
  unfold threeL at hw
  simp only [List.mem_cons, List.not_mem_nil, or_false] at hw
  rcases hw with rfl | rfl | rfl <;> exact pack_okW _

/-- how many nodes, as the machine counts -/
def lenW (n : Int) (t : Tree) : Int := IntKind.i64.wrap (n + (t.nodes.length : Int))
noncomputable def SizeW (m : Model) : Option Int := Part (okMW m) (m.trees.foldl lenW 0)
set_option maxHeartbeats 1000000 in
theorem runs_SizeW (m : Model) (r : Int) (h : SizeW m = some r) : Runs (tbl []) a72 [Arg.enc m] (Arg.enc r) := by
  obtain ⟨⟨b3, ht⟩, rfl⟩ := part_some h
  clear h
  refine ⟨rfl, fun g => run_def ?_⟩
  unfold a72
  simp -implicitDefEqProofs [b3]
  refine run_while (c := c72_12) (fun n s => ∃ (i : Nat) (g : Nat → Nat), i + n = m.trees.length ∧ s = ⟨[(3, .int .i64 ((m.trees.take i).foldl lenW 0)), (7, .lst m.trees.length (encL m.trees)), (8, .int .i64 m.trees.length), (9, .int .i64 i)], [], g⟩) m.trees.length ⟨0, bump 1 g, by omega, by simp⟩ ?_
  rintro n s ⟨i, g, hi, rfl⟩
  by_cases h1 : i < m.trees.length
  case pos =>
    have hmx : m.trees.length ≤ 9223372036854775807 := b3
    have w1 : IntKind.i64.wrap ((i : Int) + 1) = (i : Int) + 1 := wrap64 (by omega) (by omega)
    have hrow := rd_tree m.trees i h1
    have hn : m.trees[i].nodes.length ≤ maxN := (ht _ (List.getElem_mem h1)).2
    have hs : (m.trees.take (i + 1)).foldl lenW 0 = IntKind.i64.wrap ((m.trees.take i).foldl lenW 0 + (m.trees[i].nodes.length : Int)) := by
      rw [List.take_succ_eq_append_getElem h1, List.foldl_append]
      rfl
    simp -implicitDefEqProofs [h1, hrow, hn, w1]
    exact ⟨n - 1, by omega, i + 1, by omega, hs.symm, by omega⟩
  case neg =>
    have hil : i = m.trees.length := by omega
    subst hil
    simp -implicitDefEqProofs [h1]
theorem c_SizeW : Contract Try.prog 72 (sp1 SizeW) :=
  contract_of_runs mixed tbl_nil Try.func72 m72 (sp1_runs runs_SizeW)

noncomputable abbrev TT : Cs := tbl [(63, sp3 Within), (45, sp1 ModelC), (1000000 + 45, gspec modelG), (95, sp3 fun (x y z : Int) => some (threeL x y z)), (71, sp1 MRightT), (97, sp1 MRightT), (69, sp3 EvalT), (98, sp3 EvalT), (72, sp1 SizeW), (31, sp0 (some true))]
theorem okMW_dim {m : Model} (h : okMW m) (a b : Int) (c : Bias) : okMW ⟨a, b, c, m.trees⟩ := h

set_option maxHeartbeats 8000000 in
set_option maxRecDepth 8000 in
theorem tail_run (M : Model) (hw : okMW M) (cl : Int) (p : Point) (V : AV) (hx h : Hp) (g : Nat → Nat) (hV : (V = .lst M.trees.length (encL M.trees) ∧ hx = []) ∨ (V = .own 10505 (g 10505) 0 M.trees.length ∧ hx = [(10505, ⟨encL M.trees, false, 2⟩)]))
    (h5 : hlook h 5 = some ⟨[.int .i64 M.dim, .int .i64 M.classes, .int .i64 M.bias.b0, .int .i64 M.bias.b1, .int .i64 M.bias.b2, V], false, 0⟩) (hO : hlook h 10505 = hlook hx 10505)
    (hk : keepH h [5, 8, 46, 58, 10505] = (5, ⟨[.int .i64 M.dim, .int .i64 M.classes, .int .i64 M.bias.b0, .int .i64 M.bias.b1, .int .i64 M.bias.b2, V], false, 0⟩) :: (8, ⟨Row.enc p, false, 0⟩) :: hx) :
    run TT c32_82 [] ⟨[(2, .int .i64 cl), (5, .ptr 5 (g 5) 0), (8, .ptr 8 (g 8) 0)], h, g⟩ (fin [ARes.t 10] (.bool true)) := by
  have b3 := hw.1
  have hmx : M.trees.length ≤ 9223372036854775807 := b3
  have hR : MRightT M = some (rightM M) := part_of hw _
  have hE : EvalT M cl p = some (if rightM M then evalX M cl p else 0) := part_of hw _
  have hS : SizeW M = some (M.trees.foldl lenW 0) := part_of hw _
  have c1 : M.trees.length * 2 ≤ (encL M.trees).length := by rw [encL_length]; simp
  have htk : List.take (M.trees.length * 2) (encL M.trees) = encL M.trees := take_rows _ _ (by simp)
  have step : ∀ (k : List Fr), True := fun _ => trivial
  rcases hV with ⟨rfl, rfl⟩ | ⟨rfl, rfl⟩
  · simp -implicitDefEqProofs [h5, b3]
    refine run_while (c := c32_74) (fun n s => ∃ (i : Nat) (g : Nat → Nat), i + n = M.trees.length ∧ s = ⟨[(2, .int .i64 cl), (5, .ptr 5 (g 5) 0), (8, .ptr 8 (g 8) 0), (11, .int .i64 ((M.trees.take i).foldl lenW 0)), (81, .lst M.trees.length (encL M.trees)), (82, .int .i64 M.trees.length), (83, .int .i64 i)], [(5, ⟨[.int .i64 M.dim, .int .i64 M.classes, .int .i64 M.bias.b0, .int .i64 M.bias.b1, .int .i64 M.bias.b2, .lst M.trees.length (encL M.trees)], false, 0⟩), (8, ⟨Row.enc p, false, 0⟩)], g⟩) M.trees.length ⟨0, g, by omega, by simp only [hk]; simp⟩ ?_
    rintro n s ⟨i, g, hi, rfl⟩
    by_cases h1 : i < M.trees.length
    case pos =>
      have w1 : IntKind.i64.wrap ((i : Int) + 1) = (i : Int) + 1 := wrap64 (by omega) (by omega)
      have hrow := rd_tree M.trees i h1
      have hn : M.trees[i].nodes.length ≤ maxN := (hw.2 _ (List.getElem_mem h1)).2
      have hs : (M.trees.take (i + 1)).foldl lenW 0 = IntKind.i64.wrap ((M.trees.take i).foldl lenW 0 + (M.trees[i].nodes.length : Int)) := by
        rw [List.take_succ_eq_append_getElem h1, List.foldl_append]
        rfl
      simp -implicitDefEqProofs [h1, hrow, hn, w1]
      exact ⟨n - 1, by omega, i + 1, by omega, hs.symm, by omega⟩
    case neg =>
      have hil : i = M.trees.length := by omega
      subst hil
      simp -implicitDefEqProofs [h1, hR, hE, hS]
  · have hO2 : hlook h 10505 = some ⟨encL M.trees, false, 2⟩ := by simpa using hO
    simp -implicitDefEqProofs [h5, hO2, b3]
    refine run_while (c := c32_74) (fun n s => ∃ (i : Nat) (g : Nat → Nat), i + n = M.trees.length ∧ s = ⟨[(2, .int .i64 cl), (5, .ptr 5 (g 5) 0), (8, .ptr 8 (g 8) 0), (11, .int .i64 ((M.trees.take i).foldl lenW 0)), (81, .own 10505 (g 10505) 0 M.trees.length), (82, .int .i64 M.trees.length), (83, .int .i64 i)], [(5, ⟨[.int .i64 M.dim, .int .i64 M.classes, .int .i64 M.bias.b0, .int .i64 M.bias.b1, .int .i64 M.bias.b2, .own 10505 (g 10505) 0 M.trees.length], false, 0⟩), (8, ⟨Row.enc p, false, 0⟩), (10505, ⟨encL M.trees, false, 2⟩)], g⟩) M.trees.length ⟨0, g, by omega, by simp only [hk]; simp⟩ ?_
    rintro n s ⟨i, g, hi, rfl⟩
    by_cases h1 : i < M.trees.length
    case pos =>
      have w1 : IntKind.i64.wrap ((i : Int) + 1) = (i : Int) + 1 := wrap64 (by omega) (by omega)
      have hrow := rd_tree M.trees i h1
      have hn : M.trees[i].nodes.length ≤ maxN := (hw.2 _ (List.getElem_mem h1)).2
      have hs : (M.trees.take (i + 1)).foldl lenW 0 = IntKind.i64.wrap ((M.trees.take i).foldl lenW 0 + (M.trees[i].nodes.length : Int)) := by
        rw [List.take_succ_eq_append_getElem h1, List.foldl_append]
        rfl
      simp -implicitDefEqProofs [h1, hrow, hn, w1]
      exact ⟨n - 1, by omega, i + 1, by omega, hs.symm, by omega⟩
    case neg =>
      have hil : i = M.trees.length := by omega
      subst hil
      simp -implicitDefEqProofs [h1, hR, hE, hS, c1, htk, -Go.Am.pure1, pure1_own, pure1_nils, pure1_int, pure1_bool, pure1_lst]

theorem within_10 {n : Int} : within n 0 9 = 0 ∨ within n 0 9 = 1 ∨ within n 0 9 = 2 ∨ within n 0 9 = 3 ∨ within n 0 9 = 4 ∨ within n 0 9 = 5 ∨ within n 0 9 = 6 ∨ within n 0 9 = 7 ∨ within n 0 9 = 8 ∨ within n 0 9 = 9 := by
  have := within_le n 0 9 (by omega)
  omega
theorem okMW_add {m : Model} (h : okMW m) (hl : m.trees.length ≤ 100) {t : Tree} (ht : okTW t) : okMW ⟨m.dim, m.classes, m.bias, m.trees ++ [t]⟩ := by
  refine ⟨by unfold maxN; simp; omega, fun x hx => ?_⟩
  simp only [List.mem_append, List.mem_singleton] at hx
  rcases hx with hx | rfl
  · exact h.2 x hx
  · exact ht
theorem encL_take10 (l : List Tree) : List.take 20 (encL l) = encL (l.take 10) := by
  by_cases h : 10 ≤ l.length
  · have e1 : encL l = encL (l.take 10) ++ encL (l.drop 10) := by rw [← encL_append, List.take_append_drop]
    rw [e1, List.take_append_of_le_length (by rw [encL_length]; simp; omega), List.take_of_length_le (by rw [encL_length]; simp; omega)]
  · rw [List.take_of_length_le (by rw [encL_length]; simp; omega), List.take_of_length_le (by omega)]

/-- a model's trees, and so many of one node more -/
def addN (F : Model) (k : Nat) : List Tree := F.trees ++ List.replicate k (⟨0, threeL 5 1 2⟩ : Tree)
theorem addN_len (F : Model) (k : Nat) : (addN F k).length = F.trees.length + k := by simp [addN]
theorem addN_succ (F : Model) (k : Nat) : encL (addN F (k + 1)) = encL (addN F k) ++ [.int .i64 0, .lst (threeL 5 1 2).length (encL (threeL 5 1 2))] := by
  unfold addN
  rw [List.replicate_succ', ← List.append_assoc, encL_append]
  rfl
theorem addN_ok {F : Model} (h : okMW F) {k : Nat} (hl : F.trees.length + k ≤ 100) : okMW ⟨F.dim, F.classes, F.bias, addN F k⟩ := by
  refine ⟨by show (addN F k).length ≤ maxN; rw [addN_len]; unfold maxN; omega, fun x hx => ?_⟩
  have hx' : x ∈ F.trees ++ List.replicate k (⟨0, threeL 5 1 2⟩ : Tree) := hx
  simp only [List.mem_append, List.mem_replicate] at hx'
  rcases hx' with hx' | ⟨_, rfl⟩
  · exact h.2 x hx'
  · exact threeL_ok 5 1 2

set_option maxHeartbeats 16000000 in
set_option maxRecDepth 8000 in
theorem sw_run (m : Model) (hw : okMW m) (f : Forest) (cl : Int) (p : Point) (what : Int) (ex : Env) (g : Nat → Nat) :
    run TT c32_83 [] ⟨(2, .int .i64 cl) :: (4, .int .i64 what) :: (5, .ptr 5 (g 5) 0) :: (6, .ptr 6 (g 6) 0) :: (8, .ptr 8 (g 8) 0) :: ex, [(5, ⟨Row.enc m, false, 0⟩), (6, ⟨fcells f, false, 0⟩), (8, ⟨Row.enc p, false, 0⟩)], g⟩ (fin [ARes.t 10] (.bool true)) := by
  have hm := rm_modelOf f
  have hM : ModelC f = some (modelOf f) := rfl
  have hG : modelG [Arg.enc f] [] = some (mgV (modelOf f), mgH (modelOf f)) := by simp [modelG, Arg.dec_enc]
  have h4 : (modelOf f).trees.length ≤ 4 := by unfold modelOf; simp; omega
  generalize hF : modelOf f = F at *
  have hW := within_of what 0 9 (by omega)
  have hwF := hm.okMW
  rcases (within_10 (n := what)) with e | e | e | e | e | e | e | e | e | e <;> rw [e] at hW
  · simp -implicitDefEqProofs [hW, hM, fcells, -r32_82]
    exact tail_run ⟨cl, F.classes, F.bias, F.trees⟩ hwF cl p _ [] _ g (.inl ⟨rfl, rfl⟩) (by simp) (by simp) (by simp)
  · simp -implicitDefEqProofs [hW, hM, fcells, -r32_82]
    exact tail_run ⟨F.dim, cl, F.bias, F.trees⟩ hwF cl p _ [] _ g (.inl ⟨rfl, rfl⟩) (by simp) (by simp) (by simp)
  · simp -implicitDefEqProofs [hW, hM, fcells, -r32_82]
    exact tail_run ⟨F.dim, F.classes, ⟨F.bias.b0, F.bias.b1, cl⟩, F.trees⟩ hwF cl p _ [] _ g (.inl ⟨rfl, rfl⟩) (by simp) (by simp) (by simp)
  · have hM2 := okMW_add hwF (by omega) (t := ⟨cl, threeL 5 1 2⟩) (threeL_ok 5 1 2)
    have n3 := (threeL_ok 5 1 2).2
    have hEt : encL (F.trees ++ [(⟨cl, threeL 5 1 2⟩ : Tree)]) = encL F.trees ++ [.int .i64 cl, .lst (threeL 5 1 2).length (encL (threeL 5 1 2))] := by rw [encL_append]; rfl
    have htl : (F.trees ++ [(⟨cl, threeL 5 1 2⟩ : Tree)]).length = F.trees.length + 1 := by simp
    have b4 : F.trees.length ≤ 1099511627775 := by omega
    have htk : List.take (F.trees.length * 2) (encL F.trees) = encL F.trees := take_rows _ _ (by simp)
    by_cases hz : F.trees.length = 0
    · have hnil : F.trees = [] := List.length_eq_zero_iff.1 hz
      have hV : mgV F = .agg [.int .i64 F.dim, .int .i64 F.classes, .int .i64 F.bias.b0, .int .i64 F.bias.b1, .int .i64 F.bias.b2, .nils] := by unfold mgV; rw [if_pos hz]
      have hH : mgH F = [] := by unfold mgH; rw [if_pos hz]
      simp -implicitDefEqProofs [hW, hM, fcells, modelG, hF, hV, hH, -r32_82]
      rw [hnil] at hM2
      exact tail_run ⟨F.dim, F.classes, F.bias, [⟨cl, threeL 5 1 2⟩]⟩ hM2 cl p (.own 10505 (g 10505 + 1) 0 1) [(10505, ⟨encL [(⟨cl, threeL 5 1 2⟩ : Tree)], false, 2⟩)] _ (bump 10505 (bump 52 g)) (.inr ⟨by simp, rfl⟩) (by simp) (by simp; rfl) (by simp; rfl)
    · have hV : mgV F = .agg [.int .i64 F.dim, .int .i64 F.classes, .int .i64 F.bias.b0, .int .i64 F.bias.b1, .int .i64 F.bias.b2, .own 2 0 0 F.trees.length] := by unfold mgV; rw [if_neg hz]
      have hH : mgH F = [(2, ⟨encL F.trees, false, 2⟩)] := by unfold mgH; rw [if_neg hz]
      have c0 : F.trees.length * 2 ≤ (encL F.trees).length := by rw [encL_length]; simp
      simp -implicitDefEqProofs [hW, hM, fcells, modelG, hF, hV, hH, mapM1_up, b4, htk, c0, -r32_82]
      exact tail_run ⟨F.dim, F.classes, F.bias, F.trees ++ [⟨cl, threeL 5 1 2⟩]⟩ hM2 cl p (.own 10505 (g 10505 + 1) 0 (F.trees.length + 1)) [(10505, ⟨encL (F.trees ++ [(⟨cl, threeL 5 1 2⟩ : Tree)]), false, 2⟩)] _ (bump 10505 (bump 52 (bump 46 g))) (.inr ⟨by simp, rfl⟩) (by simp) (by simp [hEt]) (by simp [hEt])
  · have n3 := (threeL_ok 5 1 2).2
    have b4 : F.trees.length ≤ 1099511627775 := by omega
    have b5 : F.trees.length ≤ maxN := by unfold maxN; omega
    have htk : List.take (F.trees.length * 2) (encL F.trees) = encL F.trees := take_rows _ _ (by simp)
    have w9 : IntKind.i64.wrap (9 - (F.trees.length : Int)) = 9 - (F.trees.length : Int) := wrap64 (by omega) (by omega)
    have l9 : (0 : Int) < 9 - (F.trees.length : Int) := by omega
    -- the loop, from the second round on
    have loop : ∀ (z : Int), z = 9 - (F.trees.length : Int) → ∀ (g : Nat → Nat) (h : Hp), keepH h [5, 8, 46, 58, 10505] = [(5, ⟨[.int .i64 F.dim, .int .i64 F.classes, .int .i64 F.bias.b0, .int .i64 F.bias.b1, .int .i64 F.bias.b2, .own 10505 (g 10505) 0 (addN F 1).length], false, 0⟩), (8, ⟨Row.enc p, false, 0⟩), (10505, ⟨encL (addN F 1), false, 2⟩)] →
        run TT (.loop c32_33) [Fr.blk 1, Fr.blk 0, Fr.c c32_82] ⟨[(2, .int .i64 cl), (5, .ptr 5 (g 5) 0), (8, .ptr 8 (g 8) 0), (62, .int .i64 z), (63, .int .i64 1)], h, g⟩ (fin [ARes.t 10] (.bool true)) := by
      intro z hz9 g h hh
      refine run_while (c := c32_32) (fun n s => ∃ (k : Nat) (g : Nat → Nat), k + n = 9 - F.trees.length ∧ 1 ≤ k ∧ s = ⟨[(2, .int .i64 cl), (5, .ptr 5 (g 5) 0), (8, .ptr 8 (g 8) 0), (62, .int .i64 z), (63, .int .i64 k)],
        [(5, ⟨[.int .i64 F.dim, .int .i64 F.classes, .int .i64 F.bias.b0, .int .i64 F.bias.b1, .int .i64 F.bias.b2, .own 10505 (g 10505) 0 (addN F k).length], false, 0⟩), (8, ⟨Row.enc p, false, 0⟩), (10505, ⟨encL (addN F k), false, 2⟩)], g⟩) (9 - F.trees.length - 1) ⟨1, g, by omega, by omega, by simp only [hh]; simp⟩ ?_
      rintro n s ⟨k, g, hk, hk1, rfl⟩
      have hln := addN_len F k
      by_cases h1 : (k : Int) < z
      case pos =>
        have w1 : IntKind.i64.wrap ((k : Int) + 1) = (k : Int) + 1 := wrap64 (by omega) (by omega)
        have hE := addN_succ F k
        have hln2 := addN_len F (k + 1)
        have c2 : (addN F k).length ≤ 1099511627775 := by omega
        have c3 : (addN F k).length * 2 ≤ (encL (addN F k)).length := by rw [encL_length]; simp
        have htk2 : List.take ((addN F k).length * 2) (encL (addN F k)) = encL (addN F k) := take_rows _ _ (by simp)
        simp -implicitDefEqProofs [h1, w1, c2, c3, htk2]
        exact ⟨n - 1, by omega, k + 1, by omega, by omega, by simp, by rw [hln, hln2]; omega, hE.symm⟩
      case neg =>
        simp -implicitDefEqProofs [h1, -r32_82]
        exact tail_run ⟨F.dim, F.classes, F.bias, addN F k⟩ (addN_ok hwF (by omega)) cl p (.own 10505 (g 10505) 0 (addN F k).length) [(10505, ⟨encL (addN F k), false, 2⟩)] _ g (.inr ⟨rfl, rfl⟩) (by simp) (by simp) (by simp)
    by_cases hz : F.trees.length = 0
    · have hnil : F.trees = [] := List.length_eq_zero_iff.1 hz
      have hV : mgV F = .agg [.int .i64 F.dim, .int .i64 F.classes, .int .i64 F.bias.b0, .int .i64 F.bias.b1, .int .i64 F.bias.b2, .nils] := by unfold mgV; rw [if_pos hz]
      have hH : mgH F = [] := by unfold mgH; rw [if_pos hz]
      have w9' : IntKind.i64.wrap 9 = 9 := by decide
      simp -implicitDefEqProofs [hW, hM, fcells, modelG, hF, hV, hH, w9', -r32_82]
      rw [run_round]
      simp -implicitDefEqProofs [-r32_82]
      refine loop 9 (by omega) (bump 10505 (bump 69 g)) _ ?_
      have e1 : addN F 1 = [(⟨0, threeL 5 1 2⟩ : Tree)] := by simp [addN, hnil]
      rw [e1]
      simp
      rfl
    · have hV : mgV F = .agg [.int .i64 F.dim, .int .i64 F.classes, .int .i64 F.bias.b0, .int .i64 F.bias.b1, .int .i64 F.bias.b2, .own 2 0 0 F.trees.length] := by unfold mgV; rw [if_neg hz]
      have hH : mgH F = [(2, ⟨encL F.trees, false, 2⟩)] := by unfold mgH; rw [if_neg hz]
      have c0 : F.trees.length * 2 ≤ (encL F.trees).length := by rw [encL_length]; simp
      simp -implicitDefEqProofs [hW, hM, fcells, modelG, hF, hV, hH, mapM1_up, b4, b5, htk, c0, w9, l9, -r32_82]
      rw [run_round]
      simp -implicitDefEqProofs [l9, b4, htk, c0, -r32_82]
      refine ⟨fun _ => loop _ rfl (bump 10505 (bump 69 (bump 58 g))) _ ?_, fun h => absurd h (by omega)⟩
      have e1 := addN_succ F 0
      have e2 := addN_len F 1
      have e0 : addN F 0 = F.trees := by simp [addN]
      rw [e0] at e1
      simp [e1, e2]
  all_goals (simp -implicitDefEqProofs [hW, hM, fcells, -r32_82])
  · exact tail_run F hwF cl p _ [] _ g (.inl ⟨rfl, rfl⟩) (by simp) (by simp) (by simp)
  · exact tail_run F hwF cl p _ [] _ g (.inl ⟨rfl, rfl⟩) (by simp) (by simp) (by simp)
  · exact tail_run F hwF cl p _ [] _ g (.inl ⟨rfl, rfl⟩) (by simp) (by simp) (by simp)
  · exact tail_run F hwF cl p _ [] _ g (.inl ⟨rfl, rfl⟩) (by simp) (by simp) (by simp)
  · exact tail_run m hw cl p _ [] _ g (.inl ⟨rfl, rfl⟩) (by simp) (by simp) (by simp)

theorem okMW_take {m : Model} (h : okMW m) : okMW ⟨m.dim, m.classes, m.bias, m.trees.take 10⟩ := by
  refine ⟨?_, fun x hx => h.2 x (List.mem_of_mem_take hx)⟩
  have := h.1
  have h2 : (m.trees.take 10).length ≤ m.trees.length := List.length_take_le' 10 m.trees
  exact Nat.le_trans h2 this
set_option maxHeartbeats 8000000 in
set_option maxRecDepth 8000 in
theorem runs_law (m : Model) (f : Forest) (cl : Int) (p : Point) (what : Int) (c : Bool) (h : Part (okMW m) true = some c) : Runs TT a32 [Arg.enc m, Arg.enc f, Arg.enc cl, Arg.enc p, Arg.enc what] (Arg.enc c) := by
  obtain ⟨hw, rfl⟩ := part_some h
  clear h
  refine ⟨rfl, fun g => run_def ?_⟩
  unfold a32
  have b3 := hw.1
  have hmx : m.trees.length ≤ 9223372036854775807 := b3
  by_cases h10 : (10 : Int) < m.trees.length
  case pos =>
    have e1 := encL_take10 m.trees
    have e2 : (m.trees.take 10).length = 10 := by simp; omega
    have h10' : (10 : Int) ≤ m.trees.length := by omega
    simp -implicitDefEqProofs [b3, h10, h10', e1, -r32_83]
    have := sw_run ⟨m.dim, m.classes, m.bias, m.trees.take 10⟩ (okMW_take hw) f cl p what [] (bump 8 (bump 6 (bump 5 g)))
    have e : (Row.enc (⟨m.dim, m.classes, m.bias, m.trees.take 10⟩ : Model)) = [.int .i64 m.dim, .int .i64 m.classes, .int .i64 m.bias.b0, .int .i64 m.bias.b1, .int .i64 m.bias.b2, .lst 10 (encL (m.trees.take 10))] := by
      show [AV.int .i64 m.dim, .int .i64 m.classes, .int .i64 m.bias.b0, .int .i64 m.bias.b1, .int .i64 m.bias.b2, .lst (m.trees.take 10).length (encL (m.trees.take 10))] = _
      rw [e2]
    rw [e] at this
    exact this
  case neg =>
    simp -implicitDefEqProofs [b3, h10, -r32_83]
    exact sw_run m hw f cl p what _ (bump 8 (bump 6 (bump 5 g)))
open Classical in
noncomputable def law_sp : List AV → Option AV := sp5 fun (m : Model) (_ : Forest) (_ : Int) (_ : Point) (_ : Int) => Part (okMW m) true
/- GOOD 0 -/
theorem law_holds : Contract Try.prog 32 law_sp :=
  contract_of_runs (C := TT) mixed (tbl_cons c_Within (tbl_cons c_Model (tbl_cons c_ModelG (tbl_cons c_three (tbl_cons c_mRightT (tbl_cons c_rModelT (tbl_cons c_EvalT (tbl_cons c_rEvalT (tbl_cons c_SizeW (tbl_cons c_closed31 tbl_nil)))))))))) Try.func32 m32 (sp5_runs runs_law)
theorem law_says (m : Model) (f : Forest) (k : Int) (p : Point) (w : Int) (h : Sh.good m) : law_sp [Arg.enc m, Arg.enc f, Arg.enc k, Arg.enc p, Arg.enc w] = some (.bool true) := by
  obtain ⟨_, _, _, _, _, h1, h2⟩ := h
  have hw : okMW m := by
    refine ⟨Nat.le_trans h2 (by decide), fun t ht => ?_⟩
    obtain ⟨_, h3, h4⟩ := h1 t ht
    exact ⟨fun w hw => h3 w hw, Nat.le_trans h4 (by decide)⟩
  simp only [law_sp, sp5, Arg.dec_enc, Option.bind_some, part_of hw]
  rfl
end Go.Co
