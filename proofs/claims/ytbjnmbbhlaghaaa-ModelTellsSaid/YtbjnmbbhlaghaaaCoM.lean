/- CO: bounds. -/
import Derived.Test.YtbjnmbbhlaghaaaCoL
namespace Go.Co
open Go.Am Go.Proofs
set_option linter.unusedSimpArgs false
set_option linter.unusedVariables false

/- copse/bound.Tree -/
def c48_0 : ACode := .ops [⟨some 3, .box (.t 1) 10, none, []⟩,
  ⟨some 4, .mv (.c (.int .i64 0)), none, []⟩,
  ⟨some 5, .mv (.c (.int .i64 0)), none, []⟩,
  ⟨some 6, .mv (.c (.bool false)), none, []⟩] [0, 3]
theorem r48_0 {C : Cs} {k : List Fr} {s : St} {Q : Post} : run C c48_0 k s Q = run C (.ops [⟨some 3, .box (.t 1) 10, none, []⟩,
  ⟨some 4, .mv (.c (.int .i64 0)), none, []⟩,
  ⟨some 5, .mv (.c (.int .i64 0)), none, []⟩,
  ⟨some 6, .mv (.c (.bool false)), none, []⟩] [0, 3]) k s Q := rfl
def c48_1 : ACode := .ops [⟨some 12, .mv (.t 0), none, []⟩,
  ⟨some 13, .load 10 true (.t 3), none, [3]⟩,
  ⟨some 14, .call 51 [.t 12, .t 13], none, []⟩,
  ⟨some 7, .mv (.t 14), none, []⟩] [7]
theorem r48_1 {C : Cs} {k : List Fr} {s : St} {Q : Post} : run C c48_1 k s Q = run C (.ops [⟨some 12, .mv (.t 0), none, []⟩,
  ⟨some 13, .load 10 true (.t 3), none, [3]⟩,
  ⟨some 14, .call 51 [.t 12, .t 13], none, []⟩,
  ⟨some 7, .mv (.t 14), none, []⟩] [7]) k s Q := rfl
def c48_2 : ACode := .ops [⟨some 15, .mv (.t 7), none, []⟩,
  ⟨some 16, .len (.t 15), none, []⟩,
  ⟨some 17, .bin .eql (.t 16) (.c (.int .i64 0)), none, []⟩] [7, 17]
theorem r48_2 {C : Cs} {k : List Fr} {s : St} {Q : Post} : run C c48_2 k s Q = run C (.ops [⟨some 15, .mv (.t 7), none, []⟩,
  ⟨some 16, .len (.t 15), none, []⟩,
  ⟨some 17, .bin .eql (.t 16) (.c (.int .i64 0)), none, []⟩] [7, 17]) k s Q := rfl
def c48_3 : ACode := .ops [⟨some 4, .mv (.c (.int .i64 0)), none, []⟩,
  ⟨some 5, .mv (.c (.int .i64 0)), none, []⟩,
  ⟨some 6, .mv (.c (.bool false)), none, []⟩] [4, 5, 6]
theorem r48_3 {C : Cs} {k : List Fr} {s : St} {Q : Post} : run C c48_3 k s Q = run C (.ops [⟨some 4, .mv (.c (.int .i64 0)), none, []⟩,
  ⟨some 5, .mv (.c (.int .i64 0)), none, []⟩,
  ⟨some 6, .mv (.c (.bool false)), none, []⟩] [4, 5, 6]) k s Q := rfl
def c48_4 : ACode := .seq c48_3 .ret
theorem r48_4 {C : Cs} {k : List Fr} {s : St} {Q : Post} : run C c48_4 k s Q = run C (.seq c48_3 .ret) k s Q := rfl
def c48_5 : ACode := .cond (.t 17) c48_4 .skip
theorem r48_5 {C : Cs} {k : List Fr} {s : St} {Q : Post} : run C c48_5 k s Q = run C (.cond (.t 17) c48_4 .skip) k s Q := rfl
def c48_6 : ACode := .seq c48_2 c48_5
theorem r48_6 {C : Cs} {k : List Fr} {s : St} {Q : Post} : run C c48_6 k s Q = run C (.seq c48_2 c48_5) k s Q := rfl
def c48_7 : ACode := .ops [⟨some 18, .mv (.t 7), none, []⟩,
  ⟨some 19, .ias (.t 18) (.c (.int .i64 0)) 11, none, []⟩,
  ⟨some 20, .fad (.t 19) 10, none, []⟩,
  ⟨some 21, .load 1 false (.t 20), none, []⟩,
  ⟨some 22, .mv (.t 7), none, []⟩,
  ⟨some 23, .ias (.t 22) (.c (.int .i64 0)) 11, none, []⟩,
  ⟨some 24, .fad (.t 23) 10, none, []⟩,
  ⟨some 25, .load 1 false (.t 24), none, []⟩,
  ⟨some 8, .mv (.t 21), none, []⟩,
  ⟨some 9, .mv (.t 25), none, []⟩] [7, 8, 9]
theorem r48_7 {C : Cs} {k : List Fr} {s : St} {Q : Post} : run C c48_7 k s Q = run C (.ops [⟨some 18, .mv (.t 7), none, []⟩,
  ⟨some 19, .ias (.t 18) (.c (.int .i64 0)) 11, none, []⟩,
  ⟨some 20, .fad (.t 19) 10, none, []⟩,
  ⟨some 21, .load 1 false (.t 20), none, []⟩,
  ⟨some 22, .mv (.t 7), none, []⟩,
  ⟨some 23, .ias (.t 22) (.c (.int .i64 0)) 11, none, []⟩,
  ⟨some 24, .fad (.t 23) 10, none, []⟩,
  ⟨some 25, .load 1 false (.t 24), none, []⟩,
  ⟨some 8, .mv (.t 21), none, []⟩,
  ⟨some 9, .mv (.t 25), none, []⟩] [7, 8, 9]) k s Q := rfl
def c48_8 : ACode := .ops [⟨some 26, .mv (.t 7), none, []⟩,
  ⟨some 27, .len (.t 26), none, []⟩,
  ⟨some 28, .mv (.c (.int .i64 0)), none, []⟩] [8, 9, 26, 27, 28]
theorem r48_8 {C : Cs} {k : List Fr} {s : St} {Q : Post} : run C c48_8 k s Q = run C (.ops [⟨some 26, .mv (.t 7), none, []⟩,
  ⟨some 27, .len (.t 26), none, []⟩,
  ⟨some 28, .mv (.c (.int .i64 0)), none, []⟩] [8, 9, 26, 27, 28]) k s Q := rfl
def c48_9 : ACode := .ops [⟨some 29, .bin .lss (.t 28) (.t 27), none, []⟩] [8, 9, 26, 27, 28, 29]
theorem r48_9 {C : Cs} {k : List Fr} {s : St} {Q : Post} : run C c48_9 k s Q = run C (.ops [⟨some 29, .bin .lss (.t 28) (.t 27), none, []⟩] [8, 9, 26, 27, 28, 29]) k s Q := rfl
def c48_10 : ACode := .cond (.t 29) .skip (.exit 0)
theorem r48_10 {C : Cs} {k : List Fr} {s : St} {Q : Post} : run C c48_10 k s Q = run C (.cond (.t 29) .skip (.exit 0)) k s Q := rfl
def c48_11 : ACode := .ops [⟨some 30, .ias (.t 26) (.t 28) 11, none, []⟩,
  ⟨some 31, .load 11 true (.t 30), none, []⟩,
  ⟨some 11, .alloc [.int .i64 0, .int .i64 0, .int .i64 0, .int .i64 0, .int .i64 0, .int .i64 0, .int .i64 0, .int .i64 0, .int .i64 0, .int .i64 0, .int .i64 0], none, []⟩,
  ⟨none, .store (.t 11) 11 (.t 31), none, [11]⟩] [8, 9, 11, 26, 27, 28]
theorem r48_11 {C : Cs} {k : List Fr} {s : St} {Q : Post} : run C c48_11 k s Q = run C (.ops [⟨some 30, .ias (.t 26) (.t 28) 11, none, []⟩,
  ⟨some 31, .load 11 true (.t 30), none, []⟩,
  ⟨some 11, .alloc [.int .i64 0, .int .i64 0, .int .i64 0, .int .i64 0, .int .i64 0, .int .i64 0, .int .i64 0, .int .i64 0, .int .i64 0, .int .i64 0, .int .i64 0], none, []⟩,
  ⟨none, .store (.t 11) 11 (.t 31), none, [11]⟩] [8, 9, 11, 26, 27, 28]) k s Q := rfl
def c48_12 : ACode := .ops [⟨some 32, .mv (.t 8), none, []⟩,
  ⟨some 33, .fad (.t 11) 10, none, [11]⟩,
  ⟨some 34, .load 1 false (.t 33), none, [11]⟩,
  ⟨some 35, .mnmx false (.t 32) (.t 34), none, []⟩,
  ⟨some 36, .mv (.t 9), none, []⟩,
  ⟨some 37, .fad (.t 11) 10, none, [11]⟩,
  ⟨some 38, .load 1 false (.t 37), none, [11]⟩,
  ⟨some 39, .mnmx true (.t 36) (.t 38), none, []⟩,
  ⟨some 8, .mv (.t 35), none, []⟩,
  ⟨some 9, .mv (.t 39), none, []⟩] [8, 9, 26, 27, 28]
theorem r48_12 {C : Cs} {k : List Fr} {s : St} {Q : Post} : run C c48_12 k s Q = run C (.ops [⟨some 32, .mv (.t 8), none, []⟩,
  ⟨some 33, .fad (.t 11) 10, none, [11]⟩,
  ⟨some 34, .load 1 false (.t 33), none, [11]⟩,
  ⟨some 35, .mnmx false (.t 32) (.t 34), none, []⟩,
  ⟨some 36, .mv (.t 9), none, []⟩,
  ⟨some 37, .fad (.t 11) 10, none, [11]⟩,
  ⟨some 38, .load 1 false (.t 37), none, [11]⟩,
  ⟨some 39, .mnmx true (.t 36) (.t 38), none, []⟩,
  ⟨some 8, .mv (.t 35), none, []⟩,
  ⟨some 9, .mv (.t 39), none, []⟩] [8, 9, 26, 27, 28]) k s Q := rfl
def c48_13 : ACode := .seq c48_11 c48_12
theorem r48_13 {C : Cs} {k : List Fr} {s : St} {Q : Post} : run C c48_13 k s Q = run C (.seq c48_11 c48_12) k s Q := rfl
def c48_14 : ACode := .block 1 c48_13
theorem r48_14 {C : Cs} {k : List Fr} {s : St} {Q : Post} : run C c48_14 k s Q = run C (.block 1 c48_13) k s Q := rfl
def c48_15 : ACode := .ops [⟨some 40, .bin .add (.t 28) (.c (.int .i64 1)), none, []⟩,
  ⟨some 28, .mv (.t 40), none, []⟩] [8, 9, 26, 27, 28]
theorem r48_15 {C : Cs} {k : List Fr} {s : St} {Q : Post} : run C c48_15 k s Q = run C (.ops [⟨some 40, .bin .add (.t 28) (.c (.int .i64 1)), none, []⟩,
  ⟨some 28, .mv (.t 40), none, []⟩] [8, 9, 26, 27, 28]) k s Q := rfl
def c48_16 : ACode := .seq c48_14 c48_15
theorem r48_16 {C : Cs} {k : List Fr} {s : St} {Q : Post} : run C c48_16 k s Q = run C (.seq c48_14 c48_15) k s Q := rfl
def c48_17 : ACode := .seq c48_10 c48_16
theorem r48_17 {C : Cs} {k : List Fr} {s : St} {Q : Post} : run C c48_17 k s Q = run C (.seq c48_10 c48_16) k s Q := rfl
def c48_18 : ACode := .seq c48_9 c48_17
theorem r48_18 {C : Cs} {k : List Fr} {s : St} {Q : Post} : run C c48_18 k s Q = run C (.seq c48_9 c48_17) k s Q := rfl
def c48_19 : ACode := .keep [8, 9, 26, 27, 28] [] c48_18
theorem r48_19 {C : Cs} {k : List Fr} {s : St} {Q : Post} : run C c48_19 k s Q = run C (.keep [8, 9, 26, 27, 28] [] c48_18) k s Q := rfl
def c48_20 : ACode := .loop c48_19
theorem r48_20 {C : Cs} {k : List Fr} {s : St} {Q : Post} : run C c48_20 k s Q = run C (.loop c48_19) k s Q := rfl
def c48_21 : ACode := .block 0 c48_20
theorem r48_21 {C : Cs} {k : List Fr} {s : St} {Q : Post} : run C c48_21 k s Q = run C (.block 0 c48_20) k s Q := rfl
def c48_22 : ACode := .seq c48_8 c48_21
theorem r48_22 {C : Cs} {k : List Fr} {s : St} {Q : Post} : run C c48_22 k s Q = run C (.seq c48_8 c48_21) k s Q := rfl
def c48_23 : ACode := .ops [⟨some 41, .mv (.t 8), none, []⟩,
  ⟨some 42, .mv (.t 9), none, []⟩,
  ⟨some 4, .mv (.t 41), none, []⟩,
  ⟨some 5, .mv (.t 42), none, []⟩,
  ⟨some 6, .mv (.c (.bool true)), none, []⟩] [4, 5, 6]
theorem r48_23 {C : Cs} {k : List Fr} {s : St} {Q : Post} : run C c48_23 k s Q = run C (.ops [⟨some 41, .mv (.t 8), none, []⟩,
  ⟨some 42, .mv (.t 9), none, []⟩,
  ⟨some 4, .mv (.t 41), none, []⟩,
  ⟨some 5, .mv (.t 42), none, []⟩,
  ⟨some 6, .mv (.c (.bool true)), none, []⟩] [4, 5, 6]) k s Q := rfl
def c48_24 : ACode := .seq c48_23 .ret
theorem r48_24 {C : Cs} {k : List Fr} {s : St} {Q : Post} : run C c48_24 k s Q = run C (.seq c48_23 .ret) k s Q := rfl
def c48_25 : ACode := .seq c48_22 c48_24
theorem r48_25 {C : Cs} {k : List Fr} {s : St} {Q : Post} : run C c48_25 k s Q = run C (.seq c48_22 c48_24) k s Q := rfl
def c48_26 : ACode := .seq c48_7 c48_25
theorem r48_26 {C : Cs} {k : List Fr} {s : St} {Q : Post} : run C c48_26 k s Q = run C (.seq c48_7 c48_25) k s Q := rfl
def c48_27 : ACode := .seq c48_6 c48_26
theorem r48_27 {C : Cs} {k : List Fr} {s : St} {Q : Post} : run C c48_27 k s Q = run C (.seq c48_6 c48_26) k s Q := rfl
def c48_28 : ACode := .seq c48_1 c48_27
theorem r48_28 {C : Cs} {k : List Fr} {s : St} {Q : Post} : run C c48_28 k s Q = run C (.seq c48_1 c48_27) k s Q := rfl
def c48_29 : ACode := .seq c48_0 c48_28
theorem r48_29 {C : Cs} {k : List Fr} {s : St} {Q : Post} : run C c48_29 k s Q = run C (.seq c48_0 c48_28) k s Q := rfl
def a48 : AFun := ⟨2, 43, c48_29, [.t 4, .t 5, .t 6]⟩
attribute [simp] r48_0 r48_1 r48_2 r48_3 r48_4 r48_5 r48_6 r48_7 r48_8 r48_9 r48_10 r48_11 r48_12 r48_13 r48_14 r48_15 r48_16 r48_17 r48_18 r48_19 r48_20 r48_21 r48_22 r48_23 r48_24 r48_25 r48_26 r48_27 r48_28 r48_29
theorem m48 : mFun Try.prog Try.f48 a48 = true := by decide +kernel
/- copse/bound.Sum -/
def c44_0 : ACode := .ops [⟨some 3, .box (.t 0) 6, none, []⟩,
  ⟨some 5, .box (.t 2) 10, none, []⟩,
  ⟨some 6, .mv (.c (.int .i64 0)), none, []⟩,
  ⟨some 7, .mv (.c (.int .i64 0)), none, []⟩,
  ⟨some 8, .mv (.c (.bool false)), none, []⟩] [1, 3, 5]
theorem r44_0 {C : Cs} {k : List Fr} {s : St} {Q : Post} : run C c44_0 k s Q = run C (.ops [⟨some 3, .box (.t 0) 6, none, []⟩,
  ⟨some 5, .box (.t 2) 10, none, []⟩,
  ⟨some 6, .mv (.c (.int .i64 0)), none, []⟩,
  ⟨some 7, .mv (.c (.int .i64 0)), none, []⟩,
  ⟨some 8, .mv (.c (.bool false)), none, []⟩] [1, 3, 5]) k s Q := rfl
def c44_1 : ACode := .ops [⟨some 16, .load 6 true (.t 3), none, [3]⟩,
  ⟨some 17, .call 71 [.t 16], none, []⟩,
  ⟨some 18, .un .not (.t 17), none, []⟩,
  ⟨some 19, .mv (.t 18), none, []⟩,
  ⟨some 20, .mv (.t 1), some (19, false), []⟩,
  ⟨some 21, .bin .lss (.t 20) (.c (.int .i64 0)), some (19, false), []⟩,
  ⟨some 22, .pick (.t 19) (.c (.bool true)) (.t 21), none, []⟩,
  ⟨some 23, .mv (.t 22), none, []⟩,
  ⟨some 24, .mv (.t 1), some (23, false), []⟩,
  ⟨some 25, .fad (.t 3) 1, some (23, false), [3]⟩,
  ⟨some 26, .load 1 false (.t 25), some (23, false), [3]⟩,
  ⟨some 27, .bin .geq (.t 24) (.t 26), some (23, false), []⟩,
  ⟨some 28, .pick (.t 23) (.c (.bool true)) (.t 27), none, []⟩,
  ⟨some 29, .mv (.t 28), none, []⟩,
  ⟨some 30, .load 10 true (.t 5), some (29, false), [5]⟩,
  ⟨some 31, .call 68 [.t 30], some (29, false), []⟩,
  ⟨some 32, .pick (.t 29) (.c (.bool true)) (.t 31), none, []⟩] [1, 3, 5, 32]
theorem r44_1 {C : Cs} {k : List Fr} {s : St} {Q : Post} : run C c44_1 k s Q = run C (.ops [⟨some 16, .load 6 true (.t 3), none, [3]⟩,
  ⟨some 17, .call 71 [.t 16], none, []⟩,
  ⟨some 18, .un .not (.t 17), none, []⟩,
  ⟨some 19, .mv (.t 18), none, []⟩,
  ⟨some 20, .mv (.t 1), some (19, false), []⟩,
  ⟨some 21, .bin .lss (.t 20) (.c (.int .i64 0)), some (19, false), []⟩,
  ⟨some 22, .pick (.t 19) (.c (.bool true)) (.t 21), none, []⟩,
  ⟨some 23, .mv (.t 22), none, []⟩,
  ⟨some 24, .mv (.t 1), some (23, false), []⟩,
  ⟨some 25, .fad (.t 3) 1, some (23, false), [3]⟩,
  ⟨some 26, .load 1 false (.t 25), some (23, false), [3]⟩,
  ⟨some 27, .bin .geq (.t 24) (.t 26), some (23, false), []⟩,
  ⟨some 28, .pick (.t 23) (.c (.bool true)) (.t 27), none, []⟩,
  ⟨some 29, .mv (.t 28), none, []⟩,
  ⟨some 30, .load 10 true (.t 5), some (29, false), [5]⟩,
  ⟨some 31, .call 68 [.t 30], some (29, false), []⟩,
  ⟨some 32, .pick (.t 29) (.c (.bool true)) (.t 31), none, []⟩] [1, 3, 5, 32]) k s Q := rfl
def c44_2 : ACode := .ops [⟨some 6, .mv (.c (.int .i64 0)), none, []⟩,
  ⟨some 7, .mv (.c (.int .i64 0)), none, []⟩,
  ⟨some 8, .mv (.c (.bool false)), none, []⟩] [6, 7, 8]
theorem r44_2 {C : Cs} {k : List Fr} {s : St} {Q : Post} : run C c44_2 k s Q = run C (.ops [⟨some 6, .mv (.c (.int .i64 0)), none, []⟩,
  ⟨some 7, .mv (.c (.int .i64 0)), none, []⟩,
  ⟨some 8, .mv (.c (.bool false)), none, []⟩] [6, 7, 8]) k s Q := rfl
def c44_3 : ACode := .seq c44_2 .ret
theorem r44_3 {C : Cs} {k : List Fr} {s : St} {Q : Post} : run C c44_3 k s Q = run C (.seq c44_2 .ret) k s Q := rfl
def c44_4 : ACode := .cond (.t 32) c44_3 .skip
theorem r44_4 {C : Cs} {k : List Fr} {s : St} {Q : Post} : run C c44_4 k s Q = run C (.cond (.t 32) c44_3 .skip) k s Q := rfl
def c44_5 : ACode := .seq c44_1 c44_4
theorem r44_5 {C : Cs} {k : List Fr} {s : St} {Q : Post} : run C c44_5 k s Q = run C (.seq c44_1 c44_4) k s Q := rfl
def c44_6 : ACode := .ops [⟨some 33, .mv (.t 1), none, []⟩,
  ⟨some 34, .fad (.t 3) 2, none, [3]⟩,
  ⟨some 35, .iad (.t 34) (.t 33) 1 3, none, [3]⟩,
  ⟨some 36, .load 1 false (.t 35), none, [3]⟩,
  ⟨some 37, .mv (.t 1), none, []⟩,
  ⟨some 38, .fad (.t 3) 2, none, [3]⟩,
  ⟨some 39, .iad (.t 38) (.t 37) 1 3, none, [3]⟩,
  ⟨some 40, .load 1 false (.t 39), none, [3]⟩,
  ⟨some 9, .mv (.t 36), none, []⟩,
  ⟨some 10, .mv (.t 40), none, []⟩] [1, 3, 5, 9, 10]
theorem r44_6 {C : Cs} {k : List Fr} {s : St} {Q : Post} : run C c44_6 k s Q = run C (.ops [⟨some 33, .mv (.t 1), none, []⟩,
  ⟨some 34, .fad (.t 3) 2, none, [3]⟩,
  ⟨some 35, .iad (.t 34) (.t 33) 1 3, none, [3]⟩,
  ⟨some 36, .load 1 false (.t 35), none, [3]⟩,
  ⟨some 37, .mv (.t 1), none, []⟩,
  ⟨some 38, .fad (.t 3) 2, none, [3]⟩,
  ⟨some 39, .iad (.t 38) (.t 37) 1 3, none, [3]⟩,
  ⟨some 40, .load 1 false (.t 39), none, [3]⟩,
  ⟨some 9, .mv (.t 36), none, []⟩,
  ⟨some 10, .mv (.t 40), none, []⟩] [1, 3, 5, 9, 10]) k s Q := rfl
def c44_7 : ACode := .ops [⟨some 41, .fad (.t 3) 5, none, [3]⟩,
  ⟨some 42, .load 1 false (.t 41), none, [3]⟩,
  ⟨some 43, .len (.t 42), none, []⟩,
  ⟨some 44, .mv (.c (.int .i64 0)), none, []⟩] [1, 5, 9, 10, 42, 43, 44]
theorem r44_7 {C : Cs} {k : List Fr} {s : St} {Q : Post} : run C c44_7 k s Q = run C (.ops [⟨some 41, .fad (.t 3) 5, none, [3]⟩,
  ⟨some 42, .load 1 false (.t 41), none, [3]⟩,
  ⟨some 43, .len (.t 42), none, []⟩,
  ⟨some 44, .mv (.c (.int .i64 0)), none, []⟩] [1, 5, 9, 10, 42, 43, 44]) k s Q := rfl
def c44_8 : ACode := .ops [⟨some 45, .bin .lss (.t 44) (.t 43), none, []⟩] [1, 5, 9, 10, 42, 43, 44, 45]
theorem r44_8 {C : Cs} {k : List Fr} {s : St} {Q : Post} : run C c44_8 k s Q = run C (.ops [⟨some 45, .bin .lss (.t 44) (.t 43), none, []⟩] [1, 5, 9, 10, 42, 43, 44, 45]) k s Q := rfl
def c44_9 : ACode := .cond (.t 45) .skip (.exit 0)
theorem r44_9 {C : Cs} {k : List Fr} {s : St} {Q : Post} : run C c44_9 k s Q = run C (.cond (.t 45) .skip (.exit 0)) k s Q := rfl
def c44_10 : ACode := .ops [⟨some 46, .ias (.t 42) (.t 44) 2, none, []⟩,
  ⟨some 47, .load 2 true (.t 46), none, []⟩,
  ⟨some 12, .alloc [.int .i64 0, .nils], none, []⟩,
  ⟨none, .store (.t 12) 2 (.t 47), none, [12]⟩] [1, 5, 9, 10, 12, 42, 43, 44]
theorem r44_10 {C : Cs} {k : List Fr} {s : St} {Q : Post} : run C c44_10 k s Q = run C (.ops [⟨some 46, .ias (.t 42) (.t 44) 2, none, []⟩,
  ⟨some 47, .load 2 true (.t 46), none, []⟩,
  ⟨some 12, .alloc [.int .i64 0, .nils], none, []⟩,
  ⟨none, .store (.t 12) 2 (.t 47), none, [12]⟩] [1, 5, 9, 10, 12, 42, 43, 44]) k s Q := rfl
def c44_11 : ACode := .ops [⟨some 48, .fad (.t 12) 0, none, [12]⟩,
  ⟨some 49, .load 1 false (.t 48), none, [12]⟩,
  ⟨some 50, .mv (.t 1), none, []⟩,
  ⟨some 51, .bin .neq (.t 49) (.t 50), none, []⟩] [1, 5, 9, 10, 12, 42, 43, 44, 51]
theorem r44_11 {C : Cs} {k : List Fr} {s : St} {Q : Post} : run C c44_11 k s Q = run C (.ops [⟨some 48, .fad (.t 12) 0, none, [12]⟩,
  ⟨some 49, .load 1 false (.t 48), none, [12]⟩,
  ⟨some 50, .mv (.t 1), none, []⟩,
  ⟨some 51, .bin .neq (.t 49) (.t 50), none, []⟩] [1, 5, 9, 10, 12, 42, 43, 44, 51]) k s Q := rfl
def c44_12 : ACode := .cond (.t 51) (.exit 1) .skip
theorem r44_12 {C : Cs} {k : List Fr} {s : St} {Q : Post} : run C c44_12 k s Q = run C (.cond (.t 51) (.exit 1) .skip) k s Q := rfl
def c44_13 : ACode := .seq c44_11 c44_12
theorem r44_13 {C : Cs} {k : List Fr} {s : St} {Q : Post} : run C c44_13 k s Q = run C (.seq c44_11 c44_12) k s Q := rfl
def c44_14 : ACode := .ops [⟨some 53, .fad (.t 12) 1, none, [12]⟩,
  ⟨some 54, .load 1 false (.t 53), none, [12]⟩,
  ⟨some 55, .load 10 true (.t 5), none, [5]⟩,
  ⟨some 56, .call 48 [.t 54, .t 55], none, []⟩,
  ⟨some 52, .mv (.t 56), none, []⟩,
  ⟨some 57, .ext (.t 52) 0, none, []⟩,
  ⟨some 58, .ext (.t 52) 1, none, []⟩,
  ⟨some 59, .ext (.t 52) 2, none, []⟩,
  ⟨some 13, .mv (.t 57), none, []⟩,
  ⟨some 14, .mv (.t 58), none, []⟩,
  ⟨some 15, .mv (.t 59), none, []⟩] [1, 5, 9, 10, 13, 14, 42, 43, 44]
theorem r44_14 {C : Cs} {k : List Fr} {s : St} {Q : Post} : run C c44_14 k s Q = run C (.ops [⟨some 53, .fad (.t 12) 1, none, [12]⟩,
  ⟨some 54, .load 1 false (.t 53), none, [12]⟩,
  ⟨some 55, .load 10 true (.t 5), none, [5]⟩,
  ⟨some 56, .call 48 [.t 54, .t 55], none, []⟩,
  ⟨some 52, .mv (.t 56), none, []⟩,
  ⟨some 57, .ext (.t 52) 0, none, []⟩,
  ⟨some 58, .ext (.t 52) 1, none, []⟩,
  ⟨some 59, .ext (.t 52) 2, none, []⟩,
  ⟨some 13, .mv (.t 57), none, []⟩,
  ⟨some 14, .mv (.t 58), none, []⟩,
  ⟨some 15, .mv (.t 59), none, []⟩] [1, 5, 9, 10, 13, 14, 42, 43, 44]) k s Q := rfl
def c44_15 : ACode := .ops [⟨some 60, .mv (.t 9), none, []⟩,
  ⟨some 61, .mv (.t 13), none, []⟩,
  ⟨some 62, .bin .add (.t 60) (.t 61), none, []⟩,
  ⟨some 63, .mv (.t 10), none, []⟩,
  ⟨some 64, .mv (.t 14), none, []⟩,
  ⟨some 65, .bin .add (.t 63) (.t 64), none, []⟩,
  ⟨some 9, .mv (.t 62), none, []⟩,
  ⟨some 10, .mv (.t 65), none, []⟩] [1, 5, 9, 10, 42, 43, 44]
theorem r44_15 {C : Cs} {k : List Fr} {s : St} {Q : Post} : run C c44_15 k s Q = run C (.ops [⟨some 60, .mv (.t 9), none, []⟩,
  ⟨some 61, .mv (.t 13), none, []⟩,
  ⟨some 62, .bin .add (.t 60) (.t 61), none, []⟩,
  ⟨some 63, .mv (.t 10), none, []⟩,
  ⟨some 64, .mv (.t 14), none, []⟩,
  ⟨some 65, .bin .add (.t 63) (.t 64), none, []⟩,
  ⟨some 9, .mv (.t 62), none, []⟩,
  ⟨some 10, .mv (.t 65), none, []⟩] [1, 5, 9, 10, 42, 43, 44]) k s Q := rfl
def c44_16 : ACode := .seq c44_14 c44_15
theorem r44_16 {C : Cs} {k : List Fr} {s : St} {Q : Post} : run C c44_16 k s Q = run C (.seq c44_14 c44_15) k s Q := rfl
def c44_17 : ACode := .seq c44_13 c44_16
theorem r44_17 {C : Cs} {k : List Fr} {s : St} {Q : Post} : run C c44_17 k s Q = run C (.seq c44_13 c44_16) k s Q := rfl
def c44_18 : ACode := .seq c44_10 c44_17
theorem r44_18 {C : Cs} {k : List Fr} {s : St} {Q : Post} : run C c44_18 k s Q = run C (.seq c44_10 c44_17) k s Q := rfl
def c44_19 : ACode := .block 1 c44_18
theorem r44_19 {C : Cs} {k : List Fr} {s : St} {Q : Post} : run C c44_19 k s Q = run C (.block 1 c44_18) k s Q := rfl
def c44_20 : ACode := .ops [⟨some 66, .bin .add (.t 44) (.c (.int .i64 1)), none, []⟩,
  ⟨some 44, .mv (.t 66), none, []⟩] [1, 5, 9, 10, 42, 43, 44]
theorem r44_20 {C : Cs} {k : List Fr} {s : St} {Q : Post} : run C c44_20 k s Q = run C (.ops [⟨some 66, .bin .add (.t 44) (.c (.int .i64 1)), none, []⟩,
  ⟨some 44, .mv (.t 66), none, []⟩] [1, 5, 9, 10, 42, 43, 44]) k s Q := rfl
def c44_21 : ACode := .seq c44_19 c44_20
theorem r44_21 {C : Cs} {k : List Fr} {s : St} {Q : Post} : run C c44_21 k s Q = run C (.seq c44_19 c44_20) k s Q := rfl
def c44_22 : ACode := .seq c44_9 c44_21
theorem r44_22 {C : Cs} {k : List Fr} {s : St} {Q : Post} : run C c44_22 k s Q = run C (.seq c44_9 c44_21) k s Q := rfl
def c44_23 : ACode := .seq c44_8 c44_22
theorem r44_23 {C : Cs} {k : List Fr} {s : St} {Q : Post} : run C c44_23 k s Q = run C (.seq c44_8 c44_22) k s Q := rfl
def c44_24 : ACode := .keep [1, 5, 9, 10, 42, 43, 44] [5] c44_23
theorem r44_24 {C : Cs} {k : List Fr} {s : St} {Q : Post} : run C c44_24 k s Q = run C (.keep [1, 5, 9, 10, 42, 43, 44] [5] c44_23) k s Q := rfl
def c44_25 : ACode := .loop c44_24
theorem r44_25 {C : Cs} {k : List Fr} {s : St} {Q : Post} : run C c44_25 k s Q = run C (.loop c44_24) k s Q := rfl
def c44_26 : ACode := .block 0 c44_25
theorem r44_26 {C : Cs} {k : List Fr} {s : St} {Q : Post} : run C c44_26 k s Q = run C (.block 0 c44_25) k s Q := rfl
def c44_27 : ACode := .seq c44_7 c44_26
theorem r44_27 {C : Cs} {k : List Fr} {s : St} {Q : Post} : run C c44_27 k s Q = run C (.seq c44_7 c44_26) k s Q := rfl
def c44_28 : ACode := .ops [⟨some 67, .mv (.t 9), none, []⟩,
  ⟨some 68, .mv (.t 10), none, []⟩,
  ⟨some 6, .mv (.t 67), none, []⟩,
  ⟨some 7, .mv (.t 68), none, []⟩,
  ⟨some 8, .mv (.c (.bool true)), none, []⟩] [6, 7, 8]
theorem r44_28 {C : Cs} {k : List Fr} {s : St} {Q : Post} : run C c44_28 k s Q = run C (.ops [⟨some 67, .mv (.t 9), none, []⟩,
  ⟨some 68, .mv (.t 10), none, []⟩,
  ⟨some 6, .mv (.t 67), none, []⟩,
  ⟨some 7, .mv (.t 68), none, []⟩,
  ⟨some 8, .mv (.c (.bool true)), none, []⟩] [6, 7, 8]) k s Q := rfl
def c44_29 : ACode := .seq c44_28 .ret
theorem r44_29 {C : Cs} {k : List Fr} {s : St} {Q : Post} : run C c44_29 k s Q = run C (.seq c44_28 .ret) k s Q := rfl
def c44_30 : ACode := .seq c44_27 c44_29
theorem r44_30 {C : Cs} {k : List Fr} {s : St} {Q : Post} : run C c44_30 k s Q = run C (.seq c44_27 c44_29) k s Q := rfl
def c44_31 : ACode := .seq c44_6 c44_30
theorem r44_31 {C : Cs} {k : List Fr} {s : St} {Q : Post} : run C c44_31 k s Q = run C (.seq c44_6 c44_30) k s Q := rfl
def c44_32 : ACode := .seq c44_5 c44_31
theorem r44_32 {C : Cs} {k : List Fr} {s : St} {Q : Post} : run C c44_32 k s Q = run C (.seq c44_5 c44_31) k s Q := rfl
def c44_33 : ACode := .seq c44_0 c44_32
theorem r44_33 {C : Cs} {k : List Fr} {s : St} {Q : Post} : run C c44_33 k s Q = run C (.seq c44_0 c44_32) k s Q := rfl
def a44 : AFun := ⟨3, 69, c44_33, [.t 6, .t 7, .t 8]⟩
attribute [simp] r44_0 r44_1 r44_2 r44_3 r44_4 r44_5 r44_6 r44_7 r44_8 r44_9 r44_10 r44_11 r44_12 r44_13 r44_14 r44_15 r44_16 r44_17 r44_18 r44_19 r44_20 r44_21 r44_22 r44_23 r44_24 r44_25 r44_26 r44_27 r44_28 r44_29 r44_30 r44_31 r44_32 r44_33
theorem m44 : mFun Try.prog Try.f44 a44 = true := by decide +kernel


theorem rd_piece (l : List Piece) (i : Nat) (h : i < l.length) : rd (encL l) (i * 11) 11 true = some (.agg (Row.enc l[i])) := rd_row l i h
theorem rd_piece10 (l : List Piece) (i : Nat) (h : i < l.length) : rd (encL l) (i * 11 + 10) 1 false = some (.int .i64 l[i].value) := rd_cell l i 10 h (by decide)
@[simp 5000] theorem rd_biasN (a b : Int) (x : Bias) (y : AV) (k : Nat) (h : k < 3) : rd [.int .i64 a, .int .i64 b, .int .i64 x.b0, .int .i64 x.b1, .int .i64 x.b2, y] (2 + k) 1 false = some (.int .i64 (x.get k)) := by
  have := rd_bias a b x y k (by omega) (by omega)
  simpa using this
theorem piecesX (l : List Word) (b : Box) : ends (if b.empty then [] else pieces l b) = boundT l b := by
  unfold boundT
  cases b.empty <;> rfl
theorem len_pieces (l : List Word) (b : Box) : (if b.empty then [] else pieces l b).length ≤ l.length := by
  split
  · simp
  · exact piecesTo_len l b l.length

noncomputable def BoundT (l : List Word) (b : Box) : Option (Tri Int Int Bool) := Part ((∃ d, RT l d) ∧ okB b) (boundT l b)
set_option maxHeartbeats 1000000 in
theorem runs_bTree (l : List Word) (b : Box) (c : Tri Int Int Bool) (h : BoundT l b = some c) : Runs (tbl [(51, sp2 ListC)]) a48 [Arg.enc l, Arg.enc b] (Arg.enc c) := by
  obtain ⟨hh, rfl⟩ := part_some h
  refine ⟨rfl, fun g => run_def ?_⟩
  unfold a48
  have hL : ListC l b = some (if b.empty then [] else pieces l b) := part_of hh _
  have hl := len_pieces l b
  obtain ⟨⟨d, hr⟩, hb⟩ := hh
  have hle := hr.le
  rw [← piecesX]
  generalize (if b.empty then [] else pieces l b) = ps at *
  have b3 : ps.length ≤ maxN := by unfold maxN; omega
  cases ps with
  | nil => simp -implicitDefEqProofs [hL, ends, encL_nil]
  | cons x xs =>
    have hne : ¬ ((x :: xs).length : Int) = 0 := by simp; omega
    have hnn : x :: xs ≠ [] := by simp
    have r0 : rd (encL (x :: xs)) 10 1 false = some (.int .i64 x.value) := rd_piece10 (x :: xs) 0 (by simp)
    have hpos : 0 < (x :: xs).length := by simp
    have he : ends (x :: xs) = ⟨((x :: xs).foldl endF (x.value, x.value)).1, ((x :: xs).foldl endF (x.value, x.value)).2, true⟩ := rfl
    rw [he]
    generalize x :: xs = ps at *
    simp -implicitDefEqProofs [hL, b3, hne, r0, hpos]
    refine ⟨hnn, fun _ => ?_⟩
    refine run_while (c := c48_18) (fun n s => ∃ (i : Nat), i + n = ps.length ∧ s = ⟨[(8, .int .i64 ((ps.take i).foldl endF (x.value, x.value)).1), (9, .int .i64 ((ps.take i).foldl endF (x.value, x.value)).2), (26, .lst ps.length (encL ps)), (27, .int .i64 ps.length), (28, .int .i64 i)], [], s.g⟩) ps.length ⟨0, by omega, by simp⟩ ?_
    rintro n s ⟨i, hi, hs⟩
    rw [hs]
    have w1 : IntKind.i64.wrap ((i : Int) + 1) = (i : Int) + 1 := wrap64 (by omega) (by omega)
    by_cases h1 : i < ps.length
    case pos =>
      have hrow := rd_piece ps i h1
      have hs2 : (ps.take (i + 1)).foldl endF (x.value, x.value) = endF ((ps.take i).foldl endF (x.value, x.value)) ps[i] := by
        rw [List.take_succ_eq_append_getElem h1, List.foldl_append]
        rfl
      simp -implicitDefEqProofs [h1, hrow, w1]
      exact ⟨n - 1, by omega, i + 1, by omega, by rw [hs2]; rfl, by rw [hs2]; rfl, by omega⟩
    case neg =>
      have hil : i = ps.length := by omega
      subst hil
      simp -implicitDefEqProofs [h1]
theorem c_bTree : Contract Try.prog 48 (sp2 BoundT) :=
  contract_of_runs mixed (tbl_cons c_List tbl_nil) Try.func48 m48 (sp2_runs runs_bTree)

noncomputable def BoundS (m : Model) (c : Int) (b : Box) : Option (Tri Int Int Bool) := Part (RM m ∧ okB b) (boundM m c b)
set_option maxHeartbeats 1000000 in
theorem runs_bSum (m : Model) (c : Int) (b : Box) (r : Tri Int Int Bool) (h : BoundS m c b = some r) : Runs (tbl [(71, sp1 MRight), (68, sp1 fun (b : Box) => some b.empty), (48, sp2 BoundT)]) a44 [Arg.enc m, Arg.enc c, Arg.enc b] (Arg.enc r) := by
  obtain ⟨⟨hr, hb⟩, rfl⟩ := part_some h
  refine ⟨rfl, fun g => run_def ?_⟩
  unfold a44
  have hM : MRight m = some true := by unfold MRight; rw [if_neg (by have := hr.dim; omega)]; exact part_of hr _
  by_cases h0 : c < 0
  case pos => simp -implicitDefEqProofs [hM, h0, boundM]
  by_cases h1 : m.classes ≤ c
  case pos => simp -implicitDefEqProofs [hM, h0, h1, boundM]
  cases he : b.empty
  case true => simp -implicitDefEqProofs [hM, h0, h1, he, boundM]
  have hle := hr.trees
  have b3 : m.trees.length ≤ maxN := by unfold maxN; omega
  have c0 : 0 ≤ c := by omega
  have c3 : c < 3 := by have := hr.classes; omega
  have hres : boundM m c b = ⟨(boundP m c b).1, (boundP m c b).2, true⟩ := by unfold boundM; rw [if_neg (by simp [he]; omega)]
  rw [hres]
  simp -implicitDefEqProofs [hM, h0, h1, he, b3, c0, c3]
  refine run_while (c := c44_23) (fun n s => ∃ (i : Nat) (g : Nat → Nat), i + n = m.trees.length ∧ s = ⟨[(1, .int .i64 c), (5, .ptr 5 (g 5) 0), (9, .int .i64 ((m.trees.take i).foldl (boundF c b) (m.bias.get c, m.bias.get c)).1), (10, .int .i64 ((m.trees.take i).foldl (boundF c b) (m.bias.get c, m.bias.get c)).2), (42, .lst m.trees.length (encL m.trees)), (43, .int .i64 m.trees.length), (44, .int .i64 i)],
    [(5, ⟨[.int .i64 b.s0.lo, .int .i64 b.s0.hi, .int .i64 b.s1.lo, .int .i64 b.s1.hi, .int .i64 b.s2.lo, .int .i64 b.s2.hi, .int .i64 b.s3.lo, .int .i64 b.s3.hi, .int .i64 b.s4.lo, .int .i64 b.s4.hi], false, 0⟩)], g⟩) m.trees.length ⟨0, bump 5 (bump 3 g), by omega, by simp⟩ ?_
  rintro n s ⟨i, g, hi, rfl⟩
  by_cases h1 : i < m.trees.length
  case pos =>
    have w1 : IntKind.i64.wrap ((i : Int) + 1) = (i : Int) + 1 := wrap64 (by omega) (by omega)
    have hrow := rd_tree m.trees i h1
    have hrt := hr.rt (List.getElem_mem h1)
    have hV : BoundT m.trees[i].nodes b = some (boundT m.trees[i].nodes b) := part_of ⟨⟨_, hrt⟩, hb⟩ _
    have hbd := boundF_le (c := c) he (m.trees.take (i + 1)) (m.bias.get c, m.bias.get c) (fun t ht => ⟨_, hr.rt (List.mem_of_mem_take ht)⟩)
    have hb2 := of_fits (Bias.get_fits hr c)
    have hs : (m.trees.take (i + 1)).foldl (boundF c b) (m.bias.get c, m.bias.get c) = boundF c b ((m.trees.take i).foldl (boundF c b) (m.bias.get c, m.bias.get c)) m.trees[i] := by
      rw [List.take_succ_eq_append_getElem h1, List.foldl_append]
      rfl
    have hl : (m.trees.take (i + 1)).length ≤ 8 := by simp; omega
    simp only at hbd
    by_cases hc : m.trees[i].cls = c
    case pos =>
      have hs1 : ((m.trees.take (i + 1)).foldl (boundF c b) (m.bias.get c, m.bias.get c)).1 = ((m.trees.take i).foldl (boundF c b) (m.bias.get c, m.bias.get c)).1 + (boundT m.trees[i].nodes b).a := by rw [hs, boundF, if_pos hc]
      have hs2 : ((m.trees.take (i + 1)).foldl (boundF c b) (m.bias.get c, m.bias.get c)).2 = ((m.trees.take i).foldl (boundF c b) (m.bias.get c, m.bias.get c)).2 + (boundT m.trees[i].nodes b).b := by rw [hs, boundF, if_pos hc]
      have w2 : IntKind.i64.wrap (((m.trees.take i).foldl (boundF c b) (m.bias.get c, m.bias.get c)).1 + (boundT m.trees[i].nodes b).a) = ((m.trees.take (i + 1)).foldl (boundF c b) (m.bias.get c, m.bias.get c)).1 := by rw [← hs1]; exact wrap64 (by omega) (by omega)
      have w3 : IntKind.i64.wrap (((m.trees.take i).foldl (boundF c b) (m.bias.get c, m.bias.get c)).2 + (boundT m.trees[i].nodes b).b) = ((m.trees.take (i + 1)).foldl (boundF c b) (m.bias.get c, m.bias.get c)).2 := by rw [← hs2]; exact wrap64 (by omega) (by omega)
      simp -implicitDefEqProofs [h1, hrow, hc, hV, w1, w2, w3]
      exact ⟨n - 1, by omega, i + 1, by omega, rfl, rfl, by omega⟩
    case neg =>
      have hs2 : (m.trees.take (i + 1)).foldl (boundF c b) (m.bias.get c, m.bias.get c) = (m.trees.take i).foldl (boundF c b) (m.bias.get c, m.bias.get c) := by rw [hs, boundF, if_neg hc]
      simp -implicitDefEqProofs [h1, hrow, hc, hV, w1]
      exact ⟨n - 1, by omega, i + 1, by omega, by rw [hs2], by rw [hs2], by omega⟩
  case neg =>
    have hil : i = m.trees.length := by omega
    subst hil
    simp -implicitDefEqProofs [h1, boundP]
theorem c_bSum : Contract Try.prog 44 (sp3 BoundS) :=
  contract_of_runs mixed (tbl_cons c_mRight (tbl_cons c_bEmpty (tbl_cons c_bTree tbl_nil))) Try.func44 m44 (sp3_runs runs_bSum)
end Go.Co
