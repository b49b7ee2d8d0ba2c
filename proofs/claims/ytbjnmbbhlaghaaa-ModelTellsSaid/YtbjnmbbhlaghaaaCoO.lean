/- CO: margins, the best class (written by mkCoO.py). -/
import Derived.Test.YtbjnmbbhlaghaaaCoIn
namespace Go.Co
open Go.Am Go.Proofs
set_option linter.unusedSimpArgs false
set_option linter.unusedVariables false

/- copse/bound.Margin -/
def c79_0 : ACode := .ops [⟨some 3, .box (.t 0) 6, none, []⟩,
  ⟨some 5, .box (.t 2) 10, none, []⟩,
  ⟨some 6, .mv (.c (.int .i64 0)), none, []⟩,
  ⟨some 7, .mv (.c (.bool false)), none, []⟩] [1, 3, 5]
theorem r79_0 {C : Cs} {k : List Fr} {s : St} {Q : Post} : run C c79_0 k s Q = run C (.ops [⟨some 3, .box (.t 0) 6, none, []⟩,
  ⟨some 5, .box (.t 2) 10, none, []⟩,
  ⟨some 6, .mv (.c (.int .i64 0)), none, []⟩,
  ⟨some 7, .mv (.c (.bool false)), none, []⟩] [1, 3, 5]) k s Q := rfl
def c79_1 : ACode := .ops [⟨some 18, .load 6 true (.t 3), none, [3]⟩,
  ⟨some 19, .mv (.t 1), none, []⟩,
  ⟨some 20, .load 10 true (.t 5), none, [5]⟩,
  ⟨some 21, .call 44 [.t 18, .t 19, .t 20], none, []⟩,
  ⟨some 17, .mv (.t 21), none, []⟩,
  ⟨some 22, .ext (.t 17) 0, none, []⟩,
  ⟨some 23, .ext (.t 17) 1, none, []⟩,
  ⟨some 24, .ext (.t 17) 2, none, []⟩,
  ⟨some 8, .mv (.t 22), none, []⟩,
  ⟨some 9, .mv (.t 23), none, []⟩,
  ⟨some 10, .mv (.t 24), none, []⟩] [1, 3, 5, 8, 10]
theorem r79_1 {C : Cs} {k : List Fr} {s : St} {Q : Post} : run C c79_1 k s Q = run C (.ops [⟨some 18, .load 6 true (.t 3), none, [3]⟩,
  ⟨some 19, .mv (.t 1), none, []⟩,
  ⟨some 20, .load 10 true (.t 5), none, [5]⟩,
  ⟨some 21, .call 44 [.t 18, .t 19, .t 20], none, []⟩,
  ⟨some 17, .mv (.t 21), none, []⟩,
  ⟨some 22, .ext (.t 17) 0, none, []⟩,
  ⟨some 23, .ext (.t 17) 1, none, []⟩,
  ⟨some 24, .ext (.t 17) 2, none, []⟩,
  ⟨some 8, .mv (.t 22), none, []⟩,
  ⟨some 9, .mv (.t 23), none, []⟩,
  ⟨some 10, .mv (.t 24), none, []⟩] [1, 3, 5, 8, 10]) k s Q := rfl
def c79_2 : ACode := .ops [⟨some 25, .mv (.t 10), none, []⟩,
  ⟨some 26, .un .not (.t 25), none, []⟩,
  ⟨some 27, .mv (.t 26), none, []⟩,
  ⟨some 28, .fad (.t 3) 1, some (27, false), [3]⟩,
  ⟨some 29, .load 1 false (.t 28), some (27, false), [3]⟩,
  ⟨some 30, .bin .lss (.t 29) (.c (.int .i64 2)), some (27, false), []⟩,
  ⟨some 31, .pick (.t 27) (.c (.bool true)) (.t 30), none, []⟩] [1, 3, 5, 8, 31]
theorem r79_2 {C : Cs} {k : List Fr} {s : St} {Q : Post} : run C c79_2 k s Q = run C (.ops [⟨some 25, .mv (.t 10), none, []⟩,
  ⟨some 26, .un .not (.t 25), none, []⟩,
  ⟨some 27, .mv (.t 26), none, []⟩,
  ⟨some 28, .fad (.t 3) 1, some (27, false), [3]⟩,
  ⟨some 29, .load 1 false (.t 28), some (27, false), [3]⟩,
  ⟨some 30, .bin .lss (.t 29) (.c (.int .i64 2)), some (27, false), []⟩,
  ⟨some 31, .pick (.t 27) (.c (.bool true)) (.t 30), none, []⟩] [1, 3, 5, 8, 31]) k s Q := rfl
def c79_3 : ACode := .ops [⟨some 6, .mv (.c (.int .i64 0)), none, []⟩,
  ⟨some 7, .mv (.c (.bool false)), none, []⟩] [6, 7]
theorem r79_3 {C : Cs} {k : List Fr} {s : St} {Q : Post} : run C c79_3 k s Q = run C (.ops [⟨some 6, .mv (.c (.int .i64 0)), none, []⟩,
  ⟨some 7, .mv (.c (.bool false)), none, []⟩] [6, 7]) k s Q := rfl
def c79_4 : ACode := .seq c79_3 .ret
theorem r79_4 {C : Cs} {k : List Fr} {s : St} {Q : Post} : run C c79_4 k s Q = run C (.seq c79_3 .ret) k s Q := rfl
def c79_5 : ACode := .cond (.t 31) c79_4 .skip
theorem r79_5 {C : Cs} {k : List Fr} {s : St} {Q : Post} : run C c79_5 k s Q = run C (.cond (.t 31) c79_4 .skip) k s Q := rfl
def c79_6 : ACode := .seq c79_2 c79_5
theorem r79_6 {C : Cs} {k : List Fr} {s : St} {Q : Post} : run C c79_6 k s Q = run C (.seq c79_2 c79_5) k s Q := rfl
def c79_7 : ACode := .ops [⟨some 11, .mv (.c (.int .i64 0)), none, []⟩,
  ⟨some 12, .mv (.c (.bool false)), none, []⟩] [1, 3, 5, 8, 11, 12]
theorem r79_7 {C : Cs} {k : List Fr} {s : St} {Q : Post} : run C c79_7 k s Q = run C (.ops [⟨some 11, .mv (.c (.int .i64 0)), none, []⟩,
  ⟨some 12, .mv (.c (.bool false)), none, []⟩] [1, 3, 5, 8, 11, 12]) k s Q := rfl
def c79_8 : ACode := .ops [⟨some 32, .fad (.t 3) 1, none, [3]⟩,
  ⟨some 33, .load 1 false (.t 32), none, [3]⟩,
  ⟨some 34, .mv (.c (.int .i64 0)), none, []⟩] [1, 3, 5, 8, 11, 12, 33, 34]
theorem r79_8 {C : Cs} {k : List Fr} {s : St} {Q : Post} : run C c79_8 k s Q = run C (.ops [⟨some 32, .fad (.t 3) 1, none, [3]⟩,
  ⟨some 33, .load 1 false (.t 32), none, [3]⟩,
  ⟨some 34, .mv (.c (.int .i64 0)), none, []⟩] [1, 3, 5, 8, 11, 12, 33, 34]) k s Q := rfl
def c79_9 : ACode := .ops [⟨some 35, .bin .lss (.t 34) (.t 33), none, []⟩] [1, 3, 5, 8, 11, 12, 33, 34, 35]
theorem r79_9 {C : Cs} {k : List Fr} {s : St} {Q : Post} : run C c79_9 k s Q = run C (.ops [⟨some 35, .bin .lss (.t 34) (.t 33), none, []⟩] [1, 3, 5, 8, 11, 12, 33, 34, 35]) k s Q := rfl
def c79_10 : ACode := .cond (.t 35) .skip (.exit 0)
theorem r79_10 {C : Cs} {k : List Fr} {s : St} {Q : Post} : run C c79_10 k s Q = run C (.cond (.t 35) .skip (.exit 0)) k s Q := rfl
def c79_11 : ACode := .ops [⟨some 36, .mv (.t 34), none, []⟩,
  ⟨some 13, .mv (.t 36), none, []⟩] [1, 3, 5, 8, 11, 12, 13, 33, 34]
theorem r79_11 {C : Cs} {k : List Fr} {s : St} {Q : Post} : run C c79_11 k s Q = run C (.ops [⟨some 36, .mv (.t 34), none, []⟩,
  ⟨some 13, .mv (.t 36), none, []⟩] [1, 3, 5, 8, 11, 12, 13, 33, 34]) k s Q := rfl
def c79_12 : ACode := .ops [⟨some 37, .mv (.t 13), none, []⟩,
  ⟨some 38, .mv (.t 1), none, []⟩,
  ⟨some 39, .bin .eql (.t 37) (.t 38), none, []⟩] [1, 3, 5, 8, 11, 12, 13, 33, 34, 39]
theorem r79_12 {C : Cs} {k : List Fr} {s : St} {Q : Post} : run C c79_12 k s Q = run C (.ops [⟨some 37, .mv (.t 13), none, []⟩,
  ⟨some 38, .mv (.t 1), none, []⟩,
  ⟨some 39, .bin .eql (.t 37) (.t 38), none, []⟩] [1, 3, 5, 8, 11, 12, 13, 33, 34, 39]) k s Q := rfl
def c79_13 : ACode := .cond (.t 39) (.exit 1) .skip
theorem r79_13 {C : Cs} {k : List Fr} {s : St} {Q : Post} : run C c79_13 k s Q = run C (.cond (.t 39) (.exit 1) .skip) k s Q := rfl
def c79_14 : ACode := .seq c79_12 c79_13
theorem r79_14 {C : Cs} {k : List Fr} {s : St} {Q : Post} : run C c79_14 k s Q = run C (.seq c79_12 c79_13) k s Q := rfl
def c79_15 : ACode := .ops [⟨some 41, .load 6 true (.t 3), none, [3]⟩,
  ⟨some 42, .mv (.t 13), none, []⟩,
  ⟨some 43, .load 10 true (.t 5), none, [5]⟩,
  ⟨some 44, .call 44 [.t 41, .t 42, .t 43], none, []⟩,
  ⟨some 40, .mv (.t 44), none, []⟩,
  ⟨some 45, .ext (.t 40) 0, none, []⟩,
  ⟨some 46, .ext (.t 40) 1, none, []⟩,
  ⟨some 47, .ext (.t 40) 2, none, []⟩,
  ⟨some 14, .mv (.t 45), none, []⟩,
  ⟨some 15, .mv (.t 46), none, []⟩,
  ⟨some 16, .mv (.t 47), none, []⟩] [1, 3, 5, 8, 11, 12, 15, 33, 34]
theorem r79_15 {C : Cs} {k : List Fr} {s : St} {Q : Post} : run C c79_15 k s Q = run C (.ops [⟨some 41, .load 6 true (.t 3), none, [3]⟩,
  ⟨some 42, .mv (.t 13), none, []⟩,
  ⟨some 43, .load 10 true (.t 5), none, [5]⟩,
  ⟨some 44, .call 44 [.t 41, .t 42, .t 43], none, []⟩,
  ⟨some 40, .mv (.t 44), none, []⟩,
  ⟨some 45, .ext (.t 40) 0, none, []⟩,
  ⟨some 46, .ext (.t 40) 1, none, []⟩,
  ⟨some 47, .ext (.t 40) 2, none, []⟩,
  ⟨some 14, .mv (.t 45), none, []⟩,
  ⟨some 15, .mv (.t 46), none, []⟩,
  ⟨some 16, .mv (.t 47), none, []⟩] [1, 3, 5, 8, 11, 12, 15, 33, 34]) k s Q := rfl
def c79_16 : ACode := .ops [⟨some 48, .mv (.t 12), none, []⟩,
  ⟨some 49, .un .not (.t 48), none, []⟩,
  ⟨some 50, .mv (.t 49), none, []⟩,
  ⟨some 51, .mv (.t 8), some (50, false), []⟩,
  ⟨some 52, .mv (.t 15), some (50, false), []⟩,
  ⟨some 53, .bin .sub (.t 51) (.t 52), some (50, false), []⟩,
  ⟨some 54, .mv (.t 11), some (50, false), []⟩,
  ⟨some 55, .bin .lss (.t 53) (.t 54), some (50, false), []⟩,
  ⟨some 56, .pick (.t 50) (.c (.bool true)) (.t 55), none, []⟩] [1, 3, 5, 8, 11, 12, 15, 33, 34, 56]
theorem r79_16 {C : Cs} {k : List Fr} {s : St} {Q : Post} : run C c79_16 k s Q = run C (.ops [⟨some 48, .mv (.t 12), none, []⟩,
  ⟨some 49, .un .not (.t 48), none, []⟩,
  ⟨some 50, .mv (.t 49), none, []⟩,
  ⟨some 51, .mv (.t 8), some (50, false), []⟩,
  ⟨some 52, .mv (.t 15), some (50, false), []⟩,
  ⟨some 53, .bin .sub (.t 51) (.t 52), some (50, false), []⟩,
  ⟨some 54, .mv (.t 11), some (50, false), []⟩,
  ⟨some 55, .bin .lss (.t 53) (.t 54), some (50, false), []⟩,
  ⟨some 56, .pick (.t 50) (.c (.bool true)) (.t 55), none, []⟩] [1, 3, 5, 8, 11, 12, 15, 33, 34, 56]) k s Q := rfl
def c79_17 : ACode := .ops [⟨some 57, .mv (.t 8), none, []⟩,
  ⟨some 58, .mv (.t 15), none, []⟩,
  ⟨some 59, .bin .sub (.t 57) (.t 58), none, []⟩,
  ⟨some 11, .mv (.t 59), none, []⟩,
  ⟨some 12, .mv (.c (.bool true)), none, []⟩] [1, 3, 5, 8, 11, 12, 33, 34]
theorem r79_17 {C : Cs} {k : List Fr} {s : St} {Q : Post} : run C c79_17 k s Q = run C (.ops [⟨some 57, .mv (.t 8), none, []⟩,
  ⟨some 58, .mv (.t 15), none, []⟩,
  ⟨some 59, .bin .sub (.t 57) (.t 58), none, []⟩,
  ⟨some 11, .mv (.t 59), none, []⟩,
  ⟨some 12, .mv (.c (.bool true)), none, []⟩] [1, 3, 5, 8, 11, 12, 33, 34]) k s Q := rfl
def c79_18 : ACode := .cond (.t 56) c79_17 .skip
theorem r79_18 {C : Cs} {k : List Fr} {s : St} {Q : Post} : run C c79_18 k s Q = run C (.cond (.t 56) c79_17 .skip) k s Q := rfl
def c79_19 : ACode := .seq c79_16 c79_18
theorem r79_19 {C : Cs} {k : List Fr} {s : St} {Q : Post} : run C c79_19 k s Q = run C (.seq c79_16 c79_18) k s Q := rfl
def c79_20 : ACode := .seq c79_15 c79_19
theorem r79_20 {C : Cs} {k : List Fr} {s : St} {Q : Post} : run C c79_20 k s Q = run C (.seq c79_15 c79_19) k s Q := rfl
def c79_21 : ACode := .seq c79_14 c79_20
theorem r79_21 {C : Cs} {k : List Fr} {s : St} {Q : Post} : run C c79_21 k s Q = run C (.seq c79_14 c79_20) k s Q := rfl
def c79_22 : ACode := .seq c79_11 c79_21
theorem r79_22 {C : Cs} {k : List Fr} {s : St} {Q : Post} : run C c79_22 k s Q = run C (.seq c79_11 c79_21) k s Q := rfl
def c79_23 : ACode := .block 1 c79_22
theorem r79_23 {C : Cs} {k : List Fr} {s : St} {Q : Post} : run C c79_23 k s Q = run C (.block 1 c79_22) k s Q := rfl
def c79_24 : ACode := .ops [⟨some 60, .bin .add (.t 34) (.c (.int .i64 1)), none, []⟩,
  ⟨some 34, .mv (.t 60), none, []⟩] [1, 3, 5, 8, 11, 12, 33, 34]
theorem r79_24 {C : Cs} {k : List Fr} {s : St} {Q : Post} : run C c79_24 k s Q = run C (.ops [⟨some 60, .bin .add (.t 34) (.c (.int .i64 1)), none, []⟩,
  ⟨some 34, .mv (.t 60), none, []⟩] [1, 3, 5, 8, 11, 12, 33, 34]) k s Q := rfl
def c79_25 : ACode := .seq c79_23 c79_24
theorem r79_25 {C : Cs} {k : List Fr} {s : St} {Q : Post} : run C c79_25 k s Q = run C (.seq c79_23 c79_24) k s Q := rfl
def c79_26 : ACode := .seq c79_10 c79_25
theorem r79_26 {C : Cs} {k : List Fr} {s : St} {Q : Post} : run C c79_26 k s Q = run C (.seq c79_10 c79_25) k s Q := rfl
def c79_27 : ACode := .seq c79_9 c79_26
theorem r79_27 {C : Cs} {k : List Fr} {s : St} {Q : Post} : run C c79_27 k s Q = run C (.seq c79_9 c79_26) k s Q := rfl
def c79_28 : ACode := .keep [1, 3, 5, 8, 11, 12, 33, 34] [3, 5] c79_27
theorem r79_28 {C : Cs} {k : List Fr} {s : St} {Q : Post} : run C c79_28 k s Q = run C (.keep [1, 3, 5, 8, 11, 12, 33, 34] [3, 5] c79_27) k s Q := rfl
def c79_29 : ACode := .loop c79_28
theorem r79_29 {C : Cs} {k : List Fr} {s : St} {Q : Post} : run C c79_29 k s Q = run C (.loop c79_28) k s Q := rfl
def c79_30 : ACode := .block 0 c79_29
theorem r79_30 {C : Cs} {k : List Fr} {s : St} {Q : Post} : run C c79_30 k s Q = run C (.block 0 c79_29) k s Q := rfl
def c79_31 : ACode := .seq c79_8 c79_30
theorem r79_31 {C : Cs} {k : List Fr} {s : St} {Q : Post} : run C c79_31 k s Q = run C (.seq c79_8 c79_30) k s Q := rfl
def c79_32 : ACode := .ops [⟨some 61, .mv (.t 11), none, []⟩,
  ⟨some 6, .mv (.t 61), none, []⟩,
  ⟨some 7, .mv (.c (.bool true)), none, []⟩] [6, 7]
theorem r79_32 {C : Cs} {k : List Fr} {s : St} {Q : Post} : run C c79_32 k s Q = run C (.ops [⟨some 61, .mv (.t 11), none, []⟩,
  ⟨some 6, .mv (.t 61), none, []⟩,
  ⟨some 7, .mv (.c (.bool true)), none, []⟩] [6, 7]) k s Q := rfl
def c79_33 : ACode := .seq c79_32 .ret
theorem r79_33 {C : Cs} {k : List Fr} {s : St} {Q : Post} : run C c79_33 k s Q = run C (.seq c79_32 .ret) k s Q := rfl
def c79_34 : ACode := .seq c79_31 c79_33
theorem r79_34 {C : Cs} {k : List Fr} {s : St} {Q : Post} : run C c79_34 k s Q = run C (.seq c79_31 c79_33) k s Q := rfl
def c79_35 : ACode := .seq c79_7 c79_34
theorem r79_35 {C : Cs} {k : List Fr} {s : St} {Q : Post} : run C c79_35 k s Q = run C (.seq c79_7 c79_34) k s Q := rfl
def c79_36 : ACode := .seq c79_6 c79_35
theorem r79_36 {C : Cs} {k : List Fr} {s : St} {Q : Post} : run C c79_36 k s Q = run C (.seq c79_6 c79_35) k s Q := rfl
def c79_37 : ACode := .seq c79_1 c79_36
theorem r79_37 {C : Cs} {k : List Fr} {s : St} {Q : Post} : run C c79_37 k s Q = run C (.seq c79_1 c79_36) k s Q := rfl
def c79_38 : ACode := .seq c79_0 c79_37
theorem r79_38 {C : Cs} {k : List Fr} {s : St} {Q : Post} : run C c79_38 k s Q = run C (.seq c79_0 c79_37) k s Q := rfl
def a79 : AFun := ⟨3, 62, c79_38, [.t 6, .t 7]⟩
attribute [simp] r79_0 r79_1 r79_2 r79_3 r79_4 r79_5 r79_6 r79_7 r79_8 r79_9 r79_10 r79_11 r79_12 r79_13 r79_14 r79_15 r79_16 r79_17 r79_18 r79_19 r79_20 r79_21 r79_22 r79_23 r79_24 r79_25 r79_26 r79_27 r79_28 r79_29 r79_30 r79_31 r79_32 r79_33 r79_34 r79_35 r79_36 r79_37 r79_38
theorem m79 : mFun Try.prog Try.f79 a79 = true := by decide +kernel
/- copse/model.Best -/
def c78_0 : ACode := .ops [⟨some 2, .box (.t 0) 6, none, []⟩,
  ⟨some 3, .box (.t 1) 4, none, []⟩,
  ⟨some 4, .mv (.c (.int .i64 0)), none, []⟩] [2, 3]
theorem r78_0 {C : Cs} {k : List Fr} {s : St} {Q : Post} : run C c78_0 k s Q = run C (.ops [⟨some 2, .box (.t 0) 6, none, []⟩,
  ⟨some 3, .box (.t 1) 4, none, []⟩,
  ⟨some 4, .mv (.c (.int .i64 0)), none, []⟩] [2, 3]) k s Q := rfl
def c78_1 : ACode := .ops [⟨some 7, .load 6 true (.t 2), none, [2]⟩,
  ⟨some 8, .call 71 [.t 7], none, []⟩,
  ⟨some 9, .un .not (.t 8), none, []⟩] [2, 3, 9]
theorem r78_1 {C : Cs} {k : List Fr} {s : St} {Q : Post} : run C c78_1 k s Q = run C (.ops [⟨some 7, .load 6 true (.t 2), none, [2]⟩,
  ⟨some 8, .call 71 [.t 7], none, []⟩,
  ⟨some 9, .un .not (.t 8), none, []⟩] [2, 3, 9]) k s Q := rfl
def c78_2 : ACode := .ops [⟨some 4, .mv (.c (.int .i64 (-1))), none, []⟩] [4]
theorem r78_2 {C : Cs} {k : List Fr} {s : St} {Q : Post} : run C c78_2 k s Q = run C (.ops [⟨some 4, .mv (.c (.int .i64 (-1))), none, []⟩] [4]) k s Q := rfl
def c78_3 : ACode := .seq c78_2 .ret
theorem r78_3 {C : Cs} {k : List Fr} {s : St} {Q : Post} : run C c78_3 k s Q = run C (.seq c78_2 .ret) k s Q := rfl
def c78_4 : ACode := .cond (.t 9) c78_3 .skip
theorem r78_4 {C : Cs} {k : List Fr} {s : St} {Q : Post} : run C c78_4 k s Q = run C (.cond (.t 9) c78_3 .skip) k s Q := rfl
def c78_5 : ACode := .seq c78_1 c78_4
theorem r78_5 {C : Cs} {k : List Fr} {s : St} {Q : Post} : run C c78_5 k s Q = run C (.seq c78_1 c78_4) k s Q := rfl
def c78_6 : ACode := .ops [⟨some 5, .mv (.c (.int .i64 0)), none, []⟩] [2, 3, 5]
theorem r78_6 {C : Cs} {k : List Fr} {s : St} {Q : Post} : run C c78_6 k s Q = run C (.ops [⟨some 5, .mv (.c (.int .i64 0)), none, []⟩] [2, 3, 5]) k s Q := rfl
def c78_7 : ACode := .ops [⟨some 6, .mv (.c (.int .i64 1)), none, []⟩] [2, 3, 5, 6]
theorem r78_7 {C : Cs} {k : List Fr} {s : St} {Q : Post} : run C c78_7 k s Q = run C (.ops [⟨some 6, .mv (.c (.int .i64 1)), none, []⟩] [2, 3, 5, 6]) k s Q := rfl
def c78_8 : ACode := .ops [⟨some 10, .mv (.t 6), none, []⟩,
  ⟨some 11, .fad (.t 2) 1, none, [2]⟩,
  ⟨some 12, .load 1 false (.t 11), none, [2]⟩,
  ⟨some 13, .bin .lss (.t 10) (.t 12), none, []⟩] [2, 3, 5, 6, 13]
theorem r78_8 {C : Cs} {k : List Fr} {s : St} {Q : Post} : run C c78_8 k s Q = run C (.ops [⟨some 10, .mv (.t 6), none, []⟩,
  ⟨some 11, .fad (.t 2) 1, none, [2]⟩,
  ⟨some 12, .load 1 false (.t 11), none, [2]⟩,
  ⟨some 13, .bin .lss (.t 10) (.t 12), none, []⟩] [2, 3, 5, 6, 13]) k s Q := rfl
def c78_9 : ACode := .cond (.t 13) .skip (.exit 0)
theorem r78_9 {C : Cs} {k : List Fr} {s : St} {Q : Post} : run C c78_9 k s Q = run C (.cond (.t 13) .skip (.exit 0)) k s Q := rfl
def c78_10 : ACode := .seq c78_8 c78_9
theorem r78_10 {C : Cs} {k : List Fr} {s : St} {Q : Post} : run C c78_10 k s Q = run C (.seq c78_8 c78_9) k s Q := rfl
def c78_11 : ACode := .ops [⟨some 16, .load 6 true (.t 2), none, [2]⟩,
  ⟨some 17, .mv (.t 6), none, []⟩,
  ⟨some 18, .load 4 true (.t 3), none, [3]⟩,
  ⟨some 19, .call 122 [.t 16, .t 17, .t 18], none, []⟩,
  ⟨some 20, .load 6 true (.t 2), none, [2]⟩,
  ⟨some 21, .mv (.t 5), none, []⟩,
  ⟨some 22, .load 4 true (.t 3), none, [3]⟩,
  ⟨some 23, .call 122 [.t 20, .t 21, .t 22], none, []⟩,
  ⟨some 24, .bin .gtr (.t 19) (.t 23), none, []⟩] [2, 3, 5, 6, 24]
theorem r78_11 {C : Cs} {k : List Fr} {s : St} {Q : Post} : run C c78_11 k s Q = run C (.ops [⟨some 16, .load 6 true (.t 2), none, [2]⟩,
  ⟨some 17, .mv (.t 6), none, []⟩,
  ⟨some 18, .load 4 true (.t 3), none, [3]⟩,
  ⟨some 19, .call 122 [.t 16, .t 17, .t 18], none, []⟩,
  ⟨some 20, .load 6 true (.t 2), none, [2]⟩,
  ⟨some 21, .mv (.t 5), none, []⟩,
  ⟨some 22, .load 4 true (.t 3), none, [3]⟩,
  ⟨some 23, .call 122 [.t 20, .t 21, .t 22], none, []⟩,
  ⟨some 24, .bin .gtr (.t 19) (.t 23), none, []⟩] [2, 3, 5, 6, 24]) k s Q := rfl
def c78_12 : ACode := .ops [⟨some 25, .mv (.t 6), none, []⟩,
  ⟨some 5, .mv (.t 25), none, []⟩] [2, 3, 5, 6]
theorem r78_12 {C : Cs} {k : List Fr} {s : St} {Q : Post} : run C c78_12 k s Q = run C (.ops [⟨some 25, .mv (.t 6), none, []⟩,
  ⟨some 5, .mv (.t 25), none, []⟩] [2, 3, 5, 6]) k s Q := rfl
def c78_13 : ACode := .cond (.t 24) c78_12 .skip
theorem r78_13 {C : Cs} {k : List Fr} {s : St} {Q : Post} : run C c78_13 k s Q = run C (.cond (.t 24) c78_12 .skip) k s Q := rfl
def c78_14 : ACode := .seq c78_11 c78_13
theorem r78_14 {C : Cs} {k : List Fr} {s : St} {Q : Post} : run C c78_14 k s Q = run C (.seq c78_11 c78_13) k s Q := rfl
def c78_15 : ACode := .block 1 c78_14
theorem r78_15 {C : Cs} {k : List Fr} {s : St} {Q : Post} : run C c78_15 k s Q = run C (.block 1 c78_14) k s Q := rfl
def c78_16 : ACode := .ops [⟨some 14, .mv (.t 6), none, []⟩,
  ⟨some 15, .bin .add (.t 14) (.c (.int .i64 1)), none, []⟩,
  ⟨some 6, .mv (.t 15), none, []⟩] [2, 3, 5, 6]
theorem r78_16 {C : Cs} {k : List Fr} {s : St} {Q : Post} : run C c78_16 k s Q = run C (.ops [⟨some 14, .mv (.t 6), none, []⟩,
  ⟨some 15, .bin .add (.t 14) (.c (.int .i64 1)), none, []⟩,
  ⟨some 6, .mv (.t 15), none, []⟩] [2, 3, 5, 6]) k s Q := rfl
def c78_17 : ACode := .seq c78_15 c78_16
theorem r78_17 {C : Cs} {k : List Fr} {s : St} {Q : Post} : run C c78_17 k s Q = run C (.seq c78_15 c78_16) k s Q := rfl
def c78_18 : ACode := .seq c78_10 c78_17
theorem r78_18 {C : Cs} {k : List Fr} {s : St} {Q : Post} : run C c78_18 k s Q = run C (.seq c78_10 c78_17) k s Q := rfl
def c78_19 : ACode := .keep [2, 3, 5, 6] [2, 3] c78_18
theorem r78_19 {C : Cs} {k : List Fr} {s : St} {Q : Post} : run C c78_19 k s Q = run C (.keep [2, 3, 5, 6] [2, 3] c78_18) k s Q := rfl
def c78_20 : ACode := .loop c78_19
theorem r78_20 {C : Cs} {k : List Fr} {s : St} {Q : Post} : run C c78_20 k s Q = run C (.loop c78_19) k s Q := rfl
def c78_21 : ACode := .block 0 c78_20
theorem r78_21 {C : Cs} {k : List Fr} {s : St} {Q : Post} : run C c78_21 k s Q = run C (.block 0 c78_20) k s Q := rfl
def c78_22 : ACode := .seq c78_7 c78_21
theorem r78_22 {C : Cs} {k : List Fr} {s : St} {Q : Post} : run C c78_22 k s Q = run C (.seq c78_7 c78_21) k s Q := rfl
def c78_23 : ACode := .ops [⟨some 26, .mv (.t 5), none, []⟩,
  ⟨some 4, .mv (.t 26), none, []⟩] [4]
theorem r78_23 {C : Cs} {k : List Fr} {s : St} {Q : Post} : run C c78_23 k s Q = run C (.ops [⟨some 26, .mv (.t 5), none, []⟩,
  ⟨some 4, .mv (.t 26), none, []⟩] [4]) k s Q := rfl
def c78_24 : ACode := .seq c78_23 .ret
theorem r78_24 {C : Cs} {k : List Fr} {s : St} {Q : Post} : run C c78_24 k s Q = run C (.seq c78_23 .ret) k s Q := rfl
def c78_25 : ACode := .seq c78_22 c78_24
theorem r78_25 {C : Cs} {k : List Fr} {s : St} {Q : Post} : run C c78_25 k s Q = run C (.seq c78_22 c78_24) k s Q := rfl
def c78_26 : ACode := .seq c78_6 c78_25
theorem r78_26 {C : Cs} {k : List Fr} {s : St} {Q : Post} : run C c78_26 k s Q = run C (.seq c78_6 c78_25) k s Q := rfl
def c78_27 : ACode := .seq c78_5 c78_26
theorem r78_27 {C : Cs} {k : List Fr} {s : St} {Q : Post} : run C c78_27 k s Q = run C (.seq c78_5 c78_26) k s Q := rfl
def c78_28 : ACode := .seq c78_0 c78_27
theorem r78_28 {C : Cs} {k : List Fr} {s : St} {Q : Post} : run C c78_28 k s Q = run C (.seq c78_0 c78_27) k s Q := rfl
def a78 : AFun := ⟨2, 27, c78_28, [.t 4]⟩
attribute [simp] r78_0 r78_1 r78_2 r78_3 r78_4 r78_5 r78_6 r78_7 r78_8 r78_9 r78_10 r78_11 r78_12 r78_13 r78_14 r78_15 r78_16 r78_17 r78_18 r78_19 r78_20 r78_21 r78_22 r78_23 r78_24 r78_25 r78_26 r78_27 r78_28
theorem m78 : mFun Try.prog Try.f78 a78 = true := by decide +kernel


def other1 (c : Int) : Int := if c = 0 then 1 else 0
def other2 (c : Int) : Int := if c = 2 then 1 else 2
def marD (m : Model) (c : Int) (b : Box) (o : Int) : Int := (boundP m c b).1 - (boundP m o b).2
def margin (m : Model) (c : Int) (b : Box) : Int := if m.classes = 2 then marD m c b (other1 c) else min2 (marD m c b (other1 c)) (marD m c b (other2 c))
noncomputable def MarginC (m : Model) (c : Int) (b : Box) : Option (Int × Bool) := Part (RM m ∧ okB b) (if c < 0 ∨ m.classes ≤ c ∨ m.classes < 2 ∨ b.empty = true then (0, false) else (margin m c b, true))
theorem boundS_some {m : Model} (hm : RM m) {b : Box} (hb : okB b) (he : b.empty = false) {c : Int} (h0 : 0 ≤ c) (h1 : c < m.classes) : BoundS m c b = some ⟨(boundP m c b).1, (boundP m c b).2, true⟩ := by
  unfold BoundS
  rw [part_of ⟨hm, hb⟩, boundM, if_neg (by simp [he]; omega)]
theorem boundS_none {m : Model} (hm : RM m) {b : Box} (hb : okB b) {c : Int} (h : c < 0 ∨ m.classes ≤ c ∨ b.empty = true) : BoundS m c b = some ⟨0, 0, false⟩ := by
  unfold BoundS
  rw [part_of ⟨hm, hb⟩, boundM, if_pos h]
theorem mRight_some {m : Model} (hm : RM m) : MRight m = some true := by
  unfold MRight
  rw [if_neg (by have := hm.dim; omega)]
  exact part_of hm _

set_option maxHeartbeats 4000000 in
set_option maxRecDepth 100000 in
theorem runs_Margin (m : Model) (c : Int) (b : Box) (r : Int × Bool) (h : MarginC m c b = some r) : Runs (tbl [(44, sp3 BoundS)]) a79 [Arg.enc m, Arg.enc c, Arg.enc b] (Arg.enc r) := by
  obtain ⟨⟨hm, hb⟩, rfl⟩ := part_some h
  clear h
  refine ⟨rfl, fun g => run_def ?_⟩
  unfold a79
  have hcl := hm.classes
  by_cases hn : c < 0 ∨ m.classes ≤ c ∨ b.empty = true
  case pos =>
    have hS := boundS_none hm hb hn
    have : c < 0 ∨ m.classes ≤ c ∨ m.classes < 2 ∨ b.empty = true := by rcases hn with h | h | h <;> simp [h]
    rw [if_pos this]
    simp -implicitDefEqProofs [hS]
  have he : b.empty = false := by cases he : b.empty <;> simp [he] at hn ⊢
  have h0 : 0 ≤ c := by omega
  have h1 : c < m.classes := by omega
  have hS := boundS_some hm hb he h0 h1
  by_cases h2 : m.classes < 2
  case pos =>
    rw [if_pos (Or.inr (Or.inr (Or.inl h2)))]
    simp -implicitDefEqProofs [hS, h2]
  rw [if_neg (by simp [he]; omega)]
  have p0 := boundP_le hm 0 he
  have p1 := boundP_le hm 1 he
  have p2 := boundP_le hm 2 he
  have s0 := boundS_some hm hb he (c := 0) (by omega) (by omega)
  have s1 := boundS_some hm hb he (c := 1) (by omega) (by omega)
  have s2 : m.classes = 3 → _ := fun h => boundS_some hm hb he (c := 2) (by omega) (by omega)
  obtain ⟨dim, classes, bias, trees⟩ := m
  simp only at hcl h1 h2 s2
  have hcs : (classes = 2 ∧ c = 0) ∨ (classes = 2 ∧ c = 1) ∨ (classes = 3 ∧ c = 0) ∨ (classes = 3 ∧ c = 1) ∨ (classes = 3 ∧ c = 2) := by omega
  rcases hcs with ⟨rfl, rfl⟩ | ⟨rfl, rfl⟩ | ⟨rfl, rfl⟩ | ⟨rfl, rfl⟩ | ⟨rfl, rfl⟩
  · skip
    have w0 : IntKind.i64.wrap ((boundP ⟨dim, 2, bias, trees⟩ 0 b).1 - (boundP ⟨dim, 2, bias, trees⟩ 1 b).2) = marD ⟨dim, 2, bias, trees⟩ 0 b 1 := by unfold marD; exact wrap64 (by omega) (by omega)
    have hmm : margin ⟨dim, 2, bias, trees⟩ 0 b = marD ⟨dim, 2, bias, trees⟩ 0 b 1 := by simp [margin, other1]
    rw [hmm]
    clear hmm
    simp -implicitDefEqProofs [hS, s0, s1, w0]
    rw [run_round]
    simp -implicitDefEqProofs [hS, s0, s1, w0]
    rw [run_round]
    simp -implicitDefEqProofs [hS, s0, s1, w0]
    rw [run_round]
    simp -implicitDefEqProofs [hS, s0, s1, w0]
  · skip
    have w0 : IntKind.i64.wrap ((boundP ⟨dim, 2, bias, trees⟩ 1 b).1 - (boundP ⟨dim, 2, bias, trees⟩ 0 b).2) = marD ⟨dim, 2, bias, trees⟩ 1 b 0 := by unfold marD; exact wrap64 (by omega) (by omega)
    have hmm : margin ⟨dim, 2, bias, trees⟩ 1 b = marD ⟨dim, 2, bias, trees⟩ 1 b 0 := by simp [margin, other1]
    rw [hmm]
    clear hmm
    simp -implicitDefEqProofs [hS, s0, s1, w0]
    rw [run_round]
    simp -implicitDefEqProofs [hS, s0, s1, w0]
    rw [run_round]
    simp -implicitDefEqProofs [hS, s0, s1, w0]
    rw [run_round]
    simp -implicitDefEqProofs [hS, s0, s1, w0]
  · skip
    have w0 : IntKind.i64.wrap ((boundP ⟨dim, 3, bias, trees⟩ 0 b).1 - (boundP ⟨dim, 3, bias, trees⟩ 1 b).2) = marD ⟨dim, 3, bias, trees⟩ 0 b 1 := by unfold marD; exact wrap64 (by omega) (by omega)
    have w1 : IntKind.i64.wrap ((boundP ⟨dim, 3, bias, trees⟩ 0 b).1 - (boundP ⟨dim, 3, bias, trees⟩ 2 b).2) = marD ⟨dim, 3, bias, trees⟩ 0 b 2 := by unfold marD; exact wrap64 (by omega) (by omega)
    have s2 := s2 rfl
    have hmm : margin ⟨dim, 3, bias, trees⟩ 0 b = min2 (marD ⟨dim, 3, bias, trees⟩ 0 b 1) (marD ⟨dim, 3, bias, trees⟩ 0 b 2) := by simp [margin, other1, other2]
    rw [hmm]
    clear hmm
    unfold min2
    by_cases g : marD ⟨dim, 3, bias, trees⟩ 0 b 2 < marD ⟨dim, 3, bias, trees⟩ 0 b 1
    · simp -implicitDefEqProofs [hS, s0, s1, s2, w0, w1, g]
      rw [run_round]
      simp -implicitDefEqProofs [hS, s0, s1, s2, w0, w1, g]
      rw [run_round]
      simp -implicitDefEqProofs [hS, s0, s1, s2, w0, w1, g]
      rw [run_round]
      simp -implicitDefEqProofs [hS, s0, s1, s2, w0, w1, g]
      rw [run_round]
      simp -implicitDefEqProofs [hS, s0, s1, s2, w0, w1, g]
    · simp -implicitDefEqProofs [hS, s0, s1, s2, w0, w1, g]
      rw [run_round]
      simp -implicitDefEqProofs [hS, s0, s1, s2, w0, w1, g]
      rw [run_round]
      simp -implicitDefEqProofs [hS, s0, s1, s2, w0, w1, g]
      rw [run_round]
      simp -implicitDefEqProofs [hS, s0, s1, s2, w0, w1, g]
      rw [run_round]
      simp -implicitDefEqProofs [hS, s0, s1, s2, w0, w1, g]
  · skip
    have w0 : IntKind.i64.wrap ((boundP ⟨dim, 3, bias, trees⟩ 1 b).1 - (boundP ⟨dim, 3, bias, trees⟩ 0 b).2) = marD ⟨dim, 3, bias, trees⟩ 1 b 0 := by unfold marD; exact wrap64 (by omega) (by omega)
    have w1 : IntKind.i64.wrap ((boundP ⟨dim, 3, bias, trees⟩ 1 b).1 - (boundP ⟨dim, 3, bias, trees⟩ 2 b).2) = marD ⟨dim, 3, bias, trees⟩ 1 b 2 := by unfold marD; exact wrap64 (by omega) (by omega)
    have s2 := s2 rfl
    have hmm : margin ⟨dim, 3, bias, trees⟩ 1 b = min2 (marD ⟨dim, 3, bias, trees⟩ 1 b 0) (marD ⟨dim, 3, bias, trees⟩ 1 b 2) := by simp [margin, other1, other2]
    rw [hmm]
    clear hmm
    unfold min2
    by_cases g : marD ⟨dim, 3, bias, trees⟩ 1 b 2 < marD ⟨dim, 3, bias, trees⟩ 1 b 0
    · simp -implicitDefEqProofs [hS, s0, s1, s2, w0, w1, g]
      rw [run_round]
      simp -implicitDefEqProofs [hS, s0, s1, s2, w0, w1, g]
      rw [run_round]
      simp -implicitDefEqProofs [hS, s0, s1, s2, w0, w1, g]
      rw [run_round]
      simp -implicitDefEqProofs [hS, s0, s1, s2, w0, w1, g]
      rw [run_round]
      simp -implicitDefEqProofs [hS, s0, s1, s2, w0, w1, g]
    · simp -implicitDefEqProofs [hS, s0, s1, s2, w0, w1, g]
      rw [run_round]
      simp -implicitDefEqProofs [hS, s0, s1, s2, w0, w1, g]
      rw [run_round]
      simp -implicitDefEqProofs [hS, s0, s1, s2, w0, w1, g]
      rw [run_round]
      simp -implicitDefEqProofs [hS, s0, s1, s2, w0, w1, g]
      rw [run_round]
      simp -implicitDefEqProofs [hS, s0, s1, s2, w0, w1, g]
  · skip
    have w0 : IntKind.i64.wrap ((boundP ⟨dim, 3, bias, trees⟩ 2 b).1 - (boundP ⟨dim, 3, bias, trees⟩ 0 b).2) = marD ⟨dim, 3, bias, trees⟩ 2 b 0 := by unfold marD; exact wrap64 (by omega) (by omega)
    have w1 : IntKind.i64.wrap ((boundP ⟨dim, 3, bias, trees⟩ 2 b).1 - (boundP ⟨dim, 3, bias, trees⟩ 1 b).2) = marD ⟨dim, 3, bias, trees⟩ 2 b 1 := by unfold marD; exact wrap64 (by omega) (by omega)
    have s2 := s2 rfl
    have hmm : margin ⟨dim, 3, bias, trees⟩ 2 b = min2 (marD ⟨dim, 3, bias, trees⟩ 2 b 0) (marD ⟨dim, 3, bias, trees⟩ 2 b 1) := by simp [margin, other1, other2]
    rw [hmm]
    clear hmm
    unfold min2
    by_cases g : marD ⟨dim, 3, bias, trees⟩ 2 b 1 < marD ⟨dim, 3, bias, trees⟩ 2 b 0
    · simp -implicitDefEqProofs [hS, s0, s1, s2, w0, w1, g]
      rw [run_round]
      simp -implicitDefEqProofs [hS, s0, s1, s2, w0, w1, g]
      rw [run_round]
      simp -implicitDefEqProofs [hS, s0, s1, s2, w0, w1, g]
      rw [run_round]
      simp -implicitDefEqProofs [hS, s0, s1, s2, w0, w1, g]
      rw [run_round]
      simp -implicitDefEqProofs [hS, s0, s1, s2, w0, w1, g]
    · simp -implicitDefEqProofs [hS, s0, s1, s2, w0, w1, g]
      rw [run_round]
      simp -implicitDefEqProofs [hS, s0, s1, s2, w0, w1, g]
      rw [run_round]
      simp -implicitDefEqProofs [hS, s0, s1, s2, w0, w1, g]
      rw [run_round]
      simp -implicitDefEqProofs [hS, s0, s1, s2, w0, w1, g]
      rw [run_round]
      simp -implicitDefEqProofs [hS, s0, s1, s2, w0, w1, g]
theorem c_Margin : Contract Try.prog 79 (sp3 MarginC) :=
  contract_of_runs mixed (tbl_cons c_bSum tbl_nil) Try.func79 m79 (sp3_runs runs_Margin)

/-- the first class of which no other one's sum is greater -/
def bestM (m : Model) (p : Point) : Int :=
  if m.classes = 1 then 0 else
    if m.classes = 2 then (if evalM m 0 p < evalM m 1 p then 1 else 0)
    else if evalM m 0 p < evalM m 1 p then (if evalM m 1 p < evalM m 2 p then 2 else 1) else (if evalM m 0 p < evalM m 2 p then 2 else 0)
noncomputable def BestC (m : Model) (p : Point) : Option Int := Part (RM m) (bestM m p)
set_option maxHeartbeats 4000000 in
set_option maxRecDepth 100000 in
theorem runs_Best (m : Model) (p : Point) (r : Int) (h : BestC m p = some r) : Runs (tbl [(71, sp1 MRight), (122, sp3 EvalC)]) a78 [Arg.enc m, Arg.enc p] (Arg.enc r) := by
  obtain ⟨hm, rfl⟩ := part_some h
  clear h
  refine ⟨rfl, fun g => run_def ?_⟩
  unfold a78
  have hcl := hm.classes
  have hM := mRight_some hm
  have e0 : EvalC m 0 p = some (evalM m 0 p) := part_of ⟨hm, by omega, by omega⟩ _
  have e1 : EvalC m 1 p = some (evalM m 1 p) := part_of ⟨hm, by omega, by omega⟩ _
  have e2 : EvalC m 2 p = some (evalM m 2 p) := part_of ⟨hm, by omega, by omega⟩ _
  obtain ⟨dim, classes, bias, trees⟩ := m
  simp only at hcl
  have hcs : classes = 1 ∨ classes = 2 ∨ classes = 3 := by omega
  rcases hcs with rfl | rfl | rfl
  · simp -implicitDefEqProofs [hM, e0, e1, e2, run_round, bestM]
  · by_cases g1 : evalM ⟨dim, 2, bias, trees⟩ 0 p < evalM ⟨dim, 2, bias, trees⟩ 1 p <;> simp -implicitDefEqProofs [hM, e0, e1, e2, run_round, bestM, g1]
  · by_cases g1 : evalM ⟨dim, 3, bias, trees⟩ 0 p < evalM ⟨dim, 3, bias, trees⟩ 1 p
    · by_cases g2 : evalM ⟨dim, 3, bias, trees⟩ 1 p < evalM ⟨dim, 3, bias, trees⟩ 2 p <;> simp -implicitDefEqProofs [hM, e0, e1, e2, run_round, bestM, g1, g2]
    · by_cases g2 : evalM ⟨dim, 3, bias, trees⟩ 0 p < evalM ⟨dim, 3, bias, trees⟩ 2 p <;> simp -implicitDefEqProofs [hM, e0, e1, e2, run_round, bestM, g1, g2]
theorem c_Best : Contract Try.prog 78 (sp2 BestC) :=
  contract_of_runs mixed (tbl_cons c_mRight (tbl_cons c_eval tbl_nil)) Try.func78 m78 (sp2_runs runs_Best)
end Go.Co
