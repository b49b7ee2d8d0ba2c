/- CO: numbers of 32 bits. -/
import Derived.Test.YtbjnmbbhlaghaaaCoA
import Derived.Test.YtbjnmbbhlaghaaaCoBits
namespace Go.Co
open Go.Am Go.Proofs
set_option linter.unusedSimpArgs false
set_option linter.unusedVariables false

/- copse/copseref1.Fits -/
def c119_0 : ACode := .ops [⟨some 4, .mv (.c (.bool false)), none, []⟩] [0, 1]
theorem r119_0 {C : Cs} {k : List Fr} {s : St} {Q : Post} : run C c119_0 k s Q = run C (.ops [⟨some 4, .mv (.c (.bool false)), none, []⟩] [0, 1]) k s Q := rfl
def c119_1 : ACode := .ops [⟨some 6, .mv (.t 1), none, []⟩,
  ⟨some 7, .bin .lss (.t 6) (.c (.int .i64 1)), none, []⟩,
  ⟨some 8, .mv (.t 7), none, []⟩,
  ⟨some 9, .mv (.t 1), some (8, false), []⟩,
  ⟨some 10, .bin .gtr (.t 9) (.c (.int .i64 64)), some (8, false), []⟩,
  ⟨some 11, .pick (.t 8) (.c (.bool true)) (.t 10), none, []⟩] [0, 1, 11]
theorem r119_1 {C : Cs} {k : List Fr} {s : St} {Q : Post} : run C c119_1 k s Q = run C (.ops [⟨some 6, .mv (.t 1), none, []⟩,
  ⟨some 7, .bin .lss (.t 6) (.c (.int .i64 1)), none, []⟩,
  ⟨some 8, .mv (.t 7), none, []⟩,
  ⟨some 9, .mv (.t 1), some (8, false), []⟩,
  ⟨some 10, .bin .gtr (.t 9) (.c (.int .i64 64)), some (8, false), []⟩,
  ⟨some 11, .pick (.t 8) (.c (.bool true)) (.t 10), none, []⟩] [0, 1, 11]) k s Q := rfl
def c119_2 : ACode := .ops [⟨some 4, .mv (.c (.bool false)), none, []⟩] [4]
theorem r119_2 {C : Cs} {k : List Fr} {s : St} {Q : Post} : run C c119_2 k s Q = run C (.ops [⟨some 4, .mv (.c (.bool false)), none, []⟩] [4]) k s Q := rfl
def c119_3 : ACode := .seq c119_2 .ret
theorem r119_3 {C : Cs} {k : List Fr} {s : St} {Q : Post} : run C c119_3 k s Q = run C (.seq c119_2 .ret) k s Q := rfl
def c119_4 : ACode := .cond (.t 11) c119_3 .skip
theorem r119_4 {C : Cs} {k : List Fr} {s : St} {Q : Post} : run C c119_4 k s Q = run C (.cond (.t 11) c119_3 .skip) k s Q := rfl
def c119_5 : ACode := .seq c119_1 c119_4
theorem r119_5 {C : Cs} {k : List Fr} {s : St} {Q : Post} : run C c119_5 k s Q = run C (.seq c119_1 c119_4) k s Q := rfl
def c119_6 : ACode := .ops [⟨some 12, .mv (.t 1), none, []⟩,
  ⟨some 13, .bin .eql (.t 12) (.c (.int .i64 64)), none, []⟩] [0, 1, 13]
theorem r119_6 {C : Cs} {k : List Fr} {s : St} {Q : Post} : run C c119_6 k s Q = run C (.ops [⟨some 12, .mv (.t 1), none, []⟩,
  ⟨some 13, .bin .eql (.t 12) (.c (.int .i64 64)), none, []⟩] [0, 1, 13]) k s Q := rfl
def c119_7 : ACode := .ops [⟨some 4, .mv (.c (.bool true)), none, []⟩] [4]
theorem r119_7 {C : Cs} {k : List Fr} {s : St} {Q : Post} : run C c119_7 k s Q = run C (.ops [⟨some 4, .mv (.c (.bool true)), none, []⟩] [4]) k s Q := rfl
def c119_8 : ACode := .seq c119_7 .ret
theorem r119_8 {C : Cs} {k : List Fr} {s : St} {Q : Post} : run C c119_8 k s Q = run C (.seq c119_7 .ret) k s Q := rfl
def c119_9 : ACode := .cond (.t 13) c119_8 .skip
theorem r119_9 {C : Cs} {k : List Fr} {s : St} {Q : Post} : run C c119_9 k s Q = run C (.cond (.t 13) c119_8 .skip) k s Q := rfl
def c119_10 : ACode := .seq c119_6 c119_9
theorem r119_10 {C : Cs} {k : List Fr} {s : St} {Q : Post} : run C c119_10 k s Q = run C (.seq c119_6 c119_9) k s Q := rfl
def c119_11 : ACode := .ops [⟨some 14, .mv (.t 1), none, []⟩,
  ⟨some 15, .bin .sub (.t 14) (.c (.int .i64 1)), none, []⟩,
  ⟨some 16, .bin .shl (.c (.int .i64 1)) (.t 15), none, []⟩,
  ⟨some 5, .mv (.t 16), none, []⟩] [0, 5]
theorem r119_11 {C : Cs} {k : List Fr} {s : St} {Q : Post} : run C c119_11 k s Q = run C (.ops [⟨some 14, .mv (.t 1), none, []⟩,
  ⟨some 15, .bin .sub (.t 14) (.c (.int .i64 1)), none, []⟩,
  ⟨some 16, .bin .shl (.c (.int .i64 1)) (.t 15), none, []⟩,
  ⟨some 5, .mv (.t 16), none, []⟩] [0, 5]) k s Q := rfl
def c119_12 : ACode := .ops [⟨some 17, .mv (.t 0), none, []⟩,
  ⟨some 18, .mv (.t 5), none, []⟩,
  ⟨some 19, .un .neg (.t 18), none, []⟩,
  ⟨some 20, .bin .geq (.t 17) (.t 19), none, []⟩,
  ⟨some 21, .mv (.t 20), none, []⟩,
  ⟨some 22, .mv (.t 0), some (21, true), []⟩,
  ⟨some 23, .mv (.t 5), some (21, true), []⟩,
  ⟨some 24, .bin .sub (.t 23) (.c (.int .i64 1)), some (21, true), []⟩,
  ⟨some 25, .bin .leq (.t 22) (.t 24), some (21, true), []⟩,
  ⟨some 26, .pick (.t 21) (.t 25) (.c (.bool false)), none, []⟩,
  ⟨some 4, .mv (.t 26), none, []⟩] [4]
theorem r119_12 {C : Cs} {k : List Fr} {s : St} {Q : Post} : run C c119_12 k s Q = run C (.ops [⟨some 17, .mv (.t 0), none, []⟩,
  ⟨some 18, .mv (.t 5), none, []⟩,
  ⟨some 19, .un .neg (.t 18), none, []⟩,
  ⟨some 20, .bin .geq (.t 17) (.t 19), none, []⟩,
  ⟨some 21, .mv (.t 20), none, []⟩,
  ⟨some 22, .mv (.t 0), some (21, true), []⟩,
  ⟨some 23, .mv (.t 5), some (21, true), []⟩,
  ⟨some 24, .bin .sub (.t 23) (.c (.int .i64 1)), some (21, true), []⟩,
  ⟨some 25, .bin .leq (.t 22) (.t 24), some (21, true), []⟩,
  ⟨some 26, .pick (.t 21) (.t 25) (.c (.bool false)), none, []⟩,
  ⟨some 4, .mv (.t 26), none, []⟩] [4]) k s Q := rfl
def c119_13 : ACode := .seq c119_12 .ret
theorem r119_13 {C : Cs} {k : List Fr} {s : St} {Q : Post} : run C c119_13 k s Q = run C (.seq c119_12 .ret) k s Q := rfl
def c119_14 : ACode := .seq c119_11 c119_13
theorem r119_14 {C : Cs} {k : List Fr} {s : St} {Q : Post} : run C c119_14 k s Q = run C (.seq c119_11 c119_13) k s Q := rfl
def c119_15 : ACode := .seq c119_10 c119_14
theorem r119_15 {C : Cs} {k : List Fr} {s : St} {Q : Post} : run C c119_15 k s Q = run C (.seq c119_10 c119_14) k s Q := rfl
def c119_16 : ACode := .seq c119_5 c119_15
theorem r119_16 {C : Cs} {k : List Fr} {s : St} {Q : Post} : run C c119_16 k s Q = run C (.seq c119_5 c119_15) k s Q := rfl
def c119_17 : ACode := .seq c119_0 c119_16
theorem r119_17 {C : Cs} {k : List Fr} {s : St} {Q : Post} : run C c119_17 k s Q = run C (.seq c119_0 c119_16) k s Q := rfl
def a119 : AFun := ⟨2, 27, c119_17, [.t 4]⟩
attribute [simp] r119_0 r119_1 r119_2 r119_3 r119_4 r119_5 r119_6 r119_7 r119_8 r119_9 r119_10 r119_11 r119_12 r119_13 r119_14 r119_15 r119_16 r119_17
theorem m119 : mFun Try.prog Try.f119 a119 = true := by decide +kernel
/- copse/bits.Fits -/
def c123_0 : ACode := .ops [⟨some 4, .mv (.c (.bool false)), none, []⟩] [0, 1]
theorem r123_0 {C : Cs} {k : List Fr} {s : St} {Q : Post} : run C c123_0 k s Q = run C (.ops [⟨some 4, .mv (.c (.bool false)), none, []⟩] [0, 1]) k s Q := rfl
def c123_1 : ACode := .ops [⟨some 5, .mv (.t 1), none, []⟩,
  ⟨some 6, .bin .lss (.t 5) (.c (.int .i64 1)), none, []⟩,
  ⟨some 7, .mv (.t 6), none, []⟩,
  ⟨some 8, .mv (.t 1), some (7, false), []⟩,
  ⟨some 9, .bin .gtr (.t 8) (.c (.int .i64 64)), some (7, false), []⟩,
  ⟨some 10, .pick (.t 7) (.c (.bool true)) (.t 9), none, []⟩] [0, 1, 10]
theorem r123_1 {C : Cs} {k : List Fr} {s : St} {Q : Post} : run C c123_1 k s Q = run C (.ops [⟨some 5, .mv (.t 1), none, []⟩,
  ⟨some 6, .bin .lss (.t 5) (.c (.int .i64 1)), none, []⟩,
  ⟨some 7, .mv (.t 6), none, []⟩,
  ⟨some 8, .mv (.t 1), some (7, false), []⟩,
  ⟨some 9, .bin .gtr (.t 8) (.c (.int .i64 64)), some (7, false), []⟩,
  ⟨some 10, .pick (.t 7) (.c (.bool true)) (.t 9), none, []⟩] [0, 1, 10]) k s Q := rfl
def c123_2 : ACode := .ops [⟨some 4, .mv (.c (.bool false)), none, []⟩] [4]
theorem r123_2 {C : Cs} {k : List Fr} {s : St} {Q : Post} : run C c123_2 k s Q = run C (.ops [⟨some 4, .mv (.c (.bool false)), none, []⟩] [4]) k s Q := rfl
def c123_3 : ACode := .seq c123_2 .ret
theorem r123_3 {C : Cs} {k : List Fr} {s : St} {Q : Post} : run C c123_3 k s Q = run C (.seq c123_2 .ret) k s Q := rfl
def c123_4 : ACode := .cond (.t 10) c123_3 .skip
theorem r123_4 {C : Cs} {k : List Fr} {s : St} {Q : Post} : run C c123_4 k s Q = run C (.cond (.t 10) c123_3 .skip) k s Q := rfl
def c123_5 : ACode := .seq c123_1 c123_4
theorem r123_5 {C : Cs} {k : List Fr} {s : St} {Q : Post} : run C c123_5 k s Q = run C (.seq c123_1 c123_4) k s Q := rfl
def c123_6 : ACode := .ops [⟨some 11, .mv (.t 0), none, []⟩,
  ⟨some 12, .mv (.t 1), none, []⟩,
  ⟨some 13, .bin .sub (.t 12) (.c (.int .i64 1)), none, []⟩,
  ⟨some 14, .conv .u64 (.t 13), none, []⟩,
  ⟨some 15, .bin .shr (.t 11) (.t 14), none, []⟩,
  ⟨some 16, .bin .eql (.t 15) (.c (.int .i64 0)), none, []⟩,
  ⟨some 17, .mv (.t 16), none, []⟩,
  ⟨some 18, .mv (.t 0), some (17, false), []⟩,
  ⟨some 19, .mv (.t 1), some (17, false), []⟩,
  ⟨some 20, .bin .sub (.t 19) (.c (.int .i64 1)), some (17, false), []⟩,
  ⟨some 21, .conv .u64 (.t 20), some (17, false), []⟩,
  ⟨some 22, .bin .shr (.t 18) (.t 21), some (17, false), []⟩,
  ⟨some 23, .bin .eql (.t 22) (.c (.int .i64 (-1))), some (17, false), []⟩,
  ⟨some 24, .pick (.t 17) (.c (.bool true)) (.t 23), none, []⟩,
  ⟨some 4, .mv (.t 24), none, []⟩] [4]
theorem r123_6 {C : Cs} {k : List Fr} {s : St} {Q : Post} : run C c123_6 k s Q = run C (.ops [⟨some 11, .mv (.t 0), none, []⟩,
  ⟨some 12, .mv (.t 1), none, []⟩,
  ⟨some 13, .bin .sub (.t 12) (.c (.int .i64 1)), none, []⟩,
  ⟨some 14, .conv .u64 (.t 13), none, []⟩,
  ⟨some 15, .bin .shr (.t 11) (.t 14), none, []⟩,
  ⟨some 16, .bin .eql (.t 15) (.c (.int .i64 0)), none, []⟩,
  ⟨some 17, .mv (.t 16), none, []⟩,
  ⟨some 18, .mv (.t 0), some (17, false), []⟩,
  ⟨some 19, .mv (.t 1), some (17, false), []⟩,
  ⟨some 20, .bin .sub (.t 19) (.c (.int .i64 1)), some (17, false), []⟩,
  ⟨some 21, .conv .u64 (.t 20), some (17, false), []⟩,
  ⟨some 22, .bin .shr (.t 18) (.t 21), some (17, false), []⟩,
  ⟨some 23, .bin .eql (.t 22) (.c (.int .i64 (-1))), some (17, false), []⟩,
  ⟨some 24, .pick (.t 17) (.c (.bool true)) (.t 23), none, []⟩,
  ⟨some 4, .mv (.t 24), none, []⟩] [4]) k s Q := rfl
def c123_7 : ACode := .seq c123_6 .ret
theorem r123_7 {C : Cs} {k : List Fr} {s : St} {Q : Post} : run C c123_7 k s Q = run C (.seq c123_6 .ret) k s Q := rfl
def c123_8 : ACode := .seq c123_5 c123_7
theorem r123_8 {C : Cs} {k : List Fr} {s : St} {Q : Post} : run C c123_8 k s Q = run C (.seq c123_5 c123_7) k s Q := rfl
def c123_9 : ACode := .seq c123_0 c123_8
theorem r123_9 {C : Cs} {k : List Fr} {s : St} {Q : Post} : run C c123_9 k s Q = run C (.seq c123_0 c123_8) k s Q := rfl
def a123 : AFun := ⟨2, 25, c123_9, [.t 4]⟩
attribute [simp] r123_0 r123_1 r123_2 r123_3 r123_4 r123_5 r123_6 r123_7 r123_8 r123_9
theorem m123 : mFun Try.prog Try.f123 a123 = true := by decide +kernel
/- copse/copseref1.Wrap -/
def c168_0 : ACode := .ops [⟨some 4, .mv (.c (.int .i64 0)), none, []⟩] [0, 1]
theorem r168_0 {C : Cs} {k : List Fr} {s : St} {Q : Post} : run C c168_0 k s Q = run C (.ops [⟨some 4, .mv (.c (.int .i64 0)), none, []⟩] [0, 1]) k s Q := rfl
def c168_1 : ACode := .ops [⟨some 6, .mv (.t 1), none, []⟩,
  ⟨some 7, .bin .lss (.t 6) (.c (.int .i64 1)), none, []⟩,
  ⟨some 8, .mv (.t 7), none, []⟩,
  ⟨some 9, .mv (.t 1), some (8, false), []⟩,
  ⟨some 10, .bin .gtr (.t 9) (.c (.int .i64 63)), some (8, false), []⟩,
  ⟨some 11, .pick (.t 8) (.c (.bool true)) (.t 10), none, []⟩] [0, 1, 11]
theorem r168_1 {C : Cs} {k : List Fr} {s : St} {Q : Post} : run C c168_1 k s Q = run C (.ops [⟨some 6, .mv (.t 1), none, []⟩,
  ⟨some 7, .bin .lss (.t 6) (.c (.int .i64 1)), none, []⟩,
  ⟨some 8, .mv (.t 7), none, []⟩,
  ⟨some 9, .mv (.t 1), some (8, false), []⟩,
  ⟨some 10, .bin .gtr (.t 9) (.c (.int .i64 63)), some (8, false), []⟩,
  ⟨some 11, .pick (.t 8) (.c (.bool true)) (.t 10), none, []⟩] [0, 1, 11]) k s Q := rfl
def c168_2 : ACode := .ops [⟨some 12, .mv (.t 0), none, []⟩,
  ⟨some 4, .mv (.t 12), none, []⟩] [4]
theorem r168_2 {C : Cs} {k : List Fr} {s : St} {Q : Post} : run C c168_2 k s Q = run C (.ops [⟨some 12, .mv (.t 0), none, []⟩,
  ⟨some 4, .mv (.t 12), none, []⟩] [4]) k s Q := rfl
def c168_3 : ACode := .seq c168_2 .ret
theorem r168_3 {C : Cs} {k : List Fr} {s : St} {Q : Post} : run C c168_3 k s Q = run C (.seq c168_2 .ret) k s Q := rfl
def c168_4 : ACode := .cond (.t 11) c168_3 .skip
theorem r168_4 {C : Cs} {k : List Fr} {s : St} {Q : Post} : run C c168_4 k s Q = run C (.cond (.t 11) c168_3 .skip) k s Q := rfl
def c168_5 : ACode := .seq c168_1 c168_4
theorem r168_5 {C : Cs} {k : List Fr} {s : St} {Q : Post} : run C c168_5 k s Q = run C (.seq c168_1 c168_4) k s Q := rfl
def c168_6 : ACode := .ops [⟨some 13, .mv (.t 0), none, []⟩,
  ⟨some 14, .conv .u64 (.t 13), none, []⟩,
  ⟨some 15, .mv (.t 1), none, []⟩,
  ⟨some 16, .bin .shl (.c (.int .u64 1)) (.t 15), none, []⟩,
  ⟨some 17, .bin .sub (.t 16) (.c (.int .u64 1)), none, []⟩,
  ⟨some 18, .bin .and (.t 14) (.t 17), none, []⟩,
  ⟨some 5, .mv (.t 18), none, []⟩] [1, 5]
theorem r168_6 {C : Cs} {k : List Fr} {s : St} {Q : Post} : run C c168_6 k s Q = run C (.ops [⟨some 13, .mv (.t 0), none, []⟩,
  ⟨some 14, .conv .u64 (.t 13), none, []⟩,
  ⟨some 15, .mv (.t 1), none, []⟩,
  ⟨some 16, .bin .shl (.c (.int .u64 1)) (.t 15), none, []⟩,
  ⟨some 17, .bin .sub (.t 16) (.c (.int .u64 1)), none, []⟩,
  ⟨some 18, .bin .and (.t 14) (.t 17), none, []⟩,
  ⟨some 5, .mv (.t 18), none, []⟩] [1, 5]) k s Q := rfl
def c168_7 : ACode := .ops [⟨some 19, .mv (.t 5), none, []⟩,
  ⟨some 20, .mv (.t 1), none, []⟩,
  ⟨some 21, .bin .sub (.t 20) (.c (.int .i64 1)), none, []⟩,
  ⟨some 22, .bin .shr (.t 19) (.t 21), none, []⟩,
  ⟨some 23, .bin .eql (.t 22) (.c (.int .u64 1)), none, []⟩] [1, 5, 23]
theorem r168_7 {C : Cs} {k : List Fr} {s : St} {Q : Post} : run C c168_7 k s Q = run C (.ops [⟨some 19, .mv (.t 5), none, []⟩,
  ⟨some 20, .mv (.t 1), none, []⟩,
  ⟨some 21, .bin .sub (.t 20) (.c (.int .i64 1)), none, []⟩,
  ⟨some 22, .bin .shr (.t 19) (.t 21), none, []⟩,
  ⟨some 23, .bin .eql (.t 22) (.c (.int .u64 1)), none, []⟩] [1, 5, 23]) k s Q := rfl
def c168_8 : ACode := .ops [⟨some 24, .mv (.t 5), none, []⟩,
  ⟨some 25, .conv .i64 (.t 24), none, []⟩,
  ⟨some 26, .mv (.t 1), none, []⟩,
  ⟨some 27, .bin .shl (.c (.int .i64 1)) (.t 26), none, []⟩,
  ⟨some 28, .bin .sub (.t 25) (.t 27), none, []⟩,
  ⟨some 4, .mv (.t 28), none, []⟩] [4]
theorem r168_8 {C : Cs} {k : List Fr} {s : St} {Q : Post} : run C c168_8 k s Q = run C (.ops [⟨some 24, .mv (.t 5), none, []⟩,
  ⟨some 25, .conv .i64 (.t 24), none, []⟩,
  ⟨some 26, .mv (.t 1), none, []⟩,
  ⟨some 27, .bin .shl (.c (.int .i64 1)) (.t 26), none, []⟩,
  ⟨some 28, .bin .sub (.t 25) (.t 27), none, []⟩,
  ⟨some 4, .mv (.t 28), none, []⟩] [4]) k s Q := rfl
def c168_9 : ACode := .seq c168_8 .ret
theorem r168_9 {C : Cs} {k : List Fr} {s : St} {Q : Post} : run C c168_9 k s Q = run C (.seq c168_8 .ret) k s Q := rfl
def c168_10 : ACode := .cond (.t 23) c168_9 .skip
theorem r168_10 {C : Cs} {k : List Fr} {s : St} {Q : Post} : run C c168_10 k s Q = run C (.cond (.t 23) c168_9 .skip) k s Q := rfl
def c168_11 : ACode := .seq c168_7 c168_10
theorem r168_11 {C : Cs} {k : List Fr} {s : St} {Q : Post} : run C c168_11 k s Q = run C (.seq c168_7 c168_10) k s Q := rfl
def c168_12 : ACode := .ops [⟨some 29, .mv (.t 5), none, []⟩,
  ⟨some 30, .conv .i64 (.t 29), none, []⟩,
  ⟨some 4, .mv (.t 30), none, []⟩] [4]
theorem r168_12 {C : Cs} {k : List Fr} {s : St} {Q : Post} : run C c168_12 k s Q = run C (.ops [⟨some 29, .mv (.t 5), none, []⟩,
  ⟨some 30, .conv .i64 (.t 29), none, []⟩,
  ⟨some 4, .mv (.t 30), none, []⟩] [4]) k s Q := rfl
def c168_13 : ACode := .seq c168_12 .ret
theorem r168_13 {C : Cs} {k : List Fr} {s : St} {Q : Post} : run C c168_13 k s Q = run C (.seq c168_12 .ret) k s Q := rfl
def c168_14 : ACode := .seq c168_11 c168_13
theorem r168_14 {C : Cs} {k : List Fr} {s : St} {Q : Post} : run C c168_14 k s Q = run C (.seq c168_11 c168_13) k s Q := rfl
def c168_15 : ACode := .seq c168_6 c168_14
theorem r168_15 {C : Cs} {k : List Fr} {s : St} {Q : Post} : run C c168_15 k s Q = run C (.seq c168_6 c168_14) k s Q := rfl
def c168_16 : ACode := .seq c168_5 c168_15
theorem r168_16 {C : Cs} {k : List Fr} {s : St} {Q : Post} : run C c168_16 k s Q = run C (.seq c168_5 c168_15) k s Q := rfl
def c168_17 : ACode := .seq c168_0 c168_16
theorem r168_17 {C : Cs} {k : List Fr} {s : St} {Q : Post} : run C c168_17 k s Q = run C (.seq c168_0 c168_16) k s Q := rfl
def a168 : AFun := ⟨2, 31, c168_17, [.t 4]⟩
attribute [simp] r168_0 r168_1 r168_2 r168_3 r168_4 r168_5 r168_6 r168_7 r168_8 r168_9 r168_10 r168_11 r168_12 r168_13 r168_14 r168_15 r168_16 r168_17
theorem m168 : mFun Try.prog Try.f168 a168 = true := by decide +kernel
/- copse/bits.Wrap -/
def c161_0 : ACode := .ops [⟨some 4, .mv (.c (.int .i64 0)), none, []⟩] [0, 1]
theorem r161_0 {C : Cs} {k : List Fr} {s : St} {Q : Post} : run C c161_0 k s Q = run C (.ops [⟨some 4, .mv (.c (.int .i64 0)), none, []⟩] [0, 1]) k s Q := rfl
def c161_1 : ACode := .ops [⟨some 6, .mv (.t 1), none, []⟩,
  ⟨some 7, .bin .lss (.t 6) (.c (.int .i64 1)), none, []⟩,
  ⟨some 8, .mv (.t 7), none, []⟩,
  ⟨some 9, .mv (.t 1), some (8, false), []⟩,
  ⟨some 10, .bin .geq (.t 9) (.c (.int .i64 64)), some (8, false), []⟩,
  ⟨some 11, .pick (.t 8) (.c (.bool true)) (.t 10), none, []⟩] [0, 1, 11]
theorem r161_1 {C : Cs} {k : List Fr} {s : St} {Q : Post} : run C c161_1 k s Q = run C (.ops [⟨some 6, .mv (.t 1), none, []⟩,
  ⟨some 7, .bin .lss (.t 6) (.c (.int .i64 1)), none, []⟩,
  ⟨some 8, .mv (.t 7), none, []⟩,
  ⟨some 9, .mv (.t 1), some (8, false), []⟩,
  ⟨some 10, .bin .geq (.t 9) (.c (.int .i64 64)), some (8, false), []⟩,
  ⟨some 11, .pick (.t 8) (.c (.bool true)) (.t 10), none, []⟩] [0, 1, 11]) k s Q := rfl
def c161_2 : ACode := .ops [⟨some 12, .mv (.t 0), none, []⟩,
  ⟨some 4, .mv (.t 12), none, []⟩] [4]
theorem r161_2 {C : Cs} {k : List Fr} {s : St} {Q : Post} : run C c161_2 k s Q = run C (.ops [⟨some 12, .mv (.t 0), none, []⟩,
  ⟨some 4, .mv (.t 12), none, []⟩] [4]) k s Q := rfl
def c161_3 : ACode := .seq c161_2 .ret
theorem r161_3 {C : Cs} {k : List Fr} {s : St} {Q : Post} : run C c161_3 k s Q = run C (.seq c161_2 .ret) k s Q := rfl
def c161_4 : ACode := .cond (.t 11) c161_3 .skip
theorem r161_4 {C : Cs} {k : List Fr} {s : St} {Q : Post} : run C c161_4 k s Q = run C (.cond (.t 11) c161_3 .skip) k s Q := rfl
def c161_5 : ACode := .seq c161_1 c161_4
theorem r161_5 {C : Cs} {k : List Fr} {s : St} {Q : Post} : run C c161_5 k s Q = run C (.seq c161_1 c161_4) k s Q := rfl
def c161_6 : ACode := .ops [⟨some 13, .mv (.t 1), none, []⟩,
  ⟨some 14, .bin .sub (.c (.int .i64 64)) (.t 13), none, []⟩,
  ⟨some 15, .conv .u64 (.t 14), none, []⟩,
  ⟨some 5, .mv (.t 15), none, []⟩] [0, 5]
theorem r161_6 {C : Cs} {k : List Fr} {s : St} {Q : Post} : run C c161_6 k s Q = run C (.ops [⟨some 13, .mv (.t 1), none, []⟩,
  ⟨some 14, .bin .sub (.c (.int .i64 64)) (.t 13), none, []⟩,
  ⟨some 15, .conv .u64 (.t 14), none, []⟩,
  ⟨some 5, .mv (.t 15), none, []⟩] [0, 5]) k s Q := rfl
def c161_7 : ACode := .ops [⟨some 16, .mv (.t 0), none, []⟩,
  ⟨some 17, .mv (.t 5), none, []⟩,
  ⟨some 18, .bin .shl (.t 16) (.t 17), none, []⟩,
  ⟨some 19, .mv (.t 5), none, []⟩,
  ⟨some 20, .bin .shr (.t 18) (.t 19), none, []⟩,
  ⟨some 4, .mv (.t 20), none, []⟩] [4]
theorem r161_7 {C : Cs} {k : List Fr} {s : St} {Q : Post} : run C c161_7 k s Q = run C (.ops [⟨some 16, .mv (.t 0), none, []⟩,
  ⟨some 17, .mv (.t 5), none, []⟩,
  ⟨some 18, .bin .shl (.t 16) (.t 17), none, []⟩,
  ⟨some 19, .mv (.t 5), none, []⟩,
  ⟨some 20, .bin .shr (.t 18) (.t 19), none, []⟩,
  ⟨some 4, .mv (.t 20), none, []⟩] [4]) k s Q := rfl
def c161_8 : ACode := .seq c161_7 .ret
theorem r161_8 {C : Cs} {k : List Fr} {s : St} {Q : Post} : run C c161_8 k s Q = run C (.seq c161_7 .ret) k s Q := rfl
def c161_9 : ACode := .seq c161_6 c161_8
theorem r161_9 {C : Cs} {k : List Fr} {s : St} {Q : Post} : run C c161_9 k s Q = run C (.seq c161_6 c161_8) k s Q := rfl
def c161_10 : ACode := .seq c161_5 c161_9
theorem r161_10 {C : Cs} {k : List Fr} {s : St} {Q : Post} : run C c161_10 k s Q = run C (.seq c161_5 c161_9) k s Q := rfl
def c161_11 : ACode := .seq c161_0 c161_10
theorem r161_11 {C : Cs} {k : List Fr} {s : St} {Q : Post} : run C c161_11 k s Q = run C (.seq c161_0 c161_10) k s Q := rfl
def a161 : AFun := ⟨2, 21, c161_11, [.t 4]⟩
attribute [simp] r161_0 r161_1 r161_2 r161_3 r161_4 r161_5 r161_6 r161_7 r161_8 r161_9 r161_10 r161_11
theorem m161 : mFun Try.prog Try.f161 a161 = true := by decide +kernel


def Fits (n w : Int) : Option Bool := if w = 32 then some (fits n) else none

theorem runs_rFits (n w : Int) (c : Bool) (h : Fits n w = some c) : Runs (tbl []) a119 [Arg.enc n, Arg.enc w] (Arg.enc c) := by
  unfold Fits at h
  split at h
  · rename_i hw
    subst hw
    cases h
    refine ⟨rfl, fun g => run_def ?_⟩
    unfold a119
    by_cases h1 : -2147483648 ≤ n <;> simp [fits, IntKind.wrap, IntKind.bits, IntKind.signed, ishl, ishr, h1]
  · cases h

theorem runs_Fits (n w : Int) (c : Bool) (h : Fits n w = some c) : Runs (tbl []) a123 [Arg.enc n, Arg.enc w] (Arg.enc c) := by
  unfold Fits at h
  split at h
  · rename_i hw
    subst hw
    cases h
    refine ⟨rfl, fun g => run_def ?_⟩
    have e : fits n = (decide (n.fdiv 2147483648 = 0) || decide (n.fdiv 2147483648 = -1)) := by
      unfold fits
      have := Int.fdiv_eq_ediv_of_nonneg n (show (0 : Int) ≤ 2147483648 by omega)
      rw [this]
      by_cases h1 : n / 2147483648 = 0
      · simp [h1]; omega
      · by_cases h2 : n / 2147483648 = -1
        · simp [h2]; omega
        · simp [h1, h2]; omega
    unfold a123
    rw [e]
    by_cases h1 : n.fdiv 2147483648 = 0 <;> simp [IntKind.wrap, IntKind.bits, IntKind.signed, ishl, ishr, h1]
  · cases h

def Wrap (n w : Int) : Option Int := if w = 32 ∧ -9223372036854775808 ≤ n ∧ n ≤ 9223372036854775807 then some (wrap32 n) else none

theorem runs_rWrap (n w c : Int) (h : Wrap n w = some c) : Runs (tbl []) a168 [Arg.enc n, Arg.enc w] (Arg.enc c) := by
  unfold Wrap at h
  split at h
  · rename_i hw
    obtain ⟨rfl, h1, h2⟩ := hw
    cases h
    refine ⟨rfl, fun g => run_def ?_⟩
    unfold a168
    have e1 : ((n % 18446744073709551616).toNat &&& 4294967295 : Nat) = (n % 4294967296).toNat := by
      have := and_mask (n % 18446744073709551616).toNat 0 32
      simp at this
      rw [this]
      omega
    have e2 : iand .u64 (n % 18446744073709551616) 4294967295 = n % 4294967296 := by
      rw [u_and _ _ (okW_mod n) ⟨by omega, by omega⟩]
      have : (4294967295 : Int).toNat = 4294967295 := rfl
      rw [this, e1]
      omega
    simp [u_conv, e2]
    rw [Int.fdiv_eq_ediv_of_nonneg _ (by omega), wrap64 (x := n % 4294967296) (by omega) (by omega), wrap64 (by omega) (by omega)]
    unfold wrap32
    omega
  · cases h

theorem runs_Wrap (n w c : Int) (h : Wrap n w = some c) : Runs (tbl []) a161 [Arg.enc n, Arg.enc w] (Arg.enc c) := by
  unfold Wrap at h
  split at h
  · rename_i hw
    obtain ⟨rfl, h1, h2⟩ := hw
    cases h
    refine ⟨rfl, fun g => run_def ?_⟩
    unfold a161
    simp [wrap32, IntKind.wrap, IntKind.bits, IntKind.signed, ishl, ishr]
    rw [Int.fdiv_eq_ediv_of_nonneg _ (by omega)]
    split <;> omega
  · cases h

theorem c_rFits : Contract Try.prog 119 (sp2 Fits) := contract_of_runs mixed tbl_nil Try.func119 m119 (sp2_runs runs_rFits)
theorem c_Fits : Contract Try.prog 123 (sp2 Fits) := contract_of_runs mixed tbl_nil Try.func123 m123 (sp2_runs runs_Fits)
theorem c_rWrap : Contract Try.prog 168 (sp2 Wrap) := contract_of_runs mixed tbl_nil Try.func168 m168 (sp2_runs runs_rWrap)
theorem c_Wrap : Contract Try.prog 161 (sp2 Wrap) := contract_of_runs mixed tbl_nil Try.func161 m161 (sp2_runs runs_Wrap)

/-! ### nodes, by the document -/
/- copse/copseref6.RightNode -/
def c156_0 : ACode := .ops [⟨some 1, .box (.t 0) 6, none, []⟩,
  ⟨some 2, .mv (.c (.bool false)), none, []⟩] [1]
theorem r156_0 {C : Cs} {k : List Fr} {s : St} {Q : Post} : run C c156_0 k s Q = run C (.ops [⟨some 1, .box (.t 0) 6, none, []⟩,
  ⟨some 2, .mv (.c (.bool false)), none, []⟩] [1]) k s Q := rfl
def c156_1 : ACode := .ops [⟨some 3, .fad (.t 1) 0, none, [1]⟩,
  ⟨some 4, .load 1 false (.t 3), none, [1]⟩] [1, 4]
theorem r156_1 {C : Cs} {k : List Fr} {s : St} {Q : Post} : run C c156_1 k s Q = run C (.ops [⟨some 3, .fad (.t 1) 0, none, [1]⟩,
  ⟨some 4, .load 1 false (.t 3), none, [1]⟩] [1, 4]) k s Q := rfl
def c156_2 : ACode := .ops [⟨some 5, .fad (.t 1) 1, none, [1]⟩,
  ⟨some 6, .load 1 false (.t 5), none, [1]⟩,
  ⟨some 7, .call 119 [.t 6, .c (.int .i64 32)], none, []⟩,
  ⟨some 8, .mv (.t 7), none, []⟩,
  ⟨some 9, .fad (.t 1) 2, some (8, true), [1]⟩,
  ⟨some 10, .load 1 false (.t 9), some (8, true), [1]⟩,
  ⟨some 11, .bin .eql (.t 10) (.c (.int .i64 0)), some (8, true), []⟩,
  ⟨some 12, .pick (.t 8) (.t 11) (.c (.bool false)), none, []⟩,
  ⟨some 13, .mv (.t 12), none, []⟩,
  ⟨some 14, .fad (.t 1) 3, some (13, true), [1]⟩,
  ⟨some 15, .load 1 false (.t 14), some (13, true), [1]⟩,
  ⟨some 16, .bin .eql (.t 15) (.c (.int .i64 0)), some (13, true), []⟩,
  ⟨some 17, .pick (.t 13) (.t 16) (.c (.bool false)), none, []⟩,
  ⟨some 18, .mv (.t 17), none, []⟩,
  ⟨some 19, .fad (.t 1) 4, some (18, true), [1]⟩,
  ⟨some 20, .load 1 false (.t 19), some (18, true), [1]⟩,
  ⟨some 21, .bin .eql (.t 20) (.c (.int .i64 0)), some (18, true), []⟩,
  ⟨some 22, .pick (.t 18) (.t 21) (.c (.bool false)), none, []⟩,
  ⟨some 23, .mv (.t 22), none, []⟩,
  ⟨some 24, .fad (.t 1) 5, some (23, true), [1]⟩,
  ⟨some 25, .load 1 false (.t 24), some (23, true), [1]⟩,
  ⟨some 26, .bin .eql (.t 25) (.c (.int .i64 0)), some (23, true), []⟩,
  ⟨some 27, .pick (.t 23) (.t 26) (.c (.bool false)), none, []⟩,
  ⟨some 2, .mv (.t 27), none, []⟩] [2]
theorem r156_2 {C : Cs} {k : List Fr} {s : St} {Q : Post} : run C c156_2 k s Q = run C (.ops [⟨some 5, .fad (.t 1) 1, none, [1]⟩,
  ⟨some 6, .load 1 false (.t 5), none, [1]⟩,
  ⟨some 7, .call 119 [.t 6, .c (.int .i64 32)], none, []⟩,
  ⟨some 8, .mv (.t 7), none, []⟩,
  ⟨some 9, .fad (.t 1) 2, some (8, true), [1]⟩,
  ⟨some 10, .load 1 false (.t 9), some (8, true), [1]⟩,
  ⟨some 11, .bin .eql (.t 10) (.c (.int .i64 0)), some (8, true), []⟩,
  ⟨some 12, .pick (.t 8) (.t 11) (.c (.bool false)), none, []⟩,
  ⟨some 13, .mv (.t 12), none, []⟩,
  ⟨some 14, .fad (.t 1) 3, some (13, true), [1]⟩,
  ⟨some 15, .load 1 false (.t 14), some (13, true), [1]⟩,
  ⟨some 16, .bin .eql (.t 15) (.c (.int .i64 0)), some (13, true), []⟩,
  ⟨some 17, .pick (.t 13) (.t 16) (.c (.bool false)), none, []⟩,
  ⟨some 18, .mv (.t 17), none, []⟩,
  ⟨some 19, .fad (.t 1) 4, some (18, true), [1]⟩,
  ⟨some 20, .load 1 false (.t 19), some (18, true), [1]⟩,
  ⟨some 21, .bin .eql (.t 20) (.c (.int .i64 0)), some (18, true), []⟩,
  ⟨some 22, .pick (.t 18) (.t 21) (.c (.bool false)), none, []⟩,
  ⟨some 23, .mv (.t 22), none, []⟩,
  ⟨some 24, .fad (.t 1) 5, some (23, true), [1]⟩,
  ⟨some 25, .load 1 false (.t 24), some (23, true), [1]⟩,
  ⟨some 26, .bin .eql (.t 25) (.c (.int .i64 0)), some (23, true), []⟩,
  ⟨some 27, .pick (.t 23) (.t 26) (.c (.bool false)), none, []⟩,
  ⟨some 2, .mv (.t 27), none, []⟩] [2]) k s Q := rfl
def c156_3 : ACode := .seq c156_2 .ret
theorem r156_3 {C : Cs} {k : List Fr} {s : St} {Q : Post} : run C c156_3 k s Q = run C (.seq c156_2 .ret) k s Q := rfl
def c156_4 : ACode := .cond (.t 4) c156_3 .skip
theorem r156_4 {C : Cs} {k : List Fr} {s : St} {Q : Post} : run C c156_4 k s Q = run C (.cond (.t 4) c156_3 .skip) k s Q := rfl
def c156_5 : ACode := .seq c156_1 c156_4
theorem r156_5 {C : Cs} {k : List Fr} {s : St} {Q : Post} : run C c156_5 k s Q = run C (.seq c156_1 c156_4) k s Q := rfl
def c156_6 : ACode := .ops [⟨some 28, .fad (.t 1) 1, none, [1]⟩,
  ⟨some 29, .load 1 false (.t 28), none, [1]⟩,
  ⟨some 30, .bin .eql (.t 29) (.c (.int .i64 0)), none, []⟩,
  ⟨some 31, .mv (.t 30), none, []⟩,
  ⟨some 32, .fad (.t 1) 2, some (31, true), [1]⟩,
  ⟨some 33, .load 1 false (.t 32), some (31, true), [1]⟩,
  ⟨some 34, .bin .geq (.t 33) (.c (.int .i64 0)), some (31, true), []⟩,
  ⟨some 35, .pick (.t 31) (.t 34) (.c (.bool false)), none, []⟩,
  ⟨some 36, .mv (.t 35), none, []⟩,
  ⟨some 37, .fad (.t 1) 2, some (36, true), [1]⟩,
  ⟨some 38, .load 1 false (.t 37), some (36, true), [1]⟩,
  ⟨some 39, .bin .lss (.t 38) (.c (.int .i64 4)), some (36, true), []⟩,
  ⟨some 40, .pick (.t 36) (.t 39) (.c (.bool false)), none, []⟩,
  ⟨some 41, .mv (.t 40), none, []⟩,
  ⟨some 42, .fad (.t 1) 3, some (41, true), [1]⟩,
  ⟨some 43, .load 1 false (.t 42), some (41, true), [1]⟩,
  ⟨some 44, .call 119 [.t 43, .c (.int .i64 32)], some (41, true), []⟩,
  ⟨some 45, .pick (.t 41) (.t 44) (.c (.bool false)), none, []⟩,
  ⟨some 46, .mv (.t 45), none, []⟩,
  ⟨some 47, .fad (.t 1) 4, some (46, true), [1]⟩,
  ⟨some 48, .load 1 false (.t 47), some (46, true), [1]⟩,
  ⟨some 49, .bin .geq (.t 48) (.c (.int .i64 1)), some (46, true), []⟩,
  ⟨some 50, .pick (.t 46) (.t 49) (.c (.bool false)), none, []⟩,
  ⟨some 51, .mv (.t 50), none, []⟩,
  ⟨some 52, .fad (.t 1) 4, some (51, true), [1]⟩,
  ⟨some 53, .load 1 false (.t 52), some (51, true), [1]⟩,
  ⟨some 54, .bin .lss (.t 53) (.c (.int .i64 31)), some (51, true), []⟩,
  ⟨some 55, .pick (.t 51) (.t 54) (.c (.bool false)), none, []⟩,
  ⟨some 56, .mv (.t 55), none, []⟩,
  ⟨some 57, .fad (.t 1) 5, some (56, true), [1]⟩,
  ⟨some 58, .load 1 false (.t 57), some (56, true), [1]⟩,
  ⟨some 59, .bin .geq (.t 58) (.c (.int .i64 1)), some (56, true), []⟩,
  ⟨some 60, .pick (.t 56) (.t 59) (.c (.bool false)), none, []⟩,
  ⟨some 61, .mv (.t 60), none, []⟩,
  ⟨some 62, .fad (.t 1) 5, some (61, true), [1]⟩,
  ⟨some 63, .load 1 false (.t 62), some (61, true), [1]⟩,
  ⟨some 64, .bin .lss (.t 63) (.c (.int .i64 31)), some (61, true), []⟩,
  ⟨some 65, .pick (.t 61) (.t 64) (.c (.bool false)), none, []⟩,
  ⟨some 2, .mv (.t 65), none, []⟩] [2]
theorem r156_6 {C : Cs} {k : List Fr} {s : St} {Q : Post} : run C c156_6 k s Q = run C (.ops [⟨some 28, .fad (.t 1) 1, none, [1]⟩,
  ⟨some 29, .load 1 false (.t 28), none, [1]⟩,
  ⟨some 30, .bin .eql (.t 29) (.c (.int .i64 0)), none, []⟩,
  ⟨some 31, .mv (.t 30), none, []⟩,
  ⟨some 32, .fad (.t 1) 2, some (31, true), [1]⟩,
  ⟨some 33, .load 1 false (.t 32), some (31, true), [1]⟩,
  ⟨some 34, .bin .geq (.t 33) (.c (.int .i64 0)), some (31, true), []⟩,
  ⟨some 35, .pick (.t 31) (.t 34) (.c (.bool false)), none, []⟩,
  ⟨some 36, .mv (.t 35), none, []⟩,
  ⟨some 37, .fad (.t 1) 2, some (36, true), [1]⟩,
  ⟨some 38, .load 1 false (.t 37), some (36, true), [1]⟩,
  ⟨some 39, .bin .lss (.t 38) (.c (.int .i64 4)), some (36, true), []⟩,
  ⟨some 40, .pick (.t 36) (.t 39) (.c (.bool false)), none, []⟩,
  ⟨some 41, .mv (.t 40), none, []⟩,
  ⟨some 42, .fad (.t 1) 3, some (41, true), [1]⟩,
  ⟨some 43, .load 1 false (.t 42), some (41, true), [1]⟩,
  ⟨some 44, .call 119 [.t 43, .c (.int .i64 32)], some (41, true), []⟩,
  ⟨some 45, .pick (.t 41) (.t 44) (.c (.bool false)), none, []⟩,
  ⟨some 46, .mv (.t 45), none, []⟩,
  ⟨some 47, .fad (.t 1) 4, some (46, true), [1]⟩,
  ⟨some 48, .load 1 false (.t 47), some (46, true), [1]⟩,
  ⟨some 49, .bin .geq (.t 48) (.c (.int .i64 1)), some (46, true), []⟩,
  ⟨some 50, .pick (.t 46) (.t 49) (.c (.bool false)), none, []⟩,
  ⟨some 51, .mv (.t 50), none, []⟩,
  ⟨some 52, .fad (.t 1) 4, some (51, true), [1]⟩,
  ⟨some 53, .load 1 false (.t 52), some (51, true), [1]⟩,
  ⟨some 54, .bin .lss (.t 53) (.c (.int .i64 31)), some (51, true), []⟩,
  ⟨some 55, .pick (.t 51) (.t 54) (.c (.bool false)), none, []⟩,
  ⟨some 56, .mv (.t 55), none, []⟩,
  ⟨some 57, .fad (.t 1) 5, some (56, true), [1]⟩,
  ⟨some 58, .load 1 false (.t 57), some (56, true), [1]⟩,
  ⟨some 59, .bin .geq (.t 58) (.c (.int .i64 1)), some (56, true), []⟩,
  ⟨some 60, .pick (.t 56) (.t 59) (.c (.bool false)), none, []⟩,
  ⟨some 61, .mv (.t 60), none, []⟩,
  ⟨some 62, .fad (.t 1) 5, some (61, true), [1]⟩,
  ⟨some 63, .load 1 false (.t 62), some (61, true), [1]⟩,
  ⟨some 64, .bin .lss (.t 63) (.c (.int .i64 31)), some (61, true), []⟩,
  ⟨some 65, .pick (.t 61) (.t 64) (.c (.bool false)), none, []⟩,
  ⟨some 2, .mv (.t 65), none, []⟩] [2]) k s Q := rfl
def c156_7 : ACode := .seq c156_6 .ret
theorem r156_7 {C : Cs} {k : List Fr} {s : St} {Q : Post} : run C c156_7 k s Q = run C (.seq c156_6 .ret) k s Q := rfl
def c156_8 : ACode := .seq c156_5 c156_7
theorem r156_8 {C : Cs} {k : List Fr} {s : St} {Q : Post} : run C c156_8 k s Q = run C (.seq c156_5 c156_7) k s Q := rfl
def c156_9 : ACode := .seq c156_0 c156_8
theorem r156_9 {C : Cs} {k : List Fr} {s : St} {Q : Post} : run C c156_9 k s Q = run C (.seq c156_0 c156_8) k s Q := rfl
def a156 : AFun := ⟨1, 66, c156_9, [.t 2]⟩
attribute [simp] r156_0 r156_1 r156_2 r156_3 r156_4 r156_5 r156_6 r156_7 r156_8 r156_9
theorem m156 : mFun Try.prog Try.f156 a156 = true := by decide +kernel
/- copse/copseref6.Pack -/
def c111_0 : ACode := .ops [⟨some 1, .box (.t 0) 6, none, []⟩,
  ⟨some 2, .mv (.c (.int .u64 0)), none, []⟩] [1]
theorem r111_0 {C : Cs} {k : List Fr} {s : St} {Q : Post} : run C c111_0 k s Q = run C (.ops [⟨some 1, .box (.t 0) 6, none, []⟩,
  ⟨some 2, .mv (.c (.int .u64 0)), none, []⟩] [1]) k s Q := rfl
def c111_1 : ACode := .ops [⟨some 3, .load 6 true (.t 1), none, [1]⟩,
  ⟨some 4, .call 156 [.t 3], none, []⟩,
  ⟨some 5, .un .not (.t 4), none, []⟩] [1, 5]
theorem r111_1 {C : Cs} {k : List Fr} {s : St} {Q : Post} : run C c111_1 k s Q = run C (.ops [⟨some 3, .load 6 true (.t 1), none, [1]⟩,
  ⟨some 4, .call 156 [.t 3], none, []⟩,
  ⟨some 5, .un .not (.t 4), none, []⟩] [1, 5]) k s Q := rfl
def c111_2 : ACode := .ops [⟨some 2, .mv (.c (.int .u64 0)), none, []⟩] [2]
theorem r111_2 {C : Cs} {k : List Fr} {s : St} {Q : Post} : run C c111_2 k s Q = run C (.ops [⟨some 2, .mv (.c (.int .u64 0)), none, []⟩] [2]) k s Q := rfl
def c111_3 : ACode := .seq c111_2 .ret
theorem r111_3 {C : Cs} {k : List Fr} {s : St} {Q : Post} : run C c111_3 k s Q = run C (.seq c111_2 .ret) k s Q := rfl
def c111_4 : ACode := .cond (.t 5) c111_3 .skip
theorem r111_4 {C : Cs} {k : List Fr} {s : St} {Q : Post} : run C c111_4 k s Q = run C (.cond (.t 5) c111_3 .skip) k s Q := rfl
def c111_5 : ACode := .seq c111_1 c111_4
theorem r111_5 {C : Cs} {k : List Fr} {s : St} {Q : Post} : run C c111_5 k s Q = run C (.seq c111_1 c111_4) k s Q := rfl
def c111_6 : ACode := .ops [⟨some 6, .fad (.t 1) 0, none, [1]⟩,
  ⟨some 7, .load 1 false (.t 6), none, [1]⟩] [1, 7]
theorem r111_6 {C : Cs} {k : List Fr} {s : St} {Q : Post} : run C c111_6 k s Q = run C (.ops [⟨some 6, .fad (.t 1) 0, none, [1]⟩,
  ⟨some 7, .load 1 false (.t 6), none, [1]⟩] [1, 7]) k s Q := rfl
def c111_7 : ACode := .ops [⟨some 8, .fad (.t 1) 1, none, [1]⟩,
  ⟨some 9, .load 1 false (.t 8), none, [1]⟩,
  ⟨some 10, .conv .u64 (.t 9), none, []⟩,
  ⟨some 11, .bin .and (.t 10) (.c (.int .u64 4294967295)), none, []⟩,
  ⟨some 12, .bin .or (.c (.int .u64 9223372036854775808)) (.t 11), none, []⟩,
  ⟨some 2, .mv (.t 12), none, []⟩] [2]
theorem r111_7 {C : Cs} {k : List Fr} {s : St} {Q : Post} : run C c111_7 k s Q = run C (.ops [⟨some 8, .fad (.t 1) 1, none, [1]⟩,
  ⟨some 9, .load 1 false (.t 8), none, [1]⟩,
  ⟨some 10, .conv .u64 (.t 9), none, []⟩,
  ⟨some 11, .bin .and (.t 10) (.c (.int .u64 4294967295)), none, []⟩,
  ⟨some 12, .bin .or (.c (.int .u64 9223372036854775808)) (.t 11), none, []⟩,
  ⟨some 2, .mv (.t 12), none, []⟩] [2]) k s Q := rfl
def c111_8 : ACode := .seq c111_7 .ret
theorem r111_8 {C : Cs} {k : List Fr} {s : St} {Q : Post} : run C c111_8 k s Q = run C (.seq c111_7 .ret) k s Q := rfl
def c111_9 : ACode := .cond (.t 7) c111_8 .skip
theorem r111_9 {C : Cs} {k : List Fr} {s : St} {Q : Post} : run C c111_9 k s Q = run C (.cond (.t 7) c111_8 .skip) k s Q := rfl
def c111_10 : ACode := .seq c111_6 c111_9
theorem r111_10 {C : Cs} {k : List Fr} {s : St} {Q : Post} : run C c111_10 k s Q = run C (.seq c111_6 c111_9) k s Q := rfl
def c111_11 : ACode := .ops [⟨some 13, .fad (.t 1) 3, none, [1]⟩,
  ⟨some 14, .load 1 false (.t 13), none, [1]⟩,
  ⟨some 15, .conv .u64 (.t 14), none, []⟩,
  ⟨some 16, .bin .and (.t 15) (.c (.int .u64 4294967295)), none, []⟩,
  ⟨some 17, .fad (.t 1) 2, none, [1]⟩,
  ⟨some 18, .load 1 false (.t 17), none, [1]⟩,
  ⟨some 19, .conv .u64 (.t 18), none, []⟩,
  ⟨some 20, .bin .shl (.t 19) (.c (.int .u64 32)), none, []⟩,
  ⟨some 21, .bin .or (.t 16) (.t 20), none, []⟩,
  ⟨some 22, .fad (.t 1) 4, none, [1]⟩,
  ⟨some 23, .load 1 false (.t 22), none, [1]⟩,
  ⟨some 24, .conv .u64 (.t 23), none, []⟩,
  ⟨some 25, .bin .shl (.t 24) (.c (.int .u64 40)), none, []⟩,
  ⟨some 26, .bin .or (.t 21) (.t 25), none, []⟩,
  ⟨some 27, .fad (.t 1) 5, none, [1]⟩,
  ⟨some 28, .load 1 false (.t 27), none, [1]⟩,
  ⟨some 29, .conv .u64 (.t 28), none, []⟩,
  ⟨some 30, .bin .shl (.t 29) (.c (.int .u64 48)), none, []⟩,
  ⟨some 31, .bin .or (.t 26) (.t 30), none, []⟩,
  ⟨some 2, .mv (.t 31), none, []⟩] [2]
theorem r111_11 {C : Cs} {k : List Fr} {s : St} {Q : Post} : run C c111_11 k s Q = run C (.ops [⟨some 13, .fad (.t 1) 3, none, [1]⟩,
  ⟨some 14, .load 1 false (.t 13), none, [1]⟩,
  ⟨some 15, .conv .u64 (.t 14), none, []⟩,
  ⟨some 16, .bin .and (.t 15) (.c (.int .u64 4294967295)), none, []⟩,
  ⟨some 17, .fad (.t 1) 2, none, [1]⟩,
  ⟨some 18, .load 1 false (.t 17), none, [1]⟩,
  ⟨some 19, .conv .u64 (.t 18), none, []⟩,
  ⟨some 20, .bin .shl (.t 19) (.c (.int .u64 32)), none, []⟩,
  ⟨some 21, .bin .or (.t 16) (.t 20), none, []⟩,
  ⟨some 22, .fad (.t 1) 4, none, [1]⟩,
  ⟨some 23, .load 1 false (.t 22), none, [1]⟩,
  ⟨some 24, .conv .u64 (.t 23), none, []⟩,
  ⟨some 25, .bin .shl (.t 24) (.c (.int .u64 40)), none, []⟩,
  ⟨some 26, .bin .or (.t 21) (.t 25), none, []⟩,
  ⟨some 27, .fad (.t 1) 5, none, [1]⟩,
  ⟨some 28, .load 1 false (.t 27), none, [1]⟩,
  ⟨some 29, .conv .u64 (.t 28), none, []⟩,
  ⟨some 30, .bin .shl (.t 29) (.c (.int .u64 48)), none, []⟩,
  ⟨some 31, .bin .or (.t 26) (.t 30), none, []⟩,
  ⟨some 2, .mv (.t 31), none, []⟩] [2]) k s Q := rfl
def c111_12 : ACode := .seq c111_11 .ret
theorem r111_12 {C : Cs} {k : List Fr} {s : St} {Q : Post} : run C c111_12 k s Q = run C (.seq c111_11 .ret) k s Q := rfl
def c111_13 : ACode := .seq c111_10 c111_12
theorem r111_13 {C : Cs} {k : List Fr} {s : St} {Q : Post} : run C c111_13 k s Q = run C (.seq c111_10 c111_12) k s Q := rfl
def c111_14 : ACode := .seq c111_5 c111_13
theorem r111_14 {C : Cs} {k : List Fr} {s : St} {Q : Post} : run C c111_14 k s Q = run C (.seq c111_5 c111_13) k s Q := rfl
def c111_15 : ACode := .seq c111_0 c111_14
theorem r111_15 {C : Cs} {k : List Fr} {s : St} {Q : Post} : run C c111_15 k s Q = run C (.seq c111_0 c111_14) k s Q := rfl
def a111 : AFun := ⟨1, 32, c111_15, [.t 2]⟩
attribute [simp] r111_0 r111_1 r111_2 r111_3 r111_4 r111_5 r111_6 r111_7 r111_8 r111_9 r111_10 r111_11 r111_12 r111_13 r111_14 r111_15
theorem m111 : mFun Try.prog Try.f111 a111 = true := by decide +kernel
/- copse/copseref6.Unpack -/
def c136_0 : ACode := .ops [⟨some 2, .alloc [.bool false, .int .i64 0, .int .i64 0, .int .i64 0, .int .i64 0, .int .i64 0], none, []⟩,
  ⟨some 3, .mv (.c (.bool false)), none, []⟩] [0, 2]
theorem r136_0 {C : Cs} {k : List Fr} {s : St} {Q : Post} : run C c136_0 k s Q = run C (.ops [⟨some 2, .alloc [.bool false, .int .i64 0, .int .i64 0, .int .i64 0, .int .i64 0, .int .i64 0], none, []⟩,
  ⟨some 3, .mv (.c (.bool false)), none, []⟩] [0, 2]) k s Q := rfl
def c136_1 : ACode := .ops [⟨some 5, .build [.bool false, .int .i64 0, .int .i64 0, .int .i64 0, .int .i64 0, .int .i64 0] [], none, []⟩,
  ⟨some 4, .alloc [.bool false, .int .i64 0, .int .i64 0, .int .i64 0, .int .i64 0, .int .i64 0], none, []⟩,
  ⟨none, .store (.t 4) 6 (.t 5), none, [4]⟩] [0, 2, 4]
theorem r136_1 {C : Cs} {k : List Fr} {s : St} {Q : Post} : run C c136_1 k s Q = run C (.ops [⟨some 5, .build [.bool false, .int .i64 0, .int .i64 0, .int .i64 0, .int .i64 0, .int .i64 0] [], none, []⟩,
  ⟨some 4, .alloc [.bool false, .int .i64 0, .int .i64 0, .int .i64 0, .int .i64 0, .int .i64 0], none, []⟩,
  ⟨none, .store (.t 4) 6 (.t 5), none, [4]⟩] [0, 2, 4]) k s Q := rfl
def c136_2 : ACode := .ops [⟨some 6, .mv (.t 0), none, []⟩,
  ⟨some 7, .bin .shr (.t 6) (.c (.int .u64 63)), none, []⟩,
  ⟨some 8, .bin .eql (.t 7) (.c (.int .u64 1)), none, []⟩] [0, 2, 4, 8]
theorem r136_2 {C : Cs} {k : List Fr} {s : St} {Q : Post} : run C c136_2 k s Q = run C (.ops [⟨some 6, .mv (.t 0), none, []⟩,
  ⟨some 7, .bin .shr (.t 6) (.c (.int .u64 63)), none, []⟩,
  ⟨some 8, .bin .eql (.t 7) (.c (.int .u64 1)), none, []⟩] [0, 2, 4, 8]) k s Q := rfl
def c136_3 : ACode := .ops [⟨some 9, .mv (.t 0), none, []⟩,
  ⟨some 10, .bin .and (.t 9) (.c (.int .u64 4294967295)), none, []⟩,
  ⟨some 11, .conv .i64 (.t 10), none, []⟩,
  ⟨some 12, .call 168 [.t 11, .c (.int .i64 32)], none, []⟩,
  ⟨some 13, .build [.bool false, .int .i64 0, .int .i64 0, .int .i64 0, .int .i64 0, .int .i64 0] [(0, 1, .c (.bool true)), (1, 1, .t 12)], none, []⟩,
  ⟨none, .store (.t 4) 6 (.t 13), none, [4]⟩] [0, 2, 4]
theorem r136_3 {C : Cs} {k : List Fr} {s : St} {Q : Post} : run C c136_3 k s Q = run C (.ops [⟨some 9, .mv (.t 0), none, []⟩,
  ⟨some 10, .bin .and (.t 9) (.c (.int .u64 4294967295)), none, []⟩,
  ⟨some 11, .conv .i64 (.t 10), none, []⟩,
  ⟨some 12, .call 168 [.t 11, .c (.int .i64 32)], none, []⟩,
  ⟨some 13, .build [.bool false, .int .i64 0, .int .i64 0, .int .i64 0, .int .i64 0, .int .i64 0] [(0, 1, .c (.bool true)), (1, 1, .t 12)], none, []⟩,
  ⟨none, .store (.t 4) 6 (.t 13), none, [4]⟩] [0, 2, 4]) k s Q := rfl
def c136_4 : ACode := .ops [⟨some 14, .mv (.t 0), none, []⟩,
  ⟨some 15, .bin .and (.t 14) (.c (.int .u64 4294967295)), none, []⟩,
  ⟨some 16, .conv .i64 (.t 15), none, []⟩,
  ⟨some 17, .call 168 [.t 16, .c (.int .i64 32)], none, []⟩,
  ⟨some 18, .mv (.t 0), none, []⟩,
  ⟨some 19, .bin .shr (.t 18) (.c (.int .u64 32)), none, []⟩,
  ⟨some 20, .bin .and (.t 19) (.c (.int .u64 15)), none, []⟩,
  ⟨some 21, .conv .i64 (.t 20), none, []⟩,
  ⟨some 22, .mv (.t 0), none, []⟩,
  ⟨some 23, .bin .shr (.t 22) (.c (.int .u64 40)), none, []⟩,
  ⟨some 24, .bin .and (.t 23) (.c (.int .u64 255)), none, []⟩,
  ⟨some 25, .conv .i64 (.t 24), none, []⟩,
  ⟨some 26, .mv (.t 0), none, []⟩,
  ⟨some 27, .bin .shr (.t 26) (.c (.int .u64 48)), none, []⟩,
  ⟨some 28, .bin .and (.t 27) (.c (.int .u64 255)), none, []⟩,
  ⟨some 29, .conv .i64 (.t 28), none, []⟩,
  ⟨some 30, .build [.bool false, .int .i64 0, .int .i64 0, .int .i64 0, .int .i64 0, .int .i64 0] [(3, 1, .t 17), (2, 1, .t 21), (4, 1, .t 25), (5, 1, .t 29)], none, []⟩,
  ⟨none, .store (.t 4) 6 (.t 30), none, [4]⟩] [0, 2, 4]
theorem r136_4 {C : Cs} {k : List Fr} {s : St} {Q : Post} : run C c136_4 k s Q = run C (.ops [⟨some 14, .mv (.t 0), none, []⟩,
  ⟨some 15, .bin .and (.t 14) (.c (.int .u64 4294967295)), none, []⟩,
  ⟨some 16, .conv .i64 (.t 15), none, []⟩,
  ⟨some 17, .call 168 [.t 16, .c (.int .i64 32)], none, []⟩,
  ⟨some 18, .mv (.t 0), none, []⟩,
  ⟨some 19, .bin .shr (.t 18) (.c (.int .u64 32)), none, []⟩,
  ⟨some 20, .bin .and (.t 19) (.c (.int .u64 15)), none, []⟩,
  ⟨some 21, .conv .i64 (.t 20), none, []⟩,
  ⟨some 22, .mv (.t 0), none, []⟩,
  ⟨some 23, .bin .shr (.t 22) (.c (.int .u64 40)), none, []⟩,
  ⟨some 24, .bin .and (.t 23) (.c (.int .u64 255)), none, []⟩,
  ⟨some 25, .conv .i64 (.t 24), none, []⟩,
  ⟨some 26, .mv (.t 0), none, []⟩,
  ⟨some 27, .bin .shr (.t 26) (.c (.int .u64 48)), none, []⟩,
  ⟨some 28, .bin .and (.t 27) (.c (.int .u64 255)), none, []⟩,
  ⟨some 29, .conv .i64 (.t 28), none, []⟩,
  ⟨some 30, .build [.bool false, .int .i64 0, .int .i64 0, .int .i64 0, .int .i64 0, .int .i64 0] [(3, 1, .t 17), (2, 1, .t 21), (4, 1, .t 25), (5, 1, .t 29)], none, []⟩,
  ⟨none, .store (.t 4) 6 (.t 30), none, [4]⟩] [0, 2, 4]) k s Q := rfl
def c136_5 : ACode := .cond (.t 8) c136_3 c136_4
theorem r136_5 {C : Cs} {k : List Fr} {s : St} {Q : Post} : run C c136_5 k s Q = run C (.cond (.t 8) c136_3 c136_4) k s Q := rfl
def c136_6 : ACode := .seq c136_2 c136_5
theorem r136_6 {C : Cs} {k : List Fr} {s : St} {Q : Post} : run C c136_6 k s Q = run C (.seq c136_2 c136_5) k s Q := rfl
def c136_7 : ACode := .ops [⟨some 31, .load 6 true (.t 4), none, [4]⟩,
  ⟨some 32, .call 156 [.t 31], none, []⟩,
  ⟨some 33, .un .not (.t 32), none, []⟩,
  ⟨some 34, .mv (.t 33), none, []⟩,
  ⟨some 35, .load 6 true (.t 4), some (34, false), [4]⟩,
  ⟨some 36, .call 111 [.t 35], some (34, false), []⟩,
  ⟨some 37, .mv (.t 0), some (34, false), []⟩,
  ⟨some 38, .bin .neq (.t 36) (.t 37), some (34, false), []⟩,
  ⟨some 39, .pick (.t 34) (.c (.bool true)) (.t 38), none, []⟩] [2, 4, 39]
theorem r136_7 {C : Cs} {k : List Fr} {s : St} {Q : Post} : run C c136_7 k s Q = run C (.ops [⟨some 31, .load 6 true (.t 4), none, [4]⟩,
  ⟨some 32, .call 156 [.t 31], none, []⟩,
  ⟨some 33, .un .not (.t 32), none, []⟩,
  ⟨some 34, .mv (.t 33), none, []⟩,
  ⟨some 35, .load 6 true (.t 4), some (34, false), [4]⟩,
  ⟨some 36, .call 111 [.t 35], some (34, false), []⟩,
  ⟨some 37, .mv (.t 0), some (34, false), []⟩,
  ⟨some 38, .bin .neq (.t 36) (.t 37), some (34, false), []⟩,
  ⟨some 39, .pick (.t 34) (.c (.bool true)) (.t 38), none, []⟩] [2, 4, 39]) k s Q := rfl
def c136_8 : ACode := .ops [⟨some 40, .build [.bool false, .int .i64 0, .int .i64 0, .int .i64 0, .int .i64 0, .int .i64 0] [], none, []⟩,
  ⟨none, .store (.t 2) 6 (.t 40), none, [2]⟩,
  ⟨some 3, .mv (.c (.bool false)), none, []⟩] [2, 3]
theorem r136_8 {C : Cs} {k : List Fr} {s : St} {Q : Post} : run C c136_8 k s Q = run C (.ops [⟨some 40, .build [.bool false, .int .i64 0, .int .i64 0, .int .i64 0, .int .i64 0, .int .i64 0] [], none, []⟩,
  ⟨none, .store (.t 2) 6 (.t 40), none, [2]⟩,
  ⟨some 3, .mv (.c (.bool false)), none, []⟩] [2, 3]) k s Q := rfl
def c136_9 : ACode := .seq c136_8 .ret
theorem r136_9 {C : Cs} {k : List Fr} {s : St} {Q : Post} : run C c136_9 k s Q = run C (.seq c136_8 .ret) k s Q := rfl
def c136_10 : ACode := .cond (.t 39) c136_9 .skip
theorem r136_10 {C : Cs} {k : List Fr} {s : St} {Q : Post} : run C c136_10 k s Q = run C (.cond (.t 39) c136_9 .skip) k s Q := rfl
def c136_11 : ACode := .seq c136_7 c136_10
theorem r136_11 {C : Cs} {k : List Fr} {s : St} {Q : Post} : run C c136_11 k s Q = run C (.seq c136_7 c136_10) k s Q := rfl
def c136_12 : ACode := .ops [⟨some 41, .load 6 true (.t 4), none, [4]⟩,
  ⟨none, .store (.t 2) 6 (.t 41), none, [2]⟩,
  ⟨some 3, .mv (.c (.bool true)), none, []⟩] [2, 3]
theorem r136_12 {C : Cs} {k : List Fr} {s : St} {Q : Post} : run C c136_12 k s Q = run C (.ops [⟨some 41, .load 6 true (.t 4), none, [4]⟩,
  ⟨none, .store (.t 2) 6 (.t 41), none, [2]⟩,
  ⟨some 3, .mv (.c (.bool true)), none, []⟩] [2, 3]) k s Q := rfl
def c136_13 : ACode := .seq c136_12 .ret
theorem r136_13 {C : Cs} {k : List Fr} {s : St} {Q : Post} : run C c136_13 k s Q = run C (.seq c136_12 .ret) k s Q := rfl
def c136_14 : ACode := .seq c136_11 c136_13
theorem r136_14 {C : Cs} {k : List Fr} {s : St} {Q : Post} : run C c136_14 k s Q = run C (.seq c136_11 c136_13) k s Q := rfl
def c136_15 : ACode := .seq c136_6 c136_14
theorem r136_15 {C : Cs} {k : List Fr} {s : St} {Q : Post} : run C c136_15 k s Q = run C (.seq c136_6 c136_14) k s Q := rfl
def c136_16 : ACode := .seq c136_1 c136_15
theorem r136_16 {C : Cs} {k : List Fr} {s : St} {Q : Post} : run C c136_16 k s Q = run C (.seq c136_1 c136_15) k s Q := rfl
def c136_17 : ACode := .seq c136_0 c136_16
theorem r136_17 {C : Cs} {k : List Fr} {s : St} {Q : Post} : run C c136_17 k s Q = run C (.seq c136_0 c136_16) k s Q := rfl
def a136 : AFun := ⟨1, 42, c136_17, [.cell 2 6 true, .t 3]⟩
attribute [simp] r136_0 r136_1 r136_2 r136_3 r136_4 r136_5 r136_6 r136_7 r136_8 r136_9 r136_10 r136_11 r136_12 r136_13 r136_14 r136_15 r136_16 r136_17
theorem m136 : mFun Try.prog Try.f136 a136 = true := by decide +kernel



theorem runs_rRightNode (n : Node) (c : Bool) (h : some (rightNode n) = some c) : Runs (tbl [(119, sp2 Fits)]) a156 [Arg.enc n] (Arg.enc c) := by
  cases h
  refine ⟨rfl, fun g => run_def ?_⟩
  obtain ⟨leaf, value, feature, cut, left, right⟩ := n
  unfold a156
  cases leaf
  case false =>
    by_cases h1 : value = 0
    case neg => simp -implicitDefEqProofs [rightNode, Fits, h1]
    by_cases h2 : 0 ≤ feature
    case neg => simp -implicitDefEqProofs [rightNode, Fits, h1, h2]
    by_cases h3 : feature < 4
    case neg => simp -implicitDefEqProofs [rightNode, Fits, h1, h2, h3]
    cases h4 : fits cut
    case false => simp -implicitDefEqProofs [rightNode, Fits, h1, h2, h3, h4]
    by_cases h5 : 1 ≤ left
    case neg => simp -implicitDefEqProofs [rightNode, Fits, h1, h2, h3, h4, h5]
    by_cases h6 : left < 31
    case neg => simp -implicitDefEqProofs [rightNode, Fits, h1, h2, h3, h4, h5, h6]
    by_cases h7 : 1 ≤ right <;> simp -implicitDefEqProofs [rightNode, Fits, h1, h2, h3, h4, h5, h6, h7]
  case true =>
    cases h1 : fits value
    case false => simp -implicitDefEqProofs [rightNode, Fits, h1]
    by_cases h2 : feature = 0
    case neg => simp -implicitDefEqProofs [rightNode, Fits, h1, h2]
    by_cases h3 : cut = 0
    case neg => simp -implicitDefEqProofs [rightNode, Fits, h1, h2, h3]
    by_cases h4 : left = 0 <;> simp -implicitDefEqProofs [rightNode, Fits, h1, h2, h3, h4]

theorem c_rRightNode : Contract Try.prog 156 (sp1 fun n => some (rightNode n)) :=
  contract_of_runs mixed (tbl_cons c_rFits tbl_nil) Try.func156 m156 (sp1_runs runs_rRightNode)


theorem or_low (a b : Int) (k : Nat) (hk : k < 64) (ha : 0 ≤ a) (h1 : a < 2 ^ k) (hb : 0 ≤ b) (h2 : b * 2 ^ k < 18446744073709551616) : ior .u64 a (b * 2 ^ k) = a + b * 2 ^ k := by
  obtain ⟨a, rfl⟩ : ∃ n : Nat, a = n := ⟨a.toNat, by omega⟩
  obtain ⟨b, rfl⟩ : ∃ n : Nat, b = n := ⟨b.toNat, by omega⟩
  have e : ((b : Int) * 2 ^ k) = ((b * 2 ^ k : Nat) : Int) := by simp
  have h1' : a < 2 ^ k := by
    have e2 : ((2 : Int) ^ k) = ((2 ^ k : Nat) : Int) := by simp
    rw [e2] at h1
    omega
  have h64 : (2 : Nat) ^ k ≤ 2 ^ 63 := Nat.pow_le_pow_right (by omega) (by omega)
  rw [e] at h2 ⊢
  have hb2 : b * 2 ^ k < 18446744073709551616 := by omega
  rw [u_or _ _ ⟨by omega, by omega⟩ ⟨by omega, by omega⟩]
  have e3 : ((a : Int)).toNat = a := by omega
  have e4 : (((b * 2 ^ k : Nat) : Int)).toNat = b * 2 ^ k := by omega
  rw [e3, e4, Nat.or_comm, or_apart b a k h1']
  omega

theorem and_low (a : Int) (h : okW a) : iand .u64 a 4294967295 = a % 4294967296 := by
  rw [u_and _ _ h ⟨by omega, by omega⟩]
  have e : (4294967295 : Int).toNat = 4294967295 := rfl
  have := and_mask a.toNat 0 32
  simp at this
  rw [e, this]
  have := h.1
  omega

theorem runs_rPack (n : Node) (c : Word) (h : some (pack n) = some c) : Runs (tbl [(156, sp1 fun n => some (rightNode n))]) a111 [Arg.enc n] (Arg.enc c) := by
  cases h
  refine ⟨rfl, fun g => run_def ?_⟩
  obtain ⟨leaf, value, feature, cut, left, right⟩ := n
  unfold a111
  cases h1 : rightNode ⟨leaf, value, feature, cut, left, right⟩
  case false => simp -implicitDefEqProofs [pack, h1]
  cases leaf
  case true =>
    have e1 : ior .u64 9223372036854775808 (value % 4294967296) = 9223372036854775808 + value % 4294967296 := by
      rw [u_or _ _ ⟨by omega, by omega⟩ ⟨by omega, by omega⟩]
      have e := or_apart 1 (value % 4294967296).toNat 63 (by omega)
      have e2 : (9223372036854775808 : Int).toNat = 1 * 2 ^ 63 := rfl
      rw [e2, e]
      omega
    simp -implicitDefEqProofs [pack, h1, u_conv, and_low _ (okW_mod _), e1]
  case false =>
    have hb := h1
    simp [rightNode] at hb
    have f1 : feature % 18446744073709551616 * 4294967296 % 18446744073709551616 = feature * 2 ^ 32 := by omega
    have f2 : left % 18446744073709551616 * 1099511627776 % 18446744073709551616 = left * 2 ^ 40 := by omega
    have f3 : right % 18446744073709551616 * 281474976710656 % 18446744073709551616 = right * 2 ^ 48 := by omega
    have e1 := or_low (cut % 4294967296) feature 32 (by omega) (by omega) (by omega) (by omega) (by omega)
    have e2 := or_low (cut % 4294967296 + feature * 2 ^ 32) left 40 (by omega) (by omega) (by omega) (by omega) (by omega)
    have e3 := or_low (cut % 4294967296 + feature * 2 ^ 32 + left * 2 ^ 40) right 48 (by omega) (by omega) (by omega) (by omega) (by omega)
    simp -implicitDefEqProofs [pack, h1, u_conv, and_low _ (okW_mod _), f1, f2, f3]
    simp only [Int.reducePow] at e1 e2 e3
    rw [e1, e2, e3]

theorem c_rPack : Contract Try.prog 111 (sp1 fun n => some (pack n)) :=
  contract_of_runs mixed (tbl_cons c_rRightNode tbl_nil) Try.func111 m111 (sp1_runs runs_rPack)

theorem and_15 (a : Int) (h : okW a) : iand .u64 a 15 = a % 16 := by
  rw [u_and _ _ h ⟨by omega, by omega⟩]
  have e : (15 : Int).toNat = 15 := rfl
  have := and_mask a.toNat 0 4
  simp at this
  rw [e, this]
  have := h.1
  omega
theorem and_255 (a : Int) (h : okW a) : iand .u64 a 255 = a % 256 := by
  rw [u_and _ _ h ⟨by omega, by omega⟩]
  have e : (255 : Int).toNat = 255 := rfl
  have := and_mask a.toNat 0 8
  simp at this
  rw [e, this]
  have := h.1
  omega

def Unpack (w : Word) : Option (Node × Bool) := if 0 ≤ w.v ∧ w.v < 18446744073709551616 then some (unpack w) else none

theorem runs_rUnpack (w : Word) (c : Node × Bool) (h : Unpack w = some c) : Runs (tbl [(168, sp2 Wrap), (156, sp1 fun n => some (rightNode n)), (111, sp1 fun n => some (pack n))]) a136 [Arg.enc w] (Arg.enc c) := by
  unfold Unpack at h
  split at h
  · rename_i hw
    cases h
    obtain ⟨v⟩ := w
    simp only at hw
    have i1 := and_low v hw
    have i2 := and_15 (v / 4294967296) ⟨by omega, by omega⟩
    have i3 := and_255 (v / 1099511627776) ⟨by omega, by omega⟩
    have i4 := and_255 (v / 281474976710656) ⟨by omega, by omega⟩
    have d (k : Int) (hk : 0 ≤ k) : v.fdiv k = v / k := Int.fdiv_eq_ediv_of_nonneg v hk
    have w1 : IntKind.i64.wrap (v % 4294967296) = v % 4294967296 := wrap64 (by omega) (by omega)
    have w2 : IntKind.i64.wrap (v / 4294967296 % 16) = v / 4294967296 % 16 := wrap64 (by omega) (by omega)
    have w3 : IntKind.i64.wrap (v / 1099511627776 % 256) = v / 1099511627776 % 256 := wrap64 (by omega) (by omega)
    have w4 : IntKind.i64.wrap (v / 281474976710656 % 256) = v / 281474976710656 % 256 := wrap64 (by omega) (by omega)
    have b1 : -9223372036854775808 ≤ v % 4294967296 ∧ v % 4294967296 ≤ 9223372036854775807 := by omega
    refine ⟨rfl, fun g => run_def ?_⟩
    unfold a136
    by_cases hl : v / 9223372036854775808 = 1
    · have hr : raw v = ⟨true, wrap32 (v % 4294967296), 0, 0, 0, 0⟩ := by simp [raw, hl]
      cases h1 : rightNode ⟨true, wrap32 (v % 4294967296), 0, 0, 0, 0⟩
      · simp -implicitDefEqProofs [unpack, hr, h1, hl, d, i1, w1, Wrap, b1]
      · by_cases h2 : (pack ⟨true, wrap32 (v % 4294967296), 0, 0, 0, 0⟩).v = v
        · have h3 : pack ⟨true, wrap32 (v % 4294967296), 0, 0, 0, 0⟩ = ⟨v⟩ := by cases hp : pack ⟨true, wrap32 (v % 4294967296), 0, 0, 0, 0⟩; rw [hp] at h2; simpa using h2
          simp -implicitDefEqProofs [unpack, hr, h1, hl, d, i1, w1, Wrap, b1, h2, h3]
        · have h3 : ¬ pack ⟨true, wrap32 (v % 4294967296), 0, 0, 0, 0⟩ = ⟨v⟩ := fun e => h2 (by rw [e])
          simp -implicitDefEqProofs [unpack, hr, h1, hl, d, i1, w1, Wrap, b1, h2, h3]
    · generalize hn : (⟨false, 0, v / 4294967296 % 16, wrap32 (v % 4294967296), v / 1099511627776 % 256, v / 281474976710656 % 256⟩ : Node) = n at *
      have hr : raw v = n := by rw [← hn]; simp [raw, hl]
      cases h1 : rightNode n
      · rw [← hn] at h1 hr
        simp -implicitDefEqProofs [unpack, hr, h1, hl, d, i1, i2, i3, i4, w1, w2, w3, w4, Wrap, b1]
      · by_cases h2 : (pack n).v = v
        · have h3 : pack n = ⟨v⟩ := by cases hp : pack n; rw [hp] at h2; simpa using h2
          rw [← hn] at h1 hr h2 h3
          simp -implicitDefEqProofs [unpack, hr, h1, hl, d, i1, i2, i3, i4, w1, w2, w3, w4, Wrap, b1, h2, h3]
        · have h3 : ¬ pack n = ⟨v⟩ := fun e => h2 (by rw [e])
          rw [← hn] at h1 hr h2 h3
          simp -implicitDefEqProofs [unpack, hr, h1, hl, d, i1, i2, i3, i4, w1, w2, w3, w4, Wrap, b1, h2, h3]
  · cases h

theorem c_rUnpack : Contract Try.prog 136 (sp1 Unpack) :=
  contract_of_runs mixed (tbl_cons c_rWrap (tbl_cons c_rRightNode (tbl_cons c_rPack tbl_nil))) Try.func136 m136 (sp1_runs runs_rUnpack)
end Go.Co
