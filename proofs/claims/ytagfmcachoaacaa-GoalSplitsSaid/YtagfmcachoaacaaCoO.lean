/- CO: margins, the best class (written by mkCoO.py). -/
import Derived.Test.YtagfmcachoaacaaCoIn
namespace Go.Co
open Go.Am Go.Proofs
set_option linter.unusedSimpArgs false
set_option linter.unusedVariables false
def c31_0 : ACode := .ops [⟨some 3, .box (.t 0) 6, none, []⟩,
  ⟨some 5, .box (.t 2) 10, none, []⟩,
  ⟨some 6, .mv (.c (.int .i64 0)), none, []⟩,
  ⟨some 7, .mv (.c (.bool false)), none, []⟩] [1, 3, 5]
def c31_1 : ACode := .ops [⟨some 18, .load 6 true (.t 3), none, [3]⟩,
  ⟨some 19, .mv (.t 1), none, []⟩,
  ⟨some 20, .load 10 true (.t 5), none, [5]⟩,
  ⟨some 21, .call 23 [.t 18, .t 19, .t 20], none, []⟩,
  ⟨some 17, .mv (.t 21), none, []⟩,
  ⟨some 22, .ext (.t 17) 0, none, []⟩,
  ⟨some 23, .ext (.t 17) 1, none, []⟩,
  ⟨some 24, .ext (.t 17) 2, none, []⟩,
  ⟨some 8, .mv (.t 22), none, []⟩,
  ⟨some 9, .mv (.t 23), none, []⟩,
  ⟨some 10, .mv (.t 24), none, []⟩] [1, 3, 5, 8, 10]
def c31_2 : ACode := .ops [⟨some 25, .mv (.t 10), none, []⟩,
  ⟨some 26, .un .not (.t 25), none, []⟩,
  ⟨some 27, .mv (.t 26), none, []⟩,
  ⟨some 28, .fad (.t 3) 1, some (27, false), [3]⟩,
  ⟨some 29, .load 1 false (.t 28), some (27, false), [3]⟩,
  ⟨some 30, .bin .lss (.t 29) (.c (.int .i64 2)), some (27, false), []⟩,
  ⟨some 31, .pick (.t 27) (.c (.bool true)) (.t 30), none, []⟩] [1, 3, 5, 8, 31]
def c31_3 : ACode := .ops [⟨some 6, .mv (.c (.int .i64 0)), none, []⟩,
  ⟨some 7, .mv (.c (.bool false)), none, []⟩] [6, 7]
def c31_4 : ACode := .seq c31_3 .ret
def c31_5 : ACode := .cond (.t 31) c31_4 .skip
def c31_6 : ACode := .seq c31_2 c31_5
def c31_7 : ACode := .ops [⟨some 11, .mv (.c (.int .i64 0)), none, []⟩,
  ⟨some 12, .mv (.c (.bool false)), none, []⟩] [1, 3, 5, 8, 11, 12]
def c31_8 : ACode := .ops [⟨some 32, .fad (.t 3) 1, none, [3]⟩,
  ⟨some 33, .load 1 false (.t 32), none, [3]⟩,
  ⟨some 34, .mv (.c (.int .i64 0)), none, []⟩] [1, 3, 5, 8, 11, 12, 33, 34]
def c31_9 : ACode := .ops [⟨some 35, .bin .lss (.t 34) (.t 33), none, []⟩] [1, 3, 5, 8, 11, 12, 33, 34, 35]
def c31_10 : ACode := .cond (.t 35) .skip (.exit 0)
def c31_11 : ACode := .ops [⟨some 36, .mv (.t 34), none, []⟩,
  ⟨some 13, .mv (.t 36), none, []⟩] [1, 3, 5, 8, 11, 12, 13, 33, 34]
def c31_12 : ACode := .ops [⟨some 37, .mv (.t 13), none, []⟩,
  ⟨some 38, .mv (.t 1), none, []⟩,
  ⟨some 39, .bin .eql (.t 37) (.t 38), none, []⟩] [1, 3, 5, 8, 11, 12, 13, 33, 34, 39]
def c31_13 : ACode := .cond (.t 39) (.exit 1) .skip
def c31_14 : ACode := .seq c31_12 c31_13
def c31_15 : ACode := .ops [⟨some 41, .load 6 true (.t 3), none, [3]⟩,
  ⟨some 42, .mv (.t 13), none, []⟩,
  ⟨some 43, .load 10 true (.t 5), none, [5]⟩,
  ⟨some 44, .call 23 [.t 41, .t 42, .t 43], none, []⟩,
  ⟨some 40, .mv (.t 44), none, []⟩,
  ⟨some 45, .ext (.t 40) 0, none, []⟩,
  ⟨some 46, .ext (.t 40) 1, none, []⟩,
  ⟨some 47, .ext (.t 40) 2, none, []⟩,
  ⟨some 14, .mv (.t 45), none, []⟩,
  ⟨some 15, .mv (.t 46), none, []⟩,
  ⟨some 16, .mv (.t 47), none, []⟩] [1, 3, 5, 8, 11, 12, 15, 33, 34]
def c31_16 : ACode := .ops [⟨some 48, .mv (.t 12), none, []⟩,
  ⟨some 49, .un .not (.t 48), none, []⟩,
  ⟨some 50, .mv (.t 49), none, []⟩,
  ⟨some 51, .mv (.t 8), some (50, false), []⟩,
  ⟨some 52, .mv (.t 15), some (50, false), []⟩,
  ⟨some 53, .bin .sub (.t 51) (.t 52), some (50, false), []⟩,
  ⟨some 54, .mv (.t 11), some (50, false), []⟩,
  ⟨some 55, .bin .lss (.t 53) (.t 54), some (50, false), []⟩,
  ⟨some 56, .pick (.t 50) (.c (.bool true)) (.t 55), none, []⟩] [1, 3, 5, 8, 11, 12, 15, 33, 34, 56]
def c31_17 : ACode := .ops [⟨some 57, .mv (.t 8), none, []⟩,
  ⟨some 58, .mv (.t 15), none, []⟩,
  ⟨some 59, .bin .sub (.t 57) (.t 58), none, []⟩,
  ⟨some 11, .mv (.t 59), none, []⟩,
  ⟨some 12, .mv (.c (.bool true)), none, []⟩] [1, 3, 5, 8, 11, 12, 33, 34]
def c31_18 : ACode := .cond (.t 56) c31_17 .skip
def c31_19 : ACode := .seq c31_16 c31_18
def c31_20 : ACode := .seq c31_15 c31_19
def c31_21 : ACode := .seq c31_14 c31_20
def c31_22 : ACode := .seq c31_11 c31_21
def c31_23 : ACode := .block 1 c31_22
def c31_24 : ACode := .ops [⟨some 60, .bin .add (.t 34) (.c (.int .i64 1)), none, []⟩,
  ⟨some 34, .mv (.t 60), none, []⟩] [1, 3, 5, 8, 11, 12, 33, 34]
def c31_25 : ACode := .seq c31_23 c31_24
def c31_26 : ACode := .seq c31_10 c31_25
def c31_27 : ACode := .seq c31_9 c31_26
def c31_28 : ACode := .keep [1, 3, 5, 8, 11, 12, 33, 34] [3, 5] c31_27
def c31_29 : ACode := .loop c31_28
def c31_30 : ACode := .block 0 c31_29
def c31_31 : ACode := .seq c31_8 c31_30
def c31_32 : ACode := .ops [⟨some 61, .mv (.t 11), none, []⟩,
  ⟨some 6, .mv (.t 61), none, []⟩,
  ⟨some 7, .mv (.c (.bool true)), none, []⟩] [6, 7]
def c31_33 : ACode := .seq c31_32 .ret
def c31_34 : ACode := .seq c31_31 c31_33
def c31_35 : ACode := .seq c31_7 c31_34
def c31_36 : ACode := .seq c31_6 c31_35
def c31_37 : ACode := .seq c31_1 c31_36
def c31_38 : ACode := .seq c31_0 c31_37
def a31 : AFun := ⟨3, 62, c31_38, [.t 6, .t 7]⟩
theorem m31 : mFun Try.prog Try.f31 a31 = true := by decide +kernel
def marD (m : Model) (c : Int) (b : Box) (o : Int) : Int := (boundP m c b).1 - (boundP m o b).2
end Go.Co
