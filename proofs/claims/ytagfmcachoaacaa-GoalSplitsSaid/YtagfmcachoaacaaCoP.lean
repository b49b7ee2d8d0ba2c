/- CO: pairs. -/
import Derived.Test.YtagfmcachoaacaaCoIn
import Derived.Test.YtagfmcachoaacaaCoJ
namespace Go.Co
open Go.Am Go.Proofs
set_option linter.unusedSimpArgs false
set_option linter.unusedVariables false
def c59_0 : ACode := .ops [⟨some 1, .box (.t 0) 17, none, []⟩,
  ⟨some 2, .mv (.c (.bool false)), none, []⟩] [1]
def c59_1 : ACode := .ops [⟨some 3, .fad (.t 1) 0, none, [1]⟩,
  ⟨some 4, .load 1 false (.t 3), none, [1]⟩,
  ⟨some 5, .bin .eql (.t 4) (.c (.int .i64 3)), none, []⟩,
  ⟨some 6, .mv (.t 5), none, []⟩,
  ⟨some 7, .fad (.t 1) 14, some (6, true), [1]⟩,
  ⟨some 8, .load 1 false (.t 7), some (6, true), [1]⟩,
  ⟨some 9, .bin .geq (.t 8) (.c (.int .i64 0)), some (6, true), []⟩,
  ⟨some 10, .pick (.t 6) (.t 9) (.c (.bool false)), none, []⟩,
  ⟨some 11, .mv (.t 10), none, []⟩,
  ⟨some 12, .fad (.t 1) 14, some (11, true), [1]⟩,
  ⟨some 13, .load 1 false (.t 12), some (11, true), [1]⟩,
  ⟨some 14, .bin .lss (.t 13) (.c (.int .i64 4)), some (11, true), []⟩,
  ⟨some 15, .pick (.t 11) (.t 14) (.c (.bool false)), none, []⟩,
  ⟨some 2, .mv (.t 15), none, []⟩] [2]
def c59_2 : ACode := .seq c59_1 .ret
def c59_3 : ACode := .seq c59_0 c59_2
def a59 : AFun := ⟨1, 16, c59_3, [.t 2]⟩
theorem m59 : mFun Try.prog Try.f59 a59 = true := by decide +kernel
def c60_0 : ACode := .ops [⟨some 2, .box (.t 0) 17, none, []⟩,
  ⟨some 3, .box (.t 1) 10, none, []⟩,
  ⟨some 4, .alloc [.int .i64 0, .int .i64 0, .int .i64 0, .int .i64 0, .int .i64 0, .int .i64 0, .int .i64 0, .int .i64 0, .int .i64 0, .int .i64 0], none, []⟩] [2, 3, 4]
def c60_1 : ACode := .ops [⟨some 5, .load 17 true (.t 2), none, [2]⟩,
  ⟨some 6, .call 59 [.t 5], none, []⟩] [3, 4, 6]
def c60_2 : ACode := .ops [⟨some 7, .build [.int .i64 0, .int .i64 0] [], none, []⟩,
  ⟨some 8, .iad (.t 3) (.c (.int .i64 4)) 2 5, none, [3]⟩,
  ⟨none, .store (.t 8) 2 (.t 7), none, [3]⟩] [3, 4]
def c60_3 : ACode := .cond (.t 6) c60_2 .skip
def c60_4 : ACode := .seq c60_1 c60_3
def c60_5 : ACode := .ops [⟨some 9, .load 10 true (.t 3), none, [3]⟩,
  ⟨none, .store (.t 4) 10 (.t 9), none, [4]⟩] [4]
def c60_6 : ACode := .seq c60_5 .ret
def c60_7 : ACode := .seq c60_4 c60_6
def c60_8 : ACode := .seq c60_0 c60_7
def a60 : AFun := ⟨2, 10, c60_8, [.cell 4 10 true]⟩
theorem m60 : mFun Try.prog Try.f60 a60 = true := by decide +kernel
def c61_0 : ACode := .ops [⟨some 2, .box (.t 0) 17, none, []⟩,
  ⟨some 3, .box (.t 1) 10, none, []⟩,
  ⟨some 4, .alloc [.int .i64 0, .int .i64 0, .int .i64 0, .int .i64 0, .int .i64 0, .int .i64 0, .int .i64 0, .int .i64 0, .int .i64 0, .int .i64 0], none, []⟩] [2, 3, 4]
def c61_1 : ACode := .ops [⟨some 5, .load 17 true (.t 2), none, [2]⟩,
  ⟨some 6, .call 59 [.t 5], none, []⟩] [2, 3, 4, 6]
def c61_2 : ACode := .ops [⟨some 7, .fad (.t 2) 14, none, [2]⟩,
  ⟨some 8, .load 1 false (.t 7), none, [2]⟩,
  ⟨some 9, .iad (.t 3) (.c (.int .i64 4)) 2 5, none, [3]⟩,
  ⟨some 10, .load 2 true (.t 9), none, [3]⟩,
  ⟨some 11, .build [.int .i64 0, .int .i64 0] [], none, []⟩,
  ⟨some 12, .iad (.t 3) (.t 8) 2 5, none, [3]⟩,
  ⟨none, .store (.t 12) 2 (.t 10), none, [3]⟩,
  ⟨some 13, .iad (.t 3) (.c (.int .i64 4)) 2 5, none, [3]⟩,
  ⟨none, .store (.t 13) 2 (.t 11), none, [3]⟩] [3, 4]
def c61_3 : ACode := .cond (.t 6) c61_2 .skip
def c61_4 : ACode := .seq c61_1 c61_3
def c61_5 : ACode := .ops [⟨some 14, .load 10 true (.t 3), none, [3]⟩,
  ⟨none, .store (.t 4) 10 (.t 14), none, [4]⟩] [4]
def c61_6 : ACode := .seq c61_5 .ret
def c61_7 : ACode := .seq c61_4 c61_6
def c61_8 : ACode := .seq c61_0 c61_7
def a61 : AFun := ⟨2, 15, c61_8, [.cell 4 10 true]⟩
theorem m61 : mFun Try.prog Try.f61 a61 = true := by decide +kernel
def c32_0 : ACode := .ops [⟨some 2, .box (.t 0) 17, none, []⟩,
  ⟨some 3, .box (.t 1) 10, none, []⟩,
  ⟨some 4, .mv (.c (.bool false)), none, []⟩] [2, 3]
def c32_1 : ACode := .ops [⟨some 5, .load 17 true (.t 2), none, [2]⟩,
  ⟨some 6, .call 59 [.t 5], none, []⟩,
  ⟨some 7, .mv (.t 6), none, []⟩,
  ⟨some 8, .load 10 true (.t 3), some (7, true), [3]⟩,
  ⟨some 9, .call 20 [.t 8], some (7, true), []⟩,
  ⟨some 10, .un .not (.t 9), some (7, true), []⟩,
  ⟨some 11, .pick (.t 7) (.t 10) (.c (.bool false)), none, []⟩,
  ⟨some 12, .mv (.t 11), none, []⟩,
  ⟨some 13, .fad (.t 2) 14, some (12, true), [2]⟩,
  ⟨some 14, .load 1 false (.t 13), some (12, true), [2]⟩,
  ⟨some 15, .iad (.t 3) (.t 14) 2 5, some (12, true), [3]⟩,
  ⟨some 16, .fad (.t 15) 0, some (12, true), [3]⟩,
  ⟨some 17, .load 1 false (.t 16), some (12, true), [3]⟩,
  ⟨some 18, .iad (.t 3) (.c (.int .i64 4)) 2 5, some (12, true), [3]⟩,
  ⟨some 19, .fad (.t 18) 1, some (12, true), [3]⟩,
  ⟨some 20, .load 1 false (.t 19), some (12, true), [3]⟩,
  ⟨some 21, .bin .lss (.t 17) (.t 20), some (12, true), []⟩,
  ⟨some 22, .pick (.t 12) (.t 21) (.c (.bool false)), none, []⟩,
  ⟨some 4, .mv (.t 22), none, []⟩] [4]
def c32_2 : ACode := .seq c32_1 .ret
def c32_3 : ACode := .seq c32_0 c32_2
def a32 : AFun := ⟨2, 23, c32_3, [.t 4]⟩
theorem m32 : mFun Try.prog Try.f32 a32 = true := by decide +kernel
def c33_0 : ACode := .ops [⟨some 3, .box (.t 0) 6, none, []⟩,
  ⟨some 4, .box (.t 1) 17, none, []⟩,
  ⟨some 5, .box (.t 2) 10, none, []⟩,
  ⟨some 6, .mv (.c (.int .i64 0)), none, []⟩,
  ⟨some 7, .mv (.c (.int .i64 0)), none, []⟩,
  ⟨some 8, .mv (.c (.bool false)), none, []⟩] [3, 4, 5]
def c33_1 : ACode := .ops [⟨some 16, .load 6 true (.t 3), none, [3]⟩,
  ⟨some 17, .fad (.t 4) 1, none, [4]⟩,
  ⟨some 18, .load 1 false (.t 17), none, [4]⟩,
  ⟨some 19, .load 17 true (.t 4), none, [4]⟩,
  ⟨some 20, .load 10 true (.t 5), none, [5]⟩,
  ⟨some 21, .call 60 [.t 19, .t 20], none, []⟩,
  ⟨some 22, .call 23 [.t 16, .t 18, .t 21], none, []⟩,
  ⟨some 15, .mv (.t 22), none, []⟩,
  ⟨some 23, .ext (.t 15) 0, none, []⟩,
  ⟨some 24, .ext (.t 15) 1, none, []⟩,
  ⟨some 25, .ext (.t 15) 2, none, []⟩,
  ⟨some 9, .mv (.t 23), none, []⟩,
  ⟨some 10, .mv (.t 24), none, []⟩,
  ⟨some 11, .mv (.t 25), none, []⟩] [3, 4, 5, 9, 10, 11]
def c33_2 : ACode := .ops [⟨some 27, .load 6 true (.t 3), none, [3]⟩,
  ⟨some 28, .fad (.t 4) 1, none, [4]⟩,
  ⟨some 29, .load 1 false (.t 28), none, [4]⟩,
  ⟨some 30, .load 17 true (.t 4), none, [4]⟩,
  ⟨some 31, .load 10 true (.t 5), none, [5]⟩,
  ⟨some 32, .call 61 [.t 30, .t 31], none, []⟩,
  ⟨some 33, .call 23 [.t 27, .t 29, .t 32], none, []⟩,
  ⟨some 26, .mv (.t 33), none, []⟩,
  ⟨some 34, .ext (.t 26) 0, none, []⟩,
  ⟨some 35, .ext (.t 26) 1, none, []⟩,
  ⟨some 36, .ext (.t 26) 2, none, []⟩,
  ⟨some 12, .mv (.t 34), none, []⟩,
  ⟨some 13, .mv (.t 35), none, []⟩,
  ⟨some 14, .mv (.t 36), none, []⟩] [4, 9, 10, 11, 12, 13, 14]
def c33_3 : ACode := .ops [⟨some 37, .load 17 true (.t 4), none, [4]⟩,
  ⟨some 38, .call 59 [.t 37], none, []⟩,
  ⟨some 39, .un .not (.t 38), none, []⟩,
  ⟨some 40, .mv (.t 39), none, []⟩,
  ⟨some 41, .mv (.t 11), some (40, false), []⟩,
  ⟨some 42, .un .not (.t 41), some (40, false), []⟩,
  ⟨some 43, .pick (.t 40) (.c (.bool true)) (.t 42), none, []⟩,
  ⟨some 44, .mv (.t 43), none, []⟩,
  ⟨some 45, .mv (.t 14), some (44, false), []⟩,
  ⟨some 46, .un .not (.t 45), some (44, false), []⟩,
  ⟨some 47, .pick (.t 44) (.c (.bool true)) (.t 46), none, []⟩] [9, 10, 12, 13, 47]
def c33_4 : ACode := .ops [⟨some 6, .mv (.c (.int .i64 0)), none, []⟩,
  ⟨some 7, .mv (.c (.int .i64 0)), none, []⟩,
  ⟨some 8, .mv (.c (.bool false)), none, []⟩] [6, 7, 8]
def c33_5 : ACode := .seq c33_4 .ret
def c33_6 : ACode := .cond (.t 47) c33_5 .skip
def c33_7 : ACode := .seq c33_3 c33_6
def c33_8 : ACode := .ops [⟨some 48, .mv (.t 12), none, []⟩,
  ⟨some 49, .mv (.t 10), none, []⟩,
  ⟨some 50, .bin .sub (.t 48) (.t 49), none, []⟩,
  ⟨some 51, .mv (.t 13), none, []⟩,
  ⟨some 52, .mv (.t 9), none, []⟩,
  ⟨some 53, .bin .sub (.t 51) (.t 52), none, []⟩,
  ⟨some 6, .mv (.t 50), none, []⟩,
  ⟨some 7, .mv (.t 53), none, []⟩,
  ⟨some 8, .mv (.c (.bool true)), none, []⟩] [6, 7, 8]
def c33_9 : ACode := .seq c33_8 .ret
def c33_10 : ACode := .seq c33_7 c33_9
def c33_11 : ACode := .seq c33_2 c33_10
def c33_12 : ACode := .seq c33_1 c33_11
def c33_13 : ACode := .seq c33_0 c33_12
def a33 : AFun := ⟨3, 54, c33_13, [.t 6, .t 7, .t 8]⟩
theorem m33 : mFun Try.prog Try.f33 a33 = true := by decide +kernel
end Go.Co
