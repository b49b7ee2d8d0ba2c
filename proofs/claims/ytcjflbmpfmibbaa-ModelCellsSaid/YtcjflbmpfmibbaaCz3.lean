/- CO: texts of this claim, one behind the other. -/
import Derived.Test.YtcjflbmpfmibbaaCz2
import Derived.Test.YtcjflbmpfmibbaaCz1
/- CO: nodes, by the program. -/
namespace Go.Co
open Go.Am Go.Proofs
set_option linter.unusedSimpArgs false
set_option linter.unusedVariables false
def c146_0 : ACode := .ops [⟨some 2, .mv (.c (.bool false)), none, []⟩] [0]
theorem r146_0 : type_of% (@rr _ _ c146_0.eq_1) := rr rfl
def c146_1 : ACode := .ops [⟨some 3, .mv (.t 0), none, []⟩,⟨some 4, .bin .geq (.t 3) (.c (.int .i64 1)), none, []⟩,⟨some 5, .mv (.t 4), none, []⟩,⟨some 6, .mv (.t 0), some (5, true), []⟩,⟨some 7, .bin .lss (.t 6) (.c (.int .i64 31)), some (5, true), []⟩,⟨some 8, .pick (.t 5) (.t 7) (.c (.bool false)), none, []⟩,⟨some 2, .mv (.t 8), none, []⟩] [2]
theorem r146_1 : type_of% (@rr _ _ c146_1.eq_1) := rr rfl
def c146_2 : ACode := .seq c146_1 .ret
theorem r146_2 : type_of% (@rr _ _ c146_2.eq_1) := rr rfl
def c146_3 : ACode := .seq c146_0 c146_2
theorem r146_3 : type_of% (@rr _ _ c146_3.eq_1) := rr rfl
def a146 : AFun := ⟨1, 9, c146_3, [.t 2]⟩
attribute [simp] r146_0 r146_1 r146_2 r146_3
theorem m146 : mFun Try.prog Try.f146 a146 = true := by decide +kernel
def c122_0 : ACode := .ops [⟨some 1, .box (.t 0) 6, none, []⟩,⟨some 2, .mv (.c (.bool false)), none, []⟩] [1]
theorem r122_0 : type_of% (@rr _ _ c122_0.eq_1) := rr rfl
def c122_1 : ACode := .ops [⟨some 3, .fad (.t 1) 0, none, [1]⟩,⟨some 4, .load 1 false (.t 3), none, [1]⟩] [1, 4]
theorem r122_1 : type_of% (@rr _ _ c122_1.eq_1) := rr rfl
def c122_2 : ACode := .ops [⟨some 5, .load 6 true (.t 1), none, [1]⟩,⟨some 6, .fad (.t 1) 1, none, [1]⟩,⟨some 7, .load 1 false (.t 6), none, [1]⟩,⟨some 8, .build [.bool false, .int .i64 0, .int .i64 0, .int .i64 0, .int .i64 0, .int .i64 0] [(0, 1, .c (.bool true)), (1, 1, .t 7)], none, []⟩,⟨some 9, .eqa false [true, false, false, false, false, false] (.t 5) (.t 8), none, []⟩,⟨some 10, .mv (.t 9), none, []⟩,⟨some 11, .fad (.t 1) 1, some (10, true), [1]⟩,⟨some 12, .load 1 false (.t 11), some (10, true), [1]⟩,⟨some 13, .call 75 [.t 12, .c (.int .i64 32)], some (10, true), []⟩,⟨some 14, .pick (.t 10) (.t 13) (.c (.bool false)), none, []⟩,⟨some 2, .mv (.t 14), none, []⟩] [2]
theorem r122_2 : type_of% (@rr _ _ c122_2.eq_1) := rr rfl
def c122_3 : ACode := .seq c122_2 .ret
theorem r122_3 : type_of% (@rr _ _ c122_3.eq_1) := rr rfl
def c122_4 : ACode := .cond (.t 4) c122_3 .skip
theorem r122_4 : type_of% (@rr _ _ c122_4.eq_1) := rr rfl
def c122_5 : ACode := .seq c122_1 c122_4
theorem r122_5 : type_of% (@rr _ _ c122_5.eq_1) := rr rfl
def c122_6 : ACode := .ops [⟨some 15, .fad (.t 1) 1, none, [1]⟩,⟨some 16, .load 1 false (.t 15), none, [1]⟩,⟨some 17, .bin .eql (.t 16) (.c (.int .i64 0)), none, []⟩,⟨some 18, .mv (.t 17), none, []⟩,⟨some 19, .fad (.t 1) 2, some (18, true), [1]⟩,⟨some 20, .load 1 false (.t 19), some (18, true), [1]⟩,⟨some 21, .bin .geq (.t 20) (.c (.int .i64 0)), some (18, true), []⟩,⟨some 22, .pick (.t 18) (.t 21) (.c (.bool false)), none, []⟩,⟨some 23, .mv (.t 22), none, []⟩,⟨some 24, .fad (.t 1) 2, some (23, true), [1]⟩,⟨some 25, .load 1 false (.t 24), some (23, true), [1]⟩,⟨some 26, .bin .lss (.t 25) (.c (.int .i64 4)), some (23, true), []⟩,⟨some 27, .pick (.t 23) (.t 26) (.c (.bool false)), none, []⟩,⟨some 28, .mv (.t 27), none, []⟩,⟨some 29, .fad (.t 1) 3, some (28, true), [1]⟩,⟨some 30, .load 1 false (.t 29), some (28, true), [1]⟩,⟨some 31, .call 75 [.t 30, .c (.int .i64 32)], some (28, true), []⟩,⟨some 32, .pick (.t 28) (.t 31) (.c (.bool false)), none, []⟩,⟨some 33, .mv (.t 32), none, []⟩,⟨some 34, .fad (.t 1) 4, some (33, true), [1]⟩,⟨some 35, .load 1 false (.t 34), some (33, true), [1]⟩,⟨some 36, .call 146 [.t 35], some (33, true), []⟩,⟨some 37, .pick (.t 33) (.t 36) (.c (.bool false)), none, []⟩,⟨some 38, .mv (.t 37), none, []⟩,⟨some 39, .fad (.t 1) 5, some (38, true), [1]⟩,⟨some 40, .load 1 false (.t 39), some (38, true), [1]⟩,⟨some 41, .call 146 [.t 40], some (38, true), []⟩,⟨some 42, .pick (.t 38) (.t 41) (.c (.bool false)), none, []⟩,⟨some 2, .mv (.t 42), none, []⟩] [2]
theorem r122_6 : type_of% (@rr _ _ c122_6.eq_1) := rr rfl
def c122_7 : ACode := .seq c122_6 .ret
theorem r122_7 : type_of% (@rr _ _ c122_7.eq_1) := rr rfl
def c122_8 : ACode := .seq c122_5 c122_7
theorem r122_8 : type_of% (@rr _ _ c122_8.eq_1) := rr rfl
def c122_9 : ACode := .seq c122_0 c122_8
theorem r122_9 : type_of% (@rr _ _ c122_9.eq_1) := rr rfl
def a122 : AFun := ⟨1, 43, c122_9, [.t 2]⟩
attribute [simp] r122_0 r122_1 r122_2 r122_3 r122_4 r122_5 r122_6 r122_7 r122_8 r122_9
theorem m122 : mFun Try.prog Try.f122 a122 = true := by decide +kernel
def c120_0 : ACode := .ops [⟨some 4, .mv (.c (.bool false)), none, []⟩] [0, 1]
theorem r120_0 : type_of% (@rr _ _ c120_0.eq_1) := rr rfl
def c120_1 : ACode := .ops [⟨some 5, .mv (.t 0), none, []⟩,⟨some 6, .bin .geq (.t 5) (.c (.int .i64 0)), none, []⟩,⟨some 7, .mv (.t 6), none, []⟩,⟨some 8, .mv (.t 0), some (7, true), []⟩,⟨some 9, .bin .lss (.t 8) (.c (.int .i64 64)), some (7, true), []⟩,⟨some 10, .pick (.t 7) (.t 9) (.c (.bool false)), none, []⟩,⟨some 11, .mv (.t 10), none, []⟩,⟨some 12, .mv (.t 1), some (11, true), []⟩,⟨some 13, .bin .geq (.t 12) (.c (.int .i64 1)), some (11, true), []⟩,⟨some 14, .pick (.t 11) (.t 13) (.c (.bool false)), none, []⟩,⟨some 15, .mv (.t 14), none, []⟩,⟨some 16, .mv (.t 1), some (15, true), []⟩,⟨some 17, .mv (.t 0), some (15, true), []⟩,⟨some 18, .bin .sub (.c (.int .i64 64)) (.t 17), some (15, true), []⟩,⟨some 19, .bin .leq (.t 16) (.t 18), some (15, true), []⟩,⟨some 20, .pick (.t 15) (.t 19) (.c (.bool false)), none, []⟩,⟨some 4, .mv (.t 20), none, []⟩] [4]
theorem r120_1 : type_of% (@rr _ _ c120_1.eq_1) := rr rfl
def c120_2 : ACode := .seq c120_1 .ret
theorem r120_2 : type_of% (@rr _ _ c120_2.eq_1) := rr rfl
def c120_3 : ACode := .seq c120_0 c120_2
theorem r120_3 : type_of% (@rr _ _ c120_3.eq_1) := rr rfl
def a120 : AFun := ⟨2, 21, c120_3, [.t 4]⟩
attribute [simp] r120_0 r120_1 r120_2 r120_3
theorem m120 : mFun Try.prog Try.f120 a120 = true := by decide +kernel
def c121_0 : ACode := .ops [⟨some 2, .mv (.c (.int .u64 0)), none, []⟩] [0]
theorem r121_0 : type_of% (@rr _ _ c121_0.eq_1) := rr rfl
def c121_1 : ACode := .ops [⟨some 3, .mv (.t 0), none, []⟩,⟨some 4, .bin .sub (.c (.int .i64 64)) (.t 3), none, []⟩,⟨some 5, .conv .u64 (.t 4), none, []⟩,⟨some 6, .bin .shr (.c (.int .u64 18446744073709551615)) (.t 5), none, []⟩,⟨some 2, .mv (.t 6), none, []⟩] [2]
theorem r121_1 : type_of% (@rr _ _ c121_1.eq_1) := rr rfl
def c121_2 : ACode := .seq c121_1 .ret
theorem r121_2 : type_of% (@rr _ _ c121_2.eq_1) := rr rfl
def c121_3 : ACode := .seq c121_0 c121_2
theorem r121_3 : type_of% (@rr _ _ c121_3.eq_1) := rr rfl
def a121 : AFun := ⟨1, 7, c121_3, [.t 2]⟩
attribute [simp] r121_0 r121_1 r121_2 r121_3
theorem m121 : mFun Try.prog Try.f121 a121 = true := by decide +kernel
def c123_0 : ACode := .ops [⟨some 8, .mv (.c (.int .u64 0)), none, []⟩] [0, 1, 2, 3]
theorem r123_0 : type_of% (@rr _ _ c123_0.eq_1) := rr rfl
def c123_1 : ACode := .ops [⟨some 10, .mv (.t 1), none, []⟩,⟨some 11, .mv (.t 2), none, []⟩,⟨some 12, .call 120 [.t 10, .t 11], none, []⟩,⟨some 13, .un .not (.t 12), none, []⟩] [0, 1, 2, 3, 13]
theorem r123_1 : type_of% (@rr _ _ c123_1.eq_1) := rr rfl
def c123_2 : ACode := .ops [⟨some 14, .mv (.t 0), none, []⟩,⟨some 8, .mv (.t 14), none, []⟩] [8]
theorem r123_2 : type_of% (@rr _ _ c123_2.eq_1) := rr rfl
def c123_3 : ACode := .seq c123_2 .ret
theorem r123_3 : type_of% (@rr _ _ c123_3.eq_1) := rr rfl
def c123_4 : ACode := .cond (.t 13) c123_3 .skip
theorem r123_4 : type_of% (@rr _ _ c123_4.eq_1) := rr rfl
def c123_5 : ACode := .seq c123_1 c123_4
theorem r123_5 : type_of% (@rr _ _ c123_5.eq_1) := rr rfl
def c123_6 : ACode := .ops [⟨some 15, .mv (.t 2), none, []⟩,⟨some 16, .call 121 [.t 15], none, []⟩,⟨some 17, .mv (.t 1), none, []⟩,⟨some 18, .conv .u64 (.t 17), none, []⟩,⟨some 19, .bin .shl (.t 16) (.t 18), none, []⟩,⟨some 9, .mv (.t 19), none, []⟩] [0, 1, 3, 9]
theorem r123_6 : type_of% (@rr _ _ c123_6.eq_1) := rr rfl
def c123_7 : ACode := .ops [⟨some 20, .mv (.t 0), none, []⟩,⟨some 21, .mv (.t 9), none, []⟩,⟨some 22, .bin .andNot (.t 20) (.t 21), none, []⟩,⟨some 23, .mv (.t 3), none, []⟩,⟨some 24, .mv (.t 1), none, []⟩,⟨some 25, .conv .u64 (.t 24), none, []⟩,⟨some 26, .bin .shl (.t 23) (.t 25), none, []⟩,⟨some 27, .mv (.t 9), none, []⟩,⟨some 28, .bin .and (.t 26) (.t 27), none, []⟩,⟨some 29, .bin .or (.t 22) (.t 28), none, []⟩,⟨some 8, .mv (.t 29), none, []⟩] [8]
theorem r123_7 : type_of% (@rr _ _ c123_7.eq_1) := rr rfl
def c123_8 : ACode := .seq c123_7 .ret
theorem r123_8 : type_of% (@rr _ _ c123_8.eq_1) := rr rfl
def c123_9 : ACode := .seq c123_6 c123_8
theorem r123_9 : type_of% (@rr _ _ c123_9.eq_1) := rr rfl
def c123_10 : ACode := .seq c123_5 c123_9
theorem r123_10 : type_of% (@rr _ _ c123_10.eq_1) := rr rfl
def c123_11 : ACode := .seq c123_0 c123_10
theorem r123_11 : type_of% (@rr _ _ c123_11.eq_1) := rr rfl
def a123 : AFun := ⟨4, 30, c123_11, [.t 8]⟩
attribute [simp] r123_0 r123_1 r123_2 r123_3 r123_4 r123_5 r123_6 r123_7 r123_8 r123_9 r123_10 r123_11
theorem m123 : mFun Try.prog Try.f123 a123 = true := by decide +kernel
def c70_0 : ACode := .ops [⟨some 6, .mv (.c (.int .u64 0)), none, []⟩] [0, 1, 2]
theorem r70_0 : type_of% (@rr _ _ c70_0.eq_1) := rr rfl
def c70_1 : ACode := .ops [⟨some 7, .mv (.t 1), none, []⟩,⟨some 8, .mv (.t 2), none, []⟩,⟨some 9, .call 120 [.t 7, .t 8], none, []⟩,⟨some 10, .un .not (.t 9), none, []⟩] [0, 1, 2, 10]
theorem r70_1 : type_of% (@rr _ _ c70_1.eq_1) := rr rfl
def c70_2 : ACode := .ops [⟨some 6, .mv (.c (.int .u64 0)), none, []⟩] [6]
theorem r70_2 : type_of% (@rr _ _ c70_2.eq_1) := rr rfl
def c70_3 : ACode := .seq c70_2 .ret
theorem r70_3 : type_of% (@rr _ _ c70_3.eq_1) := rr rfl
def c70_4 : ACode := .cond (.t 10) c70_3 .skip
theorem r70_4 : type_of% (@rr _ _ c70_4.eq_1) := rr rfl
def c70_5 : ACode := .seq c70_1 c70_4
theorem r70_5 : type_of% (@rr _ _ c70_5.eq_1) := rr rfl
def c70_6 : ACode := .ops [⟨some 11, .mv (.t 0), none, []⟩,⟨some 12, .mv (.t 1), none, []⟩,⟨some 13, .conv .u64 (.t 12), none, []⟩,⟨some 14, .bin .shr (.t 11) (.t 13), none, []⟩,⟨some 15, .mv (.t 2), none, []⟩,⟨some 16, .call 121 [.t 15], none, []⟩,⟨some 17, .bin .and (.t 14) (.t 16), none, []⟩,⟨some 6, .mv (.t 17), none, []⟩] [6]
theorem r70_6 : type_of% (@rr _ _ c70_6.eq_1) := rr rfl
def c70_7 : ACode := .seq c70_6 .ret
theorem r70_7 : type_of% (@rr _ _ c70_7.eq_1) := rr rfl
def c70_8 : ACode := .seq c70_5 c70_7
theorem r70_8 : type_of% (@rr _ _ c70_8.eq_1) := rr rfl
def c70_9 : ACode := .seq c70_0 c70_8
theorem r70_9 : type_of% (@rr _ _ c70_9.eq_1) := rr rfl
def a70 : AFun := ⟨3, 18, c70_9, [.t 6]⟩
attribute [simp] r70_0 r70_1 r70_2 r70_3 r70_4 r70_5 r70_6 r70_7 r70_8 r70_9
theorem m70 : mFun Try.prog Try.f70 a70 = true := by decide +kernel
def c69_0 : ACode := .ops [⟨some 6, .mv (.c (.int .i64 0)), none, []⟩] [0, 1, 2]
theorem r69_0 : type_of% (@rr _ _ c69_0.eq_1) := rr rfl
def c69_1 : ACode := .ops [⟨some 7, .mv (.t 0), none, []⟩,⟨some 8, .mv (.t 1), none, []⟩,⟨some 9, .mv (.t 2), none, []⟩,⟨some 10, .call 70 [.t 7, .t 8, .t 9], none, []⟩,⟨some 11, .conv .i64 (.t 10), none, []⟩,⟨some 12, .mv (.t 2), none, []⟩,⟨some 13, .call 119 [.t 11, .t 12], none, []⟩,⟨some 6, .mv (.t 13), none, []⟩] [6]
theorem r69_1 : type_of% (@rr _ _ c69_1.eq_1) := rr rfl
def c69_2 : ACode := .seq c69_1 .ret
theorem r69_2 : type_of% (@rr _ _ c69_2.eq_1) := rr rfl
def c69_3 : ACode := .seq c69_0 c69_2
theorem r69_3 : type_of% (@rr _ _ c69_3.eq_1) := rr rfl
def a69 : AFun := ⟨3, 14, c69_3, [.t 6]⟩
attribute [simp] r69_0 r69_1 r69_2 r69_3
theorem m69 : mFun Try.prog Try.f69 a69 = true := by decide +kernel
def c72_0 : ACode := .ops [⟨some 1, .box (.t 0) 6, none, []⟩,⟨some 2, .mv (.c (.int .u64 0)), none, []⟩] [1]
theorem r72_0 : type_of% (@rr _ _ c72_0.eq_1) := rr rfl
def c72_1 : ACode := .ops [⟨some 4, .load 6 true (.t 1), none, [1]⟩,⟨some 5, .call 122 [.t 4], none, []⟩,⟨some 6, .un .not (.t 5), none, []⟩] [1, 6]
theorem r72_1 : type_of% (@rr _ _ c72_1.eq_1) := rr rfl
def c72_2 : ACode := .ops [⟨some 2, .mv (.c (.int .u64 0)), none, []⟩] [2]
theorem r72_2 : type_of% (@rr _ _ c72_2.eq_1) := rr rfl
def c72_3 : ACode := .seq c72_2 .ret
theorem r72_3 : type_of% (@rr _ _ c72_3.eq_1) := rr rfl
def c72_4 : ACode := .cond (.t 6) c72_3 .skip
theorem r72_4 : type_of% (@rr _ _ c72_4.eq_1) := rr rfl
def c72_5 : ACode := .seq c72_1 c72_4
theorem r72_5 : type_of% (@rr _ _ c72_5.eq_1) := rr rfl
def c72_6 : ACode := .ops [⟨some 7, .fad (.t 1) 0, none, [1]⟩,⟨some 8, .load 1 false (.t 7), none, [1]⟩] [1, 8]
theorem r72_6 : type_of% (@rr _ _ c72_6.eq_1) := rr rfl
def c72_7 : ACode := .ops [⟨some 9, .fad (.t 1) 1, none, [1]⟩,⟨some 10, .load 1 false (.t 9), none, [1]⟩,⟨some 11, .conv .u64 (.t 10), none, []⟩,⟨some 12, .call 123 [.c (.int .u64 9223372036854775808), .c (.int .i64 0), .c (.int .i64 32), .t 11], none, []⟩,⟨some 2, .mv (.t 12), none, []⟩] [2]
theorem r72_7 : type_of% (@rr _ _ c72_7.eq_1) := rr rfl
def c72_8 : ACode := .seq c72_7 .ret
theorem r72_8 : type_of% (@rr _ _ c72_8.eq_1) := rr rfl
def c72_9 : ACode := .cond (.t 8) c72_8 .skip
theorem r72_9 : type_of% (@rr _ _ c72_9.eq_1) := rr rfl
def c72_10 : ACode := .seq c72_6 c72_9
theorem r72_10 : type_of% (@rr _ _ c72_10.eq_1) := rr rfl
def c72_11 : ACode := .ops [⟨some 13, .fad (.t 1) 3, none, [1]⟩,⟨some 14, .load 1 false (.t 13), none, [1]⟩,⟨some 15, .conv .u64 (.t 14), none, []⟩,⟨some 16, .call 123 [.c (.int .u64 0), .c (.int .i64 0), .c (.int .i64 32), .t 15], none, []⟩,⟨some 3, .mv (.t 16), none, []⟩] [1, 3]
theorem r72_11 : type_of% (@rr _ _ c72_11.eq_1) := rr rfl
def c72_12 : ACode := .ops [⟨some 17, .mv (.t 3), none, []⟩,⟨some 18, .fad (.t 1) 2, none, [1]⟩,⟨some 19, .load 1 false (.t 18), none, [1]⟩,⟨some 20, .conv .u64 (.t 19), none, []⟩,⟨some 21, .call 123 [.t 17, .c (.int .i64 32), .c (.int .i64 4), .t 20], none, []⟩,⟨some 3, .mv (.t 21), none, []⟩] [1, 3]
theorem r72_12 : type_of% (@rr _ _ c72_12.eq_1) := rr rfl
def c72_13 : ACode := .ops [⟨some 22, .mv (.t 3), none, []⟩,⟨some 23, .fad (.t 1) 4, none, [1]⟩,⟨some 24, .load 1 false (.t 23), none, [1]⟩,⟨some 25, .conv .u64 (.t 24), none, []⟩,⟨some 26, .call 123 [.t 22, .c (.int .i64 40), .c (.int .i64 8), .t 25], none, []⟩,⟨some 3, .mv (.t 26), none, []⟩] [1, 3]
theorem r72_13 : type_of% (@rr _ _ c72_13.eq_1) := rr rfl
def c72_14 : ACode := .ops [⟨some 27, .mv (.t 3), none, []⟩,⟨some 28, .fad (.t 1) 5, none, [1]⟩,⟨some 29, .load 1 false (.t 28), none, [1]⟩,⟨some 30, .conv .u64 (.t 29), none, []⟩,⟨some 31, .call 123 [.t 27, .c (.int .i64 48), .c (.int .i64 8), .t 30], none, []⟩,⟨some 2, .mv (.t 31), none, []⟩] [2]
theorem r72_14 : type_of% (@rr _ _ c72_14.eq_1) := rr rfl
def c72_15 : ACode := .seq c72_14 .ret
theorem r72_15 : type_of% (@rr _ _ c72_15.eq_1) := rr rfl
def c72_16 : ACode := .seq c72_13 c72_15
theorem r72_16 : type_of% (@rr _ _ c72_16.eq_1) := rr rfl
def c72_17 : ACode := .seq c72_12 c72_16
theorem r72_17 : type_of% (@rr _ _ c72_17.eq_1) := rr rfl
def c72_18 : ACode := .seq c72_11 c72_17
theorem r72_18 : type_of% (@rr _ _ c72_18.eq_1) := rr rfl
def c72_19 : ACode := .seq c72_10 c72_18
theorem r72_19 : type_of% (@rr _ _ c72_19.eq_1) := rr rfl
def c72_20 : ACode := .seq c72_5 c72_19
theorem r72_20 : type_of% (@rr _ _ c72_20.eq_1) := rr rfl
def c72_21 : ACode := .seq c72_0 c72_20
theorem r72_21 : type_of% (@rr _ _ c72_21.eq_1) := rr rfl
def a72 : AFun := ⟨1, 32, c72_21, [.t 2]⟩
attribute [simp] r72_0 r72_1 r72_2 r72_3 r72_4 r72_5 r72_6 r72_7 r72_8 r72_9 r72_10 r72_11 r72_12 r72_13 r72_14 r72_15 r72_16 r72_17 r72_18 r72_19 r72_20 r72_21
theorem m72 : mFun Try.prog Try.f72 a72 = true := by decide +kernel
def child (n : Int) : Bool := decide (1 ≤ n) && decide (n < 31)
theorem runs_child (n : Int) (c : Bool) (h : some (child n) = some c) : Runs (tbl []) a146 [Arg.enc n] (Arg.enc c) := by
  cases h
  refine ⟨rfl, fun g => run_def ?_⟩
  unfold a146
  by_cases h1 : 1 ≤ n <;> simp -implicitDefEqProofs [child, h1]
theorem c_child : Contract Try.prog 146 (sp1 fun n => some (child n)) := contract_of_runs mixed tbl_nil Try.func146 m146 (sp1_runs runs_child)
theorem runs_Right (n : Node) (c : Bool) (h : some (rightNode n) = some c) : Runs (tbl [(75, sp2 Fits), (146, sp1 fun n => some (child n))]) a122 [Arg.enc n] (Arg.enc c) := by
  cases h
  refine ⟨rfl, fun g => run_def ?_⟩
  obtain ⟨leaf, value, feature, cut, left, right⟩ := n
  unfold a122
  cases leaf
  case false =>
    by_cases h1 : value = 0
    case neg => simp -implicitDefEqProofs [rightNode, Fits, child, h1]
    by_cases h2 : 0 ≤ feature
    case neg => simp -implicitDefEqProofs [rightNode, Fits, child, h1, h2]
    by_cases h3 : feature < 4
    case neg => simp -implicitDefEqProofs [rightNode, Fits, child, h1, h2, h3]
    cases h4 : fits cut
    case false => simp -implicitDefEqProofs [rightNode, Fits, child, h1, h2, h3, h4]
    by_cases h5 : 1 ≤ left
    case neg => simp -implicitDefEqProofs [rightNode, Fits, child, h1, h2, h3, h4, h5]
    by_cases h6 : left < 31
    case neg => simp -implicitDefEqProofs [rightNode, Fits, child, h1, h2, h3, h4, h5, h6]
    simp -implicitDefEqProofs [rightNode, Fits, child, h1, h2, h3, h4, h5, h6]
  case true =>
    by_cases h2 : feature = 0
    case neg => simp -implicitDefEqProofs [rightNode, Fits, h2]
    by_cases h3 : cut = 0
    case neg => simp -implicitDefEqProofs [rightNode, Fits, h2, h3]
    by_cases h4 : left = 0
    case neg => simp -implicitDefEqProofs [rightNode, Fits, h2, h3, h4]
    by_cases h5 : right = 0
    case neg => simp -implicitDefEqProofs [rightNode, Fits, h2, h3, h4, h5]
    cases h1 : fits value <;> simp -implicitDefEqProofs [rightNode, Fits, h1, h2, h3, h4, h5]
theorem c_Right : Contract Try.prog 122 (sp1 fun n => some (rightNode n)) :=
  contract_of_runs mixed (tbl_cons c_Fits (tbl_cons c_child tbl_nil)) Try.func122 m122 (sp1_runs runs_Right)
def field (p w : Int) : Bool := decide (0 ≤ p) && decide (p < 64) && decide (1 ≤ w) && decide (w ≤ 64 - p)
theorem runs_field (p w : Int) (c : Bool) (h : some (field p w) = some c) : Runs (tbl []) a120 [Arg.enc p, Arg.enc w] (Arg.enc c) := by
  cases h
  refine ⟨rfl, fun g => run_def ?_⟩
  unfold a120
  by_cases h1 : 0 ≤ p
  case neg => simp -implicitDefEqProofs [field, h1]
  by_cases h2 : p < 64
  case neg => simp -implicitDefEqProofs [field, h1, h2]
  by_cases h3 : 1 ≤ w
  case neg => simp -implicitDefEqProofs [field, h1, h2, h3]
  have e : IntKind.i64.wrap (64 - p) = 64 - p := wrap64 (by omega) (by omega)
  simp -implicitDefEqProofs [field, h1, h2, h3, e]
theorem c_field : Contract Try.prog 120 (sp2 fun p w => some (field p w)) := contract_of_runs mixed tbl_nil Try.func120 m120 (sp2_runs runs_field)
def ones (w : Int) : Int := if w = 1 then 1 else if w = 4 then 15 else if w = 8 then 255 else 4294967295
def Mask (w : Int) : Option Word := if w = 1 ∨ w = 4 ∨ w = 8 ∨ w = 32 then some ⟨ones w⟩ else none
theorem runs_mask (w : Int) (c : Word) (h : Mask w = some c) : Runs (tbl []) a121 [Arg.enc w] (Arg.enc c) := by
  unfold Mask at h
  split at h
  · rename_i hw
    cases h
    refine ⟨rfl, fun g => run_def ?_⟩
    unfold a121
    rcases hw with rfl | rfl | rfl | rfl <;> simp -implicitDefEqProofs [ones] <;> decide
  · cases h
theorem c_mask : Contract Try.prog 121 (sp1 Mask) := contract_of_runs mixed tbl_nil Try.func121 m121 (sp1_runs runs_mask)
def aField (p w : Int) : Prop := (p = 0 ∧ w = 32) ∨ (p = 63 ∧ w = 1) ∨ (p = 32 ∧ w = 4) ∨ (p = 40 ∧ w = 8) ∨ (p = 48 ∧ w = 8)
instance (p w : Int) : Decidable (aField p w) := by unfold aField; exact inferInstance
def get (x p w : Int) : Int := x / 2 ^ p.toNat % 2 ^ w.toNat
def Get (x : Word) (p w : Int) : Option Word := if okW x.v ∧ aField p w then some ⟨get x.v p w⟩ else none
theorem and_1 (a : Int) (h : okW a) : iand .u64 a 1 = a % 2 := by
  rw [u_and _ _ h ⟨by omega, by omega⟩]
  have e : (1 : Int).toNat = 1 := rfl
  rw [e, Nat.and_one_is_mod]
  have := h.1
  omega
theorem runs_Get (x : Word) (p w : Int) (c : Word) (h : Get x p w = some c) : Runs (tbl [(120, sp2 fun p w => some (field p w)), (121, sp1 Mask)]) a70 [Arg.enc x, Arg.enc p, Arg.enc w] (Arg.enc c) := by
  unfold Get at h
  split at h
  · rename_i hw
    cases h
    obtain ⟨v⟩ := x
    obtain ⟨hv, hf⟩ := hw
    simp only at hv
    have d (k : Int) (hk : 0 ≤ k) : v.fdiv k = v / k := Int.fdiv_eq_ediv_of_nonneg v hk
    have h1 := hv.1
    have h2 := hv.2
    have i1 := and_low v hv
    have i2 := and_15 (v / 4294967296) ⟨by omega, by omega⟩
    have i3 := and_255 (v / 1099511627776) ⟨by omega, by omega⟩
    have i4 := and_255 (v / 281474976710656) ⟨by omega, by omega⟩
    have i5 := and_1 (v / 9223372036854775808) ⟨by omega, by omega⟩
    refine ⟨rfl, fun g => run_def ?_⟩
    unfold a70
    rcases hf with ⟨rfl, rfl⟩ | ⟨rfl, rfl⟩ | ⟨rfl, rfl⟩ | ⟨rfl, rfl⟩ | ⟨rfl, rfl⟩ <;>
      simp -implicitDefEqProofs [get, field, Mask, ones, d, i1, i2, i3, i4, i5]
  · cases h
theorem c_Get : Contract Try.prog 70 (sp3 Get) :=
  contract_of_runs mixed (tbl_cons c_field (tbl_cons c_mask tbl_nil)) Try.func70 m70 (sp3_runs runs_Get)
def Signed (x : Word) (p w : Int) : Option Int := if okW x.v ∧ p = 0 ∧ w = 32 then some (wrap32 (x.v % 4294967296)) else none
theorem runs_Signed (x : Word) (p w c : Int) (h : Signed x p w = some c) : Runs (tbl [(70, sp3 Get), (119, sp2 Wrap)]) a69 [Arg.enc x, Arg.enc p, Arg.enc w] (Arg.enc c) := by
  unfold Signed at h
  split at h
  · rename_i hw
    cases h
    obtain ⟨v⟩ := x
    obtain ⟨hv, rfl, rfl⟩ := hw
    simp only at hv
    have w1 : IntKind.i64.wrap (v % 4294967296) = v % 4294967296 := wrap64 (by omega) (by omega)
    have b1 : -9223372036854775808 ≤ v % 4294967296 ∧ v % 4294967296 ≤ 9223372036854775807 := by omega
    refine ⟨rfl, fun g => run_def ?_⟩
    unfold a69
    simp -implicitDefEqProofs [Get, get, aField, hv, Wrap, w1, b1]
  · cases h
theorem c_Signed : Contract Try.prog 69 (sp3 Signed) :=
  contract_of_runs mixed (tbl_cons c_Get (tbl_cons c_Wrap tbl_nil)) Try.func69 m69 (sp3_runs runs_Signed)
def Put (x : Word) (p w : Int) (y : Word) : Option Word := if okW x.v ∧ aField p w ∧ w ≠ 1 ∧ get x.v p w = 0 then some ⟨x.v + y.v % 2 ^ w.toNat * 2 ^ p.toNat⟩ else none
theorem runs_Put (x : Word) (p w : Int) (y c : Word) (h : Put x p w y = some c) : Runs (tbl [(120, sp2 fun p w => some (field p w)), (121, sp1 Mask)]) a123 [Arg.enc x, Arg.enc p, Arg.enc w, Arg.enc y] (Arg.enc c) := by
  unfold Put at h
  split at h
  · rename_i hw
    cases h
    obtain ⟨v⟩ := x
    obtain ⟨y⟩ := y
    obtain ⟨hv, hf, hw1, hg⟩ := hw
    simp only at hv hg
    have hv1 := hv.1
    refine ⟨rfl, fun g => run_def ?_⟩
    unfold a123
    rcases hf with ⟨rfl, rfl⟩ | ⟨rfl, rfl⟩ | ⟨rfl, rfl⟩ | ⟨rfl, rfl⟩ | ⟨rfl, rfl⟩
    · simp [get] at hg
      have e := put_bits v (y % 18446744073709551616) 4294967295 0 32 hv (okW_mod _) rfl ⟨by omega, by omega⟩ (by simp; omega)
      simp only [Nat.reducePow] at e
      simp -implicitDefEqProofs [field, Mask, ones, u_conv, e]
      omega
    · exact absurd rfl hw1
    · simp [get] at hg
      have e := put_bits v (y * 4294967296 % 18446744073709551616) 64424509440 32 4 hv (okW_mod _) rfl ⟨by omega, by omega⟩ (by simp; omega)
      simp only [Nat.reducePow] at e
      simp -implicitDefEqProofs [field, Mask, ones, u_conv, e]
      omega
    · simp [get] at hg
      have e := put_bits v (y * 1099511627776 % 18446744073709551616) 280375465082880 40 8 hv (okW_mod _) rfl ⟨by omega, by omega⟩ (by simp; omega)
      simp only [Nat.reducePow] at e
      simp -implicitDefEqProofs [field, Mask, ones, u_conv, e]
      omega
    · simp [get] at hg
      have e := put_bits v (y * 281474976710656 % 18446744073709551616) 71776119061217280 48 8 hv (okW_mod _) rfl ⟨by omega, by omega⟩ (by simp; omega)
      simp only [Nat.reducePow] at e
      simp -implicitDefEqProofs [field, Mask, ones, u_conv, e]
      omega
  · cases h
theorem c_Put : Contract Try.prog 123 (sp4 Put) :=
  contract_of_runs mixed (tbl_cons c_field (tbl_cons c_mask tbl_nil)) Try.func123 m123 (sp4_runs runs_Put)
theorem runs_Pack (n : Node) (c : Word) (h : some (pack n) = some c) : Runs (tbl [(122, sp1 fun n => some (rightNode n)), (123, sp4 Put)]) a72 [Arg.enc n] (Arg.enc c) := by
  cases h
  refine ⟨rfl, fun g => run_def ?_⟩
  obtain ⟨leaf, value, feature, cut, left, right⟩ := n
  unfold a72
  cases h1 : rightNode ⟨leaf, value, feature, cut, left, right⟩
  case false => simp -implicitDefEqProofs [pack, h1]
  cases leaf
  case true =>
    have e1 : value % 18446744073709551616 % 4294967296 = value % 4294967296 := by omega
    simp -implicitDefEqProofs [pack, h1, u_conv, Put, get, aField, okW, e1]
  case false =>
    have hb := h1
    simp [rightNode] at hb
    have e1 : cut % 18446744073709551616 % 4294967296 = cut % 4294967296 := by omega
    have o1 : okW (cut % 4294967296) := ⟨by omega, by omega⟩
    have e2 : feature % 18446744073709551616 % 16 = feature := by omega
    have g1 : cut % 4294967296 / 4294967296 % 16 = 0 := by omega
    have o2 : okW (cut % 4294967296 + feature * 4294967296) := ⟨by omega, by omega⟩
    have e3 : left % 18446744073709551616 % 256 = left := by omega
    have g2 : (cut % 4294967296 + feature * 4294967296) / 1099511627776 % 256 = 0 := by omega
    have o3 : okW (cut % 4294967296 + feature * 4294967296 + left * 1099511627776) := ⟨by omega, by omega⟩
    have e4 : right % 18446744073709551616 % 256 = right := by omega
    have g3 : (cut % 4294967296 + feature * 4294967296 + left * 1099511627776) / 281474976710656 % 256 = 0 := by omega
    have o0 : okW 0 := ⟨by omega, by omega⟩
    simp -implicitDefEqProofs [pack, h1, u_conv, Put, get, aField, o0, o1, o2, o3, e1, e2, e3, e4, g1, g2, g3]
theorem c_Pack : Contract Try.prog 72 (sp1 fun n => some (pack n)) :=
  contract_of_runs mixed (tbl_cons c_Right (tbl_cons c_Put tbl_nil)) Try.func72 m72 (sp1_runs runs_Pack)
def c71_0 : ACode := .ops [⟨some 5, .mv (.c (.int .i64 0)), none, []⟩] [0, 1, 2]
theorem r71_0 : type_of% (@rr _ _ c71_0.eq_1) := rr rfl
def c71_1 : ACode := .ops [⟨some 6, .load 1 false (.t 2), none, []⟩,⟨some 7, .mv (.t 0), none, []⟩,⟨some 8, .mv (.t 1), none, []⟩,⟨some 9, .call 70 [.t 6, .t 7, .t 8], none, []⟩,⟨some 10, .conv .i64 (.t 9), none, []⟩,⟨some 5, .mv (.t 10), none, []⟩] [5]
theorem r71_1 : type_of% (@rr _ _ c71_1.eq_1) := rr rfl
def c71_2 : ACode := .seq c71_1 .ret
theorem r71_2 : type_of% (@rr _ _ c71_2.eq_1) := rr rfl
def c71_3 : ACode := .seq c71_0 c71_2
theorem r71_3 : type_of% (@rr _ _ c71_3.eq_1) := rr rfl
def a71 : AFun := ⟨3, 11, c71_3, [.t 5]⟩
attribute [simp] r71_0 r71_1 r71_2 r71_3
theorem m71 : mFun Try.prog Try.f71 a71 = true := by decide +kernel
def c20_0 : ACode := .ops [⟨some 1, .box (.t 0) 1, none, []⟩,⟨some 2, .alloc [.bool false, .int .i64 0, .int .i64 0, .int .i64 0, .int .i64 0, .int .i64 0], none, []⟩,⟨some 3, .mv (.c (.bool false)), none, []⟩] [1, 2]
theorem r20_0 : type_of% (@rr _ _ c20_0.eq_1) := rr rfl
def c20_1 : ACode := .ops [⟨some 7, .load 1 false (.t 1), none, [1]⟩,⟨some 8, .call 69 [.t 7, .c (.int .i64 0), .c (.int .i64 32)], none, []⟩,⟨some 4, .mv (.t 8), none, []⟩] [1, 2, 4]
theorem r20_1 : type_of% (@rr _ _ c20_1.eq_1) := rr rfl
def c20_2 : ACode := .ops [⟨some 9, .mv (.t 4), none, []⟩,⟨some 10, .build [.bool false, .int .i64 0, .int .i64 0, .int .i64 0, .int .i64 0, .int .i64 0] [(0, 1, .c (.bool true)), (1, 1, .t 9)], none, []⟩,⟨some 5, .alloc [.bool false, .int .i64 0, .int .i64 0, .int .i64 0, .int .i64 0, .int .i64 0], none, []⟩,⟨none, .store (.t 5) 6 (.t 10), none, [5]⟩] [1, 2, 4, 5]
theorem r20_2 : type_of% (@rr _ _ c20_2.eq_1) := rr rfl
def c20_3 : ACode := .ops [⟨some 11, .load 1 false (.t 1), none, [1]⟩,⟨some 12, .call 70 [.t 11, .c (.int .i64 63), .c (.int .i64 1)], none, []⟩,⟨some 13, .bin .eql (.t 12) (.c (.int .u64 0)), none, []⟩] [1, 2, 4, 5, 13]
theorem r20_3 : type_of% (@rr _ _ c20_3.eq_1) := rr rfl
def c20_4 : ACode := .ops [⟨some 14, .clo 71 [.t 1], none, [1]⟩,⟨some 6, .mv (.t 14), none, []⟩] [1, 2, 4, 5, 6]
theorem r20_4 : type_of% (@rr _ _ c20_4.eq_1) := rr rfl
def c20_5 : ACode := .ops [⟨some 15, .mv (.t 4), none, []⟩,⟨some 16, .mv (.t 6), none, []⟩,⟨some 17, .dyn (.t 16) [.c (.int .i64 32), .c (.int .i64 4)], none, []⟩,⟨some 18, .mv (.t 6), none, []⟩,⟨some 19, .dyn (.t 18) [.c (.int .i64 40), .c (.int .i64 8)], none, []⟩,⟨some 20, .mv (.t 6), none, []⟩,⟨some 21, .dyn (.t 20) [.c (.int .i64 48), .c (.int .i64 8)], none, []⟩,⟨some 22, .build [.bool false, .int .i64 0, .int .i64 0, .int .i64 0, .int .i64 0, .int .i64 0] [(3, 1, .t 15), (2, 1, .t 17), (4, 1, .t 19), (5, 1, .t 21)], none, []⟩,⟨none, .store (.t 5) 6 (.t 22), none, [5]⟩] [1, 2, 5]
theorem r20_5 : type_of% (@rr _ _ c20_5.eq_1) := rr rfl
def c20_6 : ACode := .seq c20_4 c20_5
theorem r20_6 : type_of% (@rr _ _ c20_6.eq_1) := rr rfl
def c20_7 : ACode := .cond (.t 13) c20_6 .skip
theorem r20_7 : type_of% (@rr _ _ c20_7.eq_1) := rr rfl
def c20_8 : ACode := .seq c20_3 c20_7
theorem r20_8 : type_of% (@rr _ _ c20_8.eq_1) := rr rfl
def c20_9 : ACode := .ops [⟨some 23, .load 1 false (.t 1), none, [1]⟩,⟨some 24, .bin .eql (.t 23) (.c (.int .u64 0)), none, []⟩,⟨some 25, .mv (.t 24), none, []⟩,⟨some 26, .load 6 true (.t 5), some (25, false), [5]⟩,⟨some 27, .call 72 [.t 26], some (25, false), []⟩,⟨some 28, .load 1 false (.t 1), some (25, false), [1]⟩,⟨some 29, .bin .neq (.t 27) (.t 28), some (25, false), []⟩,⟨some 30, .pick (.t 25) (.c (.bool true)) (.t 29), none, []⟩] [2, 5, 30]
theorem r20_9 : type_of% (@rr _ _ c20_9.eq_1) := rr rfl
def c20_10 : ACode := .ops [⟨some 31, .build [.bool false, .int .i64 0, .int .i64 0, .int .i64 0, .int .i64 0, .int .i64 0] [], none, []⟩,⟨none, .store (.t 2) 6 (.t 31), none, [2]⟩,⟨some 3, .mv (.c (.bool false)), none, []⟩] [2, 3]
theorem r20_10 : type_of% (@rr _ _ c20_10.eq_1) := rr rfl
def c20_11 : ACode := .seq c20_10 .ret
theorem r20_11 : type_of% (@rr _ _ c20_11.eq_1) := rr rfl
def c20_12 : ACode := .cond (.t 30) c20_11 .skip
theorem r20_12 : type_of% (@rr _ _ c20_12.eq_1) := rr rfl
def c20_13 : ACode := .seq c20_9 c20_12
theorem r20_13 : type_of% (@rr _ _ c20_13.eq_1) := rr rfl
def c20_14 : ACode := .ops [⟨some 32, .load 6 true (.t 5), none, [5]⟩,⟨none, .store (.t 2) 6 (.t 32), none, [2]⟩,⟨some 3, .mv (.c (.bool true)), none, []⟩] [2, 3]
theorem r20_14 : type_of% (@rr _ _ c20_14.eq_1) := rr rfl
def c20_15 : ACode := .seq c20_14 .ret
theorem r20_15 : type_of% (@rr _ _ c20_15.eq_1) := rr rfl
def c20_16 : ACode := .seq c20_13 c20_15
theorem r20_16 : type_of% (@rr _ _ c20_16.eq_1) := rr rfl
def c20_17 : ACode := .seq c20_8 c20_16
theorem r20_17 : type_of% (@rr _ _ c20_17.eq_1) := rr rfl
def c20_18 : ACode := .seq c20_2 c20_17
theorem r20_18 : type_of% (@rr _ _ c20_18.eq_1) := rr rfl
def c20_19 : ACode := .seq c20_1 c20_18
theorem r20_19 : type_of% (@rr _ _ c20_19.eq_1) := rr rfl
def c20_20 : ACode := .seq c20_0 c20_19
theorem r20_20 : type_of% (@rr _ _ c20_20.eq_1) := rr rfl
def a20 : AFun := ⟨1, 33, c20_20, [.cell 2 6 true, .t 3]⟩
attribute [simp] r20_0 r20_1 r20_2 r20_3 r20_4 r20_5 r20_6 r20_7 r20_8 r20_9 r20_10 r20_11 r20_12 r20_13 r20_14 r20_15 r20_16 r20_17 r20_18 r20_19 r20_20
theorem m20 : mFun Try.prog Try.f20 a20 = true := by decide +kernel
def Unpack1 (p w : Int) (x : Ref Word) : Option Int := if okW x.v.v ∧ aField p w ∧ w ≠ 32 then some (get x.v.v p w) else none
theorem runs_Unpack1 (p w : Int) (x : Ref Word) (c : Int) (h : Unpack1 p w x = some c) : Runs (tbl [(70, sp3 Get)]) a71 [Arg.enc p, Arg.enc w, Arg.enc x] (Arg.enc c) := by
  unfold Unpack1 at h
  split at h
  · rename_i hw
    cases h
    obtain ⟨⟨v⟩⟩ := x
    obtain ⟨hv, hf, hw⟩ := hw
    simp only at hv
    refine ⟨rfl, fun g => run_def ?_⟩
    unfold a71
    have hw2 : w = 1 ∨ w = 4 ∨ w = 8 := by rcases hf with ⟨rfl, rfl⟩ | ⟨rfl, rfl⟩ | ⟨rfl, rfl⟩ | ⟨rfl, rfl⟩ | ⟨rfl, rfl⟩ <;> omega
    have e1 : IntKind.i64.wrap (get v p w) = get v p w := by
      unfold get
      rcases hw2 with rfl | rfl | rfl <;> simp <;> refine wrap64 (by omega) (by omega)
    simp -implicitDefEqProofs [Get, hv, hf, e1]
  · cases h
theorem c_Unpack1 : Contract Try.prog 71 (sp3 Unpack1) :=
  contract_of_runs mixed (tbl_cons c_Get tbl_nil) Try.func71 m71 (sp3_runs runs_Unpack1)
theorem pack_ne (n : Node) (h : rightNode n = true) : (pack n).v ≠ 0 := by
  have hb := h
  unfold pack
  rw [if_pos h]
  obtain ⟨leaf, value, feature, cut, left, right⟩ := n
  cases leaf
  · simp [rightNode] at hb
    simp
    omega
  · simp
    omega
theorem runs_Unpack (w : Word) (c : Node × Bool) (h : Unpack w = some c) : Runs (tbl [(69, sp3 Signed), (70, sp3 Get), (71, sp3 Unpack1), (72, sp1 fun n => some (pack n))]) a20 [Arg.enc w] (Arg.enc c) := by
  unfold Unpack at h
  split at h
  · rename_i hw
    cases h
    obtain ⟨v⟩ := w
    simp only at hw
    have hv : okW v := hw
    refine ⟨rfl, fun g => run_def ?_⟩
    unfold a20
    have w1 : IntKind.i64.wrap (v / 4294967296 % 16) = v / 4294967296 % 16 := wrap64 (by omega) (by omega)
    by_cases hl : v / 9223372036854775808 = 1
    · have hl2 : ¬ v / 9223372036854775808 % 2 = 0 := by omega
      have hr : raw v = ⟨true, wrap32 (v % 4294967296), 0, 0, 0, 0⟩ := by simp [raw, hl]
      have hne : ¬ v = 0 := by omega
      by_cases h2 : (pack ⟨true, wrap32 (v % 4294967296), 0, 0, 0, 0⟩).v = v
      · have h3 : pack ⟨true, wrap32 (v % 4294967296), 0, 0, 0, 0⟩ = ⟨v⟩ := by cases hp : pack ⟨true, wrap32 (v % 4294967296), 0, 0, 0, 0⟩; rw [hp] at h2; simpa using h2
        have h1 : rightNode ⟨true, wrap32 (v % 4294967296), 0, 0, 0, 0⟩ = true := by
          cases h1 : rightNode ⟨true, wrap32 (v % 4294967296), 0, 0, 0, 0⟩
          · simp [pack, h1] at h3; omega
          · rfl
        simp -implicitDefEqProofs [Signed, Get, get, hv, aField, Unpack1, hl2, hne, h2, unpack, hr, h1, h3]
      · have h3 : ¬ pack ⟨true, wrap32 (v % 4294967296), 0, 0, 0, 0⟩ = ⟨v⟩ := fun e => h2 (by rw [e])
        simp -implicitDefEqProofs [Signed, Get, get, hv, aField, Unpack1, hl2, hne, h2, unpack, hr, h3]
    · have hl2 : v / 9223372036854775808 % 2 = 0 := by omega
      generalize hn : (⟨false, 0, v / 4294967296 % 16, wrap32 (v % 4294967296), v / 1099511627776 % 256, v / 281474976710656 % 256⟩ : Node) = n at *
      have hr : raw v = n := by rw [← hn]; simp [raw, hl]
      by_cases hne : v = 0
      · have h3 : ¬ (rightNode n = true ∧ pack n = ⟨v⟩) := fun ⟨a, b⟩ => pack_ne n a (by rw [b]; exact hne)
        rw [← hn] at hr h3
        subst hne
        clear hl2 hl
        have hv0 : okW 0 := hv
        have hr0 : raw 0 = ⟨false, 0, 0, 0, 0, 0⟩ := by rw [hr]; rfl
        have h30 : rightNode ⟨false, 0, 0, 0, 0, 0⟩ = false := rfl
        simp -implicitDefEqProofs [Signed, Get, get, hv0, aField, Unpack1, unpack, hr0, h30]
      · by_cases h2 : (pack n).v = v
        · have h3 : pack n = ⟨v⟩ := by cases hp : pack n; rw [hp] at h2; simpa using h2
          have h1 : rightNode n = true := by
            cases h1 : rightNode n
            · simp [pack, h1] at h3; omega
            · rfl
          rw [← hn] at h1 hr h2 h3
          simp -implicitDefEqProofs [Signed, Get, get, hv, aField, Unpack1, hl2, hne, h2, unpack, hr, h1, h3]
        · have h3 : ¬ pack n = ⟨v⟩ := fun e => h2 (by rw [e])
          rw [← hn] at hr h2 h3
          simp -implicitDefEqProofs [Signed, Get, get, hv, aField, Unpack1, hl2, hne, h2, unpack, hr, h3]
  · cases h
theorem c_Unpack : Contract Try.prog 20 (sp1 Unpack) :=
  contract_of_runs mixed (tbl_cons c_Signed (tbl_cons c_Get (tbl_cons c_Unpack1 (tbl_cons c_Pack tbl_nil)))) Try.func20 m20 (sp1_runs runs_Unpack)
end Go.Co
/- CO: spans and boxes. -/
namespace Go.Co
open Go.Am Go.Proofs
set_option linter.unusedSimpArgs false
set_option linter.unusedVariables false
end Go.Co
/- CO: right trees of words; a tree that is grown of numbers is right. -/
namespace Go.Co
theorem pack_okW (n : Node) : okW (pack n).v := by
  unfold pack okW
  split
  · rename_i h
    obtain ⟨leaf, value, feature, cut, left, right⟩ := n
    cases leaf <;> simp [rightNode, fits] at h ⊢ <;> omega
  · simp
theorem raw_pack (n : Node) (h : rightNode n = true) : raw (pack n).v = n := by
  obtain ⟨leaf, value, feature, cut, left, right⟩ := n
  have hb := h
  unfold pack raw
  rw [if_pos h]
  cases leaf
  · simp [rightNode, fits] at hb
    obtain ⟨⟨⟨⟨⟨⟨⟨h0, h1⟩, h2⟩, h3, h4⟩, h5⟩, h6⟩, h7⟩, h8⟩ := hb
    have e : (cut % 4294967296 + feature * 4294967296 + left * 1099511627776 + right * 281474976710656) / 9223372036854775808 ≠ 1 := by omega
    simp only [Bool.false_eq_true, if_false, wrap32, if_neg e, Node.mk.injEq, true_and]
    refine ⟨?_, ?_, ?_, ?_, ?_⟩ <;> omega
  · simp [rightNode, fits] at hb
    obtain ⟨⟨⟨⟨⟨h0, h1⟩, h2⟩, h3⟩, h4⟩, h5⟩ := hb
    have e : (9223372036854775808 + value % 4294967296) / 9223372036854775808 = 1 := by omega
    simp only [if_true, wrap32, if_pos e, Node.mk.injEq, true_and, h2, h3, h4, h5, and_true]
    omega
theorem unpack_pack (n : Node) (h : rightNode n = true) : unpack (pack n) = (n, true) := by
  unfold unpack
  rw [raw_pack n h]
  simp [h]
theorem unpack_true {w : Word} (h : (unpack w).2 = true) : rightNode (unpack w).1 = true ∧ pack (unpack w).1 = w := by
  unfold unpack at *
  split at h
  · rename_i hh
    rw [if_pos hh]
    simpa using hh
  · cases h
def nd (w : Word) : Node := (unpack w).1
theorem nd_pack (n : Node) (h : rightNode n = true) : nd (pack n) = n := by unfold nd; rw [unpack_pack n h]
def names (n : Node) (j : Nat) : Bool := !n.leaf && (decide (n.left = j) || decide (n.right = j))
structure RT (l : List Word) (dim : Int) : Prop where
  ok : ∀ (i : Nat) (h : i < l.length), okW l[i].v ∧ (unpack l[i]).2 = true
  pos : 1 ≤ l.length
  le : l.length ≤ 31
  inner : ∀ (i : Nat) (h : i < l.length), (nd l[i]).leaf = false → (nd l[i]).feature < dim ∧ (nd l[i]).left ≠ (nd l[i]).right ∧ (i : Int) < (nd l[i]).left ∧ (nd l[i]).left < l.length ∧ (i : Int) < (nd l[i]).right ∧ (nd l[i]).right < l.length
  once : ∀ j : Nat, 1 ≤ j → j < l.length → l.countP (fun w => names (nd w) j) = 1
structure NT (l : List Node) (dim : Int) : Prop where
  ok : ∀ n ∈ l, rightNode n = true
  pos : 1 ≤ l.length
  le : l.length ≤ 31
  inner : ∀ (i : Nat) (h : i < l.length), l[i].leaf = false → l[i].feature < dim ∧ l[i].left ≠ l[i].right ∧ (i : Int) < l[i].left ∧ l[i].left < l.length ∧ (i : Int) < l[i].right ∧ l[i].right < l.length
  once : ∀ j : Nat, 1 ≤ j → j < l.length → l.countP (fun n => names n j) = 1
theorem NT.words {l : List Node} {dim : Int} (h : NT l dim) : RT (l.map pack) dim := by
  have hp : ∀ (i : Nat) (hi : i < l.length), nd (pack l[i]) = l[i] := fun i hi => nd_pack _ (h.ok _ (List.getElem_mem hi))
  refine ⟨?_, by simpa using h.pos, by simpa using h.le, ?_, ?_⟩
  · intro i hi
    simp only [List.getElem_map]
    have hi2 : i < l.length := by simpa using hi
    exact ⟨pack_okW _, by rw [unpack_pack _ (h.ok _ (List.getElem_mem hi2))]⟩
  · intro i hi
    have hi2 : i < l.length := by simpa using hi
    simp only [List.getElem_map, List.length_map, hp i hi2]
    exact h.inner i hi2
  · intro j h1 h2
    rw [List.countP_map]
    rw [← h.once j h1 (by simpa using h2)]
    refine List.countP_congr fun n hn => ?_
    simp [nd_pack n (h.ok n hn)]
def leafN (v : Int) : Node := ⟨true, v, 0, 0, 0, 0⟩
structure Gr where
  nodes : List Node
  leaves : List Int
def grow0 (t : KTree) : Gr := ⟨[leafN (within (pick t.val 0) (-3000) 3000)], [0]⟩
def growK (t : KTree) (i : Nat) (s : Gr) : Nat := (within (t.part.getD i 0) 0 (s.leaves.length - 1)).toNat
def growN (t : KTree) (dim : Int) (i : Nat) (n : Int) : Node := ⟨false, 0, within (pick t.dir i) 0 (dim - 1), within (pick t.cut i) 0 9, n, n + 1⟩
def growS (t : KTree) (dim : Int) (i : Nat) (s : Gr) : Gr :=
  ⟨s.nodes.set (s.leaves.getD (growK t i s) 0).toNat (growN t dim i s.nodes.length) ++ [leafN (within (pick t.val (2 * i + 1)) (-3000) 3000), leafN (within (pick t.val (2 * i + 2)) (-3000) 3000)],
    s.leaves.take (growK t i s) ++ s.leaves.drop (growK t i s + 1) ++ [(s.nodes.length : Int), s.nodes.length + 1]⟩
def grow (t : KTree) (dim : Int) : Nat → Gr
  | 0 => grow0 t
  | i + 1 => growS t dim i (grow t dim i)
def treeNodes (t : KTree) (dim : Int) : List Word := (grow t dim (min t.part.length 7)).nodes.map pack
theorem within_le (n lo hi : Int) (h : lo ≤ hi) : lo ≤ within n lo hi ∧ within n lo hi ≤ hi := by
  unfold within
  have h1 := Int.emod_nonneg n (show hi - lo + 1 ≠ 0 by omega)
  have h2 := Int.emod_lt_of_pos n (show 0 < hi - lo + 1 by omega)
  omega
theorem right_leafN (n : Int) : rightNode (leafN (within n (-3000) 3000)) = true := by
  have := within_le n (-3000) 3000 (by omega)
  have h1 : fits (within n (-3000) 3000) = true := by
    unfold fits
    rw [Bool.and_eq_true, decide_eq_true_eq, decide_eq_true_eq]
    omega
  simp [rightNode, leafN, h1]
structure GI (dim : Int) (i : Nat) (s : Gr) : Prop where
  len : s.nodes.length = 2 * i + 1
  lvs : s.leaves.length = i + 1
  leaf : ∀ x ∈ s.leaves, 0 ≤ x ∧ ∃ h : x.toNat < s.nodes.length, (s.nodes[x.toNat]).leaf = true
  dis : s.leaves.Nodup
  ok : ∀ n ∈ s.nodes, rightNode n = true
  val : ∀ n ∈ s.nodes, -3000 ≤ n.value ∧ n.value ≤ 3000
  inner : ∀ (i : Nat) (h : i < s.nodes.length), s.nodes[i].leaf = false → s.nodes[i].feature < dim ∧ 0 ≤ s.nodes[i].cut ∧ s.nodes[i].cut ≤ 9 ∧ (i : Int) < s.nodes[i].left ∧ s.nodes[i].right = s.nodes[i].left + 1 ∧ s.nodes[i].right < s.nodes.length
  once : ∀ j : Nat, 1 ≤ j → j < s.nodes.length → s.nodes.countP (fun n => names n j) = 1
theorem gi0 (t : KTree) (dim : Int) : GI dim 0 (grow0 t) := by
  refine ⟨rfl, rfl, ?_, by simp [grow0], ?_, ?_, ?_, ?_⟩
  · intro x hx
    simp [grow0] at hx
    subst hx
    exact ⟨by omega, by simp [grow0], rfl⟩
  · intro n hn
    simp [grow0] at hn
    subst hn
    exact right_leafN _
  · intro n hn
    simp [grow0] at hn
    subst hn
    exact within_le _ _ _ (by omega)
  · intro i h hl
    simp [grow0] at h
    subst h
    simp [grow0, leafN] at hl
  · intro j h1 h2
    simp [grow0] at h2
    omega
theorem nodup_cut {l : List Int} (h : l.Nodup) (k : Nat) : (l.take k ++ l.drop (k + 1)).Nodup := by
  refine List.Nodup.sublist ?_ h
  have : l.take k ++ l.drop (k + 1) = l.eraseIdx k := (List.eraseIdx_eq_take_drop_succ l k).symm
  rw [this]
  exact List.eraseIdx_sublist l k
theorem mem_cut_ne {l : List Int} (h : l.Nodup) (k : Nat) (hk : k < l.length) {x : Int} (hx : x ∈ l.take k ++ l.drop (k + 1)) : x ∈ l ∧ x ≠ l[k] := by
  rw [← List.eraseIdx_eq_take_drop_succ] at hx
  rw [List.mem_eraseIdx_iff_getElem] at hx
  obtain ⟨j, hj, hne, rfl⟩ := hx
  refine ⟨List.getElem_mem _, fun e => ?_⟩
  rw [List.Nodup] at h
  exact hne ((List.getElem_inj (h₀ := hj) (h₁ := hk) h).1 e)
theorem gi_step (t : KTree) (dim : Int) (i : Nat) (s : Gr) (hd : 1 ≤ dim) (hd4 : dim ≤ 4) (hi : i < 7) (h : GI dim i s) : GI dim (i + 1) (growS t dim i s) := by
  obtain ⟨len, lvs, leaf, dis, ok, val, inner, once⟩ := h
  have hk := within_le (t.part.getD i 0) 0 (s.leaves.length - 1) (by omega)
  have hk2 : growK t i s < s.leaves.length := by unfold growK; omega
  unfold growS
  generalize growK t i s = k at *
  have hat : s.leaves.getD k 0 = s.leaves[k] := by simp [hk2]
  obtain ⟨h0, hl1, hl2⟩ := leaf _ (List.getElem_mem hk2)
  rw [hat]
  generalize ha : s.leaves[k].toNat = a at *
  have hw1 := within_le (pick t.dir i) 0 (dim - 1) (by omega)
  have hw2 := within_le (pick t.cut i) 0 9 (by omega)
  generalize hN : growN t dim i s.nodes.length = N at *
  have N1 : N.leaf = false := by rw [← hN]; rfl
  have N2 : N.left = s.nodes.length := by rw [← hN]; rfl
  have N3 : N.right = s.nodes.length + 1 := by rw [← hN]; rfl
  have N4 : 0 ≤ N.feature ∧ N.feature < dim := by rw [← hN]; unfold growN; simp only; omega
  have N5 : 0 ≤ N.cut ∧ N.cut ≤ 9 := by rw [← hN]; unfold growN; simp only; omega
  have N6 : N.value = 0 := by rw [← hN]; rfl
  have hR := right_leafN (pick t.val (2 * i + 1))
  have hR2 := right_leafN (pick t.val (2 * i + 2))
  have hv := within_le (pick t.val (2 * i + 1)) (-3000) 3000 (by omega)
  have hv2 := within_le (pick t.val (2 * i + 2)) (-3000) 3000 (by omega)
  generalize within (pick t.val (2 * i + 1)) (-3000) 3000 = v1 at *
  generalize within (pick t.val (2 * i + 2)) (-3000) 3000 = v2 at *
  have hlen : (s.nodes.set a N ++ [leafN v1, leafN v2]).length = s.nodes.length + 2 := by simp
  have hget : ∀ (j : Nat) (hj : j < (s.nodes.set a N ++ [leafN v1, leafN v2]).length), (s.nodes.set a N ++ [leafN v1, leafN v2])[j] = if j = a then N else if h : j < s.nodes.length then s.nodes[j] else if j = s.nodes.length then leafN v1 else leafN v2 := by
    intro j hj
    rw [List.getElem_append]
    by_cases h1 : j < s.nodes.length
    · simp only [List.length_set, h1, dif_pos, List.getElem_set]
      by_cases h2 : j = a
      · simp [h2]
      · have : ¬ a = j := fun e => h2 e.symm
        simp [h2, this]
    · have h2 : ¬ j = a := by omega
      simp only [List.length_set, h1, dif_neg, not_false_iff, h2, if_false]
      have : j = s.nodes.length ∨ j = s.nodes.length + 1 := by simp at hj; omega
      rcases this with rfl | rfl
      · simp
      · simp
  have hmem : ∀ n ∈ s.nodes.set a N ++ [leafN v1, leafN v2], n = N ∨ n ∈ s.nodes ∨ n = leafN v1 ∨ n = leafN v2 := by
    intro n hn
    rw [List.mem_append] at hn
    rcases hn with hn | hn
    · rcases List.mem_or_eq_of_mem_set hn with h1 | h1
      · exact Or.inr (Or.inl h1)
      · exact Or.inl h1
    · simp at hn
      rcases hn with h1 | h1
      · exact Or.inr (Or.inr (Or.inl h1))
      · exact Or.inr (Or.inr (Or.inr h1))
  refine ⟨by simp only [hlen]; omega, ?_, ?_, ?_, ?_, ?_, ?_, ?_⟩
  · simp
    omega
  · intro x hx
    rw [List.mem_append] at hx
    rcases hx with hx | hx
    · obtain ⟨hx1, hx2⟩ := mem_cut_ne dis k hk2 hx
      obtain ⟨hx0, hx3, hx4⟩ := leaf x hx1
      have hne : ¬ x.toNat = a := by
        intro e
        apply hx2
        omega
      refine ⟨hx0, by rw [hlen]; omega, ?_⟩
      rw [hget, if_neg hne, dif_pos hx3]
      exact hx4
    · simp at hx
      rcases hx with rfl | rfl
      · refine ⟨by omega, by rw [hlen]; omega, ?_⟩
        rw [hget, if_neg (by omega), dif_neg (by omega)]
        simp [leafN]
      · refine ⟨by omega, by rw [hlen]; omega, ?_⟩
        rw [hget, if_neg (by omega), dif_neg (by omega)]
        split <;> rfl
  · rw [List.nodup_append]
    refine ⟨nodup_cut dis k, ?_, ?_⟩
    · simp
      omega
    · intro x hx y hy e
      subst e
      obtain ⟨hx1, hx2⟩ := mem_cut_ne dis k hk2 hx
      obtain ⟨hx0, hx3, hx4⟩ := leaf x hx1
      simp at hy
      omega
  · intro n hn
    rcases hmem n hn with rfl | h1 | rfl | rfl
    · simp [rightNode, N1, N2, N3, N6, fits]
      omega
    · exact ok n h1
    · exact hR
    · exact hR2
  · intro n hn
    rcases hmem n hn with rfl | h1 | rfl | rfl
    · omega
    · exact val n h1
    · exact hv
    · exact hv2
  · intro j hj
    simp only [hlen]
    rw [hget j hj]
    intro hl
    split at hl
    · rename_i e
      subst e
      simp only [if_true]
      omega
    · rename_i e
      rw [if_neg e]
      split at hl
      · rename_i hj2
        rw [dif_pos hj2]
        have := inner j hj2 hl
        omega
      · split at hl <;> cases hl
  · intro j h1 h2
    rw [hlen] at h2
    rw [List.countP_append, List.countP_set hl1]
    have e1 : names s.nodes[a] j = false := by simp [names, hl2]
    have e2 : names (leafN v1) j = false := by simp [names, leafN]
    have e3 : names (leafN v2) j = false := by simp [names, leafN]
    simp only [e1, List.countP_cons, e2, e3, List.countP_nil, Bool.false_eq_true, if_false]
    by_cases hj : j < s.nodes.length
    · have e4 : names N j = false := by simp [names, N1, N2, N3]; omega
      simp [e4, once j h1 hj]
    · have e4 : names N j = true := by simp [names, N1, N2, N3]; omega
      have e5 : s.nodes.countP (fun n => names n j) = 0 := by
        rw [List.countP_eq_zero]
        intro n hn
        obtain ⟨m, hm, rfl⟩ := List.getElem_of_mem hn
        intro hc
        simp [names] at hc
        have := inner m hm hc.1
        omega
      simp [e4, e5]
theorem gi (t : KTree) (dim : Int) (hd : 1 ≤ dim) (hd4 : dim ≤ 4) : ∀ i, i ≤ 7 → GI dim i (grow t dim i)
  | 0, _ => gi0 t dim
  | i + 1, h => gi_step t dim i _ hd hd4 (by omega) (gi t dim hd hd4 i (by omega))
theorem GI.nt {dim : Int} {i : Nat} {s : Gr} (hi : i ≤ 7) (h : GI dim i s) : NT s.nodes dim := by
  refine ⟨h.ok, by have := h.len; omega, by have := h.len; omega, ?_, h.once⟩
  intro j hj hl
  have := h.inner j hj hl
  omega
theorem rt_treeNodes (t : KTree) (dim : Int) (hd : 1 ≤ dim) (hd4 : dim ≤ 4) : RT (treeNodes t dim) dim :=
  ((gi t dim hd hd4 _ (Nat.min_le_right _ _)).nt (Nat.min_le_right _ _)).words
end Go.Co
/- CO: right models, right queries; what numbers make is right. -/
namespace Go.Co
def Bias.get (b : Bias) (c : Int) : Int := if c = 0 then b.b0 else if c = 1 then b.b1 else b.b2
structure RM (m : Model) : Prop where
  dim : 1 ≤ m.dim ∧ m.dim ≤ 4
  classes : 1 ≤ m.classes ∧ m.classes ≤ 3
  bias : fits m.bias.b0 = true ∧ fits m.bias.b1 = true ∧ fits m.bias.b2 = true
  none1 : m.classes ≤ 1 → m.bias.b1 = 0
  none2 : m.classes ≤ 2 → m.bias.b2 = 0
  trees : m.trees.length ≤ 8
  tree : ∀ t ∈ m.trees, 0 ≤ t.cls ∧ t.cls < m.classes ∧ RT t.nodes m.dim
def mDim (f : Forest) : Int := within f.dim 1 3
def mClasses (f : Forest) : Int := within f.classes 1 3
def mBias (f : Forest) (c : Nat) : Int := if (c : Int) < mClasses f then within (pick f.bias c) (-500) 500 else 0
def mTree (f : Forest) (t : KTree) : Tree := ⟨within t.cls 0 (mClasses f - 1), treeNodes t (mDim f)⟩
def modelOf (f : Forest) : Model := ⟨mDim f, mClasses f, ⟨mBias f 0, mBias f 1, mBias f 2⟩, (f.trees.take 4).map (mTree f)⟩
theorem mDim_le (f : Forest) : 1 ≤ mDim f ∧ mDim f ≤ 3 := within_le _ _ _ (by omega)
theorem mClasses_le (f : Forest) : 1 ≤ mClasses f ∧ mClasses f ≤ 3 := within_le _ _ _ (by omega)
theorem mBias_le (f : Forest) (c : Nat) : -500 ≤ mBias f c ∧ mBias f c ≤ 500 := by
  unfold mBias
  split
  · exact within_le _ _ _ (by omega)
  · omega
theorem fits_of {n : Int} (h : -2147483648 ≤ n ∧ n ≤ 2147483647) : fits n = true := by
  unfold fits
  rw [Bool.and_eq_true, decide_eq_true_eq, decide_eq_true_eq]
  exact h
theorem of_fits {n : Int} (h : fits n = true) : -2147483648 ≤ n ∧ n ≤ 2147483647 := by
  unfold fits at h
  rw [Bool.and_eq_true, decide_eq_true_eq, decide_eq_true_eq] at h
  exact h
theorem rm_modelOf (f : Forest) : RM (modelOf f) := by
  have hd := mDim_le f
  have hc := mClasses_le f
  have hb : ∀ c, fits (mBias f c) = true := fun c => fits_of (by have := mBias_le f c; omega)
  refine ⟨⟨hd.1, show mDim f ≤ 4 by omega⟩, hc, ⟨hb 0, hb 1, hb 2⟩, ?_, ?_, ?_, ?_⟩
  · intro h
    show mBias f 1 = 0
    have h : mClasses f ≤ 1 := h
    unfold mBias
    rw [if_neg (by omega)]
  · intro h
    show mBias f 2 = 0
    have h : mClasses f ≤ 2 := h
    unfold mBias
    rw [if_neg (by omega)]
  · simp [modelOf]
    omega
  · intro t ht
    simp only [modelOf, List.mem_map] at ht
    obtain ⟨k, hk, rfl⟩ := ht
    have := within_le k.cls 0 (mClasses f - 1) (by omega)
    refine ⟨this.1, ?_, rt_treeNodes k (mDim f) hd.1 (by omega)⟩
    show within k.cls 0 (mClasses f - 1) < mClasses f
    omega
end Go.Co
/- CO: walks through right trees; the pieces of a tree within a box. -/
namespace Go.Co
def Point.get (p : Point) (i : Int) : Int := if i = 0 then p.p0 else if i = 1 then p.p1 else if i = 2 then p.p2 else p.p3
def Point.set (p : Point) (i n : Int) : Point := if i = 0 then { p with p0 := n } else if i = 1 then { p with p1 := n } else if i = 2 then { p with p2 := n } else { p with p3 := n }
def ndAt (l : List Word) (i : Nat) : Node := nd (l.getD i default)
theorem ndAt_lt {l : List Word} {i : Nat} (h : i < l.length) : ndAt l i = nd l[i] := by unfold ndAt; simp [h]
def nxt (n : Node) (p : Point) : Nat := if p.get n.feature ≤ n.cut then n.left.toNat else n.right.toNat
def walk (l : List Word) (p : Point) : Nat → Nat → Nat
  | 0, i => i
  | f + 1, i => if (ndAt l i).leaf then i else walk l p f (nxt (ndAt l i) p)
def leafOf (l : List Word) (p : Point) : Nat := walk l p 31 0
def valueAt (l : List Word) (p : Point) : Int := (ndAt l (leafOf l p)).value
theorem RT.at {l : List Word} {dim : Int} (h : RT l dim) {i : Nat} (hi : i < l.length) (hl : (ndAt l i).leaf = false) :
    (ndAt l i).feature < dim ∧ (ndAt l i).left ≠ (ndAt l i).right ∧ (i : Int) < (ndAt l i).left ∧ (ndAt l i).left < l.length ∧ (i : Int) < (ndAt l i).right ∧ (ndAt l i).right < l.length := by
  rw [ndAt_lt hi] at *
  exact h.inner i hi hl
theorem RT.node {l : List Word} {dim : Int} (h : RT l dim) {i : Nat} (hi : i < l.length) : rightNode (ndAt l i) = true := by
  rw [ndAt_lt hi]
  exact (unpack_true (h.ok i hi).2).1
theorem RT.feature {l : List Word} {dim : Int} (h : RT l dim) {i : Nat} (hi : i < l.length) (hl : (ndAt l i).leaf = false) : 0 ≤ (ndAt l i).feature ∧ (ndAt l i).feature < 4 := by
  have := h.node hi
  unfold rightNode at this
  rw [hl] at this
  simp only [Bool.false_eq_true, if_false, Bool.and_eq_true, decide_eq_true_eq] at this
  omega
theorem RT.value {l : List Word} {dim : Int} (h : RT l dim) {i : Nat} (hi : i < l.length) : fits (ndAt l i).value = true := by
  have := h.node hi
  unfold rightNode at this
  cases hl : (ndAt l i).leaf
  · rw [hl] at this
    simp only [Bool.false_eq_true, if_false, Bool.and_eq_true, decide_eq_true_eq] at this
    rw [this.1.1.1.1.1.1.1]
    rfl
  · rw [hl] at this
    simp only [if_true, Bool.and_eq_true, decide_eq_true_eq] at this
    exact this.1.1.1.1
theorem nxt_lt {l : List Word} {dim : Int} (h : RT l dim) {i : Nat} (hi : i < l.length) (hl : (ndAt l i).leaf = false) (p : Point) : i < nxt (ndAt l i) p ∧ nxt (ndAt l i) p < l.length := by
  have := h.at hi hl
  unfold nxt
  split <;> omega
theorem walk_leaf {l : List Word} {dim : Int} (h : RT l dim) (p : Point) : ∀ (f i : Nat), i < l.length → l.length ≤ f + i → walk l p f i < l.length ∧ (ndAt l (walk l p f i)).leaf = true
  | 0, i, h1, h2 => by omega
  | f + 1, i, h1, h2 => by
    unfold walk
    cases hl : (ndAt l i).leaf
    · simp only [Bool.false_eq_true, if_false]
      have := nxt_lt h h1 hl p
      exact walk_leaf h p f _ this.2 (by omega)
    · simp only [if_true]
      exact ⟨h1, hl⟩
theorem leafOf_lt {l : List Word} {dim : Int} (h : RT l dim) (p : Point) : leafOf l p < l.length ∧ (ndAt l (leafOf l p)).leaf = true :=
  walk_leaf h p 31 0 (by have := h.pos; omega) (by have := h.le; omega)
theorem valueAt_fits {l : List Word} {dim : Int} (h : RT l dim) (p : Point) : fits (valueAt l p) = true := h.value (leafOf_lt h p).1
inductive Reach (l : List Word) (p : Point) : Nat → Prop
  | root : Reach l p 0
  | step {i : Nat} : Reach l p i → (ndAt l i).leaf = false → Reach l p (nxt (ndAt l i) p)
theorem Reach.lt {l : List Word} {dim : Int} (h : RT l dim) {p : Point} {j : Nat} (hr : Reach l p j) : j < l.length := by
  induction hr with
  | root => have := h.pos; omega
  | step hr hl ih => exact (nxt_lt h ih hl p).2
theorem Reach.walk {l : List Word} {dim : Int} (h : RT l dim) {p : Point} {j : Nat} (hr : Reach l p j) : ∃ f, 31 ≤ f + j ∧ leafOf l p = walk l p f j := by
  induction hr with
  | root => exact ⟨31, by omega, rfl⟩
  | @step i hr hl ih =>
    obtain ⟨f, hf, hw⟩ := ih
    have hi := hr.lt h
    have hle := h.le
    cases f with
    | zero => omega
    | succ f =>
      refine ⟨f, ?_, ?_⟩
      · have := (nxt_lt h hi hl p).1
        omega
      · rw [hw, Co.walk, hl]
        rfl
theorem Reach.leaf {l : List Word} {dim : Int} (h : RT l dim) {p : Point} {j : Nat} (hr : Reach l p j) (hl : (ndAt l j).leaf = true) : leafOf l p = j := by
  obtain ⟨f, hf, hw⟩ := hr.walk h
  rw [hw]
  cases f with
  | zero => rfl
  | succ f => rw [Co.walk, hl]; rfl
def up (f : Nat → Box) (i : Nat) (b : Box) : Nat → Box := fun j => if j = i then b else f j
def zeroB : Box := ⟨⟨0, 0⟩, ⟨0, 0⟩, ⟨0, 0⟩, ⟨0, 0⟩, ⟨0, 0⟩⟩
def ownF (l : List Word) (b : Box) : Nat → Nat → Box
  | 0 => up (fun _ => zeroB) 0 b
  | i + 1 => if (ndAt l i).leaf then ownF l b i else
      up (up (ownF l b i) (ndAt l i).left.toNat (cutB (ownF l b i i) (ndAt l i).feature (ndAt l i).cut).1) (ndAt l i).right.toNat (cutB (ownF l b i i) (ndAt l i).feature (ndAt l i).cut).2
def own (l : List Word) (b : Box) (j : Nat) : Box := ownF l b j j
def pieceAt (l : List Word) (b : Box) (i : Nat) : Option Piece := if (ndAt l i).leaf && !(own l b i).empty then some ⟨own l b i, (ndAt l i).value⟩ else none
def pieces (l : List Word) (b : Box) : List Piece := (List.range l.length).filterMap (pieceAt l b)
end Go.Co
/- CO: sums, bounds. -/
namespace Go.Co
def evalF (c : Int) (p : Point) (s : Int) (t : Tree) : Int := if t.cls = c then s + valueAt t.nodes p else s
def evalM (m : Model) (c : Int) (p : Point) : Int := m.trees.foldl (evalF c p) (m.bias.get c)
theorem Bias.get_fits {m : Model} (h : RM m) (c : Int) : fits (m.bias.get c) = true := by
  unfold Bias.get
  have := h.bias
  split
  · exact this.1
  · split
    · exact this.2.1
    · exact this.2.2
theorem evalF_le {c : Int} {p : Point} : ∀ (l : List Tree) (s : Int), (∀ t ∈ l, ∃ d, RT t.nodes d) →
    s - 2147483648 * l.length ≤ l.foldl (evalF c p) s ∧ l.foldl (evalF c p) s ≤ s + 2147483647 * l.length
  | [], s, _ => by simp
  | t :: l, s, h => by
    obtain ⟨d, hd⟩ := h t (by simp)
    have h1 := of_fits (valueAt_fits hd p)
    have h2 := evalF_le (c := c) (p := p) l (evalF c p s t) (fun t ht => h t (by simp [ht]))
    have h3 : evalF c p s t = s ∨ evalF c p s t = s + valueAt t.nodes p := by unfold evalF; split <;> simp
    rw [List.foldl_cons, List.length_cons]
    rcases h3 with h3 | h3 <;> rw [h3] at h2 ⊢ <;> omega
theorem RM.rt {m : Model} (h : RM m) {t : Tree} (ht : t ∈ m.trees) : RT t.nodes m.dim := (h.tree t ht).2.2
def endF (a : Int × Int) (x : Piece) : Int × Int := (min2 a.1 x.value, max2 a.2 x.value)
def ends (ps : List Piece) : Tri Int Int Bool := match ps with
  | [] => ⟨0, 0, false⟩
  | x :: _ => ⟨(ps.foldl endF (x.value, x.value)).1, (ps.foldl endF (x.value, x.value)).2, true⟩
def Span.has (s : Span) (n : Int) : Bool := decide (s.lo ≤ n) && decide (n ≤ s.hi)
end Go.Co
