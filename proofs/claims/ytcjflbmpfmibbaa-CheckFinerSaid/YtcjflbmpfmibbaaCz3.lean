/- CO: texts of this claim, one behind the other. -/
import Derived.Test.YtcjflbmpfmibbaaCz2
/- CO: nodes, by the program. -/
namespace Go.Co
open Go.Am Go.Proofs
set_option linter.unusedSimpArgs false
set_option linter.unusedVariables false
def c146_0 : ACode := .ops [⟨some 2, .mv (.c (.bool false)), none, []⟩] [0]
theorem r146_0 : type_of% (@rr _ _ c146_0.eq_1) := rr rfl
def c146_1 : ACode := .ops [⟨some 3, .mv (.t 0), none, []⟩,⟨some 4, .bin .geq (.t 3) (.c (.int .i64 1)), none, []⟩,⟨some 5, .mv (.t 4), none, []⟩,⟨some 6, .mv (.t 0), some (5, true), []⟩,⟨some 7, .bin .lss (.t 6) (.c (.int .i64 31)), some (5, true), []⟩,⟨some 8, .pick (.t 5) (.t 7) (.c (.bool false)), none, []⟩,⟨some 2, .mv (.t 8), none, []⟩] [2]
theorem r146_1 : type_of% (@rr _ _ c146_1.eq_1) := rr rfl
def c146_2 : ACode := .seq c146_1 .ret
theorem r146_2 : type_of% (@rr _ _ c146_2.eq_1) := rr rfl
def c146_3 : ACode := .seq c146_0 c146_2
theorem r146_3 : type_of% (@rr _ _ c146_3.eq_1) := rr rfl
def a146 : AFun := ⟨1, 9, c146_3, [.t 2]⟩
attribute [simp] r146_0 r146_1 r146_2 r146_3
theorem m146 : mFun Try.prog Try.f146 a146 = true := by decide +kernel
def c122_0 : ACode := .ops [⟨some 1, .box (.t 0) 6, none, []⟩,⟨some 2, .mv (.c (.bool false)), none, []⟩] [1]
theorem r122_0 : type_of% (@rr _ _ c122_0.eq_1) := rr rfl
def c122_1 : ACode := .ops [⟨some 3, .fad (.t 1) 0, none, [1]⟩,⟨some 4, .load 1 false (.t 3), none, [1]⟩] [1, 4]
theorem r122_1 : type_of% (@rr _ _ c122_1.eq_1) := rr rfl
def c122_2 : ACode := .ops [⟨some 5, .load 6 true (.t 1), none, [1]⟩,⟨some 6, .fad (.t 1) 1, none, [1]⟩,⟨some 7, .load 1 false (.t 6), none, [1]⟩,⟨some 8, .build [.bool false, .int .i64 0, .int .i64 0, .int .i64 0, .int .i64 0, .int .i64 0] [(0, 1, .c (.bool true)), (1, 1, .t 7)], none, []⟩,⟨some 9, .eqa false [true, false, false, false, false, false] (.t 5) (.t 8), none, []⟩,⟨some 10, .mv (.t 9), none, []⟩,⟨some 11, .fad (.t 1) 1, some (10, true), [1]⟩,⟨some 12, .load 1 false (.t 11), some (10, true), [1]⟩,⟨some 13, .call 75 [.t 12, .c (.int .i64 32)], some (10, true), []⟩,⟨some 14, .pick (.t 10) (.t 13) (.c (.bool false)), none, []⟩,⟨some 2, .mv (.t 14), none, []⟩] [2]
theorem r122_2 : type_of% (@rr _ _ c122_2.eq_1) := rr rfl
def c122_3 : ACode := .seq c122_2 .ret
theorem r122_3 : type_of% (@rr _ _ c122_3.eq_1) := rr rfl
def c122_4 : ACode := .cond (.t 4) c122_3 .skip
theorem r122_4 : type_of% (@rr _ _ c122_4.eq_1) := rr rfl
def c122_5 : ACode := .seq c122_1 c122_4
theorem r122_5 : type_of% (@rr _ _ c122_5.eq_1) := rr rfl
def c122_6 : ACode := .ops [⟨some 15, .fad (.t 1) 1, none, [1]⟩,⟨some 16, .load 1 false (.t 15), none, [1]⟩,⟨some 17, .bin .eql (.t 16) (.c (.int .i64 0)), none, []⟩,⟨some 18, .mv (.t 17), none, []⟩,⟨some 19, .fad (.t 1) 2, some (18, true), [1]⟩,⟨some 20, .load 1 false (.t 19), some (18, true), [1]⟩,⟨some 21, .bin .geq (.t 20) (.c (.int .i64 0)), some (18, true), []⟩,⟨some 22, .pick (.t 18) (.t 21) (.c (.bool false)), none, []⟩,⟨some 23, .mv (.t 22), none, []⟩,⟨some 24, .fad (.t 1) 2, some (23, true), [1]⟩,⟨some 25, .load 1 false (.t 24), some (23, true), [1]⟩,⟨some 26, .bin .lss (.t 25) (.c (.int .i64 4)), some (23, true), []⟩,⟨some 27, .pick (.t 23) (.t 26) (.c (.bool false)), none, []⟩,⟨some 28, .mv (.t 27), none, []⟩,⟨some 29, .fad (.t 1) 3, some (28, true), [1]⟩,⟨some 30, .load 1 false (.t 29), some (28, true), [1]⟩,⟨some 31, .call 75 [.t 30, .c (.int .i64 32)], some (28, true), []⟩,⟨some 32, .pick (.t 28) (.t 31) (.c (.bool false)), none, []⟩,⟨some 33, .mv (.t 32), none, []⟩,⟨some 34, .fad (.t 1) 4, some (33, true), [1]⟩,⟨some 35, .load 1 false (.t 34), some (33, true), [1]⟩,⟨some 36, .call 146 [.t 35], some (33, true), []⟩,⟨some 37, .pick (.t 33) (.t 36) (.c (.bool false)), none, []⟩,⟨some 38, .mv (.t 37), none, []⟩,⟨some 39, .fad (.t 1) 5, some (38, true), [1]⟩,⟨some 40, .load 1 false (.t 39), some (38, true), [1]⟩,⟨some 41, .call 146 [.t 40], some (38, true), []⟩,⟨some 42, .pick (.t 38) (.t 41) (.c (.bool false)), none, []⟩,⟨some 2, .mv (.t 42), none, []⟩] [2]
theorem r122_6 : type_of% (@rr _ _ c122_6.eq_1) := rr rfl
def c122_7 : ACode := .seq c122_6 .ret
theorem r122_7 : type_of% (@rr _ _ c122_7.eq_1) := rr rfl
def c122_8 : ACode := .seq c122_5 c122_7
theorem r122_8 : type_of% (@rr _ _ c122_8.eq_1) := rr rfl
def c122_9 : ACode := .seq c122_0 c122_8
theorem r122_9 : type_of% (@rr _ _ c122_9.eq_1) := rr rfl
def a122 : AFun := ⟨1, 43, c122_9, [.t 2]⟩
attribute [simp] r122_0 r122_1 r122_2 r122_3 r122_4 r122_5 r122_6 r122_7 r122_8 r122_9
theorem m122 : mFun Try.prog Try.f122 a122 = true := by decide +kernel
def c120_0 : ACode := .ops [⟨some 4, .mv (.c (.bool false)), none, []⟩] [0, 1]
theorem r120_0 : type_of% (@rr _ _ c120_0.eq_1) := rr rfl
def c120_1 : ACode := .ops [⟨some 5, .mv (.t 0), none, []⟩,⟨some 6, .bin .geq (.t 5) (.c (.int .i64 0)), none, []⟩,⟨some 7, .mv (.t 6), none, []⟩,⟨some 8, .mv (.t 0), some (7, true), []⟩,⟨some 9, .bin .lss (.t 8) (.c (.int .i64 64)), some (7, true), []⟩,⟨some 10, .pick (.t 7) (.t 9) (.c (.bool false)), none, []⟩,⟨some 11, .mv (.t 10), none, []⟩,⟨some 12, .mv (.t 1), some (11, true), []⟩,⟨some 13, .bin .geq (.t 12) (.c (.int .i64 1)), some (11, true), []⟩,⟨some 14, .pick (.t 11) (.t 13) (.c (.bool false)), none, []⟩,⟨some 15, .mv (.t 14), none, []⟩,⟨some 16, .mv (.t 1), some (15, true), []⟩,⟨some 17, .mv (.t 0), some (15, true), []⟩,⟨some 18, .bin .sub (.c (.int .i64 64)) (.t 17), some (15, true), []⟩,⟨some 19, .bin .leq (.t 16) (.t 18), some (15, true), []⟩,⟨some 20, .pick (.t 15) (.t 19) (.c (.bool false)), none, []⟩,⟨some 4, .mv (.t 20), none, []⟩] [4]
theorem r120_1 : type_of% (@rr _ _ c120_1.eq_1) := rr rfl
def c120_2 : ACode := .seq c120_1 .ret
theorem r120_2 : type_of% (@rr _ _ c120_2.eq_1) := rr rfl
def c120_3 : ACode := .seq c120_0 c120_2
theorem r120_3 : type_of% (@rr _ _ c120_3.eq_1) := rr rfl
def a120 : AFun := ⟨2, 21, c120_3, [.t 4]⟩
attribute [simp] r120_0 r120_1 r120_2 r120_3
theorem m120 : mFun Try.prog Try.f120 a120 = true := by decide +kernel
def c121_0 : ACode := .ops [⟨some 2, .mv (.c (.int .u64 0)), none, []⟩] [0]
theorem r121_0 : type_of% (@rr _ _ c121_0.eq_1) := rr rfl
def c121_1 : ACode := .ops [⟨some 3, .mv (.t 0), none, []⟩,⟨some 4, .bin .sub (.c (.int .i64 64)) (.t 3), none, []⟩,⟨some 5, .conv .u64 (.t 4), none, []⟩,⟨some 6, .bin .shr (.c (.int .u64 18446744073709551615)) (.t 5), none, []⟩,⟨some 2, .mv (.t 6), none, []⟩] [2]
theorem r121_1 : type_of% (@rr _ _ c121_1.eq_1) := rr rfl
def c121_2 : ACode := .seq c121_1 .ret
theorem r121_2 : type_of% (@rr _ _ c121_2.eq_1) := rr rfl
def c121_3 : ACode := .seq c121_0 c121_2
theorem r121_3 : type_of% (@rr _ _ c121_3.eq_1) := rr rfl
def a121 : AFun := ⟨1, 7, c121_3, [.t 2]⟩
attribute [simp] r121_0 r121_1 r121_2 r121_3
theorem m121 : mFun Try.prog Try.f121 a121 = true := by decide +kernel
def c123_0 : ACode := .ops [⟨some 8, .mv (.c (.int .u64 0)), none, []⟩] [0, 1, 2, 3]
theorem r123_0 : type_of% (@rr _ _ c123_0.eq_1) := rr rfl
def c123_1 : ACode := .ops [⟨some 10, .mv (.t 1), none, []⟩,⟨some 11, .mv (.t 2), none, []⟩,⟨some 12, .call 120 [.t 10, .t 11], none, []⟩,⟨some 13, .un .not (.t 12), none, []⟩] [0, 1, 2, 3, 13]
theorem r123_1 : type_of% (@rr _ _ c123_1.eq_1) := rr rfl
def c123_2 : ACode := .ops [⟨some 14, .mv (.t 0), none, []⟩,⟨some 8, .mv (.t 14), none, []⟩] [8]
theorem r123_2 : type_of% (@rr _ _ c123_2.eq_1) := rr rfl
def c123_3 : ACode := .seq c123_2 .ret
theorem r123_3 : type_of% (@rr _ _ c123_3.eq_1) := rr rfl
def c123_4 : ACode := .cond (.t 13) c123_3 .skip
theorem r123_4 : type_of% (@rr _ _ c123_4.eq_1) := rr rfl
def c123_5 : ACode := .seq c123_1 c123_4
theorem r123_5 : type_of% (@rr _ _ c123_5.eq_1) := rr rfl
def c123_6 : ACode := .ops [⟨some 15, .mv (.t 2), none, []⟩,⟨some 16, .call 121 [.t 15], none, []⟩,⟨some 17, .mv (.t 1), none, []⟩,⟨some 18, .conv .u64 (.t 17), none, []⟩,⟨some 19, .bin .shl (.t 16) (.t 18), none, []⟩,⟨some 9, .mv (.t 19), none, []⟩] [0, 1, 3, 9]
theorem r123_6 : type_of% (@rr _ _ c123_6.eq_1) := rr rfl
def c123_7 : ACode := .ops [⟨some 20, .mv (.t 0), none, []⟩,⟨some 21, .mv (.t 9), none, []⟩,⟨some 22, .bin .andNot (.t 20) (.t 21), none, []⟩,⟨some 23, .mv (.t 3), none, []⟩,⟨some 24, .mv (.t 1), none, []⟩,⟨some 25, .conv .u64 (.t 24), none, []⟩,⟨some 26, .bin .shl (.t 23) (.t 25), none, []⟩,⟨some 27, .mv (.t 9), none, []⟩,⟨some 28, .bin .and (.t 26) (.t 27), none, []⟩,⟨some 29, .bin .or (.t 22) (.t 28), none, []⟩,⟨some 8, .mv (.t 29), none, []⟩] [8]
theorem r123_7 : type_of% (@rr _ _ c123_7.eq_1) := rr rfl
def c123_8 : ACode := .seq c123_7 .ret
theorem r123_8 : type_of% (@rr _ _ c123_8.eq_1) := rr rfl
def c123_9 : ACode := .seq c123_6 c123_8
theorem r123_9 : type_of% (@rr _ _ c123_9.eq_1) := rr rfl
def c123_10 : ACode := .seq c123_5 c123_9
theorem r123_10 : type_of% (@rr _ _ c123_10.eq_1) := rr rfl
def c123_11 : ACode := .seq c123_0 c123_10
theorem r123_11 : type_of% (@rr _ _ c123_11.eq_1) := rr rfl
def a123 : AFun := ⟨4, 30, c123_11, [.t 8]⟩
attribute [simp] r123_0 r123_1 r123_2 r123_3 r123_4 r123_5 r123_6 r123_7 r123_8 r123_9 r123_10 r123_11
theorem m123 : mFun Try.prog Try.f123 a123 = true := by decide +kernel
def c70_0 : ACode := .ops [⟨some 6, .mv (.c (.int .u64 0)), none, []⟩] [0, 1, 2]
theorem r70_0 : type_of% (@rr _ _ c70_0.eq_1) := rr rfl
def c70_1 : ACode := .ops [⟨some 7, .mv (.t 1), none, []⟩,⟨some 8, .mv (.t 2), none, []⟩,⟨some 9, .call 120 [.t 7, .t 8], none, []⟩,⟨some 10, .un .not (.t 9), none, []⟩] [0, 1, 2, 10]
theorem r70_1 : type_of% (@rr _ _ c70_1.eq_1) := rr rfl
def c70_2 : ACode := .ops [⟨some 6, .mv (.c (.int .u64 0)), none, []⟩] [6]
theorem r70_2 : type_of% (@rr _ _ c70_2.eq_1) := rr rfl
def c70_3 : ACode := .seq c70_2 .ret
theorem r70_3 : type_of% (@rr _ _ c70_3.eq_1) := rr rfl
def c70_4 : ACode := .cond (.t 10) c70_3 .skip
theorem r70_4 : type_of% (@rr _ _ c70_4.eq_1) := rr rfl
def c70_5 : ACode := .seq c70_1 c70_4
theorem r70_5 : type_of% (@rr _ _ c70_5.eq_1) := rr rfl
def c70_6 : ACode := .ops [⟨some 11, .mv (.t 0), none, []⟩,⟨some 12, .mv (.t 1), none, []⟩,⟨some 13, .conv .u64 (.t 12), none, []⟩,⟨some 14, .bin .shr (.t 11) (.t 13), none, []⟩,⟨some 15, .mv (.t 2), none, []⟩,⟨some 16, .call 121 [.t 15], none, []⟩,⟨some 17, .bin .and (.t 14) (.t 16), none, []⟩,⟨some 6, .mv (.t 17), none, []⟩] [6]
theorem r70_6 : type_of% (@rr _ _ c70_6.eq_1) := rr rfl
def c70_7 : ACode := .seq c70_6 .ret
theorem r70_7 : type_of% (@rr _ _ c70_7.eq_1) := rr rfl
def c70_8 : ACode := .seq c70_5 c70_7
theorem r70_8 : type_of% (@rr _ _ c70_8.eq_1) := rr rfl
def c70_9 : ACode := .seq c70_0 c70_8
theorem r70_9 : type_of% (@rr _ _ c70_9.eq_1) := rr rfl
def a70 : AFun := ⟨3, 18, c70_9, [.t 6]⟩
attribute [simp] r70_0 r70_1 r70_2 r70_3 r70_4 r70_5 r70_6 r70_7 r70_8 r70_9
theorem m70 : mFun Try.prog Try.f70 a70 = true := by decide +kernel
def c69_0 : ACode := .ops [⟨some 6, .mv (.c (.int .i64 0)), none, []⟩] [0, 1, 2]
theorem r69_0 : type_of% (@rr _ _ c69_0.eq_1) := rr rfl
def c69_1 : ACode := .ops [⟨some 7, .mv (.t 0), none, []⟩,⟨some 8, .mv (.t 1), none, []⟩,⟨some 9, .mv (.t 2), none, []⟩,⟨some 10, .call 70 [.t 7, .t 8, .t 9], none, []⟩,⟨some 11, .conv .i64 (.t 10), none, []⟩,⟨some 12, .mv (.t 2), none, []⟩,⟨some 13, .call 119 [.t 11, .t 12], none, []⟩,⟨some 6, .mv (.t 13), none, []⟩] [6]
theorem r69_1 : type_of% (@rr _ _ c69_1.eq_1) := rr rfl
def c69_2 : ACode := .seq c69_1 .ret
theorem r69_2 : type_of% (@rr _ _ c69_2.eq_1) := rr rfl
def c69_3 : ACode := .seq c69_0 c69_2
theorem r69_3 : type_of% (@rr _ _ c69_3.eq_1) := rr rfl
def a69 : AFun := ⟨3, 14, c69_3, [.t 6]⟩
attribute [simp] r69_0 r69_1 r69_2 r69_3
theorem m69 : mFun Try.prog Try.f69 a69 = true := by decide +kernel
def c72_0 : ACode := .ops [⟨some 1, .box (.t 0) 6, none, []⟩,⟨some 2, .mv (.c (.int .u64 0)), none, []⟩] [1]
theorem r72_0 : type_of% (@rr _ _ c72_0.eq_1) := rr rfl
def c72_1 : ACode := .ops [⟨some 4, .load 6 true (.t 1), none, [1]⟩,⟨some 5, .call 122 [.t 4], none, []⟩,⟨some 6, .un .not (.t 5), none, []⟩] [1, 6]
theorem r72_1 : type_of% (@rr _ _ c72_1.eq_1) := rr rfl
def c72_2 : ACode := .ops [⟨some 2, .mv (.c (.int .u64 0)), none, []⟩] [2]
theorem r72_2 : type_of% (@rr _ _ c72_2.eq_1) := rr rfl
def c72_3 : ACode := .seq c72_2 .ret
theorem r72_3 : type_of% (@rr _ _ c72_3.eq_1) := rr rfl
def c72_4 : ACode := .cond (.t 6) c72_3 .skip
theorem r72_4 : type_of% (@rr _ _ c72_4.eq_1) := rr rfl
def c72_5 : ACode := .seq c72_1 c72_4
theorem r72_5 : type_of% (@rr _ _ c72_5.eq_1) := rr rfl
def c72_6 : ACode := .ops [⟨some 7, .fad (.t 1) 0, none, [1]⟩,⟨some 8, .load 1 false (.t 7), none, [1]⟩] [1, 8]
theorem r72_6 : type_of% (@rr _ _ c72_6.eq_1) := rr rfl
def c72_7 : ACode := .ops [⟨some 9, .fad (.t 1) 1, none, [1]⟩,⟨some 10, .load 1 false (.t 9), none, [1]⟩,⟨some 11, .conv .u64 (.t 10), none, []⟩,⟨some 12, .call 123 [.c (.int .u64 9223372036854775808), .c (.int .i64 0), .c (.int .i64 32), .t 11], none, []⟩,⟨some 2, .mv (.t 12), none, []⟩] [2]
theorem r72_7 : type_of% (@rr _ _ c72_7.eq_1) := rr rfl
def c72_8 : ACode := .seq c72_7 .ret
theorem r72_8 : type_of% (@rr _ _ c72_8.eq_1) := rr rfl
def c72_9 : ACode := .cond (.t 8) c72_8 .skip
theorem r72_9 : type_of% (@rr _ _ c72_9.eq_1) := rr rfl
def c72_10 : ACode := .seq c72_6 c72_9
theorem r72_10 : type_of% (@rr _ _ c72_10.eq_1) := rr rfl
def c72_11 : ACode := .ops [⟨some 13, .fad (.t 1) 3, none, [1]⟩,⟨some 14, .load 1 false (.t 13), none, [1]⟩,⟨some 15, .conv .u64 (.t 14), none, []⟩,⟨some 16, .call 123 [.c (.int .u64 0), .c (.int .i64 0), .c (.int .i64 32), .t 15], none, []⟩,⟨some 3, .mv (.t 16), none, []⟩] [1, 3]
theorem r72_11 : type_of% (@rr _ _ c72_11.eq_1) := rr rfl
def c72_12 : ACode := .ops [⟨some 17, .mv (.t 3), none, []⟩,⟨some 18, .fad (.t 1) 2, none, [1]⟩,⟨some 19, .load 1 false (.t 18), none, [1]⟩,⟨some 20, .conv .u64 (.t 19), none, []⟩,⟨some 21, .call 123 [.t 17, .c (.int .i64 32), .c (.int .i64 4), .t 20], none, []⟩,⟨some 3, .mv (.t 21), none, []⟩] [1, 3]
theorem r72_12 : type_of% (@rr _ _ c72_12.eq_1) := rr rfl
def c72_13 : ACode := .ops [⟨some 22, .mv (.t 3), none, []⟩,⟨some 23, .fad (.t 1) 4, none, [1]⟩,⟨some 24, .load 1 false (.t 23), none, [1]⟩,⟨some 25, .conv .u64 (.t 24), none, []⟩,⟨some 26, .call 123 [.t 22, .c (.int .i64 40), .c (.int .i64 8), .t 25], none, []⟩,⟨some 3, .mv (.t 26), none, []⟩] [1, 3]
theorem r72_13 : type_of% (@rr _ _ c72_13.eq_1) := rr rfl
def c72_14 : ACode := .ops [⟨some 27, .mv (.t 3), none, []⟩,⟨some 28, .fad (.t 1) 5, none, [1]⟩,⟨some 29, .load 1 false (.t 28), none, [1]⟩,⟨some 30, .conv .u64 (.t 29), none, []⟩,⟨some 31, .call 123 [.t 27, .c (.int .i64 48), .c (.int .i64 8), .t 30], none, []⟩,⟨some 2, .mv (.t 31), none, []⟩] [2]
theorem r72_14 : type_of% (@rr _ _ c72_14.eq_1) := rr rfl
def c72_15 : ACode := .seq c72_14 .ret
theorem r72_15 : type_of% (@rr _ _ c72_15.eq_1) := rr rfl
def c72_16 : ACode := .seq c72_13 c72_15
theorem r72_16 : type_of% (@rr _ _ c72_16.eq_1) := rr rfl
def c72_17 : ACode := .seq c72_12 c72_16
theorem r72_17 : type_of% (@rr _ _ c72_17.eq_1) := rr rfl
def c72_18 : ACode := .seq c72_11 c72_17
theorem r72_18 : type_of% (@rr _ _ c72_18.eq_1) := rr rfl
def c72_19 : ACode := .seq c72_10 c72_18
theorem r72_19 : type_of% (@rr _ _ c72_19.eq_1) := rr rfl
def c72_20 : ACode := .seq c72_5 c72_19
theorem r72_20 : type_of% (@rr _ _ c72_20.eq_1) := rr rfl
def c72_21 : ACode := .seq c72_0 c72_20
theorem r72_21 : type_of% (@rr _ _ c72_21.eq_1) := rr rfl
def a72 : AFun := ⟨1, 32, c72_21, [.t 2]⟩
attribute [simp] r72_0 r72_1 r72_2 r72_3 r72_4 r72_5 r72_6 r72_7 r72_8 r72_9 r72_10 r72_11 r72_12 r72_13 r72_14 r72_15 r72_16 r72_17 r72_18 r72_19 r72_20 r72_21
theorem m72 : mFun Try.prog Try.f72 a72 = true := by decide +kernel
def child (n : Int) : Bool := decide (1 ≤ n) && decide (n < 31)
theorem runs_child (n : Int) (c : Bool) (h : some (child n) = some c) : Runs (tbl []) a146 [Arg.enc n] (Arg.enc c) := by
  cases h
  refine ⟨rfl, fun g => run_def ?_⟩
  unfold a146
  by_cases h1 : 1 ≤ n <;> simp -implicitDefEqProofs [child, h1]
theorem c_child : Contract Try.prog 146 (sp1 fun n => some (child n)) := contract_of_runs mixed tbl_nil Try.func146 m146 (sp1_runs runs_child)
theorem runs_Right (n : Node) (c : Bool) (h : some (rightNode n) = some c) : Runs (tbl [(75, sp2 Fits), (146, sp1 fun n => some (child n))]) a122 [Arg.enc n] (Arg.enc c) := by
  cases h
  refine ⟨rfl, fun g => run_def ?_⟩
  obtain ⟨leaf, value, feature, cut, left, right⟩ := n
  unfold a122
  cases leaf
  case false =>
    by_cases h1 : value = 0
    case neg => simp -implicitDefEqProofs [rightNode, Fits, child, h1]
    by_cases h2 : 0 ≤ feature
    case neg => simp -implicitDefEqProofs [rightNode, Fits, child, h1, h2]
    by_cases h3 : feature < 4
    case neg => simp -implicitDefEqProofs [rightNode, Fits, child, h1, h2, h3]
    cases h4 : fits cut
    case false => simp -implicitDefEqProofs [rightNode, Fits, child, h1, h2, h3, h4]
    by_cases h5 : 1 ≤ left
    case neg => simp -implicitDefEqProofs [rightNode, Fits, child, h1, h2, h3, h4, h5]
    by_cases h6 : left < 31
    case neg => simp -implicitDefEqProofs [rightNode, Fits, child, h1, h2, h3, h4, h5, h6]
    simp -implicitDefEqProofs [rightNode, Fits, child, h1, h2, h3, h4, h5, h6]
  case true =>
    by_cases h2 : feature = 0
    case neg => simp -implicitDefEqProofs [rightNode, Fits, h2]
    by_cases h3 : cut = 0
    case neg => simp -implicitDefEqProofs [rightNode, Fits, h2, h3]
    by_cases h4 : left = 0
    case neg => simp -implicitDefEqProofs [rightNode, Fits, h2, h3, h4]
    by_cases h5 : right = 0
    case neg => simp -implicitDefEqProofs [rightNode, Fits, h2, h3, h4, h5]
    cases h1 : fits value <;> simp -implicitDefEqProofs [rightNode, Fits, h1, h2, h3, h4, h5]
theorem c_Right : Contract Try.prog 122 (sp1 fun n => some (rightNode n)) :=
  contract_of_runs mixed (tbl_cons c_Fits (tbl_cons c_child tbl_nil)) Try.func122 m122 (sp1_runs runs_Right)
def field (p w : Int) : Bool := decide (0 ≤ p) && decide (p < 64) && decide (1 ≤ w) && decide (w ≤ 64 - p)
theorem runs_field (p w : Int) (c : Bool) (h : some (field p w) = some c) : Runs (tbl []) a120 [Arg.enc p, Arg.enc w] (Arg.enc c) := by
  cases h
  refine ⟨rfl, fun g => run_def ?_⟩
  unfold a120
  by_cases h1 : 0 ≤ p
  case neg => simp -implicitDefEqProofs [field, h1]
  by_cases h2 : p < 64
  case neg => simp -implicitDefEqProofs [field, h1, h2]
  by_cases h3 : 1 ≤ w
  case neg => simp -implicitDefEqProofs [field, h1, h2, h3]
  have e : IntKind.i64.wrap (64 - p) = 64 - p := wrap64 (by omega) (by omega)
  simp -implicitDefEqProofs [field, h1, h2, h3, e]
theorem c_field : Contract Try.prog 120 (sp2 fun p w => some (field p w)) := contract_of_runs mixed tbl_nil Try.func120 m120 (sp2_runs runs_field)
def ones (w : Int) : Int := if w = 1 then 1 else if w = 4 then 15 else if w = 8 then 255 else 4294967295
def Mask (w : Int) : Option Word := if w = 1 ∨ w = 4 ∨ w = 8 ∨ w = 32 then some ⟨ones w⟩ else none
theorem runs_mask (w : Int) (c : Word) (h : Mask w = some c) : Runs (tbl []) a121 [Arg.enc w] (Arg.enc c) := by
  unfold Mask at h
  split at h
  · rename_i hw
    cases h
    refine ⟨rfl, fun g => run_def ?_⟩
    unfold a121
    rcases hw with rfl | rfl | rfl | rfl <;> simp -implicitDefEqProofs [ones] <;> decide
  · cases h
theorem c_mask : Contract Try.prog 121 (sp1 Mask) := contract_of_runs mixed tbl_nil Try.func121 m121 (sp1_runs runs_mask)
def aField (p w : Int) : Prop := (p = 0 ∧ w = 32) ∨ (p = 63 ∧ w = 1) ∨ (p = 32 ∧ w = 4) ∨ (p = 40 ∧ w = 8) ∨ (p = 48 ∧ w = 8)
instance (p w : Int) : Decidable (aField p w) := by unfold aField; exact inferInstance
def get (x p w : Int) : Int := x / 2 ^ p.toNat % 2 ^ w.toNat
def Get (x : Word) (p w : Int) : Option Word := if okW x.v ∧ aField p w then some ⟨get x.v p w⟩ else none
theorem and_1 (a : Int) (h : okW a) : iand .u64 a 1 = a % 2 := by
  rw [u_and _ _ h ⟨by omega, by omega⟩]
  have e : (1 : Int).toNat = 1 := rfl
  rw [e, Nat.and_one_is_mod]
  have := h.1
  omega
theorem runs_Get (x : Word) (p w : Int) (c : Word) (h : Get x p w = some c) : Runs (tbl [(120, sp2 fun p w => some (field p w)), (121, sp1 Mask)]) a70 [Arg.enc x, Arg.enc p, Arg.enc w] (Arg.enc c) := by
  unfold Get at h
  split at h
  · rename_i hw
    cases h
    obtain ⟨v⟩ := x
    obtain ⟨hv, hf⟩ := hw
    simp only at hv
    have d (k : Int) (hk : 0 ≤ k) : v.fdiv k = v / k := Int.fdiv_eq_ediv_of_nonneg v hk
    have h1 := hv.1
    have h2 := hv.2
    have i1 := and_low v hv
    have i2 := and_15 (v / 4294967296) ⟨by omega, by omega⟩
    have i3 := and_255 (v / 1099511627776) ⟨by omega, by omega⟩
    have i4 := and_255 (v / 281474976710656) ⟨by omega, by omega⟩
    have i5 := and_1 (v / 9223372036854775808) ⟨by omega, by omega⟩
    refine ⟨rfl, fun g => run_def ?_⟩
    unfold a70
    rcases hf with ⟨rfl, rfl⟩ | ⟨rfl, rfl⟩ | ⟨rfl, rfl⟩ | ⟨rfl, rfl⟩ | ⟨rfl, rfl⟩ <;>
      simp -implicitDefEqProofs [get, field, Mask, ones, d, i1, i2, i3, i4, i5]
  · cases h
theorem c_Get : Contract Try.prog 70 (sp3 Get) :=
  contract_of_runs mixed (tbl_cons c_field (tbl_cons c_mask tbl_nil)) Try.func70 m70 (sp3_runs runs_Get)
def Signed (x : Word) (p w : Int) : Option Int := if okW x.v ∧ p = 0 ∧ w = 32 then some (wrap32 (x.v % 4294967296)) else none
theorem runs_Signed (x : Word) (p w c : Int) (h : Signed x p w = some c) : Runs (tbl [(70, sp3 Get), (119, sp2 Wrap)]) a69 [Arg.enc x, Arg.enc p, Arg.enc w] (Arg.enc c) := by
  unfold Signed at h
  split at h
  · rename_i hw
    cases h
    obtain ⟨v⟩ := x
    obtain ⟨hv, rfl, rfl⟩ := hw
    simp only at hv
    have w1 : IntKind.i64.wrap (v % 4294967296) = v % 4294967296 := wrap64 (by omega) (by omega)
    have b1 : -9223372036854775808 ≤ v % 4294967296 ∧ v % 4294967296 ≤ 9223372036854775807 := by omega
    refine ⟨rfl, fun g => run_def ?_⟩
    unfold a69
    simp -implicitDefEqProofs [Get, get, aField, hv, Wrap, w1, b1]
  · cases h
theorem c_Signed : Contract Try.prog 69 (sp3 Signed) :=
  contract_of_runs mixed (tbl_cons c_Get (tbl_cons c_Wrap tbl_nil)) Try.func69 m69 (sp3_runs runs_Signed)
def Put (x : Word) (p w : Int) (y : Word) : Option Word := if okW x.v ∧ aField p w ∧ w ≠ 1 ∧ get x.v p w = 0 then some ⟨x.v + y.v % 2 ^ w.toNat * 2 ^ p.toNat⟩ else none
theorem runs_Put (x : Word) (p w : Int) (y c : Word) (h : Put x p w y = some c) : Runs (tbl [(120, sp2 fun p w => some (field p w)), (121, sp1 Mask)]) a123 [Arg.enc x, Arg.enc p, Arg.enc w, Arg.enc y] (Arg.enc c) := by
  unfold Put at h
  split at h
  · rename_i hw
    cases h
    obtain ⟨v⟩ := x
    obtain ⟨y⟩ := y
    obtain ⟨hv, hf, hw1, hg⟩ := hw
    simp only at hv hg
    have hv1 := hv.1
    refine ⟨rfl, fun g => run_def ?_⟩
    unfold a123
    rcases hf with ⟨rfl, rfl⟩ | ⟨rfl, rfl⟩ | ⟨rfl, rfl⟩ | ⟨rfl, rfl⟩ | ⟨rfl, rfl⟩
    · simp [get] at hg
      have e := put_bits v (y % 18446744073709551616) 4294967295 0 32 hv (okW_mod _) rfl ⟨by omega, by omega⟩ (by simp; omega)
      simp only [Nat.reducePow] at e
      simp -implicitDefEqProofs [field, Mask, ones, u_conv, e]
      omega
    · exact absurd rfl hw1
    · simp [get] at hg
      have e := put_bits v (y * 4294967296 % 18446744073709551616) 64424509440 32 4 hv (okW_mod _) rfl ⟨by omega, by omega⟩ (by simp; omega)
      simp only [Nat.reducePow] at e
      simp -implicitDefEqProofs [field, Mask, ones, u_conv, e]
      omega
    · simp [get] at hg
      have e := put_bits v (y * 1099511627776 % 18446744073709551616) 280375465082880 40 8 hv (okW_mod _) rfl ⟨by omega, by omega⟩ (by simp; omega)
      simp only [Nat.reducePow] at e
      simp -implicitDefEqProofs [field, Mask, ones, u_conv, e]
      omega
    · simp [get] at hg
      have e := put_bits v (y * 281474976710656 % 18446744073709551616) 71776119061217280 48 8 hv (okW_mod _) rfl ⟨by omega, by omega⟩ (by simp; omega)
      simp only [Nat.reducePow] at e
      simp -implicitDefEqProofs [field, Mask, ones, u_conv, e]
      omega
  · cases h
theorem c_Put : Contract Try.prog 123 (sp4 Put) :=
  contract_of_runs mixed (tbl_cons c_field (tbl_cons c_mask tbl_nil)) Try.func123 m123 (sp4_runs runs_Put)
theorem runs_Pack (n : Node) (c : Word) (h : some (pack n) = some c) : Runs (tbl [(122, sp1 fun n => some (rightNode n)), (123, sp4 Put)]) a72 [Arg.enc n] (Arg.enc c) := by
  cases h
  refine ⟨rfl, fun g => run_def ?_⟩
  obtain ⟨leaf, value, feature, cut, left, right⟩ := n
  unfold a72
  cases h1 : rightNode ⟨leaf, value, feature, cut, left, right⟩
  case false => simp -implicitDefEqProofs [pack, h1]
  cases leaf
  case true =>
    have e1 : value % 18446744073709551616 % 4294967296 = value % 4294967296 := by omega
    simp -implicitDefEqProofs [pack, h1, u_conv, Put, get, aField, okW, e1]
  case false =>
    have hb := h1
    simp [rightNode] at hb
    have e1 : cut % 18446744073709551616 % 4294967296 = cut % 4294967296 := by omega
    have o1 : okW (cut % 4294967296) := ⟨by omega, by omega⟩
    have e2 : feature % 18446744073709551616 % 16 = feature := by omega
    have g1 : cut % 4294967296 / 4294967296 % 16 = 0 := by omega
    have o2 : okW (cut % 4294967296 + feature * 4294967296) := ⟨by omega, by omega⟩
    have e3 : left % 18446744073709551616 % 256 = left := by omega
    have g2 : (cut % 4294967296 + feature * 4294967296) / 1099511627776 % 256 = 0 := by omega
    have o3 : okW (cut % 4294967296 + feature * 4294967296 + left * 1099511627776) := ⟨by omega, by omega⟩
    have e4 : right % 18446744073709551616 % 256 = right := by omega
    have g3 : (cut % 4294967296 + feature * 4294967296 + left * 1099511627776) / 281474976710656 % 256 = 0 := by omega
    have o0 : okW 0 := ⟨by omega, by omega⟩
    simp -implicitDefEqProofs [pack, h1, u_conv, Put, get, aField, o0, o1, o2, o3, e1, e2, e3, e4, g1, g2, g3]
theorem c_Pack : Contract Try.prog 72 (sp1 fun n => some (pack n)) :=
  contract_of_runs mixed (tbl_cons c_Right (tbl_cons c_Put tbl_nil)) Try.func72 m72 (sp1_runs runs_Pack)
def c71_0 : ACode := .ops [⟨some 5, .mv (.c (.int .i64 0)), none, []⟩] [0, 1, 2]
theorem r71_0 : type_of% (@rr _ _ c71_0.eq_1) := rr rfl
def c71_1 : ACode := .ops [⟨some 6, .load 1 false (.t 2), none, []⟩,⟨some 7, .mv (.t 0), none, []⟩,⟨some 8, .mv (.t 1), none, []⟩,⟨some 9, .call 70 [.t 6, .t 7, .t 8], none, []⟩,⟨some 10, .conv .i64 (.t 9), none, []⟩,⟨some 5, .mv (.t 10), none, []⟩] [5]
theorem r71_1 : type_of% (@rr _ _ c71_1.eq_1) := rr rfl
def c71_2 : ACode := .seq c71_1 .ret
theorem r71_2 : type_of% (@rr _ _ c71_2.eq_1) := rr rfl
def c71_3 : ACode := .seq c71_0 c71_2
theorem r71_3 : type_of% (@rr _ _ c71_3.eq_1) := rr rfl
def a71 : AFun := ⟨3, 11, c71_3, [.t 5]⟩
attribute [simp] r71_0 r71_1 r71_2 r71_3
theorem m71 : mFun Try.prog Try.f71 a71 = true := by decide +kernel
def c20_0 : ACode := .ops [⟨some 1, .box (.t 0) 1, none, []⟩,⟨some 2, .alloc [.bool false, .int .i64 0, .int .i64 0, .int .i64 0, .int .i64 0, .int .i64 0], none, []⟩,⟨some 3, .mv (.c (.bool false)), none, []⟩] [1, 2]
theorem r20_0 : type_of% (@rr _ _ c20_0.eq_1) := rr rfl
def c20_1 : ACode := .ops [⟨some 7, .load 1 false (.t 1), none, [1]⟩,⟨some 8, .call 69 [.t 7, .c (.int .i64 0), .c (.int .i64 32)], none, []⟩,⟨some 4, .mv (.t 8), none, []⟩] [1, 2, 4]
theorem r20_1 : type_of% (@rr _ _ c20_1.eq_1) := rr rfl
def c20_2 : ACode := .ops [⟨some 9, .mv (.t 4), none, []⟩,⟨some 10, .build [.bool false, .int .i64 0, .int .i64 0, .int .i64 0, .int .i64 0, .int .i64 0] [(0, 1, .c (.bool true)), (1, 1, .t 9)], none, []⟩,⟨some 5, .alloc [.bool false, .int .i64 0, .int .i64 0, .int .i64 0, .int .i64 0, .int .i64 0], none, []⟩,⟨none, .store (.t 5) 6 (.t 10), none, [5]⟩] [1, 2, 4, 5]
theorem r20_2 : type_of% (@rr _ _ c20_2.eq_1) := rr rfl
def c20_3 : ACode := .ops [⟨some 11, .load 1 false (.t 1), none, [1]⟩,⟨some 12, .call 70 [.t 11, .c (.int .i64 63), .c (.int .i64 1)], none, []⟩,⟨some 13, .bin .eql (.t 12) (.c (.int .u64 0)), none, []⟩] [1, 2, 4, 5, 13]
theorem r20_3 : type_of% (@rr _ _ c20_3.eq_1) := rr rfl
def c20_4 : ACode := .ops [⟨some 14, .clo 71 [.t 1], none, [1]⟩,⟨some 6, .mv (.t 14), none, []⟩] [1, 2, 4, 5, 6]
theorem r20_4 : type_of% (@rr _ _ c20_4.eq_1) := rr rfl
def c20_5 : ACode := .ops [⟨some 15, .mv (.t 4), none, []⟩,⟨some 16, .mv (.t 6), none, []⟩,⟨some 17, .dyn (.t 16) [.c (.int .i64 32), .c (.int .i64 4)], none, []⟩,⟨some 18, .mv (.t 6), none, []⟩,⟨some 19, .dyn (.t 18) [.c (.int .i64 40), .c (.int .i64 8)], none, []⟩,⟨some 20, .mv (.t 6), none, []⟩,⟨some 21, .dyn (.t 20) [.c (.int .i64 48), .c (.int .i64 8)], none, []⟩,⟨some 22, .build [.bool false, .int .i64 0, .int .i64 0, .int .i64 0, .int .i64 0, .int .i64 0] [(3, 1, .t 15), (2, 1, .t 17), (4, 1, .t 19), (5, 1, .t 21)], none, []⟩,⟨none, .store (.t 5) 6 (.t 22), none, [5]⟩] [1, 2, 5]
theorem r20_5 : type_of% (@rr _ _ c20_5.eq_1) := rr rfl
def c20_6 : ACode := .seq c20_4 c20_5
theorem r20_6 : type_of% (@rr _ _ c20_6.eq_1) := rr rfl
def c20_7 : ACode := .cond (.t 13) c20_6 .skip
theorem r20_7 : type_of% (@rr _ _ c20_7.eq_1) := rr rfl
def c20_8 : ACode := .seq c20_3 c20_7
theorem r20_8 : type_of% (@rr _ _ c20_8.eq_1) := rr rfl
def c20_9 : ACode := .ops [⟨some 23, .load 1 false (.t 1), none, [1]⟩,⟨some 24, .bin .eql (.t 23) (.c (.int .u64 0)), none, []⟩,⟨some 25, .mv (.t 24), none, []⟩,⟨some 26, .load 6 true (.t 5), some (25, false), [5]⟩,⟨some 27, .call 72 [.t 26], some (25, false), []⟩,⟨some 28, .load 1 false (.t 1), some (25, false), [1]⟩,⟨some 29, .bin .neq (.t 27) (.t 28), some (25, false), []⟩,⟨some 30, .pick (.t 25) (.c (.bool true)) (.t 29), none, []⟩] [2, 5, 30]
theorem r20_9 : type_of% (@rr _ _ c20_9.eq_1) := rr rfl
def c20_10 : ACode := .ops [⟨some 31, .build [.bool false, .int .i64 0, .int .i64 0, .int .i64 0, .int .i64 0, .int .i64 0] [], none, []⟩,⟨none, .store (.t 2) 6 (.t 31), none, [2]⟩,⟨some 3, .mv (.c (.bool false)), none, []⟩] [2, 3]
theorem r20_10 : type_of% (@rr _ _ c20_10.eq_1) := rr rfl
def c20_11 : ACode := .seq c20_10 .ret
theorem r20_11 : type_of% (@rr _ _ c20_11.eq_1) := rr rfl
def c20_12 : ACode := .cond (.t 30) c20_11 .skip
theorem r20_12 : type_of% (@rr _ _ c20_12.eq_1) := rr rfl
def c20_13 : ACode := .seq c20_9 c20_12
theorem r20_13 : type_of% (@rr _ _ c20_13.eq_1) := rr rfl
def c20_14 : ACode := .ops [⟨some 32, .load 6 true (.t 5), none, [5]⟩,⟨none, .store (.t 2) 6 (.t 32), none, [2]⟩,⟨some 3, .mv (.c (.bool true)), none, []⟩] [2, 3]
theorem r20_14 : type_of% (@rr _ _ c20_14.eq_1) := rr rfl
def c20_15 : ACode := .seq c20_14 .ret
theorem r20_15 : type_of% (@rr _ _ c20_15.eq_1) := rr rfl
def c20_16 : ACode := .seq c20_13 c20_15
theorem r20_16 : type_of% (@rr _ _ c20_16.eq_1) := rr rfl
def c20_17 : ACode := .seq c20_8 c20_16
theorem r20_17 : type_of% (@rr _ _ c20_17.eq_1) := rr rfl
def c20_18 : ACode := .seq c20_2 c20_17
theorem r20_18 : type_of% (@rr _ _ c20_18.eq_1) := rr rfl
def c20_19 : ACode := .seq c20_1 c20_18
theorem r20_19 : type_of% (@rr _ _ c20_19.eq_1) := rr rfl
def c20_20 : ACode := .seq c20_0 c20_19
theorem r20_20 : type_of% (@rr _ _ c20_20.eq_1) := rr rfl
def a20 : AFun := ⟨1, 33, c20_20, [.cell 2 6 true, .t 3]⟩
attribute [simp] r20_0 r20_1 r20_2 r20_3 r20_4 r20_5 r20_6 r20_7 r20_8 r20_9 r20_10 r20_11 r20_12 r20_13 r20_14 r20_15 r20_16 r20_17 r20_18 r20_19 r20_20
theorem m20 : mFun Try.prog Try.f20 a20 = true := by decide +kernel
def Unpack1 (p w : Int) (x : Ref Word) : Option Int := if okW x.v.v ∧ aField p w ∧ w ≠ 32 then some (get x.v.v p w) else none
theorem runs_Unpack1 (p w : Int) (x : Ref Word) (c : Int) (h : Unpack1 p w x = some c) : Runs (tbl [(70, sp3 Get)]) a71 [Arg.enc p, Arg.enc w, Arg.enc x] (Arg.enc c) := by
  unfold Unpack1 at h
  split at h
  · rename_i hw
    cases h
    obtain ⟨⟨v⟩⟩ := x
    obtain ⟨hv, hf, hw⟩ := hw
    simp only at hv
    refine ⟨rfl, fun g => run_def ?_⟩
    unfold a71
    have hw2 : w = 1 ∨ w = 4 ∨ w = 8 := by rcases hf with ⟨rfl, rfl⟩ | ⟨rfl, rfl⟩ | ⟨rfl, rfl⟩ | ⟨rfl, rfl⟩ | ⟨rfl, rfl⟩ <;> omega
    have e1 : IntKind.i64.wrap (get v p w) = get v p w := by
      unfold get
      rcases hw2 with rfl | rfl | rfl <;> simp <;> refine wrap64 (by omega) (by omega)
    simp -implicitDefEqProofs [Get, hv, hf, e1]
  · cases h
theorem c_Unpack1 : Contract Try.prog 71 (sp3 Unpack1) :=
  contract_of_runs mixed (tbl_cons c_Get tbl_nil) Try.func71 m71 (sp3_runs runs_Unpack1)
theorem pack_ne (n : Node) (h : rightNode n = true) : (pack n).v ≠ 0 := by
  have hb := h
  unfold pack
  rw [if_pos h]
  obtain ⟨leaf, value, feature, cut, left, right⟩ := n
  cases leaf
  · simp [rightNode] at hb
    simp
    omega
  · simp
    omega
theorem runs_Unpack (w : Word) (c : Node × Bool) (h : Unpack w = some c) : Runs (tbl [(69, sp3 Signed), (70, sp3 Get), (71, sp3 Unpack1), (72, sp1 fun n => some (pack n))]) a20 [Arg.enc w] (Arg.enc c) := by
  unfold Unpack at h
  split at h
  · rename_i hw
    cases h
    obtain ⟨v⟩ := w
    simp only at hw
    have hv : okW v := hw
    refine ⟨rfl, fun g => run_def ?_⟩
    unfold a20
    have w1 : IntKind.i64.wrap (v / 4294967296 % 16) = v / 4294967296 % 16 := wrap64 (by omega) (by omega)
    by_cases hl : v / 9223372036854775808 = 1
    · have hl2 : ¬ v / 9223372036854775808 % 2 = 0 := by omega
      have hr : raw v = ⟨true, wrap32 (v % 4294967296), 0, 0, 0, 0⟩ := by simp [raw, hl]
      have hne : ¬ v = 0 := by omega
      by_cases h2 : (pack ⟨true, wrap32 (v % 4294967296), 0, 0, 0, 0⟩).v = v
      · have h3 : pack ⟨true, wrap32 (v % 4294967296), 0, 0, 0, 0⟩ = ⟨v⟩ := by cases hp : pack ⟨true, wrap32 (v % 4294967296), 0, 0, 0, 0⟩; rw [hp] at h2; simpa using h2
        have h1 : rightNode ⟨true, wrap32 (v % 4294967296), 0, 0, 0, 0⟩ = true := by
          cases h1 : rightNode ⟨true, wrap32 (v % 4294967296), 0, 0, 0, 0⟩
          · simp [pack, h1] at h3; omega
          · rfl
        simp -implicitDefEqProofs [Signed, Get, get, hv, aField, Unpack1, hl2, hne, h2, unpack, hr, h1, h3]
      · have h3 : ¬ pack ⟨true, wrap32 (v % 4294967296), 0, 0, 0, 0⟩ = ⟨v⟩ := fun e => h2 (by rw [e])
        simp -implicitDefEqProofs [Signed, Get, get, hv, aField, Unpack1, hl2, hne, h2, unpack, hr, h3]
    · have hl2 : v / 9223372036854775808 % 2 = 0 := by omega
      generalize hn : (⟨false, 0, v / 4294967296 % 16, wrap32 (v % 4294967296), v / 1099511627776 % 256, v / 281474976710656 % 256⟩ : Node) = n at *
      have hr : raw v = n := by rw [← hn]; simp [raw, hl]
      by_cases hne : v = 0
      · have h3 : ¬ (rightNode n = true ∧ pack n = ⟨v⟩) := fun ⟨a, b⟩ => pack_ne n a (by rw [b]; exact hne)
        rw [← hn] at hr h3
        subst hne
        clear hl2 hl
        have hv0 : okW 0 := hv
        have hr0 : raw 0 = ⟨false, 0, 0, 0, 0, 0⟩ := by rw [hr]; rfl
        have h30 : rightNode ⟨false, 0, 0, 0, 0, 0⟩ = false := rfl
        simp -implicitDefEqProofs [Signed, Get, get, hv0, aField, Unpack1, unpack, hr0, h30]
      · by_cases h2 : (pack n).v = v
        · have h3 : pack n = ⟨v⟩ := by cases hp : pack n; rw [hp] at h2; simpa using h2
          have h1 : rightNode n = true := by
            cases h1 : rightNode n
            · simp [pack, h1] at h3; omega
            · rfl
          rw [← hn] at h1 hr h2 h3
          simp -implicitDefEqProofs [Signed, Get, get, hv, aField, Unpack1, hl2, hne, h2, unpack, hr, h1, h3]
        · have h3 : ¬ pack n = ⟨v⟩ := fun e => h2 (by rw [e])
          rw [← hn] at hr h2 h3
          simp -implicitDefEqProofs [Signed, Get, get, hv, aField, Unpack1, hl2, hne, h2, unpack, hr, h3]
  · cases h
theorem c_Unpack : Contract Try.prog 20 (sp1 Unpack) :=
  contract_of_runs mixed (tbl_cons c_Signed (tbl_cons c_Get (tbl_cons c_Unpack1 (tbl_cons c_Pack tbl_nil)))) Try.func20 m20 (sp1_runs runs_Unpack)
end Go.Co
/- CO: spans and boxes. -/
set_option maxHeartbeats 16000000
set_option maxRecDepth 100000
namespace Go.Co
open Go.Am Go.Proofs
set_option linter.unusedSimpArgs false
set_option linter.unusedVariables false
def c144_0 : ACode := .ops [⟨some 0, .alloc [.int .i64 0, .int .i64 0], none, []⟩] [0]
theorem r144_0 : type_of% (@rr _ _ c144_0.eq_1) := rr rfl
def c144_1 : ACode := .ops [⟨some 1, .build [.int .i64 0, .int .i64 0] [(0, 1, .c (.int .i64 1))], none, []⟩,⟨none, .store (.t 0) 2 (.t 1), none, [0]⟩] [0]
theorem r144_1 : type_of% (@rr _ _ c144_1.eq_1) := rr rfl
def c144_2 : ACode := .seq c144_1 .ret
theorem r144_2 : type_of% (@rr _ _ c144_2.eq_1) := rr rfl
def c144_3 : ACode := .seq c144_0 c144_2
theorem r144_3 : type_of% (@rr _ _ c144_3.eq_1) := rr rfl
def a144 : AFun := ⟨0, 2, c144_3, [.cell 0 2 true]⟩
attribute [simp] r144_0 r144_1 r144_2 r144_3
theorem m144 : mFun Try.prog Try.f144 a144 = true := by decide +kernel
def c143_0 : ACode := .ops [⟨some 4, .alloc [.int .i64 0, .int .i64 0], none, []⟩] [0, 1, 4]
theorem r143_0 : type_of% (@rr _ _ c143_0.eq_1) := rr rfl
def c143_1 : ACode := .ops [⟨some 5, .mv (.t 0), none, []⟩,⟨some 6, .mv (.t 1), none, []⟩,⟨some 7, .bin .gtr (.t 5) (.t 6), none, []⟩] [0, 1, 4, 7]
theorem r143_1 : type_of% (@rr _ _ c143_1.eq_1) := rr rfl
def c143_2 : ACode := .ops [⟨some 8, .call 144 [], none, []⟩,⟨none, .store (.t 4) 2 (.t 8), none, [4]⟩] [4]
theorem r143_2 : type_of% (@rr _ _ c143_2.eq_1) := rr rfl
def c143_3 : ACode := .seq c143_2 .ret
theorem r143_3 : type_of% (@rr _ _ c143_3.eq_1) := rr rfl
def c143_4 : ACode := .cond (.t 7) c143_3 .skip
theorem r143_4 : type_of% (@rr _ _ c143_4.eq_1) := rr rfl
def c143_5 : ACode := .seq c143_1 c143_4
theorem r143_5 : type_of% (@rr _ _ c143_5.eq_1) := rr rfl
def c143_6 : ACode := .ops [⟨some 9, .mv (.t 0), none, []⟩,⟨some 10, .mv (.t 1), none, []⟩,⟨some 11, .build [.int .i64 0, .int .i64 0] [(0, 1, .t 9), (1, 1, .t 10)], none, []⟩,⟨none, .store (.t 4) 2 (.t 11), none, [4]⟩] [4]
theorem r143_6 : type_of% (@rr _ _ c143_6.eq_1) := rr rfl
def c143_7 : ACode := .seq c143_6 .ret
theorem r143_7 : type_of% (@rr _ _ c143_7.eq_1) := rr rfl
def c143_8 : ACode := .seq c143_5 c143_7
theorem r143_8 : type_of% (@rr _ _ c143_8.eq_1) := rr rfl
def c143_9 : ACode := .seq c143_0 c143_8
theorem r143_9 : type_of% (@rr _ _ c143_9.eq_1) := rr rfl
def a143 : AFun := ⟨2, 12, c143_9, [.cell 4 2 true]⟩
attribute [simp] r143_0 r143_1 r143_2 r143_3 r143_4 r143_5 r143_6 r143_7 r143_8 r143_9
theorem m143 : mFun Try.prog Try.f143 a143 = true := by decide +kernel
def c117_0 : ACode := .ops [⟨some 1, .box (.t 0) 2, none, []⟩,⟨some 2, .mv (.c (.bool false)), none, []⟩] [1]
theorem r117_0 : type_of% (@rr _ _ c117_0.eq_1) := rr rfl
def c117_1 : ACode := .ops [⟨some 3, .fad (.t 1) 0, none, [1]⟩,⟨some 4, .load 1 false (.t 3), none, [1]⟩,⟨some 5, .fad (.t 1) 1, none, [1]⟩,⟨some 6, .load 1 false (.t 5), none, [1]⟩,⟨some 7, .bin .gtr (.t 4) (.t 6), none, []⟩,⟨some 2, .mv (.t 7), none, []⟩] [2]
theorem r117_1 : type_of% (@rr _ _ c117_1.eq_1) := rr rfl
def c117_2 : ACode := .seq c117_1 .ret
theorem r117_2 : type_of% (@rr _ _ c117_2.eq_1) := rr rfl
def c117_3 : ACode := .seq c117_0 c117_2
theorem r117_3 : type_of% (@rr _ _ c117_3.eq_1) := rr rfl
def a117 : AFun := ⟨1, 8, c117_3, [.t 2]⟩
attribute [simp] r117_0 r117_1 r117_2 r117_3
theorem m117 : mFun Try.prog Try.f117 a117 = true := by decide +kernel
def c110_0 : ACode := .ops [⟨some 2, .box (.t 0) 2, none, []⟩,⟨some 4, .alloc [.int .i64 0, .int .i64 0], none, []⟩,⟨some 5, .alloc [.int .i64 0, .int .i64 0], none, []⟩] [1, 2, 4, 5]
theorem r110_0 : type_of% (@rr _ _ c110_0.eq_1) := rr rfl
def c110_1 : ACode := .ops [⟨some 7, .fad (.t 2) 0, none, [2]⟩,⟨some 8, .load 1 false (.t 7), none, [2]⟩,⟨some 9, .fad (.t 2) 1, none, [2]⟩,⟨some 10, .load 1 false (.t 9), none, [2]⟩,⟨some 11, .mv (.t 1), none, []⟩,⟨some 12, .mnmx false (.t 10) (.t 11), none, []⟩,⟨some 13, .call 143 [.t 8, .t 12], none, []⟩,⟨some 6, .alloc [.int .i64 0, .int .i64 0], none, []⟩,⟨none, .store (.t 6) 2 (.t 13), none, [6]⟩] [1, 2, 4, 5, 6]
theorem r110_1 : type_of% (@rr _ _ c110_1.eq_1) := rr rfl
def c110_2 : ACode := .ops [⟨some 14, .mv (.t 1), none, []⟩,⟨some 15, .fad (.t 2) 1, none, [2]⟩,⟨some 16, .load 1 false (.t 15), none, [2]⟩,⟨some 17, .bin .geq (.t 14) (.t 16), none, []⟩] [1, 2, 4, 5, 6, 17]
theorem r110_2 : type_of% (@rr _ _ c110_2.eq_1) := rr rfl
def c110_3 : ACode := .ops [⟨some 18, .load 2 true (.t 6), none, [6]⟩,⟨some 19, .call 144 [], none, []⟩,⟨none, .store (.t 4) 2 (.t 18), none, [4]⟩,⟨none, .store (.t 5) 2 (.t 19), none, [5]⟩] [4, 5]
theorem r110_3 : type_of% (@rr _ _ c110_3.eq_1) := rr rfl
def c110_4 : ACode := .seq c110_3 .ret
theorem r110_4 : type_of% (@rr _ _ c110_4.eq_1) := rr rfl
def c110_5 : ACode := .cond (.t 17) c110_4 .skip
theorem r110_5 : type_of% (@rr _ _ c110_5.eq_1) := rr rfl
def c110_6 : ACode := .seq c110_2 c110_5
theorem r110_6 : type_of% (@rr _ _ c110_6.eq_1) := rr rfl
def c110_7 : ACode := .ops [⟨some 20, .load 2 true (.t 6), none, [6]⟩,⟨some 21, .fad (.t 2) 0, none, [2]⟩,⟨some 22, .load 1 false (.t 21), none, [2]⟩,⟨some 23, .mv (.t 1), none, []⟩,⟨some 24, .bin .add (.t 23) (.c (.int .i64 1)), none, []⟩,⟨some 25, .mnmx true (.t 22) (.t 24), none, []⟩,⟨some 26, .fad (.t 2) 1, none, [2]⟩,⟨some 27, .load 1 false (.t 26), none, [2]⟩,⟨some 28, .call 143 [.t 25, .t 27], none, []⟩,⟨none, .store (.t 4) 2 (.t 20), none, [4]⟩,⟨none, .store (.t 5) 2 (.t 28), none, [5]⟩] [4, 5]
theorem r110_7 : type_of% (@rr _ _ c110_7.eq_1) := rr rfl
def c110_8 : ACode := .seq c110_7 .ret
theorem r110_8 : type_of% (@rr _ _ c110_8.eq_1) := rr rfl
def c110_9 : ACode := .seq c110_6 c110_8
theorem r110_9 : type_of% (@rr _ _ c110_9.eq_1) := rr rfl
def c110_10 : ACode := .seq c110_1 c110_9
theorem r110_10 : type_of% (@rr _ _ c110_10.eq_1) := rr rfl
def c110_11 : ACode := .seq c110_0 c110_10
theorem r110_11 : type_of% (@rr _ _ c110_11.eq_1) := rr rfl
def a110 : AFun := ⟨2, 29, c110_11, [.cell 4 2 true, .cell 5 2 true]⟩
attribute [simp] r110_0 r110_1 r110_2 r110_3 r110_4 r110_5 r110_6 r110_7 r110_8 r110_9 r110_10 r110_11
theorem m110 : mFun Try.prog Try.f110 a110 = true := by decide +kernel
def c66_0 : ACode := .ops [⟨some 1, .box (.t 0) 10, none, []⟩,⟨some 2, .mv (.c (.bool false)), none, []⟩] [1]
theorem r66_0 : type_of% (@rr _ _ c66_0.eq_1) := rr rfl
def c66_1 : ACode := .ops [⟨some 5, .load 10 true (.t 1), none, [1]⟩,⟨some 6, .mv (.c (.int .i64 0)), none, []⟩] [5, 6]
theorem r66_1 : type_of% (@rr _ _ c66_1.eq_1) := rr rfl
def c66_2 : ACode := .ops [⟨some 7, .bin .lss (.t 6) (.c (.int .i64 5)), none, []⟩] [5, 6, 7]
theorem r66_2 : type_of% (@rr _ _ c66_2.eq_1) := rr rfl
def c66_3 : ACode := .cond (.t 7) .skip (.exit 0)
theorem r66_3 : type_of% (@rr _ _ c66_3.eq_1) := rr rfl
def c66_4 : ACode := .ops [⟨some 8, .idx (.t 5) (.t 6) 2 5 true, none, []⟩,⟨some 4, .alloc [.int .i64 0, .int .i64 0], none, []⟩,⟨none, .store (.t 4) 2 (.t 8), none, [4]⟩] [4, 5, 6]
theorem r66_4 : type_of% (@rr _ _ c66_4.eq_1) := rr rfl
def c66_5 : ACode := .ops [⟨some 9, .load 2 true (.t 4), none, [4]⟩,⟨some 10, .call 117 [.t 9], none, []⟩] [5, 6, 10]
theorem r66_5 : type_of% (@rr _ _ c66_5.eq_1) := rr rfl
def c66_6 : ACode := .ops [⟨some 2, .mv (.c (.bool true)), none, []⟩] [2]
theorem r66_6 : type_of% (@rr _ _ c66_6.eq_1) := rr rfl
def c66_7 : ACode := .seq c66_6 .ret
theorem r66_7 : type_of% (@rr _ _ c66_7.eq_1) := rr rfl
def c66_8 : ACode := .cond (.t 10) c66_7 .skip
theorem r66_8 : type_of% (@rr _ _ c66_8.eq_1) := rr rfl
def c66_9 : ACode := .seq c66_5 c66_8
theorem r66_9 : type_of% (@rr _ _ c66_9.eq_1) := rr rfl
def c66_10 : ACode := .seq c66_4 c66_9
theorem r66_10 : type_of% (@rr _ _ c66_10.eq_1) := rr rfl
def c66_11 : ACode := .block 1 c66_10
theorem r66_11 : type_of% (@rr _ _ c66_11.eq_1) := rr rfl
def c66_12 : ACode := .ops [⟨some 11, .bin .add (.t 6) (.c (.int .i64 1)), none, []⟩,⟨some 6, .mv (.t 11), none, []⟩] [5, 6]
theorem r66_12 : type_of% (@rr _ _ c66_12.eq_1) := rr rfl
def c66_13 : ACode := .seq c66_11 c66_12
theorem r66_13 : type_of% (@rr _ _ c66_13.eq_1) := rr rfl
def c66_14 : ACode := .seq c66_3 c66_13
theorem r66_14 : type_of% (@rr _ _ c66_14.eq_1) := rr rfl
def c66_15 : ACode := .seq c66_2 c66_14
theorem r66_15 : type_of% (@rr _ _ c66_15.eq_1) := rr rfl
def c66_16 : ACode := .keep [5, 6] [] c66_15
theorem r66_16 : type_of% (@rr _ _ c66_16.eq_1) := rr rfl
def c66_17 : ACode := .loop c66_16
theorem r66_17 : type_of% (@rr _ _ c66_17.eq_1) := rr rfl
def c66_18 : ACode := .block 0 c66_17
theorem r66_18 : type_of% (@rr _ _ c66_18.eq_1) := rr rfl
def c66_19 : ACode := .seq c66_1 c66_18
theorem r66_19 : type_of% (@rr _ _ c66_19.eq_1) := rr rfl
def c66_20 : ACode := .ops [⟨some 2, .mv (.c (.bool false)), none, []⟩] [2]
theorem r66_20 : type_of% (@rr _ _ c66_20.eq_1) := rr rfl
def c66_21 : ACode := .seq c66_20 .ret
theorem r66_21 : type_of% (@rr _ _ c66_21.eq_1) := rr rfl
def c66_22 : ACode := .seq c66_19 c66_21
theorem r66_22 : type_of% (@rr _ _ c66_22.eq_1) := rr rfl
def c66_23 : ACode := .seq c66_0 c66_22
theorem r66_23 : type_of% (@rr _ _ c66_23.eq_1) := rr rfl
def a66 : AFun := ⟨1, 12, c66_23, [.t 2]⟩
attribute [simp] r66_0 r66_1 r66_2 r66_3 r66_4 r66_5 r66_6 r66_7 r66_8 r66_9 r66_10 r66_11 r66_12 r66_13 r66_14 r66_15 r66_16 r66_17 r66_18 r66_19 r66_20 r66_21 r66_22 r66_23
theorem m66 : mFun Try.prog Try.f66 a66 = true := by decide +kernel
def c58_0 : ACode := .ops [⟨some 3, .box (.t 0) 10, none, []⟩,⟨some 6, .alloc [.int .i64 0, .int .i64 0, .int .i64 0, .int .i64 0, .int .i64 0, .int .i64 0, .int .i64 0, .int .i64 0, .int .i64 0, .int .i64 0], none, []⟩,⟨some 7, .alloc [.int .i64 0, .int .i64 0, .int .i64 0, .int .i64 0, .int .i64 0, .int .i64 0, .int .i64 0, .int .i64 0, .int .i64 0, .int .i64 0], none, []⟩] [1, 2, 3, 6, 7]
theorem r58_0 : type_of% (@rr _ _ c58_0.eq_1) := rr rfl
def c58_1 : ACode := .ops [⟨some 10, .load 10 true (.t 3), none, [3]⟩,⟨some 11, .load 10 true (.t 3), none, [3]⟩,⟨some 8, .alloc [.int .i64 0, .int .i64 0, .int .i64 0, .int .i64 0, .int .i64 0, .int .i64 0, .int .i64 0, .int .i64 0, .int .i64 0, .int .i64 0], none, []⟩,⟨some 9, .alloc [.int .i64 0, .int .i64 0, .int .i64 0, .int .i64 0, .int .i64 0, .int .i64 0, .int .i64 0, .int .i64 0, .int .i64 0, .int .i64 0], none, []⟩,⟨none, .store (.t 8) 10 (.t 10), none, [8]⟩,⟨none, .store (.t 9) 10 (.t 11), none, [9]⟩] [1, 2, 3, 6, 7, 8, 9]
theorem r58_1 : type_of% (@rr _ _ c58_1.eq_1) := rr rfl
def c58_2 : ACode := .ops [⟨some 12, .mv (.t 1), none, []⟩,⟨some 13, .bin .geq (.t 12) (.c (.int .i64 0)), none, []⟩,⟨some 14, .mv (.t 13), none, []⟩,⟨some 15, .mv (.t 1), some (14, true), []⟩,⟨some 16, .bin .lss (.t 15) (.c (.int .i64 5)), some (14, true), []⟩,⟨some 17, .pick (.t 14) (.t 16) (.c (.bool false)), none, []⟩] [1, 2, 3, 6, 7, 8, 9, 17]
theorem r58_2 : type_of% (@rr _ _ c58_2.eq_1) := rr rfl
def c58_3 : ACode := .ops [⟨some 19, .mv (.t 1), none, []⟩,⟨some 20, .mv (.t 1), none, []⟩,⟨some 21, .mv (.t 1), none, []⟩,⟨some 22, .iad (.t 3) (.t 21) 2 5, none, [3]⟩,⟨some 23, .load 2 true (.t 22), none, [3]⟩,⟨some 24, .mv (.t 2), none, []⟩,⟨some 25, .call 110 [.t 23, .t 24], none, []⟩,⟨some 18, .mv (.t 25), none, []⟩,⟨some 26, .ext (.t 18) 0, none, []⟩,⟨some 27, .ext (.t 18) 1, none, []⟩,⟨some 28, .iad (.t 8) (.t 19) 2 5, none, [8]⟩,⟨none, .store (.t 28) 2 (.t 26), none, [8]⟩,⟨some 29, .iad (.t 9) (.t 20) 2 5, none, [9]⟩,⟨none, .store (.t 29) 2 (.t 27), none, [9]⟩] [6, 7, 8, 9]
theorem r58_3 : type_of% (@rr _ _ c58_3.eq_1) := rr rfl
def c58_4 : ACode := .cond (.t 17) c58_3 .skip
theorem r58_4 : type_of% (@rr _ _ c58_4.eq_1) := rr rfl
def c58_5 : ACode := .seq c58_2 c58_4
theorem r58_5 : type_of% (@rr _ _ c58_5.eq_1) := rr rfl
def c58_6 : ACode := .ops [⟨some 30, .load 10 true (.t 8), none, [8]⟩,⟨some 31, .load 10 true (.t 9), none, [9]⟩,⟨none, .store (.t 6) 10 (.t 30), none, [6]⟩,⟨none, .store (.t 7) 10 (.t 31), none, [7]⟩] [6, 7]
theorem r58_6 : type_of% (@rr _ _ c58_6.eq_1) := rr rfl
def c58_7 : ACode := .seq c58_6 .ret
theorem r58_7 : type_of% (@rr _ _ c58_7.eq_1) := rr rfl
def c58_8 : ACode := .seq c58_5 c58_7
theorem r58_8 : type_of% (@rr _ _ c58_8.eq_1) := rr rfl
def c58_9 : ACode := .seq c58_1 c58_8
theorem r58_9 : type_of% (@rr _ _ c58_9.eq_1) := rr rfl
def c58_10 : ACode := .seq c58_0 c58_9
theorem r58_10 : type_of% (@rr _ _ c58_10.eq_1) := rr rfl
def a58 : AFun := ⟨3, 32, c58_10, [.cell 6 10 true, .cell 7 10 true]⟩
attribute [simp] r58_0 r58_1 r58_2 r58_3 r58_4 r58_5 r58_6 r58_7 r58_8 r58_9 r58_10
theorem m58 : mFun Try.prog Try.f58 a58 = true := by decide +kernel
theorem runs_none (c : Span) (h : some noneS = some c) : Runs (tbl []) a144 [] (Arg.enc c) := by
  cases h
  refine ⟨rfl, fun g => run_def ?_⟩
  unfold a144
  simp -implicitDefEqProofs [noneS]
theorem c_none : Contract Try.prog 144 (sp0 (some noneS)) := contract_of_runs mixed tbl_nil Try.func144 m144 (sp0_runs runs_none)
theorem runs_of (lo hi : Int) (c : Span) (h : some (ofS lo hi) = some c) : Runs (tbl [(144, sp0 (some noneS))]) a143 [Arg.enc lo, Arg.enc hi] (Arg.enc c) := by
  cases h
  refine ⟨rfl, fun g => run_def ?_⟩
  unfold a143
  by_cases h1 : hi < lo <;> simp -implicitDefEqProofs [ofS, noneS, h1]
theorem c_of : Contract Try.prog 143 (sp2 fun lo hi => some (ofS lo hi)) :=
  contract_of_runs mixed (tbl_cons c_none tbl_nil) Try.func143 m143 (sp2_runs runs_of)
theorem runs_sEmpty (s : Span) (c : Bool) (h : some s.empty = some c) : Runs (tbl []) a117 [Arg.enc s] (Arg.enc c) := by
  cases h
  refine ⟨rfl, fun g => run_def ?_⟩
  unfold a117
  simp -implicitDefEqProofs [Span.empty]
theorem c_sEmpty : Contract Try.prog 117 (sp1 fun (s : Span) => some s.empty) := contract_of_runs mixed tbl_nil Try.func117 m117 (sp1_runs runs_sEmpty)
def CutS (s : Span) (n : Int) : Option (Span × Span) := if ok64 n ∧ ok64 s.hi then some (cutS s n) else none
theorem runs_sCut (s : Span) (n : Int) (c : Span × Span) (h : CutS s n = some c) : Runs (tbl [(143, sp2 fun lo hi => some (ofS lo hi)), (144, sp0 (some noneS))]) a110 [Arg.enc s, Arg.enc n] (Arg.enc c) := by
  unfold CutS at h
  split at h
  · rename_i hb
    cases h
    obtain ⟨⟨b1, b2⟩, b3, b4⟩ := hb
    refine ⟨rfl, fun g => run_def ?_⟩
    unfold a110
    by_cases h1 : s.hi ≤ n
    · by_cases h2 : n < s.hi
      · omega
      · simp -implicitDefEqProofs [cutS, noneS, h1, h2]
    · have e : IntKind.i64.wrap (n + 1) = n + 1 := wrap64 (by omega) (by omega)
      have h2 : n < s.hi := by omega
      simp -implicitDefEqProofs [cutS, h1, h2, e]
  · cases h
theorem c_sCut : Contract Try.prog 110 (sp2 CutS) :=
  contract_of_runs mixed (tbl_cons c_of (tbl_cons c_none tbl_nil)) Try.func110 m110 (sp2_runs runs_sCut)
theorem runs_bEmpty (b : Box) (c : Bool) (h : some b.empty = some c) : Runs (tbl [(117, sp1 fun (s : Span) => some s.empty)]) a66 [Arg.enc b] (Arg.enc c) := by
  cases h
  refine ⟨rfl, fun g => run_def ?_⟩
  unfold a66
  cases h0 : b.s0.empty
  case true => simp -implicitDefEqProofs [Box.empty, run_round, h0]
  cases h1 : b.s1.empty
  case true => simp -implicitDefEqProofs [Box.empty, run_round, h0, h1]
  cases h2 : b.s2.empty
  case true => simp -implicitDefEqProofs [Box.empty, run_round, h0, h1, h2]
  cases h3 : b.s3.empty
  case true => simp -implicitDefEqProofs [Box.empty, run_round, h0, h1, h2, h3]
  cases h4 : b.s4.empty <;> simp -implicitDefEqProofs [Box.empty, run_round, h0, h1, h2, h3, h4]
theorem c_bEmpty : Contract Try.prog 66 (sp1 fun (b : Box) => some b.empty) :=
  contract_of_runs mixed (tbl_cons c_sEmpty tbl_nil) Try.func66 m66 (sp1_runs runs_bEmpty)
def CutB (b : Box) (p n : Int) : Option (Box × Box) := if ok64 n ∧ ok64 (b.get p).hi then some (cutB b p n) else none
theorem runs_bCut (b : Box) (p n : Int) (c : Box × Box) (h : CutB b p n = some c) : Runs (tbl [(110, sp2 CutS)]) a58 [Arg.enc b, Arg.enc p, Arg.enc n] (Arg.enc c) := by
  unfold CutB at h
  split at h
  · rename_i hb
    cases h
    obtain ⟨b1, b2⟩ := hb
    refine ⟨rfl, fun g => run_def ?_⟩
    unfold a58
    by_cases h1 : 0 ≤ p
    case neg => simp -implicitDefEqProofs [cutB, h1]
    by_cases h2 : p < 5
    case neg => simp -implicitDefEqProofs [cutB, h1, h2]
    have hp : p = 0 ∨ p = 1 ∨ p = 2 ∨ p = 3 ∨ p = 4 := by omega
    rcases hp with rfl | rfl | rfl | rfl | rfl <;> simp [Box.get] at b2 <;> simp -implicitDefEqProofs [cutB, Box.get, Box.set, CutS, b1, b2]
  · cases h
theorem c_bCut : Contract Try.prog 58 (sp3 CutB) :=
  contract_of_runs mixed (tbl_cons c_sCut tbl_nil) Try.func58 m58 (sp3_runs runs_bCut)
def c87_0 : ACode := .ops [⟨some 1, .box (.t 0) 10, none, []⟩,⟨some 2, .mv (.c (.bool false)), none, []⟩] [1]
theorem r87_0 : type_of% (@rr _ _ c87_0.eq_1) := rr rfl
def c87_1 : ACode := .ops [⟨some 5, .load 10 true (.t 1), none, [1]⟩,⟨some 6, .mv (.c (.int .i64 0)), none, []⟩] [5, 6]
theorem r87_1 : type_of% (@rr _ _ c87_1.eq_1) := rr rfl
def c87_2 : ACode := .ops [⟨some 7, .bin .lss (.t 6) (.c (.int .i64 5)), none, []⟩] [5, 6, 7]
theorem r87_2 : type_of% (@rr _ _ c87_2.eq_1) := rr rfl
def c87_3 : ACode := .cond (.t 7) .skip (.exit 0)
theorem r87_3 : type_of% (@rr _ _ c87_3.eq_1) := rr rfl
def c87_4 : ACode := .ops [⟨some 8, .idx (.t 5) (.t 6) 2 5 true, none, []⟩,⟨some 4, .alloc [.int .i64 0, .int .i64 0], none, []⟩,⟨none, .store (.t 4) 2 (.t 8), none, [4]⟩] [4, 5, 6]
theorem r87_4 : type_of% (@rr _ _ c87_4.eq_1) := rr rfl
def c87_5 : ACode := .ops [⟨some 9, .fad (.t 4) 0, none, [4]⟩,⟨some 10, .load 1 false (.t 9), none, [4]⟩,⟨some 11, .fad (.t 4) 1, none, [4]⟩,⟨some 12, .load 1 false (.t 11), none, [4]⟩,⟨some 13, .bin .gtr (.t 10) (.t 12), none, []⟩] [5, 6, 13]
theorem r87_5 : type_of% (@rr _ _ c87_5.eq_1) := rr rfl
def c87_6 : ACode := .ops [⟨some 2, .mv (.c (.bool true)), none, []⟩] [2]
theorem r87_6 : type_of% (@rr _ _ c87_6.eq_1) := rr rfl
def c87_7 : ACode := .seq c87_6 .ret
theorem r87_7 : type_of% (@rr _ _ c87_7.eq_1) := rr rfl
def c87_8 : ACode := .cond (.t 13) c87_7 .skip
theorem r87_8 : type_of% (@rr _ _ c87_8.eq_1) := rr rfl
def c87_9 : ACode := .seq c87_5 c87_8
theorem r87_9 : type_of% (@rr _ _ c87_9.eq_1) := rr rfl
def c87_10 : ACode := .seq c87_4 c87_9
theorem r87_10 : type_of% (@rr _ _ c87_10.eq_1) := rr rfl
def c87_11 : ACode := .block 1 c87_10
theorem r87_11 : type_of% (@rr _ _ c87_11.eq_1) := rr rfl
def c87_12 : ACode := .ops [⟨some 14, .bin .add (.t 6) (.c (.int .i64 1)), none, []⟩,⟨some 6, .mv (.t 14), none, []⟩] [5, 6]
theorem r87_12 : type_of% (@rr _ _ c87_12.eq_1) := rr rfl
def c87_13 : ACode := .seq c87_11 c87_12
theorem r87_13 : type_of% (@rr _ _ c87_13.eq_1) := rr rfl
def c87_14 : ACode := .seq c87_3 c87_13
theorem r87_14 : type_of% (@rr _ _ c87_14.eq_1) := rr rfl
def c87_15 : ACode := .seq c87_2 c87_14
theorem r87_15 : type_of% (@rr _ _ c87_15.eq_1) := rr rfl
def c87_16 : ACode := .keep [5, 6] [] c87_15
theorem r87_16 : type_of% (@rr _ _ c87_16.eq_1) := rr rfl
def c87_17 : ACode := .loop c87_16
theorem r87_17 : type_of% (@rr _ _ c87_17.eq_1) := rr rfl
def c87_18 : ACode := .block 0 c87_17
theorem r87_18 : type_of% (@rr _ _ c87_18.eq_1) := rr rfl
def c87_19 : ACode := .seq c87_1 c87_18
theorem r87_19 : type_of% (@rr _ _ c87_19.eq_1) := rr rfl
def c87_20 : ACode := .ops [⟨some 2, .mv (.c (.bool false)), none, []⟩] [2]
theorem r87_20 : type_of% (@rr _ _ c87_20.eq_1) := rr rfl
def c87_21 : ACode := .seq c87_20 .ret
theorem r87_21 : type_of% (@rr _ _ c87_21.eq_1) := rr rfl
def c87_22 : ACode := .seq c87_19 c87_21
theorem r87_22 : type_of% (@rr _ _ c87_22.eq_1) := rr rfl
def c87_23 : ACode := .seq c87_0 c87_22
theorem r87_23 : type_of% (@rr _ _ c87_23.eq_1) := rr rfl
def a87 : AFun := ⟨1, 15, c87_23, [.t 2]⟩
attribute [simp] r87_0 r87_1 r87_2 r87_3 r87_4 r87_5 r87_6 r87_7 r87_8 r87_9 r87_10 r87_11 r87_12 r87_13 r87_14 r87_15 r87_16 r87_17 r87_18 r87_19 r87_20 r87_21 r87_22 r87_23
theorem m87 : mFun Try.prog Try.f87 a87 = true := by decide +kernel
def c128_0 : ACode := .ops [⟨some 2, .box (.t 0) 2, none, []⟩,⟨some 3, .box (.t 1) 2, none, []⟩,⟨some 4, .alloc [.int .i64 0, .int .i64 0], none, []⟩] [2, 3, 4]
theorem r128_0 : type_of% (@rr _ _ c128_0.eq_1) := rr rfl
def c128_1 : ACode := .ops [⟨some 6, .fad (.t 2) 0, none, [2]⟩,⟨some 7, .load 1 false (.t 6), none, [2]⟩,⟨some 8, .fad (.t 3) 0, none, [3]⟩,⟨some 9, .load 1 false (.t 8), none, [3]⟩,⟨some 10, .mnmx true (.t 7) (.t 9), none, []⟩,⟨some 11, .fad (.t 2) 1, none, [2]⟩,⟨some 12, .load 1 false (.t 11), none, [2]⟩,⟨some 13, .fad (.t 3) 1, none, [3]⟩,⟨some 14, .load 1 false (.t 13), none, [3]⟩,⟨some 15, .mnmx false (.t 12) (.t 14), none, []⟩,⟨some 16, .build [.int .i64 0, .int .i64 0] [(0, 1, .t 10), (1, 1, .t 15)], none, []⟩,⟨some 5, .alloc [.int .i64 0, .int .i64 0], none, []⟩,⟨none, .store (.t 5) 2 (.t 16), none, [5]⟩] [4, 5]
theorem r128_1 : type_of% (@rr _ _ c128_1.eq_1) := rr rfl
def c128_2 : ACode := .ops [⟨some 17, .fad (.t 5) 0, none, [5]⟩,⟨some 18, .load 1 false (.t 17), none, [5]⟩,⟨some 19, .fad (.t 5) 1, none, [5]⟩,⟨some 20, .load 1 false (.t 19), none, [5]⟩,⟨some 21, .bin .gtr (.t 18) (.t 20), none, []⟩] [4, 5, 21]
theorem r128_2 : type_of% (@rr _ _ c128_2.eq_1) := rr rfl
def c128_3 : ACode := .ops [⟨some 22, .build [.int .i64 0, .int .i64 0] [(0, 1, .c (.int .i64 1))], none, []⟩,⟨none, .store (.t 4) 2 (.t 22), none, [4]⟩] [4]
theorem r128_3 : type_of% (@rr _ _ c128_3.eq_1) := rr rfl
def c128_4 : ACode := .seq c128_3 .ret
theorem r128_4 : type_of% (@rr _ _ c128_4.eq_1) := rr rfl
def c128_5 : ACode := .cond (.t 21) c128_4 .skip
theorem r128_5 : type_of% (@rr _ _ c128_5.eq_1) := rr rfl
def c128_6 : ACode := .seq c128_2 c128_5
theorem r128_6 : type_of% (@rr _ _ c128_6.eq_1) := rr rfl
def c128_7 : ACode := .ops [⟨some 23, .load 2 true (.t 5), none, [5]⟩,⟨none, .store (.t 4) 2 (.t 23), none, [4]⟩] [4]
theorem r128_7 : type_of% (@rr _ _ c128_7.eq_1) := rr rfl
def c128_8 : ACode := .seq c128_7 .ret
theorem r128_8 : type_of% (@rr _ _ c128_8.eq_1) := rr rfl
def c128_9 : ACode := .seq c128_6 c128_8
theorem r128_9 : type_of% (@rr _ _ c128_9.eq_1) := rr rfl
def c128_10 : ACode := .seq c128_1 c128_9
theorem r128_10 : type_of% (@rr _ _ c128_10.eq_1) := rr rfl
def c128_11 : ACode := .seq c128_0 c128_10
theorem r128_11 : type_of% (@rr _ _ c128_11.eq_1) := rr rfl
def a128 : AFun := ⟨2, 24, c128_11, [.cell 4 2 true]⟩
attribute [simp] r128_0 r128_1 r128_2 r128_3 r128_4 r128_5 r128_6 r128_7 r128_8 r128_9 r128_10 r128_11
theorem m128 : mFun Try.prog Try.f128 a128 = true := by decide +kernel
def c83_0 : ACode := .ops [⟨some 3, .box (.t 0) 10, none, []⟩,⟨some 6, .alloc [.int .i64 0, .int .i64 0, .int .i64 0, .int .i64 0, .int .i64 0, .int .i64 0, .int .i64 0, .int .i64 0, .int .i64 0, .int .i64 0], none, []⟩,⟨some 7, .alloc [.int .i64 0, .int .i64 0, .int .i64 0, .int .i64 0, .int .i64 0, .int .i64 0, .int .i64 0, .int .i64 0, .int .i64 0, .int .i64 0], none, []⟩] [1, 2, 3, 6, 7]
theorem r83_0 : type_of% (@rr _ _ c83_0.eq_1) := rr rfl
def c83_1 : ACode := .ops [⟨some 11, .load 10 true (.t 3), none, [3]⟩,⟨some 12, .load 10 true (.t 3), none, [3]⟩,⟨some 8, .alloc [.int .i64 0, .int .i64 0, .int .i64 0, .int .i64 0, .int .i64 0, .int .i64 0, .int .i64 0, .int .i64 0, .int .i64 0, .int .i64 0], none, []⟩,⟨some 9, .alloc [.int .i64 0, .int .i64 0, .int .i64 0, .int .i64 0, .int .i64 0, .int .i64 0, .int .i64 0, .int .i64 0, .int .i64 0, .int .i64 0], none, []⟩,⟨none, .store (.t 8) 10 (.t 11), none, [8]⟩,⟨none, .store (.t 9) 10 (.t 12), none, [9]⟩] [1, 2, 3, 6, 7, 8, 9]
theorem r83_1 : type_of% (@rr _ _ c83_1.eq_1) := rr rfl
def c83_2 : ACode := .ops [⟨some 13, .mv (.t 1), none, []⟩,⟨some 14, .iad (.t 3) (.t 13) 2 5, none, [3]⟩,⟨some 15, .load 2 true (.t 14), none, [3]⟩,⟨some 10, .alloc [.int .i64 0, .int .i64 0], none, []⟩,⟨none, .store (.t 10) 2 (.t 15), none, [10]⟩] [1, 2, 6, 7, 8, 9, 10]
theorem r83_2 : type_of% (@rr _ _ c83_2.eq_1) := rr rfl
def c83_3 : ACode := .ops [⟨some 16, .mv (.t 1), none, []⟩,⟨some 17, .mv (.t 1), none, []⟩,⟨some 18, .load 2 true (.t 10), none, [10]⟩,⟨some 19, .fad (.t 10) 0, none, [10]⟩,⟨some 20, .load 1 false (.t 19), none, [10]⟩,⟨some 21, .mv (.t 2), none, []⟩,⟨some 22, .build [.int .i64 0, .int .i64 0] [(0, 1, .t 20), (1, 1, .t 21)], none, []⟩,⟨some 23, .call 128 [.t 18, .t 22], none, []⟩,⟨some 24, .load 2 true (.t 10), none, [10]⟩,⟨some 25, .mv (.t 2), none, []⟩,⟨some 26, .bin .add (.t 25) (.c (.int .i64 1)), none, []⟩,⟨some 27, .fad (.t 10) 1, none, [10]⟩,⟨some 28, .load 1 false (.t 27), none, [10]⟩,⟨some 29, .build [.int .i64 0, .int .i64 0] [(0, 1, .t 26), (1, 1, .t 28)], none, []⟩,⟨some 30, .call 128 [.t 24, .t 29], none, []⟩,⟨some 31, .iad (.t 8) (.t 16) 2 5, none, [8]⟩,⟨none, .store (.t 31) 2 (.t 23), none, [8]⟩,⟨some 32, .iad (.t 9) (.t 17) 2 5, none, [9]⟩,⟨none, .store (.t 32) 2 (.t 30), none, [9]⟩] [6, 7, 8, 9]
theorem r83_3 : type_of% (@rr _ _ c83_3.eq_1) := rr rfl
def c83_4 : ACode := .ops [⟨some 33, .load 10 true (.t 8), none, [8]⟩,⟨some 34, .load 10 true (.t 9), none, [9]⟩,⟨none, .store (.t 6) 10 (.t 33), none, [6]⟩,⟨none, .store (.t 7) 10 (.t 34), none, [7]⟩] [6, 7]
theorem r83_4 : type_of% (@rr _ _ c83_4.eq_1) := rr rfl
def c83_5 : ACode := .seq c83_4 .ret
theorem r83_5 : type_of% (@rr _ _ c83_5.eq_1) := rr rfl
def c83_6 : ACode := .seq c83_3 c83_5
theorem r83_6 : type_of% (@rr _ _ c83_6.eq_1) := rr rfl
def c83_7 : ACode := .seq c83_2 c83_6
theorem r83_7 : type_of% (@rr _ _ c83_7.eq_1) := rr rfl
def c83_8 : ACode := .seq c83_1 c83_7
theorem r83_8 : type_of% (@rr _ _ c83_8.eq_1) := rr rfl
def c83_9 : ACode := .seq c83_0 c83_8
theorem r83_9 : type_of% (@rr _ _ c83_9.eq_1) := rr rfl
def a83 : AFun := ⟨3, 35, c83_9, [.cell 6 10 true, .cell 7 10 true]⟩
attribute [simp] r83_0 r83_1 r83_2 r83_3 r83_4 r83_5 r83_6 r83_7 r83_8 r83_9
theorem m83 : mFun Try.prog Try.f83 a83 = true := by decide +kernel
theorem runs_rEmpty (b : Box) (c : Bool) (h : some b.empty = some c) : Runs (tbl []) a87 [Arg.enc b] (Arg.enc c) := by
  cases h
  refine ⟨rfl, fun g => run_def ?_⟩
  unfold a87
  by_cases h0 : b.s0.hi < b.s0.lo
  case pos => simp -implicitDefEqProofs [Box.empty, Span.empty, run_round, h0]
  by_cases h1 : b.s1.hi < b.s1.lo
  case pos => simp -implicitDefEqProofs [Box.empty, Span.empty, run_round, h0, h1]
  by_cases h2 : b.s2.hi < b.s2.lo
  case pos => simp -implicitDefEqProofs [Box.empty, Span.empty, run_round, h0, h1, h2]
  by_cases h3 : b.s3.hi < b.s3.lo
  case pos => simp -implicitDefEqProofs [Box.empty, Span.empty, run_round, h0, h1, h2, h3]
  by_cases h4 : b.s4.hi < b.s4.lo <;> simp -implicitDefEqProofs [Box.empty, Span.empty, run_round, h0, h1, h2, h3, h4]
theorem c_rEmpty : Contract Try.prog 87 (sp1 fun (b : Box) => some b.empty) :=
  contract_of_runs mixed tbl_nil Try.func87 m87 (sp1_runs runs_rEmpty)
theorem runs_rMeet (a b c : Span) (h : some (meetS a b) = some c) : Runs (tbl []) a128 [Arg.enc a, Arg.enc b] (Arg.enc c) := by
  cases h
  refine ⟨rfl, fun g => run_def ?_⟩
  unfold a128
  simp -implicitDefEqProofs [meetS, ofS, noneS, min2, max2]
  generalize (if b.hi < a.hi then b.hi else a.hi) = x
  generalize (if a.lo < b.lo then b.lo else a.lo) = y
  by_cases h1 : x < y
  · simp [h1]
    omega
  · simp [h1]
theorem c_rMeet : Contract Try.prog 128 (sp2 fun (a b : Span) => some (meetS a b)) :=
  contract_of_runs mixed tbl_nil Try.func128 m128 (sp2_runs runs_rMeet)
end Go.Co
