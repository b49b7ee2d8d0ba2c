/- CO: nodes, by the program. -/
import Derived.Test.YtbjnmbbhlaghaaaCoB
namespace Go.Co
open Go.Am Go.Proofs
set_option linter.unusedSimpArgs false
set_option linter.unusedVariables false
def c176_0 : ACode := .ops [⟨some 2, .mv (.c (.bool false)), none, []⟩] [0]
theorem r176_0 : type_of% (@rr _ _ c176_0.eq_1) := rr c176_0.eq_1
def c176_1 : ACode := .ops [⟨some 3, .mv (.t 0), none, []⟩,
  ⟨some 4, .bin .geq (.t 3) (.c (.int .i64 1)), none, []⟩,
  ⟨some 5, .mv (.t 4), none, []⟩,
  ⟨some 6, .mv (.t 0), some (5, true), []⟩,
  ⟨some 7, .bin .lss (.t 6) (.c (.int .i64 31)), some (5, true), []⟩,
  ⟨some 8, .pick (.t 5) (.t 7) (.c (.bool false)), none, []⟩,
  ⟨some 2, .mv (.t 8), none, []⟩] [2]
theorem r176_1 : type_of% (@rr _ _ c176_1.eq_1) := rr c176_1.eq_1
def c176_2 : ACode := .seq c176_1 .ret
theorem r176_2 : type_of% (@rr _ _ c176_2.eq_1) := rr c176_2.eq_1
def c176_3 : ACode := .seq c176_0 c176_2
theorem r176_3 : type_of% (@rr _ _ c176_3.eq_1) := rr c176_3.eq_1
def a176 : AFun := ⟨1, 9, c176_3, [.t 2]⟩
attribute [simp] r176_0 r176_1 r176_2 r176_3
theorem m176 : mFun Try.prog Try.f176 a176 = true := by decide +kernel
def c164_0 : ACode := .ops [⟨some 1, .box (.t 0) 6, none, []⟩,
  ⟨some 2, .mv (.c (.bool false)), none, []⟩] [1]
theorem r164_0 : type_of% (@rr _ _ c164_0.eq_1) := rr c164_0.eq_1
def c164_1 : ACode := .ops [⟨some 3, .fad (.t 1) 0, none, [1]⟩,
  ⟨some 4, .load 1 false (.t 3), none, [1]⟩] [1, 4]
theorem r164_1 : type_of% (@rr _ _ c164_1.eq_1) := rr c164_1.eq_1
def c164_2 : ACode := .ops [⟨some 5, .load 6 true (.t 1), none, [1]⟩,
  ⟨some 6, .fad (.t 1) 1, none, [1]⟩,
  ⟨some 7, .load 1 false (.t 6), none, [1]⟩,
  ⟨some 8, .build [.bool false, .int .i64 0, .int .i64 0, .int .i64 0, .int .i64 0, .int .i64 0] [(0, 1, .c (.bool true)), (1, 1, .t 7)], none, []⟩,
  ⟨some 9, .eqa false [true, false, false, false, false, false] (.t 5) (.t 8), none, []⟩,
  ⟨some 10, .mv (.t 9), none, []⟩,
  ⟨some 11, .fad (.t 1) 1, some (10, true), [1]⟩,
  ⟨some 12, .load 1 false (.t 11), some (10, true), [1]⟩,
  ⟨some 13, .call 123 [.t 12, .c (.int .i64 32)], some (10, true), []⟩,
  ⟨some 14, .pick (.t 10) (.t 13) (.c (.bool false)), none, []⟩,
  ⟨some 2, .mv (.t 14), none, []⟩] [2]
theorem r164_2 : type_of% (@rr _ _ c164_2.eq_1) := rr c164_2.eq_1
def c164_3 : ACode := .seq c164_2 .ret
theorem r164_3 : type_of% (@rr _ _ c164_3.eq_1) := rr c164_3.eq_1
def c164_4 : ACode := .cond (.t 4) c164_3 .skip
theorem r164_4 : type_of% (@rr _ _ c164_4.eq_1) := rr c164_4.eq_1
def c164_5 : ACode := .seq c164_1 c164_4
theorem r164_5 : type_of% (@rr _ _ c164_5.eq_1) := rr c164_5.eq_1
def c164_6 : ACode := .ops [⟨some 15, .fad (.t 1) 1, none, [1]⟩,
  ⟨some 16, .load 1 false (.t 15), none, [1]⟩,
  ⟨some 17, .bin .eql (.t 16) (.c (.int .i64 0)), none, []⟩,
  ⟨some 18, .mv (.t 17), none, []⟩,
  ⟨some 19, .fad (.t 1) 2, some (18, true), [1]⟩,
  ⟨some 20, .load 1 false (.t 19), some (18, true), [1]⟩,
  ⟨some 21, .bin .geq (.t 20) (.c (.int .i64 0)), some (18, true), []⟩,
  ⟨some 22, .pick (.t 18) (.t 21) (.c (.bool false)), none, []⟩,
  ⟨some 23, .mv (.t 22), none, []⟩,
  ⟨some 24, .fad (.t 1) 2, some (23, true), [1]⟩,
  ⟨some 25, .load 1 false (.t 24), some (23, true), [1]⟩,
  ⟨some 26, .bin .lss (.t 25) (.c (.int .i64 4)), some (23, true), []⟩,
  ⟨some 27, .pick (.t 23) (.t 26) (.c (.bool false)), none, []⟩,
  ⟨some 28, .mv (.t 27), none, []⟩,
  ⟨some 29, .fad (.t 1) 3, some (28, true), [1]⟩,
  ⟨some 30, .load 1 false (.t 29), some (28, true), [1]⟩,
  ⟨some 31, .call 123 [.t 30, .c (.int .i64 32)], some (28, true), []⟩,
  ⟨some 32, .pick (.t 28) (.t 31) (.c (.bool false)), none, []⟩,
  ⟨some 33, .mv (.t 32), none, []⟩,
  ⟨some 34, .fad (.t 1) 4, some (33, true), [1]⟩,
  ⟨some 35, .load 1 false (.t 34), some (33, true), [1]⟩,
  ⟨some 36, .call 176 [.t 35], some (33, true), []⟩,
  ⟨some 37, .pick (.t 33) (.t 36) (.c (.bool false)), none, []⟩,
  ⟨some 38, .mv (.t 37), none, []⟩,
  ⟨some 39, .fad (.t 1) 5, some (38, true), [1]⟩,
  ⟨some 40, .load 1 false (.t 39), some (38, true), [1]⟩,
  ⟨some 41, .call 176 [.t 40], some (38, true), []⟩,
  ⟨some 42, .pick (.t 38) (.t 41) (.c (.bool false)), none, []⟩,
  ⟨some 2, .mv (.t 42), none, []⟩] [2]
theorem r164_6 : type_of% (@rr _ _ c164_6.eq_1) := rr c164_6.eq_1
def c164_7 : ACode := .seq c164_6 .ret
theorem r164_7 : type_of% (@rr _ _ c164_7.eq_1) := rr c164_7.eq_1
def c164_8 : ACode := .seq c164_5 c164_7
theorem r164_8 : type_of% (@rr _ _ c164_8.eq_1) := rr c164_8.eq_1
def c164_9 : ACode := .seq c164_0 c164_8
theorem r164_9 : type_of% (@rr _ _ c164_9.eq_1) := rr c164_9.eq_1
def a164 : AFun := ⟨1, 43, c164_9, [.t 2]⟩
attribute [simp] r164_0 r164_1 r164_2 r164_3 r164_4 r164_5 r164_6 r164_7 r164_8 r164_9
theorem m164 : mFun Try.prog Try.f164 a164 = true := by decide +kernel
def c162_0 : ACode := .ops [⟨some 4, .mv (.c (.bool false)), none, []⟩] [0, 1]
theorem r162_0 : type_of% (@rr _ _ c162_0.eq_1) := rr c162_0.eq_1
def c162_1 : ACode := .ops [⟨some 5, .mv (.t 0), none, []⟩,
  ⟨some 6, .bin .geq (.t 5) (.c (.int .i64 0)), none, []⟩,
  ⟨some 7, .mv (.t 6), none, []⟩,
  ⟨some 8, .mv (.t 0), some (7, true), []⟩,
  ⟨some 9, .bin .lss (.t 8) (.c (.int .i64 64)), some (7, true), []⟩,
  ⟨some 10, .pick (.t 7) (.t 9) (.c (.bool false)), none, []⟩,
  ⟨some 11, .mv (.t 10), none, []⟩,
  ⟨some 12, .mv (.t 1), some (11, true), []⟩,
  ⟨some 13, .bin .geq (.t 12) (.c (.int .i64 1)), some (11, true), []⟩,
  ⟨some 14, .pick (.t 11) (.t 13) (.c (.bool false)), none, []⟩,
  ⟨some 15, .mv (.t 14), none, []⟩,
  ⟨some 16, .mv (.t 1), some (15, true), []⟩,
  ⟨some 17, .mv (.t 0), some (15, true), []⟩,
  ⟨some 18, .bin .sub (.c (.int .i64 64)) (.t 17), some (15, true), []⟩,
  ⟨some 19, .bin .leq (.t 16) (.t 18), some (15, true), []⟩,
  ⟨some 20, .pick (.t 15) (.t 19) (.c (.bool false)), none, []⟩,
  ⟨some 4, .mv (.t 20), none, []⟩] [4]
theorem r162_1 : type_of% (@rr _ _ c162_1.eq_1) := rr c162_1.eq_1
def c162_2 : ACode := .seq c162_1 .ret
theorem r162_2 : type_of% (@rr _ _ c162_2.eq_1) := rr c162_2.eq_1
def c162_3 : ACode := .seq c162_0 c162_2
theorem r162_3 : type_of% (@rr _ _ c162_3.eq_1) := rr c162_3.eq_1
def a162 : AFun := ⟨2, 21, c162_3, [.t 4]⟩
attribute [simp] r162_0 r162_1 r162_2 r162_3
theorem m162 : mFun Try.prog Try.f162 a162 = true := by decide +kernel
def c163_0 : ACode := .ops [⟨some 2, .mv (.c (.int .u64 0)), none, []⟩] [0]
theorem r163_0 : type_of% (@rr _ _ c163_0.eq_1) := rr c163_0.eq_1
def c163_1 : ACode := .ops [⟨some 3, .mv (.t 0), none, []⟩,
  ⟨some 4, .bin .sub (.c (.int .i64 64)) (.t 3), none, []⟩,
  ⟨some 5, .conv .u64 (.t 4), none, []⟩,
  ⟨some 6, .bin .shr (.c (.int .u64 18446744073709551615)) (.t 5), none, []⟩,
  ⟨some 2, .mv (.t 6), none, []⟩] [2]
theorem r163_1 : type_of% (@rr _ _ c163_1.eq_1) := rr c163_1.eq_1
def c163_2 : ACode := .seq c163_1 .ret
theorem r163_2 : type_of% (@rr _ _ c163_2.eq_1) := rr c163_2.eq_1
def c163_3 : ACode := .seq c163_0 c163_2
theorem r163_3 : type_of% (@rr _ _ c163_3.eq_1) := rr c163_3.eq_1
def a163 : AFun := ⟨1, 7, c163_3, [.t 2]⟩
attribute [simp] r163_0 r163_1 r163_2 r163_3
theorem m163 : mFun Try.prog Try.f163 a163 = true := by decide +kernel
def c165_0 : ACode := .ops [⟨some 8, .mv (.c (.int .u64 0)), none, []⟩] [0, 1, 2, 3]
theorem r165_0 : type_of% (@rr _ _ c165_0.eq_1) := rr c165_0.eq_1
def c165_1 : ACode := .ops [⟨some 10, .mv (.t 1), none, []⟩,
  ⟨some 11, .mv (.t 2), none, []⟩,
  ⟨some 12, .call 162 [.t 10, .t 11], none, []⟩,
  ⟨some 13, .un .not (.t 12), none, []⟩] [0, 1, 2, 3, 13]
theorem r165_1 : type_of% (@rr _ _ c165_1.eq_1) := rr c165_1.eq_1
def c165_2 : ACode := .ops [⟨some 14, .mv (.t 0), none, []⟩,
  ⟨some 8, .mv (.t 14), none, []⟩] [8]
theorem r165_2 : type_of% (@rr _ _ c165_2.eq_1) := rr c165_2.eq_1
def c165_3 : ACode := .seq c165_2 .ret
theorem r165_3 : type_of% (@rr _ _ c165_3.eq_1) := rr c165_3.eq_1
def c165_4 : ACode := .cond (.t 13) c165_3 .skip
theorem r165_4 : type_of% (@rr _ _ c165_4.eq_1) := rr c165_4.eq_1
def c165_5 : ACode := .seq c165_1 c165_4
theorem r165_5 : type_of% (@rr _ _ c165_5.eq_1) := rr c165_5.eq_1
def c165_6 : ACode := .ops [⟨some 15, .mv (.t 2), none, []⟩,
  ⟨some 16, .call 163 [.t 15], none, []⟩,
  ⟨some 17, .mv (.t 1), none, []⟩,
  ⟨some 18, .conv .u64 (.t 17), none, []⟩,
  ⟨some 19, .bin .shl (.t 16) (.t 18), none, []⟩,
  ⟨some 9, .mv (.t 19), none, []⟩] [0, 1, 3, 9]
theorem r165_6 : type_of% (@rr _ _ c165_6.eq_1) := rr c165_6.eq_1
def c165_7 : ACode := .ops [⟨some 20, .mv (.t 0), none, []⟩,
  ⟨some 21, .mv (.t 9), none, []⟩,
  ⟨some 22, .bin .andNot (.t 20) (.t 21), none, []⟩,
  ⟨some 23, .mv (.t 3), none, []⟩,
  ⟨some 24, .mv (.t 1), none, []⟩,
  ⟨some 25, .conv .u64 (.t 24), none, []⟩,
  ⟨some 26, .bin .shl (.t 23) (.t 25), none, []⟩,
  ⟨some 27, .mv (.t 9), none, []⟩,
  ⟨some 28, .bin .and (.t 26) (.t 27), none, []⟩,
  ⟨some 29, .bin .or (.t 22) (.t 28), none, []⟩,
  ⟨some 8, .mv (.t 29), none, []⟩] [8]
theorem r165_7 : type_of% (@rr _ _ c165_7.eq_1) := rr c165_7.eq_1
def c165_8 : ACode := .seq c165_7 .ret
theorem r165_8 : type_of% (@rr _ _ c165_8.eq_1) := rr c165_8.eq_1
def c165_9 : ACode := .seq c165_6 c165_8
theorem r165_9 : type_of% (@rr _ _ c165_9.eq_1) := rr c165_9.eq_1
def c165_10 : ACode := .seq c165_5 c165_9
theorem r165_10 : type_of% (@rr _ _ c165_10.eq_1) := rr c165_10.eq_1
def c165_11 : ACode := .seq c165_0 c165_10
theorem r165_11 : type_of% (@rr _ _ c165_11.eq_1) := rr c165_11.eq_1
def a165 : AFun := ⟨4, 30, c165_11, [.t 8]⟩
attribute [simp] r165_0 r165_1 r165_2 r165_3 r165_4 r165_5 r165_6 r165_7 r165_8 r165_9 r165_10 r165_11
theorem m165 : mFun Try.prog Try.f165 a165 = true := by decide +kernel
def c129_0 : ACode := .ops [⟨some 6, .mv (.c (.int .u64 0)), none, []⟩] [0, 1, 2]
theorem r129_0 : type_of% (@rr _ _ c129_0.eq_1) := rr c129_0.eq_1
def c129_1 : ACode := .ops [⟨some 7, .mv (.t 1), none, []⟩,
  ⟨some 8, .mv (.t 2), none, []⟩,
  ⟨some 9, .call 162 [.t 7, .t 8], none, []⟩,
  ⟨some 10, .un .not (.t 9), none, []⟩] [0, 1, 2, 10]
theorem r129_1 : type_of% (@rr _ _ c129_1.eq_1) := rr c129_1.eq_1
def c129_2 : ACode := .ops [⟨some 6, .mv (.c (.int .u64 0)), none, []⟩] [6]
theorem r129_2 : type_of% (@rr _ _ c129_2.eq_1) := rr c129_2.eq_1
def c129_3 : ACode := .seq c129_2 .ret
theorem r129_3 : type_of% (@rr _ _ c129_3.eq_1) := rr c129_3.eq_1
def c129_4 : ACode := .cond (.t 10) c129_3 .skip
theorem r129_4 : type_of% (@rr _ _ c129_4.eq_1) := rr c129_4.eq_1
def c129_5 : ACode := .seq c129_1 c129_4
theorem r129_5 : type_of% (@rr _ _ c129_5.eq_1) := rr c129_5.eq_1
def c129_6 : ACode := .ops [⟨some 11, .mv (.t 0), none, []⟩,
  ⟨some 12, .mv (.t 1), none, []⟩,
  ⟨some 13, .conv .u64 (.t 12), none, []⟩,
  ⟨some 14, .bin .shr (.t 11) (.t 13), none, []⟩,
  ⟨some 15, .mv (.t 2), none, []⟩,
  ⟨some 16, .call 163 [.t 15], none, []⟩,
  ⟨some 17, .bin .and (.t 14) (.t 16), none, []⟩,
  ⟨some 6, .mv (.t 17), none, []⟩] [6]
theorem r129_6 : type_of% (@rr _ _ c129_6.eq_1) := rr c129_6.eq_1
def c129_7 : ACode := .seq c129_6 .ret
theorem r129_7 : type_of% (@rr _ _ c129_7.eq_1) := rr c129_7.eq_1
def c129_8 : ACode := .seq c129_5 c129_7
theorem r129_8 : type_of% (@rr _ _ c129_8.eq_1) := rr c129_8.eq_1
def c129_9 : ACode := .seq c129_0 c129_8
theorem r129_9 : type_of% (@rr _ _ c129_9.eq_1) := rr c129_9.eq_1
def a129 : AFun := ⟨3, 18, c129_9, [.t 6]⟩
attribute [simp] r129_0 r129_1 r129_2 r129_3 r129_4 r129_5 r129_6 r129_7 r129_8 r129_9
theorem m129 : mFun Try.prog Try.f129 a129 = true := by decide +kernel
def c128_0 : ACode := .ops [⟨some 6, .mv (.c (.int .i64 0)), none, []⟩] [0, 1, 2]
theorem r128_0 : type_of% (@rr _ _ c128_0.eq_1) := rr c128_0.eq_1
def c128_1 : ACode := .ops [⟨some 7, .mv (.t 0), none, []⟩,
  ⟨some 8, .mv (.t 1), none, []⟩,
  ⟨some 9, .mv (.t 2), none, []⟩,
  ⟨some 10, .call 129 [.t 7, .t 8, .t 9], none, []⟩,
  ⟨some 11, .conv .i64 (.t 10), none, []⟩,
  ⟨some 12, .mv (.t 2), none, []⟩,
  ⟨some 13, .call 161 [.t 11, .t 12], none, []⟩,
  ⟨some 6, .mv (.t 13), none, []⟩] [6]
theorem r128_1 : type_of% (@rr _ _ c128_1.eq_1) := rr c128_1.eq_1
def c128_2 : ACode := .seq c128_1 .ret
theorem r128_2 : type_of% (@rr _ _ c128_2.eq_1) := rr c128_2.eq_1
def c128_3 : ACode := .seq c128_0 c128_2
theorem r128_3 : type_of% (@rr _ _ c128_3.eq_1) := rr c128_3.eq_1
def a128 : AFun := ⟨3, 14, c128_3, [.t 6]⟩
attribute [simp] r128_0 r128_1 r128_2 r128_3
theorem m128 : mFun Try.prog Try.f128 a128 = true := by decide +kernel
def c131_0 : ACode := .ops [⟨some 1, .box (.t 0) 6, none, []⟩,
  ⟨some 2, .mv (.c (.int .u64 0)), none, []⟩] [1]
theorem r131_0 : type_of% (@rr _ _ c131_0.eq_1) := rr c131_0.eq_1
def c131_1 : ACode := .ops [⟨some 4, .load 6 true (.t 1), none, [1]⟩,
  ⟨some 5, .call 164 [.t 4], none, []⟩,
  ⟨some 6, .un .not (.t 5), none, []⟩] [1, 6]
theorem r131_1 : type_of% (@rr _ _ c131_1.eq_1) := rr c131_1.eq_1
def c131_2 : ACode := .ops [⟨some 2, .mv (.c (.int .u64 0)), none, []⟩] [2]
theorem r131_2 : type_of% (@rr _ _ c131_2.eq_1) := rr c131_2.eq_1
def c131_3 : ACode := .seq c131_2 .ret
theorem r131_3 : type_of% (@rr _ _ c131_3.eq_1) := rr c131_3.eq_1
def c131_4 : ACode := .cond (.t 6) c131_3 .skip
theorem r131_4 : type_of% (@rr _ _ c131_4.eq_1) := rr c131_4.eq_1
def c131_5 : ACode := .seq c131_1 c131_4
theorem r131_5 : type_of% (@rr _ _ c131_5.eq_1) := rr c131_5.eq_1
def c131_6 : ACode := .ops [⟨some 7, .fad (.t 1) 0, none, [1]⟩,
  ⟨some 8, .load 1 false (.t 7), none, [1]⟩] [1, 8]
theorem r131_6 : type_of% (@rr _ _ c131_6.eq_1) := rr c131_6.eq_1
def c131_7 : ACode := .ops [⟨some 9, .fad (.t 1) 1, none, [1]⟩,
  ⟨some 10, .load 1 false (.t 9), none, [1]⟩,
  ⟨some 11, .conv .u64 (.t 10), none, []⟩,
  ⟨some 12, .call 165 [.c (.int .u64 9223372036854775808), .c (.int .i64 0), .c (.int .i64 32), .t 11], none, []⟩,
  ⟨some 2, .mv (.t 12), none, []⟩] [2]
theorem r131_7 : type_of% (@rr _ _ c131_7.eq_1) := rr c131_7.eq_1
def c131_8 : ACode := .seq c131_7 .ret
theorem r131_8 : type_of% (@rr _ _ c131_8.eq_1) := rr c131_8.eq_1
def c131_9 : ACode := .cond (.t 8) c131_8 .skip
theorem r131_9 : type_of% (@rr _ _ c131_9.eq_1) := rr c131_9.eq_1
def c131_10 : ACode := .seq c131_6 c131_9
theorem r131_10 : type_of% (@rr _ _ c131_10.eq_1) := rr c131_10.eq_1
def c131_11 : ACode := .ops [⟨some 13, .fad (.t 1) 3, none, [1]⟩,
  ⟨some 14, .load 1 false (.t 13), none, [1]⟩,
  ⟨some 15, .conv .u64 (.t 14), none, []⟩,
  ⟨some 16, .call 165 [.c (.int .u64 0), .c (.int .i64 0), .c (.int .i64 32), .t 15], none, []⟩,
  ⟨some 3, .mv (.t 16), none, []⟩] [1, 3]
theorem r131_11 : type_of% (@rr _ _ c131_11.eq_1) := rr c131_11.eq_1
def c131_12 : ACode := .ops [⟨some 17, .mv (.t 3), none, []⟩,
  ⟨some 18, .fad (.t 1) 2, none, [1]⟩,
  ⟨some 19, .load 1 false (.t 18), none, [1]⟩,
  ⟨some 20, .conv .u64 (.t 19), none, []⟩,
  ⟨some 21, .call 165 [.t 17, .c (.int .i64 32), .c (.int .i64 4), .t 20], none, []⟩,
  ⟨some 3, .mv (.t 21), none, []⟩] [1, 3]
theorem r131_12 : type_of% (@rr _ _ c131_12.eq_1) := rr c131_12.eq_1
def c131_13 : ACode := .ops [⟨some 22, .mv (.t 3), none, []⟩,
  ⟨some 23, .fad (.t 1) 4, none, [1]⟩,
  ⟨some 24, .load 1 false (.t 23), none, [1]⟩,
  ⟨some 25, .conv .u64 (.t 24), none, []⟩,
  ⟨some 26, .call 165 [.t 22, .c (.int .i64 40), .c (.int .i64 8), .t 25], none, []⟩,
  ⟨some 3, .mv (.t 26), none, []⟩] [1, 3]
theorem r131_13 : type_of% (@rr _ _ c131_13.eq_1) := rr c131_13.eq_1
def c131_14 : ACode := .ops [⟨some 27, .mv (.t 3), none, []⟩,
  ⟨some 28, .fad (.t 1) 5, none, [1]⟩,
  ⟨some 29, .load 1 false (.t 28), none, [1]⟩,
  ⟨some 30, .conv .u64 (.t 29), none, []⟩,
  ⟨some 31, .call 165 [.t 27, .c (.int .i64 48), .c (.int .i64 8), .t 30], none, []⟩,
  ⟨some 2, .mv (.t 31), none, []⟩] [2]
theorem r131_14 : type_of% (@rr _ _ c131_14.eq_1) := rr c131_14.eq_1
def c131_15 : ACode := .seq c131_14 .ret
theorem r131_15 : type_of% (@rr _ _ c131_15.eq_1) := rr c131_15.eq_1
def c131_16 : ACode := .seq c131_13 c131_15
theorem r131_16 : type_of% (@rr _ _ c131_16.eq_1) := rr c131_16.eq_1
def c131_17 : ACode := .seq c131_12 c131_16
theorem r131_17 : type_of% (@rr _ _ c131_17.eq_1) := rr c131_17.eq_1
def c131_18 : ACode := .seq c131_11 c131_17
theorem r131_18 : type_of% (@rr _ _ c131_18.eq_1) := rr c131_18.eq_1
def c131_19 : ACode := .seq c131_10 c131_18
theorem r131_19 : type_of% (@rr _ _ c131_19.eq_1) := rr c131_19.eq_1
def c131_20 : ACode := .seq c131_5 c131_19
theorem r131_20 : type_of% (@rr _ _ c131_20.eq_1) := rr c131_20.eq_1
def c131_21 : ACode := .seq c131_0 c131_20
theorem r131_21 : type_of% (@rr _ _ c131_21.eq_1) := rr c131_21.eq_1
def a131 : AFun := ⟨1, 32, c131_21, [.t 2]⟩
attribute [simp] r131_0 r131_1 r131_2 r131_3 r131_4 r131_5 r131_6 r131_7 r131_8 r131_9 r131_10 r131_11 r131_12 r131_13 r131_14 r131_15 r131_16 r131_17 r131_18 r131_19 r131_20 r131_21
theorem m131 : mFun Try.prog Try.f131 a131 = true := by decide +kernel
def child (n : Int) : Bool := decide (1 ≤ n) && decide (n < 31)
theorem runs_child (n : Int) (c : Bool) (h : some (child n) = some c) : Runs (tbl []) a176 [Arg.enc n] (Arg.enc c) := by
  cases h
  refine ⟨rfl, fun g => run_def ?_⟩
  unfold a176
  by_cases h1 : 1 ≤ n <;> simp -implicitDefEqProofs [child, h1]
theorem c_child : Contract Try.prog 176 (sp1 fun n => some (child n)) := contract_of_runs mixed tbl_nil Try.func176 m176 (sp1_runs runs_child)
theorem runs_Right (n : Node) (c : Bool) (h : some (rightNode n) = some c) : Runs (tbl [(123, sp2 Fits), (176, sp1 fun n => some (child n))]) a164 [Arg.enc n] (Arg.enc c) := by
  cases h
  refine ⟨rfl, fun g => run_def ?_⟩
  obtain ⟨leaf, value, feature, cut, left, right⟩ := n
  unfold a164
  cases leaf
  case false =>
    by_cases h1 : value = 0
    case neg => simp -implicitDefEqProofs [rightNode, Fits, child, h1]
    by_cases h2 : 0 ≤ feature
    case neg => simp -implicitDefEqProofs [rightNode, Fits, child, h1, h2]
    by_cases h3 : feature < 4
    case neg => simp -implicitDefEqProofs [rightNode, Fits, child, h1, h2, h3]
    cases h4 : fits cut
    case false => simp -implicitDefEqProofs [rightNode, Fits, child, h1, h2, h3, h4]
    by_cases h5 : 1 ≤ left
    case neg => simp -implicitDefEqProofs [rightNode, Fits, child, h1, h2, h3, h4, h5]
    by_cases h6 : left < 31
    case neg => simp -implicitDefEqProofs [rightNode, Fits, child, h1, h2, h3, h4, h5, h6]
    simp -implicitDefEqProofs [rightNode, Fits, child, h1, h2, h3, h4, h5, h6]
  case true =>
    by_cases h2 : feature = 0
    case neg => simp -implicitDefEqProofs [rightNode, Fits, h2]
    by_cases h3 : cut = 0
    case neg => simp -implicitDefEqProofs [rightNode, Fits, h2, h3]
    by_cases h4 : left = 0
    case neg => simp -implicitDefEqProofs [rightNode, Fits, h2, h3, h4]
    by_cases h5 : right = 0
    case neg => simp -implicitDefEqProofs [rightNode, Fits, h2, h3, h4, h5]
    cases h1 : fits value <;> simp -implicitDefEqProofs [rightNode, Fits, h1, h2, h3, h4, h5]
theorem c_Right : Contract Try.prog 164 (sp1 fun n => some (rightNode n)) :=
  contract_of_runs mixed (tbl_cons c_Fits (tbl_cons c_child tbl_nil)) Try.func164 m164 (sp1_runs runs_Right)
def field (p w : Int) : Bool := decide (0 ≤ p) && decide (p < 64) && decide (1 ≤ w) && decide (w ≤ 64 - p)
theorem runs_field (p w : Int) (c : Bool) (h : some (field p w) = some c) : Runs (tbl []) a162 [Arg.enc p, Arg.enc w] (Arg.enc c) := by
  cases h
  refine ⟨rfl, fun g => run_def ?_⟩
  unfold a162
  by_cases h1 : 0 ≤ p
  case neg => simp -implicitDefEqProofs [field, h1]
  by_cases h2 : p < 64
  case neg => simp -implicitDefEqProofs [field, h1, h2]
  by_cases h3 : 1 ≤ w
  case neg => simp -implicitDefEqProofs [field, h1, h2, h3]
  have e : IntKind.i64.wrap (64 - p) = 64 - p := wrap64 (by omega) (by omega)
  simp -implicitDefEqProofs [field, h1, h2, h3, e]
theorem c_field : Contract Try.prog 162 (sp2 fun p w => some (field p w)) := contract_of_runs mixed tbl_nil Try.func162 m162 (sp2_runs runs_field)
def ones (w : Int) : Int := if w = 1 then 1 else if w = 4 then 15 else if w = 8 then 255 else 4294967295
def Mask (w : Int) : Option Word := if w = 1 ∨ w = 4 ∨ w = 8 ∨ w = 32 then some ⟨ones w⟩ else none
theorem runs_mask (w : Int) (c : Word) (h : Mask w = some c) : Runs (tbl []) a163 [Arg.enc w] (Arg.enc c) := by
  unfold Mask at h
  split at h
  · rename_i hw
    cases h
    refine ⟨rfl, fun g => run_def ?_⟩
    unfold a163
    rcases hw with rfl | rfl | rfl | rfl <;> simp -implicitDefEqProofs [ones] <;> decide
  · cases h
theorem c_mask : Contract Try.prog 163 (sp1 Mask) := contract_of_runs mixed tbl_nil Try.func163 m163 (sp1_runs runs_mask)
def aField (p w : Int) : Prop := (p = 0 ∧ w = 32) ∨ (p = 63 ∧ w = 1) ∨ (p = 32 ∧ w = 4) ∨ (p = 40 ∧ w = 8) ∨ (p = 48 ∧ w = 8)
instance (p w : Int) : Decidable (aField p w) := by unfold aField; exact inferInstance
def get (x p w : Int) : Int := x / 2 ^ p.toNat % 2 ^ w.toNat
def Get (x : Word) (p w : Int) : Option Word := if okW x.v ∧ aField p w then some ⟨get x.v p w⟩ else none
theorem and_1 (a : Int) (h : okW a) : iand .u64 a 1 = a % 2 := by
  rw [u_and _ _ h ⟨by omega, by omega⟩]
  have e : (1 : Int).toNat = 1 := rfl
  rw [e, Nat.and_one_is_mod]
  have := h.1
  omega
theorem runs_Get (x : Word) (p w : Int) (c : Word) (h : Get x p w = some c) : Runs (tbl [(162, sp2 fun p w => some (field p w)), (163, sp1 Mask)]) a129 [Arg.enc x, Arg.enc p, Arg.enc w] (Arg.enc c) := by
  unfold Get at h
  split at h
  · rename_i hw
    cases h
    obtain ⟨v⟩ := x
    obtain ⟨hv, hf⟩ := hw
    simp only at hv
    have d (k : Int) (hk : 0 ≤ k) : v.fdiv k = v / k := Int.fdiv_eq_ediv_of_nonneg v hk
    have h1 := hv.1
    have h2 := hv.2
    have i1 := and_low v hv
    have i2 := and_15 (v / 4294967296) ⟨by omega, by omega⟩
    have i3 := and_255 (v / 1099511627776) ⟨by omega, by omega⟩
    have i4 := and_255 (v / 281474976710656) ⟨by omega, by omega⟩
    have i5 := and_1 (v / 9223372036854775808) ⟨by omega, by omega⟩
    refine ⟨rfl, fun g => run_def ?_⟩
    unfold a129
    rcases hf with ⟨rfl, rfl⟩ | ⟨rfl, rfl⟩ | ⟨rfl, rfl⟩ | ⟨rfl, rfl⟩ | ⟨rfl, rfl⟩ <;>
      simp -implicitDefEqProofs [get, field, Mask, ones, d, i1, i2, i3, i4, i5]
  · cases h
theorem c_Get : Contract Try.prog 129 (sp3 Get) :=
  contract_of_runs mixed (tbl_cons c_field (tbl_cons c_mask tbl_nil)) Try.func129 m129 (sp3_runs runs_Get)
def Signed (x : Word) (p w : Int) : Option Int := if okW x.v ∧ p = 0 ∧ w = 32 then some (wrap32 (x.v % 4294967296)) else none
theorem runs_Signed (x : Word) (p w c : Int) (h : Signed x p w = some c) : Runs (tbl [(129, sp3 Get), (161, sp2 Wrap)]) a128 [Arg.enc x, Arg.enc p, Arg.enc w] (Arg.enc c) := by
  unfold Signed at h
  split at h
  · rename_i hw
    cases h
    obtain ⟨v⟩ := x
    obtain ⟨hv, rfl, rfl⟩ := hw
    simp only at hv
    have w1 : IntKind.i64.wrap (v % 4294967296) = v % 4294967296 := wrap64 (by omega) (by omega)
    have b1 : -9223372036854775808 ≤ v % 4294967296 ∧ v % 4294967296 ≤ 9223372036854775807 := by omega
    refine ⟨rfl, fun g => run_def ?_⟩
    unfold a128
    simp -implicitDefEqProofs [Get, get, aField, hv, Wrap, w1, b1]
  · cases h
theorem c_Signed : Contract Try.prog 128 (sp3 Signed) :=
  contract_of_runs mixed (tbl_cons c_Get (tbl_cons c_Wrap tbl_nil)) Try.func128 m128 (sp3_runs runs_Signed)
def Put (x : Word) (p w : Int) (y : Word) : Option Word := if okW x.v ∧ aField p w ∧ w ≠ 1 ∧ get x.v p w = 0 then some ⟨x.v + y.v % 2 ^ w.toNat * 2 ^ p.toNat⟩ else none
theorem runs_Put (x : Word) (p w : Int) (y c : Word) (h : Put x p w y = some c) : Runs (tbl [(162, sp2 fun p w => some (field p w)), (163, sp1 Mask)]) a165 [Arg.enc x, Arg.enc p, Arg.enc w, Arg.enc y] (Arg.enc c) := by
  unfold Put at h
  split at h
  · rename_i hw
    cases h
    obtain ⟨v⟩ := x
    obtain ⟨y⟩ := y
    obtain ⟨hv, hf, hw1, hg⟩ := hw
    simp only at hv hg
    have hv1 := hv.1
    refine ⟨rfl, fun g => run_def ?_⟩
    unfold a165
    rcases hf with ⟨rfl, rfl⟩ | ⟨rfl, rfl⟩ | ⟨rfl, rfl⟩ | ⟨rfl, rfl⟩ | ⟨rfl, rfl⟩
    · simp [get] at hg
      have e := put_bits v (y % 18446744073709551616) 4294967295 0 32 hv (okW_mod _) rfl ⟨by omega, by omega⟩ (by simp; omega)
      simp only [Nat.reducePow] at e
      simp -implicitDefEqProofs [field, Mask, ones, u_conv, e]
      omega
    · exact absurd rfl hw1
    · simp [get] at hg
      have e := put_bits v (y * 4294967296 % 18446744073709551616) 64424509440 32 4 hv (okW_mod _) rfl ⟨by omega, by omega⟩ (by simp; omega)
      simp only [Nat.reducePow] at e
      simp -implicitDefEqProofs [field, Mask, ones, u_conv, e]
      omega
    · simp [get] at hg
      have e := put_bits v (y * 1099511627776 % 18446744073709551616) 280375465082880 40 8 hv (okW_mod _) rfl ⟨by omega, by omega⟩ (by simp; omega)
      simp only [Nat.reducePow] at e
      simp -implicitDefEqProofs [field, Mask, ones, u_conv, e]
      omega
    · simp [get] at hg
      have e := put_bits v (y * 281474976710656 % 18446744073709551616) 71776119061217280 48 8 hv (okW_mod _) rfl ⟨by omega, by omega⟩ (by simp; omega)
      simp only [Nat.reducePow] at e
      simp -implicitDefEqProofs [field, Mask, ones, u_conv, e]
      omega
  · cases h
theorem c_Put : Contract Try.prog 165 (sp4 Put) :=
  contract_of_runs mixed (tbl_cons c_field (tbl_cons c_mask tbl_nil)) Try.func165 m165 (sp4_runs runs_Put)
theorem runs_Pack (n : Node) (c : Word) (h : some (pack n) = some c) : Runs (tbl [(164, sp1 fun n => some (rightNode n)), (165, sp4 Put)]) a131 [Arg.enc n] (Arg.enc c) := by
  cases h
  refine ⟨rfl, fun g => run_def ?_⟩
  obtain ⟨leaf, value, feature, cut, left, right⟩ := n
  unfold a131
  cases h1 : rightNode ⟨leaf, value, feature, cut, left, right⟩
  case false => simp -implicitDefEqProofs [pack, h1]
  cases leaf
  case true =>
    have e1 : value % 18446744073709551616 % 4294967296 = value % 4294967296 := by omega
    simp -implicitDefEqProofs [pack, h1, u_conv, Put, get, aField, okW, e1]
  case false =>
    have hb := h1
    simp [rightNode] at hb
    have e1 : cut % 18446744073709551616 % 4294967296 = cut % 4294967296 := by omega
    have o1 : okW (cut % 4294967296) := ⟨by omega, by omega⟩
    have e2 : feature % 18446744073709551616 % 16 = feature := by omega
    have g1 : cut % 4294967296 / 4294967296 % 16 = 0 := by omega
    have o2 : okW (cut % 4294967296 + feature * 4294967296) := ⟨by omega, by omega⟩
    have e3 : left % 18446744073709551616 % 256 = left := by omega
    have g2 : (cut % 4294967296 + feature * 4294967296) / 1099511627776 % 256 = 0 := by omega
    have o3 : okW (cut % 4294967296 + feature * 4294967296 + left * 1099511627776) := ⟨by omega, by omega⟩
    have e4 : right % 18446744073709551616 % 256 = right := by omega
    have g3 : (cut % 4294967296 + feature * 4294967296 + left * 1099511627776) / 281474976710656 % 256 = 0 := by omega
    have o0 : okW 0 := ⟨by omega, by omega⟩
    simp -implicitDefEqProofs [pack, h1, u_conv, Put, get, aField, o0, o1, o2, o3, e1, e2, e3, e4, g1, g2, g3]
theorem c_Pack : Contract Try.prog 131 (sp1 fun n => some (pack n)) :=
  contract_of_runs mixed (tbl_cons c_Right (tbl_cons c_Put tbl_nil)) Try.func131 m131 (sp1_runs runs_Pack)
def c130_0 : ACode := .ops [⟨some 5, .mv (.c (.int .i64 0)), none, []⟩] [0, 1, 2]
theorem r130_0 : type_of% (@rr _ _ c130_0.eq_1) := rr c130_0.eq_1
def c130_1 : ACode := .ops [⟨some 6, .load 1 false (.t 2), none, []⟩,
  ⟨some 7, .mv (.t 0), none, []⟩,
  ⟨some 8, .mv (.t 1), none, []⟩,
  ⟨some 9, .call 129 [.t 6, .t 7, .t 8], none, []⟩,
  ⟨some 10, .conv .i64 (.t 9), none, []⟩,
  ⟨some 5, .mv (.t 10), none, []⟩] [5]
theorem r130_1 : type_of% (@rr _ _ c130_1.eq_1) := rr c130_1.eq_1
def c130_2 : ACode := .seq c130_1 .ret
theorem r130_2 : type_of% (@rr _ _ c130_2.eq_1) := rr c130_2.eq_1
def c130_3 : ACode := .seq c130_0 c130_2
theorem r130_3 : type_of% (@rr _ _ c130_3.eq_1) := rr c130_3.eq_1
def a130 : AFun := ⟨3, 11, c130_3, [.t 5]⟩
attribute [simp] r130_0 r130_1 r130_2 r130_3
theorem m130 : mFun Try.prog Try.f130 a130 = true := by decide +kernel
def c77_0 : ACode := .ops [⟨some 1, .box (.t 0) 1, none, []⟩,
  ⟨some 2, .alloc [.bool false, .int .i64 0, .int .i64 0, .int .i64 0, .int .i64 0, .int .i64 0], none, []⟩,
  ⟨some 3, .mv (.c (.bool false)), none, []⟩] [1, 2]
theorem r77_0 : type_of% (@rr _ _ c77_0.eq_1) := rr c77_0.eq_1
def c77_1 : ACode := .ops [⟨some 7, .load 1 false (.t 1), none, [1]⟩,
  ⟨some 8, .call 128 [.t 7, .c (.int .i64 0), .c (.int .i64 32)], none, []⟩,
  ⟨some 4, .mv (.t 8), none, []⟩] [1, 2, 4]
theorem r77_1 : type_of% (@rr _ _ c77_1.eq_1) := rr c77_1.eq_1
def c77_2 : ACode := .ops [⟨some 9, .mv (.t 4), none, []⟩,
  ⟨some 10, .build [.bool false, .int .i64 0, .int .i64 0, .int .i64 0, .int .i64 0, .int .i64 0] [(0, 1, .c (.bool true)), (1, 1, .t 9)], none, []⟩,
  ⟨some 5, .alloc [.bool false, .int .i64 0, .int .i64 0, .int .i64 0, .int .i64 0, .int .i64 0], none, []⟩,
  ⟨none, .store (.t 5) 6 (.t 10), none, [5]⟩] [1, 2, 4, 5]
theorem r77_2 : type_of% (@rr _ _ c77_2.eq_1) := rr c77_2.eq_1
def c77_3 : ACode := .ops [⟨some 11, .load 1 false (.t 1), none, [1]⟩,
  ⟨some 12, .call 129 [.t 11, .c (.int .i64 63), .c (.int .i64 1)], none, []⟩,
  ⟨some 13, .bin .eql (.t 12) (.c (.int .u64 0)), none, []⟩] [1, 2, 4, 5, 13]
theorem r77_3 : type_of% (@rr _ _ c77_3.eq_1) := rr c77_3.eq_1
def c77_4 : ACode := .ops [⟨some 14, .clo 130 [.t 1], none, [1]⟩,
  ⟨some 6, .mv (.t 14), none, []⟩] [1, 2, 4, 5, 6]
theorem r77_4 : type_of% (@rr _ _ c77_4.eq_1) := rr c77_4.eq_1
def c77_5 : ACode := .ops [⟨some 15, .mv (.t 4), none, []⟩,
  ⟨some 16, .mv (.t 6), none, []⟩,
  ⟨some 17, .dyn (.t 16) [.c (.int .i64 32), .c (.int .i64 4)], none, []⟩,
  ⟨some 18, .mv (.t 6), none, []⟩,
  ⟨some 19, .dyn (.t 18) [.c (.int .i64 40), .c (.int .i64 8)], none, []⟩,
  ⟨some 20, .mv (.t 6), none, []⟩,
  ⟨some 21, .dyn (.t 20) [.c (.int .i64 48), .c (.int .i64 8)], none, []⟩,
  ⟨some 22, .build [.bool false, .int .i64 0, .int .i64 0, .int .i64 0, .int .i64 0, .int .i64 0] [(3, 1, .t 15), (2, 1, .t 17), (4, 1, .t 19), (5, 1, .t 21)], none, []⟩,
  ⟨none, .store (.t 5) 6 (.t 22), none, [5]⟩] [1, 2, 5]
theorem r77_5 : type_of% (@rr _ _ c77_5.eq_1) := rr c77_5.eq_1
def c77_6 : ACode := .seq c77_4 c77_5
theorem r77_6 : type_of% (@rr _ _ c77_6.eq_1) := rr c77_6.eq_1
def c77_7 : ACode := .cond (.t 13) c77_6 .skip
theorem r77_7 : type_of% (@rr _ _ c77_7.eq_1) := rr c77_7.eq_1
def c77_8 : ACode := .seq c77_3 c77_7
theorem r77_8 : type_of% (@rr _ _ c77_8.eq_1) := rr c77_8.eq_1
def c77_9 : ACode := .ops [⟨some 23, .load 1 false (.t 1), none, [1]⟩,
  ⟨some 24, .bin .eql (.t 23) (.c (.int .u64 0)), none, []⟩,
  ⟨some 25, .mv (.t 24), none, []⟩,
  ⟨some 26, .load 6 true (.t 5), some (25, false), [5]⟩,
  ⟨some 27, .call 131 [.t 26], some (25, false), []⟩,
  ⟨some 28, .load 1 false (.t 1), some (25, false), [1]⟩,
  ⟨some 29, .bin .neq (.t 27) (.t 28), some (25, false), []⟩,
  ⟨some 30, .pick (.t 25) (.c (.bool true)) (.t 29), none, []⟩] [2, 5, 30]
theorem r77_9 : type_of% (@rr _ _ c77_9.eq_1) := rr c77_9.eq_1
def c77_10 : ACode := .ops [⟨some 31, .build [.bool false, .int .i64 0, .int .i64 0, .int .i64 0, .int .i64 0, .int .i64 0] [], none, []⟩,
  ⟨none, .store (.t 2) 6 (.t 31), none, [2]⟩,
  ⟨some 3, .mv (.c (.bool false)), none, []⟩] [2, 3]
theorem r77_10 : type_of% (@rr _ _ c77_10.eq_1) := rr c77_10.eq_1
def c77_11 : ACode := .seq c77_10 .ret
theorem r77_11 : type_of% (@rr _ _ c77_11.eq_1) := rr c77_11.eq_1
def c77_12 : ACode := .cond (.t 30) c77_11 .skip
theorem r77_12 : type_of% (@rr _ _ c77_12.eq_1) := rr c77_12.eq_1
def c77_13 : ACode := .seq c77_9 c77_12
theorem r77_13 : type_of% (@rr _ _ c77_13.eq_1) := rr c77_13.eq_1
def c77_14 : ACode := .ops [⟨some 32, .load 6 true (.t 5), none, [5]⟩,
  ⟨none, .store (.t 2) 6 (.t 32), none, [2]⟩,
  ⟨some 3, .mv (.c (.bool true)), none, []⟩] [2, 3]
theorem r77_14 : type_of% (@rr _ _ c77_14.eq_1) := rr c77_14.eq_1
def c77_15 : ACode := .seq c77_14 .ret
theorem r77_15 : type_of% (@rr _ _ c77_15.eq_1) := rr c77_15.eq_1
def c77_16 : ACode := .seq c77_13 c77_15
theorem r77_16 : type_of% (@rr _ _ c77_16.eq_1) := rr c77_16.eq_1
def c77_17 : ACode := .seq c77_8 c77_16
theorem r77_17 : type_of% (@rr _ _ c77_17.eq_1) := rr c77_17.eq_1
def c77_18 : ACode := .seq c77_2 c77_17
theorem r77_18 : type_of% (@rr _ _ c77_18.eq_1) := rr c77_18.eq_1
def c77_19 : ACode := .seq c77_1 c77_18
theorem r77_19 : type_of% (@rr _ _ c77_19.eq_1) := rr c77_19.eq_1
def c77_20 : ACode := .seq c77_0 c77_19
theorem r77_20 : type_of% (@rr _ _ c77_20.eq_1) := rr c77_20.eq_1
def a77 : AFun := ⟨1, 33, c77_20, [.cell 2 6 true, .t 3]⟩
attribute [simp] r77_0 r77_1 r77_2 r77_3 r77_4 r77_5 r77_6 r77_7 r77_8 r77_9 r77_10 r77_11 r77_12 r77_13 r77_14 r77_15 r77_16 r77_17 r77_18 r77_19 r77_20
theorem m77 : mFun Try.prog Try.f77 a77 = true := by decide +kernel
def Unpack1 (p w : Int) (x : Ref Word) : Option Int := if okW x.v.v ∧ aField p w ∧ w ≠ 32 then some (get x.v.v p w) else none
theorem runs_Unpack1 (p w : Int) (x : Ref Word) (c : Int) (h : Unpack1 p w x = some c) : Runs (tbl [(129, sp3 Get)]) a130 [Arg.enc p, Arg.enc w, Arg.enc x] (Arg.enc c) := by
  unfold Unpack1 at h
  split at h
  · rename_i hw
    cases h
    obtain ⟨⟨v⟩⟩ := x
    obtain ⟨hv, hf, hw⟩ := hw
    simp only at hv
    refine ⟨rfl, fun g => run_def ?_⟩
    unfold a130
    have hw2 : w = 1 ∨ w = 4 ∨ w = 8 := by rcases hf with ⟨rfl, rfl⟩ | ⟨rfl, rfl⟩ | ⟨rfl, rfl⟩ | ⟨rfl, rfl⟩ | ⟨rfl, rfl⟩ <;> omega
    have e1 : IntKind.i64.wrap (get v p w) = get v p w := by
      unfold get
      rcases hw2 with rfl | rfl | rfl <;> simp <;> refine wrap64 (by omega) (by omega)
    simp -implicitDefEqProofs [Get, hv, hf, e1]
  · cases h
theorem c_Unpack1 : Contract Try.prog 130 (sp3 Unpack1) :=
  contract_of_runs mixed (tbl_cons c_Get tbl_nil) Try.func130 m130 (sp3_runs runs_Unpack1)
theorem pack_ne (n : Node) (h : rightNode n = true) : (pack n).v ≠ 0 := by
  have hb := h
  unfold pack
  rw [if_pos h]
  obtain ⟨leaf, value, feature, cut, left, right⟩ := n
  cases leaf
  · simp [rightNode] at hb
    simp
    omega
  · simp
    omega
theorem runs_Unpack (w : Word) (c : Node × Bool) (h : Unpack w = some c) : Runs (tbl [(128, sp3 Signed), (129, sp3 Get), (130, sp3 Unpack1), (131, sp1 fun n => some (pack n))]) a77 [Arg.enc w] (Arg.enc c) := by
  unfold Unpack at h
  split at h
  · rename_i hw
    cases h
    obtain ⟨v⟩ := w
    simp only at hw
    have hv : okW v := hw
    refine ⟨rfl, fun g => run_def ?_⟩
    unfold a77
    have w1 : IntKind.i64.wrap (v / 4294967296 % 16) = v / 4294967296 % 16 := wrap64 (by omega) (by omega)
    by_cases hl : v / 9223372036854775808 = 1
    · have hl2 : ¬ v / 9223372036854775808 % 2 = 0 := by omega
      have hr : raw v = ⟨true, wrap32 (v % 4294967296), 0, 0, 0, 0⟩ := by simp [raw, hl]
      have hne : ¬ v = 0 := by omega
      by_cases h2 : (pack ⟨true, wrap32 (v % 4294967296), 0, 0, 0, 0⟩).v = v
      · have h3 : pack ⟨true, wrap32 (v % 4294967296), 0, 0, 0, 0⟩ = ⟨v⟩ := by cases hp : pack ⟨true, wrap32 (v % 4294967296), 0, 0, 0, 0⟩; rw [hp] at h2; simpa using h2
        have h1 : rightNode ⟨true, wrap32 (v % 4294967296), 0, 0, 0, 0⟩ = true := by
          cases h1 : rightNode ⟨true, wrap32 (v % 4294967296), 0, 0, 0, 0⟩
          · simp [pack, h1] at h3; omega
          · rfl
        simp -implicitDefEqProofs [Signed, Get, get, hv, aField, Unpack1, hl2, hne, h2, unpack, hr, h1, h3]
      · have h3 : ¬ pack ⟨true, wrap32 (v % 4294967296), 0, 0, 0, 0⟩ = ⟨v⟩ := fun e => h2 (by rw [e])
        simp -implicitDefEqProofs [Signed, Get, get, hv, aField, Unpack1, hl2, hne, h2, unpack, hr, h3]
    · have hl2 : v / 9223372036854775808 % 2 = 0 := by omega
      generalize hn : (⟨false, 0, v / 4294967296 % 16, wrap32 (v % 4294967296), v / 1099511627776 % 256, v / 281474976710656 % 256⟩ : Node) = n at *
      have hr : raw v = n := by rw [← hn]; simp [raw, hl]
      by_cases hne : v = 0
      · have h3 : ¬ (rightNode n = true ∧ pack n = ⟨v⟩) := fun ⟨a, b⟩ => pack_ne n a (by rw [b]; exact hne)
        rw [← hn] at hr h3
        subst hne
        clear hl2 hl
        have hv0 : okW 0 := hv
        have hr0 : raw 0 = ⟨false, 0, 0, 0, 0, 0⟩ := by rw [hr]; rfl
        have h30 : rightNode ⟨false, 0, 0, 0, 0, 0⟩ = false := rfl
        simp -implicitDefEqProofs [Signed, Get, get, hv0, aField, Unpack1, unpack, hr0, h30]
      · by_cases h2 : (pack n).v = v
        · have h3 : pack n = ⟨v⟩ := by cases hp : pack n; rw [hp] at h2; simpa using h2
          have h1 : rightNode n = true := by
            cases h1 : rightNode n
            · simp [pack, h1] at h3; omega
            · rfl
          rw [← hn] at h1 hr h2 h3
          simp -implicitDefEqProofs [Signed, Get, get, hv, aField, Unpack1, hl2, hne, h2, unpack, hr, h1, h3]
        · have h3 : ¬ pack n = ⟨v⟩ := fun e => h2 (by rw [e])
          rw [← hn] at hr h2 h3
          simp -implicitDefEqProofs [Signed, Get, get, hv, aField, Unpack1, hl2, hne, h2, unpack, hr, h3]
  · cases h
theorem c_Unpack : Contract Try.prog 77 (sp1 Unpack) :=
  contract_of_runs mixed (tbl_cons c_Signed (tbl_cons c_Get (tbl_cons c_Unpack1 (tbl_cons c_Pack tbl_nil)))) Try.func77 m77 (sp1_runs runs_Unpack)
end Go.Co
