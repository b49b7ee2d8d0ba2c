/- CO: nodes, by the program. -/
import Derived.Test.YtagfmcachoaacaaCoB
namespace Go.Co
open Go.Am Go.Proofs
set_option linter.unusedSimpArgs false
set_option linter.unusedVariables false
def c105_0 : ACode := .ops [⟨some 2, .mv (.c (.bool false)), none, []⟩] [0]
theorem r105_0 : type_of% (@rr _ _ c105_0.eq_1) := rr c105_0.eq_1
def c105_1 : ACode := .ops [⟨some 3, .mv (.t 0), none, []⟩,
  ⟨some 4, .bin .geq (.t 3) (.c (.int .i64 1)), none, []⟩,
  ⟨some 5, .mv (.t 4), none, []⟩,
  ⟨some 6, .mv (.t 0), some (5, true), []⟩,
  ⟨some 7, .bin .lss (.t 6) (.c (.int .i64 31)), some (5, true), []⟩,
  ⟨some 8, .pick (.t 5) (.t 7) (.c (.bool false)), none, []⟩,
  ⟨some 2, .mv (.t 8), none, []⟩] [2]
theorem r105_1 : type_of% (@rr _ _ c105_1.eq_1) := rr c105_1.eq_1
def c105_2 : ACode := .seq c105_1 .ret
theorem r105_2 : type_of% (@rr _ _ c105_2.eq_1) := rr c105_2.eq_1
def c105_3 : ACode := .seq c105_0 c105_2
theorem r105_3 : type_of% (@rr _ _ c105_3.eq_1) := rr c105_3.eq_1
def a105 : AFun := ⟨1, 9, c105_3, [.t 2]⟩
attribute [simp] r105_0 r105_1 r105_2 r105_3
theorem m105 : mFun Try.prog Try.f105 a105 = true := by decide +kernel
def c91_0 : ACode := .ops [⟨some 1, .box (.t 0) 6, none, []⟩,
  ⟨some 2, .mv (.c (.bool false)), none, []⟩] [1]
theorem r91_0 : type_of% (@rr _ _ c91_0.eq_1) := rr c91_0.eq_1
def c91_1 : ACode := .ops [⟨some 3, .fad (.t 1) 0, none, [1]⟩,
  ⟨some 4, .load 1 false (.t 3), none, [1]⟩] [1, 4]
theorem r91_1 : type_of% (@rr _ _ c91_1.eq_1) := rr c91_1.eq_1
def c91_2 : ACode := .ops [⟨some 5, .load 6 true (.t 1), none, [1]⟩,
  ⟨some 6, .fad (.t 1) 1, none, [1]⟩,
  ⟨some 7, .load 1 false (.t 6), none, [1]⟩,
  ⟨some 8, .build [.bool false, .int .i64 0, .int .i64 0, .int .i64 0, .int .i64 0, .int .i64 0] [(0, 1, .c (.bool true)), (1, 1, .t 7)], none, []⟩,
  ⟨some 9, .eqa false [true, false, false, false, false, false] (.t 5) (.t 8), none, []⟩,
  ⟨some 10, .mv (.t 9), none, []⟩,
  ⟨some 11, .fad (.t 1) 1, some (10, true), [1]⟩,
  ⟨some 12, .load 1 false (.t 11), some (10, true), [1]⟩,
  ⟨some 13, .call 70 [.t 12, .c (.int .i64 32)], some (10, true), []⟩,
  ⟨some 14, .pick (.t 10) (.t 13) (.c (.bool false)), none, []⟩,
  ⟨some 2, .mv (.t 14), none, []⟩] [2]
theorem r91_2 : type_of% (@rr _ _ c91_2.eq_1) := rr c91_2.eq_1
def c91_3 : ACode := .seq c91_2 .ret
theorem r91_3 : type_of% (@rr _ _ c91_3.eq_1) := rr c91_3.eq_1
def c91_4 : ACode := .cond (.t 4) c91_3 .skip
theorem r91_4 : type_of% (@rr _ _ c91_4.eq_1) := rr c91_4.eq_1
def c91_5 : ACode := .seq c91_1 c91_4
theorem r91_5 : type_of% (@rr _ _ c91_5.eq_1) := rr c91_5.eq_1
def c91_6 : ACode := .ops [⟨some 15, .fad (.t 1) 1, none, [1]⟩,
  ⟨some 16, .load 1 false (.t 15), none, [1]⟩,
  ⟨some 17, .bin .eql (.t 16) (.c (.int .i64 0)), none, []⟩,
  ⟨some 18, .mv (.t 17), none, []⟩,
  ⟨some 19, .fad (.t 1) 2, some (18, true), [1]⟩,
  ⟨some 20, .load 1 false (.t 19), some (18, true), [1]⟩,
  ⟨some 21, .bin .geq (.t 20) (.c (.int .i64 0)), some (18, true), []⟩,
  ⟨some 22, .pick (.t 18) (.t 21) (.c (.bool false)), none, []⟩,
  ⟨some 23, .mv (.t 22), none, []⟩,
  ⟨some 24, .fad (.t 1) 2, some (23, true), [1]⟩,
  ⟨some 25, .load 1 false (.t 24), some (23, true), [1]⟩,
  ⟨some 26, .bin .lss (.t 25) (.c (.int .i64 4)), some (23, true), []⟩,
  ⟨some 27, .pick (.t 23) (.t 26) (.c (.bool false)), none, []⟩,
  ⟨some 28, .mv (.t 27), none, []⟩,
  ⟨some 29, .fad (.t 1) 3, some (28, true), [1]⟩,
  ⟨some 30, .load 1 false (.t 29), some (28, true), [1]⟩,
  ⟨some 31, .call 70 [.t 30, .c (.int .i64 32)], some (28, true), []⟩,
  ⟨some 32, .pick (.t 28) (.t 31) (.c (.bool false)), none, []⟩,
  ⟨some 33, .mv (.t 32), none, []⟩,
  ⟨some 34, .fad (.t 1) 4, some (33, true), [1]⟩,
  ⟨some 35, .load 1 false (.t 34), some (33, true), [1]⟩,
  ⟨some 36, .call 105 [.t 35], some (33, true), []⟩,
  ⟨some 37, .pick (.t 33) (.t 36) (.c (.bool false)), none, []⟩,
  ⟨some 38, .mv (.t 37), none, []⟩,
  ⟨some 39, .fad (.t 1) 5, some (38, true), [1]⟩,
  ⟨some 40, .load 1 false (.t 39), some (38, true), [1]⟩,
  ⟨some 41, .call 105 [.t 40], some (38, true), []⟩,
  ⟨some 42, .pick (.t 38) (.t 41) (.c (.bool false)), none, []⟩,
  ⟨some 2, .mv (.t 42), none, []⟩] [2]
theorem r91_6 : type_of% (@rr _ _ c91_6.eq_1) := rr c91_6.eq_1
def c91_7 : ACode := .seq c91_6 .ret
theorem r91_7 : type_of% (@rr _ _ c91_7.eq_1) := rr c91_7.eq_1
def c91_8 : ACode := .seq c91_5 c91_7
theorem r91_8 : type_of% (@rr _ _ c91_8.eq_1) := rr c91_8.eq_1
def c91_9 : ACode := .seq c91_0 c91_8
theorem r91_9 : type_of% (@rr _ _ c91_9.eq_1) := rr c91_9.eq_1
def a91 : AFun := ⟨1, 43, c91_9, [.t 2]⟩
attribute [simp] r91_0 r91_1 r91_2 r91_3 r91_4 r91_5 r91_6 r91_7 r91_8 r91_9
theorem m91 : mFun Try.prog Try.f91 a91 = true := by decide +kernel
def c89_0 : ACode := .ops [⟨some 4, .mv (.c (.bool false)), none, []⟩] [0, 1]
theorem r89_0 : type_of% (@rr _ _ c89_0.eq_1) := rr c89_0.eq_1
def c89_1 : ACode := .ops [⟨some 5, .mv (.t 0), none, []⟩,
  ⟨some 6, .bin .geq (.t 5) (.c (.int .i64 0)), none, []⟩,
  ⟨some 7, .mv (.t 6), none, []⟩,
  ⟨some 8, .mv (.t 0), some (7, true), []⟩,
  ⟨some 9, .bin .lss (.t 8) (.c (.int .i64 64)), some (7, true), []⟩,
  ⟨some 10, .pick (.t 7) (.t 9) (.c (.bool false)), none, []⟩,
  ⟨some 11, .mv (.t 10), none, []⟩,
  ⟨some 12, .mv (.t 1), some (11, true), []⟩,
  ⟨some 13, .bin .geq (.t 12) (.c (.int .i64 1)), some (11, true), []⟩,
  ⟨some 14, .pick (.t 11) (.t 13) (.c (.bool false)), none, []⟩,
  ⟨some 15, .mv (.t 14), none, []⟩,
  ⟨some 16, .mv (.t 1), some (15, true), []⟩,
  ⟨some 17, .mv (.t 0), some (15, true), []⟩,
  ⟨some 18, .bin .sub (.c (.int .i64 64)) (.t 17), some (15, true), []⟩,
  ⟨some 19, .bin .leq (.t 16) (.t 18), some (15, true), []⟩,
  ⟨some 20, .pick (.t 15) (.t 19) (.c (.bool false)), none, []⟩,
  ⟨some 4, .mv (.t 20), none, []⟩] [4]
theorem r89_1 : type_of% (@rr _ _ c89_1.eq_1) := rr c89_1.eq_1
def c89_2 : ACode := .seq c89_1 .ret
theorem r89_2 : type_of% (@rr _ _ c89_2.eq_1) := rr c89_2.eq_1
def c89_3 : ACode := .seq c89_0 c89_2
theorem r89_3 : type_of% (@rr _ _ c89_3.eq_1) := rr c89_3.eq_1
def a89 : AFun := ⟨2, 21, c89_3, [.t 4]⟩
attribute [simp] r89_0 r89_1 r89_2 r89_3
theorem m89 : mFun Try.prog Try.f89 a89 = true := by decide +kernel
def c90_0 : ACode := .ops [⟨some 2, .mv (.c (.int .u64 0)), none, []⟩] [0]
theorem r90_0 : type_of% (@rr _ _ c90_0.eq_1) := rr c90_0.eq_1
def c90_1 : ACode := .ops [⟨some 3, .mv (.t 0), none, []⟩,
  ⟨some 4, .bin .sub (.c (.int .i64 64)) (.t 3), none, []⟩,
  ⟨some 5, .conv .u64 (.t 4), none, []⟩,
  ⟨some 6, .bin .shr (.c (.int .u64 18446744073709551615)) (.t 5), none, []⟩,
  ⟨some 2, .mv (.t 6), none, []⟩] [2]
theorem r90_1 : type_of% (@rr _ _ c90_1.eq_1) := rr c90_1.eq_1
def c90_2 : ACode := .seq c90_1 .ret
theorem r90_2 : type_of% (@rr _ _ c90_2.eq_1) := rr c90_2.eq_1
def c90_3 : ACode := .seq c90_0 c90_2
theorem r90_3 : type_of% (@rr _ _ c90_3.eq_1) := rr c90_3.eq_1
def a90 : AFun := ⟨1, 7, c90_3, [.t 2]⟩
attribute [simp] r90_0 r90_1 r90_2 r90_3
theorem m90 : mFun Try.prog Try.f90 a90 = true := by decide +kernel
def c92_0 : ACode := .ops [⟨some 8, .mv (.c (.int .u64 0)), none, []⟩] [0, 1, 2, 3]
theorem r92_0 : type_of% (@rr _ _ c92_0.eq_1) := rr c92_0.eq_1
def c92_1 : ACode := .ops [⟨some 10, .mv (.t 1), none, []⟩,
  ⟨some 11, .mv (.t 2), none, []⟩,
  ⟨some 12, .call 89 [.t 10, .t 11], none, []⟩,
  ⟨some 13, .un .not (.t 12), none, []⟩] [0, 1, 2, 3, 13]
theorem r92_1 : type_of% (@rr _ _ c92_1.eq_1) := rr c92_1.eq_1
def c92_2 : ACode := .ops [⟨some 14, .mv (.t 0), none, []⟩,
  ⟨some 8, .mv (.t 14), none, []⟩] [8]
theorem r92_2 : type_of% (@rr _ _ c92_2.eq_1) := rr c92_2.eq_1
def c92_3 : ACode := .seq c92_2 .ret
theorem r92_3 : type_of% (@rr _ _ c92_3.eq_1) := rr c92_3.eq_1
def c92_4 : ACode := .cond (.t 13) c92_3 .skip
theorem r92_4 : type_of% (@rr _ _ c92_4.eq_1) := rr c92_4.eq_1
def c92_5 : ACode := .seq c92_1 c92_4
theorem r92_5 : type_of% (@rr _ _ c92_5.eq_1) := rr c92_5.eq_1
def c92_6 : ACode := .ops [⟨some 15, .mv (.t 2), none, []⟩,
  ⟨some 16, .call 90 [.t 15], none, []⟩,
  ⟨some 17, .mv (.t 1), none, []⟩,
  ⟨some 18, .conv .u64 (.t 17), none, []⟩,
  ⟨some 19, .bin .shl (.t 16) (.t 18), none, []⟩,
  ⟨some 9, .mv (.t 19), none, []⟩] [0, 1, 3, 9]
theorem r92_6 : type_of% (@rr _ _ c92_6.eq_1) := rr c92_6.eq_1
def c92_7 : ACode := .ops [⟨some 20, .mv (.t 0), none, []⟩,
  ⟨some 21, .mv (.t 9), none, []⟩,
  ⟨some 22, .bin .andNot (.t 20) (.t 21), none, []⟩,
  ⟨some 23, .mv (.t 3), none, []⟩,
  ⟨some 24, .mv (.t 1), none, []⟩,
  ⟨some 25, .conv .u64 (.t 24), none, []⟩,
  ⟨some 26, .bin .shl (.t 23) (.t 25), none, []⟩,
  ⟨some 27, .mv (.t 9), none, []⟩,
  ⟨some 28, .bin .and (.t 26) (.t 27), none, []⟩,
  ⟨some 29, .bin .or (.t 22) (.t 28), none, []⟩,
  ⟨some 8, .mv (.t 29), none, []⟩] [8]
theorem r92_7 : type_of% (@rr _ _ c92_7.eq_1) := rr c92_7.eq_1
def c92_8 : ACode := .seq c92_7 .ret
theorem r92_8 : type_of% (@rr _ _ c92_8.eq_1) := rr c92_8.eq_1
def c92_9 : ACode := .seq c92_6 c92_8
theorem r92_9 : type_of% (@rr _ _ c92_9.eq_1) := rr c92_9.eq_1
def c92_10 : ACode := .seq c92_5 c92_9
theorem r92_10 : type_of% (@rr _ _ c92_10.eq_1) := rr c92_10.eq_1
def c92_11 : ACode := .seq c92_0 c92_10
theorem r92_11 : type_of% (@rr _ _ c92_11.eq_1) := rr c92_11.eq_1
def a92 : AFun := ⟨4, 30, c92_11, [.t 8]⟩
attribute [simp] r92_0 r92_1 r92_2 r92_3 r92_4 r92_5 r92_6 r92_7 r92_8 r92_9 r92_10 r92_11
theorem m92 : mFun Try.prog Try.f92 a92 = true := by decide +kernel
def c79_0 : ACode := .ops [⟨some 6, .mv (.c (.int .u64 0)), none, []⟩] [0, 1, 2]
theorem r79_0 : type_of% (@rr _ _ c79_0.eq_1) := rr c79_0.eq_1
def c79_1 : ACode := .ops [⟨some 7, .mv (.t 1), none, []⟩,
  ⟨some 8, .mv (.t 2), none, []⟩,
  ⟨some 9, .call 89 [.t 7, .t 8], none, []⟩,
  ⟨some 10, .un .not (.t 9), none, []⟩] [0, 1, 2, 10]
theorem r79_1 : type_of% (@rr _ _ c79_1.eq_1) := rr c79_1.eq_1
def c79_2 : ACode := .ops [⟨some 6, .mv (.c (.int .u64 0)), none, []⟩] [6]
theorem r79_2 : type_of% (@rr _ _ c79_2.eq_1) := rr c79_2.eq_1
def c79_3 : ACode := .seq c79_2 .ret
theorem r79_3 : type_of% (@rr _ _ c79_3.eq_1) := rr c79_3.eq_1
def c79_4 : ACode := .cond (.t 10) c79_3 .skip
theorem r79_4 : type_of% (@rr _ _ c79_4.eq_1) := rr c79_4.eq_1
def c79_5 : ACode := .seq c79_1 c79_4
theorem r79_5 : type_of% (@rr _ _ c79_5.eq_1) := rr c79_5.eq_1
def c79_6 : ACode := .ops [⟨some 11, .mv (.t 0), none, []⟩,
  ⟨some 12, .mv (.t 1), none, []⟩,
  ⟨some 13, .conv .u64 (.t 12), none, []⟩,
  ⟨some 14, .bin .shr (.t 11) (.t 13), none, []⟩,
  ⟨some 15, .mv (.t 2), none, []⟩,
  ⟨some 16, .call 90 [.t 15], none, []⟩,
  ⟨some 17, .bin .and (.t 14) (.t 16), none, []⟩,
  ⟨some 6, .mv (.t 17), none, []⟩] [6]
theorem r79_6 : type_of% (@rr _ _ c79_6.eq_1) := rr c79_6.eq_1
def c79_7 : ACode := .seq c79_6 .ret
theorem r79_7 : type_of% (@rr _ _ c79_7.eq_1) := rr c79_7.eq_1
def c79_8 : ACode := .seq c79_5 c79_7
theorem r79_8 : type_of% (@rr _ _ c79_8.eq_1) := rr c79_8.eq_1
def c79_9 : ACode := .seq c79_0 c79_8
theorem r79_9 : type_of% (@rr _ _ c79_9.eq_1) := rr c79_9.eq_1
def a79 : AFun := ⟨3, 18, c79_9, [.t 6]⟩
attribute [simp] r79_0 r79_1 r79_2 r79_3 r79_4 r79_5 r79_6 r79_7 r79_8 r79_9
theorem m79 : mFun Try.prog Try.f79 a79 = true := by decide +kernel
def c78_0 : ACode := .ops [⟨some 6, .mv (.c (.int .i64 0)), none, []⟩] [0, 1, 2]
theorem r78_0 : type_of% (@rr _ _ c78_0.eq_1) := rr c78_0.eq_1
def c78_1 : ACode := .ops [⟨some 7, .mv (.t 0), none, []⟩,
  ⟨some 8, .mv (.t 1), none, []⟩,
  ⟨some 9, .mv (.t 2), none, []⟩,
  ⟨some 10, .call 79 [.t 7, .t 8, .t 9], none, []⟩,
  ⟨some 11, .conv .i64 (.t 10), none, []⟩,
  ⟨some 12, .mv (.t 2), none, []⟩,
  ⟨some 13, .call 88 [.t 11, .t 12], none, []⟩,
  ⟨some 6, .mv (.t 13), none, []⟩] [6]
theorem r78_1 : type_of% (@rr _ _ c78_1.eq_1) := rr c78_1.eq_1
def c78_2 : ACode := .seq c78_1 .ret
theorem r78_2 : type_of% (@rr _ _ c78_2.eq_1) := rr c78_2.eq_1
def c78_3 : ACode := .seq c78_0 c78_2
theorem r78_3 : type_of% (@rr _ _ c78_3.eq_1) := rr c78_3.eq_1
def a78 : AFun := ⟨3, 14, c78_3, [.t 6]⟩
attribute [simp] r78_0 r78_1 r78_2 r78_3
theorem m78 : mFun Try.prog Try.f78 a78 = true := by decide +kernel
def c81_0 : ACode := .ops [⟨some 1, .box (.t 0) 6, none, []⟩,
  ⟨some 2, .mv (.c (.int .u64 0)), none, []⟩] [1]
theorem r81_0 : type_of% (@rr _ _ c81_0.eq_1) := rr c81_0.eq_1
def c81_1 : ACode := .ops [⟨some 4, .load 6 true (.t 1), none, [1]⟩,
  ⟨some 5, .call 91 [.t 4], none, []⟩,
  ⟨some 6, .un .not (.t 5), none, []⟩] [1, 6]
theorem r81_1 : type_of% (@rr _ _ c81_1.eq_1) := rr c81_1.eq_1
def c81_2 : ACode := .ops [⟨some 2, .mv (.c (.int .u64 0)), none, []⟩] [2]
theorem r81_2 : type_of% (@rr _ _ c81_2.eq_1) := rr c81_2.eq_1
def c81_3 : ACode := .seq c81_2 .ret
theorem r81_3 : type_of% (@rr _ _ c81_3.eq_1) := rr c81_3.eq_1
def c81_4 : ACode := .cond (.t 6) c81_3 .skip
theorem r81_4 : type_of% (@rr _ _ c81_4.eq_1) := rr c81_4.eq_1
def c81_5 : ACode := .seq c81_1 c81_4
theorem r81_5 : type_of% (@rr _ _ c81_5.eq_1) := rr c81_5.eq_1
def c81_6 : ACode := .ops [⟨some 7, .fad (.t 1) 0, none, [1]⟩,
  ⟨some 8, .load 1 false (.t 7), none, [1]⟩] [1, 8]
theorem r81_6 : type_of% (@rr _ _ c81_6.eq_1) := rr c81_6.eq_1
def c81_7 : ACode := .ops [⟨some 9, .fad (.t 1) 1, none, [1]⟩,
  ⟨some 10, .load 1 false (.t 9), none, [1]⟩,
  ⟨some 11, .conv .u64 (.t 10), none, []⟩,
  ⟨some 12, .call 92 [.c (.int .u64 9223372036854775808), .c (.int .i64 0), .c (.int .i64 32), .t 11], none, []⟩,
  ⟨some 2, .mv (.t 12), none, []⟩] [2]
theorem r81_7 : type_of% (@rr _ _ c81_7.eq_1) := rr c81_7.eq_1
def c81_8 : ACode := .seq c81_7 .ret
theorem r81_8 : type_of% (@rr _ _ c81_8.eq_1) := rr c81_8.eq_1
def c81_9 : ACode := .cond (.t 8) c81_8 .skip
theorem r81_9 : type_of% (@rr _ _ c81_9.eq_1) := rr c81_9.eq_1
def c81_10 : ACode := .seq c81_6 c81_9
theorem r81_10 : type_of% (@rr _ _ c81_10.eq_1) := rr c81_10.eq_1
def c81_11 : ACode := .ops [⟨some 13, .fad (.t 1) 3, none, [1]⟩,
  ⟨some 14, .load 1 false (.t 13), none, [1]⟩,
  ⟨some 15, .conv .u64 (.t 14), none, []⟩,
  ⟨some 16, .call 92 [.c (.int .u64 0), .c (.int .i64 0), .c (.int .i64 32), .t 15], none, []⟩,
  ⟨some 3, .mv (.t 16), none, []⟩] [1, 3]
theorem r81_11 : type_of% (@rr _ _ c81_11.eq_1) := rr c81_11.eq_1
def c81_12 : ACode := .ops [⟨some 17, .mv (.t 3), none, []⟩,
  ⟨some 18, .fad (.t 1) 2, none, [1]⟩,
  ⟨some 19, .load 1 false (.t 18), none, [1]⟩,
  ⟨some 20, .conv .u64 (.t 19), none, []⟩,
  ⟨some 21, .call 92 [.t 17, .c (.int .i64 32), .c (.int .i64 4), .t 20], none, []⟩,
  ⟨some 3, .mv (.t 21), none, []⟩] [1, 3]
theorem r81_12 : type_of% (@rr _ _ c81_12.eq_1) := rr c81_12.eq_1
def c81_13 : ACode := .ops [⟨some 22, .mv (.t 3), none, []⟩,
  ⟨some 23, .fad (.t 1) 4, none, [1]⟩,
  ⟨some 24, .load 1 false (.t 23), none, [1]⟩,
  ⟨some 25, .conv .u64 (.t 24), none, []⟩,
  ⟨some 26, .call 92 [.t 22, .c (.int .i64 40), .c (.int .i64 8), .t 25], none, []⟩,
  ⟨some 3, .mv (.t 26), none, []⟩] [1, 3]
theorem r81_13 : type_of% (@rr _ _ c81_13.eq_1) := rr c81_13.eq_1
def c81_14 : ACode := .ops [⟨some 27, .mv (.t 3), none, []⟩,
  ⟨some 28, .fad (.t 1) 5, none, [1]⟩,
  ⟨some 29, .load 1 false (.t 28), none, [1]⟩,
  ⟨some 30, .conv .u64 (.t 29), none, []⟩,
  ⟨some 31, .call 92 [.t 27, .c (.int .i64 48), .c (.int .i64 8), .t 30], none, []⟩,
  ⟨some 2, .mv (.t 31), none, []⟩] [2]
theorem r81_14 : type_of% (@rr _ _ c81_14.eq_1) := rr c81_14.eq_1
def c81_15 : ACode := .seq c81_14 .ret
theorem r81_15 : type_of% (@rr _ _ c81_15.eq_1) := rr c81_15.eq_1
def c81_16 : ACode := .seq c81_13 c81_15
theorem r81_16 : type_of% (@rr _ _ c81_16.eq_1) := rr c81_16.eq_1
def c81_17 : ACode := .seq c81_12 c81_16
theorem r81_17 : type_of% (@rr _ _ c81_17.eq_1) := rr c81_17.eq_1
def c81_18 : ACode := .seq c81_11 c81_17
theorem r81_18 : type_of% (@rr _ _ c81_18.eq_1) := rr c81_18.eq_1
def c81_19 : ACode := .seq c81_10 c81_18
theorem r81_19 : type_of% (@rr _ _ c81_19.eq_1) := rr c81_19.eq_1
def c81_20 : ACode := .seq c81_5 c81_19
theorem r81_20 : type_of% (@rr _ _ c81_20.eq_1) := rr c81_20.eq_1
def c81_21 : ACode := .seq c81_0 c81_20
theorem r81_21 : type_of% (@rr _ _ c81_21.eq_1) := rr c81_21.eq_1
def a81 : AFun := ⟨1, 32, c81_21, [.t 2]⟩
attribute [simp] r81_0 r81_1 r81_2 r81_3 r81_4 r81_5 r81_6 r81_7 r81_8 r81_9 r81_10 r81_11 r81_12 r81_13 r81_14 r81_15 r81_16 r81_17 r81_18 r81_19 r81_20 r81_21
theorem m81 : mFun Try.prog Try.f81 a81 = true := by decide +kernel
def child (n : Int) : Bool := decide (1 ≤ n) && decide (n < 31)
theorem runs_child (n : Int) (c : Bool) (h : some (child n) = some c) : Runs (tbl []) a105 [Arg.enc n] (Arg.enc c) := by
  cases h
  refine ⟨rfl, fun g => run_def ?_⟩
  unfold a105
  by_cases h1 : 1 ≤ n <;> simp -implicitDefEqProofs [child, h1]
theorem c_child : Contract Try.prog 105 (sp1 fun n => some (child n)) := contract_of_runs mixed tbl_nil Try.func105 m105 (sp1_runs runs_child)
theorem runs_Right (n : Node) (c : Bool) (h : some (rightNode n) = some c) : Runs (tbl [(70, sp2 Fits), (105, sp1 fun n => some (child n))]) a91 [Arg.enc n] (Arg.enc c) := by
  cases h
  refine ⟨rfl, fun g => run_def ?_⟩
  obtain ⟨leaf, value, feature, cut, left, right⟩ := n
  unfold a91
  cases leaf
  case false =>
    by_cases h1 : value = 0
    case neg => simp -implicitDefEqProofs [rightNode, Fits, child, h1]
    by_cases h2 : 0 ≤ feature
    case neg => simp -implicitDefEqProofs [rightNode, Fits, child, h1, h2]
    by_cases h3 : feature < 4
    case neg => simp -implicitDefEqProofs [rightNode, Fits, child, h1, h2, h3]
    cases h4 : fits cut
    case false => simp -implicitDefEqProofs [rightNode, Fits, child, h1, h2, h3, h4]
    by_cases h5 : 1 ≤ left
    case neg => simp -implicitDefEqProofs [rightNode, Fits, child, h1, h2, h3, h4, h5]
    by_cases h6 : left < 31
    case neg => simp -implicitDefEqProofs [rightNode, Fits, child, h1, h2, h3, h4, h5, h6]
    simp -implicitDefEqProofs [rightNode, Fits, child, h1, h2, h3, h4, h5, h6]
  case true =>
    by_cases h2 : feature = 0
    case neg => simp -implicitDefEqProofs [rightNode, Fits, h2]
    by_cases h3 : cut = 0
    case neg => simp -implicitDefEqProofs [rightNode, Fits, h2, h3]
    by_cases h4 : left = 0
    case neg => simp -implicitDefEqProofs [rightNode, Fits, h2, h3, h4]
    by_cases h5 : right = 0
    case neg => simp -implicitDefEqProofs [rightNode, Fits, h2, h3, h4, h5]
    cases h1 : fits value <;> simp -implicitDefEqProofs [rightNode, Fits, h1, h2, h3, h4, h5]
theorem c_Right : Contract Try.prog 91 (sp1 fun n => some (rightNode n)) :=
  contract_of_runs mixed (tbl_cons c_Fits (tbl_cons c_child tbl_nil)) Try.func91 m91 (sp1_runs runs_Right)
def field (p w : Int) : Bool := decide (0 ≤ p) && decide (p < 64) && decide (1 ≤ w) && decide (w ≤ 64 - p)
theorem runs_field (p w : Int) (c : Bool) (h : some (field p w) = some c) : Runs (tbl []) a89 [Arg.enc p, Arg.enc w] (Arg.enc c) := by
  cases h
  refine ⟨rfl, fun g => run_def ?_⟩
  unfold a89
  by_cases h1 : 0 ≤ p
  case neg => simp -implicitDefEqProofs [field, h1]
  by_cases h2 : p < 64
  case neg => simp -implicitDefEqProofs [field, h1, h2]
  by_cases h3 : 1 ≤ w
  case neg => simp -implicitDefEqProofs [field, h1, h2, h3]
  have e : IntKind.i64.wrap (64 - p) = 64 - p := wrap64 (by omega) (by omega)
  simp -implicitDefEqProofs [field, h1, h2, h3, e]
theorem c_field : Contract Try.prog 89 (sp2 fun p w => some (field p w)) := contract_of_runs mixed tbl_nil Try.func89 m89 (sp2_runs runs_field)
def ones (w : Int) : Int := if w = 1 then 1 else if w = 4 then 15 else if w = 8 then 255 else 4294967295
def Mask (w : Int) : Option Word := if w = 1 ∨ w = 4 ∨ w = 8 ∨ w = 32 then some ⟨ones w⟩ else none
theorem runs_mask (w : Int) (c : Word) (h : Mask w = some c) : Runs (tbl []) a90 [Arg.enc w] (Arg.enc c) := by
  unfold Mask at h
  split at h
  · rename_i hw
    cases h
    refine ⟨rfl, fun g => run_def ?_⟩
    unfold a90
    rcases hw with rfl | rfl | rfl | rfl <;> simp -implicitDefEqProofs [ones] <;> decide
  · cases h
theorem c_mask : Contract Try.prog 90 (sp1 Mask) := contract_of_runs mixed tbl_nil Try.func90 m90 (sp1_runs runs_mask)
def aField (p w : Int) : Prop := (p = 0 ∧ w = 32) ∨ (p = 63 ∧ w = 1) ∨ (p = 32 ∧ w = 4) ∨ (p = 40 ∧ w = 8) ∨ (p = 48 ∧ w = 8)
instance (p w : Int) : Decidable (aField p w) := by unfold aField; exact inferInstance
def get (x p w : Int) : Int := x / 2 ^ p.toNat % 2 ^ w.toNat
def Get (x : Word) (p w : Int) : Option Word := if okW x.v ∧ aField p w then some ⟨get x.v p w⟩ else none
theorem and_1 (a : Int) (h : okW a) : iand .u64 a 1 = a % 2 := by
  rw [u_and _ _ h ⟨by omega, by omega⟩]
  have e : (1 : Int).toNat = 1 := rfl
  rw [e, Nat.and_one_is_mod]
  have := h.1
  omega
theorem runs_Get (x : Word) (p w : Int) (c : Word) (h : Get x p w = some c) : Runs (tbl [(89, sp2 fun p w => some (field p w)), (90, sp1 Mask)]) a79 [Arg.enc x, Arg.enc p, Arg.enc w] (Arg.enc c) := by
  unfold Get at h
  split at h
  · rename_i hw
    cases h
    obtain ⟨v⟩ := x
    obtain ⟨hv, hf⟩ := hw
    simp only at hv
    have d (k : Int) (hk : 0 ≤ k) : v.fdiv k = v / k := Int.fdiv_eq_ediv_of_nonneg v hk
    have h1 := hv.1
    have h2 := hv.2
    have i1 := and_low v hv
    have i2 := and_15 (v / 4294967296) ⟨by omega, by omega⟩
    have i3 := and_255 (v / 1099511627776) ⟨by omega, by omega⟩
    have i4 := and_255 (v / 281474976710656) ⟨by omega, by omega⟩
    have i5 := and_1 (v / 9223372036854775808) ⟨by omega, by omega⟩
    refine ⟨rfl, fun g => run_def ?_⟩
    unfold a79
    rcases hf with ⟨rfl, rfl⟩ | ⟨rfl, rfl⟩ | ⟨rfl, rfl⟩ | ⟨rfl, rfl⟩ | ⟨rfl, rfl⟩ <;>
      simp -implicitDefEqProofs [get, field, Mask, ones, d, i1, i2, i3, i4, i5]
  · cases h
theorem c_Get : Contract Try.prog 79 (sp3 Get) :=
  contract_of_runs mixed (tbl_cons c_field (tbl_cons c_mask tbl_nil)) Try.func79 m79 (sp3_runs runs_Get)
def Signed (x : Word) (p w : Int) : Option Int := if okW x.v ∧ p = 0 ∧ w = 32 then some (wrap32 (x.v % 4294967296)) else none
theorem runs_Signed (x : Word) (p w c : Int) (h : Signed x p w = some c) : Runs (tbl [(79, sp3 Get), (88, sp2 Wrap)]) a78 [Arg.enc x, Arg.enc p, Arg.enc w] (Arg.enc c) := by
  unfold Signed at h
  split at h
  · rename_i hw
    cases h
    obtain ⟨v⟩ := x
    obtain ⟨hv, rfl, rfl⟩ := hw
    simp only at hv
    have w1 : IntKind.i64.wrap (v % 4294967296) = v % 4294967296 := wrap64 (by omega) (by omega)
    have b1 : -9223372036854775808 ≤ v % 4294967296 ∧ v % 4294967296 ≤ 9223372036854775807 := by omega
    refine ⟨rfl, fun g => run_def ?_⟩
    unfold a78
    simp -implicitDefEqProofs [Get, get, aField, hv, Wrap, w1, b1]
  · cases h
theorem c_Signed : Contract Try.prog 78 (sp3 Signed) :=
  contract_of_runs mixed (tbl_cons c_Get (tbl_cons c_Wrap tbl_nil)) Try.func78 m78 (sp3_runs runs_Signed)
def Put (x : Word) (p w : Int) (y : Word) : Option Word := if okW x.v ∧ aField p w ∧ w ≠ 1 ∧ get x.v p w = 0 then some ⟨x.v + y.v % 2 ^ w.toNat * 2 ^ p.toNat⟩ else none
theorem runs_Put (x : Word) (p w : Int) (y c : Word) (h : Put x p w y = some c) : Runs (tbl [(89, sp2 fun p w => some (field p w)), (90, sp1 Mask)]) a92 [Arg.enc x, Arg.enc p, Arg.enc w, Arg.enc y] (Arg.enc c) := by
  unfold Put at h
  split at h
  · rename_i hw
    cases h
    obtain ⟨v⟩ := x
    obtain ⟨y⟩ := y
    obtain ⟨hv, hf, hw1, hg⟩ := hw
    simp only at hv hg
    have hv1 := hv.1
    refine ⟨rfl, fun g => run_def ?_⟩
    unfold a92
    rcases hf with ⟨rfl, rfl⟩ | ⟨rfl, rfl⟩ | ⟨rfl, rfl⟩ | ⟨rfl, rfl⟩ | ⟨rfl, rfl⟩
    · simp [get] at hg
      have e := put_bits v (y % 18446744073709551616) 4294967295 0 32 hv (okW_mod _) rfl ⟨by omega, by omega⟩ (by simp; omega)
      simp only [Nat.reducePow] at e
      simp -implicitDefEqProofs [field, Mask, ones, u_conv, e]
      omega
    · exact absurd rfl hw1
    · simp [get] at hg
      have e := put_bits v (y * 4294967296 % 18446744073709551616) 64424509440 32 4 hv (okW_mod _) rfl ⟨by omega, by omega⟩ (by simp; omega)
      simp only [Nat.reducePow] at e
      simp -implicitDefEqProofs [field, Mask, ones, u_conv, e]
      omega
    · simp [get] at hg
      have e := put_bits v (y * 1099511627776 % 18446744073709551616) 280375465082880 40 8 hv (okW_mod _) rfl ⟨by omega, by omega⟩ (by simp; omega)
      simp only [Nat.reducePow] at e
      simp -implicitDefEqProofs [field, Mask, ones, u_conv, e]
      omega
    · simp [get] at hg
      have e := put_bits v (y * 281474976710656 % 18446744073709551616) 71776119061217280 48 8 hv (okW_mod _) rfl ⟨by omega, by omega⟩ (by simp; omega)
      simp only [Nat.reducePow] at e
      simp -implicitDefEqProofs [field, Mask, ones, u_conv, e]
      omega
  · cases h
theorem c_Put : Contract Try.prog 92 (sp4 Put) :=
  contract_of_runs mixed (tbl_cons c_field (tbl_cons c_mask tbl_nil)) Try.func92 m92 (sp4_runs runs_Put)
theorem runs_Pack (n : Node) (c : Word) (h : some (pack n) = some c) : Runs (tbl [(91, sp1 fun n => some (rightNode n)), (92, sp4 Put)]) a81 [Arg.enc n] (Arg.enc c) := by
  cases h
  refine ⟨rfl, fun g => run_def ?_⟩
  obtain ⟨leaf, value, feature, cut, left, right⟩ := n
  unfold a81
  cases h1 : rightNode ⟨leaf, value, feature, cut, left, right⟩
  case false => simp -implicitDefEqProofs [pack, h1]
  cases leaf
  case true =>
    have e1 : value % 18446744073709551616 % 4294967296 = value % 4294967296 := by omega
    simp -implicitDefEqProofs [pack, h1, u_conv, Put, get, aField, okW, e1]
  case false =>
    have hb := h1
    simp [rightNode] at hb
    have e1 : cut % 18446744073709551616 % 4294967296 = cut % 4294967296 := by omega
    have o1 : okW (cut % 4294967296) := ⟨by omega, by omega⟩
    have e2 : feature % 18446744073709551616 % 16 = feature := by omega
    have g1 : cut % 4294967296 / 4294967296 % 16 = 0 := by omega
    have o2 : okW (cut % 4294967296 + feature * 4294967296) := ⟨by omega, by omega⟩
    have e3 : left % 18446744073709551616 % 256 = left := by omega
    have g2 : (cut % 4294967296 + feature * 4294967296) / 1099511627776 % 256 = 0 := by omega
    have o3 : okW (cut % 4294967296 + feature * 4294967296 + left * 1099511627776) := ⟨by omega, by omega⟩
    have e4 : right % 18446744073709551616 % 256 = right := by omega
    have g3 : (cut % 4294967296 + feature * 4294967296 + left * 1099511627776) / 281474976710656 % 256 = 0 := by omega
    have o0 : okW 0 := ⟨by omega, by omega⟩
    simp -implicitDefEqProofs [pack, h1, u_conv, Put, get, aField, o0, o1, o2, o3, e1, e2, e3, e4, g1, g2, g3]
theorem c_Pack : Contract Try.prog 81 (sp1 fun n => some (pack n)) :=
  contract_of_runs mixed (tbl_cons c_Right (tbl_cons c_Put tbl_nil)) Try.func81 m81 (sp1_runs runs_Pack)
def c80_0 : ACode := .ops [⟨some 5, .mv (.c (.int .i64 0)), none, []⟩] [0, 1, 2]
theorem r80_0 : type_of% (@rr _ _ c80_0.eq_1) := rr c80_0.eq_1
def c80_1 : ACode := .ops [⟨some 6, .load 1 false (.t 2), none, []⟩,
  ⟨some 7, .mv (.t 0), none, []⟩,
  ⟨some 8, .mv (.t 1), none, []⟩,
  ⟨some 9, .call 79 [.t 6, .t 7, .t 8], none, []⟩,
  ⟨some 10, .conv .i64 (.t 9), none, []⟩,
  ⟨some 5, .mv (.t 10), none, []⟩] [5]
theorem r80_1 : type_of% (@rr _ _ c80_1.eq_1) := rr c80_1.eq_1
def c80_2 : ACode := .seq c80_1 .ret
theorem r80_2 : type_of% (@rr _ _ c80_2.eq_1) := rr c80_2.eq_1
def c80_3 : ACode := .seq c80_0 c80_2
theorem r80_3 : type_of% (@rr _ _ c80_3.eq_1) := rr c80_3.eq_1
def a80 : AFun := ⟨3, 11, c80_3, [.t 5]⟩
attribute [simp] r80_0 r80_1 r80_2 r80_3
theorem m80 : mFun Try.prog Try.f80 a80 = true := by decide +kernel
def c65_0 : ACode := .ops [⟨some 1, .box (.t 0) 1, none, []⟩,
  ⟨some 2, .alloc [.bool false, .int .i64 0, .int .i64 0, .int .i64 0, .int .i64 0, .int .i64 0], none, []⟩,
  ⟨some 3, .mv (.c (.bool false)), none, []⟩] [1, 2]
theorem r65_0 : type_of% (@rr _ _ c65_0.eq_1) := rr c65_0.eq_1
def c65_1 : ACode := .ops [⟨some 7, .load 1 false (.t 1), none, [1]⟩,
  ⟨some 8, .call 78 [.t 7, .c (.int .i64 0), .c (.int .i64 32)], none, []⟩,
  ⟨some 4, .mv (.t 8), none, []⟩] [1, 2, 4]
theorem r65_1 : type_of% (@rr _ _ c65_1.eq_1) := rr c65_1.eq_1
def c65_2 : ACode := .ops [⟨some 9, .mv (.t 4), none, []⟩,
  ⟨some 10, .build [.bool false, .int .i64 0, .int .i64 0, .int .i64 0, .int .i64 0, .int .i64 0] [(0, 1, .c (.bool true)), (1, 1, .t 9)], none, []⟩,
  ⟨some 5, .alloc [.bool false, .int .i64 0, .int .i64 0, .int .i64 0, .int .i64 0, .int .i64 0], none, []⟩,
  ⟨none, .store (.t 5) 6 (.t 10), none, [5]⟩] [1, 2, 4, 5]
theorem r65_2 : type_of% (@rr _ _ c65_2.eq_1) := rr c65_2.eq_1
def c65_3 : ACode := .ops [⟨some 11, .load 1 false (.t 1), none, [1]⟩,
  ⟨some 12, .call 79 [.t 11, .c (.int .i64 63), .c (.int .i64 1)], none, []⟩,
  ⟨some 13, .bin .eql (.t 12) (.c (.int .u64 0)), none, []⟩] [1, 2, 4, 5, 13]
theorem r65_3 : type_of% (@rr _ _ c65_3.eq_1) := rr c65_3.eq_1
def c65_4 : ACode := .ops [⟨some 14, .clo 80 [.t 1], none, [1]⟩,
  ⟨some 6, .mv (.t 14), none, []⟩] [1, 2, 4, 5, 6]
theorem r65_4 : type_of% (@rr _ _ c65_4.eq_1) := rr c65_4.eq_1
def c65_5 : ACode := .ops [⟨some 15, .mv (.t 4), none, []⟩,
  ⟨some 16, .mv (.t 6), none, []⟩,
  ⟨some 17, .dyn (.t 16) [.c (.int .i64 32), .c (.int .i64 4)], none, []⟩,
  ⟨some 18, .mv (.t 6), none, []⟩,
  ⟨some 19, .dyn (.t 18) [.c (.int .i64 40), .c (.int .i64 8)], none, []⟩,
  ⟨some 20, .mv (.t 6), none, []⟩,
  ⟨some 21, .dyn (.t 20) [.c (.int .i64 48), .c (.int .i64 8)], none, []⟩,
  ⟨some 22, .build [.bool false, .int .i64 0, .int .i64 0, .int .i64 0, .int .i64 0, .int .i64 0] [(3, 1, .t 15), (2, 1, .t 17), (4, 1, .t 19), (5, 1, .t 21)], none, []⟩,
  ⟨none, .store (.t 5) 6 (.t 22), none, [5]⟩] [1, 2, 5]
theorem r65_5 : type_of% (@rr _ _ c65_5.eq_1) := rr c65_5.eq_1
def c65_6 : ACode := .seq c65_4 c65_5
theorem r65_6 : type_of% (@rr _ _ c65_6.eq_1) := rr c65_6.eq_1
def c65_7 : ACode := .cond (.t 13) c65_6 .skip
theorem r65_7 : type_of% (@rr _ _ c65_7.eq_1) := rr c65_7.eq_1
def c65_8 : ACode := .seq c65_3 c65_7
theorem r65_8 : type_of% (@rr _ _ c65_8.eq_1) := rr c65_8.eq_1
def c65_9 : ACode := .ops [⟨some 23, .load 1 false (.t 1), none, [1]⟩,
  ⟨some 24, .bin .eql (.t 23) (.c (.int .u64 0)), none, []⟩,
  ⟨some 25, .mv (.t 24), none, []⟩,
  ⟨some 26, .load 6 true (.t 5), some (25, false), [5]⟩,
  ⟨some 27, .call 81 [.t 26], some (25, false), []⟩,
  ⟨some 28, .load 1 false (.t 1), some (25, false), [1]⟩,
  ⟨some 29, .bin .neq (.t 27) (.t 28), some (25, false), []⟩,
  ⟨some 30, .pick (.t 25) (.c (.bool true)) (.t 29), none, []⟩] [2, 5, 30]
theorem r65_9 : type_of% (@rr _ _ c65_9.eq_1) := rr c65_9.eq_1
def c65_10 : ACode := .ops [⟨some 31, .build [.bool false, .int .i64 0, .int .i64 0, .int .i64 0, .int .i64 0, .int .i64 0] [], none, []⟩,
  ⟨none, .store (.t 2) 6 (.t 31), none, [2]⟩,
  ⟨some 3, .mv (.c (.bool false)), none, []⟩] [2, 3]
theorem r65_10 : type_of% (@rr _ _ c65_10.eq_1) := rr c65_10.eq_1
def c65_11 : ACode := .seq c65_10 .ret
theorem r65_11 : type_of% (@rr _ _ c65_11.eq_1) := rr c65_11.eq_1
def c65_12 : ACode := .cond (.t 30) c65_11 .skip
theorem r65_12 : type_of% (@rr _ _ c65_12.eq_1) := rr c65_12.eq_1
def c65_13 : ACode := .seq c65_9 c65_12
theorem r65_13 : type_of% (@rr _ _ c65_13.eq_1) := rr c65_13.eq_1
def c65_14 : ACode := .ops [⟨some 32, .load 6 true (.t 5), none, [5]⟩,
  ⟨none, .store (.t 2) 6 (.t 32), none, [2]⟩,
  ⟨some 3, .mv (.c (.bool true)), none, []⟩] [2, 3]
theorem r65_14 : type_of% (@rr _ _ c65_14.eq_1) := rr c65_14.eq_1
def c65_15 : ACode := .seq c65_14 .ret
theorem r65_15 : type_of% (@rr _ _ c65_15.eq_1) := rr c65_15.eq_1
def c65_16 : ACode := .seq c65_13 c65_15
theorem r65_16 : type_of% (@rr _ _ c65_16.eq_1) := rr c65_16.eq_1
def c65_17 : ACode := .seq c65_8 c65_16
theorem r65_17 : type_of% (@rr _ _ c65_17.eq_1) := rr c65_17.eq_1
def c65_18 : ACode := .seq c65_2 c65_17
theorem r65_18 : type_of% (@rr _ _ c65_18.eq_1) := rr c65_18.eq_1
def c65_19 : ACode := .seq c65_1 c65_18
theorem r65_19 : type_of% (@rr _ _ c65_19.eq_1) := rr c65_19.eq_1
def c65_20 : ACode := .seq c65_0 c65_19
theorem r65_20 : type_of% (@rr _ _ c65_20.eq_1) := rr c65_20.eq_1
def a65 : AFun := ⟨1, 33, c65_20, [.cell 2 6 true, .t 3]⟩
attribute [simp] r65_0 r65_1 r65_2 r65_3 r65_4 r65_5 r65_6 r65_7 r65_8 r65_9 r65_10 r65_11 r65_12 r65_13 r65_14 r65_15 r65_16 r65_17 r65_18 r65_19 r65_20
theorem m65 : mFun Try.prog Try.f65 a65 = true := by decide +kernel
def Unpack1 (p w : Int) (x : Ref Word) : Option Int := if okW x.v.v ∧ aField p w ∧ w ≠ 32 then some (get x.v.v p w) else none
theorem runs_Unpack1 (p w : Int) (x : Ref Word) (c : Int) (h : Unpack1 p w x = some c) : Runs (tbl [(79, sp3 Get)]) a80 [Arg.enc p, Arg.enc w, Arg.enc x] (Arg.enc c) := by
  unfold Unpack1 at h
  split at h
  · rename_i hw
    cases h
    obtain ⟨⟨v⟩⟩ := x
    obtain ⟨hv, hf, hw⟩ := hw
    simp only at hv
    refine ⟨rfl, fun g => run_def ?_⟩
    unfold a80
    have hw2 : w = 1 ∨ w = 4 ∨ w = 8 := by rcases hf with ⟨rfl, rfl⟩ | ⟨rfl, rfl⟩ | ⟨rfl, rfl⟩ | ⟨rfl, rfl⟩ | ⟨rfl, rfl⟩ <;> omega
    have e1 : IntKind.i64.wrap (get v p w) = get v p w := by
      unfold get
      rcases hw2 with rfl | rfl | rfl <;> simp <;> refine wrap64 (by omega) (by omega)
    simp -implicitDefEqProofs [Get, hv, hf, e1]
  · cases h
theorem c_Unpack1 : Contract Try.prog 80 (sp3 Unpack1) :=
  contract_of_runs mixed (tbl_cons c_Get tbl_nil) Try.func80 m80 (sp3_runs runs_Unpack1)
theorem pack_ne (n : Node) (h : rightNode n = true) : (pack n).v ≠ 0 := by
  have hb := h
  unfold pack
  rw [if_pos h]
  obtain ⟨leaf, value, feature, cut, left, right⟩ := n
  cases leaf
  · simp [rightNode] at hb
    simp
    omega
  · simp
    omega
theorem runs_Unpack (w : Word) (c : Node × Bool) (h : Unpack w = some c) : Runs (tbl [(78, sp3 Signed), (79, sp3 Get), (80, sp3 Unpack1), (81, sp1 fun n => some (pack n))]) a65 [Arg.enc w] (Arg.enc c) := by
  unfold Unpack at h
  split at h
  · rename_i hw
    cases h
    obtain ⟨v⟩ := w
    simp only at hw
    have hv : okW v := hw
    refine ⟨rfl, fun g => run_def ?_⟩
    unfold a65
    have w1 : IntKind.i64.wrap (v / 4294967296 % 16) = v / 4294967296 % 16 := wrap64 (by omega) (by omega)
    by_cases hl : v / 9223372036854775808 = 1
    · have hl2 : ¬ v / 9223372036854775808 % 2 = 0 := by omega
      have hr : raw v = ⟨true, wrap32 (v % 4294967296), 0, 0, 0, 0⟩ := by simp [raw, hl]
      have hne : ¬ v = 0 := by omega
      by_cases h2 : (pack ⟨true, wrap32 (v % 4294967296), 0, 0, 0, 0⟩).v = v
      · have h3 : pack ⟨true, wrap32 (v % 4294967296), 0, 0, 0, 0⟩ = ⟨v⟩ := by cases hp : pack ⟨true, wrap32 (v % 4294967296), 0, 0, 0, 0⟩; rw [hp] at h2; simpa using h2
        have h1 : rightNode ⟨true, wrap32 (v % 4294967296), 0, 0, 0, 0⟩ = true := by
          cases h1 : rightNode ⟨true, wrap32 (v % 4294967296), 0, 0, 0, 0⟩
          · simp [pack, h1] at h3; omega
          · rfl
        simp -implicitDefEqProofs [Signed, Get, get, hv, aField, Unpack1, hl2, hne, h2, unpack, hr, h1, h3]
      · have h3 : ¬ pack ⟨true, wrap32 (v % 4294967296), 0, 0, 0, 0⟩ = ⟨v⟩ := fun e => h2 (by rw [e])
        simp -implicitDefEqProofs [Signed, Get, get, hv, aField, Unpack1, hl2, hne, h2, unpack, hr, h3]
    · have hl2 : v / 9223372036854775808 % 2 = 0 := by omega
      generalize hn : (⟨false, 0, v / 4294967296 % 16, wrap32 (v % 4294967296), v / 1099511627776 % 256, v / 281474976710656 % 256⟩ : Node) = n at *
      have hr : raw v = n := by rw [← hn]; simp [raw, hl]
      by_cases hne : v = 0
      · have h3 : ¬ (rightNode n = true ∧ pack n = ⟨v⟩) := fun ⟨a, b⟩ => pack_ne n a (by rw [b]; exact hne)
        rw [← hn] at hr h3
        subst hne
        clear hl2 hl
        have hv0 : okW 0 := hv
        have hr0 : raw 0 = ⟨false, 0, 0, 0, 0, 0⟩ := by rw [hr]; rfl
        have h30 : rightNode ⟨false, 0, 0, 0, 0, 0⟩ = false := rfl
        simp -implicitDefEqProofs [Signed, Get, get, hv0, aField, Unpack1, unpack, hr0, h30]
      · by_cases h2 : (pack n).v = v
        · have h3 : pack n = ⟨v⟩ := by cases hp : pack n; rw [hp] at h2; simpa using h2
          have h1 : rightNode n = true := by
            cases h1 : rightNode n
            · simp [pack, h1] at h3; omega
            · rfl
          rw [← hn] at h1 hr h2 h3
          simp -implicitDefEqProofs [Signed, Get, get, hv, aField, Unpack1, hl2, hne, h2, unpack, hr, h1, h3]
        · have h3 : ¬ pack n = ⟨v⟩ := fun e => h2 (by rw [e])
          rw [← hn] at hr h2 h3
          simp -implicitDefEqProofs [Signed, Get, get, hv, aField, Unpack1, hl2, hne, h2, unpack, hr, h3]
  · cases h
theorem c_Unpack : Contract Try.prog 65 (sp1 Unpack) :=
  contract_of_runs mixed (tbl_cons c_Signed (tbl_cons c_Get (tbl_cons c_Unpack1 (tbl_cons c_Pack tbl_nil)))) Try.func65 m65 (sp1_runs runs_Unpack)
end Go.Co
