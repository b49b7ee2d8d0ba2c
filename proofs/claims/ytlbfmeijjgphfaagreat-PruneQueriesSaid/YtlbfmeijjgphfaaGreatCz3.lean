/- CO: texts of this claim, one behind the other. -/
import Derived.Test.YtlbfmeijjgphfaaGreatCz2
import Derived.Test.YtlbfmeijjgphfaaGreatCz1
set_option linter.unusedVariables false
set_option linter.unusedSimpArgs false
/- CO: nodes, by the program. -/
namespace Go.Co
open Go.Am Go.Proofs
def c121_0 : ACode := .ops [⟨some 2, .mv (.c (.bool false)), none, []⟩] [0]
theorem r121_0 : type_of% (rr c121_0.eq_1) := rr rfl
def c121_1 : ACode := .ops [⟨some 3, .mv (.t 0), none, []⟩,⟨some 4, .bin .geq (.t 3) (.c (.int .i64 1)), none, []⟩,⟨some 5, .mv (.t 4), none, []⟩,⟨some 6, .mv (.t 0), some (5, true), []⟩,⟨some 7, .bin .lss (.t 6) (.c (.int .i64 31)), some (5, true), []⟩,⟨some 8, .pick (.t 5) (.t 7) (.c (.bool false)), none, []⟩,⟨some 2, .mv (.t 8), none, []⟩] [2]
theorem r121_1 : type_of% (rr c121_1.eq_1) := rr rfl
def c121_2 : ACode := .seq c121_1 .ret
theorem r121_2 : type_of% (rr c121_2.eq_1) := rr rfl
def c121_3 : ACode := .seq c121_0 c121_2
theorem r121_3 : type_of% (rr c121_3.eq_1) := rr rfl
def a121 : AFun := ⟨1, 9, c121_3, [.t 2]⟩
attribute [simp] r121_0 r121_1 r121_2 r121_3
theorem m121 : mFun Tryz.prog Tryz.f121 a121 = true := by decide +kernel
def c103_0 : ACode := .ops [⟨some 1, .box (.t 0) 6, none, []⟩,⟨some 2, .mv (.c (.bool false)), none, []⟩] [1]
theorem r103_0 : type_of% (rr c103_0.eq_1) := rr rfl
def c103_1 : ACode := .ops [⟨some 3, .fad (.t 1) 0, none, [1]⟩,⟨some 4, .load 1 false (.t 3), none, [1]⟩] [1, 4]
theorem r103_1 : type_of% (rr c103_1.eq_1) := rr rfl
def c103_2 : ACode := .ops [⟨some 5, .load 6 true (.t 1), none, [1]⟩,⟨some 6, .fad (.t 1) 1, none, [1]⟩,⟨some 7, .load 1 false (.t 6), none, [1]⟩,⟨some 8, .build [.bool false, .int .i64 0, .int .i64 0, .int .i64 0, .int .i64 0, .int .i64 0] [(0, 1, .c (.bool true)), (1, 1, .t 7)], none, []⟩,⟨some 9, .eqa false [true, false, false, false, false, false] (.t 5) (.t 8), none, []⟩,⟨some 10, .mv (.t 9), none, []⟩,⟨some 11, .fad (.t 1) 1, some (10, true), [1]⟩,⟨some 12, .load 1 false (.t 11), some (10, true), [1]⟩,⟨some 13, .call 71 [.t 12, .c (.int .i64 32)], some (10, true), []⟩,⟨some 14, .pick (.t 10) (.t 13) (.c (.bool false)), none, []⟩,⟨some 2, .mv (.t 14), none, []⟩] [2]
theorem r103_2 : type_of% (rr c103_2.eq_1) := rr rfl
def c103_3 : ACode := .seq c103_2 .ret
theorem r103_3 : type_of% (rr c103_3.eq_1) := rr rfl
def c103_4 : ACode := .cond (.t 4) c103_3 .skip
theorem r103_4 : type_of% (rr c103_4.eq_1) := rr rfl
def c103_5 : ACode := .seq c103_1 c103_4
theorem r103_5 : type_of% (rr c103_5.eq_1) := rr rfl
def c103_6 : ACode := .ops [⟨some 15, .fad (.t 1) 1, none, [1]⟩,⟨some 16, .load 1 false (.t 15), none, [1]⟩,⟨some 17, .bin .eql (.t 16) (.c (.int .i64 0)), none, []⟩,⟨some 18, .mv (.t 17), none, []⟩,⟨some 19, .fad (.t 1) 2, some (18, true), [1]⟩,⟨some 20, .load 1 false (.t 19), some (18, true), [1]⟩,⟨some 21, .bin .geq (.t 20) (.c (.int .i64 0)), some (18, true), []⟩,⟨some 22, .pick (.t 18) (.t 21) (.c (.bool false)), none, []⟩,⟨some 23, .mv (.t 22), none, []⟩,⟨some 24, .fad (.t 1) 2, some (23, true), [1]⟩,⟨some 25, .load 1 false (.t 24), some (23, true), [1]⟩,⟨some 26, .bin .lss (.t 25) (.c (.int .i64 4)), some (23, true), []⟩,⟨some 27, .pick (.t 23) (.t 26) (.c (.bool false)), none, []⟩,⟨some 28, .mv (.t 27), none, []⟩,⟨some 29, .fad (.t 1) 3, some (28, true), [1]⟩,⟨some 30, .load 1 false (.t 29), some (28, true), [1]⟩,⟨some 31, .call 71 [.t 30, .c (.int .i64 32)], some (28, true), []⟩,⟨some 32, .pick (.t 28) (.t 31) (.c (.bool false)), none, []⟩,⟨some 33, .mv (.t 32), none, []⟩,⟨some 34, .fad (.t 1) 4, some (33, true), [1]⟩,⟨some 35, .load 1 false (.t 34), some (33, true), [1]⟩,⟨some 36, .call 121 [.t 35], some (33, true), []⟩,⟨some 37, .pick (.t 33) (.t 36) (.c (.bool false)), none, []⟩,⟨some 38, .mv (.t 37), none, []⟩,⟨some 39, .fad (.t 1) 5, some (38, true), [1]⟩,⟨some 40, .load 1 false (.t 39), some (38, true), [1]⟩,⟨some 41, .call 121 [.t 40], some (38, true), []⟩,⟨some 42, .pick (.t 38) (.t 41) (.c (.bool false)), none, []⟩,⟨some 2, .mv (.t 42), none, []⟩] [2]
theorem r103_6 : type_of% (rr c103_6.eq_1) := rr rfl
def c103_7 : ACode := .seq c103_6 .ret
theorem r103_7 : type_of% (rr c103_7.eq_1) := rr rfl
def c103_8 : ACode := .seq c103_5 c103_7
theorem r103_8 : type_of% (rr c103_8.eq_1) := rr rfl
def c103_9 : ACode := .seq c103_0 c103_8
theorem r103_9 : type_of% (rr c103_9.eq_1) := rr rfl
def a103 : AFun := ⟨1, 43, c103_9, [.t 2]⟩
attribute [simp] r103_0 r103_1 r103_2 r103_3 r103_4 r103_5 r103_6 r103_7 r103_8 r103_9
theorem m103 : mFun Tryz.prog Tryz.f103 a103 = true := by decide +kernel
def c108_0 : ACode := .ops [⟨some 4, .mv (.c (.bool false)), none, []⟩] [0, 1]
theorem r108_0 : type_of% (rr c108_0.eq_1) := rr rfl
def c108_1 : ACode := .ops [⟨some 5, .mv (.t 0), none, []⟩,⟨some 6, .bin .geq (.t 5) (.c (.int .i64 0)), none, []⟩,⟨some 7, .mv (.t 6), none, []⟩,⟨some 8, .mv (.t 0), some (7, true), []⟩,⟨some 9, .bin .lss (.t 8) (.c (.int .i64 64)), some (7, true), []⟩,⟨some 10, .pick (.t 7) (.t 9) (.c (.bool false)), none, []⟩,⟨some 11, .mv (.t 10), none, []⟩,⟨some 12, .mv (.t 1), some (11, true), []⟩,⟨some 13, .bin .geq (.t 12) (.c (.int .i64 1)), some (11, true), []⟩,⟨some 14, .pick (.t 11) (.t 13) (.c (.bool false)), none, []⟩,⟨some 15, .mv (.t 14), none, []⟩,⟨some 16, .mv (.t 1), some (15, true), []⟩,⟨some 17, .mv (.t 0), some (15, true), []⟩,⟨some 18, .bin .sub (.c (.int .i64 64)) (.t 17), some (15, true), []⟩,⟨some 19, .bin .leq (.t 16) (.t 18), some (15, true), []⟩,⟨some 20, .pick (.t 15) (.t 19) (.c (.bool false)), none, []⟩,⟨some 4, .mv (.t 20), none, []⟩] [4]
theorem r108_1 : type_of% (rr c108_1.eq_1) := rr rfl
def c108_2 : ACode := .seq c108_1 .ret
theorem r108_2 : type_of% (rr c108_2.eq_1) := rr rfl
def c108_3 : ACode := .seq c108_0 c108_2
theorem r108_3 : type_of% (rr c108_3.eq_1) := rr rfl
def a108 : AFun := ⟨2, 21, c108_3, [.t 4]⟩
attribute [simp] r108_0 r108_1 r108_2 r108_3
theorem m108 : mFun Tryz.prog Tryz.f108 a108 = true := by decide +kernel
def c109_0 : ACode := .ops [⟨some 2, .mv (.c (.int .u64 0)), none, []⟩] [0]
theorem r109_0 : type_of% (rr c109_0.eq_1) := rr rfl
def c109_1 : ACode := .ops [⟨some 3, .mv (.t 0), none, []⟩,⟨some 4, .bin .sub (.c (.int .i64 64)) (.t 3), none, []⟩,⟨some 5, .conv .u64 (.t 4), none, []⟩,⟨some 6, .bin .shr (.c (.int .u64 18446744073709551615)) (.t 5), none, []⟩,⟨some 2, .mv (.t 6), none, []⟩] [2]
theorem r109_1 : type_of% (rr c109_1.eq_1) := rr rfl
def c109_2 : ACode := .seq c109_1 .ret
theorem r109_2 : type_of% (rr c109_2.eq_1) := rr rfl
def c109_3 : ACode := .seq c109_0 c109_2
theorem r109_3 : type_of% (rr c109_3.eq_1) := rr rfl
def a109 : AFun := ⟨1, 7, c109_3, [.t 2]⟩
attribute [simp] r109_0 r109_1 r109_2 r109_3
theorem m109 : mFun Tryz.prog Tryz.f109 a109 = true := by decide +kernel
def c104_0 : ACode := .ops [⟨some 8, .mv (.c (.int .u64 0)), none, []⟩] [0, 1, 2, 3]
theorem r104_0 : type_of% (rr c104_0.eq_1) := rr rfl
def c104_1 : ACode := .ops [⟨some 10, .mv (.t 1), none, []⟩,⟨some 11, .mv (.t 2), none, []⟩,⟨some 12, .call 108 [.t 10, .t 11], none, []⟩,⟨some 13, .un .not (.t 12), none, []⟩] [0, 1, 2, 3, 13]
theorem r104_1 : type_of% (rr c104_1.eq_1) := rr rfl
def c104_2 : ACode := .ops [⟨some 14, .mv (.t 0), none, []⟩,⟨some 8, .mv (.t 14), none, []⟩] [8]
theorem r104_2 : type_of% (rr c104_2.eq_1) := rr rfl
def c104_3 : ACode := .seq c104_2 .ret
theorem r104_3 : type_of% (rr c104_3.eq_1) := rr rfl
def c104_4 : ACode := .cond (.t 13) c104_3 .skip
theorem r104_4 : type_of% (rr c104_4.eq_1) := rr rfl
def c104_5 : ACode := .seq c104_1 c104_4
theorem r104_5 : type_of% (rr c104_5.eq_1) := rr rfl
def c104_6 : ACode := .ops [⟨some 15, .mv (.t 2), none, []⟩,⟨some 16, .call 109 [.t 15], none, []⟩,⟨some 17, .mv (.t 1), none, []⟩,⟨some 18, .conv .u64 (.t 17), none, []⟩,⟨some 19, .bin .shl (.t 16) (.t 18), none, []⟩,⟨some 9, .mv (.t 19), none, []⟩] [0, 1, 3, 9]
theorem r104_6 : type_of% (rr c104_6.eq_1) := rr rfl
def c104_7 : ACode := .ops [⟨some 20, .mv (.t 0), none, []⟩,⟨some 21, .mv (.t 9), none, []⟩,⟨some 22, .bin .andNot (.t 20) (.t 21), none, []⟩,⟨some 23, .mv (.t 3), none, []⟩,⟨some 24, .mv (.t 1), none, []⟩,⟨some 25, .conv .u64 (.t 24), none, []⟩,⟨some 26, .bin .shl (.t 23) (.t 25), none, []⟩,⟨some 27, .mv (.t 9), none, []⟩,⟨some 28, .bin .and (.t 26) (.t 27), none, []⟩,⟨some 29, .bin .or (.t 22) (.t 28), none, []⟩,⟨some 8, .mv (.t 29), none, []⟩] [8]
theorem r104_7 : type_of% (rr c104_7.eq_1) := rr rfl
def c104_8 : ACode := .seq c104_7 .ret
theorem r104_8 : type_of% (rr c104_8.eq_1) := rr rfl
def c104_9 : ACode := .seq c104_6 c104_8
theorem r104_9 : type_of% (rr c104_9.eq_1) := rr rfl
def c104_10 : ACode := .seq c104_5 c104_9
theorem r104_10 : type_of% (rr c104_10.eq_1) := rr rfl
def c104_11 : ACode := .seq c104_0 c104_10
theorem r104_11 : type_of% (rr c104_11.eq_1) := rr rfl
def a104 : AFun := ⟨4, 30, c104_11, [.t 8]⟩
attribute [simp] r104_0 r104_1 r104_2 r104_3 r104_4 r104_5 r104_6 r104_7 r104_8 r104_9 r104_10 r104_11
theorem m104 : mFun Tryz.prog Tryz.f104 a104 = true := by decide +kernel
def c97_0 : ACode := .ops [⟨some 6, .mv (.c (.int .u64 0)), none, []⟩] [0, 1, 2]
theorem r97_0 : type_of% (rr c97_0.eq_1) := rr rfl
def c97_1 : ACode := .ops [⟨some 7, .mv (.t 1), none, []⟩,⟨some 8, .mv (.t 2), none, []⟩,⟨some 9, .call 108 [.t 7, .t 8], none, []⟩,⟨some 10, .un .not (.t 9), none, []⟩] [0, 1, 2, 10]
theorem r97_1 : type_of% (rr c97_1.eq_1) := rr rfl
def c97_2 : ACode := .ops [⟨some 6, .mv (.c (.int .u64 0)), none, []⟩] [6]
theorem r97_2 : type_of% (rr c97_2.eq_1) := rr rfl
def c97_3 : ACode := .seq c97_2 .ret
theorem r97_3 : type_of% (rr c97_3.eq_1) := rr rfl
def c97_4 : ACode := .cond (.t 10) c97_3 .skip
theorem r97_4 : type_of% (rr c97_4.eq_1) := rr rfl
def c97_5 : ACode := .seq c97_1 c97_4
theorem r97_5 : type_of% (rr c97_5.eq_1) := rr rfl
def c97_6 : ACode := .ops [⟨some 11, .mv (.t 0), none, []⟩,⟨some 12, .mv (.t 1), none, []⟩,⟨some 13, .conv .u64 (.t 12), none, []⟩,⟨some 14, .bin .shr (.t 11) (.t 13), none, []⟩,⟨some 15, .mv (.t 2), none, []⟩,⟨some 16, .call 109 [.t 15], none, []⟩,⟨some 17, .bin .and (.t 14) (.t 16), none, []⟩,⟨some 6, .mv (.t 17), none, []⟩] [6]
theorem r97_6 : type_of% (rr c97_6.eq_1) := rr rfl
def c97_7 : ACode := .seq c97_6 .ret
theorem r97_7 : type_of% (rr c97_7.eq_1) := rr rfl
def c97_8 : ACode := .seq c97_5 c97_7
theorem r97_8 : type_of% (rr c97_8.eq_1) := rr rfl
def c97_9 : ACode := .seq c97_0 c97_8
theorem r97_9 : type_of% (rr c97_9.eq_1) := rr rfl
def a97 : AFun := ⟨3, 18, c97_9, [.t 6]⟩
attribute [simp] r97_0 r97_1 r97_2 r97_3 r97_4 r97_5 r97_6 r97_7 r97_8 r97_9
theorem m97 : mFun Tryz.prog Tryz.f97 a97 = true := by decide +kernel
def c96_0 : ACode := .ops [⟨some 6, .mv (.c (.int .i64 0)), none, []⟩] [0, 1, 2]
theorem r96_0 : type_of% (rr c96_0.eq_1) := rr rfl
def c96_1 : ACode := .ops [⟨some 7, .mv (.t 0), none, []⟩,⟨some 8, .mv (.t 1), none, []⟩,⟨some 9, .mv (.t 2), none, []⟩,⟨some 10, .call 97 [.t 7, .t 8, .t 9], none, []⟩,⟨some 11, .conv .i64 (.t 10), none, []⟩,⟨some 12, .mv (.t 2), none, []⟩,⟨some 13, .call 107 [.t 11, .t 12], none, []⟩,⟨some 6, .mv (.t 13), none, []⟩] [6]
theorem r96_1 : type_of% (rr c96_1.eq_1) := rr rfl
def c96_2 : ACode := .seq c96_1 .ret
theorem r96_2 : type_of% (rr c96_2.eq_1) := rr rfl
def c96_3 : ACode := .seq c96_0 c96_2
theorem r96_3 : type_of% (rr c96_3.eq_1) := rr rfl
def a96 : AFun := ⟨3, 14, c96_3, [.t 6]⟩
attribute [simp] r96_0 r96_1 r96_2 r96_3
theorem m96 : mFun Tryz.prog Tryz.f96 a96 = true := by decide +kernel
def c91_0 : ACode := .ops [⟨some 1, .box (.t 0) 6, none, []⟩,⟨some 2, .mv (.c (.int .u64 0)), none, []⟩] [1]
theorem r91_0 : type_of% (rr c91_0.eq_1) := rr rfl
def c91_1 : ACode := .ops [⟨some 4, .load 6 true (.t 1), none, [1]⟩,⟨some 5, .call 103 [.t 4], none, []⟩,⟨some 6, .un .not (.t 5), none, []⟩] [1, 6]
theorem r91_1 : type_of% (rr c91_1.eq_1) := rr rfl
def c91_2 : ACode := .ops [⟨some 2, .mv (.c (.int .u64 0)), none, []⟩] [2]
theorem r91_2 : type_of% (rr c91_2.eq_1) := rr rfl
def c91_3 : ACode := .seq c91_2 .ret
theorem r91_3 : type_of% (rr c91_3.eq_1) := rr rfl
def c91_4 : ACode := .cond (.t 6) c91_3 .skip
theorem r91_4 : type_of% (rr c91_4.eq_1) := rr rfl
def c91_5 : ACode := .seq c91_1 c91_4
theorem r91_5 : type_of% (rr c91_5.eq_1) := rr rfl
def c91_6 : ACode := .ops [⟨some 7, .fad (.t 1) 0, none, [1]⟩,⟨some 8, .load 1 false (.t 7), none, [1]⟩] [1, 8]
theorem r91_6 : type_of% (rr c91_6.eq_1) := rr rfl
def c91_7 : ACode := .ops [⟨some 9, .fad (.t 1) 1, none, [1]⟩,⟨some 10, .load 1 false (.t 9), none, [1]⟩,⟨some 11, .conv .u64 (.t 10), none, []⟩,⟨some 12, .call 104 [.c (.int .u64 9223372036854775808), .c (.int .i64 0), .c (.int .i64 32), .t 11], none, []⟩,⟨some 2, .mv (.t 12), none, []⟩] [2]
theorem r91_7 : type_of% (rr c91_7.eq_1) := rr rfl
def c91_8 : ACode := .seq c91_7 .ret
theorem r91_8 : type_of% (rr c91_8.eq_1) := rr rfl
def c91_9 : ACode := .cond (.t 8) c91_8 .skip
theorem r91_9 : type_of% (rr c91_9.eq_1) := rr rfl
def c91_10 : ACode := .seq c91_6 c91_9
theorem r91_10 : type_of% (rr c91_10.eq_1) := rr rfl
def c91_11 : ACode := .ops [⟨some 13, .fad (.t 1) 3, none, [1]⟩,⟨some 14, .load 1 false (.t 13), none, [1]⟩,⟨some 15, .conv .u64 (.t 14), none, []⟩,⟨some 16, .call 104 [.c (.int .u64 0), .c (.int .i64 0), .c (.int .i64 32), .t 15], none, []⟩,⟨some 3, .mv (.t 16), none, []⟩] [1, 3]
theorem r91_11 : type_of% (rr c91_11.eq_1) := rr rfl
def c91_12 : ACode := .ops [⟨some 17, .mv (.t 3), none, []⟩,⟨some 18, .fad (.t 1) 2, none, [1]⟩,⟨some 19, .load 1 false (.t 18), none, [1]⟩,⟨some 20, .conv .u64 (.t 19), none, []⟩,⟨some 21, .call 104 [.t 17, .c (.int .i64 32), .c (.int .i64 4), .t 20], none, []⟩,⟨some 3, .mv (.t 21), none, []⟩] [1, 3]
theorem r91_12 : type_of% (rr c91_12.eq_1) := rr rfl
def c91_13 : ACode := .ops [⟨some 22, .mv (.t 3), none, []⟩,⟨some 23, .fad (.t 1) 4, none, [1]⟩,⟨some 24, .load 1 false (.t 23), none, [1]⟩,⟨some 25, .conv .u64 (.t 24), none, []⟩,⟨some 26, .call 104 [.t 22, .c (.int .i64 40), .c (.int .i64 8), .t 25], none, []⟩,⟨some 3, .mv (.t 26), none, []⟩] [1, 3]
theorem r91_13 : type_of% (rr c91_13.eq_1) := rr rfl
def c91_14 : ACode := .ops [⟨some 27, .mv (.t 3), none, []⟩,⟨some 28, .fad (.t 1) 5, none, [1]⟩,⟨some 29, .load 1 false (.t 28), none, [1]⟩,⟨some 30, .conv .u64 (.t 29), none, []⟩,⟨some 31, .call 104 [.t 27, .c (.int .i64 48), .c (.int .i64 8), .t 30], none, []⟩,⟨some 2, .mv (.t 31), none, []⟩] [2]
theorem r91_14 : type_of% (rr c91_14.eq_1) := rr rfl
def c91_15 : ACode := .seq c91_14 .ret
theorem r91_15 : type_of% (rr c91_15.eq_1) := rr rfl
def c91_16 : ACode := .seq c91_13 c91_15
theorem r91_16 : type_of% (rr c91_16.eq_1) := rr rfl
def c91_17 : ACode := .seq c91_12 c91_16
theorem r91_17 : type_of% (rr c91_17.eq_1) := rr rfl
def c91_18 : ACode := .seq c91_11 c91_17
theorem r91_18 : type_of% (rr c91_18.eq_1) := rr rfl
def c91_19 : ACode := .seq c91_10 c91_18
theorem r91_19 : type_of% (rr c91_19.eq_1) := rr rfl
def c91_20 : ACode := .seq c91_5 c91_19
theorem r91_20 : type_of% (rr c91_20.eq_1) := rr rfl
def c91_21 : ACode := .seq c91_0 c91_20
theorem r91_21 : type_of% (rr c91_21.eq_1) := rr rfl
def a91 : AFun := ⟨1, 32, c91_21, [.t 2]⟩
attribute [simp] r91_0 r91_1 r91_2 r91_3 r91_4 r91_5 r91_6 r91_7 r91_8 r91_9 r91_10 r91_11 r91_12 r91_13 r91_14 r91_15 r91_16 r91_17 r91_18 r91_19 r91_20 r91_21
theorem m91 : mFun Tryz.prog Tryz.f91 a91 = true := by decide +kernel
def child (n : Int) : Bool := decide (1 ≤ n) && decide (n < 31)
theorem runs_child (n : Int) (c : Bool) (h : some (child n) = some c) : Runs (tbl []) a121 [Arg.enc n] (Arg.enc c) := by
  cases h
  refine ⟨rfl, fun g => run_def ?_⟩
  unfold a121
  by_cases h1 : 1 ≤ n <;> simp -implicitDefEqProofs [child, h1]
theorem c_child : Contract Tryz.prog 121 (sp1 fun n => some (child n)) := contract_of_runs mixed tbl_nil Tryz.func121 m121 (sp1_runs runs_child)
theorem runs_Right (n : Node) (c : Bool) (h : some (rightNode n) = some c) : Runs (tbl [(71, sp2 Fits), (121, sp1 fun n => some (child n))]) a103 [Arg.enc n] (Arg.enc c) := by
  cases h
  refine ⟨rfl, fun g => run_def ?_⟩
  obtain ⟨leaf, value, feature, cut, left, right⟩ := n
  unfold a103
  cases leaf
  case false =>
    by_cases h1 : value = 0
    case neg => simp -implicitDefEqProofs [rightNode, Fits, child, h1]
    by_cases h2 : 0 ≤ feature
    case neg => simp -implicitDefEqProofs [rightNode, Fits, child, h1, h2]
    by_cases h3 : feature < 4
    case neg => simp -implicitDefEqProofs [rightNode, Fits, child, h1, h2, h3]
    cases h4 : fits cut
    case false => simp -implicitDefEqProofs [rightNode, Fits, child, h1, h2, h3, h4]
    by_cases h5 : 1 ≤ left
    case neg => simp -implicitDefEqProofs [rightNode, Fits, child, h1, h2, h3, h4, h5]
    by_cases h6 : left < 31
    case neg => simp -implicitDefEqProofs [rightNode, Fits, child, h1, h2, h3, h4, h5, h6]
    simp -implicitDefEqProofs [rightNode, Fits, child, h1, h2, h3, h4, h5, h6]
  case true =>
    by_cases h2 : feature = 0
    case neg => simp -implicitDefEqProofs [rightNode, Fits, h2]
    by_cases h3 : cut = 0
    case neg => simp -implicitDefEqProofs [rightNode, Fits, h2, h3]
    by_cases h4 : left = 0
    case neg => simp -implicitDefEqProofs [rightNode, Fits, h2, h3, h4]
    by_cases h5 : right = 0
    case neg => simp -implicitDefEqProofs [rightNode, Fits, h2, h3, h4, h5]
    cases h1 : fits value <;> simp -implicitDefEqProofs [rightNode, Fits, h1, h2, h3, h4, h5]
theorem c_Right : Contract Tryz.prog 103 (sp1 fun n => some (rightNode n)) :=
  contract_of_runs mixed (tbl_cons c_Fits (tbl_cons c_child tbl_nil)) Tryz.func103 m103 (sp1_runs runs_Right)
def field (p w : Int) : Bool := decide (0 ≤ p) && decide (p < 64) && decide (1 ≤ w) && decide (w ≤ 64 - p)
theorem runs_field (p w : Int) (c : Bool) (h : some (field p w) = some c) : Runs (tbl []) a108 [Arg.enc p, Arg.enc w] (Arg.enc c) := by
  cases h
  refine ⟨rfl, fun g => run_def ?_⟩
  unfold a108
  by_cases h1 : 0 ≤ p
  case neg => simp -implicitDefEqProofs [field, h1]
  by_cases h2 : p < 64
  case neg => simp -implicitDefEqProofs [field, h1, h2]
  by_cases h3 : 1 ≤ w
  case neg => simp -implicitDefEqProofs [field, h1, h2, h3]
  have e : IntKind.i64.wrap (64 - p) = 64 - p := wrap64 (by omega) (by omega)
  simp -implicitDefEqProofs [field, h1, h2, h3, e]
theorem c_field : Contract Tryz.prog 108 (sp2 fun p w => some (field p w)) := contract_of_runs mixed tbl_nil Tryz.func108 m108 (sp2_runs runs_field)
def ones (w : Int) : Int := if w = 1 then 1 else if w = 4 then 15 else if w = 8 then 255 else 4294967295
def Mask (w : Int) : Option Word := if w = 1 ∨ w = 4 ∨ w = 8 ∨ w = 32 then some ⟨ones w⟩ else none
theorem runs_mask (w : Int) (c : Word) (h : Mask w = some c) : Runs (tbl []) a109 [Arg.enc w] (Arg.enc c) := by
  unfold Mask at h
  split at h
  · rename_i hw
    cases h
    refine ⟨rfl, fun g => run_def ?_⟩
    unfold a109
    rcases hw with rfl | rfl | rfl | rfl <;> simp -implicitDefEqProofs [ones] <;> decide
  · cases h
theorem c_mask : Contract Tryz.prog 109 (sp1 Mask) := contract_of_runs mixed tbl_nil Tryz.func109 m109 (sp1_runs runs_mask)
def aField (p w : Int) : Prop := (p = 0 ∧ w = 32) ∨ (p = 63 ∧ w = 1) ∨ (p = 32 ∧ w = 4) ∨ (p = 40 ∧ w = 8) ∨ (p = 48 ∧ w = 8)
instance (p w : Int) : Decidable (aField p w) := by unfold aField; exact inferInstance
def get (x p w : Int) : Int := x / 2 ^ p.toNat % 2 ^ w.toNat
def Get (x : Word) (p w : Int) : Option Word := if okW x.v ∧ aField p w then some ⟨get x.v p w⟩ else none
theorem and_1 (a : Int) (h : okW a) : iand .u64 a 1 = a % 2 := by
  rw [u_and _ _ h ⟨by omega, by omega⟩]
  have e : (1 : Int).toNat = 1 := rfl
  rw [e, Nat.and_one_is_mod]
  have := h.1
  omega
theorem runs_Get (x : Word) (p w : Int) (c : Word) (h : Get x p w = some c) : Runs (tbl [(108, sp2 fun p w => some (field p w)), (109, sp1 Mask)]) a97 [Arg.enc x, Arg.enc p, Arg.enc w] (Arg.enc c) := by
  unfold Get at h
  split at h
  · rename_i hw
    cases h
    obtain ⟨v⟩ := x
    obtain ⟨hv, hf⟩ := hw
    simp only at hv
    have d (k : Int) (hk : 0 ≤ k) : v.fdiv k = v / k := Int.fdiv_eq_ediv_of_nonneg v hk
    have h1 := hv.1
    have h2 := hv.2
    have i1 := and_low v hv
    have i2 := and_15 (v / 4294967296) ⟨by omega, by omega⟩
    have i3 := and_255 (v / 1099511627776) ⟨by omega, by omega⟩
    have i4 := and_255 (v / 281474976710656) ⟨by omega, by omega⟩
    have i5 := and_1 (v / 9223372036854775808) ⟨by omega, by omega⟩
    refine ⟨rfl, fun g => run_def ?_⟩
    unfold a97
    rcases hf with ⟨rfl, rfl⟩ | ⟨rfl, rfl⟩ | ⟨rfl, rfl⟩ | ⟨rfl, rfl⟩ | ⟨rfl, rfl⟩ <;>
      simp -implicitDefEqProofs [get, field, Mask, ones, d, i1, i2, i3, i4, i5]
  · cases h
theorem c_Get : Contract Tryz.prog 97 (sp3 Get) :=
  contract_of_runs mixed (tbl_cons c_field (tbl_cons c_mask tbl_nil)) Tryz.func97 m97 (sp3_runs runs_Get)
def Signed (x : Word) (p w : Int) : Option Int := if okW x.v ∧ p = 0 ∧ w = 32 then some (wrap32 (x.v % 4294967296)) else none
theorem runs_Signed (x : Word) (p w c : Int) (h : Signed x p w = some c) : Runs (tbl [(97, sp3 Get), (107, sp2 Wrap)]) a96 [Arg.enc x, Arg.enc p, Arg.enc w] (Arg.enc c) := by
  unfold Signed at h
  split at h
  · rename_i hw
    cases h
    obtain ⟨v⟩ := x
    obtain ⟨hv, rfl, rfl⟩ := hw
    simp only at hv
    have w1 : IntKind.i64.wrap (v % 4294967296) = v % 4294967296 := wrap64 (by omega) (by omega)
    have b1 : -9223372036854775808 ≤ v % 4294967296 ∧ v % 4294967296 ≤ 9223372036854775807 := by omega
    refine ⟨rfl, fun g => run_def ?_⟩
    unfold a96
    simp -implicitDefEqProofs [Get, get, aField, hv, Wrap, w1, b1]
  · cases h
theorem c_Signed : Contract Tryz.prog 96 (sp3 Signed) :=
  contract_of_runs mixed (tbl_cons c_Get (tbl_cons c_Wrap tbl_nil)) Tryz.func96 m96 (sp3_runs runs_Signed)
def Put (x : Word) (p w : Int) (y : Word) : Option Word := if okW x.v ∧ aField p w ∧ w ≠ 1 ∧ get x.v p w = 0 then some ⟨x.v + y.v % 2 ^ w.toNat * 2 ^ p.toNat⟩ else none
theorem runs_Put (x : Word) (p w : Int) (y c : Word) (h : Put x p w y = some c) : Runs (tbl [(108, sp2 fun p w => some (field p w)), (109, sp1 Mask)]) a104 [Arg.enc x, Arg.enc p, Arg.enc w, Arg.enc y] (Arg.enc c) := by
  unfold Put at h
  split at h
  · rename_i hw
    cases h
    obtain ⟨v⟩ := x
    obtain ⟨y⟩ := y
    obtain ⟨hv, hf, hw1, hg⟩ := hw
    simp only at hv hg
    have hv1 := hv.1
    refine ⟨rfl, fun g => run_def ?_⟩
    unfold a104
    rcases hf with ⟨rfl, rfl⟩ | ⟨rfl, rfl⟩ | ⟨rfl, rfl⟩ | ⟨rfl, rfl⟩ | ⟨rfl, rfl⟩
    · simp [get] at hg
      have e := put_bits v (y % 18446744073709551616) 4294967295 0 32 hv (okW_mod _) rfl ⟨by omega, by omega⟩ (by simp; omega)
      simp only [Nat.reducePow] at e
      simp -implicitDefEqProofs [field, Mask, ones, u_conv, e]
      omega
    · exact absurd rfl hw1
    · simp [get] at hg
      have e := put_bits v (y * 4294967296 % 18446744073709551616) 64424509440 32 4 hv (okW_mod _) rfl ⟨by omega, by omega⟩ (by simp; omega)
      simp only [Nat.reducePow] at e
      simp -implicitDefEqProofs [field, Mask, ones, u_conv, e]
      omega
    · simp [get] at hg
      have e := put_bits v (y * 1099511627776 % 18446744073709551616) 280375465082880 40 8 hv (okW_mod _) rfl ⟨by omega, by omega⟩ (by simp; omega)
      simp only [Nat.reducePow] at e
      simp -implicitDefEqProofs [field, Mask, ones, u_conv, e]
      omega
    · simp [get] at hg
      have e := put_bits v (y * 281474976710656 % 18446744073709551616) 71776119061217280 48 8 hv (okW_mod _) rfl ⟨by omega, by omega⟩ (by simp; omega)
      simp only [Nat.reducePow] at e
      simp -implicitDefEqProofs [field, Mask, ones, u_conv, e]
      omega
  · cases h
theorem c_Put : Contract Tryz.prog 104 (sp4 Put) :=
  contract_of_runs mixed (tbl_cons c_field (tbl_cons c_mask tbl_nil)) Tryz.func104 m104 (sp4_runs runs_Put)
theorem runs_Pack (n : Node) (c : Word) (h : some (pack n) = some c) : Runs (tbl [(103, sp1 fun n => some (rightNode n)), (104, sp4 Put)]) a91 [Arg.enc n] (Arg.enc c) := by
  cases h
  refine ⟨rfl, fun g => run_def ?_⟩
  obtain ⟨leaf, value, feature, cut, left, right⟩ := n
  unfold a91
  cases h1 : rightNode ⟨leaf, value, feature, cut, left, right⟩
  case false => simp -implicitDefEqProofs [pack, h1]
  cases leaf
  case true =>
    have e1 : value % 18446744073709551616 % 4294967296 = value % 4294967296 := by omega
    simp -implicitDefEqProofs [pack, h1, u_conv, Put, get, aField, okW, e1]
  case false =>
    have hb := h1
    simp [rightNode] at hb
    have e1 : cut % 18446744073709551616 % 4294967296 = cut % 4294967296 := by omega
    have o1 : okW (cut % 4294967296) := ⟨by omega, by omega⟩
    have e2 : feature % 18446744073709551616 % 16 = feature := by omega
    have g1 : cut % 4294967296 / 4294967296 % 16 = 0 := by omega
    have o2 : okW (cut % 4294967296 + feature * 4294967296) := ⟨by omega, by omega⟩
    have e3 : left % 18446744073709551616 % 256 = left := by omega
    have g2 : (cut % 4294967296 + feature * 4294967296) / 1099511627776 % 256 = 0 := by omega
    have o3 : okW (cut % 4294967296 + feature * 4294967296 + left * 1099511627776) := ⟨by omega, by omega⟩
    have e4 : right % 18446744073709551616 % 256 = right := by omega
    have g3 : (cut % 4294967296 + feature * 4294967296 + left * 1099511627776) / 281474976710656 % 256 = 0 := by omega
    have o0 : okW 0 := ⟨by omega, by omega⟩
    simp -implicitDefEqProofs [pack, h1, u_conv, Put, get, aField, o0, o1, o2, o3, e1, e2, e3, e4, g1, g2, g3]
theorem c_Pack : Contract Tryz.prog 91 (sp1 fun n => some (pack n)) :=
  contract_of_runs mixed (tbl_cons c_Right (tbl_cons c_Put tbl_nil)) Tryz.func91 m91 (sp1_runs runs_Pack)
def c98_0 : ACode := .ops [⟨some 5, .mv (.c (.int .i64 0)), none, []⟩] [0, 1, 2]
theorem r98_0 : type_of% (rr c98_0.eq_1) := rr rfl
def c98_1 : ACode := .ops [⟨some 6, .load 1 false (.t 2), none, []⟩,⟨some 7, .mv (.t 0), none, []⟩,⟨some 8, .mv (.t 1), none, []⟩,⟨some 9, .call 97 [.t 6, .t 7, .t 8], none, []⟩,⟨some 10, .conv .i64 (.t 9), none, []⟩,⟨some 5, .mv (.t 10), none, []⟩] [5]
theorem r98_1 : type_of% (rr c98_1.eq_1) := rr rfl
def c98_2 : ACode := .seq c98_1 .ret
theorem r98_2 : type_of% (rr c98_2.eq_1) := rr rfl
def c98_3 : ACode := .seq c98_0 c98_2
theorem r98_3 : type_of% (rr c98_3.eq_1) := rr rfl
def a98 : AFun := ⟨3, 11, c98_3, [.t 5]⟩
attribute [simp] r98_0 r98_1 r98_2 r98_3
theorem m98 : mFun Tryz.prog Tryz.f98 a98 = true := by decide +kernel
def c85_0 : ACode := .ops [⟨some 1, .box (.t 0) 1, none, []⟩,⟨some 2, .alloc [.bool false, .int .i64 0, .int .i64 0, .int .i64 0, .int .i64 0, .int .i64 0], none, []⟩,⟨some 3, .mv (.c (.bool false)), none, []⟩] [1, 2]
theorem r85_0 : type_of% (rr c85_0.eq_1) := rr rfl
def c85_1 : ACode := .ops [⟨some 7, .load 1 false (.t 1), none, [1]⟩,⟨some 8, .call 96 [.t 7, .c (.int .i64 0), .c (.int .i64 32)], none, []⟩,⟨some 4, .mv (.t 8), none, []⟩] [1, 2, 4]
theorem r85_1 : type_of% (rr c85_1.eq_1) := rr rfl
def c85_2 : ACode := .ops [⟨some 9, .mv (.t 4), none, []⟩,⟨some 10, .build [.bool false, .int .i64 0, .int .i64 0, .int .i64 0, .int .i64 0, .int .i64 0] [(0, 1, .c (.bool true)), (1, 1, .t 9)], none, []⟩,⟨some 5, .alloc [.bool false, .int .i64 0, .int .i64 0, .int .i64 0, .int .i64 0, .int .i64 0], none, []⟩,⟨none, .store (.t 5) 6 (.t 10), none, [5]⟩] [1, 2, 4, 5]
theorem r85_2 : type_of% (rr c85_2.eq_1) := rr rfl
def c85_3 : ACode := .ops [⟨some 11, .load 1 false (.t 1), none, [1]⟩,⟨some 12, .call 97 [.t 11, .c (.int .i64 63), .c (.int .i64 1)], none, []⟩,⟨some 13, .bin .eql (.t 12) (.c (.int .u64 0)), none, []⟩] [1, 2, 4, 5, 13]
theorem r85_3 : type_of% (rr c85_3.eq_1) := rr rfl
def c85_4 : ACode := .ops [⟨some 14, .clo 98 [.t 1], none, [1]⟩,⟨some 6, .mv (.t 14), none, []⟩] [1, 2, 4, 5, 6]
theorem r85_4 : type_of% (rr c85_4.eq_1) := rr rfl
def c85_5 : ACode := .ops [⟨some 15, .mv (.t 4), none, []⟩,⟨some 16, .mv (.t 6), none, []⟩,⟨some 17, .dyn (.t 16) [.c (.int .i64 32), .c (.int .i64 4)], none, []⟩,⟨some 18, .mv (.t 6), none, []⟩,⟨some 19, .dyn (.t 18) [.c (.int .i64 40), .c (.int .i64 8)], none, []⟩,⟨some 20, .mv (.t 6), none, []⟩,⟨some 21, .dyn (.t 20) [.c (.int .i64 48), .c (.int .i64 8)], none, []⟩,⟨some 22, .build [.bool false, .int .i64 0, .int .i64 0, .int .i64 0, .int .i64 0, .int .i64 0] [(3, 1, .t 15), (2, 1, .t 17), (4, 1, .t 19), (5, 1, .t 21)], none, []⟩,⟨none, .store (.t 5) 6 (.t 22), none, [5]⟩] [1, 2, 5]
theorem r85_5 : type_of% (rr c85_5.eq_1) := rr rfl
def c85_6 : ACode := .seq c85_4 c85_5
theorem r85_6 : type_of% (rr c85_6.eq_1) := rr rfl
def c85_7 : ACode := .cond (.t 13) c85_6 .skip
theorem r85_7 : type_of% (rr c85_7.eq_1) := rr rfl
def c85_8 : ACode := .seq c85_3 c85_7
theorem r85_8 : type_of% (rr c85_8.eq_1) := rr rfl
def c85_9 : ACode := .ops [⟨some 23, .load 1 false (.t 1), none, [1]⟩,⟨some 24, .bin .eql (.t 23) (.c (.int .u64 0)), none, []⟩,⟨some 25, .mv (.t 24), none, []⟩,⟨some 26, .load 6 true (.t 5), some (25, false), [5]⟩,⟨some 27, .call 91 [.t 26], some (25, false), []⟩,⟨some 28, .load 1 false (.t 1), some (25, false), [1]⟩,⟨some 29, .bin .neq (.t 27) (.t 28), some (25, false), []⟩,⟨some 30, .pick (.t 25) (.c (.bool true)) (.t 29), none, []⟩] [2, 5, 30]
theorem r85_9 : type_of% (rr c85_9.eq_1) := rr rfl
def c85_10 : ACode := .ops [⟨some 31, .build [.bool false, .int .i64 0, .int .i64 0, .int .i64 0, .int .i64 0, .int .i64 0] [], none, []⟩,⟨none, .store (.t 2) 6 (.t 31), none, [2]⟩,⟨some 3, .mv (.c (.bool false)), none, []⟩] [2, 3]
theorem r85_10 : type_of% (rr c85_10.eq_1) := rr rfl
def c85_11 : ACode := .seq c85_10 .ret
theorem r85_11 : type_of% (rr c85_11.eq_1) := rr rfl
def c85_12 : ACode := .cond (.t 30) c85_11 .skip
theorem r85_12 : type_of% (rr c85_12.eq_1) := rr rfl
def c85_13 : ACode := .seq c85_9 c85_12
theorem r85_13 : type_of% (rr c85_13.eq_1) := rr rfl
def c85_14 : ACode := .ops [⟨some 32, .load 6 true (.t 5), none, [5]⟩,⟨none, .store (.t 2) 6 (.t 32), none, [2]⟩,⟨some 3, .mv (.c (.bool true)), none, []⟩] [2, 3]
theorem r85_14 : type_of% (rr c85_14.eq_1) := rr rfl
def c85_15 : ACode := .seq c85_14 .ret
theorem r85_15 : type_of% (rr c85_15.eq_1) := rr rfl
def c85_16 : ACode := .seq c85_13 c85_15
theorem r85_16 : type_of% (rr c85_16.eq_1) := rr rfl
def c85_17 : ACode := .seq c85_8 c85_16
theorem r85_17 : type_of% (rr c85_17.eq_1) := rr rfl
def c85_18 : ACode := .seq c85_2 c85_17
theorem r85_18 : type_of% (rr c85_18.eq_1) := rr rfl
def c85_19 : ACode := .seq c85_1 c85_18
theorem r85_19 : type_of% (rr c85_19.eq_1) := rr rfl
def c85_20 : ACode := .seq c85_0 c85_19
theorem r85_20 : type_of% (rr c85_20.eq_1) := rr rfl
def a85 : AFun := ⟨1, 33, c85_20, [.cell 2 6 true, .t 3]⟩
attribute [simp] r85_0 r85_1 r85_2 r85_3 r85_4 r85_5 r85_6 r85_7 r85_8 r85_9 r85_10 r85_11 r85_12 r85_13 r85_14 r85_15 r85_16 r85_17 r85_18 r85_19 r85_20
theorem m85 : mFun Tryz.prog Tryz.f85 a85 = true := by decide +kernel
def Unpack1 (p w : Int) (x : Ref Word) : Option Int := if okW x.v.v ∧ aField p w ∧ w ≠ 32 then some (get x.v.v p w) else none
theorem runs_Unpack1 (p w : Int) (x : Ref Word) (c : Int) (h : Unpack1 p w x = some c) : Runs (tbl [(97, sp3 Get)]) a98 [Arg.enc p, Arg.enc w, Arg.enc x] (Arg.enc c) := by
  unfold Unpack1 at h
  split at h
  · rename_i hw
    cases h
    obtain ⟨⟨v⟩⟩ := x
    obtain ⟨hv, hf, hw⟩ := hw
    simp only at hv
    refine ⟨rfl, fun g => run_def ?_⟩
    unfold a98
    have hw2 : w = 1 ∨ w = 4 ∨ w = 8 := by rcases hf with ⟨rfl, rfl⟩ | ⟨rfl, rfl⟩ | ⟨rfl, rfl⟩ | ⟨rfl, rfl⟩ | ⟨rfl, rfl⟩ <;> omega
    have e1 : IntKind.i64.wrap (get v p w) = get v p w := by
      unfold get
      rcases hw2 with rfl | rfl | rfl <;> simp <;> refine wrap64 (by omega) (by omega)
    simp -implicitDefEqProofs [Get, hv, hf, e1]
  · cases h
theorem c_Unpack1 : Contract Tryz.prog 98 (sp3 Unpack1) :=
  contract_of_runs mixed (tbl_cons c_Get tbl_nil) Tryz.func98 m98 (sp3_runs runs_Unpack1)
theorem pack_ne (n : Node) (h : rightNode n = true) : (pack n).v ≠ 0 := by
  have hb := h
  unfold pack
  rw [if_pos h]
  obtain ⟨leaf, value, feature, cut, left, right⟩ := n
  cases leaf
  · simp [rightNode] at hb
    simp
    omega
  · simp
    omega
theorem runs_Unpack (w : Word) (c : Node × Bool) (h : Unpack w = some c) : Runs (tbl [(96, sp3 Signed), (97, sp3 Get), (98, sp3 Unpack1), (91, sp1 fun n => some (pack n))]) a85 [Arg.enc w] (Arg.enc c) := by
  unfold Unpack at h
  split at h
  · rename_i hw
    cases h
    obtain ⟨v⟩ := w
    simp only at hw
    have hv : okW v := hw
    refine ⟨rfl, fun g => run_def ?_⟩
    unfold a85
    have w1 : IntKind.i64.wrap (v / 4294967296 % 16) = v / 4294967296 % 16 := wrap64 (by omega) (by omega)
    by_cases hl : v / 9223372036854775808 = 1
    · have hl2 : ¬ v / 9223372036854775808 % 2 = 0 := by omega
      have hr : raw v = ⟨true, wrap32 (v % 4294967296), 0, 0, 0, 0⟩ := by simp [raw, hl]
      have hne : ¬ v = 0 := by omega
      by_cases h2 : (pack ⟨true, wrap32 (v % 4294967296), 0, 0, 0, 0⟩).v = v
      · have h3 : pack ⟨true, wrap32 (v % 4294967296), 0, 0, 0, 0⟩ = ⟨v⟩ := by cases hp : pack ⟨true, wrap32 (v % 4294967296), 0, 0, 0, 0⟩; rw [hp] at h2; simpa using h2
        have h1 : rightNode ⟨true, wrap32 (v % 4294967296), 0, 0, 0, 0⟩ = true := by
          cases h1 : rightNode ⟨true, wrap32 (v % 4294967296), 0, 0, 0, 0⟩
          · simp [pack, h1] at h3; omega
          · rfl
        simp -implicitDefEqProofs [Signed, Get, get, hv, aField, Unpack1, hl2, hne, h2, unpack, hr, h1, h3]
      · have h3 : ¬ pack ⟨true, wrap32 (v % 4294967296), 0, 0, 0, 0⟩ = ⟨v⟩ := fun e => h2 (by rw [e])
        simp -implicitDefEqProofs [Signed, Get, get, hv, aField, Unpack1, hl2, hne, h2, unpack, hr, h3]
    · have hl2 : v / 9223372036854775808 % 2 = 0 := by omega
      generalize hn : (⟨false, 0, v / 4294967296 % 16, wrap32 (v % 4294967296), v / 1099511627776 % 256, v / 281474976710656 % 256⟩ : Node) = n at *
      have hr : raw v = n := by rw [← hn]; simp [raw, hl]
      by_cases hne : v = 0
      · have h3 : ¬ (rightNode n = true ∧ pack n = ⟨v⟩) := fun ⟨a, b⟩ => pack_ne n a (by rw [b]; exact hne)
        rw [← hn] at hr h3
        subst hne
        clear hl2 hl
        have hv0 : okW 0 := hv
        have hr0 : raw 0 = ⟨false, 0, 0, 0, 0, 0⟩ := by rw [hr]; rfl
        have h30 : rightNode ⟨false, 0, 0, 0, 0, 0⟩ = false := rfl
        simp -implicitDefEqProofs [Signed, Get, get, hv0, aField, Unpack1, unpack, hr0, h30]
      · by_cases h2 : (pack n).v = v
        · have h3 : pack n = ⟨v⟩ := by cases hp : pack n; rw [hp] at h2; simpa using h2
          have h1 : rightNode n = true := by
            cases h1 : rightNode n
            · simp [pack, h1] at h3; omega
            · rfl
          rw [← hn] at h1 hr h2 h3
          simp -implicitDefEqProofs [Signed, Get, get, hv, aField, Unpack1, hl2, hne, h2, unpack, hr, h1, h3]
        · have h3 : ¬ pack n = ⟨v⟩ := fun e => h2 (by rw [e])
          rw [← hn] at hr h2 h3
          simp -implicitDefEqProofs [Signed, Get, get, hv, aField, Unpack1, hl2, hne, h2, unpack, hr, h3]
  · cases h
theorem c_Unpack : Contract Tryz.prog 85 (sp1 Unpack) :=
  contract_of_runs mixed (tbl_cons c_Signed (tbl_cons c_Get (tbl_cons c_Unpack1 (tbl_cons c_Pack tbl_nil)))) Tryz.func85 m85 (sp1_runs runs_Unpack)
end Go.Co
/- CO: spans and boxes. -/
namespace Go.Co
open Go.Am Go.Proofs
def c102_0 : ACode := .ops [⟨some 0, .alloc [.int .i64 0, .int .i64 0], none, []⟩] [0]
theorem r102_0 : type_of% (rr c102_0.eq_1) := rr rfl
def c102_1 : ACode := .ops [⟨some 1, .build [.int .i64 0, .int .i64 0] [(0, 1, .c (.int .i64 1))], none, []⟩,⟨none, .store (.t 0) 2 (.t 1), none, [0]⟩] [0]
theorem r102_1 : type_of% (rr c102_1.eq_1) := rr rfl
def c102_2 : ACode := .seq c102_1 .ret
theorem r102_2 : type_of% (rr c102_2.eq_1) := rr rfl
def c102_3 : ACode := .seq c102_0 c102_2
theorem r102_3 : type_of% (rr c102_3.eq_1) := rr rfl
def a102 : AFun := ⟨0, 2, c102_3, [.cell 0 2 true]⟩
attribute [simp] r102_0 r102_1 r102_2 r102_3
theorem m102 : mFun Tryz.prog Tryz.f102 a102 = true := by decide +kernel
def c101_0 : ACode := .ops [⟨some 4, .alloc [.int .i64 0, .int .i64 0], none, []⟩] [0, 1, 4]
theorem r101_0 : type_of% (rr c101_0.eq_1) := rr rfl
def c101_1 : ACode := .ops [⟨some 5, .mv (.t 0), none, []⟩,⟨some 6, .mv (.t 1), none, []⟩,⟨some 7, .bin .gtr (.t 5) (.t 6), none, []⟩] [0, 1, 4, 7]
theorem r101_1 : type_of% (rr c101_1.eq_1) := rr rfl
def c101_2 : ACode := .ops [⟨some 8, .call 102 [], none, []⟩,⟨none, .store (.t 4) 2 (.t 8), none, [4]⟩] [4]
theorem r101_2 : type_of% (rr c101_2.eq_1) := rr rfl
def c101_3 : ACode := .seq c101_2 .ret
theorem r101_3 : type_of% (rr c101_3.eq_1) := rr rfl
def c101_4 : ACode := .cond (.t 7) c101_3 .skip
theorem r101_4 : type_of% (rr c101_4.eq_1) := rr rfl
def c101_5 : ACode := .seq c101_1 c101_4
theorem r101_5 : type_of% (rr c101_5.eq_1) := rr rfl
def c101_6 : ACode := .ops [⟨some 9, .mv (.t 0), none, []⟩,⟨some 10, .mv (.t 1), none, []⟩,⟨some 11, .build [.int .i64 0, .int .i64 0] [(0, 1, .t 9), (1, 1, .t 10)], none, []⟩,⟨none, .store (.t 4) 2 (.t 11), none, [4]⟩] [4]
theorem r101_6 : type_of% (rr c101_6.eq_1) := rr rfl
def c101_7 : ACode := .seq c101_6 .ret
theorem r101_7 : type_of% (rr c101_7.eq_1) := rr rfl
def c101_8 : ACode := .seq c101_5 c101_7
theorem r101_8 : type_of% (rr c101_8.eq_1) := rr rfl
def c101_9 : ACode := .seq c101_0 c101_8
theorem r101_9 : type_of% (rr c101_9.eq_1) := rr rfl
def a101 : AFun := ⟨2, 12, c101_9, [.cell 4 2 true]⟩
attribute [simp] r101_0 r101_1 r101_2 r101_3 r101_4 r101_5 r101_6 r101_7 r101_8 r101_9
theorem m101 : mFun Tryz.prog Tryz.f101 a101 = true := by decide +kernel
def c54_0 : ACode := .ops [⟨some 1, .box (.t 0) 2, none, []⟩,⟨some 2, .mv (.c (.bool false)), none, []⟩] [1]
theorem r54_0 : type_of% (rr c54_0.eq_1) := rr rfl
def c54_1 : ACode := .ops [⟨some 3, .fad (.t 1) 0, none, [1]⟩,⟨some 4, .load 1 false (.t 3), none, [1]⟩,⟨some 5, .fad (.t 1) 1, none, [1]⟩,⟨some 6, .load 1 false (.t 5), none, [1]⟩,⟨some 7, .bin .gtr (.t 4) (.t 6), none, []⟩,⟨some 2, .mv (.t 7), none, []⟩] [2]
theorem r54_1 : type_of% (rr c54_1.eq_1) := rr rfl
def c54_2 : ACode := .seq c54_1 .ret
theorem r54_2 : type_of% (rr c54_2.eq_1) := rr rfl
def c54_3 : ACode := .seq c54_0 c54_2
theorem r54_3 : type_of% (rr c54_3.eq_1) := rr rfl
def a54 : AFun := ⟨1, 8, c54_3, [.t 2]⟩
attribute [simp] r54_0 r54_1 r54_2 r54_3
theorem m54 : mFun Tryz.prog Tryz.f54 a54 = true := by decide +kernel
def c89_0 : ACode := .ops [⟨some 2, .box (.t 0) 2, none, []⟩,⟨some 4, .alloc [.int .i64 0, .int .i64 0], none, []⟩,⟨some 5, .alloc [.int .i64 0, .int .i64 0], none, []⟩] [1, 2, 4, 5]
theorem r89_0 : type_of% (rr c89_0.eq_1) := rr rfl
def c89_1 : ACode := .ops [⟨some 7, .fad (.t 2) 0, none, [2]⟩,⟨some 8, .load 1 false (.t 7), none, [2]⟩,⟨some 9, .fad (.t 2) 1, none, [2]⟩,⟨some 10, .load 1 false (.t 9), none, [2]⟩,⟨some 11, .mv (.t 1), none, []⟩,⟨some 12, .mnmx false (.t 10) (.t 11), none, []⟩,⟨some 13, .call 101 [.t 8, .t 12], none, []⟩,⟨some 6, .alloc [.int .i64 0, .int .i64 0], none, []⟩,⟨none, .store (.t 6) 2 (.t 13), none, [6]⟩] [1, 2, 4, 5, 6]
theorem r89_1 : type_of% (rr c89_1.eq_1) := rr rfl
def c89_2 : ACode := .ops [⟨some 14, .mv (.t 1), none, []⟩,⟨some 15, .fad (.t 2) 1, none, [2]⟩,⟨some 16, .load 1 false (.t 15), none, [2]⟩,⟨some 17, .bin .geq (.t 14) (.t 16), none, []⟩] [1, 2, 4, 5, 6, 17]
theorem r89_2 : type_of% (rr c89_2.eq_1) := rr rfl
def c89_3 : ACode := .ops [⟨some 18, .load 2 true (.t 6), none, [6]⟩,⟨some 19, .call 102 [], none, []⟩,⟨none, .store (.t 4) 2 (.t 18), none, [4]⟩,⟨none, .store (.t 5) 2 (.t 19), none, [5]⟩] [4, 5]
theorem r89_3 : type_of% (rr c89_3.eq_1) := rr rfl
def c89_4 : ACode := .seq c89_3 .ret
theorem r89_4 : type_of% (rr c89_4.eq_1) := rr rfl
def c89_5 : ACode := .cond (.t 17) c89_4 .skip
theorem r89_5 : type_of% (rr c89_5.eq_1) := rr rfl
def c89_6 : ACode := .seq c89_2 c89_5
theorem r89_6 : type_of% (rr c89_6.eq_1) := rr rfl
def c89_7 : ACode := .ops [⟨some 20, .load 2 true (.t 6), none, [6]⟩,⟨some 21, .fad (.t 2) 0, none, [2]⟩,⟨some 22, .load 1 false (.t 21), none, [2]⟩,⟨some 23, .mv (.t 1), none, []⟩,⟨some 24, .bin .add (.t 23) (.c (.int .i64 1)), none, []⟩,⟨some 25, .mnmx true (.t 22) (.t 24), none, []⟩,⟨some 26, .fad (.t 2) 1, none, [2]⟩,⟨some 27, .load 1 false (.t 26), none, [2]⟩,⟨some 28, .call 101 [.t 25, .t 27], none, []⟩,⟨none, .store (.t 4) 2 (.t 20), none, [4]⟩,⟨none, .store (.t 5) 2 (.t 28), none, [5]⟩] [4, 5]
theorem r89_7 : type_of% (rr c89_7.eq_1) := rr rfl
def c89_8 : ACode := .seq c89_7 .ret
theorem r89_8 : type_of% (rr c89_8.eq_1) := rr rfl
def c89_9 : ACode := .seq c89_6 c89_8
theorem r89_9 : type_of% (rr c89_9.eq_1) := rr rfl
def c89_10 : ACode := .seq c89_1 c89_9
theorem r89_10 : type_of% (rr c89_10.eq_1) := rr rfl
def c89_11 : ACode := .seq c89_0 c89_10
theorem r89_11 : type_of% (rr c89_11.eq_1) := rr rfl
def a89 : AFun := ⟨2, 29, c89_11, [.cell 4 2 true, .cell 5 2 true]⟩
attribute [simp] r89_0 r89_1 r89_2 r89_3 r89_4 r89_5 r89_6 r89_7 r89_8 r89_9 r89_10 r89_11
theorem m89 : mFun Tryz.prog Tryz.f89 a89 = true := by decide +kernel
def c26_0 : ACode := .ops [⟨some 1, .box (.t 0) 10, none, []⟩,⟨some 2, .mv (.c (.bool false)), none, []⟩] [1]
theorem r26_0 : type_of% (rr c26_0.eq_1) := rr rfl
def c26_1 : ACode := .ops [⟨some 5, .load 10 true (.t 1), none, [1]⟩,⟨some 6, .mv (.c (.int .i64 0)), none, []⟩] [5, 6]
theorem r26_1 : type_of% (rr c26_1.eq_1) := rr rfl
def c26_2 : ACode := .ops [⟨some 7, .bin .lss (.t 6) (.c (.int .i64 5)), none, []⟩] [5, 6, 7]
theorem r26_2 : type_of% (rr c26_2.eq_1) := rr rfl
def c26_3 : ACode := .cond (.t 7) .skip (.exit 0)
theorem r26_3 : type_of% (rr c26_3.eq_1) := rr rfl
def c26_4 : ACode := .ops [⟨some 8, .idx (.t 5) (.t 6) 2 5 true, none, []⟩,⟨some 4, .alloc [.int .i64 0, .int .i64 0], none, []⟩,⟨none, .store (.t 4) 2 (.t 8), none, [4]⟩] [4, 5, 6]
theorem r26_4 : type_of% (rr c26_4.eq_1) := rr rfl
def c26_5 : ACode := .ops [⟨some 9, .load 2 true (.t 4), none, [4]⟩,⟨some 10, .call 54 [.t 9], none, []⟩] [5, 6, 10]
theorem r26_5 : type_of% (rr c26_5.eq_1) := rr rfl
def c26_6 : ACode := .ops [⟨some 2, .mv (.c (.bool true)), none, []⟩] [2]
theorem r26_6 : type_of% (rr c26_6.eq_1) := rr rfl
def c26_7 : ACode := .seq c26_6 .ret
theorem r26_7 : type_of% (rr c26_7.eq_1) := rr rfl
def c26_8 : ACode := .cond (.t 10) c26_7 .skip
theorem r26_8 : type_of% (rr c26_8.eq_1) := rr rfl
def c26_9 : ACode := .seq c26_5 c26_8
theorem r26_9 : type_of% (rr c26_9.eq_1) := rr rfl
def c26_10 : ACode := .seq c26_4 c26_9
theorem r26_10 : type_of% (rr c26_10.eq_1) := rr rfl
def c26_11 : ACode := .block 1 c26_10
theorem r26_11 : type_of% (rr c26_11.eq_1) := rr rfl
def c26_12 : ACode := .ops [⟨some 11, .bin .add (.t 6) (.c (.int .i64 1)), none, []⟩,⟨some 6, .mv (.t 11), none, []⟩] [5, 6]
theorem r26_12 : type_of% (rr c26_12.eq_1) := rr rfl
def c26_13 : ACode := .seq c26_11 c26_12
theorem r26_13 : type_of% (rr c26_13.eq_1) := rr rfl
def c26_14 : ACode := .seq c26_3 c26_13
theorem r26_14 : type_of% (rr c26_14.eq_1) := rr rfl
def c26_15 : ACode := .seq c26_2 c26_14
theorem r26_15 : type_of% (rr c26_15.eq_1) := rr rfl
def c26_16 : ACode := .keep [5, 6] [] c26_15
theorem r26_16 : type_of% (rr c26_16.eq_1) := rr rfl
def c26_17 : ACode := .loop c26_16
theorem r26_17 : type_of% (rr c26_17.eq_1) := rr rfl
def c26_18 : ACode := .block 0 c26_17
theorem r26_18 : type_of% (rr c26_18.eq_1) := rr rfl
def c26_19 : ACode := .seq c26_1 c26_18
theorem r26_19 : type_of% (rr c26_19.eq_1) := rr rfl
def c26_20 : ACode := .ops [⟨some 2, .mv (.c (.bool false)), none, []⟩] [2]
theorem r26_20 : type_of% (rr c26_20.eq_1) := rr rfl
def c26_21 : ACode := .seq c26_20 .ret
theorem r26_21 : type_of% (rr c26_21.eq_1) := rr rfl
def c26_22 : ACode := .seq c26_19 c26_21
theorem r26_22 : type_of% (rr c26_22.eq_1) := rr rfl
def c26_23 : ACode := .seq c26_0 c26_22
theorem r26_23 : type_of% (rr c26_23.eq_1) := rr rfl
def a26 : AFun := ⟨1, 12, c26_23, [.t 2]⟩
attribute [simp] r26_0 r26_1 r26_2 r26_3 r26_4 r26_5 r26_6 r26_7 r26_8 r26_9 r26_10 r26_11 r26_12 r26_13 r26_14 r26_15 r26_16 r26_17 r26_18 r26_19 r26_20 r26_21 r26_22 r26_23
theorem m26 : mFun Tryz.prog Tryz.f26 a26 = true := by decide +kernel
def c69_0 : ACode := .ops [⟨some 3, .box (.t 0) 10, none, []⟩,⟨some 6, .alloc [.int .i64 0, .int .i64 0, .int .i64 0, .int .i64 0, .int .i64 0, .int .i64 0, .int .i64 0, .int .i64 0, .int .i64 0, .int .i64 0], none, []⟩,⟨some 7, .alloc [.int .i64 0, .int .i64 0, .int .i64 0, .int .i64 0, .int .i64 0, .int .i64 0, .int .i64 0, .int .i64 0, .int .i64 0, .int .i64 0], none, []⟩] [1, 2, 3, 6, 7]
theorem r69_0 : type_of% (rr c69_0.eq_1) := rr rfl
def c69_1 : ACode := .ops [⟨some 10, .load 10 true (.t 3), none, [3]⟩,⟨some 11, .load 10 true (.t 3), none, [3]⟩,⟨some 8, .alloc [.int .i64 0, .int .i64 0, .int .i64 0, .int .i64 0, .int .i64 0, .int .i64 0, .int .i64 0, .int .i64 0, .int .i64 0, .int .i64 0], none, []⟩,⟨some 9, .alloc [.int .i64 0, .int .i64 0, .int .i64 0, .int .i64 0, .int .i64 0, .int .i64 0, .int .i64 0, .int .i64 0, .int .i64 0, .int .i64 0], none, []⟩,⟨none, .store (.t 8) 10 (.t 10), none, [8]⟩,⟨none, .store (.t 9) 10 (.t 11), none, [9]⟩] [1, 2, 3, 6, 7, 8, 9]
theorem r69_1 : type_of% (rr c69_1.eq_1) := rr rfl
def c69_2 : ACode := .ops [⟨some 12, .mv (.t 1), none, []⟩,⟨some 13, .bin .geq (.t 12) (.c (.int .i64 0)), none, []⟩,⟨some 14, .mv (.t 13), none, []⟩,⟨some 15, .mv (.t 1), some (14, true), []⟩,⟨some 16, .bin .lss (.t 15) (.c (.int .i64 5)), some (14, true), []⟩,⟨some 17, .pick (.t 14) (.t 16) (.c (.bool false)), none, []⟩] [1, 2, 3, 6, 7, 8, 9, 17]
theorem r69_2 : type_of% (rr c69_2.eq_1) := rr rfl
def c69_3 : ACode := .ops [⟨some 19, .mv (.t 1), none, []⟩,⟨some 20, .mv (.t 1), none, []⟩,⟨some 21, .mv (.t 1), none, []⟩,⟨some 22, .iad (.t 3) (.t 21) 2 5, none, [3]⟩,⟨some 23, .load 2 true (.t 22), none, [3]⟩,⟨some 24, .mv (.t 2), none, []⟩,⟨some 25, .call 89 [.t 23, .t 24], none, []⟩,⟨some 18, .mv (.t 25), none, []⟩,⟨some 26, .ext (.t 18) 0, none, []⟩,⟨some 27, .ext (.t 18) 1, none, []⟩,⟨some 28, .iad (.t 8) (.t 19) 2 5, none, [8]⟩,⟨none, .store (.t 28) 2 (.t 26), none, [8]⟩,⟨some 29, .iad (.t 9) (.t 20) 2 5, none, [9]⟩,⟨none, .store (.t 29) 2 (.t 27), none, [9]⟩] [6, 7, 8, 9]
theorem r69_3 : type_of% (rr c69_3.eq_1) := rr rfl
def c69_4 : ACode := .cond (.t 17) c69_3 .skip
theorem r69_4 : type_of% (rr c69_4.eq_1) := rr rfl
def c69_5 : ACode := .seq c69_2 c69_4
theorem r69_5 : type_of% (rr c69_5.eq_1) := rr rfl
def c69_6 : ACode := .ops [⟨some 30, .load 10 true (.t 8), none, [8]⟩,⟨some 31, .load 10 true (.t 9), none, [9]⟩,⟨none, .store (.t 6) 10 (.t 30), none, [6]⟩,⟨none, .store (.t 7) 10 (.t 31), none, [7]⟩] [6, 7]
theorem r69_6 : type_of% (rr c69_6.eq_1) := rr rfl
def c69_7 : ACode := .seq c69_6 .ret
theorem r69_7 : type_of% (rr c69_7.eq_1) := rr rfl
def c69_8 : ACode := .seq c69_5 c69_7
theorem r69_8 : type_of% (rr c69_8.eq_1) := rr rfl
def c69_9 : ACode := .seq c69_1 c69_8
theorem r69_9 : type_of% (rr c69_9.eq_1) := rr rfl
def c69_10 : ACode := .seq c69_0 c69_9
theorem r69_10 : type_of% (rr c69_10.eq_1) := rr rfl
def a69 : AFun := ⟨3, 32, c69_10, [.cell 6 10 true, .cell 7 10 true]⟩
attribute [simp] r69_0 r69_1 r69_2 r69_3 r69_4 r69_5 r69_6 r69_7 r69_8 r69_9 r69_10
theorem m69 : mFun Tryz.prog Tryz.f69 a69 = true := by decide +kernel
theorem runs_none (c : Span) (h : some noneS = some c) : Runs (tbl []) a102 [] (Arg.enc c) := by
  cases h
  refine ⟨rfl, fun g => run_def ?_⟩
  unfold a102
  simp -implicitDefEqProofs [noneS]
theorem c_none : Contract Tryz.prog 102 (sp0 (some noneS)) := contract_of_runs mixed tbl_nil Tryz.func102 m102 (sp0_runs runs_none)
theorem runs_of (lo hi : Int) (c : Span) (h : some (ofS lo hi) = some c) : Runs (tbl [(102, sp0 (some noneS))]) a101 [Arg.enc lo, Arg.enc hi] (Arg.enc c) := by
  cases h
  refine ⟨rfl, fun g => run_def ?_⟩
  unfold a101
  by_cases h1 : hi < lo <;> simp -implicitDefEqProofs [ofS, noneS, h1]
theorem c_of : Contract Tryz.prog 101 (sp2 fun lo hi => some (ofS lo hi)) :=
  contract_of_runs mixed (tbl_cons c_none tbl_nil) Tryz.func101 m101 (sp2_runs runs_of)
theorem runs_sEmpty (s : Span) (c : Bool) (h : some s.empty = some c) : Runs (tbl []) a54 [Arg.enc s] (Arg.enc c) := by
  cases h
  refine ⟨rfl, fun g => run_def ?_⟩
  unfold a54
  simp -implicitDefEqProofs [Span.empty]
theorem c_sEmpty : Contract Tryz.prog 54 (sp1 fun (s : Span) => some s.empty) := contract_of_runs mixed tbl_nil Tryz.func54 m54 (sp1_runs runs_sEmpty)
def CutS (s : Span) (n : Int) : Option (Span × Span) := if ok64 n ∧ ok64 s.hi then some (cutS s n) else none
theorem runs_sCut (s : Span) (n : Int) (c : Span × Span) (h : CutS s n = some c) : Runs (tbl [(101, sp2 fun lo hi => some (ofS lo hi)), (102, sp0 (some noneS))]) a89 [Arg.enc s, Arg.enc n] (Arg.enc c) := by
  unfold CutS at h
  split at h
  · rename_i hb
    cases h
    obtain ⟨⟨b1, b2⟩, b3, b4⟩ := hb
    refine ⟨rfl, fun g => run_def ?_⟩
    unfold a89
    by_cases h1 : s.hi ≤ n
    · by_cases h2 : n < s.hi
      · omega
      · simp -implicitDefEqProofs [cutS, noneS, h1, h2]
    · have e : IntKind.i64.wrap (n + 1) = n + 1 := wrap64 (by omega) (by omega)
      have h2 : n < s.hi := by omega
      simp -implicitDefEqProofs [cutS, h1, h2, e]
  · cases h
theorem c_sCut : Contract Tryz.prog 89 (sp2 CutS) :=
  contract_of_runs mixed (tbl_cons c_of (tbl_cons c_none tbl_nil)) Tryz.func89 m89 (sp2_runs runs_sCut)
theorem runs_bEmpty (b : Box) (c : Bool) (h : some b.empty = some c) : Runs (tbl [(54, sp1 fun (s : Span) => some s.empty)]) a26 [Arg.enc b] (Arg.enc c) := by
  cases h
  refine ⟨rfl, fun g => run_def ?_⟩
  unfold a26
  cases h0 : b.s0.empty
  case true => simp -implicitDefEqProofs [Box.empty, run_round, h0]
  cases h1 : b.s1.empty
  case true => simp -implicitDefEqProofs [Box.empty, run_round, h0, h1]
  cases h2 : b.s2.empty
  case true => simp -implicitDefEqProofs [Box.empty, run_round, h0, h1, h2]
  cases h3 : b.s3.empty
  case true => simp -implicitDefEqProofs [Box.empty, run_round, h0, h1, h2, h3]
  cases h4 : b.s4.empty <;> simp -implicitDefEqProofs [Box.empty, run_round, h0, h1, h2, h3, h4]
theorem c_bEmpty : Contract Tryz.prog 26 (sp1 fun (b : Box) => some b.empty) :=
  contract_of_runs mixed (tbl_cons c_sEmpty tbl_nil) Tryz.func26 m26 (sp1_runs runs_bEmpty)
def CutB (b : Box) (p n : Int) : Option (Box × Box) := if ok64 n ∧ ok64 (b.get p).hi then some (cutB b p n) else none
theorem runs_bCut (b : Box) (p n : Int) (c : Box × Box) (h : CutB b p n = some c) : Runs (tbl [(89, sp2 CutS)]) a69 [Arg.enc b, Arg.enc p, Arg.enc n] (Arg.enc c) := by
  unfold CutB at h
  split at h
  · rename_i hb
    cases h
    obtain ⟨b1, b2⟩ := hb
    refine ⟨rfl, fun g => run_def ?_⟩
    unfold a69
    by_cases h1 : 0 ≤ p
    case neg => simp -implicitDefEqProofs [cutB, h1]
    by_cases h2 : p < 5
    case neg => simp -implicitDefEqProofs [cutB, h1, h2]
    have hp : p = 0 ∨ p = 1 ∨ p = 2 ∨ p = 3 ∨ p = 4 := by omega
    rcases hp with rfl | rfl | rfl | rfl | rfl <;> simp [Box.get] at b2 <;> simp -implicitDefEqProofs [cutB, Box.get, Box.set, CutS, b1, b2]
  · cases h
theorem c_bCut : Contract Tryz.prog 69 (sp3 CutB) :=
  contract_of_runs mixed (tbl_cons c_sCut tbl_nil) Tryz.func69 m69 (sp3_runs runs_bCut)
end Go.Co
/- CO: right trees of words; a tree that is grown of numbers is right. -/
namespace Go.Co
theorem pack_okW (n : Node) : okW (pack n).v := by
  unfold pack okW
  split
  · rename_i h
    obtain ⟨leaf, value, feature, cut, left, right⟩ := n
    cases leaf <;> simp [rightNode, fits] at h ⊢ <;> omega
  · simp
theorem raw_pack (n : Node) (h : rightNode n = true) : raw (pack n).v = n := by
  obtain ⟨leaf, value, feature, cut, left, right⟩ := n
  have hb := h
  unfold pack raw
  rw [if_pos h]
  cases leaf
  · simp [rightNode, fits] at hb
    obtain ⟨⟨⟨⟨⟨⟨⟨h0, h1⟩, h2⟩, h3, h4⟩, h5⟩, h6⟩, h7⟩, h8⟩ := hb
    have e : (cut % 4294967296 + feature * 4294967296 + left * 1099511627776 + right * 281474976710656) / 9223372036854775808 ≠ 1 := by omega
    simp only [Bool.false_eq_true, if_false, wrap32, if_neg e, Node.mk.injEq, true_and]
    refine ⟨?_, ?_, ?_, ?_, ?_⟩ <;> omega
  · simp [rightNode, fits] at hb
    obtain ⟨⟨⟨⟨⟨h0, h1⟩, h2⟩, h3⟩, h4⟩, h5⟩ := hb
    have e : (9223372036854775808 + value % 4294967296) / 9223372036854775808 = 1 := by omega
    simp only [if_true, wrap32, if_pos e, Node.mk.injEq, true_and, h2, h3, h4, h5, and_true]
    omega
theorem unpack_pack (n : Node) (h : rightNode n = true) : unpack (pack n) = (n, true) := by
  unfold unpack
  rw [raw_pack n h]
  simp [h]
theorem unpack_true {w : Word} (h : (unpack w).2 = true) : rightNode (unpack w).1 = true ∧ pack (unpack w).1 = w := by
  unfold unpack at *
  split at h
  · rename_i hh
    rw [if_pos hh]
    simpa using hh
  · cases h
def nd (w : Word) : Node := (unpack w).1
theorem nd_pack (n : Node) (h : rightNode n = true) : nd (pack n) = n := by unfold nd; rw [unpack_pack n h]
def names (n : Node) (j : Nat) : Bool := !n.leaf && (decide (n.left = j) || decide (n.right = j))
structure RT (l : List Word) (dim : Int) : Prop where
  ok : ∀ (i : Nat) (h : i < l.length), okW l[i].v ∧ (unpack l[i]).2 = true
  pos : 1 ≤ l.length
  le : l.length ≤ 31
  inner : ∀ (i : Nat) (h : i < l.length), (nd l[i]).leaf = false → (nd l[i]).feature < dim ∧ (nd l[i]).left ≠ (nd l[i]).right ∧ (i : Int) < (nd l[i]).left ∧ (nd l[i]).left < l.length ∧ (i : Int) < (nd l[i]).right ∧ (nd l[i]).right < l.length
  once : ∀ j : Nat, 1 ≤ j → j < l.length → l.countP (fun w => names (nd w) j) = 1
structure NT (l : List Node) (dim : Int) : Prop where
  ok : ∀ n ∈ l, rightNode n = true
  pos : 1 ≤ l.length
  le : l.length ≤ 31
  inner : ∀ (i : Nat) (h : i < l.length), l[i].leaf = false → l[i].feature < dim ∧ l[i].left ≠ l[i].right ∧ (i : Int) < l[i].left ∧ l[i].left < l.length ∧ (i : Int) < l[i].right ∧ l[i].right < l.length
  once : ∀ j : Nat, 1 ≤ j → j < l.length → l.countP (fun n => names n j) = 1
theorem NT.words {l : List Node} {dim : Int} (h : NT l dim) : RT (l.map pack) dim := by
  have hp : ∀ (i : Nat) (hi : i < l.length), nd (pack l[i]) = l[i] := fun i hi => nd_pack _ (h.ok _ (List.getElem_mem hi))
  refine ⟨?_, by simpa using h.pos, by simpa using h.le, ?_, ?_⟩
  · intro i hi
    simp only [List.getElem_map]
    have hi2 : i < l.length := by simpa using hi
    exact ⟨pack_okW _, by rw [unpack_pack _ (h.ok _ (List.getElem_mem hi2))]⟩
  · intro i hi
    have hi2 : i < l.length := by simpa using hi
    simp only [List.getElem_map, List.length_map, hp i hi2]
    exact h.inner i hi2
  · intro j h1 h2
    rw [List.countP_map]
    rw [← h.once j h1 (by simpa using h2)]
    refine List.countP_congr fun n hn => ?_
    simp [nd_pack n (h.ok n hn)]
def leafN (v : Int) : Node := ⟨true, v, 0, 0, 0, 0⟩
structure Gr where
  nodes : List Node
  leaves : List Int
def grow0 (t : KTree) : Gr := ⟨[leafN (within (pick t.val 0) (-3000) 3000)], [0]⟩
def growK (t : KTree) (i : Nat) (s : Gr) : Nat := (within (t.part.getD i 0) 0 (s.leaves.length - 1)).toNat
def growN (t : KTree) (dim : Int) (i : Nat) (n : Int) : Node := ⟨false, 0, within (pick t.dir i) 0 (dim - 1), within (pick t.cut i) 0 9, n, n + 1⟩
def growS (t : KTree) (dim : Int) (i : Nat) (s : Gr) : Gr :=
  ⟨s.nodes.set (s.leaves.getD (growK t i s) 0).toNat (growN t dim i s.nodes.length) ++ [leafN (within (pick t.val (2 * i + 1)) (-3000) 3000), leafN (within (pick t.val (2 * i + 2)) (-3000) 3000)],
    s.leaves.take (growK t i s) ++ s.leaves.drop (growK t i s + 1) ++ [(s.nodes.length : Int), s.nodes.length + 1]⟩
def grow (t : KTree) (dim : Int) : Nat → Gr
  | 0 => grow0 t
  | i + 1 => growS t dim i (grow t dim i)
def treeNodes (t : KTree) (dim : Int) : List Word := (grow t dim (min t.part.length 7)).nodes.map pack
theorem within_le (n lo hi : Int) (h : lo ≤ hi) : lo ≤ within n lo hi ∧ within n lo hi ≤ hi := by
  unfold within
  have h1 := Int.emod_nonneg n (show hi - lo + 1 ≠ 0 by omega)
  have h2 := Int.emod_lt_of_pos n (show 0 < hi - lo + 1 by omega)
  omega
theorem right_leafN (n : Int) : rightNode (leafN (within n (-3000) 3000)) = true := by
  have := within_le n (-3000) 3000 (by omega)
  have h1 : fits (within n (-3000) 3000) = true := by
    unfold fits
    rw [Bool.and_eq_true, decide_eq_true_eq, decide_eq_true_eq]
    omega
  simp [rightNode, leafN, h1]
structure GI (dim : Int) (i : Nat) (s : Gr) : Prop where
  len : s.nodes.length = 2 * i + 1
  lvs : s.leaves.length = i + 1
  leaf : ∀ x ∈ s.leaves, 0 ≤ x ∧ ∃ h : x.toNat < s.nodes.length, (s.nodes[x.toNat]).leaf = true
  dis : s.leaves.Nodup
  ok : ∀ n ∈ s.nodes, rightNode n = true
  val : ∀ n ∈ s.nodes, -3000 ≤ n.value ∧ n.value ≤ 3000
  inner : ∀ (i : Nat) (h : i < s.nodes.length), s.nodes[i].leaf = false → s.nodes[i].feature < dim ∧ 0 ≤ s.nodes[i].cut ∧ s.nodes[i].cut ≤ 9 ∧ (i : Int) < s.nodes[i].left ∧ s.nodes[i].right = s.nodes[i].left + 1 ∧ s.nodes[i].right < s.nodes.length
  once : ∀ j : Nat, 1 ≤ j → j < s.nodes.length → s.nodes.countP (fun n => names n j) = 1
theorem gi0 (t : KTree) (dim : Int) : GI dim 0 (grow0 t) := by
  refine ⟨rfl, rfl, ?_, by simp [grow0], ?_, ?_, ?_, ?_⟩
  · intro x hx
    simp [grow0] at hx
    subst hx
    exact ⟨by omega, by simp [grow0], rfl⟩
  · intro n hn
    simp [grow0] at hn
    subst hn
    exact right_leafN _
  · intro n hn
    simp [grow0] at hn
    subst hn
    exact within_le _ _ _ (by omega)
  · intro i h hl
    simp [grow0] at h
    subst h
    simp [grow0, leafN] at hl
  · intro j h1 h2
    simp [grow0] at h2
    omega
theorem nodup_cut {l : List Int} (h : l.Nodup) (k : Nat) : (l.take k ++ l.drop (k + 1)).Nodup := by
  refine List.Nodup.sublist ?_ h
  have : l.take k ++ l.drop (k + 1) = l.eraseIdx k := (List.eraseIdx_eq_take_drop_succ l k).symm
  rw [this]
  exact List.eraseIdx_sublist l k
theorem mem_cut_ne {l : List Int} (h : l.Nodup) (k : Nat) (hk : k < l.length) {x : Int} (hx : x ∈ l.take k ++ l.drop (k + 1)) : x ∈ l ∧ x ≠ l[k] := by
  rw [← List.eraseIdx_eq_take_drop_succ] at hx
  rw [List.mem_eraseIdx_iff_getElem] at hx
  obtain ⟨j, hj, hne, rfl⟩ := hx
  refine ⟨List.getElem_mem _, fun e => ?_⟩
  rw [List.Nodup] at h
  exact hne ((List.getElem_inj (h₀ := hj) (h₁ := hk) h).1 e)
theorem gi_step (t : KTree) (dim : Int) (i : Nat) (s : Gr) (hd : 1 ≤ dim) (hd4 : dim ≤ 4) (hi : i < 7) (h : GI dim i s) : GI dim (i + 1) (growS t dim i s) := by
  obtain ⟨len, lvs, leaf, dis, ok, val, inner, once⟩ := h
  have hk := within_le (t.part.getD i 0) 0 (s.leaves.length - 1) (by omega)
  have hk2 : growK t i s < s.leaves.length := by unfold growK; omega
  unfold growS
  generalize growK t i s = k at *
  have hat : s.leaves.getD k 0 = s.leaves[k] := by simp [hk2]
  obtain ⟨h0, hl1, hl2⟩ := leaf _ (List.getElem_mem hk2)
  rw [hat]
  generalize ha : s.leaves[k].toNat = a at *
  have hw1 := within_le (pick t.dir i) 0 (dim - 1) (by omega)
  have hw2 := within_le (pick t.cut i) 0 9 (by omega)
  generalize hN : growN t dim i s.nodes.length = N at *
  have N1 : N.leaf = false := by rw [← hN]; rfl
  have N2 : N.left = s.nodes.length := by rw [← hN]; rfl
  have N3 : N.right = s.nodes.length + 1 := by rw [← hN]; rfl
  have N4 : 0 ≤ N.feature ∧ N.feature < dim := by rw [← hN]; unfold growN; simp only; omega
  have N5 : 0 ≤ N.cut ∧ N.cut ≤ 9 := by rw [← hN]; unfold growN; simp only; omega
  have N6 : N.value = 0 := by rw [← hN]; rfl
  have hR := right_leafN (pick t.val (2 * i + 1))
  have hR2 := right_leafN (pick t.val (2 * i + 2))
  have hv := within_le (pick t.val (2 * i + 1)) (-3000) 3000 (by omega)
  have hv2 := within_le (pick t.val (2 * i + 2)) (-3000) 3000 (by omega)
  generalize within (pick t.val (2 * i + 1)) (-3000) 3000 = v1 at *
  generalize within (pick t.val (2 * i + 2)) (-3000) 3000 = v2 at *
  have hlen : (s.nodes.set a N ++ [leafN v1, leafN v2]).length = s.nodes.length + 2 := by simp
  have hget : ∀ (j : Nat) (hj : j < (s.nodes.set a N ++ [leafN v1, leafN v2]).length), (s.nodes.set a N ++ [leafN v1, leafN v2])[j] = if j = a then N else if h : j < s.nodes.length then s.nodes[j] else if j = s.nodes.length then leafN v1 else leafN v2 := by
    intro j hj
    rw [List.getElem_append]
    by_cases h1 : j < s.nodes.length
    · simp only [List.length_set, h1, dif_pos, List.getElem_set]
      by_cases h2 : j = a
      · simp [h2]
      · have : ¬ a = j := fun e => h2 e.symm
        simp [h2, this]
    · have h2 : ¬ j = a := by omega
      simp only [List.length_set, h1, dif_neg, not_false_iff, h2, if_false]
      have : j = s.nodes.length ∨ j = s.nodes.length + 1 := by simp at hj; omega
      rcases this with rfl | rfl
      · simp
      · simp
  have hmem : ∀ n ∈ s.nodes.set a N ++ [leafN v1, leafN v2], n = N ∨ n ∈ s.nodes ∨ n = leafN v1 ∨ n = leafN v2 := by
    intro n hn
    rw [List.mem_append] at hn
    rcases hn with hn | hn
    · rcases List.mem_or_eq_of_mem_set hn with h1 | h1
      · exact Or.inr (Or.inl h1)
      · exact Or.inl h1
    · simp at hn
      rcases hn with h1 | h1
      · exact Or.inr (Or.inr (Or.inl h1))
      · exact Or.inr (Or.inr (Or.inr h1))
  refine ⟨by simp only [hlen]; omega, ?_, ?_, ?_, ?_, ?_, ?_, ?_⟩
  · simp
    omega
  · intro x hx
    rw [List.mem_append] at hx
    rcases hx with hx | hx
    · obtain ⟨hx1, hx2⟩ := mem_cut_ne dis k hk2 hx
      obtain ⟨hx0, hx3, hx4⟩ := leaf x hx1
      have hne : ¬ x.toNat = a := by
        intro e
        apply hx2
        omega
      refine ⟨hx0, by rw [hlen]; omega, ?_⟩
      rw [hget, if_neg hne, dif_pos hx3]
      exact hx4
    · simp at hx
      rcases hx with rfl | rfl
      · refine ⟨by omega, by rw [hlen]; omega, ?_⟩
        rw [hget, if_neg (by omega), dif_neg (by omega)]
        simp [leafN]
      · refine ⟨by omega, by rw [hlen]; omega, ?_⟩
        rw [hget, if_neg (by omega), dif_neg (by omega)]
        split <;> rfl
  · rw [List.nodup_append]
    refine ⟨nodup_cut dis k, ?_, ?_⟩
    · simp
      omega
    · intro x hx y hy e
      subst e
      obtain ⟨hx1, hx2⟩ := mem_cut_ne dis k hk2 hx
      obtain ⟨hx0, hx3, hx4⟩ := leaf x hx1
      simp at hy
      omega
  · intro n hn
    rcases hmem n hn with rfl | h1 | rfl | rfl
    · simp [rightNode, N1, N2, N3, N6, fits]
      omega
    · exact ok n h1
    · exact hR
    · exact hR2
  · intro n hn
    rcases hmem n hn with rfl | h1 | rfl | rfl
    · omega
    · exact val n h1
    · exact hv
    · exact hv2
  · intro j hj
    simp only [hlen]
    rw [hget j hj]
    intro hl
    split at hl
    · rename_i e
      subst e
      simp only [if_true]
      omega
    · rename_i e
      rw [if_neg e]
      split at hl
      · rename_i hj2
        rw [dif_pos hj2]
        have := inner j hj2 hl
        omega
      · split at hl <;> cases hl
  · intro j h1 h2
    rw [hlen] at h2
    rw [List.countP_append, List.countP_set hl1]
    have e1 : names s.nodes[a] j = false := by simp [names, hl2]
    have e2 : names (leafN v1) j = false := by simp [names, leafN]
    have e3 : names (leafN v2) j = false := by simp [names, leafN]
    simp only [e1, List.countP_cons, e2, e3, List.countP_nil, Bool.false_eq_true, if_false]
    by_cases hj : j < s.nodes.length
    · have e4 : names N j = false := by simp [names, N1, N2, N3]; omega
      simp [e4, once j h1 hj]
    · have e4 : names N j = true := by simp [names, N1, N2, N3]; omega
      have e5 : s.nodes.countP (fun n => names n j) = 0 := by
        rw [List.countP_eq_zero]
        intro n hn
        obtain ⟨m, hm, rfl⟩ := List.getElem_of_mem hn
        intro hc
        simp [names] at hc
        have := inner m hm hc.1
        omega
      simp [e4, e5]
theorem gi (t : KTree) (dim : Int) (hd : 1 ≤ dim) (hd4 : dim ≤ 4) : ∀ i, i ≤ 7 → GI dim i (grow t dim i)
  | 0, _ => gi0 t dim
  | i + 1, h => gi_step t dim i _ hd hd4 (by omega) (gi t dim hd hd4 i (by omega))
theorem GI.nt {dim : Int} {i : Nat} {s : Gr} (hi : i ≤ 7) (h : GI dim i s) : NT s.nodes dim := by
  refine ⟨h.ok, by have := h.len; omega, by have := h.len; omega, ?_, h.once⟩
  intro j hj hl
  have := h.inner j hj hl
  omega
theorem rt_treeNodes (t : KTree) (dim : Int) (hd : 1 ≤ dim) (hd4 : dim ≤ 4) : RT (treeNodes t dim) dim :=
  ((gi t dim hd hd4 _ (Nat.min_le_right _ _)).nt (Nat.min_le_right _ _)).words
end Go.Co
