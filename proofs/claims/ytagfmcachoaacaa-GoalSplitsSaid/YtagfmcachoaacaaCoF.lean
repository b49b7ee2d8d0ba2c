/- CO: values, sums. -/
import Derived.Test.YtagfmcachoaacaaCoE
namespace Go.Co
open Go.Am Go.Proofs
set_option linter.unusedSimpArgs false
set_option linter.unusedVariables false
def c86_0 : ACode := .ops [⟨some 3, .box (.t 1) 4, none, []⟩,
  ⟨some 4, .mv (.c (.int .i64 0)), none, []⟩,
  ⟨some 5, .alloc [.bool false, .int .i64 0, .int .i64 0, .int .i64 0, .int .i64 0, .int .i64 0], none, []⟩] [0, 3, 5]
def c86_1 : ACode := .ops [⟨some 6, .mv (.c (.int .i64 0)), none, []⟩] [0, 3, 5, 6]
def c86_2 : ACode := .ops [⟨some 9, .mv (.c (.int .i64 0)), none, []⟩] [0, 3, 5, 6, 9]
def c86_3 : ACode := .ops [⟨some 10, .bin .lss (.t 9) (.c (.int .i64 31)), none, []⟩] [0, 3, 5, 6, 9, 10]
def c86_4 : ACode := .cond (.t 10) .skip (.exit 0)
def c86_5 : ACode := .ops [⟨some 11, .mv (.t 6), none, []⟩,
  ⟨some 12, .mv (.t 0), none, []⟩,
  ⟨some 13, .len (.t 12), none, []⟩,
  ⟨some 14, .bin .geq (.t 11) (.t 13), none, []⟩] [0, 3, 5, 6, 9, 14]
def c86_6 : ACode := .cond (.t 14) (.exit 0) .skip
def c86_7 : ACode := .seq c86_5 c86_6
def c86_8 : ACode := .ops [⟨some 16, .mv (.t 0), none, []⟩,
  ⟨some 17, .mv (.t 6), none, []⟩,
  ⟨some 18, .ias (.t 16) (.t 17) 1, none, []⟩,
  ⟨some 19, .load 1 false (.t 18), none, []⟩,
  ⟨some 20, .call 65 [.t 19], none, []⟩,
  ⟨some 15, .mv (.t 20), none, []⟩,
  ⟨some 21, .ext (.t 15) 0, none, []⟩,
  ⟨some 22, .ext (.t 15) 1, none, []⟩,
  ⟨some 7, .alloc [.bool false, .int .i64 0, .int .i64 0, .int .i64 0, .int .i64 0, .int .i64 0], none, []⟩,
  ⟨none, .store (.t 7) 6 (.t 21), none, [7]⟩,
  ⟨some 8, .mv (.t 22), none, []⟩] [0, 3, 5, 6, 7, 8, 9]
def c86_9 : ACode := .ops [⟨some 26, .mv (.t 8), none, []⟩,
  ⟨some 27, .un .not (.t 26), none, []⟩,
  ⟨some 25, .mv (.t 27), none, []⟩] [0, 3, 5, 6, 7, 9, 25]
def c86_10 : ACode := .ops [⟨some 28, .build [.bool false, .int .i64 0, .int .i64 0, .int .i64 0, .int .i64 0, .int .i64 0] [], none, []⟩,
  ⟨some 4, .mv (.c (.int .i64 (-1))), none, []⟩,
  ⟨none, .store (.t 5) 6 (.t 28), none, [5]⟩] [4, 5]
def c86_11 : ACode := .seq c86_10 .ret
def c86_12 : ACode := .ops [⟨some 30, .fad (.t 7) 0, none, [7]⟩,
  ⟨some 31, .load 1 false (.t 30), none, [7]⟩,
  ⟨some 29, .mv (.t 31), none, []⟩] [0, 3, 5, 6, 7, 9, 29]
def c86_13 : ACode := .ops [⟨some 32, .mv (.t 6), none, []⟩,
  ⟨some 33, .load 6 true (.t 7), none, [7]⟩,
  ⟨some 4, .mv (.t 32), none, []⟩,
  ⟨none, .store (.t 5) 6 (.t 33), none, [5]⟩] [4, 5]
def c86_14 : ACode := .seq c86_13 .ret
def c86_15 : ACode := .ops [⟨some 35, .fad (.t 7) 2, none, [7]⟩,
  ⟨some 36, .load 1 false (.t 35), none, [7]⟩,
  ⟨some 37, .iad (.t 3) (.t 36) 1 4, none, [3]⟩,
  ⟨some 38, .load 1 false (.t 37), none, [3]⟩,
  ⟨some 39, .fad (.t 7) 3, none, [7]⟩,
  ⟨some 40, .load 1 false (.t 39), none, [7]⟩,
  ⟨some 41, .bin .leq (.t 38) (.t 40), none, []⟩,
  ⟨some 34, .mv (.t 41), none, []⟩] [0, 3, 5, 7, 9, 34]
def c86_16 : ACode := .ops [⟨some 42, .fad (.t 7) 4, none, [7]⟩,
  ⟨some 43, .load 1 false (.t 42), none, [7]⟩,
  ⟨some 6, .mv (.t 43), none, []⟩] [0, 3, 5, 6, 9]
def c86_17 : ACode := .ops [⟨some 23, .fad (.t 7) 5, none, [7]⟩,
  ⟨some 24, .load 1 false (.t 23), none, [7]⟩,
  ⟨some 6, .mv (.t 24), none, []⟩] [0, 3, 5, 6, 9]
def c86_18 : ACode := .cond (.t 34) c86_16 c86_17
def c86_19 : ACode := .seq c86_15 c86_18
def c86_20 : ACode := .cond (.t 29) c86_14 c86_19
def c86_21 : ACode := .seq c86_12 c86_20
def c86_22 : ACode := .cond (.t 25) c86_11 c86_21
def c86_23 : ACode := .seq c86_9 c86_22
def c86_24 : ACode := .block 2 c86_23
def c86_25 : ACode := .seq c86_8 c86_24
def c86_26 : ACode := .seq c86_7 c86_25
def c86_27 : ACode := .block 1 c86_26
def c86_28 : ACode := .ops [⟨some 44, .bin .add (.t 9) (.c (.int .i64 1)), none, []⟩,
  ⟨some 9, .mv (.t 44), none, []⟩] [0, 3, 5, 6, 9]
def c86_29 : ACode := .seq c86_27 c86_28
def c86_30 : ACode := .seq c86_4 c86_29
def c86_31 : ACode := .seq c86_3 c86_30
def c86_32 : ACode := .keep [0, 3, 5, 6, 9] [3, 5] c86_31
def c86_33 : ACode := .loop c86_32
def c86_34 : ACode := .block 0 c86_33
def c86_35 : ACode := .seq c86_2 c86_34
def c86_36 : ACode := .ops [⟨some 45, .build [.bool false, .int .i64 0, .int .i64 0, .int .i64 0, .int .i64 0, .int .i64 0] [], none, []⟩,
  ⟨some 4, .mv (.c (.int .i64 (-1))), none, []⟩,
  ⟨none, .store (.t 5) 6 (.t 45), none, [5]⟩] [4, 5]
def c86_37 : ACode := .seq c86_36 .ret
def c86_38 : ACode := .seq c86_35 c86_37
def c86_39 : ACode := .seq c86_1 c86_38
def c86_40 : ACode := .seq c86_0 c86_39
def a86 : AFun := ⟨2, 46, c86_40, [.t 4, .cell 5 6 true]⟩
theorem m86 : mFun Try.prog Try.f86 a86 = true := by decide +kernel
def c74_0 : ACode := .ops [⟨some 3, .box (.t 1) 4, none, []⟩,
  ⟨some 4, .mv (.c (.int .i64 0)), none, []⟩] [0, 3]
def c74_1 : ACode := .ops [⟨some 8, .mv (.t 0), none, []⟩,
  ⟨some 9, .load 4 true (.t 3), none, [3]⟩,
  ⟨some 10, .call 86 [.t 8, .t 9], none, []⟩,
  ⟨some 7, .mv (.t 10), none, []⟩,
  ⟨some 11, .ext (.t 7) 0, none, []⟩,
  ⟨some 12, .ext (.t 7) 1, none, []⟩,
  ⟨some 6, .alloc [.bool false, .int .i64 0, .int .i64 0, .int .i64 0, .int .i64 0, .int .i64 0], none, []⟩,
  ⟨some 5, .mv (.t 11), none, []⟩,
  ⟨none, .store (.t 6) 6 (.t 12), none, [6]⟩] [6]
def c74_2 : ACode := .ops [⟨some 13, .fad (.t 6) 1, none, [6]⟩,
  ⟨some 14, .load 1 false (.t 13), none, [6]⟩,
  ⟨some 4, .mv (.t 14), none, []⟩] [4]
def c74_3 : ACode := .seq c74_2 .ret
def c74_4 : ACode := .seq c74_1 c74_3
def c74_5 : ACode := .seq c74_0 c74_4
def a74 : AFun := ⟨2, 15, c74_5, [.t 4]⟩
theorem m74 : mFun Try.prog Try.f74 a74 = true := by decide +kernel
def c49_0 : ACode := .ops [⟨some 3, .box (.t 0) 6, none, []⟩,
  ⟨some 5, .box (.t 2) 4, none, []⟩,
  ⟨some 6, .mv (.c (.int .i64 0)), none, []⟩] [1, 3, 5]
def c49_1 : ACode := .ops [⟨some 10, .mv (.t 1), none, []⟩,
  ⟨some 11, .fad (.t 3) 2, none, [3]⟩,
  ⟨some 12, .iad (.t 11) (.t 10) 1 3, none, [3]⟩,
  ⟨some 13, .load 1 false (.t 12), none, [3]⟩,
  ⟨some 7, .mv (.t 13), none, []⟩] [1, 3, 5, 7]
def c49_2 : ACode := .ops [⟨some 14, .fad (.t 3) 5, none, [3]⟩,
  ⟨some 15, .load 1 false (.t 14), none, [3]⟩,
  ⟨some 16, .len (.t 15), none, []⟩,
  ⟨some 17, .mv (.c (.int .i64 0)), none, []⟩] [1, 5, 7, 15, 16, 17]
def c49_3 : ACode := .ops [⟨some 18, .bin .lss (.t 17) (.t 16), none, []⟩] [1, 5, 7, 15, 16, 17, 18]
def c49_4 : ACode := .cond (.t 18) .skip (.exit 0)
def c49_5 : ACode := .ops [⟨some 19, .ias (.t 15) (.t 17) 2, none, []⟩,
  ⟨some 20, .load 2 true (.t 19), none, []⟩,
  ⟨some 9, .alloc [.int .i64 0, .nils], none, []⟩,
  ⟨none, .store (.t 9) 2 (.t 20), none, [9]⟩] [1, 5, 7, 9, 15, 16, 17]
def c49_6 : ACode := .ops [⟨some 21, .fad (.t 9) 0, none, [9]⟩,
  ⟨some 22, .load 1 false (.t 21), none, [9]⟩,
  ⟨some 23, .mv (.t 1), none, []⟩,
  ⟨some 24, .bin .eql (.t 22) (.t 23), none, []⟩] [1, 5, 7, 9, 15, 16, 17, 24]
def c49_7 : ACode := .ops [⟨some 25, .mv (.t 7), none, []⟩,
  ⟨some 26, .fad (.t 9) 1, none, [9]⟩,
  ⟨some 27, .load 1 false (.t 26), none, [9]⟩,
  ⟨some 28, .load 4 true (.t 5), none, [5]⟩,
  ⟨some 29, .call 74 [.t 27, .t 28], none, []⟩,
  ⟨some 30, .bin .add (.t 25) (.t 29), none, []⟩,
  ⟨some 7, .mv (.t 30), none, []⟩] [1, 5, 7, 15, 16, 17]
def c49_8 : ACode := .cond (.t 24) c49_7 .skip
def c49_9 : ACode := .seq c49_6 c49_8
def c49_10 : ACode := .seq c49_5 c49_9
def c49_11 : ACode := .block 1 c49_10
def c49_12 : ACode := .ops [⟨some 31, .bin .add (.t 17) (.c (.int .i64 1)), none, []⟩,
  ⟨some 17, .mv (.t 31), none, []⟩] [1, 5, 7, 15, 16, 17]
def c49_13 : ACode := .seq c49_11 c49_12
def c49_14 : ACode := .seq c49_4 c49_13
def c49_15 : ACode := .seq c49_3 c49_14
def c49_16 : ACode := .keep [1, 5, 7, 15, 16, 17] [5] c49_15
def c49_17 : ACode := .loop c49_16
def c49_18 : ACode := .block 0 c49_17
def c49_19 : ACode := .seq c49_2 c49_18
def c49_20 : ACode := .ops [⟨some 32, .mv (.t 7), none, []⟩,
  ⟨some 6, .mv (.t 32), none, []⟩] [6]
def c49_21 : ACode := .seq c49_20 .ret
def c49_22 : ACode := .seq c49_19 c49_21
def c49_23 : ACode := .seq c49_1 c49_22
def c49_24 : ACode := .seq c49_0 c49_23
def a49 : AFun := ⟨3, 33, c49_24, [.t 6]⟩
theorem m49 : mFun Try.prog Try.f49 a49 = true := by decide +kernel
def c24_0 : ACode := .ops [⟨some 3, .box (.t 0) 6, none, []⟩,
  ⟨some 5, .box (.t 2) 4, none, []⟩,
  ⟨some 6, .mv (.c (.int .i64 0)), none, []⟩] [1, 3, 5]
def c24_1 : ACode := .ops [⟨some 7, .load 6 true (.t 3), none, [3]⟩,
  ⟨some 8, .call 47 [.t 7], none, []⟩,
  ⟨some 9, .un .not (.t 8), none, []⟩,
  ⟨some 10, .mv (.t 9), none, []⟩,
  ⟨some 11, .mv (.t 1), some (10, false), []⟩,
  ⟨some 12, .bin .lss (.t 11) (.c (.int .i64 0)), some (10, false), []⟩,
  ⟨some 13, .pick (.t 10) (.c (.bool true)) (.t 12), none, []⟩,
  ⟨some 14, .mv (.t 13), none, []⟩,
  ⟨some 15, .mv (.t 1), some (14, false), []⟩,
  ⟨some 16, .fad (.t 3) 1, some (14, false), [3]⟩,
  ⟨some 17, .load 1 false (.t 16), some (14, false), [3]⟩,
  ⟨some 18, .bin .geq (.t 15) (.t 17), some (14, false), []⟩,
  ⟨some 19, .pick (.t 14) (.c (.bool true)) (.t 18), none, []⟩] [1, 3, 5, 19]
def c24_2 : ACode := .ops [⟨some 6, .mv (.c (.int .i64 0)), none, []⟩] [6]
def c24_3 : ACode := .seq c24_2 .ret
def c24_4 : ACode := .cond (.t 19) c24_3 .skip
def c24_5 : ACode := .seq c24_1 c24_4
def c24_6 : ACode := .ops [⟨some 20, .load 6 true (.t 3), none, [3]⟩,
  ⟨some 21, .mv (.t 1), none, []⟩,
  ⟨some 22, .load 4 true (.t 5), none, [5]⟩,
  ⟨some 23, .call 49 [.t 20, .t 21, .t 22], none, []⟩,
  ⟨some 6, .mv (.t 23), none, []⟩] [6]
def c24_7 : ACode := .seq c24_6 .ret
def c24_8 : ACode := .seq c24_5 c24_7
def c24_9 : ACode := .seq c24_0 c24_8
def a24 : AFun := ⟨3, 24, c24_9, [.t 6]⟩
theorem m24 : mFun Try.prog Try.f24 a24 = true := by decide +kernel
def c72_0 : ACode := .ops [⟨some 2, .box (.t 0) 2, none, []⟩,
  ⟨some 3, .mv (.c (.bool false)), none, []⟩] [1, 2]
theorem r72_0 : type_of% (@rr _ _ c72_0.eq_1) := rr c72_0.eq_1
def c72_1 : ACode := .ops [⟨some 4, .fad (.t 2) 0, none, [2]⟩,
  ⟨some 5, .load 1 false (.t 4), none, [2]⟩,
  ⟨some 6, .bin .lss (.t 5) (.c (.int .i64 0)), none, []⟩,
  ⟨some 7, .mv (.t 6), none, []⟩,
  ⟨some 8, .fad (.t 2) 0, some (7, false), [2]⟩,
  ⟨some 9, .load 1 false (.t 8), some (7, false), [2]⟩,
  ⟨some 10, .fad (.t 1) 1, some (7, false), []⟩,
  ⟨some 11, .load 1 false (.t 10), some (7, false), []⟩,
  ⟨some 12, .bin .geq (.t 9) (.t 11), some (7, false), []⟩,
  ⟨some 13, .pick (.t 7) (.c (.bool true)) (.t 12), none, []⟩,
  ⟨some 14, .mv (.t 13), none, []⟩,
  ⟨some 15, .fad (.t 2) 1, some (14, false), [2]⟩,
  ⟨some 16, .load 1 false (.t 15), some (14, false), [2]⟩,
  ⟨some 17, .fad (.t 1) 0, some (14, false), []⟩,
  ⟨some 18, .load 1 false (.t 17), some (14, false), []⟩,
  ⟨some 19, .call 73 [.t 16, .t 18], some (14, false), []⟩,
  ⟨some 20, .un .not (.t 19), some (14, false), []⟩,
  ⟨some 21, .pick (.t 14) (.c (.bool true)) (.t 20), none, []⟩,
  ⟨some 3, .mv (.t 21), none, []⟩] [3]
theorem r72_1 : type_of% (@rr _ _ c72_1.eq_1) := rr c72_1.eq_1
def c72_2 : ACode := .seq c72_1 .ret
theorem r72_2 : type_of% (@rr _ _ c72_2.eq_1) := rr c72_2.eq_1
def c72_3 : ACode := .seq c72_0 c72_2
theorem r72_3 : type_of% (@rr _ _ c72_3.eq_1) := rr c72_3.eq_1
def a72 : AFun := ⟨2, 22, c72_3, [.t 3]⟩
attribute [simp] r72_0 r72_1 r72_2 r72_3
theorem m72 : mFun Try.prog Try.f72 a72 = true := by decide +kernel
def c85_0 : ACode := .ops [⟨some 4, .mv (.c (.int .i64 0)), none, []⟩] [0, 1]
theorem r85_0 : type_of% (@rr _ _ c85_0.eq_1) := rr c85_0.eq_1
def c85_1 : ACode := .ops [⟨some 6, .mv (.t 0), none, []⟩,
  ⟨some 7, .len (.t 6), none, []⟩,
  ⟨some 8, .mv (.c (.int .i64 0)), none, []⟩] [0, 1, 7, 8]
theorem r85_1 : type_of% (@rr _ _ c85_1.eq_1) := rr c85_1.eq_1
def c85_2 : ACode := .ops [⟨some 9, .bin .lss (.t 8) (.t 7), none, []⟩] [0, 1, 7, 8, 9]
theorem r85_2 : type_of% (@rr _ _ c85_2.eq_1) := rr c85_2.eq_1
def c85_3 : ACode := .cond (.t 9) .skip (.exit 0)
theorem r85_3 : type_of% (@rr _ _ c85_3.eq_1) := rr c85_3.eq_1
def c85_4 : ACode := .ops [⟨some 10, .mv (.t 8), none, []⟩,
  ⟨some 5, .mv (.t 10), none, []⟩] [0, 1, 5, 7, 8]
theorem r85_4 : type_of% (@rr _ _ c85_4.eq_1) := rr c85_4.eq_1
def c85_5 : ACode := .ops [⟨some 11, .mv (.t 1), none, []⟩,
  ⟨some 12, .mv (.t 0), none, []⟩,
  ⟨some 13, .mv (.t 5), none, []⟩,
  ⟨some 14, .ias (.t 12) (.t 13) 2, none, []⟩,
  ⟨some 15, .load 2 true (.t 14), none, []⟩,
  ⟨some 16, .dyn (.t 11) [.t 15], none, []⟩] [0, 1, 5, 7, 8, 16]
theorem r85_5 : type_of% (@rr _ _ c85_5.eq_1) := rr c85_5.eq_1
def c85_6 : ACode := .ops [⟨some 17, .mv (.t 5), none, []⟩,
  ⟨some 4, .mv (.t 17), none, []⟩] [4]
theorem r85_6 : type_of% (@rr _ _ c85_6.eq_1) := rr c85_6.eq_1
def c85_7 : ACode := .seq c85_6 .ret
theorem r85_7 : type_of% (@rr _ _ c85_7.eq_1) := rr c85_7.eq_1
def c85_8 : ACode := .cond (.t 16) c85_7 .skip
theorem r85_8 : type_of% (@rr _ _ c85_8.eq_1) := rr c85_8.eq_1
def c85_9 : ACode := .seq c85_5 c85_8
theorem r85_9 : type_of% (@rr _ _ c85_9.eq_1) := rr c85_9.eq_1
def c85_10 : ACode := .seq c85_4 c85_9
theorem r85_10 : type_of% (@rr _ _ c85_10.eq_1) := rr c85_10.eq_1
def c85_11 : ACode := .block 1 c85_10
theorem r85_11 : type_of% (@rr _ _ c85_11.eq_1) := rr c85_11.eq_1
def c85_12 : ACode := .ops [⟨some 18, .bin .add (.t 8) (.c (.int .i64 1)), none, []⟩,
  ⟨some 8, .mv (.t 18), none, []⟩] [0, 1, 7, 8]
theorem r85_12 : type_of% (@rr _ _ c85_12.eq_1) := rr c85_12.eq_1
def c85_13 : ACode := .seq c85_11 c85_12
theorem r85_13 : type_of% (@rr _ _ c85_13.eq_1) := rr c85_13.eq_1
def c85_14 : ACode := .seq c85_3 c85_13
theorem r85_14 : type_of% (@rr _ _ c85_14.eq_1) := rr c85_14.eq_1
def c85_15 : ACode := .seq c85_2 c85_14
theorem r85_15 : type_of% (@rr _ _ c85_15.eq_1) := rr c85_15.eq_1
def c85_16 : ACode := .keep [0, 1, 7, 8] [] c85_15
theorem r85_16 : type_of% (@rr _ _ c85_16.eq_1) := rr c85_16.eq_1
def c85_17 : ACode := .loop c85_16
theorem r85_17 : type_of% (@rr _ _ c85_17.eq_1) := rr c85_17.eq_1
def c85_18 : ACode := .block 0 c85_17
theorem r85_18 : type_of% (@rr _ _ c85_18.eq_1) := rr c85_18.eq_1
def c85_19 : ACode := .seq c85_1 c85_18
theorem r85_19 : type_of% (@rr _ _ c85_19.eq_1) := rr c85_19.eq_1
def c85_20 : ACode := .ops [⟨some 4, .mv (.c (.int .i64 (-1))), none, []⟩] [4]
theorem r85_20 : type_of% (@rr _ _ c85_20.eq_1) := rr c85_20.eq_1
def c85_21 : ACode := .seq c85_20 .ret
theorem r85_21 : type_of% (@rr _ _ c85_21.eq_1) := rr c85_21.eq_1
def c85_22 : ACode := .seq c85_19 c85_21
theorem r85_22 : type_of% (@rr _ _ c85_22.eq_1) := rr c85_22.eq_1
def c85_23 : ACode := .seq c85_0 c85_22
theorem r85_23 : type_of% (@rr _ _ c85_23.eq_1) := rr c85_23.eq_1
def a85 : AFun := ⟨2, 19, c85_23, [.t 4]⟩
attribute [simp] r85_0 r85_1 r85_2 r85_3 r85_4 r85_5 r85_6 r85_7 r85_8 r85_9 r85_10 r85_11 r85_12 r85_13 r85_14 r85_15 r85_16 r85_17 r85_18 r85_19 r85_20 r85_21 r85_22 r85_23
theorem m85 : mFun Try.prog Try.f85 a85 = true := by decide +kernel
def c71_0 : ACode := .ops [⟨some 4, .mv (.c (.bool false)), none, []⟩] [0, 1]
theorem r71_0 : type_of% (@rr _ _ c71_0.eq_1) := rr c71_0.eq_1
def c71_1 : ACode := .ops [⟨some 5, .mv (.t 0), none, []⟩,
  ⟨some 6, .mv (.t 1), none, []⟩,
  ⟨some 7, .call 85 [.t 5, .t 6], none, []⟩,
  ⟨some 8, .bin .geq (.t 7) (.c (.int .i64 0)), none, []⟩,
  ⟨some 4, .mv (.t 8), none, []⟩] [4]
theorem r71_1 : type_of% (@rr _ _ c71_1.eq_1) := rr c71_1.eq_1
def c71_2 : ACode := .seq c71_1 .ret
theorem r71_2 : type_of% (@rr _ _ c71_2.eq_1) := rr c71_2.eq_1
def c71_3 : ACode := .seq c71_0 c71_2
theorem r71_3 : type_of% (@rr _ _ c71_3.eq_1) := rr c71_3.eq_1
def a71 : AFun := ⟨2, 9, c71_3, [.t 4]⟩
attribute [simp] r71_0 r71_1 r71_2 r71_3
theorem m71 : mFun Try.prog Try.f71 a71 = true := by decide +kernel
def c47_0 : ACode := .ops [⟨some 1, .box (.t 0) 6, none, []⟩,
  ⟨some 2, .mv (.c (.bool false)), none, []⟩] [1]
theorem r47_0 : type_of% (@rr _ _ c47_0.eq_1) := rr c47_0.eq_1
def c47_1 : ACode := .ops [⟨some 5, .fad (.t 1) 0, none, [1]⟩,
  ⟨some 6, .load 1 false (.t 5), none, [1]⟩,
  ⟨some 7, .bin .lss (.t 6) (.c (.int .i64 1)), none, []⟩,
  ⟨some 8, .mv (.t 7), none, []⟩,
  ⟨some 9, .fad (.t 1) 0, some (8, false), [1]⟩,
  ⟨some 10, .load 1 false (.t 9), some (8, false), [1]⟩,
  ⟨some 11, .bin .gtr (.t 10) (.c (.int .i64 4)), some (8, false), []⟩,
  ⟨some 12, .pick (.t 8) (.c (.bool true)) (.t 11), none, []⟩,
  ⟨some 13, .mv (.t 12), none, []⟩,
  ⟨some 14, .fad (.t 1) 1, some (13, false), [1]⟩,
  ⟨some 15, .load 1 false (.t 14), some (13, false), [1]⟩,
  ⟨some 16, .bin .lss (.t 15) (.c (.int .i64 1)), some (13, false), []⟩,
  ⟨some 17, .pick (.t 13) (.c (.bool true)) (.t 16), none, []⟩,
  ⟨some 18, .mv (.t 17), none, []⟩,
  ⟨some 19, .fad (.t 1) 1, some (18, false), [1]⟩,
  ⟨some 20, .load 1 false (.t 19), some (18, false), [1]⟩,
  ⟨some 21, .bin .gtr (.t 20) (.c (.int .i64 3)), some (18, false), []⟩,
  ⟨some 22, .pick (.t 18) (.c (.bool true)) (.t 21), none, []⟩,
  ⟨some 23, .mv (.t 22), none, []⟩,
  ⟨some 24, .fad (.t 1) 5, some (23, false), [1]⟩,
  ⟨some 25, .load 1 false (.t 24), some (23, false), [1]⟩,
  ⟨some 26, .len (.t 25), some (23, false), []⟩,
  ⟨some 27, .bin .gtr (.t 26) (.c (.int .i64 8)), some (23, false), []⟩,
  ⟨some 28, .pick (.t 23) (.c (.bool true)) (.t 27), none, []⟩] [1, 28]
theorem r47_1 : type_of% (@rr _ _ c47_1.eq_1) := rr c47_1.eq_1
def c47_2 : ACode := .ops [⟨some 2, .mv (.c (.bool false)), none, []⟩] [2]
theorem r47_2 : type_of% (@rr _ _ c47_2.eq_1) := rr c47_2.eq_1
def c47_3 : ACode := .seq c47_2 .ret
theorem r47_3 : type_of% (@rr _ _ c47_3.eq_1) := rr c47_3.eq_1
def c47_4 : ACode := .cond (.t 28) c47_3 .skip
theorem r47_4 : type_of% (@rr _ _ c47_4.eq_1) := rr c47_4.eq_1
def c47_5 : ACode := .seq c47_1 c47_4
theorem r47_5 : type_of% (@rr _ _ c47_5.eq_1) := rr c47_5.eq_1
def c47_6 : ACode := .ops [⟨some 29, .fad (.t 1) 2, none, [1]⟩,
  ⟨some 30, .load 3 true (.t 29), none, [1]⟩,
  ⟨some 31, .mv (.c (.int .i64 0)), none, []⟩] [1, 30, 31]
theorem r47_6 : type_of% (@rr _ _ c47_6.eq_1) := rr c47_6.eq_1
def c47_7 : ACode := .ops [⟨some 32, .bin .lss (.t 31) (.c (.int .i64 3)), none, []⟩] [1, 30, 31, 32]
theorem r47_7 : type_of% (@rr _ _ c47_7.eq_1) := rr c47_7.eq_1
def c47_8 : ACode := .cond (.t 32) .skip (.exit 0)
theorem r47_8 : type_of% (@rr _ _ c47_8.eq_1) := rr c47_8.eq_1
def c47_9 : ACode := .ops [⟨some 33, .mv (.t 31), none, []⟩,
  ⟨some 34, .idx (.t 30) (.t 31) 1 3 false, none, []⟩,
  ⟨some 3, .mv (.t 33), none, []⟩,
  ⟨some 4, .mv (.t 34), none, []⟩] [1, 3, 4, 30, 31]
theorem r47_9 : type_of% (@rr _ _ c47_9.eq_1) := rr c47_9.eq_1
def c47_10 : ACode := .ops [⟨some 35, .mv (.t 4), none, []⟩,
  ⟨some 36, .call 70 [.t 35, .c (.int .i64 32)], none, []⟩,
  ⟨some 37, .un .not (.t 36), none, []⟩,
  ⟨some 38, .mv (.t 37), none, []⟩,
  ⟨some 39, .mv (.t 3), some (38, false), []⟩,
  ⟨some 40, .fad (.t 1) 1, some (38, false), [1]⟩,
  ⟨some 41, .load 1 false (.t 40), some (38, false), [1]⟩,
  ⟨some 42, .bin .geq (.t 39) (.t 41), some (38, false), []⟩,
  ⟨some 43, .mv (.t 42), some (38, false), []⟩,
  ⟨some 44, .mv (.t 4), some (43, true), []⟩,
  ⟨some 45, .bin .neq (.t 44) (.c (.int .i64 0)), some (43, true), []⟩,
  ⟨some 46, .pick (.t 43) (.t 45) (.c (.bool false)), some (38, false), []⟩,
  ⟨some 47, .pick (.t 38) (.c (.bool true)) (.t 46), none, []⟩] [1, 30, 31, 47]
theorem r47_10 : type_of% (@rr _ _ c47_10.eq_1) := rr c47_10.eq_1
def c47_11 : ACode := .ops [⟨some 2, .mv (.c (.bool false)), none, []⟩] [2]
theorem r47_11 : type_of% (@rr _ _ c47_11.eq_1) := rr c47_11.eq_1
def c47_12 : ACode := .seq c47_11 .ret
theorem r47_12 : type_of% (@rr _ _ c47_12.eq_1) := rr c47_12.eq_1
def c47_13 : ACode := .cond (.t 47) c47_12 .skip
theorem r47_13 : type_of% (@rr _ _ c47_13.eq_1) := rr c47_13.eq_1
def c47_14 : ACode := .seq c47_10 c47_13
theorem r47_14 : type_of% (@rr _ _ c47_14.eq_1) := rr c47_14.eq_1
def c47_15 : ACode := .seq c47_9 c47_14
theorem r47_15 : type_of% (@rr _ _ c47_15.eq_1) := rr c47_15.eq_1
def c47_16 : ACode := .block 1 c47_15
theorem r47_16 : type_of% (@rr _ _ c47_16.eq_1) := rr c47_16.eq_1
def c47_17 : ACode := .ops [⟨some 48, .bin .add (.t 31) (.c (.int .i64 1)), none, []⟩,
  ⟨some 31, .mv (.t 48), none, []⟩] [1, 30, 31]
theorem r47_17 : type_of% (@rr _ _ c47_17.eq_1) := rr c47_17.eq_1
def c47_18 : ACode := .seq c47_16 c47_17
theorem r47_18 : type_of% (@rr _ _ c47_18.eq_1) := rr c47_18.eq_1
def c47_19 : ACode := .seq c47_8 c47_18
theorem r47_19 : type_of% (@rr _ _ c47_19.eq_1) := rr c47_19.eq_1
def c47_20 : ACode := .seq c47_7 c47_19
theorem r47_20 : type_of% (@rr _ _ c47_20.eq_1) := rr c47_20.eq_1
def c47_21 : ACode := .keep [1, 30, 31] [1] c47_20
theorem r47_21 : type_of% (@rr _ _ c47_21.eq_1) := rr c47_21.eq_1
def c47_22 : ACode := .loop c47_21
theorem r47_22 : type_of% (@rr _ _ c47_22.eq_1) := rr c47_22.eq_1
def c47_23 : ACode := .block 0 c47_22
theorem r47_23 : type_of% (@rr _ _ c47_23.eq_1) := rr c47_23.eq_1
def c47_24 : ACode := .seq c47_6 c47_23
theorem r47_24 : type_of% (@rr _ _ c47_24.eq_1) := rr c47_24.eq_1
def c47_25 : ACode := .ops [⟨some 49, .fad (.t 1) 5, none, [1]⟩,
  ⟨some 50, .load 1 false (.t 49), none, [1]⟩,
  ⟨some 51, .clo 72 [.t 1], none, [1]⟩,
  ⟨some 52, .call 71 [.t 50, .t 51], none, []⟩,
  ⟨some 53, .un .not (.t 52), none, []⟩,
  ⟨some 2, .mv (.t 53), none, []⟩] [2]
theorem r47_25 : type_of% (@rr _ _ c47_25.eq_1) := rr c47_25.eq_1
def c47_26 : ACode := .seq c47_25 .ret
theorem r47_26 : type_of% (@rr _ _ c47_26.eq_1) := rr c47_26.eq_1
def c47_27 : ACode := .seq c47_24 c47_26
theorem r47_27 : type_of% (@rr _ _ c47_27.eq_1) := rr c47_27.eq_1
def c47_28 : ACode := .seq c47_5 c47_27
theorem r47_28 : type_of% (@rr _ _ c47_28.eq_1) := rr c47_28.eq_1
def c47_29 : ACode := .seq c47_0 c47_28
theorem r47_29 : type_of% (@rr _ _ c47_29.eq_1) := rr c47_29.eq_1
def a47 : AFun := ⟨1, 54, c47_29, [.t 2]⟩
attribute [simp] r47_0 r47_1 r47_2 r47_3 r47_4 r47_5 r47_6 r47_7 r47_8 r47_9 r47_10 r47_11 r47_12 r47_13 r47_14 r47_15 r47_16 r47_17 r47_18 r47_19 r47_20 r47_21 r47_22 r47_23 r47_24 r47_25 r47_26 r47_27 r47_28 r47_29
theorem m47 : mFun Try.prog Try.f47 a47 = true := by decide +kernel
@[simp high] theorem rd_point (p : Point) (f : Int) (h0 : 0 ≤ f) (h : f < 4) : rd [.int .i64 p.p0, .int .i64 p.p1, .int .i64 p.p2, .int .i64 p.p3] f.toNat 1 false = some (.int .i64 (p.get f)) := by
  have hf : f = 0 ∨ f = 1 ∨ f = 2 ∨ f = 3 := by omega
  rcases hf with rfl | rfl | rfl | rfl <;> rfl
@[simp high] theorem rd_bias (a b : Int) (x : Bias) (y : AV) (c : Int) (h0 : 0 ≤ c) (h : c < 3) : rd [.int .i64 a, .int .i64 b, .int .i64 x.b0, .int .i64 x.b1, .int .i64 x.b2, y] (2 + c.toNat) 1 false = some (.int .i64 (x.get c)) := by
  have hc : c = 0 ∨ c = 1 ∨ c = 2 := by omega
  rcases hc with rfl | rfl | rfl <;> rfl
theorem rd_tree (l : List Tree) (i : Nat) (h : i < l.length) : rd (encL l) (i * 2) 2 true = some (.agg [.int .i64 l[i].cls, .lst l[i].nodes.length (encL l[i].nodes)]) := rd_row l i h
/-! ### right models -/
@[simp] theorem dec_ref_model (m : Model) : (Arg.dec (.ipt 0 [.int .i64 m.dim, .int .i64 m.classes, .int .i64 m.bias.b0, .int .i64 m.bias.b1, .int .i64 m.bias.b2, .lst m.trees.length (encL m.trees)]) : Option (Ref Model)) = some ⟨m⟩ := Arg.dec_enc (⟨m⟩ : Ref Model)
structure CloR where
  m : Model
instance : Arg CloR where
  enc r := .clo 72 [.ipt 0 (Row.enc r.m)]
  dec x := match x with
    | .clo f [.ipt 0 xs] => if f = 72 then (Row.dec xs).map CloR.mk else none
    | _ => none
  dec_enc r := by simp only [if_true, Row.dec_enc]; rfl
  enc_dec x r h := by
    split at h
    · split at h
      · rename_i he
        rw [Option.map_eq_some_iff] at h
        obtain ⟨a, ha, rfl⟩ := h
        rw [Row.enc_dec _ _ ha, he]
      · cases h
    · cases h
@[simp] theorem enc_clor (r : CloR) : Arg.enc r = .clo 72 [.ipt 0 (Row.enc r.m)] := rfl
@[simp] theorem dec_clor (m : Model) : (Arg.dec (.clo 72 [.ipt 0 [.int .i64 m.dim, .int .i64 m.classes, .int .i64 m.bias.b0, .int .i64 m.bias.b1, .int .i64 m.bias.b2, .lst m.trees.length (encL m.trees)]]) : Option CloR) = some ⟨m⟩ := Arg.dec_enc (⟨m⟩ : CloR)
end Go.Co
