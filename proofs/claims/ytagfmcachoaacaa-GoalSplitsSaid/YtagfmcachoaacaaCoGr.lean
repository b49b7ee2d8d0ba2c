/- CO: cuts of a box, how many cells. -/
import Derived.Test.YtagfmcachoaacaaCoTh
import Derived.Test.YtagfmcachoaacaaCoBound
import Derived.Test.YtagfmcachoaacaaCoI
namespace Go.Co
open Go.Am Go.Proofs
set_option linter.unusedSimpArgs false
set_option linter.unusedVariables false
attribute [-simp] Go.Am.eff_gcall
def c39_0 : ACode := .ops [⟨some 2, .box (.t 0) 17, none, []⟩,
  ⟨some 4, .mv (.c (.int .i64 0)), none, []⟩] [1, 2]
theorem r39_0 : type_of% (@rr _ _ c39_0.eq_1) := rr c39_0.eq_1
def c39_1 : ACode := .ops [⟨some 6, .mv (.t 1), none, []⟩,
  ⟨some 7, .bin .geq (.t 6) (.c (.int .i64 0)), none, []⟩,
  ⟨some 8, .mv (.t 7), none, []⟩,
  ⟨some 9, .mv (.t 1), some (8, true), []⟩,
  ⟨some 10, .bin .lss (.t 9) (.c (.int .i64 4)), some (8, true), []⟩,
  ⟨some 11, .pick (.t 8) (.t 10) (.c (.bool false)), none, []⟩,
  ⟨some 5, .mv (.t 11), none, []⟩] [1, 2, 5]
theorem r39_1 : type_of% (@rr _ _ c39_1.eq_1) := rr c39_1.eq_1
def c39_2 : ACode := .ops [⟨some 12, .mv (.t 1), none, []⟩,
  ⟨some 4, .mv (.t 12), none, []⟩] [4]
theorem r39_2 : type_of% (@rr _ _ c39_2.eq_1) := rr c39_2.eq_1
def c39_3 : ACode := .seq c39_2 .ret
theorem r39_3 : type_of% (@rr _ _ c39_3.eq_1) := rr c39_3.eq_1
def c39_4 : ACode := .ops [⟨some 14, .mv (.t 1), none, []⟩,
  ⟨some 15, .bin .eql (.t 14) (.c (.int .i64 4)), none, []⟩,
  ⟨some 16, .mv (.t 15), none, []⟩,
  ⟨some 17, .fad (.t 2) 0, some (16, true), [2]⟩,
  ⟨some 18, .load 1 false (.t 17), some (16, true), [2]⟩,
  ⟨some 19, .bin .eql (.t 18) (.c (.int .i64 3)), some (16, true), []⟩,
  ⟨some 20, .pick (.t 16) (.t 19) (.c (.bool false)), none, []⟩,
  ⟨some 13, .mv (.t 20), none, []⟩] [2, 13]
theorem r39_4 : type_of% (@rr _ _ c39_4.eq_1) := rr c39_4.eq_1
def c39_5 : ACode := .ops [⟨some 21, .fad (.t 2) 14, none, [2]⟩,
  ⟨some 22, .load 1 false (.t 21), none, [2]⟩,
  ⟨some 4, .mv (.t 22), none, []⟩] [4]
theorem r39_5 : type_of% (@rr _ _ c39_5.eq_1) := rr c39_5.eq_1
def c39_6 : ACode := .seq c39_5 .ret
theorem r39_6 : type_of% (@rr _ _ c39_6.eq_1) := rr c39_6.eq_1
def c39_7 : ACode := .cond (.t 13) c39_6 .skip
theorem r39_7 : type_of% (@rr _ _ c39_7.eq_1) := rr c39_7.eq_1
def c39_8 : ACode := .seq c39_4 c39_7
theorem r39_8 : type_of% (@rr _ _ c39_8.eq_1) := rr c39_8.eq_1
def c39_9 : ACode := .cond (.t 5) c39_3 c39_8
theorem r39_9 : type_of% (@rr _ _ c39_9.eq_1) := rr c39_9.eq_1
def c39_10 : ACode := .seq c39_1 c39_9
theorem r39_10 : type_of% (@rr _ _ c39_10.eq_1) := rr c39_10.eq_1
def c39_11 : ACode := .block 0 c39_10
theorem r39_11 : type_of% (@rr _ _ c39_11.eq_1) := rr c39_11.eq_1
def c39_12 : ACode := .ops [⟨some 4, .mv (.c (.int .i64 (-1))), none, []⟩] [4]
theorem r39_12 : type_of% (@rr _ _ c39_12.eq_1) := rr c39_12.eq_1
def c39_13 : ACode := .seq c39_12 .ret
theorem r39_13 : type_of% (@rr _ _ c39_13.eq_1) := rr c39_13.eq_1
def c39_14 : ACode := .seq c39_11 c39_13
theorem r39_14 : type_of% (@rr _ _ c39_14.eq_1) := rr c39_14.eq_1
def c39_15 : ACode := .seq c39_0 c39_14
theorem r39_15 : type_of% (@rr _ _ c39_15.eq_1) := rr c39_15.eq_1
def a39 : AFun := ⟨2, 23, c39_15, [.t 4]⟩
attribute [simp] r39_0 r39_1 r39_2 r39_3 r39_4 r39_5 r39_6 r39_7 r39_8 r39_9 r39_10 r39_11 r39_12 r39_13 r39_14 r39_15
theorem m39 : mFun Try.prog Try.f39 a39 = true := by decide +kernel
def c42_0 : ACode := .ops [⟨some 3, .mv (.c (.bool false)), none, []⟩] [0, 1]
theorem r42_0 : type_of% (@rr _ _ c42_0.eq_1) := rr c42_0.eq_1
def c42_1 : ACode := .ops [⟨some 4, .mv (.t 0), none, []⟩,
  ⟨some 5, .fad (.t 1) 0, none, []⟩,
  ⟨some 6, .load 1 false (.t 5), none, []⟩,
  ⟨some 7, .bin .lss (.t 4) (.t 6), none, []⟩,
  ⟨some 8, .mv (.t 7), none, []⟩,
  ⟨some 9, .mv (.t 0), some (8, false), []⟩,
  ⟨some 10, .fad (.t 1) 1, some (8, false), []⟩,
  ⟨some 11, .load 1 false (.t 10), some (8, false), []⟩,
  ⟨some 12, .bin .geq (.t 9) (.t 11), some (8, false), []⟩,
  ⟨some 13, .pick (.t 8) (.c (.bool true)) (.t 12), none, []⟩,
  ⟨some 3, .mv (.t 13), none, []⟩] [3]
theorem r42_1 : type_of% (@rr _ _ c42_1.eq_1) := rr c42_1.eq_1
def c42_2 : ACode := .seq c42_1 .ret
theorem r42_2 : type_of% (@rr _ _ c42_2.eq_1) := rr c42_2.eq_1
def c42_3 : ACode := .seq c42_0 c42_2
theorem r42_3 : type_of% (@rr _ _ c42_3.eq_1) := rr c42_3.eq_1
def a42 : AFun := ⟨2, 14, c42_3, [.t 3]⟩
attribute [simp] r42_0 r42_1 r42_2 r42_3
theorem m42 : mFun Try.prog Try.f42 a42 = true := by decide +kernel
def c64_0 : ACode := .ops [⟨some 4, .mv (.c (.int .i64 0)), none, []⟩] [0, 1]
theorem r64_0 : type_of% (@rr _ _ c64_0.eq_1) := rr c64_0.eq_1
def c64_1 : ACode := .ops [⟨some 6, .mv (.t 0), none, []⟩,
  ⟨some 7, .len (.t 6), none, [0]⟩,
  ⟨some 8, .mv (.c (.int .i64 0)), none, []⟩] [0, 1, 7, 8]
theorem r64_1 : type_of% (@rr _ _ c64_1.eq_1) := rr c64_1.eq_1
def c64_2 : ACode := .ops [⟨some 9, .bin .lss (.t 8) (.t 7), none, []⟩] [0, 1, 7, 8, 9]
theorem r64_2 : type_of% (@rr _ _ c64_2.eq_1) := rr c64_2.eq_1
def c64_3 : ACode := .cond (.t 9) .skip (.exit 0)
theorem r64_3 : type_of% (@rr _ _ c64_3.eq_1) := rr c64_3.eq_1
def c64_4 : ACode := .ops [⟨some 10, .mv (.t 8), none, []⟩,
  ⟨some 5, .mv (.t 10), none, []⟩] [0, 1, 5, 7, 8]
theorem r64_4 : type_of% (@rr _ _ c64_4.eq_1) := rr c64_4.eq_1
def c64_5 : ACode := .ops [⟨some 11, .mv (.t 1), none, []⟩,
  ⟨some 12, .mv (.t 0), none, []⟩,
  ⟨some 13, .mv (.t 5), none, []⟩,
  ⟨some 14, .ias (.t 12) (.t 13) 1, none, [0]⟩,
  ⟨some 15, .load 1 false (.t 14), none, [0]⟩,
  ⟨some 16, .dyn (.t 11) [.t 15], none, []⟩] [0, 1, 5, 7, 8, 16]
theorem r64_5 : type_of% (@rr _ _ c64_5.eq_1) := rr c64_5.eq_1
def c64_6 : ACode := .ops [⟨some 17, .mv (.t 5), none, []⟩,
  ⟨some 4, .mv (.t 17), none, []⟩] [4]
theorem r64_6 : type_of% (@rr _ _ c64_6.eq_1) := rr c64_6.eq_1
def c64_7 : ACode := .seq c64_6 .ret
theorem r64_7 : type_of% (@rr _ _ c64_7.eq_1) := rr c64_7.eq_1
def c64_8 : ACode := .cond (.t 16) c64_7 .skip
theorem r64_8 : type_of% (@rr _ _ c64_8.eq_1) := rr c64_8.eq_1
def c64_9 : ACode := .seq c64_5 c64_8
theorem r64_9 : type_of% (@rr _ _ c64_9.eq_1) := rr c64_9.eq_1
def c64_10 : ACode := .seq c64_4 c64_9
theorem r64_10 : type_of% (@rr _ _ c64_10.eq_1) := rr c64_10.eq_1
def c64_11 : ACode := .block 1 c64_10
theorem r64_11 : type_of% (@rr _ _ c64_11.eq_1) := rr c64_11.eq_1
def c64_12 : ACode := .ops [⟨some 18, .bin .add (.t 8) (.c (.int .i64 1)), none, []⟩,
  ⟨some 8, .mv (.t 18), none, []⟩] [0, 1, 7, 8]
theorem r64_12 : type_of% (@rr _ _ c64_12.eq_1) := rr c64_12.eq_1
def c64_13 : ACode := .seq c64_11 c64_12
theorem r64_13 : type_of% (@rr _ _ c64_13.eq_1) := rr c64_13.eq_1
def c64_14 : ACode := .seq c64_3 c64_13
theorem r64_14 : type_of% (@rr _ _ c64_14.eq_1) := rr c64_14.eq_1
def c64_15 : ACode := .seq c64_2 c64_14
theorem r64_15 : type_of% (@rr _ _ c64_15.eq_1) := rr c64_15.eq_1
def c64_16 : ACode := .keep [0, 1, 7, 8] [0] c64_15
theorem r64_16 : type_of% (@rr _ _ c64_16.eq_1) := rr c64_16.eq_1
def c64_17 : ACode := .loop c64_16
theorem r64_17 : type_of% (@rr _ _ c64_17.eq_1) := rr c64_17.eq_1
def c64_18 : ACode := .block 0 c64_17
theorem r64_18 : type_of% (@rr _ _ c64_18.eq_1) := rr c64_18.eq_1
def c64_19 : ACode := .seq c64_1 c64_18
theorem r64_19 : type_of% (@rr _ _ c64_19.eq_1) := rr c64_19.eq_1
def c64_20 : ACode := .ops [⟨some 4, .mv (.c (.int .i64 (-1))), none, []⟩] [4]
theorem r64_20 : type_of% (@rr _ _ c64_20.eq_1) := rr c64_20.eq_1
def c64_21 : ACode := .seq c64_20 .ret
theorem r64_21 : type_of% (@rr _ _ c64_21.eq_1) := rr c64_21.eq_1
def c64_22 : ACode := .seq c64_19 c64_21
theorem r64_22 : type_of% (@rr _ _ c64_22.eq_1) := rr c64_22.eq_1
def c64_23 : ACode := .seq c64_0 c64_22
theorem r64_23 : type_of% (@rr _ _ c64_23.eq_1) := rr c64_23.eq_1
def a64 : AFun := ⟨2, 19, c64_23, [.t 4]⟩
attribute [simp] r64_0 r64_1 r64_2 r64_3 r64_4 r64_5 r64_6 r64_7 r64_8 r64_9 r64_10 r64_11 r64_12 r64_13 r64_14 r64_15 r64_16 r64_17 r64_18 r64_19 r64_20 r64_21 r64_22 r64_23
theorem m64 : mFun Try.prog Try.f64 a64 = true := by decide +kernel
def c40_0 : ACode := .ops [⟨some 4, .mv (.c (.nils)), none, []⟩] [0, 1]
theorem r40_0 : type_of% (@rr _ _ c40_0.eq_1) := rr c40_0.eq_1
def c40_1 : ACode := .ops [⟨some 8, .mv (.t 0), none, []⟩,
  ⟨some 9, .mv (.t 1), none, []⟩,
  ⟨some 10, .gcall 64 [.t 8, .t 9] [0] 0, none, [0]⟩,
  ⟨some 5, .mv (.t 10), none, []⟩] [0, 1, 5]
theorem r40_1 : type_of% (@rr _ _ c40_1.eq_1) := rr c40_1.eq_1
def c40_2 : ACode := .ops [⟨some 11, .mv (.t 5), none, []⟩,
  ⟨some 12, .bin .eql (.t 11) (.c (.int .i64 (-1))), none, []⟩] [0, 1, 5, 12]
theorem r40_2 : type_of% (@rr _ _ c40_2.eq_1) := rr c40_2.eq_1
def c40_3 : ACode := .ops [⟨some 13, .mv (.t 0), none, []⟩,
  ⟨some 4, .mv (.t 13), none, []⟩] [4]
theorem r40_3 : type_of% (@rr _ _ c40_3.eq_1) := rr c40_3.eq_1
def c40_4 : ACode := .seq c40_3 .ret
theorem r40_4 : type_of% (@rr _ _ c40_4.eq_1) := rr c40_4.eq_1
def c40_5 : ACode := .cond (.t 12) c40_4 .skip
theorem r40_5 : type_of% (@rr _ _ c40_5.eq_1) := rr c40_5.eq_1
def c40_6 : ACode := .seq c40_2 c40_5
theorem r40_6 : type_of% (@rr _ _ c40_6.eq_1) := rr c40_6.eq_1
def c40_7 : ACode := .ops [⟨some 14, .mv (.t 5), none, []⟩,
  ⟨some 15, .bin .add (.t 14) (.c (.int .i64 1)), none, []⟩,
  ⟨some 6, .mv (.t 15), none, []⟩] [0, 1, 5, 6]
theorem r40_7 : type_of% (@rr _ _ c40_7.eq_1) := rr c40_7.eq_1
def c40_8 : ACode := .ops [⟨some 16, .mv (.t 6), none, []⟩,
  ⟨some 17, .mv (.t 0), none, []⟩,
  ⟨some 18, .len (.t 17), none, [0]⟩,
  ⟨some 19, .bin .lss (.t 16) (.t 18), none, []⟩] [0, 1, 5, 6, 19]
theorem r40_8 : type_of% (@rr _ _ c40_8.eq_1) := rr c40_8.eq_1
def c40_9 : ACode := .cond (.t 19) .skip (.exit 0)
theorem r40_9 : type_of% (@rr _ _ c40_9.eq_1) := rr c40_9.eq_1
def c40_10 : ACode := .seq c40_8 c40_9
theorem r40_10 : type_of% (@rr _ _ c40_10.eq_1) := rr c40_10.eq_1
def c40_11 : ACode := .ops [⟨some 22, .mv (.t 0), none, []⟩,
  ⟨some 23, .mv (.t 6), none, []⟩,
  ⟨some 24, .ias (.t 22) (.t 23) 1, none, [0]⟩,
  ⟨some 25, .load 1 false (.t 24), none, [0]⟩,
  ⟨some 7, .mv (.t 25), none, []⟩] [0, 1, 5, 6, 7]
theorem r40_11 : type_of% (@rr _ _ c40_11.eq_1) := rr c40_11.eq_1
def c40_12 : ACode := .ops [⟨some 26, .mv (.t 1), none, []⟩,
  ⟨some 27, .mv (.t 7), none, []⟩,
  ⟨some 28, .dyn (.t 26) [.t 27], none, []⟩,
  ⟨some 29, .un .not (.t 28), none, []⟩] [0, 1, 5, 6, 7, 29]
theorem r40_12 : type_of% (@rr _ _ c40_12.eq_1) := rr c40_12.eq_1
def c40_13 : ACode := .ops [⟨some 30, .mv (.t 0), none, []⟩,
  ⟨some 31, .mv (.t 5), none, []⟩,
  ⟨some 32, .mv (.t 7), none, []⟩,
  ⟨some 33, .ias (.t 30) (.t 31) 1, none, [0]⟩,
  ⟨none, .store (.t 33) 1 (.t 32), none, [0]⟩] [0, 1, 5, 6]
theorem r40_13 : type_of% (@rr _ _ c40_13.eq_1) := rr c40_13.eq_1
def c40_14 : ACode := .ops [⟨some 34, .mv (.t 5), none, []⟩,
  ⟨some 35, .bin .add (.t 34) (.c (.int .i64 1)), none, []⟩,
  ⟨some 5, .mv (.t 35), none, []⟩] [0, 1, 5, 6]
theorem r40_14 : type_of% (@rr _ _ c40_14.eq_1) := rr c40_14.eq_1
def c40_15 : ACode := .seq c40_13 c40_14
theorem r40_15 : type_of% (@rr _ _ c40_15.eq_1) := rr c40_15.eq_1
def c40_16 : ACode := .cond (.t 29) c40_15 .skip
theorem r40_16 : type_of% (@rr _ _ c40_16.eq_1) := rr c40_16.eq_1
def c40_17 : ACode := .seq c40_12 c40_16
theorem r40_17 : type_of% (@rr _ _ c40_17.eq_1) := rr c40_17.eq_1
def c40_18 : ACode := .seq c40_11 c40_17
theorem r40_18 : type_of% (@rr _ _ c40_18.eq_1) := rr c40_18.eq_1
def c40_19 : ACode := .block 1 c40_18
theorem r40_19 : type_of% (@rr _ _ c40_19.eq_1) := rr c40_19.eq_1
def c40_20 : ACode := .ops [⟨some 20, .mv (.t 6), none, []⟩,
  ⟨some 21, .bin .add (.t 20) (.c (.int .i64 1)), none, []⟩,
  ⟨some 6, .mv (.t 21), none, []⟩] [0, 1, 5, 6]
theorem r40_20 : type_of% (@rr _ _ c40_20.eq_1) := rr c40_20.eq_1
def c40_21 : ACode := .seq c40_19 c40_20
theorem r40_21 : type_of% (@rr _ _ c40_21.eq_1) := rr c40_21.eq_1
def c40_22 : ACode := .seq c40_10 c40_21
theorem r40_22 : type_of% (@rr _ _ c40_22.eq_1) := rr c40_22.eq_1
def c40_23 : ACode := .keep [0, 1, 5, 6] [0] c40_22
theorem r40_23 : type_of% (@rr _ _ c40_23.eq_1) := rr c40_23.eq_1
def c40_24 : ACode := .loop c40_23
theorem r40_24 : type_of% (@rr _ _ c40_24.eq_1) := rr c40_24.eq_1
def c40_25 : ACode := .block 0 c40_24
theorem r40_25 : type_of% (@rr _ _ c40_25.eq_1) := rr c40_25.eq_1
def c40_26 : ACode := .seq c40_7 c40_25
theorem r40_26 : type_of% (@rr _ _ c40_26.eq_1) := rr c40_26.eq_1
def c40_27 : ACode := .ops [⟨some 36, .mv (.t 0), none, []⟩,
  ⟨some 37, .mv (.t 5), none, []⟩,
  ⟨some 38, .sl (.t 36) (some (.t 37)) none 1, none, [0]⟩,
  ⟨none, .clear (.t 38) 1 [.int .i64 0], none, [0]⟩] [0, 5]
theorem r40_27 : type_of% (@rr _ _ c40_27.eq_1) := rr c40_27.eq_1
def c40_28 : ACode := .ops [⟨some 39, .mv (.t 0), none, []⟩,
  ⟨some 40, .mv (.t 5), none, []⟩,
  ⟨some 41, .sl (.t 39) none (some (.t 40)) 1, none, [0]⟩,
  ⟨some 4, .mv (.t 41), none, []⟩] [4]
theorem r40_28 : type_of% (@rr _ _ c40_28.eq_1) := rr c40_28.eq_1
def c40_29 : ACode := .seq c40_28 .ret
theorem r40_29 : type_of% (@rr _ _ c40_29.eq_1) := rr c40_29.eq_1
def c40_30 : ACode := .seq c40_27 c40_29
theorem r40_30 : type_of% (@rr _ _ c40_30.eq_1) := rr c40_30.eq_1
def c40_31 : ACode := .seq c40_26 c40_30
theorem r40_31 : type_of% (@rr _ _ c40_31.eq_1) := rr c40_31.eq_1
def c40_32 : ACode := .seq c40_6 c40_31
theorem r40_32 : type_of% (@rr _ _ c40_32.eq_1) := rr c40_32.eq_1
def c40_33 : ACode := .seq c40_1 c40_32
theorem r40_33 : type_of% (@rr _ _ c40_33.eq_1) := rr c40_33.eq_1
def c40_34 : ACode := .seq c40_0 c40_33
theorem r40_34 : type_of% (@rr _ _ c40_34.eq_1) := rr c40_34.eq_1
def a40 : AFun := ⟨2, 42, c40_34, [.t 4]⟩
attribute [simp] r40_0 r40_1 r40_2 r40_3 r40_4 r40_5 r40_6 r40_7 r40_8 r40_9 r40_10 r40_11 r40_12 r40_13 r40_14 r40_15 r40_16 r40_17 r40_18 r40_19 r40_20 r40_21 r40_22 r40_23 r40_24 r40_25 r40_26 r40_27 r40_28 r40_29 r40_30 r40_31 r40_32 r40_33 r40_34
theorem m40 : mFun Try.prog Try.f40 a40 = true := by decide +kernel
def c19_0 : ACode := .ops [⟨some 4, .box (.t 0) 6, none, []⟩,
  ⟨some 5, .box (.t 1) 17, none, []⟩,
  ⟨some 6, .box (.t 2) 10, none, []⟩,
  ⟨some 8, .mv (.c (.nils)), none, []⟩] [3, 4, 5, 6]
theorem r19_0 : type_of% (@rr _ _ c19_0.eq_1) := rr c19_0.eq_1
def c19_1 : ACode := .ops [⟨some 11, .load 17 true (.t 5), none, [5]⟩,
  ⟨some 12, .mv (.t 3), none, []⟩,
  ⟨some 13, .call 39 [.t 11, .t 12], none, []⟩,
  ⟨some 9, .mv (.t 13), none, []⟩] [3, 4, 6, 9]
theorem r19_1 : type_of% (@rr _ _ c19_1.eq_1) := rr c19_1.eq_1
def c19_2 : ACode := .ops [⟨some 14, .mv (.t 9), none, []⟩,
  ⟨some 15, .bin .lss (.t 14) (.c (.int .i64 0)), none, []⟩] [3, 4, 6, 9, 15]
theorem r19_2 : type_of% (@rr _ _ c19_2.eq_1) := rr c19_2.eq_1
def c19_3 : ACode := .ops [⟨some 8, .mv (.c (.nils)), none, []⟩] [8]
theorem r19_3 : type_of% (@rr _ _ c19_3.eq_1) := rr c19_3.eq_1
def c19_4 : ACode := .seq c19_3 .ret
theorem r19_4 : type_of% (@rr _ _ c19_4.eq_1) := rr c19_4.eq_1
def c19_5 : ACode := .cond (.t 15) c19_4 .skip
theorem r19_5 : type_of% (@rr _ _ c19_5.eq_1) := rr c19_5.eq_1
def c19_6 : ACode := .seq c19_2 c19_5
theorem r19_6 : type_of% (@rr _ _ c19_6.eq_1) := rr c19_6.eq_1
def c19_7 : ACode := .ops [⟨some 16, .mv (.t 3), none, []⟩,
  ⟨some 17, .iad (.t 6) (.t 16) 2 5, none, [6]⟩,
  ⟨some 18, .load 2 true (.t 17), none, [6]⟩,
  ⟨some 10, .alloc [.int .i64 0, .int .i64 0], none, []⟩,
  ⟨none, .store (.t 10) 2 (.t 18), none, [10]⟩] [4, 9, 10]
theorem r19_7 : type_of% (@rr _ _ c19_7.eq_1) := rr c19_7.eq_1
def c19_8 : ACode := .ops [⟨some 19, .load 6 true (.t 4), none, [4]⟩,
  ⟨some 20, .mv (.t 9), none, []⟩,
  ⟨some 21, .gcall 41 [.t 19, .t 20] [] 21, none, []⟩,
  ⟨some 22, .clo 42 [.t 10], none, [10]⟩,
  ⟨some 23, .gcall 40 [.t 21, .t 22] [21] 21, none, [21]⟩,
  ⟨some 8, .mv (.t 23), none, []⟩] [8]
theorem r19_8 : type_of% (@rr _ _ c19_8.eq_1) := rr c19_8.eq_1
def c19_9 : ACode := .seq c19_8 .ret
theorem r19_9 : type_of% (@rr _ _ c19_9.eq_1) := rr c19_9.eq_1
def c19_10 : ACode := .seq c19_7 c19_9
theorem r19_10 : type_of% (@rr _ _ c19_10.eq_1) := rr c19_10.eq_1
def c19_11 : ACode := .seq c19_6 c19_10
theorem r19_11 : type_of% (@rr _ _ c19_11.eq_1) := rr c19_11.eq_1
def c19_12 : ACode := .seq c19_1 c19_11
theorem r19_12 : type_of% (@rr _ _ c19_12.eq_1) := rr c19_12.eq_1
def c19_13 : ACode := .seq c19_0 c19_12
theorem r19_13 : type_of% (@rr _ _ c19_13.eq_1) := rr c19_13.eq_1
def a19 : AFun := ⟨4, 24, c19_13, [.t 8]⟩
attribute [simp] r19_0 r19_1 r19_2 r19_3 r19_4 r19_5 r19_6 r19_7 r19_8 r19_9 r19_10 r19_11 r19_12 r19_13
theorem m19 : mFun Try.prog Try.f19 a19 = true := by decide +kernel
def featOf (q : Query) (place : Int) : Int := if 0 ≤ place ∧ place < 4 then place else if place = 4 ∧ q.kind = 3 then q.feature else -1
noncomputable def FeatC (q : Query) (place : Int) : Option Int := Part True (featOf q place)
theorem runs_feature (q : Query) (place : Int) (r : Int) (h : FeatC q place = some r) : Runs (tbl []) a39 [Arg.enc q, Arg.enc place] (Arg.enc r) := by
  obtain ⟨_, rfl⟩ := part_some h
  clear h
  refine ⟨rfl, fun g => run_def ?_⟩
  unfold a39 featOf
  by_cases h1 : 0 ≤ place
  · by_cases h2 : place < 4
    · simp -implicitDefEqProofs [h1, h2]
    · by_cases h3 : place = 4
      · subst h3
        by_cases h4 : q.kind = 3
        · simp -implicitDefEqProofs [h4]
        · simp -implicitDefEqProofs [h4]
      · simp -implicitDefEqProofs [h1, h2, h3]
  · by_cases h3 : place = 4
    · omega
    · simp -implicitDefEqProofs [h1, h3]
theorem c_feature : Contract Try.prog 39 (sp2 FeatC) :=
  contract_of_runs mixed tbl_nil Try.func39 m39 (sp2_runs runs_feature)
def outS (s : Span) (t : Int) : Bool := decide (t < s.lo) || decide (s.hi ≤ t)
@[simp] theorem dec_ref_span (lo hi : Int) : (Arg.dec (.ipt 0 [.int .i64 lo, .int .i64 hi]) : Option (Ref Span)) = some ⟨⟨lo, hi⟩⟩ := Arg.dec_enc (⟨⟨lo, hi⟩⟩ : Ref Span)
noncomputable def outR (t : Int) (s : Ref Span) : Option Bool := Part True (outS s.v t)
theorem runs_Cuts1 (t : Int) (s : Ref Span) (r : Bool) (h : outR t s = some r) : Runs (tbl []) a42 [Arg.enc t, Arg.enc s] (Arg.enc r) := by
  obtain ⟨_, rfl⟩ := part_some h
  clear h
  obtain ⟨s⟩ := s
  refine ⟨rfl, fun g => run_def ?_⟩
  unfold a42 outS
  by_cases h1 : t < s.lo
  · simp -implicitDefEqProofs [h1]
  · simp -implicitDefEqProofs [h1]
theorem c_Cuts1 : Contract Try.prog 42 (sp2 outR) :=
  contract_of_runs mixed tbl_nil Try.func42 m42 (sp2_runs runs_Cuts1)
theorem rd_iv (zs : List Int) (i : Nat) (h : i < zs.length) : rd (iv zs) i 1 false = some (.int .i64 zs[i]) := by rw [iv_enc]; exact rd_ints zs i h
theorem wr_iv (zs : List Int) (i : Nat) (h : i < zs.length) (x : Int) : wr (iv zs) i [.int .i64 x] = iv (zs.set i x) := by rw [iv_enc, iv_enc]; exact wr_ints zs i h x
def idxG : GSp := fun args h => match args, h with
  | [.own 0 0 0 n, .clo 42 [.ipt 0 [.int .i64 lo, .int .i64 hi]]], [(0, k)] => if k.esz = 1 ∧ k.frz = false ∧ n ≤ 1099511627776 then (ints k.cs).bind fun zs => if n ≤ zs.length then some (.int .i64 (idxF (outS ⟨lo, hi⟩) (zs.take n)), [(0, k)]) else none else none
  | _, _ => none
set_option maxHeartbeats 1000000 in
theorem run_idx (n : Nat) (lo hi : Int) (zs : List Int) (hn : n ≤ zs.length) (hb : n ≤ 1099511627776) (g : Nat → Nat) (hg : g 0 = 0) :
    run (tbl [(42, sp2 outR)]) a64.code [] ⟨argEnv 0 [.own 0 0 0 n, .clo 42 [.ipt 0 [.int .i64 lo, .int .i64 hi]]], [(0, ⟨iv zs, false, 1⟩)], g⟩
      (gfinN a64.res true none (.int .i64 (idxF (outS ⟨lo, hi⟩) (zs.take n))) [(0, ⟨iv zs, false, 1⟩)]) := by
  unfold a64
  have b3 : n ≤ maxN := by unfold maxN; omega
  simp -implicitDefEqProofs [hg, b3]
  refine run_while (c := c64_15) (fun m s => ∃ (i : Nat) (g : Nat → Nat), i + m = n ∧ g 0 = 0 ∧ (∀ (j : Nat) (hj : j < zs.length), j < i → outS ⟨lo, hi⟩ zs[j] = false) ∧ s = ⟨[(0, .own 0 0 0 n), (1, .clo 42 [.ipt 0 [.int .i64 lo, .int .i64 hi]]), (7, .int .i64 n), (8, .int .i64 i)], [(0, ⟨iv zs, false, 1⟩)], g⟩) n ⟨0, g, by omega, hg, fun j _ h => by omega, by simp⟩ ?_
  rintro m s ⟨i, g, hi2, hg, hno, rfl⟩
  have htl : (zs.take n).length = n := by simp; omega
  by_cases h1 : i < n
  case pos =>
    have w1 : IntKind.i64.wrap ((i : Int) + 1) = (i : Int) + 1 := wrap64 (by omega) (by omega)
    have hlt : i < zs.length := by omega
    have hrow := rd_iv zs i hlt
    have hR : outR zs[i] ⟨⟨lo, hi⟩⟩ = some (outS ⟨lo, hi⟩ zs[i]) := part_of trivial _
    cases hb2 : outS ⟨lo, hi⟩ zs[i]
    case false =>
      rw [hb2] at hR
      simp -implicitDefEqProofs [h1, hg, hrow, hR, w1]
      have hno2 : ∀ (j : Nat) (hj : j < zs.length), j < i + 1 → outS ⟨lo, hi⟩ zs[j] = false := fun j hj hji => by
        by_cases e : j = i
        · subst e; exact hb2
        · exact hno j hj (by omega)
      exact ⟨m - 1, by omega, i + 1, by omega, g, hg, hno2, by simp⟩
    case true =>
      rw [hb2] at hR
      have hidx : idxF (outS ⟨lo, hi⟩) (zs.take n) = i := by
        have hlt2 : i < (zs.take n).length := by rw [htl]; exact h1
        have : (zs.take n).findIdx (outS ⟨lo, hi⟩) = i := (List.findIdx_eq hlt2).2 ⟨by rw [List.getElem_take]; exact hb2, fun j hj => by rw [List.getElem_take]; exact hno j (by omega) hj⟩
        unfold idxF
        rw [this, if_pos hlt2]
      simp -implicitDefEqProofs [h1, hg, hrow, hR, w1, hidx, mapM1_nrm]
  case neg =>
    have hidx : idxF (outS ⟨lo, hi⟩) (zs.take n) = -1 := by
      have : (zs.take n).findIdx (outS ⟨lo, hi⟩) = (zs.take n).length := List.findIdx_eq_length.2 fun x hx => by
        obtain ⟨j, hj, rfl⟩ := List.mem_iff_getElem.1 hx
        rw [List.getElem_take]
        exact hno j (by omega) (by omega)
      unfold idxF
      rw [this, if_neg (by omega)]
    simp -implicitDefEqProofs [h1, hg, hidx, mapM1_nrm]
theorem c_idxG : Contract Try.prog (gBase + 64) (gspec idxG) :=
  gcontractN (C := tbl [(42, sp2 outR)]) mixed (tbl_cons c_Cuts1 tbl_nil) Try.func64 m64 fun args h r h' hs => by
    unfold idxG at hs
    split at hs
    · rename_i n lo hi k
      split at hs
      · rename_i hc
        obtain ⟨he, hf, hb⟩ := hc
        rw [Option.bind_eq_some_iff] at hs
        obtain ⟨zs, hz, hs⟩ := hs
        split at hs
        · rename_i hn
          simp only [Option.some.injEq, Prod.mk.injEq] at hs
          obtain ⟨rfl, rfl⟩ := hs
          obtain ⟨cs, fz, e⟩ := k
          simp only at he hf hz
          subst he hf
          rw [iv_of_ints hz]
          exact ⟨rfl, true, none, run_idx n lo hi zs hn hb _ rfl⟩
        · cases hs
      · cases hs
    · cases hs
def delG : GSp := fun args h => match args, h with
  | [.own 0 0 0 n, .clo 42 [.ipt 0 [.int .i64 lo, .int .i64 hi]]], [(0, k)] => if k.esz = 1 ∧ k.frz = false ∧ n ≤ 1099511627776 then (ints k.cs).bind fun zs => if n ≤ zs.length then
      some (.own 0 0 0 ((zs.take n).filter fun t => !outS ⟨lo, hi⟩ t).length, [(0, ⟨iv (((zs.take n).filter fun t => !outS ⟨lo, hi⟩ t) ++ List.replicate (n - ((zs.take n).filter fun t => !outS ⟨lo, hi⟩ t).length) 0 ++ zs.drop n), false, 1⟩)]) else none else none
  | _, _ => none
def keepF (s : Span) (zs : List Int) (j : Nat) : List Int := (zs.take j).filter fun t => !outS s t
theorem keepF_le (s : Span) (zs : List Int) (j : Nat) : (keepF s zs j).length ≤ j := by
  unfold keepF
  exact Nat.le_trans (List.length_filter_le _ _) (List.length_take_le j zs)
theorem keepF_out {s : Span} {zs : List Int} {j : Nat} (h : j < zs.length) (ho : outS s zs[j] = true) : keepF s zs (j + 1) = keepF s zs j := by
  unfold keepF
  rw [List.take_succ_eq_append_getElem h, List.filter_append]
  simp [ho]
theorem keepF_in {s : Span} {zs : List Int} {j : Nat} (h : j < zs.length) (ho : outS s zs[j] = false) : keepF s zs (j + 1) = keepF s zs j ++ [zs[j]] := by
  unfold keepF
  rw [List.take_succ_eq_append_getElem h, List.filter_append]
  simp [ho]
def delRow (s : Span) (zs : List Int) (j : Nat) : List Int := keepF s zs j ++ zs.drop (keepF s zs j).length
theorem delRow_len (s : Span) (zs : List Int) {j : Nat} (h : j ≤ zs.length) : (delRow s zs j).length = zs.length := by
  unfold delRow
  have := keepF_le s zs j
  rw [List.length_append, List.length_drop]
  omega
theorem delRow_get (s : Span) (zs : List Int) {j : Nat} (h : j < zs.length) : (delRow s zs j)[j]? = some zs[j] := by
  unfold delRow
  have := keepF_le s zs j
  rw [List.getElem?_append_right (by omega), List.getElem?_drop]
  rw [show (keepF s zs j).length + (j - (keepF s zs j).length) = j by omega]
  simp [h]
theorem delRow_in {s : Span} {zs : List Int} {j : Nat} (h : j < zs.length) (ho : outS s zs[j] = false) : delRow s zs (j + 1) = (delRow s zs j).set (keepF s zs j).length zs[j] := by
  have hk := keepF_le s zs j
  unfold delRow
  rw [keepF_in h ho]
  rw [List.set_append_right _ _ (by omega), Nat.sub_self, List.append_assoc]
  congr 1
  have hd : zs.drop (keepF s zs j).length = zs[(keepF s zs j).length]'(by omega) :: zs.drop ((keepF s zs j).length + 1) := List.drop_eq_getElem_cons (by omega)
  rw [hd]
  simp only [List.length_append, List.length_cons, List.length_nil, List.set_cons_zero, List.singleton_append, Nat.zero_add]
theorem keepF_none {s : Span} {zs : List Int} : ∀ {j : Nat}, j ≤ zs.length → (∀ (i : Nat) (h : i < zs.length), i < j → outS s zs[i] = false) → keepF s zs j = zs.take j
  | 0, _, _ => by simp [keepF]
  | j + 1, hj, h => by
    rw [keepF_in (by omega) (h j (by omega) (by omega)), keepF_none (by omega) (fun i hi hij => h i hi (by omega)), List.take_succ_eq_append_getElem (by omega)]
theorem delRow_none {s : Span} {zs : List Int} {j : Nat} (hj : j ≤ zs.length) (h : ∀ (i : Nat) (h : i < zs.length), i < j → outS s zs[i] = false) : delRow s zs j = zs := by
  unfold delRow
  rw [keepF_none hj h, List.length_take, Nat.min_eq_left hj, List.take_append_drop]
theorem idxF_spec {α : Type} {p : α → Bool} {l : List α} : (idxF p l = -1 ∧ ∀ x ∈ l, p x = false) ∨ ∃ (i : Nat) (h : i < l.length), idxF p l = i ∧ p l[i] = true ∧ ∀ (j : Nat) (hj : j < l.length), j < i → p l[j] = false := by
  unfold idxF
  by_cases h : l.findIdx p < l.length
  · rw [if_pos h]
    obtain ⟨h1, h2⟩ := (List.findIdx_eq h).1 rfl
    exact .inr ⟨_, h, rfl, h1, fun j hj hji => h2 j hji⟩
  · rw [if_neg h]
    exact .inl ⟨rfl, List.findIdx_eq_length.1 (by have := List.findIdx_le_length (p := p) (xs := l); omega)⟩
set_option maxHeartbeats 4000000 in
theorem run_del (n : Nat) (lo hi : Int) (zs : List Int) (hn : n ≤ zs.length) (hb : n ≤ 1099511627776) (g : Nat → Nat) (hg : g 0 = 0) :
    run (tbl [(42, sp2 outR), (1000000 + 64, gspec idxG)]) a40.code [] ⟨argEnv 0 [.own 0 0 0 n, .clo 42 [.ipt 0 [.int .i64 lo, .int .i64 hi]]], [(0, ⟨iv zs, false, 1⟩)], g⟩
      (gfinN a40.res true none (.own 0 0 0 (keepF ⟨lo, hi⟩ zs n).length) [(0, ⟨iv (keepF ⟨lo, hi⟩ zs n ++ List.replicate (n - (keepF ⟨lo, hi⟩ zs n).length) 0 ++ zs.drop n), false, 1⟩)]) := by
  unfold a40
  have b3 : n ≤ maxN := by unfold maxN; omega
  have htl : (zs.take n).length = n := by simp; omega
  rcases idxF_spec (p := outS ⟨lo, hi⟩) (l := zs.take n) with ⟨e, hno⟩ | ⟨i, hi2, e, hb2, hno⟩
  · have hk : keepF ⟨lo, hi⟩ zs n = zs.take n := keepF_none hn fun i h hin => by
      have := hno zs[i] (List.mem_take_iff_getElem.2 ⟨i, by omega, rfl⟩)
      exact this
    have hrow : zs.take n ++ List.replicate (n - (zs.take n).length) 0 ++ zs.drop n = zs := by rw [htl]; simp
    rw [hk, hrow, htl]
    simp -implicitDefEqProofs [hg, b3, idxG, ints_iv, e, mapM1_nrm, mapM1_up, hn, hb]
  · have hin : i < n := by omega
    have hiz : i < zs.length := by omega
    rw [List.getElem_take] at hb2
    have hno' : ∀ (j : Nat) (h : j < zs.length), j < i → outS ⟨lo, hi⟩ zs[j] = false := fun j h hji => by
      have := hno j (by omega) hji
      rwa [List.getElem_take] at this
    have hrow0 : delRow ⟨lo, hi⟩ zs (i + 1) = zs := by
      have h1 := delRow_none (s := ⟨lo, hi⟩) (zs := zs) (j := i) (by omega) hno'
      unfold delRow at h1 ⊢
      rw [keepF_out hiz hb2]
      exact h1
    have hlen0 : (keepF ⟨lo, hi⟩ zs (i + 1)).length = i := by rw [keepF_out hiz hb2, keepF_none (by omega) hno']; simp; omega
    have w0 : IntKind.i64.wrap ((i : Int) + 1) = (i : Int) + 1 := wrap64 (by omega) (by omega)
    have e2 : ¬ ((i : Int) = -1) := by omega
    simp -implicitDefEqProofs [hg, b3, idxG, ints_iv, e, e2, w0, mapM1_nrm, mapM1_up, hn, hb]
    refine run_while (c := c40_22) (fun m s => ∃ (j : Nat) (g : Nat → Nat), j + m = n ∧ g 0 = 0 ∧ s = ⟨[(0, .own 0 0 0 n), (1, .clo 42 [.ipt 0 [.int .i64 lo, .int .i64 hi]]), (5, .int .i64 (keepF ⟨lo, hi⟩ zs j).length), (6, .int .i64 j)], [(0, ⟨iv (delRow ⟨lo, hi⟩ zs j), false, 1⟩)], g⟩) (n - (i + 1)) ⟨i + 1, g, by omega, hg, by simp [hrow0, hlen0]⟩ ?_
    rintro m s ⟨j, g, hj, hg, rfl⟩
    have hkl := keepF_le ⟨lo, hi⟩ zs j
    have hdl := delRow_len ⟨lo, hi⟩ zs (j := j) (by omega)
    by_cases h1 : j < n
    case pos =>
      have hjz : j < zs.length := by omega
      have w1 : IntKind.i64.wrap ((j : Int) + 1) = (j : Int) + 1 := wrap64 (by omega) (by omega)
      have w2 : IntKind.i64.wrap (((keepF ⟨lo, hi⟩ zs j).length : Int) + 1) = ((keepF ⟨lo, hi⟩ zs j).length : Int) + 1 := wrap64 (by omega) (by omega)
      have hget : (delRow ⟨lo, hi⟩ zs j)[j]'(by omega) = zs[j] := by
        have := delRow_get ⟨lo, hi⟩ zs hjz
        rw [List.getElem?_eq_getElem (by omega)] at this
        exact Option.some.inj this
      have hrow := rd_iv (delRow ⟨lo, hi⟩ zs j) j (by omega)
      rw [hget] at hrow
      have hR : outR zs[j] ⟨⟨lo, hi⟩⟩ = some (outS ⟨lo, hi⟩ zs[j]) := part_of trivial _
      cases hb3 : outS ⟨lo, hi⟩ zs[j]
      case true =>
        rw [hb3] at hR
        have hs : delRow ⟨lo, hi⟩ zs (j + 1) = delRow ⟨lo, hi⟩ zs j := by unfold delRow; rw [keepF_out hjz hb3]
        have hs2 := keepF_out hjz hb3
        simp -implicitDefEqProofs [h1, hg, b3, hrow, hR, w1]
        exact ⟨m - 1, by omega, j + 1, by omega, g, hg, ⟨by rw [hs2], by omega⟩, by rw [hs], rfl⟩
      case false =>
        rw [hb3] at hR
        have hwr := wr_iv (delRow ⟨lo, hi⟩ zs j) (keepF ⟨lo, hi⟩ zs j).length (by omega) zs[j]
        rw [← delRow_in hjz hb3] at hwr
        have hs2 : (keepF ⟨lo, hi⟩ zs (j + 1)).length = (keepF ⟨lo, hi⟩ zs j).length + 1 := by rw [keepF_in hjz hb3]; simp
        have k1 : (keepF ⟨lo, hi⟩ zs j).length < n := by omega
        have k2 : (keepF ⟨lo, hi⟩ zs j).length + 1 ≤ zs.length := by omega
        simp -implicitDefEqProofs [h1, hg, b3, hrow, hR, w1, w2, hwr, hdl, k1, k2]
        exact ⟨m - 1, by omega, j + 1, by omega, g, hg, ⟨by omega, by omega⟩, rfl, rfl⟩
    case neg =>
      have hjn : j = n := by omega
      subst hjn
      have k1 : (keepF ⟨lo, hi⟩ zs j).length ≤ j := hkl
      have hcl : wr (iv (delRow ⟨lo, hi⟩ zs j)) (keepF ⟨lo, hi⟩ zs j).length (List.replicate (j - (keepF ⟨lo, hi⟩ zs j).length) (AV.int .i64 0)) = iv (keepF ⟨lo, hi⟩ zs j ++ (List.replicate (j - (keepF ⟨lo, hi⟩ zs j).length) 0 ++ zs.drop j)) := by
        unfold delRow wr
        rw [iv_append, iv_append, iv_append, List.take_append_of_le_length (by simp), iv_take, List.append_assoc, List.drop_append]
        have e1 : iv (List.replicate (j - (keepF ⟨lo, hi⟩ zs j).length) 0) = List.replicate (j - (keepF ⟨lo, hi⟩ zs j).length) (AV.int .i64 0) := by simp [iv]
        have e2 : List.drop ((keepF ⟨lo, hi⟩ zs j).length + (List.replicate (j - (keepF ⟨lo, hi⟩ zs j).length) (AV.int IntKind.i64 0)).length) (iv (keepF ⟨lo, hi⟩ zs j)) = [] := List.drop_of_length_le (by simp)
        rw [e1, e2]
        simp only [List.nil_append, List.length_replicate, iv_len]
        congr 2
        unfold iv
        rw [← List.map_drop, List.drop_drop]
        congr 2
        omega
      simp -implicitDefEqProofs [h1, hg, b3, k1, hdl, hcl, hn, mapM1_nrm]
theorem c_delG : Contract Try.prog (gBase + 40) (gspec delG) :=
  gcontractN (C := tbl [(42, sp2 outR), (1000000 + 64, gspec idxG)]) mixed (tbl_cons c_Cuts1 (tbl_cons c_idxG tbl_nil)) Try.func40 m40 fun args h r h' hs => by
    unfold delG at hs
    split at hs
    · rename_i n lo hi k
      split at hs
      · rename_i hc
        obtain ⟨he, hf, hb⟩ := hc
        rw [Option.bind_eq_some_iff] at hs
        obtain ⟨zs, hz, hs⟩ := hs
        split at hs
        · rename_i hn
          simp only [Option.some.injEq, Prod.mk.injEq] at hs
          obtain ⟨rfl, rfl⟩ := hs
          obtain ⟨cs, fz, e⟩ := k
          simp only at he hf hz
          subst he hf
          rw [iv_of_ints hz]
          exact ⟨rfl, true, none, run_del n lo hi zs hn hb _ rfl⟩
        · cases hs
      · cases hs
    · cases hs
/-! ### cuts -/
def cutsL (m : Model) (q : Query) (b : Box) (place : Int) : List Int := if featOf q place < 0 then [] else (thrL m (featOf q place)).filter fun t => !outS (b.get place) t
noncomputable def CutsC (m : Model) (q : Query) (b : Box) (place : Int) : Option (List Int) := Part (RM m ∧ (featOf q place < 0 ∨ 0 ≤ place ∧ place ≤ 4)) (cutsL m q b place)
set_option maxHeartbeats 1000000 in
set_option maxRecDepth 8000 in
theorem runs_Cuts (m : Model) (q : Query) (b : Box) (place : Int) (r : List Int) (h : CutsC m q b place = some r) : Runs (tbl [(39, sp2 FeatC), (1000000 + 41, gspec thrG), (1000000 + 40, gspec delG)]) a19 [Arg.enc m, Arg.enc q, Arg.enc b, Arg.enc place] (Arg.enc r) := by
  obtain ⟨⟨hm, hp⟩, rfl⟩ := part_some h
  clear h
  refine ⟨rfl, fun g => run_def ?_⟩
  unfold a19 cutsL
  have hF : FeatC q place = some (featOf q place) := part_of trivial _
  generalize featOf q place = ft at *
  by_cases hf : ft < 0
  · rw [if_pos hf]
    simp -implicitDefEqProofs [hF, hf, encL_nil]
  rw [if_neg hf]
  have hp' : 0 ≤ place ∧ place ≤ 4 := by rcases hp with h | h; exact absurd h hf; exact h
  have hl := thr_len m ft
  have hlr := thrRow_len m ft
  have hrl : (rawM m.trees ft).length ≤ 31 * 8 := by
    have h1 := rawM_len (j := ft) (l := m.trees) fun t ht => (hm.tree t ht).2.2.le
    have h2 := hm.trees
    omega
  have k1 : (thrL m ft).length ≤ (thrRow m ft).length := by omega
  have k2 : (thrL m ft).length ≤ 1099511627776 := by omega
  have htk : List.take (thrL m ft).length (thrRow m ft) = thrL m ft := by unfold thrRow; simp
  have hp5 : place = 0 ∨ place = 1 ∨ place = 2 ∨ place = 3 ∨ place = 4 := by omega
  have hfin : ∀ (s : Span) (X : List Int), List.take ((thrL m ft).filter fun t => !outS s t).length (iv (((thrL m ft).filter fun t => !outS s t) ++ X)) = encL ((thrL m ft).filter fun t => !outS s t) := fun s X => by
    rw [iv_append, List.take_append_of_le_length (by simp), iv_take, iv_enc]
  rcases hp5 with rfl | rfl | rfl | rfl | rfl <;> simp -implicitDefEqProofs [hF, hf, thrG, hm, delG, ints_iv, mapM1_nrm, mapM1_up, k1, k2, htk, hfin, Box.get]
theorem c_Cuts : Contract Try.prog 19 (sp4 CutsC) :=
  contract_of_runs (C := tbl [(39, sp2 FeatC), (1000000 + 41, gspec thrG), (1000000 + 40, gspec delG)]) mixed (tbl_cons c_feature (tbl_cons c_ThrG (tbl_cons c_delG tbl_nil))) Try.func19 m19 (sp4_runs runs_Cuts)
end Go.Co
