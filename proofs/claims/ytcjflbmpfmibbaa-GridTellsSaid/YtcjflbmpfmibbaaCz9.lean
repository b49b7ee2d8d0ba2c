/- CO: texts of this claim, one behind the other. -/
import Derived.Test.YtcjflbmpfmibbaaCz8
import Derived.Test.YtcjflbmpfmibbaaCz4
import Derived.Test.YtcjflbmpfmibbaaCz7
/- CO: cuts of a box, how many cells. -/
namespace Go.Co
open Go.Am Go.Proofs
set_option linter.unusedSimpArgs false
set_option linter.unusedVariables false
attribute [-simp] Go.Am.eff_gcall
def c101_0 : ACode := .ops [⟨some 2, .box (.t 0) 17, none, []⟩,
  ⟨some 4, .mv (.c (.int .i64 0)), none, []⟩] [1, 2]
theorem r101_0 : type_of% (@rr _ _ c101_0.eq_1) := rr c101_0.eq_1
def c101_1 : ACode := .ops [⟨some 6, .mv (.t 1), none, []⟩,
  ⟨some 7, .bin .geq (.t 6) (.c (.int .i64 0)), none, []⟩,
  ⟨some 8, .mv (.t 7), none, []⟩,
  ⟨some 9, .mv (.t 1), some (8, true), []⟩,
  ⟨some 10, .bin .lss (.t 9) (.c (.int .i64 4)), some (8, true), []⟩,
  ⟨some 11, .pick (.t 8) (.t 10) (.c (.bool false)), none, []⟩,
  ⟨some 5, .mv (.t 11), none, []⟩] [1, 2, 5]
theorem r101_1 : type_of% (@rr _ _ c101_1.eq_1) := rr c101_1.eq_1
def c101_2 : ACode := .ops [⟨some 12, .mv (.t 1), none, []⟩,
  ⟨some 4, .mv (.t 12), none, []⟩] [4]
theorem r101_2 : type_of% (@rr _ _ c101_2.eq_1) := rr c101_2.eq_1
def c101_3 : ACode := .seq c101_2 .ret
theorem r101_3 : type_of% (@rr _ _ c101_3.eq_1) := rr c101_3.eq_1
def c101_4 : ACode := .ops [⟨some 14, .mv (.t 1), none, []⟩,
  ⟨some 15, .bin .eql (.t 14) (.c (.int .i64 4)), none, []⟩,
  ⟨some 16, .mv (.t 15), none, []⟩,
  ⟨some 17, .fad (.t 2) 0, some (16, true), [2]⟩,
  ⟨some 18, .load 1 false (.t 17), some (16, true), [2]⟩,
  ⟨some 19, .bin .eql (.t 18) (.c (.int .i64 3)), some (16, true), []⟩,
  ⟨some 20, .pick (.t 16) (.t 19) (.c (.bool false)), none, []⟩,
  ⟨some 13, .mv (.t 20), none, []⟩] [2, 13]
theorem r101_4 : type_of% (@rr _ _ c101_4.eq_1) := rr c101_4.eq_1
def c101_5 : ACode := .ops [⟨some 21, .fad (.t 2) 14, none, [2]⟩,
  ⟨some 22, .load 1 false (.t 21), none, [2]⟩,
  ⟨some 4, .mv (.t 22), none, []⟩] [4]
theorem r101_5 : type_of% (@rr _ _ c101_5.eq_1) := rr c101_5.eq_1
def c101_6 : ACode := .seq c101_5 .ret
theorem r101_6 : type_of% (@rr _ _ c101_6.eq_1) := rr c101_6.eq_1
def c101_7 : ACode := .cond (.t 13) c101_6 .skip
theorem r101_7 : type_of% (@rr _ _ c101_7.eq_1) := rr c101_7.eq_1
def c101_8 : ACode := .seq c101_4 c101_7
theorem r101_8 : type_of% (@rr _ _ c101_8.eq_1) := rr c101_8.eq_1
def c101_9 : ACode := .cond (.t 5) c101_3 c101_8
theorem r101_9 : type_of% (@rr _ _ c101_9.eq_1) := rr c101_9.eq_1
def c101_10 : ACode := .seq c101_1 c101_9
theorem r101_10 : type_of% (@rr _ _ c101_10.eq_1) := rr c101_10.eq_1
def c101_11 : ACode := .block 0 c101_10
theorem r101_11 : type_of% (@rr _ _ c101_11.eq_1) := rr c101_11.eq_1
def c101_12 : ACode := .ops [⟨some 4, .mv (.c (.int .i64 (-1))), none, []⟩] [4]
theorem r101_12 : type_of% (@rr _ _ c101_12.eq_1) := rr c101_12.eq_1
def c101_13 : ACode := .seq c101_12 .ret
theorem r101_13 : type_of% (@rr _ _ c101_13.eq_1) := rr c101_13.eq_1
def c101_14 : ACode := .seq c101_11 c101_13
theorem r101_14 : type_of% (@rr _ _ c101_14.eq_1) := rr c101_14.eq_1
def c101_15 : ACode := .seq c101_0 c101_14
theorem r101_15 : type_of% (@rr _ _ c101_15.eq_1) := rr c101_15.eq_1
def a101 : AFun := ⟨2, 23, c101_15, [.t 4]⟩
attribute [simp] r101_0 r101_1 r101_2 r101_3 r101_4 r101_5 r101_6 r101_7 r101_8 r101_9 r101_10 r101_11 r101_12 r101_13 r101_14 r101_15
theorem m101 : mFun Try.prog Try.f101 a101 = true := by decide +kernel
def c103_0 : ACode := .ops [⟨some 3, .mv (.c (.bool false)), none, []⟩] [0, 1]
theorem r103_0 : type_of% (@rr _ _ c103_0.eq_1) := rr c103_0.eq_1
def c103_1 : ACode := .ops [⟨some 4, .mv (.t 0), none, []⟩,
  ⟨some 5, .fad (.t 1) 0, none, []⟩,
  ⟨some 6, .load 1 false (.t 5), none, []⟩,
  ⟨some 7, .bin .lss (.t 4) (.t 6), none, []⟩,
  ⟨some 8, .mv (.t 7), none, []⟩,
  ⟨some 9, .mv (.t 0), some (8, false), []⟩,
  ⟨some 10, .fad (.t 1) 1, some (8, false), []⟩,
  ⟨some 11, .load 1 false (.t 10), some (8, false), []⟩,
  ⟨some 12, .bin .geq (.t 9) (.t 11), some (8, false), []⟩,
  ⟨some 13, .pick (.t 8) (.c (.bool true)) (.t 12), none, []⟩,
  ⟨some 3, .mv (.t 13), none, []⟩] [3]
theorem r103_1 : type_of% (@rr _ _ c103_1.eq_1) := rr c103_1.eq_1
def c103_2 : ACode := .seq c103_1 .ret
theorem r103_2 : type_of% (@rr _ _ c103_2.eq_1) := rr c103_2.eq_1
def c103_3 : ACode := .seq c103_0 c103_2
theorem r103_3 : type_of% (@rr _ _ c103_3.eq_1) := rr c103_3.eq_1
def a103 : AFun := ⟨2, 14, c103_3, [.t 3]⟩
attribute [simp] r103_0 r103_1 r103_2 r103_3
theorem m103 : mFun Try.prog Try.f103 a103 = true := by decide +kernel
def c138_0 : ACode := .ops [⟨some 4, .mv (.c (.int .i64 0)), none, []⟩] [0, 1]
theorem r138_0 : type_of% (@rr _ _ c138_0.eq_1) := rr c138_0.eq_1
def c138_1 : ACode := .ops [⟨some 6, .mv (.t 0), none, []⟩,
  ⟨some 7, .len (.t 6), none, [0]⟩,
  ⟨some 8, .mv (.c (.int .i64 0)), none, []⟩] [0, 1, 7, 8]
theorem r138_1 : type_of% (@rr _ _ c138_1.eq_1) := rr c138_1.eq_1
def c138_2 : ACode := .ops [⟨some 9, .bin .lss (.t 8) (.t 7), none, []⟩] [0, 1, 7, 8, 9]
theorem r138_2 : type_of% (@rr _ _ c138_2.eq_1) := rr c138_2.eq_1
def c138_3 : ACode := .cond (.t 9) .skip (.exit 0)
theorem r138_3 : type_of% (@rr _ _ c138_3.eq_1) := rr c138_3.eq_1
def c138_4 : ACode := .ops [⟨some 10, .mv (.t 8), none, []⟩,
  ⟨some 5, .mv (.t 10), none, []⟩] [0, 1, 5, 7, 8]
theorem r138_4 : type_of% (@rr _ _ c138_4.eq_1) := rr c138_4.eq_1
def c138_5 : ACode := .ops [⟨some 11, .mv (.t 1), none, []⟩,
  ⟨some 12, .mv (.t 0), none, []⟩,
  ⟨some 13, .mv (.t 5), none, []⟩,
  ⟨some 14, .ias (.t 12) (.t 13) 1, none, [0]⟩,
  ⟨some 15, .load 1 false (.t 14), none, [0]⟩,
  ⟨some 16, .dyn (.t 11) [.t 15], none, []⟩] [0, 1, 5, 7, 8, 16]
theorem r138_5 : type_of% (@rr _ _ c138_5.eq_1) := rr c138_5.eq_1
def c138_6 : ACode := .ops [⟨some 17, .mv (.t 5), none, []⟩,
  ⟨some 4, .mv (.t 17), none, []⟩] [4]
theorem r138_6 : type_of% (@rr _ _ c138_6.eq_1) := rr c138_6.eq_1
def c138_7 : ACode := .seq c138_6 .ret
theorem r138_7 : type_of% (@rr _ _ c138_7.eq_1) := rr c138_7.eq_1
def c138_8 : ACode := .cond (.t 16) c138_7 .skip
theorem r138_8 : type_of% (@rr _ _ c138_8.eq_1) := rr c138_8.eq_1
def c138_9 : ACode := .seq c138_5 c138_8
theorem r138_9 : type_of% (@rr _ _ c138_9.eq_1) := rr c138_9.eq_1
def c138_10 : ACode := .seq c138_4 c138_9
theorem r138_10 : type_of% (@rr _ _ c138_10.eq_1) := rr c138_10.eq_1
def c138_11 : ACode := .block 1 c138_10
theorem r138_11 : type_of% (@rr _ _ c138_11.eq_1) := rr c138_11.eq_1
def c138_12 : ACode := .ops [⟨some 18, .bin .add (.t 8) (.c (.int .i64 1)), none, []⟩,
  ⟨some 8, .mv (.t 18), none, []⟩] [0, 1, 7, 8]
theorem r138_12 : type_of% (@rr _ _ c138_12.eq_1) := rr c138_12.eq_1
def c138_13 : ACode := .seq c138_11 c138_12
theorem r138_13 : type_of% (@rr _ _ c138_13.eq_1) := rr c138_13.eq_1
def c138_14 : ACode := .seq c138_3 c138_13
theorem r138_14 : type_of% (@rr _ _ c138_14.eq_1) := rr c138_14.eq_1
def c138_15 : ACode := .seq c138_2 c138_14
theorem r138_15 : type_of% (@rr _ _ c138_15.eq_1) := rr c138_15.eq_1
def c138_16 : ACode := .keep [0, 1, 7, 8] [0] c138_15
theorem r138_16 : type_of% (@rr _ _ c138_16.eq_1) := rr c138_16.eq_1
def c138_17 : ACode := .loop c138_16
theorem r138_17 : type_of% (@rr _ _ c138_17.eq_1) := rr c138_17.eq_1
def c138_18 : ACode := .block 0 c138_17
theorem r138_18 : type_of% (@rr _ _ c138_18.eq_1) := rr c138_18.eq_1
def c138_19 : ACode := .seq c138_1 c138_18
theorem r138_19 : type_of% (@rr _ _ c138_19.eq_1) := rr c138_19.eq_1
def c138_20 : ACode := .ops [⟨some 4, .mv (.c (.int .i64 (-1))), none, []⟩] [4]
theorem r138_20 : type_of% (@rr _ _ c138_20.eq_1) := rr c138_20.eq_1
def c138_21 : ACode := .seq c138_20 .ret
theorem r138_21 : type_of% (@rr _ _ c138_21.eq_1) := rr c138_21.eq_1
def c138_22 : ACode := .seq c138_19 c138_21
theorem r138_22 : type_of% (@rr _ _ c138_22.eq_1) := rr c138_22.eq_1
def c138_23 : ACode := .seq c138_0 c138_22
theorem r138_23 : type_of% (@rr _ _ c138_23.eq_1) := rr c138_23.eq_1
def a138 : AFun := ⟨2, 19, c138_23, [.t 4]⟩
attribute [simp] r138_0 r138_1 r138_2 r138_3 r138_4 r138_5 r138_6 r138_7 r138_8 r138_9 r138_10 r138_11 r138_12 r138_13 r138_14 r138_15 r138_16 r138_17 r138_18 r138_19 r138_20 r138_21 r138_22 r138_23
theorem m138 : mFun Try.prog Try.f138 a138 = true := by decide +kernel
def c102_0 : ACode := .ops [⟨some 4, .mv (.c (.nils)), none, []⟩] [0, 1]
theorem r102_0 : type_of% (@rr _ _ c102_0.eq_1) := rr c102_0.eq_1
def c102_1 : ACode := .ops [⟨some 8, .mv (.t 0), none, []⟩,
  ⟨some 9, .mv (.t 1), none, []⟩,
  ⟨some 10, .gcall 138 [.t 8, .t 9] [0] 0, none, [0]⟩,
  ⟨some 5, .mv (.t 10), none, []⟩] [0, 1, 5]
theorem r102_1 : type_of% (@rr _ _ c102_1.eq_1) := rr c102_1.eq_1
def c102_2 : ACode := .ops [⟨some 11, .mv (.t 5), none, []⟩,
  ⟨some 12, .bin .eql (.t 11) (.c (.int .i64 (-1))), none, []⟩] [0, 1, 5, 12]
theorem r102_2 : type_of% (@rr _ _ c102_2.eq_1) := rr c102_2.eq_1
def c102_3 : ACode := .ops [⟨some 13, .mv (.t 0), none, []⟩,
  ⟨some 4, .mv (.t 13), none, []⟩] [4]
theorem r102_3 : type_of% (@rr _ _ c102_3.eq_1) := rr c102_3.eq_1
def c102_4 : ACode := .seq c102_3 .ret
theorem r102_4 : type_of% (@rr _ _ c102_4.eq_1) := rr c102_4.eq_1
def c102_5 : ACode := .cond (.t 12) c102_4 .skip
theorem r102_5 : type_of% (@rr _ _ c102_5.eq_1) := rr c102_5.eq_1
def c102_6 : ACode := .seq c102_2 c102_5
theorem r102_6 : type_of% (@rr _ _ c102_6.eq_1) := rr c102_6.eq_1
def c102_7 : ACode := .ops [⟨some 14, .mv (.t 5), none, []⟩,
  ⟨some 15, .bin .add (.t 14) (.c (.int .i64 1)), none, []⟩,
  ⟨some 6, .mv (.t 15), none, []⟩] [0, 1, 5, 6]
theorem r102_7 : type_of% (@rr _ _ c102_7.eq_1) := rr c102_7.eq_1
def c102_8 : ACode := .ops [⟨some 16, .mv (.t 6), none, []⟩,
  ⟨some 17, .mv (.t 0), none, []⟩,
  ⟨some 18, .len (.t 17), none, [0]⟩,
  ⟨some 19, .bin .lss (.t 16) (.t 18), none, []⟩] [0, 1, 5, 6, 19]
theorem r102_8 : type_of% (@rr _ _ c102_8.eq_1) := rr c102_8.eq_1
def c102_9 : ACode := .cond (.t 19) .skip (.exit 0)
theorem r102_9 : type_of% (@rr _ _ c102_9.eq_1) := rr c102_9.eq_1
def c102_10 : ACode := .seq c102_8 c102_9
theorem r102_10 : type_of% (@rr _ _ c102_10.eq_1) := rr c102_10.eq_1
def c102_11 : ACode := .ops [⟨some 22, .mv (.t 0), none, []⟩,
  ⟨some 23, .mv (.t 6), none, []⟩,
  ⟨some 24, .ias (.t 22) (.t 23) 1, none, [0]⟩,
  ⟨some 25, .load 1 false (.t 24), none, [0]⟩,
  ⟨some 7, .mv (.t 25), none, []⟩] [0, 1, 5, 6, 7]
theorem r102_11 : type_of% (@rr _ _ c102_11.eq_1) := rr c102_11.eq_1
def c102_12 : ACode := .ops [⟨some 26, .mv (.t 1), none, []⟩,
  ⟨some 27, .mv (.t 7), none, []⟩,
  ⟨some 28, .dyn (.t 26) [.t 27], none, []⟩,
  ⟨some 29, .un .not (.t 28), none, []⟩] [0, 1, 5, 6, 7, 29]
theorem r102_12 : type_of% (@rr _ _ c102_12.eq_1) := rr c102_12.eq_1
def c102_13 : ACode := .ops [⟨some 30, .mv (.t 0), none, []⟩,
  ⟨some 31, .mv (.t 5), none, []⟩,
  ⟨some 32, .mv (.t 7), none, []⟩,
  ⟨some 33, .ias (.t 30) (.t 31) 1, none, [0]⟩,
  ⟨none, .store (.t 33) 1 (.t 32), none, [0]⟩] [0, 1, 5, 6]
theorem r102_13 : type_of% (@rr _ _ c102_13.eq_1) := rr c102_13.eq_1
def c102_14 : ACode := .ops [⟨some 34, .mv (.t 5), none, []⟩,
  ⟨some 35, .bin .add (.t 34) (.c (.int .i64 1)), none, []⟩,
  ⟨some 5, .mv (.t 35), none, []⟩] [0, 1, 5, 6]
theorem r102_14 : type_of% (@rr _ _ c102_14.eq_1) := rr c102_14.eq_1
def c102_15 : ACode := .seq c102_13 c102_14
theorem r102_15 : type_of% (@rr _ _ c102_15.eq_1) := rr c102_15.eq_1
def c102_16 : ACode := .cond (.t 29) c102_15 .skip
theorem r102_16 : type_of% (@rr _ _ c102_16.eq_1) := rr c102_16.eq_1
def c102_17 : ACode := .seq c102_12 c102_16
theorem r102_17 : type_of% (@rr _ _ c102_17.eq_1) := rr c102_17.eq_1
def c102_18 : ACode := .seq c102_11 c102_17
theorem r102_18 : type_of% (@rr _ _ c102_18.eq_1) := rr c102_18.eq_1
def c102_19 : ACode := .block 1 c102_18
theorem r102_19 : type_of% (@rr _ _ c102_19.eq_1) := rr c102_19.eq_1
def c102_20 : ACode := .ops [⟨some 20, .mv (.t 6), none, []⟩,
  ⟨some 21, .bin .add (.t 20) (.c (.int .i64 1)), none, []⟩,
  ⟨some 6, .mv (.t 21), none, []⟩] [0, 1, 5, 6]
theorem r102_20 : type_of% (@rr _ _ c102_20.eq_1) := rr c102_20.eq_1
def c102_21 : ACode := .seq c102_19 c102_20
theorem r102_21 : type_of% (@rr _ _ c102_21.eq_1) := rr c102_21.eq_1
def c102_22 : ACode := .seq c102_10 c102_21
theorem r102_22 : type_of% (@rr _ _ c102_22.eq_1) := rr c102_22.eq_1
def c102_23 : ACode := .keep [0, 1, 5, 6] [0] c102_22
theorem r102_23 : type_of% (@rr _ _ c102_23.eq_1) := rr c102_23.eq_1
def c102_24 : ACode := .loop c102_23
theorem r102_24 : type_of% (@rr _ _ c102_24.eq_1) := rr c102_24.eq_1
def c102_25 : ACode := .block 0 c102_24
theorem r102_25 : type_of% (@rr _ _ c102_25.eq_1) := rr c102_25.eq_1
def c102_26 : ACode := .seq c102_7 c102_25
theorem r102_26 : type_of% (@rr _ _ c102_26.eq_1) := rr c102_26.eq_1
def c102_27 : ACode := .ops [⟨some 36, .mv (.t 0), none, []⟩,
  ⟨some 37, .mv (.t 5), none, []⟩,
  ⟨some 38, .sl (.t 36) (some (.t 37)) none 1, none, [0]⟩,
  ⟨none, .clear (.t 38) 1 [.int .i64 0], none, [0]⟩] [0, 5]
theorem r102_27 : type_of% (@rr _ _ c102_27.eq_1) := rr c102_27.eq_1
def c102_28 : ACode := .ops [⟨some 39, .mv (.t 0), none, []⟩,
  ⟨some 40, .mv (.t 5), none, []⟩,
  ⟨some 41, .sl (.t 39) none (some (.t 40)) 1, none, [0]⟩,
  ⟨some 4, .mv (.t 41), none, []⟩] [4]
theorem r102_28 : type_of% (@rr _ _ c102_28.eq_1) := rr c102_28.eq_1
def c102_29 : ACode := .seq c102_28 .ret
theorem r102_29 : type_of% (@rr _ _ c102_29.eq_1) := rr c102_29.eq_1
def c102_30 : ACode := .seq c102_27 c102_29
theorem r102_30 : type_of% (@rr _ _ c102_30.eq_1) := rr c102_30.eq_1
def c102_31 : ACode := .seq c102_26 c102_30
theorem r102_31 : type_of% (@rr _ _ c102_31.eq_1) := rr c102_31.eq_1
def c102_32 : ACode := .seq c102_6 c102_31
theorem r102_32 : type_of% (@rr _ _ c102_32.eq_1) := rr c102_32.eq_1
def c102_33 : ACode := .seq c102_1 c102_32
theorem r102_33 : type_of% (@rr _ _ c102_33.eq_1) := rr c102_33.eq_1
def c102_34 : ACode := .seq c102_0 c102_33
theorem r102_34 : type_of% (@rr _ _ c102_34.eq_1) := rr c102_34.eq_1
def a102 : AFun := ⟨2, 42, c102_34, [.t 4]⟩
attribute [simp] r102_0 r102_1 r102_2 r102_3 r102_4 r102_5 r102_6 r102_7 r102_8 r102_9 r102_10 r102_11 r102_12 r102_13 r102_14 r102_15 r102_16 r102_17 r102_18 r102_19 r102_20 r102_21 r102_22 r102_23 r102_24 r102_25 r102_26 r102_27 r102_28 r102_29 r102_30 r102_31 r102_32 r102_33 r102_34
theorem m102 : mFun Try.prog Try.f102 a102 = true := by decide +kernel
def c51_0 : ACode := .ops [⟨some 4, .box (.t 0) 6, none, []⟩,
  ⟨some 5, .box (.t 1) 17, none, []⟩,
  ⟨some 6, .box (.t 2) 10, none, []⟩,
  ⟨some 8, .mv (.c (.nils)), none, []⟩] [3, 4, 5, 6]
theorem r51_0 : type_of% (@rr _ _ c51_0.eq_1) := rr c51_0.eq_1
def c51_1 : ACode := .ops [⟨some 11, .load 17 true (.t 5), none, [5]⟩,
  ⟨some 12, .mv (.t 3), none, []⟩,
  ⟨some 13, .call 101 [.t 11, .t 12], none, []⟩,
  ⟨some 9, .mv (.t 13), none, []⟩] [3, 4, 6, 9]
theorem r51_1 : type_of% (@rr _ _ c51_1.eq_1) := rr c51_1.eq_1
def c51_2 : ACode := .ops [⟨some 14, .mv (.t 9), none, []⟩,
  ⟨some 15, .bin .lss (.t 14) (.c (.int .i64 0)), none, []⟩] [3, 4, 6, 9, 15]
theorem r51_2 : type_of% (@rr _ _ c51_2.eq_1) := rr c51_2.eq_1
def c51_3 : ACode := .ops [⟨some 8, .mv (.c (.nils)), none, []⟩] [8]
theorem r51_3 : type_of% (@rr _ _ c51_3.eq_1) := rr c51_3.eq_1
def c51_4 : ACode := .seq c51_3 .ret
theorem r51_4 : type_of% (@rr _ _ c51_4.eq_1) := rr c51_4.eq_1
def c51_5 : ACode := .cond (.t 15) c51_4 .skip
theorem r51_5 : type_of% (@rr _ _ c51_5.eq_1) := rr c51_5.eq_1
def c51_6 : ACode := .seq c51_2 c51_5
theorem r51_6 : type_of% (@rr _ _ c51_6.eq_1) := rr c51_6.eq_1
def c51_7 : ACode := .ops [⟨some 16, .mv (.t 3), none, []⟩,
  ⟨some 17, .iad (.t 6) (.t 16) 2 5, none, [6]⟩,
  ⟨some 18, .load 2 true (.t 17), none, [6]⟩,
  ⟨some 10, .alloc [.int .i64 0, .int .i64 0], none, []⟩,
  ⟨none, .store (.t 10) 2 (.t 18), none, [10]⟩] [4, 9, 10]
theorem r51_7 : type_of% (@rr _ _ c51_7.eq_1) := rr c51_7.eq_1
def c51_8 : ACode := .ops [⟨some 19, .load 6 true (.t 4), none, [4]⟩,
  ⟨some 20, .mv (.t 9), none, []⟩,
  ⟨some 21, .gcall 43 [.t 19, .t 20] [] 21, none, []⟩,
  ⟨some 22, .clo 103 [.t 10], none, [10]⟩,
  ⟨some 23, .gcall 102 [.t 21, .t 22] [21] 21, none, [21]⟩,
  ⟨some 8, .mv (.t 23), none, []⟩] [8]
theorem r51_8 : type_of% (@rr _ _ c51_8.eq_1) := rr c51_8.eq_1
def c51_9 : ACode := .seq c51_8 .ret
theorem r51_9 : type_of% (@rr _ _ c51_9.eq_1) := rr c51_9.eq_1
def c51_10 : ACode := .seq c51_7 c51_9
theorem r51_10 : type_of% (@rr _ _ c51_10.eq_1) := rr c51_10.eq_1
def c51_11 : ACode := .seq c51_6 c51_10
theorem r51_11 : type_of% (@rr _ _ c51_11.eq_1) := rr c51_11.eq_1
def c51_12 : ACode := .seq c51_1 c51_11
theorem r51_12 : type_of% (@rr _ _ c51_12.eq_1) := rr c51_12.eq_1
def c51_13 : ACode := .seq c51_0 c51_12
theorem r51_13 : type_of% (@rr _ _ c51_13.eq_1) := rr c51_13.eq_1
def a51 : AFun := ⟨4, 24, c51_13, [.t 8]⟩
attribute [simp] r51_0 r51_1 r51_2 r51_3 r51_4 r51_5 r51_6 r51_7 r51_8 r51_9 r51_10 r51_11 r51_12 r51_13
theorem m51 : mFun Try.prog Try.f51 a51 = true := by decide +kernel
def featOf (q : Query) (place : Int) : Int := if 0 ≤ place ∧ place < 4 then place else if place = 4 ∧ q.kind = 3 then q.feature else -1
noncomputable def FeatC (q : Query) (place : Int) : Option Int := Part True (featOf q place)
theorem runs_feature (q : Query) (place : Int) (r : Int) (h : FeatC q place = some r) : Runs (tbl []) a101 [Arg.enc q, Arg.enc place] (Arg.enc r) := by
  obtain ⟨_, rfl⟩ := part_some h
  clear h
  refine ⟨rfl, fun g => run_def ?_⟩
  unfold a101 featOf
  by_cases h1 : 0 ≤ place
  · by_cases h2 : place < 4
    · simp -implicitDefEqProofs [h1, h2]
    · by_cases h3 : place = 4
      · subst h3
        by_cases h4 : q.kind = 3
        · simp -implicitDefEqProofs [h4]
        · simp -implicitDefEqProofs [h4]
      · simp -implicitDefEqProofs [h1, h2, h3]
  · by_cases h3 : place = 4
    · omega
    · simp -implicitDefEqProofs [h1, h3]
theorem c_feature : Contract Try.prog 101 (sp2 FeatC) :=
  contract_of_runs mixed tbl_nil Try.func101 m101 (sp2_runs runs_feature)
def outS (s : Span) (t : Int) : Bool := decide (t < s.lo) || decide (s.hi ≤ t)
@[simp] theorem dec_ref_span (lo hi : Int) : (Arg.dec (.ipt 0 [.int .i64 lo, .int .i64 hi]) : Option (Ref Span)) = some ⟨⟨lo, hi⟩⟩ := Arg.dec_enc (⟨⟨lo, hi⟩⟩ : Ref Span)
noncomputable def outR (t : Int) (s : Ref Span) : Option Bool := Part True (outS s.v t)
theorem runs_Cuts1 (t : Int) (s : Ref Span) (r : Bool) (h : outR t s = some r) : Runs (tbl []) a103 [Arg.enc t, Arg.enc s] (Arg.enc r) := by
  obtain ⟨_, rfl⟩ := part_some h
  clear h
  obtain ⟨s⟩ := s
  refine ⟨rfl, fun g => run_def ?_⟩
  unfold a103 outS
  by_cases h1 : t < s.lo
  · simp -implicitDefEqProofs [h1]
  · simp -implicitDefEqProofs [h1]
theorem c_Cuts1 : Contract Try.prog 103 (sp2 outR) :=
  contract_of_runs mixed tbl_nil Try.func103 m103 (sp2_runs runs_Cuts1)
theorem rd_iv (zs : List Int) (i : Nat) (h : i < zs.length) : rd (iv zs) i 1 false = some (.int .i64 zs[i]) := by rw [iv_enc]; exact rd_ints zs i h
theorem wr_iv (zs : List Int) (i : Nat) (h : i < zs.length) (x : Int) : wr (iv zs) i [.int .i64 x] = iv (zs.set i x) := by rw [iv_enc, iv_enc]; exact wr_ints zs i h x
def idxG : GSp := fun args h => match args, h with
  | [.own 0 0 0 n, .clo 103 [.ipt 0 [.int .i64 lo, .int .i64 hi]]], [(0, k)] => if k.esz = 1 ∧ k.frz = false ∧ n ≤ 1099511627776 then (ints k.cs).bind fun zs => if n ≤ zs.length then some (.int .i64 (idxF (outS ⟨lo, hi⟩) (zs.take n)), [(0, k)]) else none else none
  | _, _ => none
set_option maxHeartbeats 1000000 in
theorem run_idx (n : Nat) (lo hi : Int) (zs : List Int) (hn : n ≤ zs.length) (hb : n ≤ 1099511627776) (g : Nat → Nat) (hg : g 0 = 0) :
    run (tbl [(103, sp2 outR)]) a138.code [] ⟨argEnv 0 [.own 0 0 0 n, .clo 103 [.ipt 0 [.int .i64 lo, .int .i64 hi]]], [(0, ⟨iv zs, false, 1⟩)], g⟩
      (gfinN a138.res true none (.int .i64 (idxF (outS ⟨lo, hi⟩) (zs.take n))) [(0, ⟨iv zs, false, 1⟩)]) := by
  unfold a138
  have b3 : n ≤ maxN := by unfold maxN; omega
  simp -implicitDefEqProofs [hg, b3]
  refine run_while (c := c138_15) (fun m s => ∃ (i : Nat) (g : Nat → Nat), i + m = n ∧ g 0 = 0 ∧ (∀ (j : Nat) (hj : j < zs.length), j < i → outS ⟨lo, hi⟩ zs[j] = false) ∧ s = ⟨[(0, .own 0 0 0 n), (1, .clo 103 [.ipt 0 [.int .i64 lo, .int .i64 hi]]), (7, .int .i64 n), (8, .int .i64 i)], [(0, ⟨iv zs, false, 1⟩)], g⟩) n ⟨0, g, by omega, hg, fun j _ h => by omega, by simp⟩ ?_
  rintro m s ⟨i, g, hi2, hg, hno, rfl⟩
  have htl : (zs.take n).length = n := by simp; omega
  by_cases h1 : i < n
  case pos =>
    have w1 : IntKind.i64.wrap ((i : Int) + 1) = (i : Int) + 1 := wrap64 (by omega) (by omega)
    have hlt : i < zs.length := by omega
    have hrow := rd_iv zs i hlt
    have hR : outR zs[i] ⟨⟨lo, hi⟩⟩ = some (outS ⟨lo, hi⟩ zs[i]) := part_of trivial _
    cases hb2 : outS ⟨lo, hi⟩ zs[i]
    case false =>
      rw [hb2] at hR
      simp -implicitDefEqProofs [h1, hg, hrow, hR, w1]
      have hno2 : ∀ (j : Nat) (hj : j < zs.length), j < i + 1 → outS ⟨lo, hi⟩ zs[j] = false := fun j hj hji => by
        by_cases e : j = i
        · subst e; exact hb2
        · exact hno j hj (by omega)
      exact ⟨m - 1, by omega, i + 1, by omega, g, hg, hno2, by simp⟩
    case true =>
      rw [hb2] at hR
      have hidx : idxF (outS ⟨lo, hi⟩) (zs.take n) = i := by
        have hlt2 : i < (zs.take n).length := by rw [htl]; exact h1
        have : (zs.take n).findIdx (outS ⟨lo, hi⟩) = i := (List.findIdx_eq hlt2).2 ⟨by rw [List.getElem_take]; exact hb2, fun j hj => by rw [List.getElem_take]; exact hno j (by omega) hj⟩
        unfold idxF
        rw [this, if_pos hlt2]
      simp -implicitDefEqProofs [h1, hg, hrow, hR, w1, hidx, mapM1_nrm]
  case neg =>
    have hidx : idxF (outS ⟨lo, hi⟩) (zs.take n) = -1 := by
      have : (zs.take n).findIdx (outS ⟨lo, hi⟩) = (zs.take n).length := List.findIdx_eq_length.2 fun x hx => by
        obtain ⟨j, hj, rfl⟩ := List.mem_iff_getElem.1 hx
        rw [List.getElem_take]
        exact hno j (by omega) (by omega)
      unfold idxF
      rw [this, if_neg (by omega)]
    simp -implicitDefEqProofs [h1, hg, hidx, mapM1_nrm]
theorem c_idxG : Contract Try.prog (gBase + 138) (gspec idxG) :=
  gcontractN (C := tbl [(103, sp2 outR)]) mixed (tbl_cons c_Cuts1 tbl_nil) Try.func138 m138 fun args h r h' hs => by
    unfold idxG at hs
    split at hs
    · rename_i n lo hi k
      split at hs
      · rename_i hc
        obtain ⟨he, hf, hb⟩ := hc
        rw [Option.bind_eq_some_iff] at hs
        obtain ⟨zs, hz, hs⟩ := hs
        split at hs
        · rename_i hn
          simp only [Option.some.injEq, Prod.mk.injEq] at hs
          obtain ⟨rfl, rfl⟩ := hs
          obtain ⟨cs, fz, e⟩ := k
          simp only at he hf hz
          subst he hf
          rw [iv_of_ints hz]
          exact ⟨rfl, true, none, run_idx n lo hi zs hn hb _ rfl⟩
        · cases hs
      · cases hs
    · cases hs
def delG : GSp := fun args h => match args, h with
  | [.own 0 0 0 n, .clo 103 [.ipt 0 [.int .i64 lo, .int .i64 hi]]], [(0, k)] => if k.esz = 1 ∧ k.frz = false ∧ n ≤ 1099511627776 then (ints k.cs).bind fun zs => if n ≤ zs.length then
      some (.own 0 0 0 ((zs.take n).filter fun t => !outS ⟨lo, hi⟩ t).length, [(0, ⟨iv (((zs.take n).filter fun t => !outS ⟨lo, hi⟩ t) ++ List.replicate (n - ((zs.take n).filter fun t => !outS ⟨lo, hi⟩ t).length) 0 ++ zs.drop n), false, 1⟩)]) else none else none
  | _, _ => none
def keepF (s : Span) (zs : List Int) (j : Nat) : List Int := (zs.take j).filter fun t => !outS s t
theorem keepF_le (s : Span) (zs : List Int) (j : Nat) : (keepF s zs j).length ≤ j := by
  unfold keepF
  exact Nat.le_trans (List.length_filter_le _ _) (List.length_take_le j zs)
theorem keepF_out {s : Span} {zs : List Int} {j : Nat} (h : j < zs.length) (ho : outS s zs[j] = true) : keepF s zs (j + 1) = keepF s zs j := by
  unfold keepF
  rw [List.take_succ_eq_append_getElem h, List.filter_append]
  simp [ho]
theorem keepF_in {s : Span} {zs : List Int} {j : Nat} (h : j < zs.length) (ho : outS s zs[j] = false) : keepF s zs (j + 1) = keepF s zs j ++ [zs[j]] := by
  unfold keepF
  rw [List.take_succ_eq_append_getElem h, List.filter_append]
  simp [ho]
def delRow (s : Span) (zs : List Int) (j : Nat) : List Int := keepF s zs j ++ zs.drop (keepF s zs j).length
theorem delRow_len (s : Span) (zs : List Int) {j : Nat} (h : j ≤ zs.length) : (delRow s zs j).length = zs.length := by
  unfold delRow
  have := keepF_le s zs j
  rw [List.length_append, List.length_drop]
  omega
theorem delRow_get (s : Span) (zs : List Int) {j : Nat} (h : j < zs.length) : (delRow s zs j)[j]? = some zs[j] := by
  unfold delRow
  have := keepF_le s zs j
  rw [List.getElem?_append_right (by omega), List.getElem?_drop]
  rw [show (keepF s zs j).length + (j - (keepF s zs j).length) = j by omega]
  simp [h]
theorem delRow_in {s : Span} {zs : List Int} {j : Nat} (h : j < zs.length) (ho : outS s zs[j] = false) : delRow s zs (j + 1) = (delRow s zs j).set (keepF s zs j).length zs[j] := by
  have hk := keepF_le s zs j
  unfold delRow
  rw [keepF_in h ho]
  rw [List.set_append_right _ _ (by omega), Nat.sub_self, List.append_assoc]
  congr 1
  have hd : zs.drop (keepF s zs j).length = zs[(keepF s zs j).length]'(by omega) :: zs.drop ((keepF s zs j).length + 1) := List.drop_eq_getElem_cons (by omega)
  rw [hd]
  simp only [List.length_append, List.length_cons, List.length_nil, List.set_cons_zero, List.singleton_append, Nat.zero_add]
theorem keepF_none {s : Span} {zs : List Int} : ∀ {j : Nat}, j ≤ zs.length → (∀ (i : Nat) (h : i < zs.length), i < j → outS s zs[i] = false) → keepF s zs j = zs.take j
  | 0, _, _ => by simp [keepF]
  | j + 1, hj, h => by
    rw [keepF_in (by omega) (h j (by omega) (by omega)), keepF_none (by omega) (fun i hi hij => h i hi (by omega)), List.take_succ_eq_append_getElem (by omega)]
theorem delRow_none {s : Span} {zs : List Int} {j : Nat} (hj : j ≤ zs.length) (h : ∀ (i : Nat) (h : i < zs.length), i < j → outS s zs[i] = false) : delRow s zs j = zs := by
  unfold delRow
  rw [keepF_none hj h, List.length_take, Nat.min_eq_left hj, List.take_append_drop]
theorem idxF_spec {α : Type} {p : α → Bool} {l : List α} : (idxF p l = -1 ∧ ∀ x ∈ l, p x = false) ∨ ∃ (i : Nat) (h : i < l.length), idxF p l = i ∧ p l[i] = true ∧ ∀ (j : Nat) (hj : j < l.length), j < i → p l[j] = false := by
  unfold idxF
  by_cases h : l.findIdx p < l.length
  · rw [if_pos h]
    obtain ⟨h1, h2⟩ := (List.findIdx_eq h).1 rfl
    exact .inr ⟨_, h, rfl, h1, fun j hj hji => h2 j hji⟩
  · rw [if_neg h]
    exact .inl ⟨rfl, List.findIdx_eq_length.1 (by have := List.findIdx_le_length (p := p) (xs := l); omega)⟩
set_option maxHeartbeats 4000000 in
theorem run_del (n : Nat) (lo hi : Int) (zs : List Int) (hn : n ≤ zs.length) (hb : n ≤ 1099511627776) (g : Nat → Nat) (hg : g 0 = 0) :
    run (tbl [(103, sp2 outR), (1000000 + 138, gspec idxG)]) a102.code [] ⟨argEnv 0 [.own 0 0 0 n, .clo 103 [.ipt 0 [.int .i64 lo, .int .i64 hi]]], [(0, ⟨iv zs, false, 1⟩)], g⟩
      (gfinN a102.res true none (.own 0 0 0 (keepF ⟨lo, hi⟩ zs n).length) [(0, ⟨iv (keepF ⟨lo, hi⟩ zs n ++ List.replicate (n - (keepF ⟨lo, hi⟩ zs n).length) 0 ++ zs.drop n), false, 1⟩)]) := by
  unfold a102
  have b3 : n ≤ maxN := by unfold maxN; omega
  have htl : (zs.take n).length = n := by simp; omega
  rcases idxF_spec (p := outS ⟨lo, hi⟩) (l := zs.take n) with ⟨e, hno⟩ | ⟨i, hi2, e, hb2, hno⟩
  · have hk : keepF ⟨lo, hi⟩ zs n = zs.take n := keepF_none hn fun i h hin => by
      have := hno zs[i] (List.mem_take_iff_getElem.2 ⟨i, by omega, rfl⟩)
      exact this
    have hrow : zs.take n ++ List.replicate (n - (zs.take n).length) 0 ++ zs.drop n = zs := by rw [htl]; simp
    rw [hk, hrow, htl]
    simp -implicitDefEqProofs [hg, b3, idxG, ints_iv, e, mapM1_nrm, mapM1_up, hn, hb]
  · have hin : i < n := by omega
    have hiz : i < zs.length := by omega
    rw [List.getElem_take] at hb2
    have hno' : ∀ (j : Nat) (h : j < zs.length), j < i → outS ⟨lo, hi⟩ zs[j] = false := fun j h hji => by
      have := hno j (by omega) hji
      rwa [List.getElem_take] at this
    have hrow0 : delRow ⟨lo, hi⟩ zs (i + 1) = zs := by
      have h1 := delRow_none (s := ⟨lo, hi⟩) (zs := zs) (j := i) (by omega) hno'
      unfold delRow at h1 ⊢
      rw [keepF_out hiz hb2]
      exact h1
    have hlen0 : (keepF ⟨lo, hi⟩ zs (i + 1)).length = i := by rw [keepF_out hiz hb2, keepF_none (by omega) hno']; simp; omega
    have w0 : IntKind.i64.wrap ((i : Int) + 1) = (i : Int) + 1 := wrap64 (by omega) (by omega)
    have e2 : ¬ ((i : Int) = -1) := by omega
    simp -implicitDefEqProofs [hg, b3, idxG, ints_iv, e, e2, w0, mapM1_nrm, mapM1_up, hn, hb]
    refine run_while (c := c102_22) (fun m s => ∃ (j : Nat) (g : Nat → Nat), j + m = n ∧ g 0 = 0 ∧ s = ⟨[(0, .own 0 0 0 n), (1, .clo 103 [.ipt 0 [.int .i64 lo, .int .i64 hi]]), (5, .int .i64 (keepF ⟨lo, hi⟩ zs j).length), (6, .int .i64 j)], [(0, ⟨iv (delRow ⟨lo, hi⟩ zs j), false, 1⟩)], g⟩) (n - (i + 1)) ⟨i + 1, g, by omega, hg, by simp [hrow0, hlen0]⟩ ?_
    rintro m s ⟨j, g, hj, hg, rfl⟩
    have hkl := keepF_le ⟨lo, hi⟩ zs j
    have hdl := delRow_len ⟨lo, hi⟩ zs (j := j) (by omega)
    by_cases h1 : j < n
    case pos =>
      have hjz : j < zs.length := by omega
      have w1 : IntKind.i64.wrap ((j : Int) + 1) = (j : Int) + 1 := wrap64 (by omega) (by omega)
      have w2 : IntKind.i64.wrap (((keepF ⟨lo, hi⟩ zs j).length : Int) + 1) = ((keepF ⟨lo, hi⟩ zs j).length : Int) + 1 := wrap64 (by omega) (by omega)
      have hget : (delRow ⟨lo, hi⟩ zs j)[j]'(by omega) = zs[j] := by
        have := delRow_get ⟨lo, hi⟩ zs hjz
        rw [List.getElem?_eq_getElem (by omega)] at this
        exact Option.some.inj this
      have hrow := rd_iv (delRow ⟨lo, hi⟩ zs j) j (by omega)
      rw [hget] at hrow
      have hR : outR zs[j] ⟨⟨lo, hi⟩⟩ = some (outS ⟨lo, hi⟩ zs[j]) := part_of trivial _
      cases hb3 : outS ⟨lo, hi⟩ zs[j]
      case true =>
        rw [hb3] at hR
        have hs : delRow ⟨lo, hi⟩ zs (j + 1) = delRow ⟨lo, hi⟩ zs j := by unfold delRow; rw [keepF_out hjz hb3]
        have hs2 := keepF_out hjz hb3
        simp -implicitDefEqProofs [h1, hg, b3, hrow, hR, w1]
        exact ⟨m - 1, by omega, j + 1, by omega, g, hg, ⟨by rw [hs2], by omega⟩, by rw [hs], rfl⟩
      case false =>
        rw [hb3] at hR
        have hwr := wr_iv (delRow ⟨lo, hi⟩ zs j) (keepF ⟨lo, hi⟩ zs j).length (by omega) zs[j]
        rw [← delRow_in hjz hb3] at hwr
        have hs2 : (keepF ⟨lo, hi⟩ zs (j + 1)).length = (keepF ⟨lo, hi⟩ zs j).length + 1 := by rw [keepF_in hjz hb3]; simp
        have k1 : (keepF ⟨lo, hi⟩ zs j).length < n := by omega
        have k2 : (keepF ⟨lo, hi⟩ zs j).length + 1 ≤ zs.length := by omega
        simp -implicitDefEqProofs [h1, hg, b3, hrow, hR, w1, w2, hwr, hdl, k1, k2]
        exact ⟨m - 1, by omega, j + 1, by omega, g, hg, ⟨by omega, by omega⟩, rfl, rfl⟩
    case neg =>
      have hjn : j = n := by omega
      subst hjn
      have k1 : (keepF ⟨lo, hi⟩ zs j).length ≤ j := hkl
      have hcl : wr (iv (delRow ⟨lo, hi⟩ zs j)) (keepF ⟨lo, hi⟩ zs j).length (List.replicate (j - (keepF ⟨lo, hi⟩ zs j).length) (AV.int .i64 0)) = iv (keepF ⟨lo, hi⟩ zs j ++ (List.replicate (j - (keepF ⟨lo, hi⟩ zs j).length) 0 ++ zs.drop j)) := by
        unfold delRow wr
        rw [iv_append, iv_append, iv_append, List.take_append_of_le_length (by simp), iv_take, List.append_assoc, List.drop_append]
        have e1 : iv (List.replicate (j - (keepF ⟨lo, hi⟩ zs j).length) 0) = List.replicate (j - (keepF ⟨lo, hi⟩ zs j).length) (AV.int .i64 0) := by simp [iv]
        have e2 : List.drop ((keepF ⟨lo, hi⟩ zs j).length + (List.replicate (j - (keepF ⟨lo, hi⟩ zs j).length) (AV.int IntKind.i64 0)).length) (iv (keepF ⟨lo, hi⟩ zs j)) = [] := List.drop_of_length_le (by simp)
        rw [e1, e2]
        simp only [List.nil_append, List.length_replicate, iv_len]
        congr 2
        unfold iv
        rw [← List.map_drop, List.drop_drop]
        congr 2
        omega
      simp -implicitDefEqProofs [h1, hg, b3, k1, hdl, hcl, hn, mapM1_nrm]
theorem c_delG : Contract Try.prog (gBase + 102) (gspec delG) :=
  gcontractN (C := tbl [(103, sp2 outR), (1000000 + 138, gspec idxG)]) mixed (tbl_cons c_Cuts1 (tbl_cons c_idxG tbl_nil)) Try.func102 m102 fun args h r h' hs => by
    unfold delG at hs
    split at hs
    · rename_i n lo hi k
      split at hs
      · rename_i hc
        obtain ⟨he, hf, hb⟩ := hc
        rw [Option.bind_eq_some_iff] at hs
        obtain ⟨zs, hz, hs⟩ := hs
        split at hs
        · rename_i hn
          simp only [Option.some.injEq, Prod.mk.injEq] at hs
          obtain ⟨rfl, rfl⟩ := hs
          obtain ⟨cs, fz, e⟩ := k
          simp only at he hf hz
          subst he hf
          rw [iv_of_ints hz]
          exact ⟨rfl, true, none, run_del n lo hi zs hn hb _ rfl⟩
        · cases hs
      · cases hs
    · cases hs
/-! ### cuts -/
def cutsL (m : Model) (q : Query) (b : Box) (place : Int) : List Int := if featOf q place < 0 then [] else (thrL m (featOf q place)).filter fun t => !outS (b.get place) t
noncomputable def CutsC (m : Model) (q : Query) (b : Box) (place : Int) : Option (List Int) := Part (RM m ∧ (featOf q place < 0 ∨ 0 ≤ place ∧ place ≤ 4)) (cutsL m q b place)
set_option maxHeartbeats 1000000 in
set_option maxRecDepth 8000 in
theorem runs_Cuts (m : Model) (q : Query) (b : Box) (place : Int) (r : List Int) (h : CutsC m q b place = some r) : Runs (tbl [(101, sp2 FeatC), (1000000 + 43, gspec thrG), (1000000 + 102, gspec delG)]) a51 [Arg.enc m, Arg.enc q, Arg.enc b, Arg.enc place] (Arg.enc r) := by
  obtain ⟨⟨hm, hp⟩, rfl⟩ := part_some h
  clear h
  refine ⟨rfl, fun g => run_def ?_⟩
  unfold a51 cutsL
  have hF : FeatC q place = some (featOf q place) := part_of trivial _
  generalize featOf q place = ft at *
  by_cases hf : ft < 0
  · rw [if_pos hf]
    simp -implicitDefEqProofs [hF, hf, encL_nil]
  rw [if_neg hf]
  have hp' : 0 ≤ place ∧ place ≤ 4 := by rcases hp with h | h; exact absurd h hf; exact h
  have hl := thr_len m ft
  have hlr := thrRow_len m ft
  have hrl : (rawM m.trees ft).length ≤ 31 * 8 := by
    have h1 := rawM_len (j := ft) (l := m.trees) fun t ht => (hm.tree t ht).2.2.le
    have h2 := hm.trees
    omega
  have k1 : (thrL m ft).length ≤ (thrRow m ft).length := by omega
  have k2 : (thrL m ft).length ≤ 1099511627776 := by omega
  have htk : List.take (thrL m ft).length (thrRow m ft) = thrL m ft := by unfold thrRow; simp
  have hp5 : place = 0 ∨ place = 1 ∨ place = 2 ∨ place = 3 ∨ place = 4 := by omega
  have hfin : ∀ (s : Span) (X : List Int), List.take ((thrL m ft).filter fun t => !outS s t).length (iv (((thrL m ft).filter fun t => !outS s t) ++ X)) = encL ((thrL m ft).filter fun t => !outS s t) := fun s X => by
    rw [iv_append, List.take_append_of_le_length (by simp), iv_take, iv_enc]
  rcases hp5 with rfl | rfl | rfl | rfl | rfl <;> simp -implicitDefEqProofs [hF, hf, thrG, hm, delG, ints_iv, mapM1_nrm, mapM1_up, k1, k2, htk, hfin, Box.get]
theorem c_Cuts : Contract Try.prog 51 (sp4 CutsC) :=
  contract_of_runs (C := tbl [(101, sp2 FeatC), (1000000 + 43, gspec thrG), (1000000 + 102, gspec delG)]) mixed (tbl_cons c_feature (tbl_cons c_ThrG (tbl_cons c_delG tbl_nil))) Try.func51 m51 (sp4_runs runs_Cuts)
end Go.Co
/- CO: thresholds rise; cuts of parts. -/
namespace Go.Co
open Go.Am Go.Proofs
set_option linter.unusedSimpArgs false
set_option linter.unusedVariables false
theorem compact_upto {zs : List Int} (hs : zs.Pairwise (· ≤ ·)) : ∀ (m : Nat), m ≤ zs.length → (∀ x, x ∈ Go.Lib.compactUpTo zs.toArray m ↔ x ∈ zs.take m) ∧ (Go.Lib.compactUpTo zs.toArray m).Pairwise (· < ·)
  | 0, _ => ⟨fun x => by simp [Go.Lib.compactUpTo], by simp [Go.Lib.compactUpTo]⟩
  | m + 1, hm => by
    obtain ⟨h1, h2⟩ := compact_upto hs m (by omega)
    have hg : ∀ (j : Nat) (h : j < zs.length), zs.toArray[j]! = zs[j] := fun j h => by simp [getElem!_pos, h]
    have hle : ∀ (i j : Nat) (hi : i < j) (hj : j < zs.length), zs[i] ≤ zs[j] := fun i j hi hj => List.pairwise_iff_getElem.1 hs i j (by omega) hj hi
    rw [Go.Lib.compactUpTo_succ, hg m (by omega)]
    by_cases hk : Go.Lib.keeps zs.toArray m = true
    · rw [if_pos hk]
      refine ⟨fun x => ?_, ?_⟩
      · rw [List.take_succ_eq_append_getElem (by omega), List.mem_append, List.mem_append, h1 x]
      · rw [List.pairwise_append]
        refine ⟨h2, by simp, fun a ha b hb => ?_⟩
        simp only [List.mem_singleton] at hb
        subst hb
        have ha' := (h1 a).1 ha
        obtain ⟨i, hi, rfl⟩ := List.mem_take_iff_getElem.1 ha'
        have hi' : i < m := by omega
        unfold Go.Lib.keeps at hk
        simp only [decide_eq_true_eq] at hk
        rcases hk with hk | hk
        · omega
        · rw [hg m (by omega), hg (m - 1) (by omega)] at hk
          have q1 : zs[i] ≤ zs[m - 1] := by
            by_cases e : i = m - 1
            · subst e; exact Int.le_refl _
            · exact hle i (m - 1) (by omega) (by omega)
          have q2 := hle (m - 1) m (by omega) (by omega)
          omega
    · rw [if_neg hk, List.append_nil]
      refine ⟨fun x => ?_, h2⟩
      rw [h1 x, List.take_succ_eq_append_getElem (by omega)]
      simp only [List.mem_append, List.mem_singleton]
      constructor
      · exact .inl
      · rintro (h | rfl)
        · exact h
        · unfold Go.Lib.keeps at hk
          simp only [decide_eq_true_eq, not_or] at hk
          obtain ⟨hk0, hk⟩ := hk
          rw [hg m (by omega), hg (m - 1) (by omega)] at hk
          have e : zs[m] = zs[m - 1] := by
            apply Classical.byContradiction
            exact hk
          rw [e]
          exact List.mem_take_iff_getElem.2 ⟨m - 1, by omega, rfl⟩
theorem compact_sorted {zs : List Int} (hs : zs.Pairwise (· ≤ ·)) : (Go.Lib.compact zs).Pairwise (· < ·) := by
  have := (compact_upto hs zs.length (Nat.le_refl _)).2
  unfold Go.Lib.compact
  simpa using this
theorem mem_compact {zs : List Int} (hs : zs.Pairwise (· ≤ ·)) (x : Int) : x ∈ Go.Lib.compact zs ↔ x ∈ zs := by
  have := (compact_upto hs zs.length (Nat.le_refl _)).1 x
  unfold Go.Lib.compact
  rw [List.take_length] at this
  simpa using this
theorem thr_sorted (m : Model) (j : Int) : (thrL m j).Pairwise (· < ·) := compact_sorted (isort_sorted _)
theorem mem_thr {m : Model} {j x : Int} : x ∈ thrL m j ↔ ∃ t ∈ m.trees, ∃ w ∈ t.nodes, (nd w).leaf = false ∧ (nd w).feature = j ∧ (nd w).cut = x := by
  unfold thrL
  rw [mem_compact (isort_sorted _), (isort_perm _).mem_iff]
  unfold rawM rawW cutF
  simp only [List.mem_flatMap, List.mem_filterMap]
  constructor
  · rintro ⟨t, ht, w, hw, h⟩
    split at h
    · rename_i hc
      cases h
      exact ⟨t, ht, w, hw, hc.1, hc.2, rfl⟩
    · cases h
  · rintro ⟨t, ht, w, hw, h1, h2, h3⟩
    exact ⟨t, ht, w, hw, by rw [if_pos ⟨h1, h2⟩, h3]⟩
/-! ### how many of a rising row lie in a span -/
def inN (T : List Int) (lo hi : Int) : Nat := (T.filter fun t => !outS ⟨lo, hi⟩ t).length
def cutN (m : Model) (q : Query) (b : Box) (i : Int) : Nat := if featOf q i < 0 then 0 else inN (thrL m (featOf q i)) (b.get i).lo (b.get i).hi
theorem cutsL_len (m : Model) (q : Query) (b : Box) (i : Int) : (cutsL m q b i).length = cutN m q b i := by
  unfold cutsL cutN inN
  split <;> rfl
def c48_0 : ACode := .ops [⟨some 4, .box (.t 0) 6, none, []⟩,
  ⟨some 5, .box (.t 1) 17, none, []⟩,
  ⟨some 6, .box (.t 2) 10, none, []⟩,
  ⟨some 8, .mv (.c (.int .i64 0)), none, []⟩,
  ⟨some 9, .mv (.c (.bool false)), none, []⟩] [3, 4, 5, 6]
theorem r48_0 : type_of% (@rr _ _ c48_0.eq_1) := rr c48_0.eq_1
def c48_1 : ACode := .ops [⟨some 10, .mv (.c (.int .i64 1)), none, []⟩] [3, 4, 5, 6, 10]
theorem r48_1 : type_of% (@rr _ _ c48_1.eq_1) := rr c48_1.eq_1
def c48_2 : ACode := .ops [⟨some 12, .mv (.c (.int .i64 0)), none, []⟩] [3, 4, 5, 6, 10, 12]
theorem r48_2 : type_of% (@rr _ _ c48_2.eq_1) := rr c48_2.eq_1
def c48_3 : ACode := .ops [⟨some 13, .bin .lss (.t 12) (.c (.int .i64 5)), none, []⟩] [3, 4, 5, 6, 10, 12, 13]
theorem r48_3 : type_of% (@rr _ _ c48_3.eq_1) := rr c48_3.eq_1
def c48_4 : ACode := .cond (.t 13) .skip (.exit 0)
theorem r48_4 : type_of% (@rr _ _ c48_4.eq_1) := rr c48_4.eq_1
def c48_5 : ACode := .ops [⟨some 14, .mv (.t 12), none, []⟩,
  ⟨some 11, .mv (.t 14), none, []⟩] [3, 4, 5, 6, 10, 11, 12]
theorem r48_5 : type_of% (@rr _ _ c48_5.eq_1) := rr c48_5.eq_1
def c48_6 : ACode := .ops [⟨some 15, .mv (.t 10), none, []⟩,
  ⟨some 16, .load 6 true (.t 4), none, [4]⟩,
  ⟨some 17, .load 17 true (.t 5), none, [5]⟩,
  ⟨some 18, .load 10 true (.t 6), none, [6]⟩,
  ⟨some 19, .mv (.t 11), none, []⟩,
  ⟨some 20, .call 51 [.t 16, .t 17, .t 18, .t 19], none, []⟩,
  ⟨some 21, .len (.t 20), none, []⟩,
  ⟨some 22, .bin .add (.c (.int .i64 1)) (.t 21), none, []⟩,
  ⟨some 23, .bin .mul (.t 15) (.t 22), none, []⟩,
  ⟨some 10, .mv (.t 23), none, []⟩] [3, 4, 5, 6, 10, 12]
theorem r48_6 : type_of% (@rr _ _ c48_6.eq_1) := rr c48_6.eq_1
def c48_7 : ACode := .seq c48_5 c48_6
theorem r48_7 : type_of% (@rr _ _ c48_7.eq_1) := rr c48_7.eq_1
def c48_8 : ACode := .block 1 c48_7
theorem r48_8 : type_of% (@rr _ _ c48_8.eq_1) := rr c48_8.eq_1
def c48_9 : ACode := .ops [⟨some 24, .bin .add (.t 12) (.c (.int .i64 1)), none, []⟩,
  ⟨some 12, .mv (.t 24), none, []⟩] [3, 4, 5, 6, 10, 12]
theorem r48_9 : type_of% (@rr _ _ c48_9.eq_1) := rr c48_9.eq_1
def c48_10 : ACode := .seq c48_8 c48_9
theorem r48_10 : type_of% (@rr _ _ c48_10.eq_1) := rr c48_10.eq_1
def c48_11 : ACode := .seq c48_4 c48_10
theorem r48_11 : type_of% (@rr _ _ c48_11.eq_1) := rr c48_11.eq_1
def c48_12 : ACode := .seq c48_3 c48_11
theorem r48_12 : type_of% (@rr _ _ c48_12.eq_1) := rr c48_12.eq_1
def c48_13 : ACode := .keep [3, 4, 5, 6, 10, 12] [4, 5, 6] c48_12
theorem r48_13 : type_of% (@rr _ _ c48_13.eq_1) := rr c48_13.eq_1
def c48_14 : ACode := .loop c48_13
theorem r48_14 : type_of% (@rr _ _ c48_14.eq_1) := rr c48_14.eq_1
def c48_15 : ACode := .block 0 c48_14
theorem r48_15 : type_of% (@rr _ _ c48_15.eq_1) := rr c48_15.eq_1
def c48_16 : ACode := .seq c48_2 c48_15
theorem r48_16 : type_of% (@rr _ _ c48_16.eq_1) := rr c48_16.eq_1
def c48_17 : ACode := .ops [⟨some 25, .mv (.t 10), none, []⟩,
  ⟨some 26, .mv (.t 3), none, []⟩,
  ⟨some 27, .bin .gtr (.t 25) (.t 26), none, []⟩] [10, 27]
theorem r48_17 : type_of% (@rr _ _ c48_17.eq_1) := rr c48_17.eq_1
def c48_18 : ACode := .ops [⟨some 8, .mv (.c (.int .i64 0)), none, []⟩,
  ⟨some 9, .mv (.c (.bool false)), none, []⟩] [8, 9]
theorem r48_18 : type_of% (@rr _ _ c48_18.eq_1) := rr c48_18.eq_1
def c48_19 : ACode := .seq c48_18 .ret
theorem r48_19 : type_of% (@rr _ _ c48_19.eq_1) := rr c48_19.eq_1
def c48_20 : ACode := .cond (.t 27) c48_19 .skip
theorem r48_20 : type_of% (@rr _ _ c48_20.eq_1) := rr c48_20.eq_1
def c48_21 : ACode := .seq c48_17 c48_20
theorem r48_21 : type_of% (@rr _ _ c48_21.eq_1) := rr c48_21.eq_1
def c48_22 : ACode := .ops [⟨some 28, .mv (.t 10), none, []⟩,
  ⟨some 8, .mv (.t 28), none, []⟩,
  ⟨some 9, .mv (.c (.bool true)), none, []⟩] [8, 9]
theorem r48_22 : type_of% (@rr _ _ c48_22.eq_1) := rr c48_22.eq_1
def c48_23 : ACode := .seq c48_22 .ret
theorem r48_23 : type_of% (@rr _ _ c48_23.eq_1) := rr c48_23.eq_1
def c48_24 : ACode := .seq c48_21 c48_23
theorem r48_24 : type_of% (@rr _ _ c48_24.eq_1) := rr c48_24.eq_1
def c48_25 : ACode := .seq c48_16 c48_24
theorem r48_25 : type_of% (@rr _ _ c48_25.eq_1) := rr c48_25.eq_1
def c48_26 : ACode := .seq c48_1 c48_25
theorem r48_26 : type_of% (@rr _ _ c48_26.eq_1) := rr c48_26.eq_1
def c48_27 : ACode := .seq c48_0 c48_26
theorem r48_27 : type_of% (@rr _ _ c48_27.eq_1) := rr c48_27.eq_1
def a48 : AFun := ⟨4, 29, c48_27, [.t 8, .t 9]⟩
attribute [simp] r48_0 r48_1 r48_2 r48_3 r48_4 r48_5 r48_6 r48_7 r48_8 r48_9 r48_10 r48_11 r48_12 r48_13 r48_14 r48_15 r48_16 r48_17 r48_18 r48_19 r48_20 r48_21 r48_22 r48_23 r48_24 r48_25 r48_26 r48_27
theorem m48 : mFun Try.prog Try.f48 a48 = true := by decide +kernel
def kN (m : Model) (q : Query) (b : Box) (i : Int) : Int := 1 + (cutN m q b i : Int)
theorem cutN_le {m : Model} (hm : RM m) (q : Query) (b : Box) (i : Int) : cutN m q b i ≤ 248 := by
  unfold cutN
  split
  · omega
  · unfold inN
    have h1 := List.length_filter_le (fun t => !outS ⟨(b.get i).lo, (b.get i).hi⟩ t) (thrL m (featOf q i))
    have h2 := thr_len m (featOf q i)
    have h3 := rawM_len (j := featOf q i) (l := m.trees) fun t ht => (hm.tree t ht).2.2.le
    have h4 := hm.trees
    omega
theorem kN_le {m : Model} (hm : RM m) (q : Query) (b : Box) (i : Int) : 1 ≤ kN m q b i ∧ kN m q b i ≤ 249 := by
  have := cutN_le hm q b i
  unfold kN
  omega
def countM (m : Model) (q : Query) (b : Box) : Int := kN m q b 0 * kN m q b 1 * kN m q b 2 * kN m q b 3 * kN m q b 4
theorem mul_le {a b A B : Int} (h1 : 1 ≤ a) (h2 : a ≤ A) (h3 : 1 ≤ b) (h4 : b ≤ B) : 1 ≤ a * b ∧ a * b ≤ A * B := by
  constructor
  · have := Int.mul_le_mul h1 h3 (by omega) (by omega)
    omega
  · exact Int.mul_le_mul h2 h4 (by omega) (by omega)
noncomputable def CountC (m : Model) (q : Query) (b : Box) (most : Int) : Option (Int × Bool) := Part (RM m) (if countM m q b ≤ most then (countM m q b, true) else (0, false))
set_option maxHeartbeats 4000000 in
set_option maxRecDepth 8000 in
theorem runs_Count (m : Model) (q : Query) (b : Box) (most : Int) (r : Int × Bool) (h : CountC m q b most = some r) : Runs (tbl [(51, sp4 CutsC)]) a48 [Arg.enc m, Arg.enc q, Arg.enc b, Arg.enc most] (Arg.enc r) := by
  obtain ⟨hm, rfl⟩ := part_some h
  clear h
  refine ⟨rfl, fun g => run_def ?_⟩
  unfold a48
  have hC : ∀ i : Int, 0 ≤ i → i ≤ 4 → CutsC m q b i = some (cutsL m q b i) := fun i h1 h2 => part_of ⟨hm, .inr ⟨h1, h2⟩⟩ _
  have e0 := hC 0 (by omega) (by omega)
  have e1 := hC 1 (by omega) (by omega)
  have e2 := hC 2 (by omega) (by omega)
  have e3 := hC 3 (by omega) (by omega)
  have e4 := hC 4 (by omega) (by omega)
  have hL : ∀ i : Int, (cutsL m q b i).length ≤ maxN := fun i => by rw [cutsL_len]; have := cutN_le hm q b i; unfold maxN; omega
  have hw : ∀ i : Int, IntKind.i64.wrap (1 + ((cutsL m q b i).length : Int)) = kN m q b i := fun i => by
    rw [cutsL_len]
    have := cutN_le hm q b i
    exact wrap64 (by omega) (by omega)
  have k0 := kN_le hm q b 0
  have k1 := kN_le hm q b 1
  have k2 := kN_le hm q b 2
  have k3 := kN_le hm q b 3
  have k4 := kN_le hm q b 4
  unfold countM
  have w0 : IntKind.i64.wrap (kN m q b 0) = kN m q b 0 := wrap64 (by omega) (by omega)
  have p1 := mul_le k0.1 k0.2 k1.1 k1.2
  have p2 := mul_le p1.1 p1.2 k2.1 k2.2
  have p3 := mul_le p2.1 p2.2 k3.1 k3.2
  have p4 := mul_le p3.1 p3.2 k4.1 k4.2
  have w1 : IntKind.i64.wrap (kN m q b 0 * kN m q b 1) = kN m q b 0 * kN m q b 1 := wrap64 (by omega) (by omega)
  have w2 : IntKind.i64.wrap (kN m q b 0 * kN m q b 1 * kN m q b 2) = kN m q b 0 * kN m q b 1 * kN m q b 2 := wrap64 (by omega) (by omega)
  have w3 : IntKind.i64.wrap (kN m q b 0 * kN m q b 1 * kN m q b 2 * kN m q b 3) = kN m q b 0 * kN m q b 1 * kN m q b 2 * kN m q b 3 := wrap64 (by omega) (by omega)
  have w4 : IntKind.i64.wrap (kN m q b 0 * kN m q b 1 * kN m q b 2 * kN m q b 3 * kN m q b 4) = kN m q b 0 * kN m q b 1 * kN m q b 2 * kN m q b 3 * kN m q b 4 := wrap64 (by omega) (by omega)
  by_cases hmost : kN m q b 0 * kN m q b 1 * kN m q b 2 * kN m q b 3 * kN m q b 4 ≤ most
  · have hn : ¬ most < kN m q b 0 * kN m q b 1 * kN m q b 2 * kN m q b 3 * kN m q b 4 := by omega
    simp -implicitDefEqProofs [run_round, e0, e1, e2, e3, e4, hL, hw, w0, w1, w2, w3, w4, hmost, hn]
  · have hn : most < kN m q b 0 * kN m q b 1 * kN m q b 2 * kN m q b 3 * kN m q b 4 := by omega
    simp -implicitDefEqProofs [run_round, e0, e1, e2, e3, e4, hL, hw, w0, w1, w2, w3, w4, hmost, hn]
theorem c_Count : Contract Try.prog 48 (sp4 CountC) :=
  contract_of_runs mixed (tbl_cons c_Cuts tbl_nil) Try.func48 m48 (sp4_runs runs_Count)
end Go.Co
