/- CO: cuts of a box, how many cells. -/
import Derived.Test.YtbjnmbbhlaghaaaCoTh
import Derived.Test.YtbjnmbbhlaghaaaCoBound
import Derived.Test.YtbjnmbbhlaghaaaCoI
namespace Go.Co
open Go.Am Go.Proofs
set_option linter.unusedSimpArgs false
set_option linter.unusedVariables false
attribute [-simp] Go.Am.eff_gcall
def c152_0 : ACode := .ops [⟨some 2, .box (.t 0) 17, none, []⟩,
  ⟨some 4, .mv (.c (.int .i64 0)), none, []⟩] [1, 2]
theorem r152_0 : type_of% (@rr _ _ c152_0.eq_1) := rr c152_0.eq_1
def c152_1 : ACode := .ops [⟨some 6, .mv (.t 1), none, []⟩,
  ⟨some 7, .bin .geq (.t 6) (.c (.int .i64 0)), none, []⟩,
  ⟨some 8, .mv (.t 7), none, []⟩,
  ⟨some 9, .mv (.t 1), some (8, true), []⟩,
  ⟨some 10, .bin .lss (.t 9) (.c (.int .i64 4)), some (8, true), []⟩,
  ⟨some 11, .pick (.t 8) (.t 10) (.c (.bool false)), none, []⟩,
  ⟨some 5, .mv (.t 11), none, []⟩] [1, 2, 5]
theorem r152_1 : type_of% (@rr _ _ c152_1.eq_1) := rr c152_1.eq_1
def c152_2 : ACode := .ops [⟨some 12, .mv (.t 1), none, []⟩,
  ⟨some 4, .mv (.t 12), none, []⟩] [4]
theorem r152_2 : type_of% (@rr _ _ c152_2.eq_1) := rr c152_2.eq_1
def c152_3 : ACode := .seq c152_2 .ret
theorem r152_3 : type_of% (@rr _ _ c152_3.eq_1) := rr c152_3.eq_1
def c152_4 : ACode := .ops [⟨some 14, .mv (.t 1), none, []⟩,
  ⟨some 15, .bin .eql (.t 14) (.c (.int .i64 4)), none, []⟩,
  ⟨some 16, .mv (.t 15), none, []⟩,
  ⟨some 17, .fad (.t 2) 0, some (16, true), [2]⟩,
  ⟨some 18, .load 1 false (.t 17), some (16, true), [2]⟩,
  ⟨some 19, .bin .eql (.t 18) (.c (.int .i64 3)), some (16, true), []⟩,
  ⟨some 20, .pick (.t 16) (.t 19) (.c (.bool false)), none, []⟩,
  ⟨some 13, .mv (.t 20), none, []⟩] [2, 13]
theorem r152_4 : type_of% (@rr _ _ c152_4.eq_1) := rr c152_4.eq_1
def c152_5 : ACode := .ops [⟨some 21, .fad (.t 2) 14, none, [2]⟩,
  ⟨some 22, .load 1 false (.t 21), none, [2]⟩,
  ⟨some 4, .mv (.t 22), none, []⟩] [4]
theorem r152_5 : type_of% (@rr _ _ c152_5.eq_1) := rr c152_5.eq_1
def c152_6 : ACode := .seq c152_5 .ret
theorem r152_6 : type_of% (@rr _ _ c152_6.eq_1) := rr c152_6.eq_1
def c152_7 : ACode := .cond (.t 13) c152_6 .skip
theorem r152_7 : type_of% (@rr _ _ c152_7.eq_1) := rr c152_7.eq_1
def c152_8 : ACode := .seq c152_4 c152_7
theorem r152_8 : type_of% (@rr _ _ c152_8.eq_1) := rr c152_8.eq_1
def c152_9 : ACode := .cond (.t 5) c152_3 c152_8
theorem r152_9 : type_of% (@rr _ _ c152_9.eq_1) := rr c152_9.eq_1
def c152_10 : ACode := .seq c152_1 c152_9
theorem r152_10 : type_of% (@rr _ _ c152_10.eq_1) := rr c152_10.eq_1
def c152_11 : ACode := .block 0 c152_10
theorem r152_11 : type_of% (@rr _ _ c152_11.eq_1) := rr c152_11.eq_1
def c152_12 : ACode := .ops [⟨some 4, .mv (.c (.int .i64 (-1))), none, []⟩] [4]
theorem r152_12 : type_of% (@rr _ _ c152_12.eq_1) := rr c152_12.eq_1
def c152_13 : ACode := .seq c152_12 .ret
theorem r152_13 : type_of% (@rr _ _ c152_13.eq_1) := rr c152_13.eq_1
def c152_14 : ACode := .seq c152_11 c152_13
theorem r152_14 : type_of% (@rr _ _ c152_14.eq_1) := rr c152_14.eq_1
def c152_15 : ACode := .seq c152_0 c152_14
theorem r152_15 : type_of% (@rr _ _ c152_15.eq_1) := rr c152_15.eq_1
def a152 : AFun := ⟨2, 23, c152_15, [.t 4]⟩
attribute [simp] r152_0 r152_1 r152_2 r152_3 r152_4 r152_5 r152_6 r152_7 r152_8 r152_9 r152_10 r152_11 r152_12 r152_13 r152_14 r152_15
theorem m152 : mFun Try.prog Try.f152 a152 = true := by decide +kernel
def c154_0 : ACode := .ops [⟨some 3, .mv (.c (.bool false)), none, []⟩] [0, 1]
theorem r154_0 : type_of% (@rr _ _ c154_0.eq_1) := rr c154_0.eq_1
def c154_1 : ACode := .ops [⟨some 4, .mv (.t 0), none, []⟩,
  ⟨some 5, .fad (.t 1) 0, none, []⟩,
  ⟨some 6, .load 1 false (.t 5), none, []⟩,
  ⟨some 7, .bin .lss (.t 4) (.t 6), none, []⟩,
  ⟨some 8, .mv (.t 7), none, []⟩,
  ⟨some 9, .mv (.t 0), some (8, false), []⟩,
  ⟨some 10, .fad (.t 1) 1, some (8, false), []⟩,
  ⟨some 11, .load 1 false (.t 10), some (8, false), []⟩,
  ⟨some 12, .bin .geq (.t 9) (.t 11), some (8, false), []⟩,
  ⟨some 13, .pick (.t 8) (.c (.bool true)) (.t 12), none, []⟩,
  ⟨some 3, .mv (.t 13), none, []⟩] [3]
theorem r154_1 : type_of% (@rr _ _ c154_1.eq_1) := rr c154_1.eq_1
def c154_2 : ACode := .seq c154_1 .ret
theorem r154_2 : type_of% (@rr _ _ c154_2.eq_1) := rr c154_2.eq_1
def c154_3 : ACode := .seq c154_0 c154_2
theorem r154_3 : type_of% (@rr _ _ c154_3.eq_1) := rr c154_3.eq_1
def a154 : AFun := ⟨2, 14, c154_3, [.t 3]⟩
attribute [simp] r154_0 r154_1 r154_2 r154_3
theorem m154 : mFun Try.prog Try.f154 a154 = true := by decide +kernel
def c175_0 : ACode := .ops [⟨some 4, .mv (.c (.int .i64 0)), none, []⟩] [0, 1]
theorem r175_0 : type_of% (@rr _ _ c175_0.eq_1) := rr c175_0.eq_1
def c175_1 : ACode := .ops [⟨some 6, .mv (.t 0), none, []⟩,
  ⟨some 7, .len (.t 6), none, [0]⟩,
  ⟨some 8, .mv (.c (.int .i64 0)), none, []⟩] [0, 1, 7, 8]
theorem r175_1 : type_of% (@rr _ _ c175_1.eq_1) := rr c175_1.eq_1
def c175_2 : ACode := .ops [⟨some 9, .bin .lss (.t 8) (.t 7), none, []⟩] [0, 1, 7, 8, 9]
theorem r175_2 : type_of% (@rr _ _ c175_2.eq_1) := rr c175_2.eq_1
def c175_3 : ACode := .cond (.t 9) .skip (.exit 0)
theorem r175_3 : type_of% (@rr _ _ c175_3.eq_1) := rr c175_3.eq_1
def c175_4 : ACode := .ops [⟨some 10, .mv (.t 8), none, []⟩,
  ⟨some 5, .mv (.t 10), none, []⟩] [0, 1, 5, 7, 8]
theorem r175_4 : type_of% (@rr _ _ c175_4.eq_1) := rr c175_4.eq_1
def c175_5 : ACode := .ops [⟨some 11, .mv (.t 1), none, []⟩,
  ⟨some 12, .mv (.t 0), none, []⟩,
  ⟨some 13, .mv (.t 5), none, []⟩,
  ⟨some 14, .ias (.t 12) (.t 13) 1, none, [0]⟩,
  ⟨some 15, .load 1 false (.t 14), none, [0]⟩,
  ⟨some 16, .dyn (.t 11) [.t 15], none, []⟩] [0, 1, 5, 7, 8, 16]
theorem r175_5 : type_of% (@rr _ _ c175_5.eq_1) := rr c175_5.eq_1
def c175_6 : ACode := .ops [⟨some 17, .mv (.t 5), none, []⟩,
  ⟨some 4, .mv (.t 17), none, []⟩] [4]
theorem r175_6 : type_of% (@rr _ _ c175_6.eq_1) := rr c175_6.eq_1
def c175_7 : ACode := .seq c175_6 .ret
theorem r175_7 : type_of% (@rr _ _ c175_7.eq_1) := rr c175_7.eq_1
def c175_8 : ACode := .cond (.t 16) c175_7 .skip
theorem r175_8 : type_of% (@rr _ _ c175_8.eq_1) := rr c175_8.eq_1
def c175_9 : ACode := .seq c175_5 c175_8
theorem r175_9 : type_of% (@rr _ _ c175_9.eq_1) := rr c175_9.eq_1
def c175_10 : ACode := .seq c175_4 c175_9
theorem r175_10 : type_of% (@rr _ _ c175_10.eq_1) := rr c175_10.eq_1
def c175_11 : ACode := .block 1 c175_10
theorem r175_11 : type_of% (@rr _ _ c175_11.eq_1) := rr c175_11.eq_1
def c175_12 : ACode := .ops [⟨some 18, .bin .add (.t 8) (.c (.int .i64 1)), none, []⟩,
  ⟨some 8, .mv (.t 18), none, []⟩] [0, 1, 7, 8]
theorem r175_12 : type_of% (@rr _ _ c175_12.eq_1) := rr c175_12.eq_1
def c175_13 : ACode := .seq c175_11 c175_12
theorem r175_13 : type_of% (@rr _ _ c175_13.eq_1) := rr c175_13.eq_1
def c175_14 : ACode := .seq c175_3 c175_13
theorem r175_14 : type_of% (@rr _ _ c175_14.eq_1) := rr c175_14.eq_1
def c175_15 : ACode := .seq c175_2 c175_14
theorem r175_15 : type_of% (@rr _ _ c175_15.eq_1) := rr c175_15.eq_1
def c175_16 : ACode := .keep [0, 1, 7, 8] [0] c175_15
theorem r175_16 : type_of% (@rr _ _ c175_16.eq_1) := rr c175_16.eq_1
def c175_17 : ACode := .loop c175_16
theorem r175_17 : type_of% (@rr _ _ c175_17.eq_1) := rr c175_17.eq_1
def c175_18 : ACode := .block 0 c175_17
theorem r175_18 : type_of% (@rr _ _ c175_18.eq_1) := rr c175_18.eq_1
def c175_19 : ACode := .seq c175_1 c175_18
theorem r175_19 : type_of% (@rr _ _ c175_19.eq_1) := rr c175_19.eq_1
def c175_20 : ACode := .ops [⟨some 4, .mv (.c (.int .i64 (-1))), none, []⟩] [4]
theorem r175_20 : type_of% (@rr _ _ c175_20.eq_1) := rr c175_20.eq_1
def c175_21 : ACode := .seq c175_20 .ret
theorem r175_21 : type_of% (@rr _ _ c175_21.eq_1) := rr c175_21.eq_1
def c175_22 : ACode := .seq c175_19 c175_21
theorem r175_22 : type_of% (@rr _ _ c175_22.eq_1) := rr c175_22.eq_1
def c175_23 : ACode := .seq c175_0 c175_22
theorem r175_23 : type_of% (@rr _ _ c175_23.eq_1) := rr c175_23.eq_1
def a175 : AFun := ⟨2, 19, c175_23, [.t 4]⟩
attribute [simp] r175_0 r175_1 r175_2 r175_3 r175_4 r175_5 r175_6 r175_7 r175_8 r175_9 r175_10 r175_11 r175_12 r175_13 r175_14 r175_15 r175_16 r175_17 r175_18 r175_19 r175_20 r175_21 r175_22 r175_23
theorem m175 : mFun Try.prog Try.f175 a175 = true := by decide +kernel
def c153_0 : ACode := .ops [⟨some 4, .mv (.c (.nils)), none, []⟩] [0, 1]
theorem r153_0 : type_of% (@rr _ _ c153_0.eq_1) := rr c153_0.eq_1
def c153_1 : ACode := .ops [⟨some 8, .mv (.t 0), none, []⟩,
  ⟨some 9, .mv (.t 1), none, []⟩,
  ⟨some 10, .gcall 175 [.t 8, .t 9] [0] 0, none, [0]⟩,
  ⟨some 5, .mv (.t 10), none, []⟩] [0, 1, 5]
theorem r153_1 : type_of% (@rr _ _ c153_1.eq_1) := rr c153_1.eq_1
def c153_2 : ACode := .ops [⟨some 11, .mv (.t 5), none, []⟩,
  ⟨some 12, .bin .eql (.t 11) (.c (.int .i64 (-1))), none, []⟩] [0, 1, 5, 12]
theorem r153_2 : type_of% (@rr _ _ c153_2.eq_1) := rr c153_2.eq_1
def c153_3 : ACode := .ops [⟨some 13, .mv (.t 0), none, []⟩,
  ⟨some 4, .mv (.t 13), none, []⟩] [4]
theorem r153_3 : type_of% (@rr _ _ c153_3.eq_1) := rr c153_3.eq_1
def c153_4 : ACode := .seq c153_3 .ret
theorem r153_4 : type_of% (@rr _ _ c153_4.eq_1) := rr c153_4.eq_1
def c153_5 : ACode := .cond (.t 12) c153_4 .skip
theorem r153_5 : type_of% (@rr _ _ c153_5.eq_1) := rr c153_5.eq_1
def c153_6 : ACode := .seq c153_2 c153_5
theorem r153_6 : type_of% (@rr _ _ c153_6.eq_1) := rr c153_6.eq_1
def c153_7 : ACode := .ops [⟨some 14, .mv (.t 5), none, []⟩,
  ⟨some 15, .bin .add (.t 14) (.c (.int .i64 1)), none, []⟩,
  ⟨some 6, .mv (.t 15), none, []⟩] [0, 1, 5, 6]
theorem r153_7 : type_of% (@rr _ _ c153_7.eq_1) := rr c153_7.eq_1
def c153_8 : ACode := .ops [⟨some 16, .mv (.t 6), none, []⟩,
  ⟨some 17, .mv (.t 0), none, []⟩,
  ⟨some 18, .len (.t 17), none, [0]⟩,
  ⟨some 19, .bin .lss (.t 16) (.t 18), none, []⟩] [0, 1, 5, 6, 19]
theorem r153_8 : type_of% (@rr _ _ c153_8.eq_1) := rr c153_8.eq_1
def c153_9 : ACode := .cond (.t 19) .skip (.exit 0)
theorem r153_9 : type_of% (@rr _ _ c153_9.eq_1) := rr c153_9.eq_1
def c153_10 : ACode := .seq c153_8 c153_9
theorem r153_10 : type_of% (@rr _ _ c153_10.eq_1) := rr c153_10.eq_1
def c153_11 : ACode := .ops [⟨some 22, .mv (.t 0), none, []⟩,
  ⟨some 23, .mv (.t 6), none, []⟩,
  ⟨some 24, .ias (.t 22) (.t 23) 1, none, [0]⟩,
  ⟨some 25, .load 1 false (.t 24), none, [0]⟩,
  ⟨some 7, .mv (.t 25), none, []⟩] [0, 1, 5, 6, 7]
theorem r153_11 : type_of% (@rr _ _ c153_11.eq_1) := rr c153_11.eq_1
def c153_12 : ACode := .ops [⟨some 26, .mv (.t 1), none, []⟩,
  ⟨some 27, .mv (.t 7), none, []⟩,
  ⟨some 28, .dyn (.t 26) [.t 27], none, []⟩,
  ⟨some 29, .un .not (.t 28), none, []⟩] [0, 1, 5, 6, 7, 29]
theorem r153_12 : type_of% (@rr _ _ c153_12.eq_1) := rr c153_12.eq_1
def c153_13 : ACode := .ops [⟨some 30, .mv (.t 0), none, []⟩,
  ⟨some 31, .mv (.t 5), none, []⟩,
  ⟨some 32, .mv (.t 7), none, []⟩,
  ⟨some 33, .ias (.t 30) (.t 31) 1, none, [0]⟩,
  ⟨none, .store (.t 33) 1 (.t 32), none, [0]⟩] [0, 1, 5, 6]
theorem r153_13 : type_of% (@rr _ _ c153_13.eq_1) := rr c153_13.eq_1
def c153_14 : ACode := .ops [⟨some 34, .mv (.t 5), none, []⟩,
  ⟨some 35, .bin .add (.t 34) (.c (.int .i64 1)), none, []⟩,
  ⟨some 5, .mv (.t 35), none, []⟩] [0, 1, 5, 6]
theorem r153_14 : type_of% (@rr _ _ c153_14.eq_1) := rr c153_14.eq_1
def c153_15 : ACode := .seq c153_13 c153_14
theorem r153_15 : type_of% (@rr _ _ c153_15.eq_1) := rr c153_15.eq_1
def c153_16 : ACode := .cond (.t 29) c153_15 .skip
theorem r153_16 : type_of% (@rr _ _ c153_16.eq_1) := rr c153_16.eq_1
def c153_17 : ACode := .seq c153_12 c153_16
theorem r153_17 : type_of% (@rr _ _ c153_17.eq_1) := rr c153_17.eq_1
def c153_18 : ACode := .seq c153_11 c153_17
theorem r153_18 : type_of% (@rr _ _ c153_18.eq_1) := rr c153_18.eq_1
def c153_19 : ACode := .block 1 c153_18
theorem r153_19 : type_of% (@rr _ _ c153_19.eq_1) := rr c153_19.eq_1
def c153_20 : ACode := .ops [⟨some 20, .mv (.t 6), none, []⟩,
  ⟨some 21, .bin .add (.t 20) (.c (.int .i64 1)), none, []⟩,
  ⟨some 6, .mv (.t 21), none, []⟩] [0, 1, 5, 6]
theorem r153_20 : type_of% (@rr _ _ c153_20.eq_1) := rr c153_20.eq_1
def c153_21 : ACode := .seq c153_19 c153_20
theorem r153_21 : type_of% (@rr _ _ c153_21.eq_1) := rr c153_21.eq_1
def c153_22 : ACode := .seq c153_10 c153_21
theorem r153_22 : type_of% (@rr _ _ c153_22.eq_1) := rr c153_22.eq_1
def c153_23 : ACode := .keep [0, 1, 5, 6] [0] c153_22
theorem r153_23 : type_of% (@rr _ _ c153_23.eq_1) := rr c153_23.eq_1
def c153_24 : ACode := .loop c153_23
theorem r153_24 : type_of% (@rr _ _ c153_24.eq_1) := rr c153_24.eq_1
def c153_25 : ACode := .block 0 c153_24
theorem r153_25 : type_of% (@rr _ _ c153_25.eq_1) := rr c153_25.eq_1
def c153_26 : ACode := .seq c153_7 c153_25
theorem r153_26 : type_of% (@rr _ _ c153_26.eq_1) := rr c153_26.eq_1
def c153_27 : ACode := .ops [⟨some 36, .mv (.t 0), none, []⟩,
  ⟨some 37, .mv (.t 5), none, []⟩,
  ⟨some 38, .sl (.t 36) (some (.t 37)) none 1, none, [0]⟩,
  ⟨none, .clear (.t 38) 1 [.int .i64 0], none, [0]⟩] [0, 5]
theorem r153_27 : type_of% (@rr _ _ c153_27.eq_1) := rr c153_27.eq_1
def c153_28 : ACode := .ops [⟨some 39, .mv (.t 0), none, []⟩,
  ⟨some 40, .mv (.t 5), none, []⟩,
  ⟨some 41, .sl (.t 39) none (some (.t 40)) 1, none, [0]⟩,
  ⟨some 4, .mv (.t 41), none, []⟩] [4]
theorem r153_28 : type_of% (@rr _ _ c153_28.eq_1) := rr c153_28.eq_1
def c153_29 : ACode := .seq c153_28 .ret
theorem r153_29 : type_of% (@rr _ _ c153_29.eq_1) := rr c153_29.eq_1
def c153_30 : ACode := .seq c153_27 c153_29
theorem r153_30 : type_of% (@rr _ _ c153_30.eq_1) := rr c153_30.eq_1
def c153_31 : ACode := .seq c153_26 c153_30
theorem r153_31 : type_of% (@rr _ _ c153_31.eq_1) := rr c153_31.eq_1
def c153_32 : ACode := .seq c153_6 c153_31
theorem r153_32 : type_of% (@rr _ _ c153_32.eq_1) := rr c153_32.eq_1
def c153_33 : ACode := .seq c153_1 c153_32
theorem r153_33 : type_of% (@rr _ _ c153_33.eq_1) := rr c153_33.eq_1
def c153_34 : ACode := .seq c153_0 c153_33
theorem r153_34 : type_of% (@rr _ _ c153_34.eq_1) := rr c153_34.eq_1
def a153 : AFun := ⟨2, 42, c153_34, [.t 4]⟩
attribute [simp] r153_0 r153_1 r153_2 r153_3 r153_4 r153_5 r153_6 r153_7 r153_8 r153_9 r153_10 r153_11 r153_12 r153_13 r153_14 r153_15 r153_16 r153_17 r153_18 r153_19 r153_20 r153_21 r153_22 r153_23 r153_24 r153_25 r153_26 r153_27 r153_28 r153_29 r153_30 r153_31 r153_32 r153_33 r153_34
theorem m153 : mFun Try.prog Try.f153 a153 = true := by decide +kernel
def c102_0 : ACode := .ops [⟨some 4, .box (.t 0) 6, none, []⟩,
  ⟨some 5, .box (.t 1) 17, none, []⟩,
  ⟨some 6, .box (.t 2) 10, none, []⟩,
  ⟨some 8, .mv (.c (.nils)), none, []⟩] [3, 4, 5, 6]
theorem r102_0 : type_of% (@rr _ _ c102_0.eq_1) := rr c102_0.eq_1
def c102_1 : ACode := .ops [⟨some 11, .load 17 true (.t 5), none, [5]⟩,
  ⟨some 12, .mv (.t 3), none, []⟩,
  ⟨some 13, .call 152 [.t 11, .t 12], none, []⟩,
  ⟨some 9, .mv (.t 13), none, []⟩] [3, 4, 6, 9]
theorem r102_1 : type_of% (@rr _ _ c102_1.eq_1) := rr c102_1.eq_1
def c102_2 : ACode := .ops [⟨some 14, .mv (.t 9), none, []⟩,
  ⟨some 15, .bin .lss (.t 14) (.c (.int .i64 0)), none, []⟩] [3, 4, 6, 9, 15]
theorem r102_2 : type_of% (@rr _ _ c102_2.eq_1) := rr c102_2.eq_1
def c102_3 : ACode := .ops [⟨some 8, .mv (.c (.nils)), none, []⟩] [8]
theorem r102_3 : type_of% (@rr _ _ c102_3.eq_1) := rr c102_3.eq_1
def c102_4 : ACode := .seq c102_3 .ret
theorem r102_4 : type_of% (@rr _ _ c102_4.eq_1) := rr c102_4.eq_1
def c102_5 : ACode := .cond (.t 15) c102_4 .skip
theorem r102_5 : type_of% (@rr _ _ c102_5.eq_1) := rr c102_5.eq_1
def c102_6 : ACode := .seq c102_2 c102_5
theorem r102_6 : type_of% (@rr _ _ c102_6.eq_1) := rr c102_6.eq_1
def c102_7 : ACode := .ops [⟨some 16, .mv (.t 3), none, []⟩,
  ⟨some 17, .iad (.t 6) (.t 16) 2 5, none, [6]⟩,
  ⟨some 18, .load 2 true (.t 17), none, [6]⟩,
  ⟨some 10, .alloc [.int .i64 0, .int .i64 0], none, []⟩,
  ⟨none, .store (.t 10) 2 (.t 18), none, [10]⟩] [4, 9, 10]
theorem r102_7 : type_of% (@rr _ _ c102_7.eq_1) := rr c102_7.eq_1
def c102_8 : ACode := .ops [⟨some 19, .load 6 true (.t 4), none, [4]⟩,
  ⟨some 20, .mv (.t 9), none, []⟩,
  ⟨some 21, .gcall 96 [.t 19, .t 20] [] 21, none, []⟩,
  ⟨some 22, .clo 154 [.t 10], none, [10]⟩,
  ⟨some 23, .gcall 153 [.t 21, .t 22] [21] 21, none, [21]⟩,
  ⟨some 8, .mv (.t 23), none, []⟩] [8]
theorem r102_8 : type_of% (@rr _ _ c102_8.eq_1) := rr c102_8.eq_1
def c102_9 : ACode := .seq c102_8 .ret
theorem r102_9 : type_of% (@rr _ _ c102_9.eq_1) := rr c102_9.eq_1
def c102_10 : ACode := .seq c102_7 c102_9
theorem r102_10 : type_of% (@rr _ _ c102_10.eq_1) := rr c102_10.eq_1
def c102_11 : ACode := .seq c102_6 c102_10
theorem r102_11 : type_of% (@rr _ _ c102_11.eq_1) := rr c102_11.eq_1
def c102_12 : ACode := .seq c102_1 c102_11
theorem r102_12 : type_of% (@rr _ _ c102_12.eq_1) := rr c102_12.eq_1
def c102_13 : ACode := .seq c102_0 c102_12
theorem r102_13 : type_of% (@rr _ _ c102_13.eq_1) := rr c102_13.eq_1
def a102 : AFun := ⟨4, 24, c102_13, [.t 8]⟩
attribute [simp] r102_0 r102_1 r102_2 r102_3 r102_4 r102_5 r102_6 r102_7 r102_8 r102_9 r102_10 r102_11 r102_12 r102_13
theorem m102 : mFun Try.prog Try.f102 a102 = true := by decide +kernel
def featOf (q : Query) (place : Int) : Int := if 0 ≤ place ∧ place < 4 then place else if place = 4 ∧ q.kind = 3 then q.feature else -1
noncomputable def FeatC (q : Query) (place : Int) : Option Int := Part True (featOf q place)
theorem runs_feature (q : Query) (place : Int) (r : Int) (h : FeatC q place = some r) : Runs (tbl []) a152 [Arg.enc q, Arg.enc place] (Arg.enc r) := by
  obtain ⟨_, rfl⟩ := part_some h
  clear h
  refine ⟨rfl, fun g => run_def ?_⟩
  unfold a152 featOf
  by_cases h1 : 0 ≤ place
  · by_cases h2 : place < 4
    · simp -implicitDefEqProofs [h1, h2]
    · by_cases h3 : place = 4
      · subst h3
        by_cases h4 : q.kind = 3
        · simp -implicitDefEqProofs [h4]
        · simp -implicitDefEqProofs [h4]
      · simp -implicitDefEqProofs [h1, h2, h3]
  · by_cases h3 : place = 4
    · omega
    · simp -implicitDefEqProofs [h1, h3]
theorem c_feature : Contract Try.prog 152 (sp2 FeatC) :=
  contract_of_runs mixed tbl_nil Try.func152 m152 (sp2_runs runs_feature)
def outS (s : Span) (t : Int) : Bool := decide (t < s.lo) || decide (s.hi ≤ t)
@[simp] theorem dec_ref_span (lo hi : Int) : (Arg.dec (.ipt 0 [.int .i64 lo, .int .i64 hi]) : Option (Ref Span)) = some ⟨⟨lo, hi⟩⟩ := Arg.dec_enc (⟨⟨lo, hi⟩⟩ : Ref Span)
noncomputable def outR (t : Int) (s : Ref Span) : Option Bool := Part True (outS s.v t)
theorem runs_Cuts1 (t : Int) (s : Ref Span) (r : Bool) (h : outR t s = some r) : Runs (tbl []) a154 [Arg.enc t, Arg.enc s] (Arg.enc r) := by
  obtain ⟨_, rfl⟩ := part_some h
  clear h
  obtain ⟨s⟩ := s
  refine ⟨rfl, fun g => run_def ?_⟩
  unfold a154 outS
  by_cases h1 : t < s.lo
  · simp -implicitDefEqProofs [h1]
  · simp -implicitDefEqProofs [h1]
theorem c_Cuts1 : Contract Try.prog 154 (sp2 outR) :=
  contract_of_runs mixed tbl_nil Try.func154 m154 (sp2_runs runs_Cuts1)
theorem rd_iv (zs : List Int) (i : Nat) (h : i < zs.length) : rd (iv zs) i 1 false = some (.int .i64 zs[i]) := by rw [iv_enc]; exact rd_ints zs i h
theorem wr_iv (zs : List Int) (i : Nat) (h : i < zs.length) (x : Int) : wr (iv zs) i [.int .i64 x] = iv (zs.set i x) := by rw [iv_enc, iv_enc]; exact wr_ints zs i h x
def idxG : GSp := fun args h => match args, h with
  | [.own 0 0 0 n, .clo 154 [.ipt 0 [.int .i64 lo, .int .i64 hi]]], [(0, k)] => if k.esz = 1 ∧ k.frz = false ∧ n ≤ 1099511627776 then (ints k.cs).bind fun zs => if n ≤ zs.length then some (.int .i64 (idxF (outS ⟨lo, hi⟩) (zs.take n)), [(0, k)]) else none else none
  | _, _ => none
set_option maxHeartbeats 1000000 in
theorem run_idx (n : Nat) (lo hi : Int) (zs : List Int) (hn : n ≤ zs.length) (hb : n ≤ 1099511627776) (g : Nat → Nat) (hg : g 0 = 0) :
    run (tbl [(154, sp2 outR)]) a175.code [] ⟨argEnv 0 [.own 0 0 0 n, .clo 154 [.ipt 0 [.int .i64 lo, .int .i64 hi]]], [(0, ⟨iv zs, false, 1⟩)], g⟩
      (gfinN a175.res true none (.int .i64 (idxF (outS ⟨lo, hi⟩) (zs.take n))) [(0, ⟨iv zs, false, 1⟩)]) := by
  unfold a175
  have b3 : n ≤ maxN := by unfold maxN; omega
  simp -implicitDefEqProofs [hg, b3]
  refine run_while (c := c175_15) (fun m s => ∃ (i : Nat) (g : Nat → Nat), i + m = n ∧ g 0 = 0 ∧ (∀ (j : Nat) (hj : j < zs.length), j < i → outS ⟨lo, hi⟩ zs[j] = false) ∧ s = ⟨[(0, .own 0 0 0 n), (1, .clo 154 [.ipt 0 [.int .i64 lo, .int .i64 hi]]), (7, .int .i64 n), (8, .int .i64 i)], [(0, ⟨iv zs, false, 1⟩)], g⟩) n ⟨0, g, by omega, hg, fun j _ h => by omega, by simp⟩ ?_
  rintro m s ⟨i, g, hi2, hg, hno, rfl⟩
  have htl : (zs.take n).length = n := by simp; omega
  by_cases h1 : i < n
  case pos =>
    have w1 : IntKind.i64.wrap ((i : Int) + 1) = (i : Int) + 1 := wrap64 (by omega) (by omega)
    have hlt : i < zs.length := by omega
    have hrow := rd_iv zs i hlt
    have hR : outR zs[i] ⟨⟨lo, hi⟩⟩ = some (outS ⟨lo, hi⟩ zs[i]) := part_of trivial _
    cases hb2 : outS ⟨lo, hi⟩ zs[i]
    case false =>
      rw [hb2] at hR
      simp -implicitDefEqProofs [h1, hg, hrow, hR, w1]
      have hno2 : ∀ (j : Nat) (hj : j < zs.length), j < i + 1 → outS ⟨lo, hi⟩ zs[j] = false := fun j hj hji => by
        by_cases e : j = i
        · subst e; exact hb2
        · exact hno j hj (by omega)
      exact ⟨m - 1, by omega, i + 1, by omega, g, hg, hno2, by simp⟩
    case true =>
      rw [hb2] at hR
      have hidx : idxF (outS ⟨lo, hi⟩) (zs.take n) = i := by
        have hlt2 : i < (zs.take n).length := by rw [htl]; exact h1
        have : (zs.take n).findIdx (outS ⟨lo, hi⟩) = i := (List.findIdx_eq hlt2).2 ⟨by rw [List.getElem_take]; exact hb2, fun j hj => by rw [List.getElem_take]; exact hno j (by omega) hj⟩
        unfold idxF
        rw [this, if_pos hlt2]
      simp -implicitDefEqProofs [h1, hg, hrow, hR, w1, hidx, mapM1_nrm]
  case neg =>
    have hidx : idxF (outS ⟨lo, hi⟩) (zs.take n) = -1 := by
      have : (zs.take n).findIdx (outS ⟨lo, hi⟩) = (zs.take n).length := List.findIdx_eq_length.2 fun x hx => by
        obtain ⟨j, hj, rfl⟩ := List.mem_iff_getElem.1 hx
        rw [List.getElem_take]
        exact hno j (by omega) (by omega)
      unfold idxF
      rw [this, if_neg (by omega)]
    simp -implicitDefEqProofs [h1, hg, hidx, mapM1_nrm]
theorem c_idxG : Contract Try.prog (gBase + 175) (gspec idxG) :=
  gcontractN (C := tbl [(154, sp2 outR)]) mixed (tbl_cons c_Cuts1 tbl_nil) Try.func175 m175 fun args h r h' hs => by
    unfold idxG at hs
    split at hs
    · rename_i n lo hi k
      split at hs
      · rename_i hc
        obtain ⟨he, hf, hb⟩ := hc
        rw [Option.bind_eq_some_iff] at hs
        obtain ⟨zs, hz, hs⟩ := hs
        split at hs
        · rename_i hn
          simp only [Option.some.injEq, Prod.mk.injEq] at hs
          obtain ⟨rfl, rfl⟩ := hs
          obtain ⟨cs, fz, e⟩ := k
          simp only at he hf hz
          subst he hf
          rw [iv_of_ints hz]
          exact ⟨rfl, true, none, run_idx n lo hi zs hn hb _ rfl⟩
        · cases hs
      · cases hs
    · cases hs
def delG : GSp := fun args h => match args, h with
  | [.own 0 0 0 n, .clo 154 [.ipt 0 [.int .i64 lo, .int .i64 hi]]], [(0, k)] => if k.esz = 1 ∧ k.frz = false ∧ n ≤ 1099511627776 then (ints k.cs).bind fun zs => if n ≤ zs.length then
      some (.own 0 0 0 ((zs.take n).filter fun t => !outS ⟨lo, hi⟩ t).length, [(0, ⟨iv (((zs.take n).filter fun t => !outS ⟨lo, hi⟩ t) ++ List.replicate (n - ((zs.take n).filter fun t => !outS ⟨lo, hi⟩ t).length) 0 ++ zs.drop n), false, 1⟩)]) else none else none
  | _, _ => none
def keepF (s : Span) (zs : List Int) (j : Nat) : List Int := (zs.take j).filter fun t => !outS s t
theorem keepF_le (s : Span) (zs : List Int) (j : Nat) : (keepF s zs j).length ≤ j := by
  unfold keepF
  exact Nat.le_trans (List.length_filter_le _ _) (List.length_take_le j zs)
theorem keepF_out {s : Span} {zs : List Int} {j : Nat} (h : j < zs.length) (ho : outS s zs[j] = true) : keepF s zs (j + 1) = keepF s zs j := by
  unfold keepF
  rw [List.take_succ_eq_append_getElem h, List.filter_append]
  simp [ho]
theorem keepF_in {s : Span} {zs : List Int} {j : Nat} (h : j < zs.length) (ho : outS s zs[j] = false) : keepF s zs (j + 1) = keepF s zs j ++ [zs[j]] := by
  unfold keepF
  rw [List.take_succ_eq_append_getElem h, List.filter_append]
  simp [ho]
def delRow (s : Span) (zs : List Int) (j : Nat) : List Int := keepF s zs j ++ zs.drop (keepF s zs j).length
theorem delRow_len (s : Span) (zs : List Int) {j : Nat} (h : j ≤ zs.length) : (delRow s zs j).length = zs.length := by
  unfold delRow
  have := keepF_le s zs j
  rw [List.length_append, List.length_drop]
  omega
theorem delRow_get (s : Span) (zs : List Int) {j : Nat} (h : j < zs.length) : (delRow s zs j)[j]? = some zs[j] := by
  unfold delRow
  have := keepF_le s zs j
  rw [List.getElem?_append_right (by omega), List.getElem?_drop]
  rw [show (keepF s zs j).length + (j - (keepF s zs j).length) = j by omega]
  simp [h]
theorem delRow_in {s : Span} {zs : List Int} {j : Nat} (h : j < zs.length) (ho : outS s zs[j] = false) : delRow s zs (j + 1) = (delRow s zs j).set (keepF s zs j).length zs[j] := by
  have hk := keepF_le s zs j
  unfold delRow
  rw [keepF_in h ho]
  rw [List.set_append_right _ _ (by omega), Nat.sub_self, List.append_assoc]
  congr 1
  have hd : zs.drop (keepF s zs j).length = zs[(keepF s zs j).length]'(by omega) :: zs.drop ((keepF s zs j).length + 1) := List.drop_eq_getElem_cons (by omega)
  rw [hd]
  simp only [List.length_append, List.length_cons, List.length_nil, List.set_cons_zero, List.singleton_append, Nat.zero_add]
theorem keepF_none {s : Span} {zs : List Int} : ∀ {j : Nat}, j ≤ zs.length → (∀ (i : Nat) (h : i < zs.length), i < j → outS s zs[i] = false) → keepF s zs j = zs.take j
  | 0, _, _ => by simp [keepF]
  | j + 1, hj, h => by
    rw [keepF_in (by omega) (h j (by omega) (by omega)), keepF_none (by omega) (fun i hi hij => h i hi (by omega)), List.take_succ_eq_append_getElem (by omega)]
theorem delRow_none {s : Span} {zs : List Int} {j : Nat} (hj : j ≤ zs.length) (h : ∀ (i : Nat) (h : i < zs.length), i < j → outS s zs[i] = false) : delRow s zs j = zs := by
  unfold delRow
  rw [keepF_none hj h, List.length_take, Nat.min_eq_left hj, List.take_append_drop]
theorem idxF_spec {α : Type} {p : α → Bool} {l : List α} : (idxF p l = -1 ∧ ∀ x ∈ l, p x = false) ∨ ∃ (i : Nat) (h : i < l.length), idxF p l = i ∧ p l[i] = true ∧ ∀ (j : Nat) (hj : j < l.length), j < i → p l[j] = false := by
  unfold idxF
  by_cases h : l.findIdx p < l.length
  · rw [if_pos h]
    obtain ⟨h1, h2⟩ := (List.findIdx_eq h).1 rfl
    exact .inr ⟨_, h, rfl, h1, fun j hj hji => h2 j hji⟩
  · rw [if_neg h]
    exact .inl ⟨rfl, List.findIdx_eq_length.1 (by have := List.findIdx_le_length (p := p) (xs := l); omega)⟩
set_option maxHeartbeats 4000000 in
theorem run_del (n : Nat) (lo hi : Int) (zs : List Int) (hn : n ≤ zs.length) (hb : n ≤ 1099511627776) (g : Nat → Nat) (hg : g 0 = 0) :
    run (tbl [(154, sp2 outR), (1000000 + 175, gspec idxG)]) a153.code [] ⟨argEnv 0 [.own 0 0 0 n, .clo 154 [.ipt 0 [.int .i64 lo, .int .i64 hi]]], [(0, ⟨iv zs, false, 1⟩)], g⟩
      (gfinN a153.res true none (.own 0 0 0 (keepF ⟨lo, hi⟩ zs n).length) [(0, ⟨iv (keepF ⟨lo, hi⟩ zs n ++ List.replicate (n - (keepF ⟨lo, hi⟩ zs n).length) 0 ++ zs.drop n), false, 1⟩)]) := by
  unfold a153
  have b3 : n ≤ maxN := by unfold maxN; omega
  have htl : (zs.take n).length = n := by simp; omega
  rcases idxF_spec (p := outS ⟨lo, hi⟩) (l := zs.take n) with ⟨e, hno⟩ | ⟨i, hi2, e, hb2, hno⟩
  · have hk : keepF ⟨lo, hi⟩ zs n = zs.take n := keepF_none hn fun i h hin => by
      have := hno zs[i] (List.mem_take_iff_getElem.2 ⟨i, by omega, rfl⟩)
      exact this
    have hrow : zs.take n ++ List.replicate (n - (zs.take n).length) 0 ++ zs.drop n = zs := by rw [htl]; simp
    rw [hk, hrow, htl]
    simp -implicitDefEqProofs [hg, b3, idxG, ints_iv, e, mapM1_nrm, mapM1_up, hn, hb]
  · have hin : i < n := by omega
    have hiz : i < zs.length := by omega
    rw [List.getElem_take] at hb2
    have hno' : ∀ (j : Nat) (h : j < zs.length), j < i → outS ⟨lo, hi⟩ zs[j] = false := fun j h hji => by
      have := hno j (by omega) hji
      rwa [List.getElem_take] at this
    have hrow0 : delRow ⟨lo, hi⟩ zs (i + 1) = zs := by
      have h1 := delRow_none (s := ⟨lo, hi⟩) (zs := zs) (j := i) (by omega) hno'
      unfold delRow at h1 ⊢
      rw [keepF_out hiz hb2]
      exact h1
    have hlen0 : (keepF ⟨lo, hi⟩ zs (i + 1)).length = i := by rw [keepF_out hiz hb2, keepF_none (by omega) hno']; simp; omega
    have w0 : IntKind.i64.wrap ((i : Int) + 1) = (i : Int) + 1 := wrap64 (by omega) (by omega)
    have e2 : ¬ ((i : Int) = -1) := by omega
    simp -implicitDefEqProofs [hg, b3, idxG, ints_iv, e, e2, w0, mapM1_nrm, mapM1_up, hn, hb]
    refine run_while (c := c153_22) (fun m s => ∃ (j : Nat) (g : Nat → Nat), j + m = n ∧ g 0 = 0 ∧ s = ⟨[(0, .own 0 0 0 n), (1, .clo 154 [.ipt 0 [.int .i64 lo, .int .i64 hi]]), (5, .int .i64 (keepF ⟨lo, hi⟩ zs j).length), (6, .int .i64 j)], [(0, ⟨iv (delRow ⟨lo, hi⟩ zs j), false, 1⟩)], g⟩) (n - (i + 1)) ⟨i + 1, g, by omega, hg, by simp [hrow0, hlen0]⟩ ?_
    rintro m s ⟨j, g, hj, hg, rfl⟩
    have hkl := keepF_le ⟨lo, hi⟩ zs j
    have hdl := delRow_len ⟨lo, hi⟩ zs (j := j) (by omega)
    by_cases h1 : j < n
    case pos =>
      have hjz : j < zs.length := by omega
      have w1 : IntKind.i64.wrap ((j : Int) + 1) = (j : Int) + 1 := wrap64 (by omega) (by omega)
      have w2 : IntKind.i64.wrap (((keepF ⟨lo, hi⟩ zs j).length : Int) + 1) = ((keepF ⟨lo, hi⟩ zs j).length : Int) + 1 := wrap64 (by omega) (by omega)
      have hget : (delRow ⟨lo, hi⟩ zs j)[j]'(by omega) = zs[j] := by
        have := delRow_get ⟨lo, hi⟩ zs hjz
        rw [List.getElem?_eq_getElem (by omega)] at this
        exact Option.some.inj this
      have hrow := rd_iv (delRow ⟨lo, hi⟩ zs j) j (by omega)
      rw [hget] at hrow
      have hR : outR zs[j] ⟨⟨lo, hi⟩⟩ = some (outS ⟨lo, hi⟩ zs[j]) := part_of trivial _
      cases hb3 : outS ⟨lo, hi⟩ zs[j]
      case true =>
        rw [hb3] at hR
        have hs : delRow ⟨lo, hi⟩ zs (j + 1) = delRow ⟨lo, hi⟩ zs j := by unfold delRow; rw [keepF_out hjz hb3]
        have hs2 := keepF_out hjz hb3
        simp -implicitDefEqProofs [h1, hg, b3, hrow, hR, w1]
        exact ⟨m - 1, by omega, j + 1, by omega, g, hg, ⟨by rw [hs2], by omega⟩, by rw [hs], rfl⟩
      case false =>
        rw [hb3] at hR
        have hwr := wr_iv (delRow ⟨lo, hi⟩ zs j) (keepF ⟨lo, hi⟩ zs j).length (by omega) zs[j]
        rw [← delRow_in hjz hb3] at hwr
        have hs2 : (keepF ⟨lo, hi⟩ zs (j + 1)).length = (keepF ⟨lo, hi⟩ zs j).length + 1 := by rw [keepF_in hjz hb3]; simp
        have k1 : (keepF ⟨lo, hi⟩ zs j).length < n := by omega
        have k2 : (keepF ⟨lo, hi⟩ zs j).length + 1 ≤ zs.length := by omega
        simp -implicitDefEqProofs [h1, hg, b3, hrow, hR, w1, w2, hwr, hdl, k1, k2]
        exact ⟨m - 1, by omega, j + 1, by omega, g, hg, ⟨by omega, by omega⟩, rfl, rfl⟩
    case neg =>
      have hjn : j = n := by omega
      subst hjn
      have k1 : (keepF ⟨lo, hi⟩ zs j).length ≤ j := hkl
      have hcl : wr (iv (delRow ⟨lo, hi⟩ zs j)) (keepF ⟨lo, hi⟩ zs j).length (List.replicate (j - (keepF ⟨lo, hi⟩ zs j).length) (AV.int .i64 0)) = iv (keepF ⟨lo, hi⟩ zs j ++ (List.replicate (j - (keepF ⟨lo, hi⟩ zs j).length) 0 ++ zs.drop j)) := by
        unfold delRow wr
        rw [iv_append, iv_append, iv_append, List.take_append_of_le_length (by simp), iv_take, List.append_assoc, List.drop_append]
        have e1 : iv (List.replicate (j - (keepF ⟨lo, hi⟩ zs j).length) 0) = List.replicate (j - (keepF ⟨lo, hi⟩ zs j).length) (AV.int .i64 0) := by simp [iv]
        have e2 : List.drop ((keepF ⟨lo, hi⟩ zs j).length + (List.replicate (j - (keepF ⟨lo, hi⟩ zs j).length) (AV.int IntKind.i64 0)).length) (iv (keepF ⟨lo, hi⟩ zs j)) = [] := List.drop_of_length_le (by simp)
        rw [e1, e2]
        simp only [List.nil_append, List.length_replicate, iv_len]
        congr 2
        unfold iv
        rw [← List.map_drop, List.drop_drop]
        congr 2
        omega
      simp -implicitDefEqProofs [h1, hg, b3, k1, hdl, hcl, hn, mapM1_nrm]
theorem c_delG : Contract Try.prog (gBase + 153) (gspec delG) :=
  gcontractN (C := tbl [(154, sp2 outR), (1000000 + 175, gspec idxG)]) mixed (tbl_cons c_Cuts1 (tbl_cons c_idxG tbl_nil)) Try.func153 m153 fun args h r h' hs => by
    unfold delG at hs
    split at hs
    · rename_i n lo hi k
      split at hs
      · rename_i hc
        obtain ⟨he, hf, hb⟩ := hc
        rw [Option.bind_eq_some_iff] at hs
        obtain ⟨zs, hz, hs⟩ := hs
        split at hs
        · rename_i hn
          simp only [Option.some.injEq, Prod.mk.injEq] at hs
          obtain ⟨rfl, rfl⟩ := hs
          obtain ⟨cs, fz, e⟩ := k
          simp only at he hf hz
          subst he hf
          rw [iv_of_ints hz]
          exact ⟨rfl, true, none, run_del n lo hi zs hn hb _ rfl⟩
        · cases hs
      · cases hs
    · cases hs
/-! ### cuts -/
def cutsL (m : Model) (q : Query) (b : Box) (place : Int) : List Int := if featOf q place < 0 then [] else (thrL m (featOf q place)).filter fun t => !outS (b.get place) t
noncomputable def CutsC (m : Model) (q : Query) (b : Box) (place : Int) : Option (List Int) := Part (RM m ∧ (featOf q place < 0 ∨ 0 ≤ place ∧ place ≤ 4)) (cutsL m q b place)
set_option maxHeartbeats 1000000 in
set_option maxRecDepth 8000 in
theorem runs_Cuts (m : Model) (q : Query) (b : Box) (place : Int) (r : List Int) (h : CutsC m q b place = some r) : Runs (tbl [(152, sp2 FeatC), (1000000 + 96, gspec thrG), (1000000 + 153, gspec delG)]) a102 [Arg.enc m, Arg.enc q, Arg.enc b, Arg.enc place] (Arg.enc r) := by
  obtain ⟨⟨hm, hp⟩, rfl⟩ := part_some h
  clear h
  refine ⟨rfl, fun g => run_def ?_⟩
  unfold a102 cutsL
  have hF : FeatC q place = some (featOf q place) := part_of trivial _
  generalize featOf q place = ft at *
  by_cases hf : ft < 0
  · rw [if_pos hf]
    simp -implicitDefEqProofs [hF, hf, encL_nil]
  rw [if_neg hf]
  have hp' : 0 ≤ place ∧ place ≤ 4 := by rcases hp with h | h; exact absurd h hf; exact h
  have hl := thr_len m ft
  have hlr := thrRow_len m ft
  have hrl : (rawM m.trees ft).length ≤ 31 * 8 := by
    have h1 := rawM_len (j := ft) (l := m.trees) fun t ht => (hm.tree t ht).2.2.le
    have h2 := hm.trees
    omega
  have k1 : (thrL m ft).length ≤ (thrRow m ft).length := by omega
  have k2 : (thrL m ft).length ≤ 1099511627776 := by omega
  have htk : List.take (thrL m ft).length (thrRow m ft) = thrL m ft := by unfold thrRow; simp
  have hp5 : place = 0 ∨ place = 1 ∨ place = 2 ∨ place = 3 ∨ place = 4 := by omega
  have hfin : ∀ (s : Span) (X : List Int), List.take ((thrL m ft).filter fun t => !outS s t).length (iv (((thrL m ft).filter fun t => !outS s t) ++ X)) = encL ((thrL m ft).filter fun t => !outS s t) := fun s X => by
    rw [iv_append, List.take_append_of_le_length (by simp), iv_take, iv_enc]
  rcases hp5 with rfl | rfl | rfl | rfl | rfl <;> simp -implicitDefEqProofs [hF, hf, thrG, hm, delG, ints_iv, mapM1_nrm, mapM1_up, k1, k2, htk, hfin, Box.get]
theorem c_Cuts : Contract Try.prog 102 (sp4 CutsC) :=
  contract_of_runs (C := tbl [(152, sp2 FeatC), (1000000 + 96, gspec thrG), (1000000 + 153, gspec delG)]) mixed (tbl_cons c_feature (tbl_cons c_ThrG (tbl_cons c_delG tbl_nil))) Try.func102 m102 (sp4_runs runs_Cuts)
end Go.Co
