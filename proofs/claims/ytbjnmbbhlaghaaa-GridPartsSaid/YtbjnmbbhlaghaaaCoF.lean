/- CO: values, sums. -/
import Derived.Test.YtbjnmbbhlaghaaaCoE
namespace Go.Co
open Go.Am Go.Proofs
set_option linter.unusedSimpArgs false
set_option linter.unusedVariables false
def c148_0 : ACode := .ops [⟨some 3, .box (.t 1) 4, none, []⟩,
  ⟨some 4, .mv (.c (.int .i64 0)), none, []⟩,
  ⟨some 5, .alloc [.bool false, .int .i64 0, .int .i64 0, .int .i64 0, .int .i64 0, .int .i64 0], none, []⟩] [0, 3, 5]
theorem r148_0 : type_of% (@rr _ _ c148_0.eq_1) := rr c148_0.eq_1
def c148_1 : ACode := .ops [⟨some 6, .mv (.c (.int .i64 0)), none, []⟩] [0, 3, 5, 6]
theorem r148_1 : type_of% (@rr _ _ c148_1.eq_1) := rr c148_1.eq_1
def c148_2 : ACode := .ops [⟨some 9, .mv (.c (.int .i64 0)), none, []⟩] [0, 3, 5, 6, 9]
theorem r148_2 : type_of% (@rr _ _ c148_2.eq_1) := rr c148_2.eq_1
def c148_3 : ACode := .ops [⟨some 10, .bin .lss (.t 9) (.c (.int .i64 31)), none, []⟩] [0, 3, 5, 6, 9, 10]
theorem r148_3 : type_of% (@rr _ _ c148_3.eq_1) := rr c148_3.eq_1
def c148_4 : ACode := .cond (.t 10) .skip (.exit 0)
theorem r148_4 : type_of% (@rr _ _ c148_4.eq_1) := rr c148_4.eq_1
def c148_5 : ACode := .ops [⟨some 11, .mv (.t 6), none, []⟩,
  ⟨some 12, .mv (.t 0), none, []⟩,
  ⟨some 13, .len (.t 12), none, []⟩,
  ⟨some 14, .bin .geq (.t 11) (.t 13), none, []⟩] [0, 3, 5, 6, 9, 14]
theorem r148_5 : type_of% (@rr _ _ c148_5.eq_1) := rr c148_5.eq_1
def c148_6 : ACode := .cond (.t 14) (.exit 0) .skip
theorem r148_6 : type_of% (@rr _ _ c148_6.eq_1) := rr c148_6.eq_1
def c148_7 : ACode := .seq c148_5 c148_6
theorem r148_7 : type_of% (@rr _ _ c148_7.eq_1) := rr c148_7.eq_1
def c148_8 : ACode := .ops [⟨some 16, .mv (.t 0), none, []⟩,
  ⟨some 17, .mv (.t 6), none, []⟩,
  ⟨some 18, .ias (.t 16) (.t 17) 1, none, []⟩,
  ⟨some 19, .load 1 false (.t 18), none, []⟩,
  ⟨some 20, .call 77 [.t 19], none, []⟩,
  ⟨some 15, .mv (.t 20), none, []⟩,
  ⟨some 21, .ext (.t 15) 0, none, []⟩,
  ⟨some 22, .ext (.t 15) 1, none, []⟩,
  ⟨some 7, .alloc [.bool false, .int .i64 0, .int .i64 0, .int .i64 0, .int .i64 0, .int .i64 0], none, []⟩,
  ⟨none, .store (.t 7) 6 (.t 21), none, [7]⟩,
  ⟨some 8, .mv (.t 22), none, []⟩] [0, 3, 5, 6, 7, 8, 9]
theorem r148_8 : type_of% (@rr _ _ c148_8.eq_1) := rr c148_8.eq_1
def c148_9 : ACode := .ops [⟨some 26, .mv (.t 8), none, []⟩,
  ⟨some 27, .un .not (.t 26), none, []⟩,
  ⟨some 25, .mv (.t 27), none, []⟩] [0, 3, 5, 6, 7, 9, 25]
theorem r148_9 : type_of% (@rr _ _ c148_9.eq_1) := rr c148_9.eq_1
def c148_10 : ACode := .ops [⟨some 28, .build [.bool false, .int .i64 0, .int .i64 0, .int .i64 0, .int .i64 0, .int .i64 0] [], none, []⟩,
  ⟨some 4, .mv (.c (.int .i64 (-1))), none, []⟩,
  ⟨none, .store (.t 5) 6 (.t 28), none, [5]⟩] [4, 5]
theorem r148_10 : type_of% (@rr _ _ c148_10.eq_1) := rr c148_10.eq_1
def c148_11 : ACode := .seq c148_10 .ret
theorem r148_11 : type_of% (@rr _ _ c148_11.eq_1) := rr c148_11.eq_1
def c148_12 : ACode := .ops [⟨some 30, .fad (.t 7) 0, none, [7]⟩,
  ⟨some 31, .load 1 false (.t 30), none, [7]⟩,
  ⟨some 29, .mv (.t 31), none, []⟩] [0, 3, 5, 6, 7, 9, 29]
theorem r148_12 : type_of% (@rr _ _ c148_12.eq_1) := rr c148_12.eq_1
def c148_13 : ACode := .ops [⟨some 32, .mv (.t 6), none, []⟩,
  ⟨some 33, .load 6 true (.t 7), none, [7]⟩,
  ⟨some 4, .mv (.t 32), none, []⟩,
  ⟨none, .store (.t 5) 6 (.t 33), none, [5]⟩] [4, 5]
theorem r148_13 : type_of% (@rr _ _ c148_13.eq_1) := rr c148_13.eq_1
def c148_14 : ACode := .seq c148_13 .ret
theorem r148_14 : type_of% (@rr _ _ c148_14.eq_1) := rr c148_14.eq_1
def c148_15 : ACode := .ops [⟨some 35, .fad (.t 7) 2, none, [7]⟩,
  ⟨some 36, .load 1 false (.t 35), none, [7]⟩,
  ⟨some 37, .iad (.t 3) (.t 36) 1 4, none, [3]⟩,
  ⟨some 38, .load 1 false (.t 37), none, [3]⟩,
  ⟨some 39, .fad (.t 7) 3, none, [7]⟩,
  ⟨some 40, .load 1 false (.t 39), none, [7]⟩,
  ⟨some 41, .bin .leq (.t 38) (.t 40), none, []⟩,
  ⟨some 34, .mv (.t 41), none, []⟩] [0, 3, 5, 7, 9, 34]
theorem r148_15 : type_of% (@rr _ _ c148_15.eq_1) := rr c148_15.eq_1
def c148_16 : ACode := .ops [⟨some 42, .fad (.t 7) 4, none, [7]⟩,
  ⟨some 43, .load 1 false (.t 42), none, [7]⟩,
  ⟨some 6, .mv (.t 43), none, []⟩] [0, 3, 5, 6, 9]
theorem r148_16 : type_of% (@rr _ _ c148_16.eq_1) := rr c148_16.eq_1
def c148_17 : ACode := .ops [⟨some 23, .fad (.t 7) 5, none, [7]⟩,
  ⟨some 24, .load 1 false (.t 23), none, [7]⟩,
  ⟨some 6, .mv (.t 24), none, []⟩] [0, 3, 5, 6, 9]
theorem r148_17 : type_of% (@rr _ _ c148_17.eq_1) := rr c148_17.eq_1
def c148_18 : ACode := .cond (.t 34) c148_16 c148_17
theorem r148_18 : type_of% (@rr _ _ c148_18.eq_1) := rr c148_18.eq_1
def c148_19 : ACode := .seq c148_15 c148_18
theorem r148_19 : type_of% (@rr _ _ c148_19.eq_1) := rr c148_19.eq_1
def c148_20 : ACode := .cond (.t 29) c148_14 c148_19
theorem r148_20 : type_of% (@rr _ _ c148_20.eq_1) := rr c148_20.eq_1
def c148_21 : ACode := .seq c148_12 c148_20
theorem r148_21 : type_of% (@rr _ _ c148_21.eq_1) := rr c148_21.eq_1
def c148_22 : ACode := .cond (.t 25) c148_11 c148_21
theorem r148_22 : type_of% (@rr _ _ c148_22.eq_1) := rr c148_22.eq_1
def c148_23 : ACode := .seq c148_9 c148_22
theorem r148_23 : type_of% (@rr _ _ c148_23.eq_1) := rr c148_23.eq_1
def c148_24 : ACode := .block 2 c148_23
theorem r148_24 : type_of% (@rr _ _ c148_24.eq_1) := rr c148_24.eq_1
def c148_25 : ACode := .seq c148_8 c148_24
theorem r148_25 : type_of% (@rr _ _ c148_25.eq_1) := rr c148_25.eq_1
def c148_26 : ACode := .seq c148_7 c148_25
theorem r148_26 : type_of% (@rr _ _ c148_26.eq_1) := rr c148_26.eq_1
def c148_27 : ACode := .block 1 c148_26
theorem r148_27 : type_of% (@rr _ _ c148_27.eq_1) := rr c148_27.eq_1
def c148_28 : ACode := .ops [⟨some 44, .bin .add (.t 9) (.c (.int .i64 1)), none, []⟩,
  ⟨some 9, .mv (.t 44), none, []⟩] [0, 3, 5, 6, 9]
theorem r148_28 : type_of% (@rr _ _ c148_28.eq_1) := rr c148_28.eq_1
def c148_29 : ACode := .seq c148_27 c148_28
theorem r148_29 : type_of% (@rr _ _ c148_29.eq_1) := rr c148_29.eq_1
def c148_30 : ACode := .seq c148_4 c148_29
theorem r148_30 : type_of% (@rr _ _ c148_30.eq_1) := rr c148_30.eq_1
def c148_31 : ACode := .seq c148_3 c148_30
theorem r148_31 : type_of% (@rr _ _ c148_31.eq_1) := rr c148_31.eq_1
def c148_32 : ACode := .keep [0, 3, 5, 6, 9] [3, 5] c148_31
theorem r148_32 : type_of% (@rr _ _ c148_32.eq_1) := rr c148_32.eq_1
def c148_33 : ACode := .loop c148_32
theorem r148_33 : type_of% (@rr _ _ c148_33.eq_1) := rr c148_33.eq_1
def c148_34 : ACode := .block 0 c148_33
theorem r148_34 : type_of% (@rr _ _ c148_34.eq_1) := rr c148_34.eq_1
def c148_35 : ACode := .seq c148_2 c148_34
theorem r148_35 : type_of% (@rr _ _ c148_35.eq_1) := rr c148_35.eq_1
def c148_36 : ACode := .ops [⟨some 45, .build [.bool false, .int .i64 0, .int .i64 0, .int .i64 0, .int .i64 0, .int .i64 0] [], none, []⟩,
  ⟨some 4, .mv (.c (.int .i64 (-1))), none, []⟩,
  ⟨none, .store (.t 5) 6 (.t 45), none, [5]⟩] [4, 5]
theorem r148_36 : type_of% (@rr _ _ c148_36.eq_1) := rr c148_36.eq_1
def c148_37 : ACode := .seq c148_36 .ret
theorem r148_37 : type_of% (@rr _ _ c148_37.eq_1) := rr c148_37.eq_1
def c148_38 : ACode := .seq c148_35 c148_37
theorem r148_38 : type_of% (@rr _ _ c148_38.eq_1) := rr c148_38.eq_1
def c148_39 : ACode := .seq c148_1 c148_38
theorem r148_39 : type_of% (@rr _ _ c148_39.eq_1) := rr c148_39.eq_1
def c148_40 : ACode := .seq c148_0 c148_39
theorem r148_40 : type_of% (@rr _ _ c148_40.eq_1) := rr c148_40.eq_1
def a148 : AFun := ⟨2, 46, c148_40, [.t 4, .cell 5 6 true]⟩
attribute [simp] r148_0 r148_1 r148_2 r148_3 r148_4 r148_5 r148_6 r148_7 r148_8 r148_9 r148_10 r148_11 r148_12 r148_13 r148_14 r148_15 r148_16 r148_17 r148_18 r148_19 r148_20 r148_21 r148_22 r148_23 r148_24 r148_25 r148_26 r148_27 r148_28 r148_29 r148_30 r148_31 r148_32 r148_33 r148_34 r148_35 r148_36 r148_37 r148_38 r148_39 r148_40
theorem m148 : mFun Try.prog Try.f148 a148 = true := by decide +kernel
def c99_0 : ACode := .ops [⟨some 3, .box (.t 1) 4, none, []⟩,
  ⟨some 4, .mv (.c (.int .i64 0)), none, []⟩] [0, 3]
theorem r99_0 : type_of% (@rr _ _ c99_0.eq_1) := rr c99_0.eq_1
def c99_1 : ACode := .ops [⟨some 8, .mv (.t 0), none, []⟩,
  ⟨some 9, .load 4 true (.t 3), none, [3]⟩,
  ⟨some 10, .call 148 [.t 8, .t 9], none, []⟩,
  ⟨some 7, .mv (.t 10), none, []⟩,
  ⟨some 11, .ext (.t 7) 0, none, []⟩,
  ⟨some 12, .ext (.t 7) 1, none, []⟩,
  ⟨some 6, .alloc [.bool false, .int .i64 0, .int .i64 0, .int .i64 0, .int .i64 0, .int .i64 0], none, []⟩,
  ⟨some 5, .mv (.t 11), none, []⟩,
  ⟨none, .store (.t 6) 6 (.t 12), none, [6]⟩] [6]
theorem r99_1 : type_of% (@rr _ _ c99_1.eq_1) := rr c99_1.eq_1
def c99_2 : ACode := .ops [⟨some 13, .fad (.t 6) 1, none, [6]⟩,
  ⟨some 14, .load 1 false (.t 13), none, [6]⟩,
  ⟨some 4, .mv (.t 14), none, []⟩] [4]
theorem r99_2 : type_of% (@rr _ _ c99_2.eq_1) := rr c99_2.eq_1
def c99_3 : ACode := .seq c99_2 .ret
theorem r99_3 : type_of% (@rr _ _ c99_3.eq_1) := rr c99_3.eq_1
def c99_4 : ACode := .seq c99_1 c99_3
theorem r99_4 : type_of% (@rr _ _ c99_4.eq_1) := rr c99_4.eq_1
def c99_5 : ACode := .seq c99_0 c99_4
theorem r99_5 : type_of% (@rr _ _ c99_5.eq_1) := rr c99_5.eq_1
def a99 : AFun := ⟨2, 15, c99_5, [.t 4]⟩
attribute [simp] r99_0 r99_1 r99_2 r99_3 r99_4 r99_5
theorem m99 : mFun Try.prog Try.f99 a99 = true := by decide +kernel
def c122_0 : ACode := .ops [⟨some 3, .box (.t 0) 6, none, []⟩,
  ⟨some 5, .box (.t 2) 4, none, []⟩,
  ⟨some 6, .mv (.c (.int .i64 0)), none, []⟩] [1, 3, 5]
theorem r122_0 : type_of% (@rr _ _ c122_0.eq_1) := rr c122_0.eq_1
def c122_1 : ACode := .ops [⟨some 10, .mv (.t 1), none, []⟩,
  ⟨some 11, .fad (.t 3) 2, none, [3]⟩,
  ⟨some 12, .iad (.t 11) (.t 10) 1 3, none, [3]⟩,
  ⟨some 13, .load 1 false (.t 12), none, [3]⟩,
  ⟨some 7, .mv (.t 13), none, []⟩] [1, 3, 5, 7]
theorem r122_1 : type_of% (@rr _ _ c122_1.eq_1) := rr c122_1.eq_1
def c122_2 : ACode := .ops [⟨some 14, .fad (.t 3) 5, none, [3]⟩,
  ⟨some 15, .load 1 false (.t 14), none, [3]⟩,
  ⟨some 16, .len (.t 15), none, []⟩,
  ⟨some 17, .mv (.c (.int .i64 0)), none, []⟩] [1, 5, 7, 15, 16, 17]
theorem r122_2 : type_of% (@rr _ _ c122_2.eq_1) := rr c122_2.eq_1
def c122_3 : ACode := .ops [⟨some 18, .bin .lss (.t 17) (.t 16), none, []⟩] [1, 5, 7, 15, 16, 17, 18]
theorem r122_3 : type_of% (@rr _ _ c122_3.eq_1) := rr c122_3.eq_1
def c122_4 : ACode := .cond (.t 18) .skip (.exit 0)
theorem r122_4 : type_of% (@rr _ _ c122_4.eq_1) := rr c122_4.eq_1
def c122_5 : ACode := .ops [⟨some 19, .ias (.t 15) (.t 17) 2, none, []⟩,
  ⟨some 20, .load 2 true (.t 19), none, []⟩,
  ⟨some 9, .alloc [.int .i64 0, .nils], none, []⟩,
  ⟨none, .store (.t 9) 2 (.t 20), none, [9]⟩] [1, 5, 7, 9, 15, 16, 17]
theorem r122_5 : type_of% (@rr _ _ c122_5.eq_1) := rr c122_5.eq_1
def c122_6 : ACode := .ops [⟨some 21, .fad (.t 9) 0, none, [9]⟩,
  ⟨some 22, .load 1 false (.t 21), none, [9]⟩,
  ⟨some 23, .mv (.t 1), none, []⟩,
  ⟨some 24, .bin .eql (.t 22) (.t 23), none, []⟩] [1, 5, 7, 9, 15, 16, 17, 24]
theorem r122_6 : type_of% (@rr _ _ c122_6.eq_1) := rr c122_6.eq_1
def c122_7 : ACode := .ops [⟨some 25, .mv (.t 7), none, []⟩,
  ⟨some 26, .fad (.t 9) 1, none, [9]⟩,
  ⟨some 27, .load 1 false (.t 26), none, [9]⟩,
  ⟨some 28, .load 4 true (.t 5), none, [5]⟩,
  ⟨some 29, .call 99 [.t 27, .t 28], none, []⟩,
  ⟨some 30, .bin .add (.t 25) (.t 29), none, []⟩,
  ⟨some 7, .mv (.t 30), none, []⟩] [1, 5, 7, 15, 16, 17]
theorem r122_7 : type_of% (@rr _ _ c122_7.eq_1) := rr c122_7.eq_1
def c122_8 : ACode := .cond (.t 24) c122_7 .skip
theorem r122_8 : type_of% (@rr _ _ c122_8.eq_1) := rr c122_8.eq_1
def c122_9 : ACode := .seq c122_6 c122_8
theorem r122_9 : type_of% (@rr _ _ c122_9.eq_1) := rr c122_9.eq_1
def c122_10 : ACode := .seq c122_5 c122_9
theorem r122_10 : type_of% (@rr _ _ c122_10.eq_1) := rr c122_10.eq_1
def c122_11 : ACode := .block 1 c122_10
theorem r122_11 : type_of% (@rr _ _ c122_11.eq_1) := rr c122_11.eq_1
def c122_12 : ACode := .ops [⟨some 31, .bin .add (.t 17) (.c (.int .i64 1)), none, []⟩,
  ⟨some 17, .mv (.t 31), none, []⟩] [1, 5, 7, 15, 16, 17]
theorem r122_12 : type_of% (@rr _ _ c122_12.eq_1) := rr c122_12.eq_1
def c122_13 : ACode := .seq c122_11 c122_12
theorem r122_13 : type_of% (@rr _ _ c122_13.eq_1) := rr c122_13.eq_1
def c122_14 : ACode := .seq c122_4 c122_13
theorem r122_14 : type_of% (@rr _ _ c122_14.eq_1) := rr c122_14.eq_1
def c122_15 : ACode := .seq c122_3 c122_14
theorem r122_15 : type_of% (@rr _ _ c122_15.eq_1) := rr c122_15.eq_1
def c122_16 : ACode := .keep [1, 5, 7, 15, 16, 17] [5] c122_15
theorem r122_16 : type_of% (@rr _ _ c122_16.eq_1) := rr c122_16.eq_1
def c122_17 : ACode := .loop c122_16
theorem r122_17 : type_of% (@rr _ _ c122_17.eq_1) := rr c122_17.eq_1
def c122_18 : ACode := .block 0 c122_17
theorem r122_18 : type_of% (@rr _ _ c122_18.eq_1) := rr c122_18.eq_1
def c122_19 : ACode := .seq c122_2 c122_18
theorem r122_19 : type_of% (@rr _ _ c122_19.eq_1) := rr c122_19.eq_1
def c122_20 : ACode := .ops [⟨some 32, .mv (.t 7), none, []⟩,
  ⟨some 6, .mv (.t 32), none, []⟩] [6]
theorem r122_20 : type_of% (@rr _ _ c122_20.eq_1) := rr c122_20.eq_1
def c122_21 : ACode := .seq c122_20 .ret
theorem r122_21 : type_of% (@rr _ _ c122_21.eq_1) := rr c122_21.eq_1
def c122_22 : ACode := .seq c122_19 c122_21
theorem r122_22 : type_of% (@rr _ _ c122_22.eq_1) := rr c122_22.eq_1
def c122_23 : ACode := .seq c122_1 c122_22
theorem r122_23 : type_of% (@rr _ _ c122_23.eq_1) := rr c122_23.eq_1
def c122_24 : ACode := .seq c122_0 c122_23
theorem r122_24 : type_of% (@rr _ _ c122_24.eq_1) := rr c122_24.eq_1
def a122 : AFun := ⟨3, 33, c122_24, [.t 6]⟩
attribute [simp] r122_0 r122_1 r122_2 r122_3 r122_4 r122_5 r122_6 r122_7 r122_8 r122_9 r122_10 r122_11 r122_12 r122_13 r122_14 r122_15 r122_16 r122_17 r122_18 r122_19 r122_20 r122_21 r122_22 r122_23 r122_24
theorem m122 : mFun Try.prog Try.f122 a122 = true := by decide +kernel
def c69_0 : ACode := .ops [⟨some 3, .box (.t 0) 6, none, []⟩,
  ⟨some 5, .box (.t 2) 4, none, []⟩,
  ⟨some 6, .mv (.c (.int .i64 0)), none, []⟩] [1, 3, 5]
theorem r69_0 : type_of% (@rr _ _ c69_0.eq_1) := rr c69_0.eq_1
def c69_1 : ACode := .ops [⟨some 7, .load 6 true (.t 3), none, [3]⟩,
  ⟨some 8, .call 71 [.t 7], none, []⟩,
  ⟨some 9, .un .not (.t 8), none, []⟩,
  ⟨some 10, .mv (.t 9), none, []⟩,
  ⟨some 11, .mv (.t 1), some (10, false), []⟩,
  ⟨some 12, .bin .lss (.t 11) (.c (.int .i64 0)), some (10, false), []⟩,
  ⟨some 13, .pick (.t 10) (.c (.bool true)) (.t 12), none, []⟩,
  ⟨some 14, .mv (.t 13), none, []⟩,
  ⟨some 15, .mv (.t 1), some (14, false), []⟩,
  ⟨some 16, .fad (.t 3) 1, some (14, false), [3]⟩,
  ⟨some 17, .load 1 false (.t 16), some (14, false), [3]⟩,
  ⟨some 18, .bin .geq (.t 15) (.t 17), some (14, false), []⟩,
  ⟨some 19, .pick (.t 14) (.c (.bool true)) (.t 18), none, []⟩] [1, 3, 5, 19]
theorem r69_1 : type_of% (@rr _ _ c69_1.eq_1) := rr c69_1.eq_1
def c69_2 : ACode := .ops [⟨some 6, .mv (.c (.int .i64 0)), none, []⟩] [6]
theorem r69_2 : type_of% (@rr _ _ c69_2.eq_1) := rr c69_2.eq_1
def c69_3 : ACode := .seq c69_2 .ret
theorem r69_3 : type_of% (@rr _ _ c69_3.eq_1) := rr c69_3.eq_1
def c69_4 : ACode := .cond (.t 19) c69_3 .skip
theorem r69_4 : type_of% (@rr _ _ c69_4.eq_1) := rr c69_4.eq_1
def c69_5 : ACode := .seq c69_1 c69_4
theorem r69_5 : type_of% (@rr _ _ c69_5.eq_1) := rr c69_5.eq_1
def c69_6 : ACode := .ops [⟨some 20, .load 6 true (.t 3), none, [3]⟩,
  ⟨some 21, .mv (.t 1), none, []⟩,
  ⟨some 22, .load 4 true (.t 5), none, [5]⟩,
  ⟨some 23, .call 122 [.t 20, .t 21, .t 22], none, []⟩,
  ⟨some 6, .mv (.t 23), none, []⟩] [6]
theorem r69_6 : type_of% (@rr _ _ c69_6.eq_1) := rr c69_6.eq_1
def c69_7 : ACode := .seq c69_6 .ret
theorem r69_7 : type_of% (@rr _ _ c69_7.eq_1) := rr c69_7.eq_1
def c69_8 : ACode := .seq c69_5 c69_7
theorem r69_8 : type_of% (@rr _ _ c69_8.eq_1) := rr c69_8.eq_1
def c69_9 : ACode := .seq c69_0 c69_8
theorem r69_9 : type_of% (@rr _ _ c69_9.eq_1) := rr c69_9.eq_1
def a69 : AFun := ⟨3, 24, c69_9, [.t 6]⟩
attribute [simp] r69_0 r69_1 r69_2 r69_3 r69_4 r69_5 r69_6 r69_7 r69_8 r69_9
theorem m69 : mFun Try.prog Try.f69 a69 = true := by decide +kernel
def c125_0 : ACode := .ops [⟨some 2, .box (.t 0) 2, none, []⟩,
  ⟨some 3, .mv (.c (.bool false)), none, []⟩] [1, 2]
theorem r125_0 : type_of% (@rr _ _ c125_0.eq_1) := rr c125_0.eq_1
def c125_1 : ACode := .ops [⟨some 4, .fad (.t 2) 0, none, [2]⟩,
  ⟨some 5, .load 1 false (.t 4), none, [2]⟩,
  ⟨some 6, .bin .lss (.t 5) (.c (.int .i64 0)), none, []⟩,
  ⟨some 7, .mv (.t 6), none, []⟩,
  ⟨some 8, .fad (.t 2) 0, some (7, false), [2]⟩,
  ⟨some 9, .load 1 false (.t 8), some (7, false), [2]⟩,
  ⟨some 10, .fad (.t 1) 1, some (7, false), []⟩,
  ⟨some 11, .load 1 false (.t 10), some (7, false), []⟩,
  ⟨some 12, .bin .geq (.t 9) (.t 11), some (7, false), []⟩,
  ⟨some 13, .pick (.t 7) (.c (.bool true)) (.t 12), none, []⟩,
  ⟨some 14, .mv (.t 13), none, []⟩,
  ⟨some 15, .fad (.t 2) 1, some (14, false), [2]⟩,
  ⟨some 16, .load 1 false (.t 15), some (14, false), [2]⟩,
  ⟨some 17, .fad (.t 1) 0, some (14, false), []⟩,
  ⟨some 18, .load 1 false (.t 17), some (14, false), []⟩,
  ⟨some 19, .call 76 [.t 16, .t 18], some (14, false), []⟩,
  ⟨some 20, .un .not (.t 19), some (14, false), []⟩,
  ⟨some 21, .pick (.t 14) (.c (.bool true)) (.t 20), none, []⟩,
  ⟨some 3, .mv (.t 21), none, []⟩] [3]
theorem r125_1 : type_of% (@rr _ _ c125_1.eq_1) := rr c125_1.eq_1
def c125_2 : ACode := .seq c125_1 .ret
theorem r125_2 : type_of% (@rr _ _ c125_2.eq_1) := rr c125_2.eq_1
def c125_3 : ACode := .seq c125_0 c125_2
theorem r125_3 : type_of% (@rr _ _ c125_3.eq_1) := rr c125_3.eq_1
def a125 : AFun := ⟨2, 22, c125_3, [.t 3]⟩
attribute [simp] r125_0 r125_1 r125_2 r125_3
theorem m125 : mFun Try.prog Try.f125 a125 = true := by decide +kernel
def c160_0 : ACode := .ops [⟨some 4, .mv (.c (.int .i64 0)), none, []⟩] [0, 1]
theorem r160_0 : type_of% (@rr _ _ c160_0.eq_1) := rr c160_0.eq_1
def c160_1 : ACode := .ops [⟨some 6, .mv (.t 0), none, []⟩,
  ⟨some 7, .len (.t 6), none, []⟩,
  ⟨some 8, .mv (.c (.int .i64 0)), none, []⟩] [0, 1, 7, 8]
theorem r160_1 : type_of% (@rr _ _ c160_1.eq_1) := rr c160_1.eq_1
def c160_2 : ACode := .ops [⟨some 9, .bin .lss (.t 8) (.t 7), none, []⟩] [0, 1, 7, 8, 9]
theorem r160_2 : type_of% (@rr _ _ c160_2.eq_1) := rr c160_2.eq_1
def c160_3 : ACode := .cond (.t 9) .skip (.exit 0)
theorem r160_3 : type_of% (@rr _ _ c160_3.eq_1) := rr c160_3.eq_1
def c160_4 : ACode := .ops [⟨some 10, .mv (.t 8), none, []⟩,
  ⟨some 5, .mv (.t 10), none, []⟩] [0, 1, 5, 7, 8]
theorem r160_4 : type_of% (@rr _ _ c160_4.eq_1) := rr c160_4.eq_1
def c160_5 : ACode := .ops [⟨some 11, .mv (.t 1), none, []⟩,
  ⟨some 12, .mv (.t 0), none, []⟩,
  ⟨some 13, .mv (.t 5), none, []⟩,
  ⟨some 14, .ias (.t 12) (.t 13) 2, none, []⟩,
  ⟨some 15, .load 2 true (.t 14), none, []⟩,
  ⟨some 16, .dyn (.t 11) [.t 15], none, []⟩] [0, 1, 5, 7, 8, 16]
theorem r160_5 : type_of% (@rr _ _ c160_5.eq_1) := rr c160_5.eq_1
def c160_6 : ACode := .ops [⟨some 17, .mv (.t 5), none, []⟩,
  ⟨some 4, .mv (.t 17), none, []⟩] [4]
theorem r160_6 : type_of% (@rr _ _ c160_6.eq_1) := rr c160_6.eq_1
def c160_7 : ACode := .seq c160_6 .ret
theorem r160_7 : type_of% (@rr _ _ c160_7.eq_1) := rr c160_7.eq_1
def c160_8 : ACode := .cond (.t 16) c160_7 .skip
theorem r160_8 : type_of% (@rr _ _ c160_8.eq_1) := rr c160_8.eq_1
def c160_9 : ACode := .seq c160_5 c160_8
theorem r160_9 : type_of% (@rr _ _ c160_9.eq_1) := rr c160_9.eq_1
def c160_10 : ACode := .seq c160_4 c160_9
theorem r160_10 : type_of% (@rr _ _ c160_10.eq_1) := rr c160_10.eq_1
def c160_11 : ACode := .block 1 c160_10
theorem r160_11 : type_of% (@rr _ _ c160_11.eq_1) := rr c160_11.eq_1
def c160_12 : ACode := .ops [⟨some 18, .bin .add (.t 8) (.c (.int .i64 1)), none, []⟩,
  ⟨some 8, .mv (.t 18), none, []⟩] [0, 1, 7, 8]
theorem r160_12 : type_of% (@rr _ _ c160_12.eq_1) := rr c160_12.eq_1
def c160_13 : ACode := .seq c160_11 c160_12
theorem r160_13 : type_of% (@rr _ _ c160_13.eq_1) := rr c160_13.eq_1
def c160_14 : ACode := .seq c160_3 c160_13
theorem r160_14 : type_of% (@rr _ _ c160_14.eq_1) := rr c160_14.eq_1
def c160_15 : ACode := .seq c160_2 c160_14
theorem r160_15 : type_of% (@rr _ _ c160_15.eq_1) := rr c160_15.eq_1
def c160_16 : ACode := .keep [0, 1, 7, 8] [] c160_15
theorem r160_16 : type_of% (@rr _ _ c160_16.eq_1) := rr c160_16.eq_1
def c160_17 : ACode := .loop c160_16
theorem r160_17 : type_of% (@rr _ _ c160_17.eq_1) := rr c160_17.eq_1
def c160_18 : ACode := .block 0 c160_17
theorem r160_18 : type_of% (@rr _ _ c160_18.eq_1) := rr c160_18.eq_1
def c160_19 : ACode := .seq c160_1 c160_18
theorem r160_19 : type_of% (@rr _ _ c160_19.eq_1) := rr c160_19.eq_1
def c160_20 : ACode := .ops [⟨some 4, .mv (.c (.int .i64 (-1))), none, []⟩] [4]
theorem r160_20 : type_of% (@rr _ _ c160_20.eq_1) := rr c160_20.eq_1
def c160_21 : ACode := .seq c160_20 .ret
theorem r160_21 : type_of% (@rr _ _ c160_21.eq_1) := rr c160_21.eq_1
def c160_22 : ACode := .seq c160_19 c160_21
theorem r160_22 : type_of% (@rr _ _ c160_22.eq_1) := rr c160_22.eq_1
def c160_23 : ACode := .seq c160_0 c160_22
theorem r160_23 : type_of% (@rr _ _ c160_23.eq_1) := rr c160_23.eq_1
def a160 : AFun := ⟨2, 19, c160_23, [.t 4]⟩
attribute [simp] r160_0 r160_1 r160_2 r160_3 r160_4 r160_5 r160_6 r160_7 r160_8 r160_9 r160_10 r160_11 r160_12 r160_13 r160_14 r160_15 r160_16 r160_17 r160_18 r160_19 r160_20 r160_21 r160_22 r160_23
theorem m160 : mFun Try.prog Try.f160 a160 = true := by decide +kernel
def c124_0 : ACode := .ops [⟨some 4, .mv (.c (.bool false)), none, []⟩] [0, 1]
theorem r124_0 : type_of% (@rr _ _ c124_0.eq_1) := rr c124_0.eq_1
def c124_1 : ACode := .ops [⟨some 5, .mv (.t 0), none, []⟩,
  ⟨some 6, .mv (.t 1), none, []⟩,
  ⟨some 7, .call 160 [.t 5, .t 6], none, []⟩,
  ⟨some 8, .bin .geq (.t 7) (.c (.int .i64 0)), none, []⟩,
  ⟨some 4, .mv (.t 8), none, []⟩] [4]
theorem r124_1 : type_of% (@rr _ _ c124_1.eq_1) := rr c124_1.eq_1
def c124_2 : ACode := .seq c124_1 .ret
theorem r124_2 : type_of% (@rr _ _ c124_2.eq_1) := rr c124_2.eq_1
def c124_3 : ACode := .seq c124_0 c124_2
theorem r124_3 : type_of% (@rr _ _ c124_3.eq_1) := rr c124_3.eq_1
def a124 : AFun := ⟨2, 9, c124_3, [.t 4]⟩
attribute [simp] r124_0 r124_1 r124_2 r124_3
theorem m124 : mFun Try.prog Try.f124 a124 = true := by decide +kernel
def c71_0 : ACode := .ops [⟨some 1, .box (.t 0) 6, none, []⟩,
  ⟨some 2, .mv (.c (.bool false)), none, []⟩] [1]
theorem r71_0 : type_of% (@rr _ _ c71_0.eq_1) := rr c71_0.eq_1
def c71_1 : ACode := .ops [⟨some 5, .fad (.t 1) 0, none, [1]⟩,
  ⟨some 6, .load 1 false (.t 5), none, [1]⟩,
  ⟨some 7, .bin .lss (.t 6) (.c (.int .i64 1)), none, []⟩,
  ⟨some 8, .mv (.t 7), none, []⟩,
  ⟨some 9, .fad (.t 1) 0, some (8, false), [1]⟩,
  ⟨some 10, .load 1 false (.t 9), some (8, false), [1]⟩,
  ⟨some 11, .bin .gtr (.t 10) (.c (.int .i64 4)), some (8, false), []⟩,
  ⟨some 12, .pick (.t 8) (.c (.bool true)) (.t 11), none, []⟩,
  ⟨some 13, .mv (.t 12), none, []⟩,
  ⟨some 14, .fad (.t 1) 1, some (13, false), [1]⟩,
  ⟨some 15, .load 1 false (.t 14), some (13, false), [1]⟩,
  ⟨some 16, .bin .lss (.t 15) (.c (.int .i64 1)), some (13, false), []⟩,
  ⟨some 17, .pick (.t 13) (.c (.bool true)) (.t 16), none, []⟩,
  ⟨some 18, .mv (.t 17), none, []⟩,
  ⟨some 19, .fad (.t 1) 1, some (18, false), [1]⟩,
  ⟨some 20, .load 1 false (.t 19), some (18, false), [1]⟩,
  ⟨some 21, .bin .gtr (.t 20) (.c (.int .i64 3)), some (18, false), []⟩,
  ⟨some 22, .pick (.t 18) (.c (.bool true)) (.t 21), none, []⟩,
  ⟨some 23, .mv (.t 22), none, []⟩,
  ⟨some 24, .fad (.t 1) 5, some (23, false), [1]⟩,
  ⟨some 25, .load 1 false (.t 24), some (23, false), [1]⟩,
  ⟨some 26, .len (.t 25), some (23, false), []⟩,
  ⟨some 27, .bin .gtr (.t 26) (.c (.int .i64 8)), some (23, false), []⟩,
  ⟨some 28, .pick (.t 23) (.c (.bool true)) (.t 27), none, []⟩] [1, 28]
theorem r71_1 : type_of% (@rr _ _ c71_1.eq_1) := rr c71_1.eq_1
def c71_2 : ACode := .ops [⟨some 2, .mv (.c (.bool false)), none, []⟩] [2]
theorem r71_2 : type_of% (@rr _ _ c71_2.eq_1) := rr c71_2.eq_1
def c71_3 : ACode := .seq c71_2 .ret
theorem r71_3 : type_of% (@rr _ _ c71_3.eq_1) := rr c71_3.eq_1
def c71_4 : ACode := .cond (.t 28) c71_3 .skip
theorem r71_4 : type_of% (@rr _ _ c71_4.eq_1) := rr c71_4.eq_1
def c71_5 : ACode := .seq c71_1 c71_4
theorem r71_5 : type_of% (@rr _ _ c71_5.eq_1) := rr c71_5.eq_1
def c71_6 : ACode := .ops [⟨some 29, .fad (.t 1) 2, none, [1]⟩,
  ⟨some 30, .load 3 true (.t 29), none, [1]⟩,
  ⟨some 31, .mv (.c (.int .i64 0)), none, []⟩] [1, 30, 31]
theorem r71_6 : type_of% (@rr _ _ c71_6.eq_1) := rr c71_6.eq_1
def c71_7 : ACode := .ops [⟨some 32, .bin .lss (.t 31) (.c (.int .i64 3)), none, []⟩] [1, 30, 31, 32]
theorem r71_7 : type_of% (@rr _ _ c71_7.eq_1) := rr c71_7.eq_1
def c71_8 : ACode := .cond (.t 32) .skip (.exit 0)
theorem r71_8 : type_of% (@rr _ _ c71_8.eq_1) := rr c71_8.eq_1
def c71_9 : ACode := .ops [⟨some 33, .mv (.t 31), none, []⟩,
  ⟨some 34, .idx (.t 30) (.t 31) 1 3 false, none, []⟩,
  ⟨some 3, .mv (.t 33), none, []⟩,
  ⟨some 4, .mv (.t 34), none, []⟩] [1, 3, 4, 30, 31]
theorem r71_9 : type_of% (@rr _ _ c71_9.eq_1) := rr c71_9.eq_1
def c71_10 : ACode := .ops [⟨some 35, .mv (.t 4), none, []⟩,
  ⟨some 36, .call 123 [.t 35, .c (.int .i64 32)], none, []⟩,
  ⟨some 37, .un .not (.t 36), none, []⟩,
  ⟨some 38, .mv (.t 37), none, []⟩,
  ⟨some 39, .mv (.t 3), some (38, false), []⟩,
  ⟨some 40, .fad (.t 1) 1, some (38, false), [1]⟩,
  ⟨some 41, .load 1 false (.t 40), some (38, false), [1]⟩,
  ⟨some 42, .bin .geq (.t 39) (.t 41), some (38, false), []⟩,
  ⟨some 43, .mv (.t 42), some (38, false), []⟩,
  ⟨some 44, .mv (.t 4), some (43, true), []⟩,
  ⟨some 45, .bin .neq (.t 44) (.c (.int .i64 0)), some (43, true), []⟩,
  ⟨some 46, .pick (.t 43) (.t 45) (.c (.bool false)), some (38, false), []⟩,
  ⟨some 47, .pick (.t 38) (.c (.bool true)) (.t 46), none, []⟩] [1, 30, 31, 47]
theorem r71_10 : type_of% (@rr _ _ c71_10.eq_1) := rr c71_10.eq_1
def c71_11 : ACode := .ops [⟨some 2, .mv (.c (.bool false)), none, []⟩] [2]
theorem r71_11 : type_of% (@rr _ _ c71_11.eq_1) := rr c71_11.eq_1
def c71_12 : ACode := .seq c71_11 .ret
theorem r71_12 : type_of% (@rr _ _ c71_12.eq_1) := rr c71_12.eq_1
def c71_13 : ACode := .cond (.t 47) c71_12 .skip
theorem r71_13 : type_of% (@rr _ _ c71_13.eq_1) := rr c71_13.eq_1
def c71_14 : ACode := .seq c71_10 c71_13
theorem r71_14 : type_of% (@rr _ _ c71_14.eq_1) := rr c71_14.eq_1
def c71_15 : ACode := .seq c71_9 c71_14
theorem r71_15 : type_of% (@rr _ _ c71_15.eq_1) := rr c71_15.eq_1
def c71_16 : ACode := .block 1 c71_15
theorem r71_16 : type_of% (@rr _ _ c71_16.eq_1) := rr c71_16.eq_1
def c71_17 : ACode := .ops [⟨some 48, .bin .add (.t 31) (.c (.int .i64 1)), none, []⟩,
  ⟨some 31, .mv (.t 48), none, []⟩] [1, 30, 31]
theorem r71_17 : type_of% (@rr _ _ c71_17.eq_1) := rr c71_17.eq_1
def c71_18 : ACode := .seq c71_16 c71_17
theorem r71_18 : type_of% (@rr _ _ c71_18.eq_1) := rr c71_18.eq_1
def c71_19 : ACode := .seq c71_8 c71_18
theorem r71_19 : type_of% (@rr _ _ c71_19.eq_1) := rr c71_19.eq_1
def c71_20 : ACode := .seq c71_7 c71_19
theorem r71_20 : type_of% (@rr _ _ c71_20.eq_1) := rr c71_20.eq_1
def c71_21 : ACode := .keep [1, 30, 31] [1] c71_20
theorem r71_21 : type_of% (@rr _ _ c71_21.eq_1) := rr c71_21.eq_1
def c71_22 : ACode := .loop c71_21
theorem r71_22 : type_of% (@rr _ _ c71_22.eq_1) := rr c71_22.eq_1
def c71_23 : ACode := .block 0 c71_22
theorem r71_23 : type_of% (@rr _ _ c71_23.eq_1) := rr c71_23.eq_1
def c71_24 : ACode := .seq c71_6 c71_23
theorem r71_24 : type_of% (@rr _ _ c71_24.eq_1) := rr c71_24.eq_1
def c71_25 : ACode := .ops [⟨some 49, .fad (.t 1) 5, none, [1]⟩,
  ⟨some 50, .load 1 false (.t 49), none, [1]⟩,
  ⟨some 51, .clo 125 [.t 1], none, [1]⟩,
  ⟨some 52, .call 124 [.t 50, .t 51], none, []⟩,
  ⟨some 53, .un .not (.t 52), none, []⟩,
  ⟨some 2, .mv (.t 53), none, []⟩] [2]
theorem r71_25 : type_of% (@rr _ _ c71_25.eq_1) := rr c71_25.eq_1
def c71_26 : ACode := .seq c71_25 .ret
theorem r71_26 : type_of% (@rr _ _ c71_26.eq_1) := rr c71_26.eq_1
def c71_27 : ACode := .seq c71_24 c71_26
theorem r71_27 : type_of% (@rr _ _ c71_27.eq_1) := rr c71_27.eq_1
def c71_28 : ACode := .seq c71_5 c71_27
theorem r71_28 : type_of% (@rr _ _ c71_28.eq_1) := rr c71_28.eq_1
def c71_29 : ACode := .seq c71_0 c71_28
theorem r71_29 : type_of% (@rr _ _ c71_29.eq_1) := rr c71_29.eq_1
def a71 : AFun := ⟨1, 54, c71_29, [.t 2]⟩
attribute [simp] r71_0 r71_1 r71_2 r71_3 r71_4 r71_5 r71_6 r71_7 r71_8 r71_9 r71_10 r71_11 r71_12 r71_13 r71_14 r71_15 r71_16 r71_17 r71_18 r71_19 r71_20 r71_21 r71_22 r71_23 r71_24 r71_25 r71_26 r71_27 r71_28 r71_29
theorem m71 : mFun Try.prog Try.f71 a71 = true := by decide +kernel
@[simp high] theorem rd_point (p : Point) (f : Int) (h0 : 0 ≤ f) (h : f < 4) : rd [.int .i64 p.p0, .int .i64 p.p1, .int .i64 p.p2, .int .i64 p.p3] f.toNat 1 false = some (.int .i64 (p.get f)) := by
  have hf : f = 0 ∨ f = 1 ∨ f = 2 ∨ f = 3 := by omega
  rcases hf with rfl | rfl | rfl | rfl <;> rfl
@[simp high] theorem rd_bias (a b : Int) (x : Bias) (y : AV) (c : Int) (h0 : 0 ≤ c) (h : c < 3) : rd [.int .i64 a, .int .i64 b, .int .i64 x.b0, .int .i64 x.b1, .int .i64 x.b2, y] (2 + c.toNat) 1 false = some (.int .i64 (x.get c)) := by
  have hc : c = 0 ∨ c = 1 ∨ c = 2 := by omega
  rcases hc with rfl | rfl | rfl <;> rfl
theorem rd_tree (l : List Tree) (i : Nat) (h : i < l.length) : rd (encL l) (i * 2) 2 true = some (.agg [.int .i64 l[i].cls, .lst l[i].nodes.length (encL l[i].nodes)]) := rd_row l i h
noncomputable def End (l : List Word) (p : Point) : Option (Int × Node) := Part (∃ d, RT l d) ((leafOf l p : Int), ndAt l (leafOf l p))
noncomputable def ValueC (l : List Word) (p : Point) : Option Int := Part (∃ d, RT l d) (valueAt l p)
theorem runs_end (l : List Word) (p : Point) (c : Int × Node) (h : End l p = some c) : Runs (tbl [(77, sp1 Unpack)]) a148 [Arg.enc l, Arg.enc p] (Arg.enc c) := by
  obtain ⟨⟨d, hr⟩, rfl⟩ := part_some h
  refine ⟨rfl, fun g => run_def ?_⟩
  unfold a148
  have hp := hr.pos
  have hle := hr.le
  have b3 : l.length ≤ maxN := by unfold maxN; omega
  simp -implicitDefEqProofs [b3]
  refine run_while (c := c148_31) (fun m s => ∃ (i j : Nat) (g : Nat → Nat), i < l.length ∧ l.length ≤ m + i ∧ j + m = 31 ∧ walk l p m i = leafOf l p ∧ s = ⟨[(0, .lst l.length (encL l)), (3, .ptr 3 (g 3) 0), (5, .ptr 5 (g 5) 0), (6, .int .i64 i), (9, .int .i64 j)],
    [(3, ⟨[.int .i64 p.p0, .int .i64 p.p1, .int .i64 p.p2, .int .i64 p.p3], false, 0⟩), (5, ⟨[.bool false, .int .i64 0, .int .i64 0, .int .i64 0, .int .i64 0, .int .i64 0], false, 0⟩)], g⟩) 31 ⟨0, 0, bump 5 (bump 3 g), by omega, by omega, by omega, rfl, by simp⟩ ?_
  rintro m s ⟨i, j, g, h1, h2, h3, h4, rfl⟩
  have hU := unpack_at hr h1
  have e1 : (j : Int) < 31 := by omega
  have e2 : ¬ (l.length : Int) ≤ i := by omega
  have w1 : IntKind.i64.wrap ((j : Int) + 1) = (j : Int) + 1 := wrap64 (by omega) (by omega)
  obtain ⟨m, rfl⟩ : ∃ n, m = n + 1 := ⟨m - 1, by omega⟩
  rw [walk] at h4
  cases hl : (ndAt l i).leaf
  case true =>
    rw [hl] at h4
    simp only [if_true] at h4
    simp -implicitDefEqProofs [h1, e1, e2, b3, rd_words, hU, hl, w1]
    rw [← h4, hl]
    simp
  case false =>
    rw [hl] at h4
    simp only [Bool.false_eq_true, if_false] at h4
    have ha := hr.at h1 hl
    have hn := nxt_lt hr h1 hl p
    have hf := hr.feature h1 hl
    have f1 := hf.1
    have f2 := hf.2
    by_cases hc : p.get (ndAt l i).feature ≤ (ndAt l i).cut
    case pos =>
      simp -implicitDefEqProofs [h1, e1, e2, b3, rd_words, hU, hl, w1, f1, f2, hc]
      have he : (nxt (ndAt l i) p : Int) = (ndAt l i).left := by unfold nxt; rw [if_pos hc]; omega
      exact ⟨m, by omega, _, hn.2, by omega, j + 1, by omega, h4, he.symm, by omega⟩
    case neg =>
      simp -implicitDefEqProofs [h1, e1, e2, b3, rd_words, hU, hl, w1, f1, f2, hc]
      have he : (nxt (ndAt l i) p : Int) = (ndAt l i).right := by unfold nxt; rw [if_neg hc]; omega
      exact ⟨m, by omega, _, hn.2, by omega, j + 1, by omega, h4, he.symm, by omega⟩
theorem c_end : Contract Try.prog 148 (sp2 End) :=
  contract_of_runs mixed (tbl_cons c_Unpack tbl_nil) Try.func148 m148 (sp2_runs runs_end)
theorem runs_Value (l : List Word) (p : Point) (c : Int) (h : ValueC l p = some c) : Runs (tbl [(148, sp2 End)]) a99 [Arg.enc l, Arg.enc p] (Arg.enc c) := by
  obtain ⟨hr, rfl⟩ := part_some h
  refine ⟨rfl, fun g => run_def ?_⟩
  unfold a99
  simp -implicitDefEqProofs [End, part_of hr, valueAt]
theorem c_Value : Contract Try.prog 99 (sp2 ValueC) :=
  contract_of_runs mixed (tbl_cons c_end tbl_nil) Try.func99 m99 (sp2_runs runs_Value)
noncomputable def EvalC (m : Model) (c : Int) (p : Point) : Option Int := Part (RM m ∧ 0 ≤ c ∧ c < 3) (evalM m c p)
theorem runs_eval (m : Model) (c : Int) (p : Point) (r : Int) (h : EvalC m c p = some r) : Runs (tbl [(99, sp2 ValueC)]) a122 [Arg.enc m, Arg.enc c, Arg.enc p] (Arg.enc r) := by
  obtain ⟨⟨hr, h0, h3⟩, rfl⟩ := part_some h
  refine ⟨rfl, fun g => run_def ?_⟩
  unfold a122
  have hle := hr.trees
  have b3 : m.trees.length ≤ maxN := by unfold maxN; omega
  simp -implicitDefEqProofs [b3, h0, h3]
  refine run_while (c := c122_15) (fun n s => ∃ (i : Nat) (g : Nat → Nat), i + n = m.trees.length ∧ s = ⟨[(1, .int .i64 c), (5, .ptr 5 (g 5) 0), (7, .int .i64 ((m.trees.take i).foldl (evalF c p) (m.bias.get c))), (15, .lst m.trees.length (encL m.trees)), (16, .int .i64 m.trees.length), (17, .int .i64 i)],
    [(5, ⟨[.int .i64 p.p0, .int .i64 p.p1, .int .i64 p.p2, .int .i64 p.p3], false, 0⟩)], g⟩) m.trees.length ⟨0, bump 5 (bump 3 g), by omega, by simp⟩ ?_
  rintro n s ⟨i, g, hi, rfl⟩
  by_cases h1 : i < m.trees.length
  case pos =>
    have w1 : IntKind.i64.wrap ((i : Int) + 1) = (i : Int) + 1 := wrap64 (by omega) (by omega)
    have hrow := rd_tree m.trees i h1
    have hrt := hr.rt (List.getElem_mem h1)
    have hV : ValueC m.trees[i].nodes p = some (valueAt m.trees[i].nodes p) := part_of ⟨_, hrt⟩ _
    have hb := evalF_le (c := c) (p := p) (m.trees.take (i + 1)) (m.bias.get c) (fun t ht => ⟨_, hr.rt (List.mem_of_mem_take ht)⟩)
    have hb2 := of_fits (Bias.get_fits hr c)
    have hs : (m.trees.take (i + 1)).foldl (evalF c p) (m.bias.get c) = evalF c p ((m.trees.take i).foldl (evalF c p) (m.bias.get c)) m.trees[i] := by
      rw [List.take_succ_eq_append_getElem h1, List.foldl_append]
      rfl
    have hl : (m.trees.take (i + 1)).length ≤ 8 := by simp; omega
    rw [hs] at hb
    rw [← hs] at hb
    by_cases hc : m.trees[i].cls = c
    case pos =>
      have hs2 : (m.trees.take (i + 1)).foldl (evalF c p) (m.bias.get c) = (m.trees.take i).foldl (evalF c p) (m.bias.get c) + valueAt m.trees[i].nodes p := by rw [hs, evalF, if_pos hc]
      have w2 : IntKind.i64.wrap ((m.trees.take i).foldl (evalF c p) (m.bias.get c) + valueAt m.trees[i].nodes p) = (m.trees.take (i + 1)).foldl (evalF c p) (m.bias.get c) := by rw [← hs2]; exact wrap64 (by omega) (by omega)
      simp -implicitDefEqProofs [h1, hrow, hc, hV, w1, w2]
      exact ⟨n - 1, by omega, i + 1, by omega, rfl, by omega⟩
    case neg =>
      have hs2 : (m.trees.take (i + 1)).foldl (evalF c p) (m.bias.get c) = (m.trees.take i).foldl (evalF c p) (m.bias.get c) := by rw [hs, evalF, if_neg hc]
      simp -implicitDefEqProofs [h1, hrow, hc, hV, w1]
      exact ⟨n - 1, by omega, i + 1, by omega, hs2.symm, by omega⟩
  case neg =>
    have hil : i = m.trees.length := by omega
    subst hil
    simp -implicitDefEqProofs [h1, evalM]
theorem c_eval : Contract Try.prog 122 (sp3 EvalC) :=
  contract_of_runs mixed (tbl_cons c_Value tbl_nil) Try.func122 m122 (sp3_runs runs_eval)
/-! ### right models -/
def okTree (m : Model) (t : Tree) : Prop := 0 ≤ t.cls ∧ t.cls < m.classes ∧ RT t.nodes m.dim
@[simp] theorem dec_ref_model (m : Model) : (Arg.dec (.ipt 0 [.int .i64 m.dim, .int .i64 m.classes, .int .i64 m.bias.b0, .int .i64 m.bias.b1, .int .i64 m.bias.b2, .lst m.trees.length (encL m.trees)]) : Option (Ref Model)) = some ⟨m⟩ := Arg.dec_enc (⟨m⟩ : Ref Model)
noncomputable def Right1 (t : Tree) (m : Ref Model) : Option Bool := Part (okTree m.v t) false
theorem runs_Right1 (t : Tree) (m : Ref Model) (c : Bool) (h : Right1 t m = some c) : Runs (tbl [(76, sp2 TreeRight)]) a125 [Arg.enc t, Arg.enc m] (Arg.enc c) := by
  obtain ⟨⟨h0, h1, hr⟩, rfl⟩ := part_some h
  obtain ⟨m⟩ := m
  simp only at h0 h1 hr
  refine ⟨rfl, fun g => run_def ?_⟩
  unfold a125
  have e0 : ¬ t.cls < 0 := by omega
  have e1 : ¬ m.classes ≤ t.cls := by omega
  have hT : TreeRight t.nodes m.dim = some true := part_of hr _
  simp -implicitDefEqProofs [e0, e1, hT]
theorem c_Right1 : Contract Try.prog 125 (sp2 Right1) :=
  contract_of_runs mixed (tbl_cons c_tRight tbl_nil) Try.func125 m125 (sp2_runs runs_Right1)
structure CloR where
  m : Model
instance : Arg CloR where
  enc r := .clo 125 [.ipt 0 (Row.enc r.m)]
  dec x := match x with
    | .clo f [.ipt 0 xs] => if f = 125 then (Row.dec xs).map CloR.mk else none
    | _ => none
  dec_enc r := by simp only [if_true, Row.dec_enc]; rfl
  enc_dec x r h := by
    split at h
    · split at h
      · rename_i he
        rw [Option.map_eq_some_iff] at h
        obtain ⟨a, ha, rfl⟩ := h
        rw [Row.enc_dec _ _ ha, he]
      · cases h
    · cases h
@[simp] theorem enc_clor (r : CloR) : Arg.enc r = .clo 125 [.ipt 0 (Row.enc r.m)] := rfl
@[simp] theorem dec_clor (m : Model) : (Arg.dec (.clo 125 [.ipt 0 [.int .i64 m.dim, .int .i64 m.classes, .int .i64 m.bias.b0, .int .i64 m.bias.b1, .int .i64 m.bias.b2, .lst m.trees.length (encL m.trees)]]) : Option CloR) = some ⟨m⟩ := Arg.dec_enc (⟨m⟩ : CloR)
noncomputable def IndexTrees (l : List Tree) (r : CloR) : Option Int := Part (l.length ≤ 8 ∧ ∀ t ∈ l, okTree r.m t) (-1)
theorem runs_IndexTrees (l : List Tree) (r : CloR) (c : Int) (h : IndexTrees l r = some c) : Runs (tbl [(125, sp2 Right1)]) a160 [Arg.enc l, Arg.enc r] (Arg.enc c) := by
  obtain ⟨⟨hle, hr⟩, rfl⟩ := part_some h
  obtain ⟨m⟩ := r
  simp only at hr
  refine ⟨rfl, fun g => run_def ?_⟩
  unfold a160
  have b3 : l.length ≤ maxN := by unfold maxN; omega
  simp -implicitDefEqProofs [b3]
  refine run_while (c := c160_15) (fun n s => ∃ (i : Nat), i + n = l.length ∧ s = ⟨[(0, .lst l.length (encL l)), (1, Arg.enc (⟨m⟩ : CloR)), (7, .int .i64 l.length), (8, .int .i64 i)], [], g⟩) l.length ⟨0, by omega, by simp⟩ ?_
  rintro n s ⟨i, hi, rfl⟩
  by_cases h1 : i < l.length
  case pos =>
    have w1 : IntKind.i64.wrap ((i : Int) + 1) = (i : Int) + 1 := wrap64 (by omega) (by omega)
    have hrow := rd_tree l i h1
    have hR : Right1 ⟨l[i].cls, l[i].nodes⟩ ⟨m⟩ = some false := part_of (hr _ (List.getElem_mem h1)) _
    simp -implicitDefEqProofs [h1, hrow, hR, w1]
    exact ⟨n - 1, by omega, i + 1, by omega, by omega⟩
  case neg =>
    simp -implicitDefEqProofs [h1]
theorem c_IndexTrees : Contract Try.prog 160 (sp2 IndexTrees) :=
  contract_of_runs mixed (tbl_cons c_Right1 tbl_nil) Try.func160 m160 (sp2_runs runs_IndexTrees)
noncomputable def ContainsTrees (l : List Tree) (r : CloR) : Option Bool := Part (l.length ≤ 8 ∧ ∀ t ∈ l, okTree r.m t) false
theorem runs_ContainsTrees (l : List Tree) (r : CloR) (c : Bool) (h : ContainsTrees l r = some c) : Runs (tbl [(160, sp2 IndexTrees)]) a124 [Arg.enc l, Arg.enc r] (Arg.enc c) := by
  obtain ⟨hr, rfl⟩ := part_some h
  obtain ⟨m⟩ := r
  refine ⟨rfl, fun g => run_def ?_⟩
  unfold a124
  have hI : IndexTrees l ⟨m⟩ = some (-1) := part_of hr _
  simp -implicitDefEqProofs [hI]
theorem c_ContainsTrees : Contract Try.prog 124 (sp2 ContainsTrees) :=
  contract_of_runs mixed (tbl_cons c_IndexTrees tbl_nil) Try.func124 m124 (sp2_runs runs_ContainsTrees)
noncomputable def MRight (m : Model) : Option Bool := if m.dim < 1 then some false else Part (RM m) true
set_option maxRecDepth 8000 in
theorem runs_mRight (m : Model) (c : Bool) (h : MRight m = some c) : Runs (tbl [(123, sp2 Fits), (124, sp2 ContainsTrees)]) a71 [Arg.enc m] (Arg.enc c) := by
  unfold MRight at h
  split at h
  · rename_i hd
    cases h
    refine ⟨rfl, fun g => run_def ?_⟩
    unfold a71
    simp -implicitDefEqProofs [hd]
  · obtain ⟨hr, rfl⟩ := part_some h
    refine ⟨rfl, fun g => run_def ?_⟩
    unfold a71
    have b3 : m.trees.length ≤ maxN := by have := hr.trees; unfold maxN; omega
    have e0 : ¬ m.dim < 1 := by have := hr.dim; omega
    have e1 : ¬ 4 < m.dim := by have := hr.dim; omega
    have e2 : ¬ m.classes < 1 := by have := hr.classes; omega
    have e3 : ¬ 3 < m.classes := by have := hr.classes; omega
    have e4 : ¬ (8 : Int) < m.trees.length := by have := hr.trees; omega
    have e5 : ¬ m.classes ≤ 0 := by omega
    have hb := hr.bias
    have f0 := hb.1
    have f1 := hb.2.1
    have f2 := hb.2.2
    have hC : ContainsTrees m.trees ⟨m⟩ = some false := part_of ⟨hr.trees, hr.tree⟩ _
    have n1 := hr.none1
    have n2 := hr.none2
    have fz : fits 0 = true := rfl
    by_cases k1 : m.classes ≤ 1 <;> by_cases k2 : m.classes ≤ 2
    · have z1 : decide (m.bias.b1 = 0) = true := by simp [n1 k1]
      have z2 : decide (m.bias.b2 = 0) = true := by simp [n2 k2]
      simp -implicitDefEqProofs [run_round, b3, e0, e1, e2, e3, e4, e5, Fits, fz, f0, f1, f2, k1, k2, z1, z2, hC]
    · omega
    · have z2 : decide (m.bias.b2 = 0) = true := by simp [n2 k2]
      simp -implicitDefEqProofs [run_round, b3, e0, e1, e2, e3, e4, e5, Fits, fz, f0, f1, f2, k1, k2, z2, hC]
    · simp -implicitDefEqProofs [run_round, b3, e0, e1, e2, e3, e4, e5, Fits, fz, f0, f1, f2, k1, k2, hC]
theorem c_mRight : Contract Try.prog 71 (sp1 MRight) :=
  contract_of_runs mixed (tbl_cons c_Fits (tbl_cons c_ContainsTrees tbl_nil)) Try.func71 m71 (sp1_runs runs_mRight)
def evalX (m : Model) (c : Int) (p : Point) : Int := if 0 ≤ c ∧ c < m.classes then evalM m c p else 0
noncomputable def Eval (m : Model) (c : Int) (p : Point) : Option Int := Part (RM m) (evalX m c p)
theorem runs_Eval (m : Model) (c : Int) (p : Point) (r : Int) (h : Eval m c p = some r) : Runs (tbl [(71, sp1 MRight), (122, sp3 EvalC)]) a69 [Arg.enc m, Arg.enc c, Arg.enc p] (Arg.enc r) := by
  obtain ⟨hr, rfl⟩ := part_some h
  refine ⟨rfl, fun g => run_def ?_⟩
  unfold a69
  have hM : MRight m = some true := by unfold MRight; rw [if_neg (by have := hr.dim; omega)]; exact part_of hr _
  by_cases h0 : c < 0
  · have : ¬ 0 ≤ c := by omega
    simp -implicitDefEqProofs [hM, h0, evalX, this]
  · by_cases h1 : m.classes ≤ c
    · have : ¬ c < m.classes := by omega
      simp -implicitDefEqProofs [hM, h0, h1, evalX, this]
    · have e1 : c < m.classes := by omega
      have e0 : 0 ≤ c := by omega
      have hE : EvalC m c p = some (evalM m c p) := part_of ⟨hr, e0, by have := hr.classes; omega⟩ _
      simp -implicitDefEqProofs [hM, h0, h1, evalX, e0, e1, hE]
theorem c_Eval : Contract Try.prog 69 (sp3 Eval) :=
  contract_of_runs mixed (tbl_cons c_mRight (tbl_cons c_eval tbl_nil)) Try.func69 m69 (sp3_runs runs_Eval)
theorem eval_of {m : Model} (h : RM m) {c : Int} (h0 : 0 ≤ c) (h1 : c < m.classes) (p : Point) : Eval m c p = some (evalM m c p) := by
  unfold Eval
  rw [part_of h, evalX, if_pos ⟨h0, h1⟩]
end Go.Co
