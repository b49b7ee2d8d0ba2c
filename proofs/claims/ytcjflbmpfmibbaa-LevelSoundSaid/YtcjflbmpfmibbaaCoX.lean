/- CO: levels, the range. -/
import Derived.Test.YtcjflbmpfmibbaaCoW
namespace Go.Co
open Go.Am Go.Proofs
set_option linter.unusedSimpArgs false
set_option linter.unusedVariables false
def c113_0 : ACode := .ops [⟨some 2, .mv (.c (.int .i64 0)), none, []⟩,
  ⟨some 3, .mv (.c (.int .i64 0)), none, []⟩,
  ⟨some 4, .mv (.c (.bool false)), none, []⟩] [0]
theorem r113_0 : type_of% (@rr _ _ c113_0.eq_1) := rr c113_0.eq_1
def c113_1 : ACode := .ops [⟨some 9, .mv (.t 0), none, []⟩,
  ⟨some 10, .len (.t 9), none, []⟩,
  ⟨some 11, .bin .eql (.t 10) (.c (.int .i64 0)), none, []⟩] [0, 11]
theorem r113_1 : type_of% (@rr _ _ c113_1.eq_1) := rr c113_1.eq_1
def c113_2 : ACode := .ops [⟨some 2, .mv (.c (.int .i64 0)), none, []⟩,
  ⟨some 3, .mv (.c (.int .i64 0)), none, []⟩,
  ⟨some 4, .mv (.c (.bool false)), none, []⟩] [2, 3, 4]
theorem r113_2 : type_of% (@rr _ _ c113_2.eq_1) := rr c113_2.eq_1
def c113_3 : ACode := .seq c113_2 .ret
theorem r113_3 : type_of% (@rr _ _ c113_3.eq_1) := rr c113_3.eq_1
def c113_4 : ACode := .cond (.t 11) c113_3 .skip
theorem r113_4 : type_of% (@rr _ _ c113_4.eq_1) := rr c113_4.eq_1
def c113_5 : ACode := .seq c113_1 c113_4
theorem r113_5 : type_of% (@rr _ _ c113_5.eq_1) := rr c113_5.eq_1
def c113_6 : ACode := .ops [⟨some 12, .mv (.t 0), none, []⟩,
  ⟨some 13, .ias (.t 12) (.c (.int .i64 0)) 11, none, []⟩,
  ⟨some 14, .fad (.t 13) 10, none, []⟩,
  ⟨some 15, .load 1 false (.t 14), none, []⟩,
  ⟨some 16, .mv (.t 0), none, []⟩,
  ⟨some 17, .ias (.t 16) (.c (.int .i64 0)) 11, none, []⟩,
  ⟨some 18, .fad (.t 17) 10, none, []⟩,
  ⟨some 19, .load 1 false (.t 18), none, []⟩,
  ⟨some 5, .mv (.t 15), none, []⟩,
  ⟨some 6, .mv (.t 19), none, []⟩] [0, 5, 6]
theorem r113_6 : type_of% (@rr _ _ c113_6.eq_1) := rr c113_6.eq_1
def c113_7 : ACode := .ops [⟨some 20, .mv (.t 0), none, []⟩,
  ⟨some 21, .len (.t 20), none, []⟩,
  ⟨some 22, .mv (.c (.int .i64 0)), none, []⟩] [5, 6, 20, 21, 22]
theorem r113_7 : type_of% (@rr _ _ c113_7.eq_1) := rr c113_7.eq_1
def c113_8 : ACode := .ops [⟨some 23, .bin .lss (.t 22) (.t 21), none, []⟩] [5, 6, 20, 21, 22, 23]
theorem r113_8 : type_of% (@rr _ _ c113_8.eq_1) := rr c113_8.eq_1
def c113_9 : ACode := .cond (.t 23) .skip (.exit 0)
theorem r113_9 : type_of% (@rr _ _ c113_9.eq_1) := rr c113_9.eq_1
def c113_10 : ACode := .ops [⟨some 24, .ias (.t 20) (.t 22) 11, none, []⟩,
  ⟨some 25, .load 11 true (.t 24), none, []⟩,
  ⟨some 8, .alloc [.int .i64 0, .int .i64 0, .int .i64 0, .int .i64 0, .int .i64 0, .int .i64 0, .int .i64 0, .int .i64 0, .int .i64 0, .int .i64 0, .int .i64 0], none, []⟩,
  ⟨none, .store (.t 8) 11 (.t 25), none, [8]⟩] [5, 6, 8, 20, 21, 22]
theorem r113_10 : type_of% (@rr _ _ c113_10.eq_1) := rr c113_10.eq_1
def c113_11 : ACode := .ops [⟨some 26, .mv (.t 5), none, []⟩,
  ⟨some 27, .fad (.t 8) 10, none, [8]⟩,
  ⟨some 28, .load 1 false (.t 27), none, [8]⟩,
  ⟨some 29, .mnmx false (.t 26) (.t 28), none, []⟩,
  ⟨some 30, .mv (.t 6), none, []⟩,
  ⟨some 31, .fad (.t 8) 10, none, [8]⟩,
  ⟨some 32, .load 1 false (.t 31), none, [8]⟩,
  ⟨some 33, .mnmx true (.t 30) (.t 32), none, []⟩,
  ⟨some 5, .mv (.t 29), none, []⟩,
  ⟨some 6, .mv (.t 33), none, []⟩] [5, 6, 20, 21, 22]
theorem r113_11 : type_of% (@rr _ _ c113_11.eq_1) := rr c113_11.eq_1
def c113_12 : ACode := .seq c113_10 c113_11
theorem r113_12 : type_of% (@rr _ _ c113_12.eq_1) := rr c113_12.eq_1
def c113_13 : ACode := .block 1 c113_12
theorem r113_13 : type_of% (@rr _ _ c113_13.eq_1) := rr c113_13.eq_1
def c113_14 : ACode := .ops [⟨some 34, .bin .add (.t 22) (.c (.int .i64 1)), none, []⟩,
  ⟨some 22, .mv (.t 34), none, []⟩] [5, 6, 20, 21, 22]
theorem r113_14 : type_of% (@rr _ _ c113_14.eq_1) := rr c113_14.eq_1
def c113_15 : ACode := .seq c113_13 c113_14
theorem r113_15 : type_of% (@rr _ _ c113_15.eq_1) := rr c113_15.eq_1
def c113_16 : ACode := .seq c113_9 c113_15
theorem r113_16 : type_of% (@rr _ _ c113_16.eq_1) := rr c113_16.eq_1
def c113_17 : ACode := .seq c113_8 c113_16
theorem r113_17 : type_of% (@rr _ _ c113_17.eq_1) := rr c113_17.eq_1
def c113_18 : ACode := .keep [5, 6, 20, 21, 22] [] c113_17
theorem r113_18 : type_of% (@rr _ _ c113_18.eq_1) := rr c113_18.eq_1
def c113_19 : ACode := .loop c113_18
theorem r113_19 : type_of% (@rr _ _ c113_19.eq_1) := rr c113_19.eq_1
def c113_20 : ACode := .block 0 c113_19
theorem r113_20 : type_of% (@rr _ _ c113_20.eq_1) := rr c113_20.eq_1
def c113_21 : ACode := .seq c113_7 c113_20
theorem r113_21 : type_of% (@rr _ _ c113_21.eq_1) := rr c113_21.eq_1
def c113_22 : ACode := .ops [⟨some 35, .mv (.t 5), none, []⟩,
  ⟨some 36, .mv (.t 6), none, []⟩,
  ⟨some 2, .mv (.t 35), none, []⟩,
  ⟨some 3, .mv (.t 36), none, []⟩,
  ⟨some 4, .mv (.c (.bool true)), none, []⟩] [2, 3, 4]
theorem r113_22 : type_of% (@rr _ _ c113_22.eq_1) := rr c113_22.eq_1
def c113_23 : ACode := .seq c113_22 .ret
theorem r113_23 : type_of% (@rr _ _ c113_23.eq_1) := rr c113_23.eq_1
def c113_24 : ACode := .seq c113_21 c113_23
theorem r113_24 : type_of% (@rr _ _ c113_24.eq_1) := rr c113_24.eq_1
def c113_25 : ACode := .seq c113_6 c113_24
theorem r113_25 : type_of% (@rr _ _ c113_25.eq_1) := rr c113_25.eq_1
def c113_26 : ACode := .seq c113_5 c113_25
theorem r113_26 : type_of% (@rr _ _ c113_26.eq_1) := rr c113_26.eq_1
def c113_27 : ACode := .seq c113_0 c113_26
theorem r113_27 : type_of% (@rr _ _ c113_27.eq_1) := rr c113_27.eq_1
def a113 : AFun := ⟨1, 37, c113_27, [.t 2, .t 3, .t 4]⟩
attribute [simp] r113_0 r113_1 r113_2 r113_3 r113_4 r113_5 r113_6 r113_7 r113_8 r113_9 r113_10 r113_11 r113_12 r113_13 r113_14 r113_15 r113_16 r113_17 r113_18 r113_19 r113_20 r113_21 r113_22 r113_23 r113_24 r113_25 r113_26 r113_27
theorem m113 : mFun Try.prog Try.f113 a113 = true := by decide +kernel
def c111_0 : ACode := .ops [⟨some 3, .box (.t 0) 6, none, []⟩,
  ⟨some 5, .box (.t 2) 10, none, []⟩,
  ⟨some 6, .mv (.c (.nils)), none, []⟩,
  ⟨some 7, .mv (.c (.bool false)), none, []⟩] [1, 3, 5]
theorem r111_0 : type_of% (@rr _ _ c111_0.eq_1) := rr c111_0.eq_1
def c111_1 : ACode := .ops [⟨some 15, .load 6 true (.t 3), none, [3]⟩,
  ⟨some 16, .mv (.t 1), none, []⟩,
  ⟨some 17, .load 10 true (.t 5), none, [5]⟩,
  ⟨some 18, .call 63 [.t 15, .t 16, .t 17], none, []⟩,
  ⟨some 14, .mv (.t 18), none, []⟩,
  ⟨some 19, .ext (.t 14) 0, none, []⟩,
  ⟨some 20, .ext (.t 14) 1, none, []⟩,
  ⟨some 21, .ext (.t 14) 2, none, []⟩,
  ⟨some 8, .mv (.t 19), none, []⟩,
  ⟨some 9, .mv (.t 20), none, []⟩,
  ⟨some 10, .mv (.t 21), none, []⟩] [1, 3, 5, 10]
theorem r111_1 : type_of% (@rr _ _ c111_1.eq_1) := rr c111_1.eq_1
def c111_2 : ACode := .ops [⟨some 22, .mv (.t 10), none, []⟩,
  ⟨some 23, .un .not (.t 22), none, []⟩] [1, 3, 5, 23]
theorem r111_2 : type_of% (@rr _ _ c111_2.eq_1) := rr c111_2.eq_1
def c111_3 : ACode := .ops [⟨some 6, .mv (.c (.nils)), none, []⟩,
  ⟨some 7, .mv (.c (.bool false)), none, []⟩] [6, 7]
theorem r111_3 : type_of% (@rr _ _ c111_3.eq_1) := rr c111_3.eq_1
def c111_4 : ACode := .seq c111_3 .ret
theorem r111_4 : type_of% (@rr _ _ c111_4.eq_1) := rr c111_4.eq_1
def c111_5 : ACode := .cond (.t 23) c111_4 .skip
theorem r111_5 : type_of% (@rr _ _ c111_5.eq_1) := rr c111_5.eq_1
def c111_6 : ACode := .seq c111_2 c111_5
theorem r111_6 : type_of% (@rr _ _ c111_6.eq_1) := rr c111_6.eq_1
def c111_7 : ACode := .seq c111_1 c111_6
theorem r111_7 : type_of% (@rr _ _ c111_7.eq_1) := rr c111_7.eq_1
def c111_8 : ACode := .ops [⟨some 11, .nil0 11 1, none, []⟩] [1, 3, 5, 11]
theorem r111_8 : type_of% (@rr _ _ c111_8.eq_1) := rr c111_8.eq_1
def c111_9 : ACode := .ops [⟨some 24, .fad (.t 3) 5, none, [3]⟩,
  ⟨some 25, .load 1 false (.t 24), none, [3]⟩,
  ⟨some 26, .len (.t 25), none, []⟩,
  ⟨some 27, .mv (.c (.int .i64 0)), none, []⟩] [1, 5, 11, 25, 26, 27]
theorem r111_9 : type_of% (@rr _ _ c111_9.eq_1) := rr c111_9.eq_1
def c111_10 : ACode := .ops [⟨some 28, .bin .lss (.t 27) (.t 26), none, []⟩] [1, 5, 11, 25, 26, 27, 28]
theorem r111_10 : type_of% (@rr _ _ c111_10.eq_1) := rr c111_10.eq_1
def c111_11 : ACode := .cond (.t 28) .skip (.exit 0)
theorem r111_11 : type_of% (@rr _ _ c111_11.eq_1) := rr c111_11.eq_1
def c111_12 : ACode := .ops [⟨some 29, .ias (.t 25) (.t 27) 2, none, []⟩,
  ⟨some 30, .load 2 true (.t 29), none, []⟩,
  ⟨some 13, .alloc [.int .i64 0, .nils], none, []⟩,
  ⟨none, .store (.t 13) 2 (.t 30), none, [13]⟩] [1, 5, 11, 13, 25, 26, 27]
theorem r111_12 : type_of% (@rr _ _ c111_12.eq_1) := rr c111_12.eq_1
def c111_13 : ACode := .ops [⟨some 31, .fad (.t 13) 0, none, [13]⟩,
  ⟨some 32, .load 1 false (.t 31), none, [13]⟩,
  ⟨some 33, .mv (.t 1), none, []⟩,
  ⟨some 34, .bin .eql (.t 32) (.t 33), none, []⟩] [1, 5, 11, 13, 25, 26, 27, 34]
theorem r111_13 : type_of% (@rr _ _ c111_13.eq_1) := rr c111_13.eq_1
def c111_14 : ACode := .ops [⟨some 35, .mv (.t 11), none, []⟩,
  ⟨some 36, .fad (.t 13) 1, none, [13]⟩,
  ⟨some 37, .load 1 false (.t 36), none, [13]⟩,
  ⟨some 38, .load 10 true (.t 5), none, [5]⟩,
  ⟨some 39, .call 29 [.t 37, .t 38], none, []⟩,
  ⟨some 40, .mkrow 40 1 1 [.nils] [(0, 1, .t 39)], none, []⟩,
  ⟨some 41, .app 11 [11] (.t 35) (.t 40) 1, none, [11, 40]⟩,
  ⟨some 11, .mv (.t 41), none, []⟩] [1, 5, 11, 25, 26, 27]
theorem r111_14 : type_of% (@rr _ _ c111_14.eq_1) := rr c111_14.eq_1
def c111_15 : ACode := .cond (.t 34) c111_14 .skip
theorem r111_15 : type_of% (@rr _ _ c111_15.eq_1) := rr c111_15.eq_1
def c111_16 : ACode := .seq c111_13 c111_15
theorem r111_16 : type_of% (@rr _ _ c111_16.eq_1) := rr c111_16.eq_1
def c111_17 : ACode := .seq c111_12 c111_16
theorem r111_17 : type_of% (@rr _ _ c111_17.eq_1) := rr c111_17.eq_1
def c111_18 : ACode := .block 1 c111_17
theorem r111_18 : type_of% (@rr _ _ c111_18.eq_1) := rr c111_18.eq_1
def c111_19 : ACode := .ops [⟨some 42, .bin .add (.t 27) (.c (.int .i64 1)), none, []⟩,
  ⟨some 27, .mv (.t 42), none, []⟩] [1, 5, 11, 25, 26, 27]
theorem r111_19 : type_of% (@rr _ _ c111_19.eq_1) := rr c111_19.eq_1
def c111_20 : ACode := .seq c111_18 c111_19
theorem r111_20 : type_of% (@rr _ _ c111_20.eq_1) := rr c111_20.eq_1
def c111_21 : ACode := .seq c111_11 c111_20
theorem r111_21 : type_of% (@rr _ _ c111_21.eq_1) := rr c111_21.eq_1
def c111_22 : ACode := .seq c111_10 c111_21
theorem r111_22 : type_of% (@rr _ _ c111_22.eq_1) := rr c111_22.eq_1
def c111_23 : ACode := .keep [1, 5, 11, 25, 26, 27] [5, 11] c111_22
theorem r111_23 : type_of% (@rr _ _ c111_23.eq_1) := rr c111_23.eq_1
def c111_24 : ACode := .loop c111_23
theorem r111_24 : type_of% (@rr _ _ c111_24.eq_1) := rr c111_24.eq_1
def c111_25 : ACode := .block 0 c111_24
theorem r111_25 : type_of% (@rr _ _ c111_25.eq_1) := rr c111_25.eq_1
def c111_26 : ACode := .seq c111_9 c111_25
theorem r111_26 : type_of% (@rr _ _ c111_26.eq_1) := rr c111_26.eq_1
def c111_27 : ACode := .ops [⟨some 43, .mv (.t 11), none, []⟩,
  ⟨some 6, .mv (.t 43), none, []⟩,
  ⟨some 7, .mv (.c (.bool true)), none, []⟩] [6, 7]
theorem r111_27 : type_of% (@rr _ _ c111_27.eq_1) := rr c111_27.eq_1
def c111_28 : ACode := .seq c111_27 .ret
theorem r111_28 : type_of% (@rr _ _ c111_28.eq_1) := rr c111_28.eq_1
def c111_29 : ACode := .seq c111_26 c111_28
theorem r111_29 : type_of% (@rr _ _ c111_29.eq_1) := rr c111_29.eq_1
def c111_30 : ACode := .seq c111_8 c111_29
theorem r111_30 : type_of% (@rr _ _ c111_30.eq_1) := rr c111_30.eq_1
def c111_31 : ACode := .seq c111_7 c111_30
theorem r111_31 : type_of% (@rr _ _ c111_31.eq_1) := rr c111_31.eq_1
def c111_32 : ACode := .seq c111_0 c111_31
theorem r111_32 : type_of% (@rr _ _ c111_32.eq_1) := rr c111_32.eq_1
def a111 : AFun := ⟨3, 44, c111_32, [.t 6, .t 7]⟩
attribute [simp] r111_0 r111_1 r111_2 r111_3 r111_4 r111_5 r111_6 r111_7 r111_8 r111_9 r111_10 r111_11 r111_12 r111_13 r111_14 r111_15 r111_16 r111_17 r111_18 r111_19 r111_20 r111_21 r111_22 r111_23 r111_24 r111_25 r111_26 r111_27 r111_28 r111_29 r111_30 r111_31 r111_32
theorem m111 : mFun Try.prog Try.f111 a111 = true := by decide +kernel
def c145_0 : ACode := .ops [⟨some 4, .mv (.c (.nils)), none, []⟩,
  ⟨some 5, .mv (.c (.bool false)), none, []⟩] [0, 1]
theorem r145_0 : type_of% (@rr _ _ c145_0.eq_1) := rr c145_0.eq_1
def c145_1 : ACode := .ops [⟨some 6, .nil0 6 1, none, []⟩] [0, 1, 6]
theorem r145_1 : type_of% (@rr _ _ c145_1.eq_1) := rr c145_1.eq_1
def c145_2 : ACode := .ops [⟨some 7, .mv (.c (.bool false)), none, []⟩] [0, 1, 6, 7]
theorem r145_2 : type_of% (@rr _ _ c145_2.eq_1) := rr c145_2.eq_1
def c145_3 : ACode := .ops [⟨some 10, .mv (.t 0), none, []⟩,
  ⟨some 11, .len (.t 10), none, []⟩,
  ⟨some 12, .bin .gtr (.t 11) (.c (.int .i64 0)), none, []⟩] [0, 1, 6, 7, 12]
theorem r145_3 : type_of% (@rr _ _ c145_3.eq_1) := rr c145_3.eq_1
def c145_4 : ACode := .cond (.t 12) .skip (.exit 0)
theorem r145_4 : type_of% (@rr _ _ c145_4.eq_1) := rr c145_4.eq_1
def c145_5 : ACode := .seq c145_3 c145_4
theorem r145_5 : type_of% (@rr _ _ c145_5.eq_1) := rr c145_5.eq_1
def c145_6 : ACode := .ops [⟨some 13, .mv (.t 0), none, []⟩,
  ⟨some 14, .len (.t 13), none, []⟩,
  ⟨some 15, .bin .gtr (.t 14) (.c (.int .i64 1)), none, []⟩] [0, 1, 6, 7, 15]
theorem r145_6 : type_of% (@rr _ _ c145_6.eq_1) := rr c145_6.eq_1
def c145_7 : ACode := .ops [⟨some 17, .mv (.t 0), none, []⟩,
  ⟨some 18, .ias (.t 17) (.c (.int .i64 0)) 1, none, []⟩,
  ⟨some 19, .load 1 false (.t 18), none, []⟩,
  ⟨some 20, .mv (.t 0), none, []⟩,
  ⟨some 21, .ias (.t 20) (.c (.int .i64 1)) 1, none, []⟩,
  ⟨some 22, .load 1 false (.t 21), none, []⟩,
  ⟨some 23, .mv (.t 1), none, []⟩,
  ⟨some 24, .call 161 [.t 19, .t 22, .t 23], none, []⟩,
  ⟨some 16, .mv (.t 24), none, []⟩,
  ⟨some 25, .ext (.t 16) 0, none, []⟩,
  ⟨some 26, .ext (.t 16) 1, none, []⟩,
  ⟨some 8, .mv (.t 25), none, []⟩,
  ⟨some 9, .mv (.t 26), none, []⟩] [0, 1, 6, 7, 8, 9]
theorem r145_7 : type_of% (@rr _ _ c145_7.eq_1) := rr c145_7.eq_1
def c145_8 : ACode := .ops [⟨some 27, .mv (.t 9), none, []⟩] [0, 1, 6, 7, 8, 27]
theorem r145_8 : type_of% (@rr _ _ c145_8.eq_1) := rr c145_8.eq_1
def c145_9 : ACode := .ops [⟨some 28, .mv (.t 6), none, []⟩,
  ⟨some 29, .mv (.t 8), none, []⟩,
  ⟨some 30, .mkrow 30 1 1 [.nils] [(0, 1, .t 29)], none, []⟩,
  ⟨some 31, .app 6 [6] (.t 28) (.t 30) 1, none, [6, 30]⟩,
  ⟨some 32, .mv (.t 0), none, []⟩,
  ⟨some 33, .sl (.t 32) (some (.c (.int .i64 2))) none 1, none, []⟩,
  ⟨some 6, .mv (.t 31), none, []⟩,
  ⟨some 0, .mv (.t 33), none, []⟩,
  ⟨some 7, .mv (.c (.bool true)), none, []⟩] [0, 1, 6, 7]
theorem r145_9 : type_of% (@rr _ _ c145_9.eq_1) := rr c145_9.eq_1
def c145_10 : ACode := .seq c145_9 (.exit 1)
theorem r145_10 : type_of% (@rr _ _ c145_10.eq_1) := rr c145_10.eq_1
def c145_11 : ACode := .cond (.t 27) c145_10 .skip
theorem r145_11 : type_of% (@rr _ _ c145_11.eq_1) := rr c145_11.eq_1
def c145_12 : ACode := .seq c145_8 c145_11
theorem r145_12 : type_of% (@rr _ _ c145_12.eq_1) := rr c145_12.eq_1
def c145_13 : ACode := .seq c145_7 c145_12
theorem r145_13 : type_of% (@rr _ _ c145_13.eq_1) := rr c145_13.eq_1
def c145_14 : ACode := .cond (.t 15) c145_13 .skip
theorem r145_14 : type_of% (@rr _ _ c145_14.eq_1) := rr c145_14.eq_1
def c145_15 : ACode := .seq c145_6 c145_14
theorem r145_15 : type_of% (@rr _ _ c145_15.eq_1) := rr c145_15.eq_1
def c145_16 : ACode := .ops [⟨some 34, .mv (.t 6), none, []⟩,
  ⟨some 35, .mv (.t 0), none, []⟩,
  ⟨some 36, .ias (.t 35) (.c (.int .i64 0)) 1, none, []⟩,
  ⟨some 37, .load 1 false (.t 36), none, []⟩,
  ⟨some 38, .mkrow 38 1 1 [.nils] [(0, 1, .t 37)], none, []⟩,
  ⟨some 39, .app 6 [6] (.t 34) (.t 38) 1, none, [6, 38]⟩,
  ⟨some 40, .mv (.t 0), none, []⟩,
  ⟨some 41, .sl (.t 40) (some (.c (.int .i64 1))) none 1, none, []⟩,
  ⟨some 6, .mv (.t 39), none, []⟩,
  ⟨some 0, .mv (.t 41), none, []⟩] [0, 1, 6, 7]
theorem r145_16 : type_of% (@rr _ _ c145_16.eq_1) := rr c145_16.eq_1
def c145_17 : ACode := .seq c145_15 c145_16
theorem r145_17 : type_of% (@rr _ _ c145_17.eq_1) := rr c145_17.eq_1
def c145_18 : ACode := .block 1 c145_17
theorem r145_18 : type_of% (@rr _ _ c145_18.eq_1) := rr c145_18.eq_1
def c145_19 : ACode := .seq c145_5 c145_18
theorem r145_19 : type_of% (@rr _ _ c145_19.eq_1) := rr c145_19.eq_1
def c145_20 : ACode := .keep [0, 1, 6, 7] [6] c145_19
theorem r145_20 : type_of% (@rr _ _ c145_20.eq_1) := rr c145_20.eq_1
def c145_21 : ACode := .loop c145_20
theorem r145_21 : type_of% (@rr _ _ c145_21.eq_1) := rr c145_21.eq_1
def c145_22 : ACode := .block 0 c145_21
theorem r145_22 : type_of% (@rr _ _ c145_22.eq_1) := rr c145_22.eq_1
def c145_23 : ACode := .ops [⟨some 42, .mv (.t 6), none, []⟩,
  ⟨some 43, .mv (.t 7), none, []⟩,
  ⟨some 4, .mv (.t 42), none, []⟩,
  ⟨some 5, .mv (.t 43), none, []⟩] [4, 5]
theorem r145_23 : type_of% (@rr _ _ c145_23.eq_1) := rr c145_23.eq_1
def c145_24 : ACode := .seq c145_23 .ret
theorem r145_24 : type_of% (@rr _ _ c145_24.eq_1) := rr c145_24.eq_1
def c145_25 : ACode := .seq c145_22 c145_24
theorem r145_25 : type_of% (@rr _ _ c145_25.eq_1) := rr c145_25.eq_1
def c145_26 : ACode := .seq c145_2 c145_25
theorem r145_26 : type_of% (@rr _ _ c145_26.eq_1) := rr c145_26.eq_1
def c145_27 : ACode := .seq c145_1 c145_26
theorem r145_27 : type_of% (@rr _ _ c145_27.eq_1) := rr c145_27.eq_1
def c145_28 : ACode := .seq c145_0 c145_27
theorem r145_28 : type_of% (@rr _ _ c145_28.eq_1) := rr c145_28.eq_1
def a145 : AFun := ⟨2, 44, c145_28, [.t 4, .t 5]⟩
attribute [simp] r145_0 r145_1 r145_2 r145_3 r145_4 r145_5 r145_6 r145_7 r145_8 r145_9 r145_10 r145_11 r145_12 r145_13 r145_14 r145_15 r145_16 r145_17 r145_18 r145_19 r145_20 r145_21 r145_22 r145_23 r145_24 r145_25 r145_26 r145_27 r145_28
theorem m145 : mFun Try.prog Try.f145 a145 = true := by decide +kernel
def c112_0 : ACode := .ops [⟨some 4, .mv (.c (.nils)), none, []⟩,
  ⟨some 5, .mv (.c (.nils)), none, []⟩] [0, 1]
theorem r112_0 : type_of% (@rr _ _ c112_0.eq_1) := rr c112_0.eq_1
def c112_1 : ACode := .ops [⟨some 9, .mv (.t 0), none, []⟩,
  ⟨some 10, .len (.t 9), none, []⟩,
  ⟨some 11, .mkrow 6 1 1 [.int .i64 0] [(0, 1, .t 10)], none, []⟩,
  ⟨some 6, .mv (.t 11), none, []⟩] [0, 1, 6]
theorem r112_1 : type_of% (@rr _ _ c112_1.eq_1) := rr c112_1.eq_1
def c112_2 : ACode := .ops [⟨some 13, .mv (.t 0), none, []⟩,
  ⟨some 14, .mv (.t 1), none, []⟩,
  ⟨some 15, .call 145 [.t 13, .t 14], none, []⟩,
  ⟨some 12, .mv (.t 15), none, []⟩,
  ⟨some 16, .ext (.t 12) 0, none, []⟩,
  ⟨some 17, .ext (.t 12) 1, none, []⟩,
  ⟨some 7, .mv (.t 16), none, []⟩,
  ⟨some 8, .mv (.t 17), none, []⟩] [0, 1, 6, 7, 8]
theorem r112_2 : type_of% (@rr _ _ c112_2.eq_1) := rr c112_2.eq_1
def c112_3 : ACode := .ops [⟨some 18, .mv (.t 8), none, []⟩,
  ⟨some 19, .un .not (.t 18), none, []⟩] [0, 1, 6, 7, 19]
theorem r112_3 : type_of% (@rr _ _ c112_3.eq_1) := rr c112_3.eq_1
def c112_4 : ACode := .ops [⟨some 20, .mv (.t 0), none, []⟩,
  ⟨some 21, .mv (.t 6), none, []⟩,
  ⟨some 4, .mv (.t 20), none, []⟩,
  ⟨some 5, .mv (.t 21), none, []⟩] [4, 5]
theorem r112_4 : type_of% (@rr _ _ c112_4.eq_1) := rr c112_4.eq_1
def c112_5 : ACode := .seq c112_4 .ret
theorem r112_5 : type_of% (@rr _ _ c112_5.eq_1) := rr c112_5.eq_1
def c112_6 : ACode := .cond (.t 19) c112_5 .skip
theorem r112_6 : type_of% (@rr _ _ c112_6.eq_1) := rr c112_6.eq_1
def c112_7 : ACode := .seq c112_3 c112_6
theorem r112_7 : type_of% (@rr _ _ c112_7.eq_1) := rr c112_7.eq_1
def c112_8 : ACode := .ops [⟨some 22, .mv (.t 7), none, []⟩,
  ⟨some 0, .mv (.t 22), none, []⟩] [0, 1, 6]
theorem r112_8 : type_of% (@rr _ _ c112_8.eq_1) := rr c112_8.eq_1
def c112_9 : ACode := .ops [⟨some 23, .mv (.t 6), none, []⟩,
  ⟨some 24, .mv (.t 0), none, []⟩,
  ⟨some 25, .len (.t 24), none, []⟩,
  ⟨some 26, .mkrow 26 1 1 [.int .i64 0] [(0, 1, .t 25)], none, []⟩,
  ⟨some 27, .app 6 [6] (.t 23) (.t 26) 1, none, [6, 26]⟩,
  ⟨some 6, .mv (.t 27), none, []⟩] [0, 1, 6]
theorem r112_9 : type_of% (@rr _ _ c112_9.eq_1) := rr c112_9.eq_1
def c112_10 : ACode := .seq c112_8 c112_9
theorem r112_10 : type_of% (@rr _ _ c112_10.eq_1) := rr c112_10.eq_1
def c112_11 : ACode := .seq c112_7 c112_10
theorem r112_11 : type_of% (@rr _ _ c112_11.eq_1) := rr c112_11.eq_1
def c112_12 : ACode := .seq c112_2 c112_11
theorem r112_12 : type_of% (@rr _ _ c112_12.eq_1) := rr c112_12.eq_1
def c112_13 : ACode := .block 1 c112_12
theorem r112_13 : type_of% (@rr _ _ c112_13.eq_1) := rr c112_13.eq_1
def c112_14 : ACode := .keep [0, 1, 6] [6] c112_13
theorem r112_14 : type_of% (@rr _ _ c112_14.eq_1) := rr c112_14.eq_1
def c112_15 : ACode := .loop c112_14
theorem r112_15 : type_of% (@rr _ _ c112_15.eq_1) := rr c112_15.eq_1
def c112_16 : ACode := .block 0 c112_15
theorem r112_16 : type_of% (@rr _ _ c112_16.eq_1) := rr c112_16.eq_1
def c112_17 : ACode := .seq c112_1 c112_16
theorem r112_17 : type_of% (@rr _ _ c112_17.eq_1) := rr c112_17.eq_1
def c112_18 : ACode := .seq c112_0 c112_17
theorem r112_18 : type_of% (@rr _ _ c112_18.eq_1) := rr c112_18.eq_1
def a112 : AFun := ⟨2, 28, c112_18, [.t 4, .t 5]⟩
attribute [simp] r112_0 r112_1 r112_2 r112_3 r112_4 r112_5 r112_6 r112_7 r112_8 r112_9 r112_10 r112_11 r112_12 r112_13 r112_14 r112_15 r112_16 r112_17 r112_18
theorem m112 : mFun Try.prog Try.f112 a112 = true := by decide +kernel
def c62_0 : ACode := .ops [⟨some 4, .box (.t 0) 6, none, []⟩,
  ⟨some 6, .box (.t 2) 10, none, []⟩,
  ⟨some 8, .mv (.c (.int .i64 0)), none, []⟩,
  ⟨some 9, .mv (.c (.int .i64 0)), none, []⟩,
  ⟨some 10, .mv (.c (.bool false)), none, []⟩] [1, 3, 4, 6]
theorem r62_0 : type_of% (@rr _ _ c62_0.eq_1) := rr c62_0.eq_1
def c62_1 : ACode := .ops [⟨some 21, .load 6 true (.t 4), none, [4]⟩,
  ⟨some 22, .mv (.t 1), none, []⟩,
  ⟨some 23, .load 10 true (.t 6), none, [6]⟩,
  ⟨some 24, .call 111 [.t 21, .t 22, .t 23], none, []⟩,
  ⟨some 20, .mv (.t 24), none, []⟩,
  ⟨some 25, .ext (.t 20) 0, none, []⟩,
  ⟨some 26, .ext (.t 20) 1, none, []⟩,
  ⟨some 11, .mv (.t 25), none, []⟩,
  ⟨some 12, .mv (.t 26), none, []⟩] [1, 3, 4, 11, 12]
theorem r62_1 : type_of% (@rr _ _ c62_1.eq_1) := rr c62_1.eq_1
def c62_2 : ACode := .ops [⟨some 27, .mv (.t 12), none, []⟩,
  ⟨some 28, .un .not (.t 27), none, []⟩] [1, 3, 4, 11, 28]
theorem r62_2 : type_of% (@rr _ _ c62_2.eq_1) := rr c62_2.eq_1
def c62_3 : ACode := .ops [⟨some 8, .mv (.c (.int .i64 0)), none, []⟩,
  ⟨some 9, .mv (.c (.int .i64 0)), none, []⟩,
  ⟨some 10, .mv (.c (.bool false)), none, []⟩] [8, 9, 10]
theorem r62_3 : type_of% (@rr _ _ c62_3.eq_1) := rr c62_3.eq_1
def c62_4 : ACode := .seq c62_3 .ret
theorem r62_4 : type_of% (@rr _ _ c62_4.eq_1) := rr c62_4.eq_1
def c62_5 : ACode := .cond (.t 28) c62_4 .skip
theorem r62_5 : type_of% (@rr _ _ c62_5.eq_1) := rr c62_5.eq_1
def c62_6 : ACode := .seq c62_2 c62_5
theorem r62_6 : type_of% (@rr _ _ c62_6.eq_1) := rr c62_6.eq_1
def c62_7 : ACode := .ops [⟨some 30, .mv (.t 11), none, []⟩,
  ⟨some 31, .mv (.t 3), none, []⟩,
  ⟨some 32, .call 112 [.t 30, .t 31], none, []⟩,
  ⟨some 29, .mv (.t 32), none, []⟩,
  ⟨some 33, .ext (.t 29) 0, none, []⟩,
  ⟨some 34, .ext (.t 29) 1, none, []⟩,
  ⟨some 11, .mv (.t 33), none, []⟩] [1, 4, 11]
theorem r62_7 : type_of% (@rr _ _ c62_7.eq_1) := rr c62_7.eq_1
def c62_8 : ACode := .ops [⟨some 35, .mv (.t 1), none, []⟩,
  ⟨some 36, .fad (.t 4) 2, none, [4]⟩,
  ⟨some 37, .iad (.t 36) (.t 35) 1 3, none, [4]⟩,
  ⟨some 38, .load 1 false (.t 37), none, [4]⟩,
  ⟨some 39, .mv (.t 1), none, []⟩,
  ⟨some 40, .fad (.t 4) 2, none, [4]⟩,
  ⟨some 41, .iad (.t 40) (.t 39) 1 3, none, [4]⟩,
  ⟨some 42, .load 1 false (.t 41), none, [4]⟩,
  ⟨some 13, .mv (.t 38), none, []⟩,
  ⟨some 14, .mv (.t 42), none, []⟩] [11, 13, 14]
theorem r62_8 : type_of% (@rr _ _ c62_8.eq_1) := rr c62_8.eq_1
def c62_9 : ACode := .ops [⟨some 43, .mv (.t 11), none, []⟩,
  ⟨some 44, .len (.t 43), none, []⟩,
  ⟨some 45, .mv (.c (.int .i64 0)), none, []⟩] [11, 13, 14, 43, 44, 45]
theorem r62_9 : type_of% (@rr _ _ c62_9.eq_1) := rr c62_9.eq_1
def c62_10 : ACode := .ops [⟨some 46, .bin .lss (.t 45) (.t 44), none, []⟩] [11, 13, 14, 43, 44, 45, 46]
theorem r62_10 : type_of% (@rr _ _ c62_10.eq_1) := rr c62_10.eq_1
def c62_11 : ACode := .cond (.t 46) .skip (.exit 0)
theorem r62_11 : type_of% (@rr _ _ c62_11.eq_1) := rr c62_11.eq_1
def c62_12 : ACode := .ops [⟨some 47, .ias (.t 43) (.t 45) 1, none, []⟩,
  ⟨some 48, .load 1 false (.t 47), none, []⟩,
  ⟨some 16, .mv (.t 48), none, []⟩] [11, 13, 14, 16, 43, 44, 45]
theorem r62_12 : type_of% (@rr _ _ c62_12.eq_1) := rr c62_12.eq_1
def c62_13 : ACode := .ops [⟨some 50, .mv (.t 16), none, []⟩,
  ⟨some 51, .call 113 [.t 50], none, []⟩,
  ⟨some 49, .mv (.t 51), none, []⟩,
  ⟨some 52, .ext (.t 49) 0, none, []⟩,
  ⟨some 53, .ext (.t 49) 1, none, []⟩,
  ⟨some 54, .ext (.t 49) 2, none, []⟩,
  ⟨some 17, .mv (.t 52), none, []⟩,
  ⟨some 18, .mv (.t 53), none, []⟩,
  ⟨some 19, .mv (.t 54), none, []⟩] [11, 13, 14, 17, 18, 43, 44, 45]
theorem r62_13 : type_of% (@rr _ _ c62_13.eq_1) := rr c62_13.eq_1
def c62_14 : ACode := .ops [⟨some 55, .mv (.t 13), none, []⟩,
  ⟨some 56, .mv (.t 17), none, []⟩,
  ⟨some 57, .bin .add (.t 55) (.t 56), none, []⟩,
  ⟨some 58, .mv (.t 14), none, []⟩,
  ⟨some 59, .mv (.t 18), none, []⟩,
  ⟨some 60, .bin .add (.t 58) (.t 59), none, []⟩,
  ⟨some 13, .mv (.t 57), none, []⟩,
  ⟨some 14, .mv (.t 60), none, []⟩] [11, 13, 14, 43, 44, 45]
theorem r62_14 : type_of% (@rr _ _ c62_14.eq_1) := rr c62_14.eq_1
def c62_15 : ACode := .seq c62_13 c62_14
theorem r62_15 : type_of% (@rr _ _ c62_15.eq_1) := rr c62_15.eq_1
def c62_16 : ACode := .seq c62_12 c62_15
theorem r62_16 : type_of% (@rr _ _ c62_16.eq_1) := rr c62_16.eq_1
def c62_17 : ACode := .block 1 c62_16
theorem r62_17 : type_of% (@rr _ _ c62_17.eq_1) := rr c62_17.eq_1
def c62_18 : ACode := .ops [⟨some 61, .bin .add (.t 45) (.c (.int .i64 1)), none, []⟩,
  ⟨some 45, .mv (.t 61), none, []⟩] [11, 13, 14, 43, 44, 45]
theorem r62_18 : type_of% (@rr _ _ c62_18.eq_1) := rr c62_18.eq_1
def c62_19 : ACode := .seq c62_17 c62_18
theorem r62_19 : type_of% (@rr _ _ c62_19.eq_1) := rr c62_19.eq_1
def c62_20 : ACode := .seq c62_11 c62_19
theorem r62_20 : type_of% (@rr _ _ c62_20.eq_1) := rr c62_20.eq_1
def c62_21 : ACode := .seq c62_10 c62_20
theorem r62_21 : type_of% (@rr _ _ c62_21.eq_1) := rr c62_21.eq_1
def c62_22 : ACode := .keep [11, 13, 14, 43, 44, 45] [] c62_21
theorem r62_22 : type_of% (@rr _ _ c62_22.eq_1) := rr c62_22.eq_1
def c62_23 : ACode := .loop c62_22
theorem r62_23 : type_of% (@rr _ _ c62_23.eq_1) := rr c62_23.eq_1
def c62_24 : ACode := .block 0 c62_23
theorem r62_24 : type_of% (@rr _ _ c62_24.eq_1) := rr c62_24.eq_1
def c62_25 : ACode := .seq c62_9 c62_24
theorem r62_25 : type_of% (@rr _ _ c62_25.eq_1) := rr c62_25.eq_1
def c62_26 : ACode := .ops [⟨some 62, .mv (.t 13), none, []⟩,
  ⟨some 63, .mv (.t 14), none, []⟩,
  ⟨some 64, .mv (.t 11), none, []⟩,
  ⟨some 65, .len (.t 64), none, []⟩,
  ⟨some 66, .bin .leq (.t 65) (.c (.int .i64 1)), none, []⟩,
  ⟨some 8, .mv (.t 62), none, []⟩,
  ⟨some 9, .mv (.t 63), none, []⟩,
  ⟨some 10, .mv (.t 66), none, []⟩] [8, 9, 10]
theorem r62_26 : type_of% (@rr _ _ c62_26.eq_1) := rr c62_26.eq_1
def c62_27 : ACode := .seq c62_26 .ret
theorem r62_27 : type_of% (@rr _ _ c62_27.eq_1) := rr c62_27.eq_1
def c62_28 : ACode := .seq c62_25 c62_27
theorem r62_28 : type_of% (@rr _ _ c62_28.eq_1) := rr c62_28.eq_1
def c62_29 : ACode := .seq c62_8 c62_28
theorem r62_29 : type_of% (@rr _ _ c62_29.eq_1) := rr c62_29.eq_1
def c62_30 : ACode := .seq c62_7 c62_29
theorem r62_30 : type_of% (@rr _ _ c62_30.eq_1) := rr c62_30.eq_1
def c62_31 : ACode := .seq c62_6 c62_30
theorem r62_31 : type_of% (@rr _ _ c62_31.eq_1) := rr c62_31.eq_1
def c62_32 : ACode := .seq c62_1 c62_31
theorem r62_32 : type_of% (@rr _ _ c62_32.eq_1) := rr c62_32.eq_1
def c62_33 : ACode := .seq c62_0 c62_32
theorem r62_33 : type_of% (@rr _ _ c62_33.eq_1) := rr c62_33.eq_1
def a62 : AFun := ⟨4, 67, c62_33, [.t 8, .t 9, .t 10]⟩
attribute [simp] r62_0 r62_1 r62_2 r62_3 r62_4 r62_5 r62_6 r62_7 r62_8 r62_9 r62_10 r62_11 r62_12 r62_13 r62_14 r62_15 r62_16 r62_17 r62_18 r62_19 r62_20 r62_21 r62_22 r62_23 r62_24 r62_25 r62_26 r62_27 r62_28 r62_29 r62_30 r62_31 r62_32 r62_33
theorem m62 : mFun Try.prog Try.f62 a62 = true := by decide +kernel
def c116_0 : ACode := .ops [⟨some 4, .box (.t 0) 6, none, []⟩,
  ⟨some 6, .box (.t 2) 10, none, []⟩,
  ⟨some 8, .mv (.c (.nils)), none, []⟩] [1, 3, 4, 6]
def c116_1 : ACode := .ops [⟨some 14, .load 6 true (.t 4), none, [4]⟩,
  ⟨some 15, .mv (.t 1), none, []⟩,
  ⟨some 16, .load 10 true (.t 6), none, [6]⟩,
  ⟨some 17, .call 111 [.t 14, .t 15, .t 16], none, []⟩,
  ⟨some 13, .mv (.t 17), none, []⟩,
  ⟨some 18, .ext (.t 13) 0, none, []⟩,
  ⟨some 19, .ext (.t 13) 1, none, []⟩,
  ⟨some 9, .mv (.t 18), none, []⟩,
  ⟨some 10, .mv (.t 19), none, []⟩] [3, 9, 10]
def c116_2 : ACode := .ops [⟨some 20, .mv (.t 10), none, []⟩,
  ⟨some 21, .un .not (.t 20), none, []⟩] [3, 9, 21]
def c116_3 : ACode := .ops [⟨some 8, .mv (.c (.nils)), none, []⟩] [8]
def c116_4 : ACode := .seq c116_3 .ret
def c116_5 : ACode := .cond (.t 21) c116_4 .skip
def c116_6 : ACode := .seq c116_2 c116_5
def c116_7 : ACode := .ops [⟨some 23, .mv (.t 9), none, []⟩,
  ⟨some 24, .mv (.t 3), none, []⟩,
  ⟨some 25, .call 112 [.t 23, .t 24], none, []⟩,
  ⟨some 22, .mv (.t 25), none, []⟩,
  ⟨some 26, .ext (.t 22) 0, none, []⟩,
  ⟨some 27, .ext (.t 22) 1, none, []⟩,
  ⟨some 11, .mv (.t 26), none, []⟩,
  ⟨some 12, .mv (.t 27), none, []⟩] [12]
def c116_8 : ACode := .ops [⟨some 28, .mv (.t 12), none, []⟩,
  ⟨some 8, .mv (.t 28), none, []⟩] [8]
def c116_9 : ACode := .seq c116_8 .ret
def c116_10 : ACode := .seq c116_7 c116_9
def c116_11 : ACode := .seq c116_6 c116_10
def c116_12 : ACode := .seq c116_1 c116_11
def c116_13 : ACode := .seq c116_0 c116_12
def a116 : AFun := ⟨4, 29, c116_13, [.t 8]⟩
theorem m116 : mFun Try.prog Try.f116 a116 = true := by decide +kernel
noncomputable def EndsG (ps : List Piece) : Option (Tri Int Int Bool) := Part (ps.length ≤ 1073741824) (ends ps)
set_option maxHeartbeats 1000000 in
theorem runs_cEnds (ps : List Piece) (c : Tri Int Int Bool) (h : EndsG ps = some c) : Runs (tbl []) a113 [Arg.enc ps] (Arg.enc c) := by
  obtain ⟨hl, rfl⟩ := part_some h
  clear h
  refine ⟨rfl, fun g => run_def ?_⟩
  unfold a113
  have b3 : ps.length ≤ maxN := by unfold maxN; omega
  cases ps with
  | nil => simp -implicitDefEqProofs [ends, encL_nil]
  | cons x xs =>
    have hne : ¬ ((x :: xs).length : Int) = 0 := by simp; omega
    have hnn : x :: xs ≠ [] := by simp
    have r0 : rd (encL (x :: xs)) 10 1 false = some (.int .i64 x.value) := rd_piece10 (x :: xs) 0 (by simp)
    have hpos : 0 < (x :: xs).length := by simp
    have he : ends (x :: xs) = ⟨((x :: xs).foldl endF (x.value, x.value)).1, ((x :: xs).foldl endF (x.value, x.value)).2, true⟩ := rfl
    rw [he]
    generalize x :: xs = ps at *
    simp -implicitDefEqProofs [b3, hne, r0, hpos]
    refine ⟨hnn, fun _ => ?_⟩
    refine run_while (c := c113_17) (fun n s => ∃ (i : Nat), i + n = ps.length ∧ s = ⟨[(5, .int .i64 ((ps.take i).foldl endF (x.value, x.value)).1), (6, .int .i64 ((ps.take i).foldl endF (x.value, x.value)).2), (20, .lst ps.length (encL ps)), (21, .int .i64 ps.length), (22, .int .i64 i)], [], s.g⟩) ps.length ⟨0, by omega, by simp⟩ ?_
    rintro n s ⟨i, hi, hs⟩
    rw [hs]
    have w1 : IntKind.i64.wrap ((i : Int) + 1) = (i : Int) + 1 := wrap64 (by omega) (by omega)
    by_cases h1 : i < ps.length
    case pos =>
      have hrow := rd_piece ps i h1
      have hs2 : (ps.take (i + 1)).foldl endF (x.value, x.value) = endF ((ps.take i).foldl endF (x.value, x.value)) ps[i] := by
        rw [List.take_succ_eq_append_getElem h1, List.foldl_append]
        rfl
      simp -implicitDefEqProofs [h1, hrow, w1]
      exact ⟨n - 1, by omega, i + 1, by omega, by rw [hs2]; rfl, by rw [hs2]; rfl, by omega⟩
    case neg =>
      have hil : i = ps.length := by omega
      subst hil
      simp -implicitDefEqProofs [h1]
theorem c_cEnds : Contract Try.prog 113 (sp1 EndsG) :=
  contract_of_runs mixed tbl_nil Try.func113 m113 (sp1_runs runs_cEnds)
theorem takeG {l : List (List Piece)} : List.take l.length (encL l) = encL l := take_rows _ _ (by simp)
theorem lenG {l : List (List Piece)} : (encL l).length = l.length := by rw [encL_length]; simp
noncomputable def StartC (m : Model) (c : Int) (b : Box) : Option (List (List Piece) × Bool) := Part (RM m ∧ okB b) (startP m c b)
def startTo (m : Model) (c : Int) (b : Box) (i : Nat) : List (List Piece) := ((m.trees.take i).filter fun t => decide (t.cls = c)).map fun t => pieces t.nodes b
theorem startTo_len (m : Model) (c : Int) (b : Box) (i : Nat) : (startTo m c b i).length ≤ i := by
  unfold startTo
  rw [List.length_map]
  have := List.length_filter_le (fun t : Tree => decide (t.cls = c)) (m.trees.take i)
  have := List.length_take_le i m.trees
  omega
set_option maxHeartbeats 1000000 in
theorem runs_lstart (m : Model) (c : Int) (b : Box) (r : List (List Piece) × Bool) (h : StartC m c b = some r) : Runs (tbl [(63, sp3 BoundS), (29, sp2 ListC)]) a111 [Arg.enc m, Arg.enc c, Arg.enc b] (Arg.enc r) := by
  obtain ⟨⟨hr, hb⟩, rfl⟩ := part_some h
  refine ⟨rfl, fun g => run_def ?_⟩
  unfold a111
  have hS : BoundS m c b = some (boundM m c b) := part_of ⟨hr, hb⟩ _
  by_cases hbad : c < 0 ∨ m.classes ≤ c ∨ b.empty = true
  case pos =>
    unfold boundM at hS
    rw [if_pos hbad] at hS
    have hp : startP m c b = ([], false) := by unfold startP; rw [if_pos hbad]
    rw [hp]
    simp -implicitDefEqProofs [hS, encL_nil]
  unfold boundM at hS
  rw [if_neg hbad] at hS
  have hp : startP m c b = (startG m c b, true) := by unfold startP; rw [if_neg hbad]
  rw [hp]
  have hle := hr.trees
  have b3 : m.trees.length ≤ maxN := by unfold maxN; omega
  simp -implicitDefEqProofs [hS, b3]
  refine run_while (c := c111_22) (fun n s => ∃ (i : Nat) (g : Nat → Nat), i + n = m.trees.length ∧ s = ⟨[(1, .int .i64 c), (5, .ptr 5 (g 5) 0), (11, .own 11 (g 11) 0 (startTo m c b i).length), (25, .lst m.trees.length (encL m.trees)), (26, .int .i64 m.trees.length), (27, .int .i64 i)],
    [(5, ⟨Row.enc b, false, 0⟩), (11, ⟨encL (startTo m c b i), false, 1⟩)], g⟩) m.trees.length ⟨0, bump 11 (bump 5 (bump 3 g)), by omega, by simp [startTo, encL_nil]⟩ ?_
  rintro n s ⟨i, g, hi, rfl⟩
  have hl := startTo_len m c b i
  by_cases h1 : i < m.trees.length
  case neg =>
    have hil : i = m.trees.length := by omega
    subst hil
    have hst : startTo m c b m.trees.length = startG m c b := by unfold startTo startG; rw [List.take_length]
    rw [hst] at hl ⊢
    have nn : (startG m c b).length ≤ maxN := by unfold maxN; omega
    simp -implicitDefEqProofs [h1, nn, lenG, takeG]
  have w1 : IntKind.i64.wrap ((i : Int) + 1) = (i : Int) + 1 := wrap64 (by omega) (by omega)
  have hrow := rd_tree m.trees i h1
  have hrt := hr.rt (List.getElem_mem h1)
  have he : b.empty = false := by simpa using fun h => hbad (.inr (.inr h))
  have hL : ListC m.trees[i].nodes b = some (pieces m.trees[i].nodes b) := by
    unfold ListC
    rw [part_of ⟨⟨_, hrt⟩, hb⟩, he]
    rfl
  have hpl : (pieces m.trees[i].nodes b).length ≤ maxN := by
    have h1 : (pieces m.trees[i].nodes b).length ≤ m.trees[i].nodes.length := piecesTo_len m.trees[i].nodes b m.trees[i].nodes.length
    have := hrt.le
    unfold maxN; omega
  by_cases hc : m.trees[i].cls = c
  case neg =>
    have hst : startTo m c b (i + 1) = startTo m c b i := by
      unfold startTo
      rw [List.take_succ_eq_append_getElem h1, List.filter_append]
      simp [hc]
    simp -implicitDefEqProofs [h1, hrow, w1, hc]
    exact ⟨n - 1, by omega, i + 1, by omega, ⟨by rw [hst], by omega⟩, by rw [hst]⟩
  case pos =>
    have hst : startTo m c b (i + 1) = startTo m c b i ++ [pieces m.trees[i].nodes b] := by
      unfold startTo
      rw [List.take_succ_eq_append_getElem h1, List.filter_append]
      simp [hc]
    have nn : (startTo m c b i).length ≤ 1099511627775 := by omega
    have nn2 : (startTo m c b i).length ≤ maxN := by unfold maxN; omega
    have hE : encL (startTo m c b (i + 1)) = encL (startTo m c b i) ++ [.lst (pieces m.trees[i].nodes b).length (encL (pieces m.trees[i].nodes b))] := by rw [hst, encL_append, encL_cons, encL_nil, List.append_nil]; rfl
    have h2 : (startTo m c b (i + 1)).length = (startTo m c b i).length + 1 := by rw [hst]; simp
    simp -implicitDefEqProofs [h1, hrow, w1, hc, hL, hpl, nn, nn2, lenG, takeG]
    exact ⟨n - 1, by omega, i + 1, by omega, ⟨by omega, by omega⟩, by rw [hE]⟩
theorem c_lstart : Contract Try.prog 111 (sp3 StartC) :=
  contract_of_runs mixed (tbl_cons c_bSum (tbl_cons c_List tbl_nil)) Try.func111 m111 (sp3_runs runs_lstart)
noncomputable def LevelC (gs : List (List Piece)) (most : Int) : Option (List (List Piece) × Bool) := Part (smallG 60 gs ∧ gs.length ≤ 1000 ∧ 0 ≤ most ∧ most ≤ 1073741824) (levelP most gs)
theorem encG (g : List Piece) (gs : List (List Piece)) : encL (g :: gs) = .lst g.length (encL g) :: encL gs := rfl
theorem smallG.okG {k : Nat} (hk : k ≤ 61) {gs : List (List Piece)} (h : smallG k gs) {g : List Piece} (hg : g ∈ gs) : okG g := (h.up hk) g hg
set_option maxHeartbeats 4000000 in
theorem runs_level (gs : List (List Piece)) (most : Int) (r : List (List Piece) × Bool) (h : LevelC gs most = some r) : Runs (tbl [(161, sp3 MeetC)]) a145 [Arg.enc gs, Arg.enc most] (Arg.enc r) := by
  obtain ⟨⟨hs, hl, m0, m1⟩, rfl⟩ := part_some h
  clear h
  refine ⟨rfl, fun g => run_def ?_⟩
  unfold a145
  simp -implicitDefEqProofs []
  refine run_while (c := c145_19) (fun n s => ∃ (rest done : List (List Piece)) (made : Bool) (g : Nat → Nat), n = rest.length ∧ (∀ x ∈ rest, x ∈ gs) ∧ rest.length + done.length ≤ 1000 ∧ done ++ (levelP most rest).1 = (levelP most gs).1 ∧ (made || (levelP most rest).2) = (levelP most gs).2 ∧ s = ⟨[(0, .lst rest.length (encL rest)), (1, .int .i64 most), (6, .own 6 (g 6) 0 done.length), (7, .bool made)],
    [(6, ⟨encL done, false, 1⟩)], g⟩) gs.length ⟨gs, [], false, bump 6 g, rfl, fun x hx => hx, by simp; omega, by simp, by simp, by simp [encL_nil]⟩ ?_
  rintro n s ⟨rest, done, made, g, hn, hin, hll, hd, hm, rfl⟩
  have nn : done.length ≤ maxN := by unfold maxN; omega
  have nn2 : done.length ≤ 1099511627775 := by omega
  match rest, hn, hin, hll, hd, hm with
  | [], hn, hin, hll, hd, hm =>
    simp [levelP] at hd hm
    subst hd hm
    simp -implicitDefEqProofs [nn, lenG, takeG]
  | [g1], hn, hin, hll, hd, hm =>
    simp [levelP] at hd hm
    have hE : encL (done ++ [g1]) = encL done ++ [AV.lst g1.length (encL g1)] := by simp [encL_append, encL_cons, encL_nil]
    have x1 : 1 ≤ maxN := by decide
    have hn1 : n = 1 := hn
    cases made <;> simp -implicitDefEqProofs [nn, nn2, lenG, takeG, encG, x1]
    · exact ⟨0, by omega, [], rfl, by simp, done ++ [g1], by simp at hll ⊢; omega, by simpa [levelP] using hd, by simpa [levelP] using hm, ⟨⟨rfl, rfl⟩, by simp⟩, by rw [hE]⟩
    · exact ⟨0, by omega, [], rfl, by simp, done ++ [g1], by simp at hll ⊢; omega, by simpa [levelP] using hd, by simpa [levelP] using hm, ⟨⟨rfl, rfl⟩, by simp⟩, by rw [hE]⟩
  | g1 :: g2 :: rest, hn, hin, hll, hd, hm =>
    have hM : MeetC g1 g2 most = some (meetP g1 g2 most) := part_of ⟨hs.okG (by omega) (hin _ (by simp)), hs.okG (by omega) (hin _ (by simp)), m0, m1⟩ _
    unfold meetP at hM
    rw [levelP] at hd hm
    have hn1 : n = rest.length + 1 + 1 := by simpa using hn
    have hl2 : rest.length + 1 + 1 + done.length ≤ 1000 := by simpa using hll
    have x1 : rest.length + 1 + 1 ≤ maxN := by unfold maxN; omega
    have x2 : (0 : Int) < (rest.length : Int) + 1 + 1 := by omega
    have x3 : (1 : Int) < (rest.length : Int) + 1 + 1 := by omega
    have x4 : (2 : Int) ≤ (rest.length : Int) + 1 + 1 := by omega
    have x5 : (1 : Int) ≤ (rest.length : Int) + 1 + 1 := by omega
    have x6 : rest.length + 1 ≤ maxN := by unfold maxN; omega
    have x7 : rest.length ≤ maxN := by unfold maxN; omega
    by_cases hc : ((prod g1 g2).length : Int) ≤ most
    case pos =>
      rw [if_pos hc] at hd hm hM
      have nP : (prod g1 g2).length ≤ maxN := by unfold maxN; omega
      have hE : encL (done ++ [prod g1 g2]) = encL done ++ [AV.lst (prod g1 g2).length (encL (prod g1 g2))] := by simp [encL_append, encL_cons, encL_nil]
      simp -implicitDefEqProofs [nn, nn2, lenG, takeG, encG, hM, x1, x2, x3, x4, x5, x6, x7, nP]
      refine ⟨rest.length, by omega, rest, rfl, fun x hx => hin x (by simp [hx]), done ++ [prod g1 g2], by simp; omega, by simpa using hd, by simpa using hm, ⟨⟨by omega, ?_⟩, by simp⟩, by rw [hE]⟩
      try rfl
    case neg =>
      rw [if_neg hc] at hd hm hM
      have hE : encL (done ++ [g1]) = encL done ++ [AV.lst g1.length (encL g1)] := by simp [encL_append, encL_cons, encL_nil]
      cases made <;> simp -implicitDefEqProofs [nn, nn2, lenG, takeG, encG, hM, x1, x2, x3, x4, x5, x6, x7]
      all_goals refine ⟨rest.length + 1, by omega, g2 :: rest, rfl, fun x hx => hin x (by simp at hx; simp [hx]), done ++ [g1], by simp; omega, by simpa using hd, ?_⟩
      · exact ⟨by simpa using hm, ⟨⟨rfl, rfl⟩, by simp⟩, by rw [hE]⟩
      · exact ⟨by simpa using hm, ⟨⟨rfl, rfl⟩, by simp⟩, by rw [hE]⟩
theorem c_level : Contract Try.prog 145 (sp2 LevelC) :=
  contract_of_runs mixed (tbl_cons c_cMeet tbl_nil) Try.func145 m145 (sp2_runs runs_level)
theorem lenI {l : List Int} : (encL l).length = l.length := by rw [encL_length]; simp [Row.sz]
theorem takeI {l : List Int} : List.take l.length (encL l) = encL l := take_rows _ _ (by simp [Row.sz])
noncomputable def ClimbC (gs : List (List Piece)) (most : Int) : Option (List (List Piece) × List Int) := Part (smallG 40 gs ∧ gs.length ≤ 8 ∧ 0 ≤ most ∧ most ≤ 1073741824) (climb most gs)
set_option maxHeartbeats 4000000 in
theorem runs_climb (gs : List (List Piece)) (most : Int) (r : List (List Piece) × List Int) (h : ClimbC gs most = some r) : Runs (tbl [(145, sp2 LevelC)]) a112 [Arg.enc gs, Arg.enc most] (Arg.enc r) := by
  obtain ⟨⟨hs, hl, m0, m1⟩, rfl⟩ := part_some h
  clear h
  refine ⟨rfl, fun g => run_def ?_⟩
  unfold a112
  have n0 : gs.length ≤ maxN := by unfold maxN; omega
  simp -implicitDefEqProofs [n0]
  have e1 : ∀ n : Int, [AV.int .i64 n] = encL [n] := fun n => rfl
  refine run_while (c := c112_13) (fun n s => ∃ (cur : List (List Piece)) (pre cs : List Int) (f : Nat) (g : Nat → Nat), n = cur.length ∧ cur.length ≤ f ∧ cs = pre ++ [(cur.length : Int)] ∧ pre.length + cur.length ≤ 8 ∧ smallG (48 - cur.length) cur ∧ (climbP most f cur).1 = (climb most gs).1 ∧ pre ++ (climbP most f cur).2 = (climb most gs).2 ∧ s = ⟨[(0, .lst cur.length (encL cur)), (1, .int .i64 most), (6, .own 6 (g 6) 0 cs.length)],
    [(6, ⟨encL cs, false, 1⟩)], g⟩) gs.length ⟨gs, [], [(gs.length : Int)], gs.length, bump 6 g, rfl, by omega, rfl, by simp; omega, hs.up (by omega), rfl, rfl, by simp [e1]⟩ ?_
  rintro n s ⟨cur, pre, cs, f, g, hn, hf, hcs, hc8, hsm, hr1, hr2, rfl⟩
  have hV : LevelC cur most = some (levelP most cur) := part_of ⟨hsm.up (by omega), by omega, m0, m1⟩ _
  have hlen := level_len (most := most) cur
  have hcl : cs.length = pre.length + 1 := by rw [hcs]; simp
  have n1 : cur.length ≤ maxN := by unfold maxN; omega
  have n2 : cs.length ≤ maxN := by unfold maxN; omega
  have n3 : cs.length ≤ 1099511627775 := by omega
  have hstep := level_small (k := 48 - cur.length) m1 cur hsm
  cases hmd : (levelP most cur).2
  case false =>
    have hcl : climbP most f cur = (cur, [(cur.length : Int)]) := by
      cases f with
      | zero => rfl
      | succ f => rw [climbP, if_neg (by simp [hmd])]
    rw [hcl] at hr1 hr2
    simp only at hr1 hr2
    have hres : climb most gs = (cur, cs) := by rw [hcs]; exact Prod.ext hr1.symm hr2.symm
    rw [hres]
    have hV2 : LevelC cur most = some ((levelP most cur).1, false) := by rw [hV, ← hmd]
    simp -implicitDefEqProofs [hV2, n1, n2, lenI, takeI]
  case true =>
    have hlt := hlen.2.2.1 hmd
    obtain ⟨f, rfl⟩ : ∃ f', f = f' + 1 := ⟨f - 1, by omega⟩
    rw [climbP, if_pos hmd] at hr1 hr2
    have hV2 : LevelC cur most = some ((levelP most cur).1, true) := by rw [hV, ← hmd]
    generalize (levelP most cur).1 = nx at *
    have n4 : nx.length ≤ maxN := by unfold maxN; omega
    have hE : encL (cs ++ [(nx.length : Int)]) = encL cs ++ [.int .i64 nx.length] := by rw [encL_append]; rfl
    simp -implicitDefEqProofs [hV2, n1, n2, n3, n4, lenI, takeI]
    refine ⟨nx.length, by omega, nx, rfl, cs, cs ++ [(nx.length : Int)], f, by omega, rfl, by omega, ?_, hr1, ?_, ⟨⟨rfl, rfl⟩, by simp⟩, by rw [hE]⟩
    · exact hstep.up (by omega)
    · rw [← hr2, hcs]; simp
theorem c_climb : Contract Try.prog 112 (sp2 ClimbC) :=
  contract_of_runs mixed (tbl_cons c_level tbl_nil) Try.func112 m112 (sp2_runs runs_climb)
theorem startG_len {m : Model} (h : RM m) (c : Int) (b : Box) : (startG m c b).length ≤ 8 := by
  have h1 := startTo_len m c b m.trees.length
  have h2 : startTo m c b m.trees.length = startG m c b := by unfold startTo startG; rw [List.take_length]
  rw [h2] at h1
  have := h.trees
  omega
theorem mem_startG {m : Model} {c : Int} {b : Box} {g : List Piece} (h : g ∈ startG m c b) : ∃ t ∈ m.trees, t.cls = c ∧ g = pieces t.nodes b := by
  unfold startG at h
  simp only [List.mem_map, List.mem_filter, decide_eq_true_eq] at h
  obtain ⟨t, ⟨ht, hc⟩, rfl⟩ := h
  exact ⟨t, ht, hc, rfl⟩
theorem startG_small {m : Model} (h : RM m) (c : Int) (b : Box) : smallG 31 (startG m c b) := by
  intro g hg
  obtain ⟨t, ht, _, rfl⟩ := mem_startG hg
  have hrt := h.rt ht
  refine ⟨fun x hx => ?_, ?_⟩
  · have := of_fits (piece_fits hrt hx)
    have p : (2 : Int) ^ 31 = 2147483648 := by decide
    omega
  · have h1 : (pieces t.nodes b).length ≤ t.nodes.length := piecesTo_len t.nodes b t.nodes.length
    have := hrt.le
    omega
theorem climbP_small {most : Int} (hm : most ≤ 1073741824) : ∀ (f k : Nat) (gs : List (List Piece)), smallG k gs → gs.length ≤ f + 1 → smallG (k + gs.length) (climbP most f gs).1 ∧ (climbP most f gs).1.length ≤ gs.length
  | 0, k, gs, h, _ => ⟨h.up (by omega), Nat.le_refl _⟩
  | f + 1, k, gs, h, hl => by
    rw [climbP]
    split
    · rename_i hmd
      have h1 := (level_len (most := most) gs).2.2.1 hmd
      have h2 := climbP_small hm f (k + 1) (levelP most gs).1 (level_small hm gs h) (by omega)
      exact ⟨h2.1.up (by omega), by have := h2.2; simp only; omega⟩
    · exact ⟨h.up (by omega), Nat.le_refl _⟩
theorem ends_small {k : Nat} {g : List Piece} (h : ∀ x ∈ g, -(2 : Int) ^ k ≤ x.value ∧ x.value ≤ (2 : Int) ^ k) : -(2 : Int) ^ k ≤ (ends g).a ∧ (ends g).a ≤ (2 : Int) ^ k ∧ -(2 : Int) ^ k ≤ (ends g).b ∧ (ends g).b ≤ (2 : Int) ^ k := by
  have hp : (0 : Int) ≤ (2 : Int) ^ k := Int.pow_nonneg (by decide)
  by_cases hg : g = []
  · subst hg
    have : ends [] = ⟨0, 0, false⟩ := rfl
    rw [this]
    simp only
    omega
  · obtain ⟨_, _, ⟨x, hx, h3⟩, ⟨y, hy, h4⟩⟩ := ends_spec hg
    have h1 := h x hx
    have h2 := h y hy
    omega
theorem range_le {gs : List (List Piece)} (h : smallG 40 gs) : ∀ (a : Int × Int), a.1 - gs.length * 1099511627776 ≤ (gs.foldl rangeF a).1 ∧ (gs.foldl rangeF a).1 ≤ a.1 + gs.length * 1099511627776 ∧ a.2 - gs.length * 1099511627776 ≤ (gs.foldl rangeF a).2 ∧ (gs.foldl rangeF a).2 ≤ a.2 + gs.length * 1099511627776 := by
  induction gs with
  | nil => intro a; simp
  | cons g gs ih =>
    intro a
    have h1 := ends_small (h g (by simp)).1
    have p : (2 : Int) ^ 40 = 1099511627776 := by decide
    have h2 := ih (fun x hx => h x (by simp [hx])) (rangeF a g)
    rw [List.foldl_cons]
    unfold rangeF at h2
    unfold rangeF
    simp only [List.length_cons] at *
    omega
noncomputable def RangeC (m : Model) (c : Int) (b : Box) (most : Int) : Option (Tri Int Int Bool) := Part (RM m ∧ okB b ∧ 0 ≤ most ∧ most ≤ 1073741824) (rangeP m c b most)
theorem rdG (l : List (List Piece)) (i : Nat) (h : i < l.length) : rd (encL l) i 1 false = some (.lst l[i].length (encL l[i])) := by
  have := rd_cell l i 0 h (by simp)
  simpa using this
set_option maxHeartbeats 1000000 in
theorem runs_lrange (m : Model) (c : Int) (b : Box) (most : Int) (r : Tri Int Int Bool) (h : RangeC m c b most = some r) : Runs (tbl [(111, sp3 StartC), (112, sp2 ClimbC), (113, sp1 EndsG)]) a62 [Arg.enc m, Arg.enc c, Arg.enc b, Arg.enc most] (Arg.enc r) := by
  obtain ⟨⟨hr, hb, m0, m1⟩, rfl⟩ := part_some h
  refine ⟨rfl, fun g => run_def ?_⟩
  unfold a62
  have hS : StartC m c b = some (startP m c b) := part_of ⟨hr, hb⟩ _
  have hC : ClimbC (startG m c b) most = some (climb most (startG m c b)) := part_of ⟨(startG_small hr c b).up (by omega), startG_len hr c b, m0, m1⟩ _
  unfold startP at hS
  unfold rangeP
  by_cases hbad : c < 0 ∨ m.classes ≤ c ∨ b.empty = true
  case pos =>
    rw [if_pos hbad] at hS ⊢
    simp -implicitDefEqProofs [hS, encL_nil]
  rw [if_neg hbad] at hS ⊢
  have hsl := startG_len hr c b
  have hcs := climbP_small m1 (startG m c b).length 31 (startG m c b) (startG_small hr c b) (by omega)
  have hcs1 : smallG 40 (climb most (startG m c b)).1 := hcs.1.up (by omega)
  have hcs2 : (climb most (startG m c b)).1.length ≤ 8 := by have : (climb most (startG m c b)).1.length ≤ (startG m c b).length := hcs.2; omega
  clear hcs
  generalize climb most (startG m c b) = z at *
  obtain ⟨gs, counts⟩ := z
  simp only at *
  have c0 : 0 ≤ c := by omega
  have c3 : c < 3 := by have := hr.classes; omega
  have b3 : gs.length ≤ maxN := by unfold maxN; omega
  simp -implicitDefEqProofs [hS, hC, c0, c3, b3]
  refine run_while (c := c62_21) (fun n s => ∃ (i : Nat), i + n = gs.length ∧ s = ⟨[(11, .lst gs.length (encL gs)), (13, .int .i64 ((gs.take i).foldl rangeF (m.bias.get c, m.bias.get c)).1), (14, .int .i64 ((gs.take i).foldl rangeF (m.bias.get c, m.bias.get c)).2), (43, .lst gs.length (encL gs)), (44, .int .i64 gs.length), (45, .int .i64 i)], [], s.g⟩) gs.length ⟨0, by omega, by simp⟩ ?_
  rintro n s ⟨i, hi, hs⟩
  rw [hs]
  have w1 : IntKind.i64.wrap ((i : Int) + 1) = (i : Int) + 1 := wrap64 (by omega) (by omega)
  by_cases h1 : i < gs.length
  case neg =>
    have hil : i = gs.length := by omega
    subst hil
    simp -implicitDefEqProofs [h1, b3]
  have hrow := rdG gs i h1
  have hgi := hcs1 gs[i] (List.getElem_mem h1)
  have hE : EndsG gs[i] = some (ends gs[i]) := part_of hgi.2 _
  have hb2 := of_fits (Bias.get_fits hr c)
  have hrg := range_le (gs := gs.take (i + 1)) (fun x hx => hcs1 x (List.mem_of_mem_take hx)) (m.bias.get c, m.bias.get c)
  have hl : (gs.take (i + 1)).length ≤ 8 := by simp; omega
  have hs : (gs.take (i + 1)).foldl rangeF (m.bias.get c, m.bias.get c) = rangeF ((gs.take i).foldl rangeF (m.bias.get c, m.bias.get c)) gs[i] := by
    rw [List.take_succ_eq_append_getElem h1, List.foldl_append]
    rfl
  have hs1 : ((gs.take (i + 1)).foldl rangeF (m.bias.get c, m.bias.get c)).1 = ((gs.take i).foldl rangeF (m.bias.get c, m.bias.get c)).1 + (ends gs[i]).a := by rw [hs, rangeF]
  have hs2 : ((gs.take (i + 1)).foldl rangeF (m.bias.get c, m.bias.get c)).2 = ((gs.take i).foldl rangeF (m.bias.get c, m.bias.get c)).2 + (ends gs[i]).b := by rw [hs, rangeF]
  have w2 : IntKind.i64.wrap (((gs.take i).foldl rangeF (m.bias.get c, m.bias.get c)).1 + (ends gs[i]).a) = ((gs.take (i + 1)).foldl rangeF (m.bias.get c, m.bias.get c)).1 := by rw [← hs1]; exact wrap64 (by omega) (by omega)
  have w3 : IntKind.i64.wrap (((gs.take i).foldl rangeF (m.bias.get c, m.bias.get c)).2 + (ends gs[i]).b) = ((gs.take (i + 1)).foldl rangeF (m.bias.get c, m.bias.get c)).2 := by rw [← hs2]; exact wrap64 (by omega) (by omega)
  simp -implicitDefEqProofs [h1, hrow, hE, w1, w2, w3, b3]
  exact ⟨n - 1, by omega, i + 1, by omega, rfl, rfl, by omega⟩
theorem c_lrange : Contract Try.prog 62 (sp4 RangeC) :=
  contract_of_runs mixed (tbl_cons c_lstart (tbl_cons c_climb (tbl_cons c_cEnds tbl_nil))) Try.func62 m62 (sp4_runs runs_lrange)
end Go.Co
