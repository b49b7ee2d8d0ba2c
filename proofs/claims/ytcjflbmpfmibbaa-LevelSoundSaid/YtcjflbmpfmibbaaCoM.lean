/- CO: bounds. -/
import Derived.Test.YtcjflbmpfmibbaaCoL
namespace Go.Co
open Go.Am Go.Proofs
set_option linter.unusedSimpArgs false
set_option linter.unusedVariables false
def c114_0 : ACode := .ops [⟨some 3, .box (.t 1) 10, none, []⟩,
  ⟨some 4, .mv (.c (.int .i64 0)), none, []⟩,
  ⟨some 5, .mv (.c (.int .i64 0)), none, []⟩,
  ⟨some 6, .mv (.c (.bool false)), none, []⟩] [0, 3]
theorem r114_0 : type_of% (@rr _ _ c114_0.eq_1) := rr c114_0.eq_1
def c114_1 : ACode := .ops [⟨some 12, .mv (.t 0), none, []⟩,
  ⟨some 13, .load 10 true (.t 3), none, [3]⟩,
  ⟨some 14, .call 29 [.t 12, .t 13], none, []⟩,
  ⟨some 7, .mv (.t 14), none, []⟩] [7]
theorem r114_1 : type_of% (@rr _ _ c114_1.eq_1) := rr c114_1.eq_1
def c114_2 : ACode := .ops [⟨some 15, .mv (.t 7), none, []⟩,
  ⟨some 16, .len (.t 15), none, []⟩,
  ⟨some 17, .bin .eql (.t 16) (.c (.int .i64 0)), none, []⟩] [7, 17]
theorem r114_2 : type_of% (@rr _ _ c114_2.eq_1) := rr c114_2.eq_1
def c114_3 : ACode := .ops [⟨some 4, .mv (.c (.int .i64 0)), none, []⟩,
  ⟨some 5, .mv (.c (.int .i64 0)), none, []⟩,
  ⟨some 6, .mv (.c (.bool false)), none, []⟩] [4, 5, 6]
theorem r114_3 : type_of% (@rr _ _ c114_3.eq_1) := rr c114_3.eq_1
def c114_4 : ACode := .seq c114_3 .ret
theorem r114_4 : type_of% (@rr _ _ c114_4.eq_1) := rr c114_4.eq_1
def c114_5 : ACode := .cond (.t 17) c114_4 .skip
theorem r114_5 : type_of% (@rr _ _ c114_5.eq_1) := rr c114_5.eq_1
def c114_6 : ACode := .seq c114_2 c114_5
theorem r114_6 : type_of% (@rr _ _ c114_6.eq_1) := rr c114_6.eq_1
def c114_7 : ACode := .ops [⟨some 18, .mv (.t 7), none, []⟩,
  ⟨some 19, .ias (.t 18) (.c (.int .i64 0)) 11, none, []⟩,
  ⟨some 20, .fad (.t 19) 10, none, []⟩,
  ⟨some 21, .load 1 false (.t 20), none, []⟩,
  ⟨some 22, .mv (.t 7), none, []⟩,
  ⟨some 23, .ias (.t 22) (.c (.int .i64 0)) 11, none, []⟩,
  ⟨some 24, .fad (.t 23) 10, none, []⟩,
  ⟨some 25, .load 1 false (.t 24), none, []⟩,
  ⟨some 8, .mv (.t 21), none, []⟩,
  ⟨some 9, .mv (.t 25), none, []⟩] [7, 8, 9]
theorem r114_7 : type_of% (@rr _ _ c114_7.eq_1) := rr c114_7.eq_1
def c114_8 : ACode := .ops [⟨some 26, .mv (.t 7), none, []⟩,
  ⟨some 27, .len (.t 26), none, []⟩,
  ⟨some 28, .mv (.c (.int .i64 0)), none, []⟩] [8, 9, 26, 27, 28]
theorem r114_8 : type_of% (@rr _ _ c114_8.eq_1) := rr c114_8.eq_1
def c114_9 : ACode := .ops [⟨some 29, .bin .lss (.t 28) (.t 27), none, []⟩] [8, 9, 26, 27, 28, 29]
theorem r114_9 : type_of% (@rr _ _ c114_9.eq_1) := rr c114_9.eq_1
def c114_10 : ACode := .cond (.t 29) .skip (.exit 0)
theorem r114_10 : type_of% (@rr _ _ c114_10.eq_1) := rr c114_10.eq_1
def c114_11 : ACode := .ops [⟨some 30, .ias (.t 26) (.t 28) 11, none, []⟩,
  ⟨some 31, .load 11 true (.t 30), none, []⟩,
  ⟨some 11, .alloc [.int .i64 0, .int .i64 0, .int .i64 0, .int .i64 0, .int .i64 0, .int .i64 0, .int .i64 0, .int .i64 0, .int .i64 0, .int .i64 0, .int .i64 0], none, []⟩,
  ⟨none, .store (.t 11) 11 (.t 31), none, [11]⟩] [8, 9, 11, 26, 27, 28]
theorem r114_11 : type_of% (@rr _ _ c114_11.eq_1) := rr c114_11.eq_1
def c114_12 : ACode := .ops [⟨some 32, .mv (.t 8), none, []⟩,
  ⟨some 33, .fad (.t 11) 10, none, [11]⟩,
  ⟨some 34, .load 1 false (.t 33), none, [11]⟩,
  ⟨some 35, .mnmx false (.t 32) (.t 34), none, []⟩,
  ⟨some 36, .mv (.t 9), none, []⟩,
  ⟨some 37, .fad (.t 11) 10, none, [11]⟩,
  ⟨some 38, .load 1 false (.t 37), none, [11]⟩,
  ⟨some 39, .mnmx true (.t 36) (.t 38), none, []⟩,
  ⟨some 8, .mv (.t 35), none, []⟩,
  ⟨some 9, .mv (.t 39), none, []⟩] [8, 9, 26, 27, 28]
theorem r114_12 : type_of% (@rr _ _ c114_12.eq_1) := rr c114_12.eq_1
def c114_13 : ACode := .seq c114_11 c114_12
theorem r114_13 : type_of% (@rr _ _ c114_13.eq_1) := rr c114_13.eq_1
def c114_14 : ACode := .block 1 c114_13
theorem r114_14 : type_of% (@rr _ _ c114_14.eq_1) := rr c114_14.eq_1
def c114_15 : ACode := .ops [⟨some 40, .bin .add (.t 28) (.c (.int .i64 1)), none, []⟩,
  ⟨some 28, .mv (.t 40), none, []⟩] [8, 9, 26, 27, 28]
theorem r114_15 : type_of% (@rr _ _ c114_15.eq_1) := rr c114_15.eq_1
def c114_16 : ACode := .seq c114_14 c114_15
theorem r114_16 : type_of% (@rr _ _ c114_16.eq_1) := rr c114_16.eq_1
def c114_17 : ACode := .seq c114_10 c114_16
theorem r114_17 : type_of% (@rr _ _ c114_17.eq_1) := rr c114_17.eq_1
def c114_18 : ACode := .seq c114_9 c114_17
theorem r114_18 : type_of% (@rr _ _ c114_18.eq_1) := rr c114_18.eq_1
def c114_19 : ACode := .keep [8, 9, 26, 27, 28] [] c114_18
theorem r114_19 : type_of% (@rr _ _ c114_19.eq_1) := rr c114_19.eq_1
def c114_20 : ACode := .loop c114_19
theorem r114_20 : type_of% (@rr _ _ c114_20.eq_1) := rr c114_20.eq_1
def c114_21 : ACode := .block 0 c114_20
theorem r114_21 : type_of% (@rr _ _ c114_21.eq_1) := rr c114_21.eq_1
def c114_22 : ACode := .seq c114_8 c114_21
theorem r114_22 : type_of% (@rr _ _ c114_22.eq_1) := rr c114_22.eq_1
def c114_23 : ACode := .ops [⟨some 41, .mv (.t 8), none, []⟩,
  ⟨some 42, .mv (.t 9), none, []⟩,
  ⟨some 4, .mv (.t 41), none, []⟩,
  ⟨some 5, .mv (.t 42), none, []⟩,
  ⟨some 6, .mv (.c (.bool true)), none, []⟩] [4, 5, 6]
theorem r114_23 : type_of% (@rr _ _ c114_23.eq_1) := rr c114_23.eq_1
def c114_24 : ACode := .seq c114_23 .ret
theorem r114_24 : type_of% (@rr _ _ c114_24.eq_1) := rr c114_24.eq_1
def c114_25 : ACode := .seq c114_22 c114_24
theorem r114_25 : type_of% (@rr _ _ c114_25.eq_1) := rr c114_25.eq_1
def c114_26 : ACode := .seq c114_7 c114_25
theorem r114_26 : type_of% (@rr _ _ c114_26.eq_1) := rr c114_26.eq_1
def c114_27 : ACode := .seq c114_6 c114_26
theorem r114_27 : type_of% (@rr _ _ c114_27.eq_1) := rr c114_27.eq_1
def c114_28 : ACode := .seq c114_1 c114_27
theorem r114_28 : type_of% (@rr _ _ c114_28.eq_1) := rr c114_28.eq_1
def c114_29 : ACode := .seq c114_0 c114_28
theorem r114_29 : type_of% (@rr _ _ c114_29.eq_1) := rr c114_29.eq_1
def a114 : AFun := ⟨2, 43, c114_29, [.t 4, .t 5, .t 6]⟩
attribute [simp] r114_0 r114_1 r114_2 r114_3 r114_4 r114_5 r114_6 r114_7 r114_8 r114_9 r114_10 r114_11 r114_12 r114_13 r114_14 r114_15 r114_16 r114_17 r114_18 r114_19 r114_20 r114_21 r114_22 r114_23 r114_24 r114_25 r114_26 r114_27 r114_28 r114_29
theorem m114 : mFun Try.prog Try.f114 a114 = true := by decide +kernel
def c63_0 : ACode := .ops [⟨some 3, .box (.t 0) 6, none, []⟩,
  ⟨some 5, .box (.t 2) 10, none, []⟩,
  ⟨some 6, .mv (.c (.int .i64 0)), none, []⟩,
  ⟨some 7, .mv (.c (.int .i64 0)), none, []⟩,
  ⟨some 8, .mv (.c (.bool false)), none, []⟩] [1, 3, 5]
theorem r63_0 : type_of% (@rr _ _ c63_0.eq_1) := rr c63_0.eq_1
def c63_1 : ACode := .ops [⟨some 16, .load 6 true (.t 3), none, [3]⟩,
  ⟨some 17, .call 27 [.t 16], none, []⟩,
  ⟨some 18, .un .not (.t 17), none, []⟩,
  ⟨some 19, .mv (.t 18), none, []⟩,
  ⟨some 20, .mv (.t 1), some (19, false), []⟩,
  ⟨some 21, .bin .lss (.t 20) (.c (.int .i64 0)), some (19, false), []⟩,
  ⟨some 22, .pick (.t 19) (.c (.bool true)) (.t 21), none, []⟩,
  ⟨some 23, .mv (.t 22), none, []⟩,
  ⟨some 24, .mv (.t 1), some (23, false), []⟩,
  ⟨some 25, .fad (.t 3) 1, some (23, false), [3]⟩,
  ⟨some 26, .load 1 false (.t 25), some (23, false), [3]⟩,
  ⟨some 27, .bin .geq (.t 24) (.t 26), some (23, false), []⟩,
  ⟨some 28, .pick (.t 23) (.c (.bool true)) (.t 27), none, []⟩,
  ⟨some 29, .mv (.t 28), none, []⟩,
  ⟨some 30, .load 10 true (.t 5), some (29, false), [5]⟩,
  ⟨some 31, .call 66 [.t 30], some (29, false), []⟩,
  ⟨some 32, .pick (.t 29) (.c (.bool true)) (.t 31), none, []⟩] [1, 3, 5, 32]
theorem r63_1 : type_of% (@rr _ _ c63_1.eq_1) := rr c63_1.eq_1
def c63_2 : ACode := .ops [⟨some 6, .mv (.c (.int .i64 0)), none, []⟩,
  ⟨some 7, .mv (.c (.int .i64 0)), none, []⟩,
  ⟨some 8, .mv (.c (.bool false)), none, []⟩] [6, 7, 8]
theorem r63_2 : type_of% (@rr _ _ c63_2.eq_1) := rr c63_2.eq_1
def c63_3 : ACode := .seq c63_2 .ret
theorem r63_3 : type_of% (@rr _ _ c63_3.eq_1) := rr c63_3.eq_1
def c63_4 : ACode := .cond (.t 32) c63_3 .skip
theorem r63_4 : type_of% (@rr _ _ c63_4.eq_1) := rr c63_4.eq_1
def c63_5 : ACode := .seq c63_1 c63_4
theorem r63_5 : type_of% (@rr _ _ c63_5.eq_1) := rr c63_5.eq_1
def c63_6 : ACode := .ops [⟨some 33, .mv (.t 1), none, []⟩,
  ⟨some 34, .fad (.t 3) 2, none, [3]⟩,
  ⟨some 35, .iad (.t 34) (.t 33) 1 3, none, [3]⟩,
  ⟨some 36, .load 1 false (.t 35), none, [3]⟩,
  ⟨some 37, .mv (.t 1), none, []⟩,
  ⟨some 38, .fad (.t 3) 2, none, [3]⟩,
  ⟨some 39, .iad (.t 38) (.t 37) 1 3, none, [3]⟩,
  ⟨some 40, .load 1 false (.t 39), none, [3]⟩,
  ⟨some 9, .mv (.t 36), none, []⟩,
  ⟨some 10, .mv (.t 40), none, []⟩] [1, 3, 5, 9, 10]
theorem r63_6 : type_of% (@rr _ _ c63_6.eq_1) := rr c63_6.eq_1
def c63_7 : ACode := .ops [⟨some 41, .fad (.t 3) 5, none, [3]⟩,
  ⟨some 42, .load 1 false (.t 41), none, [3]⟩,
  ⟨some 43, .len (.t 42), none, []⟩,
  ⟨some 44, .mv (.c (.int .i64 0)), none, []⟩] [1, 5, 9, 10, 42, 43, 44]
theorem r63_7 : type_of% (@rr _ _ c63_7.eq_1) := rr c63_7.eq_1
def c63_8 : ACode := .ops [⟨some 45, .bin .lss (.t 44) (.t 43), none, []⟩] [1, 5, 9, 10, 42, 43, 44, 45]
theorem r63_8 : type_of% (@rr _ _ c63_8.eq_1) := rr c63_8.eq_1
def c63_9 : ACode := .cond (.t 45) .skip (.exit 0)
theorem r63_9 : type_of% (@rr _ _ c63_9.eq_1) := rr c63_9.eq_1
def c63_10 : ACode := .ops [⟨some 46, .ias (.t 42) (.t 44) 2, none, []⟩,
  ⟨some 47, .load 2 true (.t 46), none, []⟩,
  ⟨some 12, .alloc [.int .i64 0, .nils], none, []⟩,
  ⟨none, .store (.t 12) 2 (.t 47), none, [12]⟩] [1, 5, 9, 10, 12, 42, 43, 44]
theorem r63_10 : type_of% (@rr _ _ c63_10.eq_1) := rr c63_10.eq_1
def c63_11 : ACode := .ops [⟨some 48, .fad (.t 12) 0, none, [12]⟩,
  ⟨some 49, .load 1 false (.t 48), none, [12]⟩,
  ⟨some 50, .mv (.t 1), none, []⟩,
  ⟨some 51, .bin .neq (.t 49) (.t 50), none, []⟩] [1, 5, 9, 10, 12, 42, 43, 44, 51]
theorem r63_11 : type_of% (@rr _ _ c63_11.eq_1) := rr c63_11.eq_1
def c63_12 : ACode := .cond (.t 51) (.exit 1) .skip
theorem r63_12 : type_of% (@rr _ _ c63_12.eq_1) := rr c63_12.eq_1
def c63_13 : ACode := .seq c63_11 c63_12
theorem r63_13 : type_of% (@rr _ _ c63_13.eq_1) := rr c63_13.eq_1
def c63_14 : ACode := .ops [⟨some 53, .fad (.t 12) 1, none, [12]⟩,
  ⟨some 54, .load 1 false (.t 53), none, [12]⟩,
  ⟨some 55, .load 10 true (.t 5), none, [5]⟩,
  ⟨some 56, .call 114 [.t 54, .t 55], none, []⟩,
  ⟨some 52, .mv (.t 56), none, []⟩,
  ⟨some 57, .ext (.t 52) 0, none, []⟩,
  ⟨some 58, .ext (.t 52) 1, none, []⟩,
  ⟨some 59, .ext (.t 52) 2, none, []⟩,
  ⟨some 13, .mv (.t 57), none, []⟩,
  ⟨some 14, .mv (.t 58), none, []⟩,
  ⟨some 15, .mv (.t 59), none, []⟩] [1, 5, 9, 10, 13, 14, 42, 43, 44]
theorem r63_14 : type_of% (@rr _ _ c63_14.eq_1) := rr c63_14.eq_1
def c63_15 : ACode := .ops [⟨some 60, .mv (.t 9), none, []⟩,
  ⟨some 61, .mv (.t 13), none, []⟩,
  ⟨some 62, .bin .add (.t 60) (.t 61), none, []⟩,
  ⟨some 63, .mv (.t 10), none, []⟩,
  ⟨some 64, .mv (.t 14), none, []⟩,
  ⟨some 65, .bin .add (.t 63) (.t 64), none, []⟩,
  ⟨some 9, .mv (.t 62), none, []⟩,
  ⟨some 10, .mv (.t 65), none, []⟩] [1, 5, 9, 10, 42, 43, 44]
theorem r63_15 : type_of% (@rr _ _ c63_15.eq_1) := rr c63_15.eq_1
def c63_16 : ACode := .seq c63_14 c63_15
theorem r63_16 : type_of% (@rr _ _ c63_16.eq_1) := rr c63_16.eq_1
def c63_17 : ACode := .seq c63_13 c63_16
theorem r63_17 : type_of% (@rr _ _ c63_17.eq_1) := rr c63_17.eq_1
def c63_18 : ACode := .seq c63_10 c63_17
theorem r63_18 : type_of% (@rr _ _ c63_18.eq_1) := rr c63_18.eq_1
def c63_19 : ACode := .block 1 c63_18
theorem r63_19 : type_of% (@rr _ _ c63_19.eq_1) := rr c63_19.eq_1
def c63_20 : ACode := .ops [⟨some 66, .bin .add (.t 44) (.c (.int .i64 1)), none, []⟩,
  ⟨some 44, .mv (.t 66), none, []⟩] [1, 5, 9, 10, 42, 43, 44]
theorem r63_20 : type_of% (@rr _ _ c63_20.eq_1) := rr c63_20.eq_1
def c63_21 : ACode := .seq c63_19 c63_20
theorem r63_21 : type_of% (@rr _ _ c63_21.eq_1) := rr c63_21.eq_1
def c63_22 : ACode := .seq c63_9 c63_21
theorem r63_22 : type_of% (@rr _ _ c63_22.eq_1) := rr c63_22.eq_1
def c63_23 : ACode := .seq c63_8 c63_22
theorem r63_23 : type_of% (@rr _ _ c63_23.eq_1) := rr c63_23.eq_1
def c63_24 : ACode := .keep [1, 5, 9, 10, 42, 43, 44] [5] c63_23
theorem r63_24 : type_of% (@rr _ _ c63_24.eq_1) := rr c63_24.eq_1
def c63_25 : ACode := .loop c63_24
theorem r63_25 : type_of% (@rr _ _ c63_25.eq_1) := rr c63_25.eq_1
def c63_26 : ACode := .block 0 c63_25
theorem r63_26 : type_of% (@rr _ _ c63_26.eq_1) := rr c63_26.eq_1
def c63_27 : ACode := .seq c63_7 c63_26
theorem r63_27 : type_of% (@rr _ _ c63_27.eq_1) := rr c63_27.eq_1
def c63_28 : ACode := .ops [⟨some 67, .mv (.t 9), none, []⟩,
  ⟨some 68, .mv (.t 10), none, []⟩,
  ⟨some 6, .mv (.t 67), none, []⟩,
  ⟨some 7, .mv (.t 68), none, []⟩,
  ⟨some 8, .mv (.c (.bool true)), none, []⟩] [6, 7, 8]
theorem r63_28 : type_of% (@rr _ _ c63_28.eq_1) := rr c63_28.eq_1
def c63_29 : ACode := .seq c63_28 .ret
theorem r63_29 : type_of% (@rr _ _ c63_29.eq_1) := rr c63_29.eq_1
def c63_30 : ACode := .seq c63_27 c63_29
theorem r63_30 : type_of% (@rr _ _ c63_30.eq_1) := rr c63_30.eq_1
def c63_31 : ACode := .seq c63_6 c63_30
theorem r63_31 : type_of% (@rr _ _ c63_31.eq_1) := rr c63_31.eq_1
def c63_32 : ACode := .seq c63_5 c63_31
theorem r63_32 : type_of% (@rr _ _ c63_32.eq_1) := rr c63_32.eq_1
def c63_33 : ACode := .seq c63_0 c63_32
theorem r63_33 : type_of% (@rr _ _ c63_33.eq_1) := rr c63_33.eq_1
def a63 : AFun := ⟨3, 69, c63_33, [.t 6, .t 7, .t 8]⟩
attribute [simp] r63_0 r63_1 r63_2 r63_3 r63_4 r63_5 r63_6 r63_7 r63_8 r63_9 r63_10 r63_11 r63_12 r63_13 r63_14 r63_15 r63_16 r63_17 r63_18 r63_19 r63_20 r63_21 r63_22 r63_23 r63_24 r63_25 r63_26 r63_27 r63_28 r63_29 r63_30 r63_31 r63_32 r63_33
theorem m63 : mFun Try.prog Try.f63 a63 = true := by decide +kernel
theorem rd_piece (l : List Piece) (i : Nat) (h : i < l.length) : rd (encL l) (i * 11) 11 true = some (.agg (Row.enc l[i])) := rd_row l i h
theorem rd_piece10 (l : List Piece) (i : Nat) (h : i < l.length) : rd (encL l) (i * 11 + 10) 1 false = some (.int .i64 l[i].value) := rd_cell l i 10 h (by decide)
@[simp 5000] theorem rd_biasN (a b : Int) (x : Bias) (y : AV) (k : Nat) (h : k < 3) : rd [.int .i64 a, .int .i64 b, .int .i64 x.b0, .int .i64 x.b1, .int .i64 x.b2, y] (2 + k) 1 false = some (.int .i64 (x.get k)) := by
  have := rd_bias a b x y k (by omega) (by omega)
  simpa using this
theorem piecesX (l : List Word) (b : Box) : ends (if b.empty then [] else pieces l b) = boundT l b := by
  unfold boundT
  cases b.empty <;> rfl
theorem len_pieces (l : List Word) (b : Box) : (if b.empty then [] else pieces l b).length ≤ l.length := by
  split
  · simp
  · exact piecesTo_len l b l.length
noncomputable def BoundT (l : List Word) (b : Box) : Option (Tri Int Int Bool) := Part ((∃ d, RT l d) ∧ okB b) (boundT l b)
set_option maxHeartbeats 1000000 in
theorem runs_bTree (l : List Word) (b : Box) (c : Tri Int Int Bool) (h : BoundT l b = some c) : Runs (tbl [(29, sp2 ListC)]) a114 [Arg.enc l, Arg.enc b] (Arg.enc c) := by
  obtain ⟨hh, rfl⟩ := part_some h
  refine ⟨rfl, fun g => run_def ?_⟩
  unfold a114
  have hL : ListC l b = some (if b.empty then [] else pieces l b) := part_of hh _
  have hl := len_pieces l b
  obtain ⟨⟨d, hr⟩, hb⟩ := hh
  have hle := hr.le
  rw [← piecesX]
  generalize (if b.empty then [] else pieces l b) = ps at *
  have b3 : ps.length ≤ maxN := by unfold maxN; omega
  cases ps with
  | nil => simp -implicitDefEqProofs [hL, ends, encL_nil]
  | cons x xs =>
    have hne : ¬ ((x :: xs).length : Int) = 0 := by simp; omega
    have hnn : x :: xs ≠ [] := by simp
    have r0 : rd (encL (x :: xs)) 10 1 false = some (.int .i64 x.value) := rd_piece10 (x :: xs) 0 (by simp)
    have hpos : 0 < (x :: xs).length := by simp
    have he : ends (x :: xs) = ⟨((x :: xs).foldl endF (x.value, x.value)).1, ((x :: xs).foldl endF (x.value, x.value)).2, true⟩ := rfl
    rw [he]
    generalize x :: xs = ps at *
    simp -implicitDefEqProofs [hL, b3, hne, r0, hpos]
    refine ⟨hnn, fun _ => ?_⟩
    refine run_while (c := c114_18) (fun n s => ∃ (i : Nat), i + n = ps.length ∧ s = ⟨[(8, .int .i64 ((ps.take i).foldl endF (x.value, x.value)).1), (9, .int .i64 ((ps.take i).foldl endF (x.value, x.value)).2), (26, .lst ps.length (encL ps)), (27, .int .i64 ps.length), (28, .int .i64 i)], [], s.g⟩) ps.length ⟨0, by omega, by simp⟩ ?_
    rintro n s ⟨i, hi, hs⟩
    rw [hs]
    have w1 : IntKind.i64.wrap ((i : Int) + 1) = (i : Int) + 1 := wrap64 (by omega) (by omega)
    by_cases h1 : i < ps.length
    case pos =>
      have hrow := rd_piece ps i h1
      have hs2 : (ps.take (i + 1)).foldl endF (x.value, x.value) = endF ((ps.take i).foldl endF (x.value, x.value)) ps[i] := by
        rw [List.take_succ_eq_append_getElem h1, List.foldl_append]
        rfl
      simp -implicitDefEqProofs [h1, hrow, w1]
      exact ⟨n - 1, by omega, i + 1, by omega, by rw [hs2]; rfl, by rw [hs2]; rfl, by omega⟩
    case neg =>
      have hil : i = ps.length := by omega
      subst hil
      simp -implicitDefEqProofs [h1]
theorem c_bTree : Contract Try.prog 114 (sp2 BoundT) :=
  contract_of_runs mixed (tbl_cons c_List tbl_nil) Try.func114 m114 (sp2_runs runs_bTree)
noncomputable def BoundS (m : Model) (c : Int) (b : Box) : Option (Tri Int Int Bool) := Part (RM m ∧ okB b) (boundM m c b)
set_option maxHeartbeats 1000000 in
theorem runs_bSum (m : Model) (c : Int) (b : Box) (r : Tri Int Int Bool) (h : BoundS m c b = some r) : Runs (tbl [(27, sp1 MRight), (66, sp1 fun (b : Box) => some b.empty), (114, sp2 BoundT)]) a63 [Arg.enc m, Arg.enc c, Arg.enc b] (Arg.enc r) := by
  obtain ⟨⟨hr, hb⟩, rfl⟩ := part_some h
  refine ⟨rfl, fun g => run_def ?_⟩
  unfold a63
  have hM : MRight m = some true := by unfold MRight; rw [if_neg (by have := hr.dim; omega)]; exact part_of hr _
  by_cases h0 : c < 0
  case pos => simp -implicitDefEqProofs [hM, h0, boundM]
  by_cases h1 : m.classes ≤ c
  case pos => simp -implicitDefEqProofs [hM, h0, h1, boundM]
  cases he : b.empty
  case true => simp -implicitDefEqProofs [hM, h0, h1, he, boundM]
  have hle := hr.trees
  have b3 : m.trees.length ≤ maxN := by unfold maxN; omega
  have c0 : 0 ≤ c := by omega
  have c3 : c < 3 := by have := hr.classes; omega
  have hres : boundM m c b = ⟨(boundP m c b).1, (boundP m c b).2, true⟩ := by unfold boundM; rw [if_neg (by simp [he]; omega)]
  rw [hres]
  simp -implicitDefEqProofs [hM, h0, h1, he, b3, c0, c3]
  refine run_while (c := c63_23) (fun n s => ∃ (i : Nat) (g : Nat → Nat), i + n = m.trees.length ∧ s = ⟨[(1, .int .i64 c), (5, .ptr 5 (g 5) 0), (9, .int .i64 ((m.trees.take i).foldl (boundF c b) (m.bias.get c, m.bias.get c)).1), (10, .int .i64 ((m.trees.take i).foldl (boundF c b) (m.bias.get c, m.bias.get c)).2), (42, .lst m.trees.length (encL m.trees)), (43, .int .i64 m.trees.length), (44, .int .i64 i)],
    [(5, ⟨[.int .i64 b.s0.lo, .int .i64 b.s0.hi, .int .i64 b.s1.lo, .int .i64 b.s1.hi, .int .i64 b.s2.lo, .int .i64 b.s2.hi, .int .i64 b.s3.lo, .int .i64 b.s3.hi, .int .i64 b.s4.lo, .int .i64 b.s4.hi], false, 0⟩)], g⟩) m.trees.length ⟨0, bump 5 (bump 3 g), by omega, by simp⟩ ?_
  rintro n s ⟨i, g, hi, rfl⟩
  by_cases h1 : i < m.trees.length
  case pos =>
    have w1 : IntKind.i64.wrap ((i : Int) + 1) = (i : Int) + 1 := wrap64 (by omega) (by omega)
    have hrow := rd_tree m.trees i h1
    have hrt := hr.rt (List.getElem_mem h1)
    have hV : BoundT m.trees[i].nodes b = some (boundT m.trees[i].nodes b) := part_of ⟨⟨_, hrt⟩, hb⟩ _
    have hbd := boundF_le (c := c) he (m.trees.take (i + 1)) (m.bias.get c, m.bias.get c) (fun t ht => ⟨_, hr.rt (List.mem_of_mem_take ht)⟩)
    have hb2 := of_fits (Bias.get_fits hr c)
    have hs : (m.trees.take (i + 1)).foldl (boundF c b) (m.bias.get c, m.bias.get c) = boundF c b ((m.trees.take i).foldl (boundF c b) (m.bias.get c, m.bias.get c)) m.trees[i] := by
      rw [List.take_succ_eq_append_getElem h1, List.foldl_append]
      rfl
    have hl : (m.trees.take (i + 1)).length ≤ 8 := by simp; omega
    simp only at hbd
    by_cases hc : m.trees[i].cls = c
    case pos =>
      have hs1 : ((m.trees.take (i + 1)).foldl (boundF c b) (m.bias.get c, m.bias.get c)).1 = ((m.trees.take i).foldl (boundF c b) (m.bias.get c, m.bias.get c)).1 + (boundT m.trees[i].nodes b).a := by rw [hs, boundF, if_pos hc]
      have hs2 : ((m.trees.take (i + 1)).foldl (boundF c b) (m.bias.get c, m.bias.get c)).2 = ((m.trees.take i).foldl (boundF c b) (m.bias.get c, m.bias.get c)).2 + (boundT m.trees[i].nodes b).b := by rw [hs, boundF, if_pos hc]
      have w2 : IntKind.i64.wrap (((m.trees.take i).foldl (boundF c b) (m.bias.get c, m.bias.get c)).1 + (boundT m.trees[i].nodes b).a) = ((m.trees.take (i + 1)).foldl (boundF c b) (m.bias.get c, m.bias.get c)).1 := by rw [← hs1]; exact wrap64 (by omega) (by omega)
      have w3 : IntKind.i64.wrap (((m.trees.take i).foldl (boundF c b) (m.bias.get c, m.bias.get c)).2 + (boundT m.trees[i].nodes b).b) = ((m.trees.take (i + 1)).foldl (boundF c b) (m.bias.get c, m.bias.get c)).2 := by rw [← hs2]; exact wrap64 (by omega) (by omega)
      simp -implicitDefEqProofs [h1, hrow, hc, hV, w1, w2, w3]
      exact ⟨n - 1, by omega, i + 1, by omega, rfl, rfl, by omega⟩
    case neg =>
      have hs2 : (m.trees.take (i + 1)).foldl (boundF c b) (m.bias.get c, m.bias.get c) = (m.trees.take i).foldl (boundF c b) (m.bias.get c, m.bias.get c) := by rw [hs, boundF, if_neg hc]
      simp -implicitDefEqProofs [h1, hrow, hc, hV, w1]
      exact ⟨n - 1, by omega, i + 1, by omega, by rw [hs2], by rw [hs2], by omega⟩
  case neg =>
    have hil : i = m.trees.length := by omega
    subst hil
    simp -implicitDefEqProofs [h1, boundP]
theorem c_bSum : Contract Try.prog 63 (sp3 BoundS) :=
  contract_of_runs mixed (tbl_cons c_mRight (tbl_cons c_bEmpty (tbl_cons c_bTree tbl_nil))) Try.func63 m63 (sp3_runs runs_bSum)
end Go.Co
