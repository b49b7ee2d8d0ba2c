/- CO: bounds. -/
import Derived.Test.YtagfmcachoaacaaCoL
namespace Go.Co
open Go.Am Go.Proofs
set_option linter.unusedSimpArgs false
set_option linter.unusedVariables false
def c48_0 : ACode := .ops [⟨some 3, .box (.t 1) 10, none, []⟩,
  ⟨some 4, .mv (.c (.int .i64 0)), none, []⟩,
  ⟨some 5, .mv (.c (.int .i64 0)), none, []⟩,
  ⟨some 6, .mv (.c (.bool false)), none, []⟩] [0, 3]
def c48_1 : ACode := .ops [⟨some 12, .mv (.t 0), none, []⟩,
  ⟨some 13, .load 10 true (.t 3), none, [3]⟩,
  ⟨some 14, .call 68 [.t 12, .t 13], none, []⟩,
  ⟨some 7, .mv (.t 14), none, []⟩] [7]
def c48_2 : ACode := .ops [⟨some 15, .mv (.t 7), none, []⟩,
  ⟨some 16, .len (.t 15), none, []⟩,
  ⟨some 17, .bin .eql (.t 16) (.c (.int .i64 0)), none, []⟩] [7, 17]
def c48_3 : ACode := .ops [⟨some 4, .mv (.c (.int .i64 0)), none, []⟩,
  ⟨some 5, .mv (.c (.int .i64 0)), none, []⟩,
  ⟨some 6, .mv (.c (.bool false)), none, []⟩] [4, 5, 6]
def c48_4 : ACode := .seq c48_3 .ret
def c48_5 : ACode := .cond (.t 17) c48_4 .skip
def c48_6 : ACode := .seq c48_2 c48_5
def c48_7 : ACode := .ops [⟨some 18, .mv (.t 7), none, []⟩,
  ⟨some 19, .ias (.t 18) (.c (.int .i64 0)) 11, none, []⟩,
  ⟨some 20, .fad (.t 19) 10, none, []⟩,
  ⟨some 21, .load 1 false (.t 20), none, []⟩,
  ⟨some 22, .mv (.t 7), none, []⟩,
  ⟨some 23, .ias (.t 22) (.c (.int .i64 0)) 11, none, []⟩,
  ⟨some 24, .fad (.t 23) 10, none, []⟩,
  ⟨some 25, .load 1 false (.t 24), none, []⟩,
  ⟨some 8, .mv (.t 21), none, []⟩,
  ⟨some 9, .mv (.t 25), none, []⟩] [7, 8, 9]
def c48_8 : ACode := .ops [⟨some 26, .mv (.t 7), none, []⟩,
  ⟨some 27, .len (.t 26), none, []⟩,
  ⟨some 28, .mv (.c (.int .i64 0)), none, []⟩] [8, 9, 26, 27, 28]
def c48_9 : ACode := .ops [⟨some 29, .bin .lss (.t 28) (.t 27), none, []⟩] [8, 9, 26, 27, 28, 29]
def c48_10 : ACode := .cond (.t 29) .skip (.exit 0)
def c48_11 : ACode := .ops [⟨some 30, .ias (.t 26) (.t 28) 11, none, []⟩,
  ⟨some 31, .load 11 true (.t 30), none, []⟩,
  ⟨some 11, .alloc [.int .i64 0, .int .i64 0, .int .i64 0, .int .i64 0, .int .i64 0, .int .i64 0, .int .i64 0, .int .i64 0, .int .i64 0, .int .i64 0, .int .i64 0], none, []⟩,
  ⟨none, .store (.t 11) 11 (.t 31), none, [11]⟩] [8, 9, 11, 26, 27, 28]
def c48_12 : ACode := .ops [⟨some 32, .mv (.t 8), none, []⟩,
  ⟨some 33, .fad (.t 11) 10, none, [11]⟩,
  ⟨some 34, .load 1 false (.t 33), none, [11]⟩,
  ⟨some 35, .mnmx false (.t 32) (.t 34), none, []⟩,
  ⟨some 36, .mv (.t 9), none, []⟩,
  ⟨some 37, .fad (.t 11) 10, none, [11]⟩,
  ⟨some 38, .load 1 false (.t 37), none, [11]⟩,
  ⟨some 39, .mnmx true (.t 36) (.t 38), none, []⟩,
  ⟨some 8, .mv (.t 35), none, []⟩,
  ⟨some 9, .mv (.t 39), none, []⟩] [8, 9, 26, 27, 28]
def c48_13 : ACode := .seq c48_11 c48_12
def c48_14 : ACode := .block 1 c48_13
def c48_15 : ACode := .ops [⟨some 40, .bin .add (.t 28) (.c (.int .i64 1)), none, []⟩,
  ⟨some 28, .mv (.t 40), none, []⟩] [8, 9, 26, 27, 28]
def c48_16 : ACode := .seq c48_14 c48_15
def c48_17 : ACode := .seq c48_10 c48_16
def c48_18 : ACode := .seq c48_9 c48_17
def c48_19 : ACode := .keep [8, 9, 26, 27, 28] [] c48_18
def c48_20 : ACode := .loop c48_19
def c48_21 : ACode := .block 0 c48_20
def c48_22 : ACode := .seq c48_8 c48_21
def c48_23 : ACode := .ops [⟨some 41, .mv (.t 8), none, []⟩,
  ⟨some 42, .mv (.t 9), none, []⟩,
  ⟨some 4, .mv (.t 41), none, []⟩,
  ⟨some 5, .mv (.t 42), none, []⟩,
  ⟨some 6, .mv (.c (.bool true)), none, []⟩] [4, 5, 6]
def c48_24 : ACode := .seq c48_23 .ret
def c48_25 : ACode := .seq c48_22 c48_24
def c48_26 : ACode := .seq c48_7 c48_25
def c48_27 : ACode := .seq c48_6 c48_26
def c48_28 : ACode := .seq c48_1 c48_27
def c48_29 : ACode := .seq c48_0 c48_28
def a48 : AFun := ⟨2, 43, c48_29, [.t 4, .t 5, .t 6]⟩
theorem m48 : mFun Try.prog Try.f48 a48 = true := by decide +kernel
def c23_0 : ACode := .ops [⟨some 3, .box (.t 0) 6, none, []⟩,
  ⟨some 5, .box (.t 2) 10, none, []⟩,
  ⟨some 6, .mv (.c (.int .i64 0)), none, []⟩,
  ⟨some 7, .mv (.c (.int .i64 0)), none, []⟩,
  ⟨some 8, .mv (.c (.bool false)), none, []⟩] [1, 3, 5]
def c23_1 : ACode := .ops [⟨some 16, .load 6 true (.t 3), none, [3]⟩,
  ⟨some 17, .call 47 [.t 16], none, []⟩,
  ⟨some 18, .un .not (.t 17), none, []⟩,
  ⟨some 19, .mv (.t 18), none, []⟩,
  ⟨some 20, .mv (.t 1), some (19, false), []⟩,
  ⟨some 21, .bin .lss (.t 20) (.c (.int .i64 0)), some (19, false), []⟩,
  ⟨some 22, .pick (.t 19) (.c (.bool true)) (.t 21), none, []⟩,
  ⟨some 23, .mv (.t 22), none, []⟩,
  ⟨some 24, .mv (.t 1), some (23, false), []⟩,
  ⟨some 25, .fad (.t 3) 1, some (23, false), [3]⟩,
  ⟨some 26, .load 1 false (.t 25), some (23, false), [3]⟩,
  ⟨some 27, .bin .geq (.t 24) (.t 26), some (23, false), []⟩,
  ⟨some 28, .pick (.t 23) (.c (.bool true)) (.t 27), none, []⟩,
  ⟨some 29, .mv (.t 28), none, []⟩,
  ⟨some 30, .load 10 true (.t 5), some (29, false), [5]⟩,
  ⟨some 31, .call 20 [.t 30], some (29, false), []⟩,
  ⟨some 32, .pick (.t 29) (.c (.bool true)) (.t 31), none, []⟩] [1, 3, 5, 32]
def c23_2 : ACode := .ops [⟨some 6, .mv (.c (.int .i64 0)), none, []⟩,
  ⟨some 7, .mv (.c (.int .i64 0)), none, []⟩,
  ⟨some 8, .mv (.c (.bool false)), none, []⟩] [6, 7, 8]
def c23_3 : ACode := .seq c23_2 .ret
def c23_4 : ACode := .cond (.t 32) c23_3 .skip
def c23_5 : ACode := .seq c23_1 c23_4
def c23_6 : ACode := .ops [⟨some 33, .mv (.t 1), none, []⟩,
  ⟨some 34, .fad (.t 3) 2, none, [3]⟩,
  ⟨some 35, .iad (.t 34) (.t 33) 1 3, none, [3]⟩,
  ⟨some 36, .load 1 false (.t 35), none, [3]⟩,
  ⟨some 37, .mv (.t 1), none, []⟩,
  ⟨some 38, .fad (.t 3) 2, none, [3]⟩,
  ⟨some 39, .iad (.t 38) (.t 37) 1 3, none, [3]⟩,
  ⟨some 40, .load 1 false (.t 39), none, [3]⟩,
  ⟨some 9, .mv (.t 36), none, []⟩,
  ⟨some 10, .mv (.t 40), none, []⟩] [1, 3, 5, 9, 10]
def c23_7 : ACode := .ops [⟨some 41, .fad (.t 3) 5, none, [3]⟩,
  ⟨some 42, .load 1 false (.t 41), none, [3]⟩,
  ⟨some 43, .len (.t 42), none, []⟩,
  ⟨some 44, .mv (.c (.int .i64 0)), none, []⟩] [1, 5, 9, 10, 42, 43, 44]
def c23_8 : ACode := .ops [⟨some 45, .bin .lss (.t 44) (.t 43), none, []⟩] [1, 5, 9, 10, 42, 43, 44, 45]
def c23_9 : ACode := .cond (.t 45) .skip (.exit 0)
def c23_10 : ACode := .ops [⟨some 46, .ias (.t 42) (.t 44) 2, none, []⟩,
  ⟨some 47, .load 2 true (.t 46), none, []⟩,
  ⟨some 12, .alloc [.int .i64 0, .nils], none, []⟩,
  ⟨none, .store (.t 12) 2 (.t 47), none, [12]⟩] [1, 5, 9, 10, 12, 42, 43, 44]
def c23_11 : ACode := .ops [⟨some 48, .fad (.t 12) 0, none, [12]⟩,
  ⟨some 49, .load 1 false (.t 48), none, [12]⟩,
  ⟨some 50, .mv (.t 1), none, []⟩,
  ⟨some 51, .bin .neq (.t 49) (.t 50), none, []⟩] [1, 5, 9, 10, 12, 42, 43, 44, 51]
def c23_12 : ACode := .cond (.t 51) (.exit 1) .skip
def c23_13 : ACode := .seq c23_11 c23_12
def c23_14 : ACode := .ops [⟨some 53, .fad (.t 12) 1, none, [12]⟩,
  ⟨some 54, .load 1 false (.t 53), none, [12]⟩,
  ⟨some 55, .load 10 true (.t 5), none, [5]⟩,
  ⟨some 56, .call 48 [.t 54, .t 55], none, []⟩,
  ⟨some 52, .mv (.t 56), none, []⟩,
  ⟨some 57, .ext (.t 52) 0, none, []⟩,
  ⟨some 58, .ext (.t 52) 1, none, []⟩,
  ⟨some 59, .ext (.t 52) 2, none, []⟩,
  ⟨some 13, .mv (.t 57), none, []⟩,
  ⟨some 14, .mv (.t 58), none, []⟩,
  ⟨some 15, .mv (.t 59), none, []⟩] [1, 5, 9, 10, 13, 14, 42, 43, 44]
def c23_15 : ACode := .ops [⟨some 60, .mv (.t 9), none, []⟩,
  ⟨some 61, .mv (.t 13), none, []⟩,
  ⟨some 62, .bin .add (.t 60) (.t 61), none, []⟩,
  ⟨some 63, .mv (.t 10), none, []⟩,
  ⟨some 64, .mv (.t 14), none, []⟩,
  ⟨some 65, .bin .add (.t 63) (.t 64), none, []⟩,
  ⟨some 9, .mv (.t 62), none, []⟩,
  ⟨some 10, .mv (.t 65), none, []⟩] [1, 5, 9, 10, 42, 43, 44]
def c23_16 : ACode := .seq c23_14 c23_15
def c23_17 : ACode := .seq c23_13 c23_16
def c23_18 : ACode := .seq c23_10 c23_17
def c23_19 : ACode := .block 1 c23_18
def c23_20 : ACode := .ops [⟨some 66, .bin .add (.t 44) (.c (.int .i64 1)), none, []⟩,
  ⟨some 44, .mv (.t 66), none, []⟩] [1, 5, 9, 10, 42, 43, 44]
def c23_21 : ACode := .seq c23_19 c23_20
def c23_22 : ACode := .seq c23_9 c23_21
def c23_23 : ACode := .seq c23_8 c23_22
def c23_24 : ACode := .keep [1, 5, 9, 10, 42, 43, 44] [5] c23_23
def c23_25 : ACode := .loop c23_24
def c23_26 : ACode := .block 0 c23_25
def c23_27 : ACode := .seq c23_7 c23_26
def c23_28 : ACode := .ops [⟨some 67, .mv (.t 9), none, []⟩,
  ⟨some 68, .mv (.t 10), none, []⟩,
  ⟨some 6, .mv (.t 67), none, []⟩,
  ⟨some 7, .mv (.t 68), none, []⟩,
  ⟨some 8, .mv (.c (.bool true)), none, []⟩] [6, 7, 8]
def c23_29 : ACode := .seq c23_28 .ret
def c23_30 : ACode := .seq c23_27 c23_29
def c23_31 : ACode := .seq c23_6 c23_30
def c23_32 : ACode := .seq c23_5 c23_31
def c23_33 : ACode := .seq c23_0 c23_32
def a23 : AFun := ⟨3, 69, c23_33, [.t 6, .t 7, .t 8]⟩
theorem m23 : mFun Try.prog Try.f23 a23 = true := by decide +kernel
@[simp 5000] theorem rd_biasN (a b : Int) (x : Bias) (y : AV) (k : Nat) (h : k < 3) : rd [.int .i64 a, .int .i64 b, .int .i64 x.b0, .int .i64 x.b1, .int .i64 x.b2, y] (2 + k) 1 false = some (.int .i64 (x.get k)) := by
  have := rd_bias a b x y k (by omega) (by omega)
  simpa using this
end Go.Co
