/- CO: what breaks a query. -/
import Derived.Test.YtagfmcachoaacaaCoJ
namespace Go.Co
open Go.Am Go.Proofs
set_option linter.unusedSimpArgs false
set_option linter.unusedVariables false
def c12_0 : ACode := .ops [⟨some 4, .box (.t 0) 6, none, []⟩,
  ⟨some 5, .box (.t 1) 17, none, []⟩,
  ⟨some 6, .box (.t 2) 4, none, []⟩,
  ⟨some 8, .mv (.c (.bool false)), none, []⟩] [3, 4, 5, 6]
def c12_1 : ACode := .ops [⟨some 12, .load 6 true (.t 4), none, [4]⟩,
  ⟨some 13, .load 17 true (.t 5), none, [5]⟩,
  ⟨some 14, .call 30 [.t 12, .t 13], none, []⟩,
  ⟨some 15, .un .not (.t 14), none, []⟩] [3, 4, 5, 6, 15]
def c12_2 : ACode := .ops [⟨some 8, .mv (.c (.bool false)), none, []⟩] [8]
def c12_3 : ACode := .seq c12_2 .ret
def c12_4 : ACode := .cond (.t 15) c12_3 .skip
def c12_5 : ACode := .seq c12_1 c12_4
def c12_6 : ACode := .ops [⟨some 16, .load 6 true (.t 4), none, [4]⟩,
  ⟨some 17, .fad (.t 5) 1, none, [5]⟩,
  ⟨some 18, .load 1 false (.t 17), none, [5]⟩,
  ⟨some 19, .load 4 true (.t 6), none, [6]⟩,
  ⟨some 20, .call 24 [.t 16, .t 18, .t 19], none, []⟩,
  ⟨some 9, .mv (.t 20), none, []⟩] [3, 4, 5, 6, 9]
def c12_7 : ACode := .ops [⟨some 21, .fad (.t 5) 0, none, [5]⟩,
  ⟨some 22, .load 1 false (.t 21), none, [5]⟩] [3, 4, 5, 6, 9, 22]
def c12_8 : ACode := .ops [⟨some 24, .bin .eql (.t 22) (.c (.int .i64 1)), none, []⟩,
  ⟨some 23, .mv (.t 24), none, []⟩] [3, 4, 5, 6, 9, 22, 23]
def c12_9 : ACode := .ops [⟨some 25, .fad (.t 5) 12, none, [5]⟩,
  ⟨some 26, .load 1 false (.t 25), none, [5]⟩,
  ⟨some 27, .fad (.t 5) 13, none, [5]⟩,
  ⟨some 28, .load 1 false (.t 27), none, [5]⟩,
  ⟨some 29, .build [.int .i64 0, .int .i64 0] [(0, 1, .t 26), (1, 1, .t 28)], none, []⟩,
  ⟨some 30, .mv (.t 9), none, []⟩,
  ⟨some 31, .call 34 [.t 29, .t 30], none, []⟩,
  ⟨some 32, .un .not (.t 31), none, []⟩,
  ⟨some 8, .mv (.t 32), none, []⟩] [8]
def c12_10 : ACode := .seq c12_9 .ret
def c12_11 : ACode := .ops [⟨some 34, .bin .eql (.t 22) (.c (.int .i64 2)), none, []⟩,
  ⟨some 33, .mv (.t 34), none, []⟩] [3, 4, 5, 6, 9, 33]
def c12_12 : ACode := .ops [⟨some 35, .fad (.t 4) 1, none, [4]⟩,
  ⟨some 36, .load 1 false (.t 35), none, [4]⟩,
  ⟨some 37, .mv (.c (.int .i64 0)), none, []⟩] [4, 5, 6, 9, 36, 37]
def c12_13 : ACode := .ops [⟨some 38, .bin .lss (.t 37) (.t 36), none, []⟩] [4, 5, 6, 9, 36, 37, 38]
def c12_14 : ACode := .cond (.t 38) .skip (.exit 1)
def c12_15 : ACode := .ops [⟨some 39, .mv (.t 37), none, []⟩,
  ⟨some 10, .mv (.t 39), none, []⟩] [4, 5, 6, 9, 10, 36, 37]
def c12_16 : ACode := .ops [⟨some 40, .mv (.t 10), none, []⟩,
  ⟨some 41, .fad (.t 5) 1, none, [5]⟩,
  ⟨some 42, .load 1 false (.t 41), none, [5]⟩,
  ⟨some 43, .bin .neq (.t 40) (.t 42), none, []⟩,
  ⟨some 44, .mv (.t 43), none, []⟩,
  ⟨some 45, .load 6 true (.t 4), some (44, true), [4]⟩,
  ⟨some 46, .mv (.t 10), some (44, true), []⟩,
  ⟨some 47, .load 4 true (.t 6), some (44, true), [6]⟩,
  ⟨some 48, .call 24 [.t 45, .t 46, .t 47], some (44, true), []⟩,
  ⟨some 49, .mv (.t 9), some (44, true), []⟩,
  ⟨some 50, .bin .geq (.t 48) (.t 49), some (44, true), []⟩,
  ⟨some 51, .pick (.t 44) (.t 50) (.c (.bool false)), none, []⟩] [4, 5, 6, 9, 36, 37, 51]
def c12_17 : ACode := .ops [⟨some 8, .mv (.c (.bool true)), none, []⟩] [8]
def c12_18 : ACode := .seq c12_17 .ret
def c12_19 : ACode := .cond (.t 51) c12_18 .skip
def c12_20 : ACode := .seq c12_16 c12_19
def c12_21 : ACode := .seq c12_15 c12_20
def c12_22 : ACode := .block 2 c12_21
def c12_23 : ACode := .ops [⟨some 52, .bin .add (.t 37) (.c (.int .i64 1)), none, []⟩,
  ⟨some 37, .mv (.t 52), none, []⟩] [4, 5, 6, 9, 36, 37]
def c12_24 : ACode := .seq c12_22 c12_23
def c12_25 : ACode := .seq c12_14 c12_24
def c12_26 : ACode := .seq c12_13 c12_25
def c12_27 : ACode := .keep [4, 5, 6, 9, 36, 37] [4, 5, 6] c12_26
def c12_28 : ACode := .loop c12_27
def c12_29 : ACode := .block 1 c12_28
def c12_30 : ACode := .seq c12_12 c12_29
def c12_31 : ACode := .ops [⟨some 8, .mv (.c (.bool false)), none, []⟩] [8]
def c12_32 : ACode := .seq c12_31 .ret
def c12_33 : ACode := .seq c12_30 c12_32
def c12_34 : ACode := .cond (.t 33) c12_33 .skip
def c12_35 : ACode := .seq c12_11 c12_34
def c12_36 : ACode := .cond (.t 23) c12_10 c12_35
def c12_37 : ACode := .seq c12_8 c12_36
def c12_38 : ACode := .block 0 c12_37
def c12_39 : ACode := .seq c12_7 c12_38
def c12_40 : ACode := .ops [⟨some 53, .fad (.t 5) 14, none, [5]⟩,
  ⟨some 54, .load 1 false (.t 53), none, [5]⟩,
  ⟨some 55, .iad (.t 6) (.t 54) 1 4, none, [6]⟩,
  ⟨some 56, .load 1 false (.t 55), none, [6]⟩,
  ⟨some 57, .mv (.t 3), none, []⟩,
  ⟨some 58, .bin .geq (.t 56) (.t 57), none, []⟩] [3, 4, 5, 6, 9, 58]
def c12_41 : ACode := .ops [⟨some 8, .mv (.c (.bool false)), none, []⟩] [8]
def c12_42 : ACode := .seq c12_41 .ret
def c12_43 : ACode := .cond (.t 58) c12_42 .skip
def c12_44 : ACode := .seq c12_40 c12_43
def c12_45 : ACode := .ops [⟨some 59, .load 6 true (.t 4), none, [4]⟩,
  ⟨some 60, .fad (.t 5) 1, none, [5]⟩,
  ⟨some 61, .load 1 false (.t 60), none, [5]⟩,
  ⟨some 62, .load 17 true (.t 5), none, [5]⟩,
  ⟨some 63, .load 4 true (.t 6), none, [6]⟩,
  ⟨some 64, .mv (.t 3), none, []⟩,
  ⟨some 65, .call 35 [.t 62, .t 63, .t 64], none, []⟩,
  ⟨some 66, .call 24 [.t 59, .t 61, .t 65], none, []⟩,
  ⟨some 11, .mv (.t 66), none, []⟩] [5, 9, 11]
def c12_46 : ACode := .ops [⟨some 67, .fad (.t 5) 15, none, [5]⟩,
  ⟨some 68, .load 1 false (.t 67), none, [5]⟩] [9, 11, 68]
def c12_47 : ACode := .ops [⟨some 69, .mv (.t 11), none, []⟩,
  ⟨some 70, .mv (.t 9), none, []⟩,
  ⟨some 71, .bin .gtr (.t 69) (.t 70), none, []⟩,
  ⟨some 8, .mv (.t 71), none, []⟩] [8]
def c12_48 : ACode := .seq c12_47 .ret
def c12_49 : ACode := .cond (.t 68) c12_48 .skip
def c12_50 : ACode := .seq c12_46 c12_49
def c12_51 : ACode := .ops [⟨some 72, .mv (.t 11), none, []⟩,
  ⟨some 73, .mv (.t 9), none, []⟩,
  ⟨some 74, .bin .lss (.t 72) (.t 73), none, []⟩,
  ⟨some 8, .mv (.t 74), none, []⟩] [8]
def c12_52 : ACode := .seq c12_51 .ret
def c12_53 : ACode := .seq c12_50 c12_52
def c12_54 : ACode := .seq c12_45 c12_53
def c12_55 : ACode := .seq c12_44 c12_54
def c12_56 : ACode := .seq c12_39 c12_55
def c12_57 : ACode := .seq c12_6 c12_56
def c12_58 : ACode := .seq c12_5 c12_57
def c12_59 : ACode := .seq c12_0 c12_58
def a12 : AFun := ⟨4, 75, c12_59, [.t 8]⟩
theorem m12 : mFun Try.prog Try.f12 a12 = true := by decide +kernel
end Go.Co
