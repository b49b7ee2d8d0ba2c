/- The law GridHolds: what its text computes. -/
import Derived.Test.YtbjnmbbhlaghaaaCoHq
import Derived.Test.YtbjnmbbhlaghaaaCoH
import Derived.Test.YtbjnmbbhlaghaaaCoLib
import Derived.Test.YtbjnmbbhlaghaaaCoSh
namespace Go.Co
open Go.Am Go.Proofs
set_option linter.unusedSimpArgs false
set_option linter.unusedVariables false
attribute [-simp] Go.Am.eff_gcall
def c39_0 : ACode := .ops [⟨some 5, .box (.t 0) 4, none, []⟩,
  ⟨some 6, .box (.t 1) 8, none, []⟩,
  ⟨some 10, .mv (.c (.bool false)), none, []⟩] [2, 3, 4, 5, 6]
theorem r39_0 : type_of% (@rr _ _ c39_0.eq_1) := rr c39_0.eq_1
def c39_1 : ACode := .ops [⟨some 21, .load 4 true (.t 5), none, [5]⟩,
  ⟨some 22, .call 45 [.t 21], none, []⟩,
  ⟨some 11, .alloc [.int .i64 0, .int .i64 0, .int .i64 0, .int .i64 0, .int .i64 0, .nils], none, []⟩,
  ⟨none, .store (.t 11) 6 (.t 22), none, [11]⟩] [2, 3, 4, 6, 11]
theorem r39_1 : type_of% (@rr _ _ c39_1.eq_1) := rr c39_1.eq_1
def c39_2 : ACode := .ops [⟨some 23, .load 8 true (.t 6), none, [6]⟩,
  ⟨some 24, .load 6 true (.t 11), none, [11]⟩,
  ⟨some 25, .call 59 [.t 23, .t 24], none, []⟩,
  ⟨some 12, .alloc [.int .i64 0, .int .i64 0, .int .i64 0, .int .i64 0, .int .i64 0, .int .i64 0, .int .i64 0, .int .i64 0, .int .i64 0, .int .i64 0, .int .i64 0, .int .i64 0, .int .i64 0, .int .i64 0, .int .i64 0, .bool false, .int .i64 0], none, []⟩,
  ⟨none, .store (.t 12) 17 (.t 25), none, [12]⟩] [2, 3, 4, 11, 12]
theorem r39_2 : type_of% (@rr _ _ c39_2.eq_1) := rr c39_2.eq_1
def c39_3 : ACode := .ops [⟨some 27, .load 6 true (.t 11), none, [11]⟩,
  ⟨some 28, .load 17 true (.t 12), none, [12]⟩,
  ⟨some 29, .call 101 [.t 27, .t 28, .c (.int .i64 600)], none, []⟩,
  ⟨some 26, .mv (.t 29), none, []⟩,
  ⟨some 30, .ext (.t 26) 0, none, []⟩,
  ⟨some 31, .ext (.t 26) 1, none, []⟩,
  ⟨some 13, .mv (.t 30), none, []⟩,
  ⟨some 14, .mv (.t 31), none, []⟩] [2, 3, 4, 11, 12, 13, 14]
theorem r39_3 : type_of% (@rr _ _ c39_3.eq_1) := rr c39_3.eq_1
def c39_4 : ACode := .ops [⟨some 32, .mv (.t 14), none, []⟩,
  ⟨some 33, .un .not (.t 32), none, []⟩] [2, 3, 4, 11, 12, 13, 33]
theorem r39_4 : type_of% (@rr _ _ c39_4.eq_1) := rr c39_4.eq_1
def c39_5 : ACode := .ops [⟨some 34, .mv (.t 13), none, []⟩,
  ⟨some 35, .un .not (.t 34), none, []⟩,
  ⟨some 36, .mv (.t 35), none, []⟩,
  ⟨some 37, .call 37 [], some (36, true), []⟩,
  ⟨some 38, .pick (.t 36) (.t 37) (.c (.bool false)), none, []⟩,
  ⟨some 10, .mv (.t 38), none, []⟩] [10]
theorem r39_5 : type_of% (@rr _ _ c39_5.eq_1) := rr c39_5.eq_1
def c39_6 : ACode := .seq c39_5 .ret
theorem r39_6 : type_of% (@rr _ _ c39_6.eq_1) := rr c39_6.eq_1
def c39_7 : ACode := .cond (.t 33) c39_6 .skip
theorem r39_7 : type_of% (@rr _ _ c39_7.eq_1) := rr c39_7.eq_1
def c39_8 : ACode := .seq c39_4 c39_7
theorem r39_8 : type_of% (@rr _ _ c39_8.eq_1) := rr c39_8.eq_1
def c39_9 : ACode := .ops [⟨some 39, .load 17 true (.t 12), none, [12]⟩,
  ⟨some 40, .call 58 [.t 39], none, []⟩,
  ⟨some 15, .alloc [.int .i64 0, .int .i64 0, .int .i64 0, .int .i64 0, .int .i64 0, .int .i64 0, .int .i64 0, .int .i64 0, .int .i64 0, .int .i64 0], none, []⟩,
  ⟨none, .store (.t 15) 10 (.t 40), none, [15]⟩] [2, 3, 4, 11, 12, 13, 15]
theorem r39_9 : type_of% (@rr _ _ c39_9.eq_1) := rr c39_9.eq_1
def c39_10 : ACode := .ops [⟨some 16, .mv (.c (.int .i64 0)), none, []⟩] [2, 3, 4, 11, 12, 13, 15, 16]
theorem r39_10 : type_of% (@rr _ _ c39_10.eq_1) := rr c39_10.eq_1
def c39_11 : ACode := .ops [⟨some 41, .mv (.t 16), none, []⟩,
  ⟨some 42, .mv (.t 2), none, []⟩,
  ⟨some 43, .len (.t 42), none, []⟩,
  ⟨some 44, .bin .lss (.t 41) (.t 43), none, []⟩,
  ⟨some 45, .mv (.t 44), none, []⟩,
  ⟨some 46, .mv (.t 16), some (45, true), []⟩,
  ⟨some 47, .bin .lss (.t 46) (.c (.int .i64 8)), some (45, true), []⟩,
  ⟨some 48, .pick (.t 45) (.t 47) (.c (.bool false)), none, []⟩] [2, 3, 4, 11, 12, 13, 15, 16, 48]
theorem r39_11 : type_of% (@rr _ _ c39_11.eq_1) := rr c39_11.eq_1
def c39_12 : ACode := .cond (.t 48) .skip (.exit 0)
theorem r39_12 : type_of% (@rr _ _ c39_12.eq_1) := rr c39_12.eq_1
def c39_13 : ACode := .seq c39_11 c39_12
theorem r39_13 : type_of% (@rr _ _ c39_13.eq_1) := rr c39_13.eq_1
def c39_14 : ACode := .ops [⟨some 51, .mv (.t 13), none, []⟩,
  ⟨some 52, .mv (.t 51), none, []⟩,
  ⟨some 53, .load 6 true (.t 11), some (52, true), [11]⟩,
  ⟨some 54, .load 17 true (.t 12), some (52, true), [12]⟩,
  ⟨some 55, .load 10 true (.t 15), some (52, true), [15]⟩,
  ⟨some 56, .mv (.t 2), some (52, true), []⟩,
  ⟨some 57, .mv (.t 16), some (52, true), []⟩,
  ⟨some 58, .ias (.t 56) (.t 57) 1, some (52, true), []⟩,
  ⟨some 59, .load 1 false (.t 58), some (52, true), []⟩,
  ⟨some 60, .call 66 [.t 55, .t 59], some (52, true), []⟩,
  ⟨some 61, .mv (.t 3), some (52, true), []⟩,
  ⟨some 62, .iad (.t 15) (.c (.int .i64 4)) 2 5, some (52, true), [15]⟩,
  ⟨some 63, .fad (.t 62) 0, some (52, true), [15]⟩,
  ⟨some 64, .load 1 false (.t 63), some (52, true), [15]⟩,
  ⟨some 65, .iad (.t 15) (.c (.int .i64 4)) 2 5, some (52, true), [15]⟩,
  ⟨some 66, .fad (.t 65) 1, some (52, true), [15]⟩,
  ⟨some 67, .load 1 false (.t 66), some (52, true), [15]⟩,
  ⟨some 68, .call 63 [.t 61, .t 64, .t 67], some (52, true), []⟩,
  ⟨some 69, .call 57 [.t 53, .t 54, .t 60, .t 68], some (52, true), []⟩,
  ⟨some 70, .pick (.t 52) (.t 69) (.c (.bool false)), none, []⟩] [2, 3, 4, 11, 12, 13, 15, 16, 70]
theorem r39_14 : type_of% (@rr _ _ c39_14.eq_1) := rr c39_14.eq_1
def c39_15 : ACode := .ops [⟨some 10, .mv (.c (.bool false)), none, []⟩] [10]
theorem r39_15 : type_of% (@rr _ _ c39_15.eq_1) := rr c39_15.eq_1
def c39_16 : ACode := .seq c39_15 .ret
theorem r39_16 : type_of% (@rr _ _ c39_16.eq_1) := rr c39_16.eq_1
def c39_17 : ACode := .cond (.t 70) c39_16 .skip
theorem r39_17 : type_of% (@rr _ _ c39_17.eq_1) := rr c39_17.eq_1
def c39_18 : ACode := .seq c39_14 c39_17
theorem r39_18 : type_of% (@rr _ _ c39_18.eq_1) := rr c39_18.eq_1
def c39_19 : ACode := .block 1 c39_18
theorem r39_19 : type_of% (@rr _ _ c39_19.eq_1) := rr c39_19.eq_1
def c39_20 : ACode := .ops [⟨some 49, .mv (.t 16), none, []⟩,
  ⟨some 50, .bin .add (.t 49) (.c (.int .i64 1)), none, []⟩,
  ⟨some 16, .mv (.t 50), none, []⟩] [2, 3, 4, 11, 12, 13, 15, 16]
theorem r39_20 : type_of% (@rr _ _ c39_20.eq_1) := rr c39_20.eq_1
def c39_21 : ACode := .seq c39_19 c39_20
theorem r39_21 : type_of% (@rr _ _ c39_21.eq_1) := rr c39_21.eq_1
def c39_22 : ACode := .seq c39_13 c39_21
theorem r39_22 : type_of% (@rr _ _ c39_22.eq_1) := rr c39_22.eq_1
def c39_23 : ACode := .keep [2, 3, 4, 11, 12, 13, 15, 16] [11, 12, 15] c39_22
theorem r39_23 : type_of% (@rr _ _ c39_23.eq_1) := rr c39_23.eq_1
def c39_24 : ACode := .loop c39_23
theorem r39_24 : type_of% (@rr _ _ c39_24.eq_1) := rr c39_24.eq_1
def c39_25 : ACode := .block 0 c39_24
theorem r39_25 : type_of% (@rr _ _ c39_25.eq_1) := rr c39_25.eq_1
def c39_26 : ACode := .seq c39_10 c39_25
theorem r39_26 : type_of% (@rr _ _ c39_26.eq_1) := rr c39_26.eq_1
def c39_27 : ACode := .ops [⟨some 71, .load 17 true (.t 12), none, [12]⟩,
  ⟨some 17, .alloc [.int .i64 0, .int .i64 0, .int .i64 0, .int .i64 0, .int .i64 0, .int .i64 0, .int .i64 0, .int .i64 0, .int .i64 0, .int .i64 0, .int .i64 0, .int .i64 0, .int .i64 0, .int .i64 0, .int .i64 0, .bool false, .int .i64 0], none, []⟩,
  ⟨none, .store (.t 17) 17 (.t 71), none, [17]⟩] [4, 11, 12, 13, 17]
theorem r39_27 : type_of% (@rr _ _ c39_27.eq_1) := rr c39_27.eq_1
def c39_28 : ACode := .ops [⟨some 72, .fad (.t 12) 2, none, [12]⟩,
  ⟨some 73, .iad (.t 72) (.c (.int .i64 0)) 2 5, none, [12]⟩,
  ⟨some 74, .load 2 true (.t 73), none, [12]⟩,
  ⟨some 18, .alloc [.int .i64 0, .int .i64 0], none, []⟩,
  ⟨none, .store (.t 18) 2 (.t 74), none, [18]⟩] [4, 11, 13, 17, 18]
theorem r39_28 : type_of% (@rr _ _ c39_28.eq_1) := rr c39_28.eq_1
def c39_29 : ACode := .ops [⟨some 75, .mv (.t 4), none, []⟩,
  ⟨some 76, .fad (.t 18) 0, none, [18]⟩,
  ⟨some 77, .load 1 false (.t 76), none, [18]⟩,
  ⟨some 78, .fad (.t 18) 1, none, [18]⟩,
  ⟨some 79, .load 1 false (.t 78), none, [18]⟩,
  ⟨some 80, .call 63 [.t 75, .t 77, .t 79], none, []⟩,
  ⟨some 81, .fad (.t 17) 2, none, [17]⟩,
  ⟨some 82, .iad (.t 81) (.c (.int .i64 0)) 2 5, none, [17]⟩,
  ⟨some 83, .fad (.t 82) 1, none, [17]⟩,
  ⟨none, .store (.t 83) 1 (.t 80), none, [17]⟩] [11, 13, 17]
theorem r39_29 : type_of% (@rr _ _ c39_29.eq_1) := rr c39_29.eq_1
def c39_30 : ACode := .ops [⟨some 85, .load 6 true (.t 11), none, [11]⟩,
  ⟨some 86, .load 17 true (.t 17), none, [17]⟩,
  ⟨some 87, .call 101 [.t 85, .t 86, .c (.int .i64 600)], none, []⟩,
  ⟨some 84, .mv (.t 87), none, []⟩,
  ⟨some 88, .ext (.t 84) 0, none, []⟩,
  ⟨some 89, .ext (.t 84) 1, none, []⟩,
  ⟨some 19, .mv (.t 88), none, []⟩,
  ⟨some 20, .mv (.t 89), none, []⟩] [13, 19, 20]
theorem r39_30 : type_of% (@rr _ _ c39_30.eq_1) := rr c39_30.eq_1
def c39_31 : ACode := .ops [⟨some 90, .mv (.t 20), none, []⟩,
  ⟨some 91, .mv (.t 90), none, []⟩,
  ⟨some 92, .mv (.t 13), some (91, true), []⟩,
  ⟨some 93, .un .not (.t 92), some (91, true), []⟩,
  ⟨some 94, .mv (.t 93), some (91, true), []⟩,
  ⟨some 95, .mv (.t 19), some (94, false), []⟩,
  ⟨some 96, .pick (.t 94) (.c (.bool true)) (.t 95), some (91, true), []⟩,
  ⟨some 97, .pick (.t 91) (.t 96) (.c (.bool false)), none, []⟩,
  ⟨some 98, .mv (.t 97), none, []⟩,
  ⟨some 99, .call 37 [], some (98, true), []⟩,
  ⟨some 100, .pick (.t 98) (.t 99) (.c (.bool false)), none, []⟩,
  ⟨some 10, .mv (.t 100), none, []⟩] [10]
theorem r39_31 : type_of% (@rr _ _ c39_31.eq_1) := rr c39_31.eq_1
def c39_32 : ACode := .seq c39_31 .ret
theorem r39_32 : type_of% (@rr _ _ c39_32.eq_1) := rr c39_32.eq_1
def c39_33 : ACode := .seq c39_30 c39_32
theorem r39_33 : type_of% (@rr _ _ c39_33.eq_1) := rr c39_33.eq_1
def c39_34 : ACode := .seq c39_29 c39_33
theorem r39_34 : type_of% (@rr _ _ c39_34.eq_1) := rr c39_34.eq_1
def c39_35 : ACode := .seq c39_28 c39_34
theorem r39_35 : type_of% (@rr _ _ c39_35.eq_1) := rr c39_35.eq_1
def c39_36 : ACode := .seq c39_27 c39_35
theorem r39_36 : type_of% (@rr _ _ c39_36.eq_1) := rr c39_36.eq_1
def c39_37 : ACode := .seq c39_26 c39_36
theorem r39_37 : type_of% (@rr _ _ c39_37.eq_1) := rr c39_37.eq_1
def c39_38 : ACode := .seq c39_9 c39_37
theorem r39_38 : type_of% (@rr _ _ c39_38.eq_1) := rr c39_38.eq_1
def c39_39 : ACode := .seq c39_8 c39_38
theorem r39_39 : type_of% (@rr _ _ c39_39.eq_1) := rr c39_39.eq_1
def c39_40 : ACode := .seq c39_3 c39_39
theorem r39_40 : type_of% (@rr _ _ c39_40.eq_1) := rr c39_40.eq_1
def c39_41 : ACode := .seq c39_2 c39_40
theorem r39_41 : type_of% (@rr _ _ c39_41.eq_1) := rr c39_41.eq_1
def c39_42 : ACode := .seq c39_1 c39_41
theorem r39_42 : type_of% (@rr _ _ c39_42.eq_1) := rr c39_42.eq_1
def c39_43 : ACode := .seq c39_0 c39_42
theorem r39_43 : type_of% (@rr _ _ c39_43.eq_1) := rr c39_43.eq_1
def a39 : AFun := ⟨5, 101, c39_43, [.t 10]⟩
attribute [simp] r39_0 r39_1 r39_2 r39_3 r39_4 r39_5 r39_6 r39_7 r39_8 r39_9 r39_10 r39_11 r39_12 r39_13 r39_14 r39_15 r39_16 r39_17 r39_18 r39_19 r39_20 r39_21 r39_22 r39_23 r39_24 r39_25 r39_26 r39_27 r39_28 r39_29 r39_30 r39_31 r39_32 r39_33 r39_34 r39_35 r39_36 r39_37 r39_38 r39_39 r39_40 r39_41 r39_42 r39_43
theorem m39 : mFun Try.prog Try.f39 a39 = true := by decide +kernel
def c37_0 : ACode := .ops [⟨some 0, .mv (.c (.bool false)), none, []⟩] []
def c37_1 : ACode := .ops [⟨some 12, .call 43 [], none, []⟩,
  ⟨some 1, .alloc [.int .i64 0, .int .i64 0, .int .i64 0, .int .i64 0, .int .i64 0, .nils], none, []⟩,
  ⟨none, .store (.t 1) 6 (.t 12), none, [1]⟩] [1]
def c37_2 : ACode := .ops [⟨some 13, .build [.int .i64 0, .int .i64 0] [(0, 1, .c (.int .i64 0)), (1, 1, .c (.int .i64 9))], none, []⟩,
  ⟨some 14, .build [.int .i64 0, .int .i64 0, .int .i64 0, .int .i64 0, .int .i64 0, .int .i64 0, .int .i64 0, .int .i64 0, .int .i64 0, .int .i64 0] [(0, 2, .t 13)], none, []⟩,
  ⟨some 15, .build [.int .i64 0, .int .i64 0, .int .i64 0, .int .i64 0, .int .i64 0, .int .i64 0, .int .i64 0, .int .i64 0, .int .i64 0, .int .i64 0, .int .i64 0, .int .i64 0, .int .i64 0, .int .i64 0, .int .i64 0, .bool false, .int .i64 0] [(0, 1, .c (.int .i64 3)), (2, 10, .t 14)], none, []⟩,
  ⟨some 2, .alloc [.int .i64 0, .int .i64 0, .int .i64 0, .int .i64 0, .int .i64 0, .int .i64 0, .int .i64 0, .int .i64 0, .int .i64 0, .int .i64 0, .int .i64 0, .int .i64 0, .int .i64 0, .int .i64 0, .int .i64 0, .bool false, .int .i64 0], none, []⟩,
  ⟨none, .store (.t 2) 17 (.t 15), none, [2]⟩] [1, 2]
def c37_3 : ACode := .ops [⟨some 16, .load 17 true (.t 2), none, [2]⟩,
  ⟨some 17, .call 58 [.t 16], none, []⟩,
  ⟨some 3, .alloc [.int .i64 0, .int .i64 0, .int .i64 0, .int .i64 0, .int .i64 0, .int .i64 0, .int .i64 0, .int .i64 0, .int .i64 0, .int .i64 0], none, []⟩,
  ⟨none, .store (.t 3) 10 (.t 17), none, [3]⟩] [1, 2, 3]
def c37_4 : ACode := .ops [⟨some 19, .load 6 true (.t 1), none, [1]⟩,
  ⟨some 20, .load 17 true (.t 2), none, [2]⟩,
  ⟨some 21, .load 10 true (.t 3), none, [3]⟩,
  ⟨some 22, .call 100 [.t 19, .t 20, .t 21, .c (.int .i64 10)], none, []⟩,
  ⟨some 18, .mv (.t 22), none, []⟩,
  ⟨some 23, .ext (.t 18) 0, none, []⟩,
  ⟨some 24, .ext (.t 18) 1, none, []⟩,
  ⟨some 4, .mv (.t 23), none, []⟩,
  ⟨some 5, .mv (.t 24), none, []⟩] [1, 2, 3, 4, 5]
def c37_5 : ACode := .ops [⟨some 26, .load 6 true (.t 1), none, [1]⟩,
  ⟨some 27, .load 17 true (.t 2), none, [2]⟩,
  ⟨some 28, .call 101 [.t 26, .t 27, .c (.int .i64 10)], none, []⟩,
  ⟨some 25, .mv (.t 28), none, []⟩,
  ⟨some 29, .ext (.t 25) 0, none, []⟩,
  ⟨some 30, .ext (.t 25) 1, none, []⟩,
  ⟨some 6, .mv (.t 29), none, []⟩,
  ⟨some 7, .mv (.t 30), none, []⟩] [1, 2, 3, 4, 5, 6, 7]
def c37_6 : ACode := .ops [⟨some 31, .fad (.t 2) 15, none, [2]⟩,
  ⟨none, .store (.t 31) 1 (.c (.bool true)), none, [2]⟩] [1, 2, 3, 4, 5, 6, 7]
def c37_7 : ACode := .ops [⟨some 33, .load 6 true (.t 1), none, [1]⟩,
  ⟨some 34, .load 17 true (.t 2), none, [2]⟩,
  ⟨some 35, .call 101 [.t 33, .t 34, .c (.int .i64 10)], none, []⟩,
  ⟨some 32, .mv (.t 35), none, []⟩,
  ⟨some 36, .ext (.t 32) 0, none, []⟩,
  ⟨some 37, .ext (.t 32) 1, none, []⟩,
  ⟨some 8, .mv (.t 36), none, []⟩,
  ⟨some 9, .mv (.t 37), none, []⟩] [1, 2, 3, 4, 5, 6, 7, 8, 9]
def c37_8 : ACode := .ops [⟨some 39, .load 6 true (.t 1), none, [1]⟩,
  ⟨some 40, .load 17 true (.t 2), none, [2]⟩,
  ⟨some 41, .load 10 true (.t 3), none, [3]⟩,
  ⟨some 42, .call 100 [.t 39, .t 40, .t 41, .c (.int .i64 3)], none, []⟩,
  ⟨some 38, .mv (.t 42), none, []⟩,
  ⟨some 43, .ext (.t 38) 0, none, []⟩,
  ⟨some 44, .ext (.t 38) 1, none, []⟩,
  ⟨some 10, .mv (.t 43), none, []⟩,
  ⟨some 11, .mv (.t 44), none, []⟩] [1, 2, 3, 4, 5, 6, 7, 8, 9, 11]
def c37_9 : ACode := .ops [⟨some 45, .load 6 true (.t 1), none, [1]⟩,
  ⟨some 46, .load 17 true (.t 2), none, [2]⟩,
  ⟨some 47, .load 10 true (.t 3), none, [3]⟩,
  ⟨some 48, .call 102 [.t 45, .t 46, .t 47, .c (.int .i64 0)], none, []⟩,
  ⟨some 49, .mkrow 49 1 1 [.int .i64 0] [(0, 1, .c (.int .i64 5))], none, []⟩,
  ⟨some 50, .call 83 [.t 48, .t 49], none, [49]⟩,
  ⟨some 51, .mv (.t 50), none, []⟩,
  ⟨some 52, .mv (.t 4), some (51, true), []⟩,
  ⟨some 53, .bin .eql (.t 52) (.c (.int .i64 4)), some (51, true), []⟩,
  ⟨some 54, .pick (.t 51) (.t 53) (.c (.bool false)), none, []⟩,
  ⟨some 55, .mv (.t 54), none, []⟩,
  ⟨some 56, .mv (.t 5), some (55, true), []⟩,
  ⟨some 57, .pick (.t 55) (.t 56) (.c (.bool false)), none, []⟩,
  ⟨some 58, .mv (.t 57), none, []⟩,
  ⟨some 59, .mv (.t 6), some (58, true), []⟩,
  ⟨some 60, .pick (.t 58) (.t 59) (.c (.bool false)), none, []⟩,
  ⟨some 61, .mv (.t 60), none, []⟩,
  ⟨some 62, .mv (.t 7), some (61, true), []⟩,
  ⟨some 63, .pick (.t 61) (.t 62) (.c (.bool false)), none, []⟩,
  ⟨some 64, .mv (.t 63), none, []⟩,
  ⟨some 65, .mv (.t 8), some (64, true), []⟩,
  ⟨some 66, .un .not (.t 65), some (64, true), []⟩,
  ⟨some 67, .pick (.t 64) (.t 66) (.c (.bool false)), none, []⟩,
  ⟨some 68, .mv (.t 67), none, []⟩,
  ⟨some 69, .mv (.t 9), some (68, true), []⟩,
  ⟨some 70, .pick (.t 68) (.t 69) (.c (.bool false)), none, []⟩,
  ⟨some 71, .mv (.t 70), none, []⟩,
  ⟨some 72, .mv (.t 11), some (71, true), []⟩,
  ⟨some 73, .un .not (.t 72), some (71, true), []⟩,
  ⟨some 74, .pick (.t 71) (.t 73) (.c (.bool false)), none, []⟩,
  ⟨some 0, .mv (.t 74), none, []⟩] [0]
def c37_10 : ACode := .seq c37_9 .ret
def c37_11 : ACode := .seq c37_8 c37_10
def c37_12 : ACode := .seq c37_7 c37_11
def c37_13 : ACode := .seq c37_6 c37_12
def c37_14 : ACode := .seq c37_5 c37_13
def c37_15 : ACode := .seq c37_4 c37_14
def c37_16 : ACode := .seq c37_3 c37_15
def c37_17 : ACode := .seq c37_2 c37_16
def c37_18 : ACode := .seq c37_1 c37_17
def c37_19 : ACode := .seq c37_0 c37_18
def a37 : AFun := ⟨0, 75, c37_19, [.t 0]⟩
theorem m37 : mFun Try.prog Try.f37 a37 = true := by decide +kernel
def c43_0 : ACode := .ops [⟨some 0, .alloc [.int .i64 0, .int .i64 0, .int .i64 0, .int .i64 0, .int .i64 0, .nils], none, []⟩] [0]
def c43_1 : ACode := .ops [⟨some 2, .build [.bool false, .int .i64 0, .int .i64 0, .int .i64 0, .int .i64 0, .int .i64 0] [(3, 1, .c (.int .i64 5)), (4, 1, .c (.int .i64 1)), (5, 1, .c (.int .i64 2))], none, []⟩,
  ⟨some 3, .call 111 [.t 2], none, []⟩,
  ⟨some 4, .build [.bool false, .int .i64 0, .int .i64 0, .int .i64 0, .int .i64 0, .int .i64 0] [(0, 1, .c (.bool true)), (1, 1, .c (.int .i64 10))], none, []⟩,
  ⟨some 5, .call 111 [.t 4], none, []⟩,
  ⟨some 6, .build [.bool false, .int .i64 0, .int .i64 0, .int .i64 0, .int .i64 0, .int .i64 0] [(0, 1, .c (.bool true)), (1, 1, .c (.int .i64 20))], none, []⟩,
  ⟨some 7, .call 111 [.t 6], none, []⟩,
  ⟨some 8, .mkrow 1 3 1 [.int .u64 0] [(0, 1, .t 3), (1, 1, .t 5), (2, 1, .t 7)], none, []⟩,
  ⟨some 1, .mv (.t 8), none, []⟩] [0, 1]
def c43_2 : ACode := .ops [⟨some 9, .build [.int .i64 0, .int .i64 0, .int .i64 0] [(0, 1, .c (.int .i64 3))], none, []⟩,
  ⟨some 10, .mv (.t 1), none, []⟩,
  ⟨some 11, .build [.int .i64 0, .nils] [(1, 1, .t 10)], none, []⟩,
  ⟨some 12, .mkrow 12 1 2 [.int .i64 0, .nils] [(0, 2, .t 11)], none, []⟩,
  ⟨some 13, .build [.int .i64 0, .int .i64 0, .int .i64 0, .int .i64 0, .int .i64 0, .nils] [(0, 1, .c (.int .i64 1)), (1, 1, .c (.int .i64 1)), (2, 3, .t 9), (5, 1, .t 12)], none, []⟩,
  ⟨none, .store (.t 0) 6 (.t 13), none, [0]⟩] [0]
def c43_3 : ACode := .seq c43_2 .ret
def c43_4 : ACode := .seq c43_1 c43_3
def c43_5 : ACode := .seq c43_0 c43_4
def a43 : AFun := ⟨0, 14, c43_5, [.cell 0 6 true]⟩
theorem m43 : mFun Try.prog Try.f43 a43 = true := by decide +kernel
def c83_0 : ACode := .ops [⟨some 4, .mv (.c (.bool false)), none, []⟩] [0, 1]
def c83_1 : ACode := .ops [⟨some 6, .mv (.t 0), none, []⟩,
  ⟨some 7, .len (.t 6), none, []⟩,
  ⟨some 8, .mv (.t 1), none, []⟩,
  ⟨some 9, .len (.t 8), none, []⟩,
  ⟨some 10, .bin .neq (.t 7) (.t 9), none, []⟩] [0, 1, 10]
def c83_2 : ACode := .ops [⟨some 4, .mv (.c (.bool false)), none, []⟩] [4]
def c83_3 : ACode := .seq c83_2 .ret
def c83_4 : ACode := .cond (.t 10) c83_3 .skip
def c83_5 : ACode := .seq c83_1 c83_4
def c83_6 : ACode := .ops [⟨some 5, .mv (.c (.int .i64 0)), none, []⟩] [0, 1, 5]
def c83_7 : ACode := .ops [⟨some 11, .mv (.t 5), none, []⟩,
  ⟨some 12, .mv (.t 0), none, []⟩,
  ⟨some 13, .len (.t 12), none, []⟩,
  ⟨some 14, .bin .lss (.t 11) (.t 13), none, []⟩] [0, 1, 5, 14]
def c83_8 : ACode := .cond (.t 14) .skip (.exit 0)
def c83_9 : ACode := .seq c83_7 c83_8
def c83_10 : ACode := .ops [⟨some 17, .mv (.t 0), none, []⟩,
  ⟨some 18, .mv (.t 5), none, []⟩,
  ⟨some 19, .ias (.t 17) (.t 18) 1, none, []⟩,
  ⟨some 20, .load 1 false (.t 19), none, []⟩,
  ⟨some 21, .mv (.t 1), none, []⟩,
  ⟨some 22, .mv (.t 5), none, []⟩,
  ⟨some 23, .ias (.t 21) (.t 22) 1, none, []⟩,
  ⟨some 24, .load 1 false (.t 23), none, []⟩,
  ⟨some 25, .bin .neq (.t 20) (.t 24), none, []⟩] [0, 1, 5, 25]
def c83_11 : ACode := .ops [⟨some 4, .mv (.c (.bool false)), none, []⟩] [4]
def c83_12 : ACode := .seq c83_11 .ret
def c83_13 : ACode := .cond (.t 25) c83_12 .skip
def c83_14 : ACode := .seq c83_10 c83_13
def c83_15 : ACode := .block 1 c83_14
def c83_16 : ACode := .ops [⟨some 15, .mv (.t 5), none, []⟩,
  ⟨some 16, .bin .add (.t 15) (.c (.int .i64 1)), none, []⟩,
  ⟨some 5, .mv (.t 16), none, []⟩] [0, 1, 5]
def c83_17 : ACode := .seq c83_15 c83_16
def c83_18 : ACode := .seq c83_9 c83_17
def c83_19 : ACode := .keep [0, 1, 5] [] c83_18
def c83_20 : ACode := .loop c83_19
def c83_21 : ACode := .block 0 c83_20
def c83_22 : ACode := .seq c83_6 c83_21
def c83_23 : ACode := .ops [⟨some 4, .mv (.c (.bool true)), none, []⟩] [4]
def c83_24 : ACode := .seq c83_23 .ret
def c83_25 : ACode := .seq c83_22 c83_24
def c83_26 : ACode := .seq c83_5 c83_25
def c83_27 : ACode := .seq c83_0 c83_26
def a83 : AFun := ⟨2, 26, c83_27, [.t 4]⟩
theorem m83 : mFun Try.prog Try.f83 a83 = true := by decide +kernel
def texts37 : List (Nat × AFun) := [(37, a37), (43, a43), (56, a56), (57, a57), (58, a58), (64, a64), (67, a67), (69, a69), (71, a71), (76, a76), (77, a77), (83, a83), (96, a96), (99, a99), (100, a100), (101, a101), (102, a102), (103, a103), (111, a111), (115, a115), (116, a116), (117, a117), (118, a118), (119, a119), (120, a120), (121, a121), (122, a122), (123, a123), (124, a124), (125, a125), (128, a128), (129, a129), (130, a130), (131, a131), (148, a148), (149, a149), (150, a150), (151, a151), (152, a152), (153, a153), (154, a154), (156, a156), (158, a158), (159, a159), (160, a160), (161, a161), (162, a162), (163, a163), (164, a164), (165, a165), (174, a174), (175, a175), (176, a176)]
theorem texts37_good : Go.Am.Good Try.prog texts37 :=
  good_cons Try.func37 m37 <| good_cons Try.func43 m43 <| good_cons Try.func56 m56 <| good_cons Try.func57 m57 <| good_cons Try.func58 m58 <| good_cons Try.func64 m64 <| good_cons Try.func67 m67 <| good_cons Try.func69 m69 <| good_cons Try.func71 m71 <| good_cons Try.func76 m76 <| good_cons Try.func77 m77 <| good_cons Try.func83 m83 <| good_cons Try.func96 m96 <| good_cons Try.func99 m99 <| good_cons Try.func100 m100 <| good_cons Try.func101 m101 <| good_cons Try.func102 m102 <| good_cons Try.func103 m103 <| good_cons Try.func111 m111 <| good_cons Try.func115 m115 <| good_cons Try.func116 m116 <| good_cons Try.func117 m117 <| good_cons Try.func118 m118 <| good_cons Try.func119 m119 <| good_cons Try.func120 m120 <| good_cons Try.func121 m121 <| good_cons Try.func122 m122 <| good_cons Try.func123 m123 <| good_cons Try.func124 m124 <| good_cons Try.func125 m125 <| good_cons Try.func128 m128 <| good_cons Try.func129 m129 <| good_cons Try.func130 m130 <| good_cons Try.func131 m131 <| good_cons Try.func148 m148 <| good_cons Try.func149 m149 <| good_cons Try.func150 m150 <| good_cons Try.func151 m151 <| good_cons Try.func152 m152 <| good_cons Try.func153 m153 <| good_cons Try.func154 m154 <| good_cons Try.func156 m156 <| good_cons Try.func158 m158 <| good_cons Try.func159 m159 <| good_cons Try.func160 m160 <| good_cons Try.func161 m161 <| good_cons Try.func162 m162 <| good_cons Try.func163 m163 <| good_cons Try.func164 m164 <| good_cons Try.func165 m165 <| good_cons Try.func174 m174 <| good_cons Try.func175 m175 <| good_cons Try.func176 m176 <| good_nil
theorem c_closed37 : Contract Try.prog 37 (sp0 (some true)) := contract_closedG mixed texts37_good lib (NW := fun f => if f = 96 then some 5 else if f = 127 then some 10001 else none) (m := 2000) (n := 80) (by decide +kernel)
theorem rd_ll (l : List (List Int)) (i : Nat) (h : i < l.length) : rd (encL l) i 1 false = some (.lst l[i].length (encL l[i])) := by
  have := rd_cell l i 0 h (by simp)
  simpa using this
set_option maxHeartbeats 4000000 in
set_option maxRecDepth 100000 in
theorem runs_law (f : Forest) (a : Ask) (ls : List (List Int)) (twin cut : Int) (c : Bool) (h : some true = some c) : Runs (tbl [(45, sp1 ModelC), (59, sp2 QueryC), (63, sp3 Within), (58, sp1 fun q => some (startOf q)), (101, sp3 HoldsC), (57, sp4 BreaksC), (66, sp2 InsideC), (37, sp0 (some true))]) a39 [Arg.enc f, Arg.enc a, Arg.enc ls, Arg.enc twin, Arg.enc cut] (Arg.enc c) := by
  cases h
  refine ⟨rfl, fun g => run_def ?_⟩
  unfold a39
  have hm := rm_modelOf f
  have hM : ModelC f = some (modelOf f) := rfl
  generalize modelOf f = m at *
  have hQ : QueryC a m = some (queryOf m a) := part_of ⟨hm.dim.1, hm.dim.2, hm.classes.1, hm.classes.2⟩ _
  obtain ⟨hsm, hok, hne⟩ := start_facts m a
  have hqok := ok_queryOf m a hm
  have hs0 := rSpan_le m.dim a.spans 0
  have hs0e : (queryOf m a).region.s0 = rSpan m.dim a.spans 0 := rfl
  rw [← hs0e] at hs0
  clear hs0e
  generalize queryOf m a = q at *
  have hH : HoldsC m q 600 = some (if countM m q (startOf q) ≤ 600 then (holdsM m q, true) else (false, false)) := part_of ⟨hm, hok, by omega⟩ _
  by_cases h6 : countM m q (startOf q) ≤ 600
  case neg =>
    rw [if_neg h6] at hH
    simp -implicitDefEqProofs [hM, hQ, hH]
  rw [if_pos h6] at hH
  have hW := within_of cut q.region.s0.lo q.region.s0.hi (by omega)
  have hw := within_le cut q.region.s0.lo q.region.s0.hi (by omega)
  generalize within cut q.region.s0.lo q.region.s0.hi = n at *
  have hlw := less_within q (c := n) hw.2
  have hlc := count_mono hm (q := q) (q' := lessQ q n) (fun i => rfl) hlw
  have hle := less_empty q (c := n) hw.1 hne
  have hlok : okB (startOf (lessQ q n)) := by
    have e1 := hok
    have e2 := empty_spec hle
    have key : ∀ i : Int, 0 ≤ i → i < 5 → okS64 ((startOf (lessQ q n)).get i) := fun i i0 i5 => by
      have k1 := okB_get hok i
      have k2 := hlw i i0 i5
      have k3 := get_spans hle i
      unfold okS64 ok64 at *
      omega
    exact ⟨key 0 (by omega) (by omega), key 1 (by omega) (by omega), key 2 (by omega) (by omega), key 3 (by omega) (by omega), key 4 (by omega) (by omega)⟩
  have hL : HoldsC m (lessQ q n) 600 = some (holdsM m (lessQ q n), true) := by
    have := part_of (p := RM m ∧ okB (startOf (lessQ q n)) ∧ (600 : Int) ≤ 1000000) ⟨hm, hlok, by omega⟩ (if countM m (lessQ q n) (startOf (lessQ q n)) ≤ 600 then (holdsM m (lessQ q n), true) else (false, false))
    rw [if_pos (show countM m (lessQ q n) (startOf (lessQ q n)) ≤ 600 by omega)] at this
    unfold HoldsC
    rw [if_pos (show countM m (lessQ q n) (startOf (lessQ q n)) ≤ 600 by omega)]
    exact this
  have himp : holdsM m q = true → holdsM m (lessQ q n) = true := by
    rw [holds_iff hm hne, holds_iff hm hle]
    intro h p t hp
    cases hb : breaks m (lessQ q n) p t
    · rfl
    · have := less_breaks hqok hb
      rw [h p t (within_inB hlw hp)] at this
      cases this
  have hbrk : holdsM m q = true → ∀ p t, InB (startOf q) p t → BreaksC m q p t = some false := by
    intro h p t hp
    rw [holds_iff hm hne] at h
    rw [← h p t hp]
    exact part_of hm _
  clear hlok hle hlc hlw hqok h6
  generalize holdsM m q = hd at *
  generalize hl2 : holdsM m (lessQ q n) = less at *
  simp -implicitDefEqProofs [hM, hQ, hH]
  refine run_while (c := c39_22) (fun k s => ∃ (i : Nat) (g : Nat → Nat), i + k = 8 ∧ s = ⟨[(2, .lst ls.length (encL ls)), (3, .int .i64 twin), (4, .int .i64 cut), (11, .ptr 11 (g 11) 0), (12, .ptr 12 (g 12) 0), (13, .bool hd), (15, .ptr 15 (g 15) 0), (16, .int .i64 i)],
    [(11, ⟨Row.enc m, false, 0⟩), (12, ⟨Row.enc q, false, 0⟩), (15, ⟨Row.enc (startOf q), false, 0⟩)], g⟩) 8 ⟨0, bump 15 (bump 12 (bump 11 (bump 6 (bump 5 g)))), by omega, by simp⟩ ?_
  rintro k s ⟨i, g, hi, rfl⟩
  have w1 : IntKind.i64.wrap ((i : Int) + 1) = (i : Int) + 1 := wrap64 (by omega) (by omega)
  by_cases h1 : i < ls.length ∧ i < 8
  case pos =>
    have c1 : i < ls.length := h1.1
    have c2 : (i : Int) < 8 := by omega
    have hrow := rd_ll ls i c1
    generalize ls[i] = l at *
    cases hd
    case false =>
      simp -implicitDefEqProofs [c1, c2, w1]
      exact fun _ => ⟨k - 1, by omega, i + 1, by omega, by omega⟩
    case true =>
      have hI : InsideC (startOf q) l = some (insideOf (startOf q) l) := part_of ⟨hsm.1, hsm.2.1, hsm.2.2.1, hsm.2.2.2.1⟩ _
      have hes := (empty_spec hne).2.2.2.2
      unfold Span.empty at hes
      rw [decide_eq_false_iff_not] at hes
      have hs4 := hsm.2.2.2.2
      unfold small at hs4
      have hWt := within_of twin (startOf q).s4.lo (startOf q).s4.hi (by omega)
      have hwt := within_le twin (startOf q).s4.lo (startOf q).s4.hi (by omega)
      have hin := inside_in hne l
      have hB := hbrk rfl (insideOf (startOf q) l) _ ⟨hin.1, hin.2.1, hin.2.2.1, hin.2.2.2.1, hwt⟩
      simp -implicitDefEqProofs [c1, c2, w1, hrow, hI, hWt, hB]
      exact fun _ => ⟨k - 1, by omega, i + 1, by omega, by omega⟩
  case neg =>
    have hL2 : HoldsC m ⟨q.kind, q.cls, ⟨⟨q.region.s0.lo, n⟩, q.region.s1, q.region.s2, q.region.s3, q.region.s4⟩, q.lo, q.hi, q.feature, q.falls, q.budget⟩ 600 = some (less, true) := hL
    clear hL hl2 hbrk
    cases hd
    case false =>
      by_cases c1 : i < ls.length
      · have c2 : ¬ (i : Int) < 8 := by omega
        simp (maxSteps := 1000000) -implicitDefEqProofs [c1, c2, hW, hL2]
      · simp (maxSteps := 1000000) -implicitDefEqProofs [c1, hW, hL2]
    case true =>
      have hl := himp rfl
      subst hl
      by_cases c1 : i < ls.length
      · have c2 : ¬ (i : Int) < 8 := by omega
        simp (maxSteps := 1000000) -implicitDefEqProofs [c1, c2, hW, hL2]
      · simp (maxSteps := 1000000) -implicitDefEqProofs [c1, hW, hL2]
noncomputable def law_sp : List AV → Option AV := sp5 fun (_ : Forest) (_ : Ask) (_ : List (List Int)) (_ _ : Int) => some true
theorem law_holds : Contract Try.prog 39 law_sp :=
  contract_of_runs mixed (tbl_cons c_Model (tbl_cons c_Query (tbl_cons c_Within (tbl_cons c_Start (tbl_cons c_Holds (tbl_cons c_Breaks (tbl_cons c_Inside (tbl_cons c_closed37 tbl_nil)))))))) Try.func39 m39 (sp5_runs runs_law)
theorem law_says (f : Forest) (a : Ask) (ls : List (List Int)) (x y : Int) : law_sp [Arg.enc f, Arg.enc a, Arg.enc ls, Arg.enc x, Arg.enc y] = some (.bool true) := by
  simp only [law_sp, sp5, Arg.dec_enc, Option.bind_some]
  rfl
end Go.Co
