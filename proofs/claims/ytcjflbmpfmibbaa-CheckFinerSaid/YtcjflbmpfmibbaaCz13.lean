/- CO: texts of this claim, one behind the other. -/
import Derived.Test.YtcjflbmpfmibbaaCz10
import Derived.Test.YtcjflbmpfmibbaaCz11
import Derived.Test.YtcjflbmpfmibbaaCz12
/- CO: what is shown, closed, where a box is cut: by the document. -/
set_option maxHeartbeats 16000000
set_option maxRecDepth 100000
namespace Go.Co
open Go.Am Go.Proofs
set_option linter.unusedSimpArgs false
set_option linter.unusedVariables false
attribute [-simp] Go.Am.eff_gcall
def c81_0 : ACode := .ops [⟨some 1, .box (.t 0) 10, none, []⟩,⟨some 2, .alloc [.int .i64 0, .int .i64 0, .int .i64 0, .int .i64 0], none, []⟩] [1, 2]
theorem r81_0 : type_of% (@rr _ _ c81_0.eq_1) := rr rfl
def c81_1 : ACode := .ops [⟨some 3, .alloc [.int .i64 0, .int .i64 0, .int .i64 0, .int .i64 0], none, []⟩] [1, 2, 3]
theorem r81_1 : type_of% (@rr _ _ c81_1.eq_1) := rr rfl
def c81_2 : ACode := .ops [⟨some 5, .mv (.c (.int .i64 0)), none, []⟩] [1, 2, 3, 5]
theorem r81_2 : type_of% (@rr _ _ c81_2.eq_1) := rr rfl
def c81_3 : ACode := .ops [⟨some 6, .bin .lss (.t 5) (.c (.int .i64 4)), none, []⟩] [1, 2, 3, 5, 6]
theorem r81_3 : type_of% (@rr _ _ c81_3.eq_1) := rr rfl
def c81_4 : ACode := .cond (.t 6) .skip (.exit 0)
theorem r81_4 : type_of% (@rr _ _ c81_4.eq_1) := rr rfl
def c81_5 : ACode := .ops [⟨some 7, .mv (.t 5), none, []⟩,⟨some 4, .mv (.t 7), none, []⟩] [1, 2, 3, 4, 5]
theorem r81_5 : type_of% (@rr _ _ c81_5.eq_1) := rr rfl
def c81_6 : ACode := .ops [⟨some 8, .mv (.t 4), none, []⟩,⟨some 9, .mv (.t 4), none, []⟩,⟨some 10, .iad (.t 1) (.t 9) 2 5, none, [1]⟩,⟨some 11, .fad (.t 10) 0, none, [1]⟩,⟨some 12, .load 1 false (.t 11), none, [1]⟩,⟨some 13, .iad (.t 3) (.t 8) 1 4, none, [3]⟩,⟨none, .store (.t 13) 1 (.t 12), none, [3]⟩] [1, 2, 3, 5]
theorem r81_6 : type_of% (@rr _ _ c81_6.eq_1) := rr rfl
def c81_7 : ACode := .seq c81_5 c81_6
theorem r81_7 : type_of% (@rr _ _ c81_7.eq_1) := rr rfl
def c81_8 : ACode := .block 1 c81_7
theorem r81_8 : type_of% (@rr _ _ c81_8.eq_1) := rr rfl
def c81_9 : ACode := .ops [⟨some 14, .bin .add (.t 5) (.c (.int .i64 1)), none, []⟩,⟨some 5, .mv (.t 14), none, []⟩] [1, 2, 3, 5]
theorem r81_9 : type_of% (@rr _ _ c81_9.eq_1) := rr rfl
def c81_10 : ACode := .seq c81_8 c81_9
theorem r81_10 : type_of% (@rr _ _ c81_10.eq_1) := rr rfl
def c81_11 : ACode := .seq c81_4 c81_10
theorem r81_11 : type_of% (@rr _ _ c81_11.eq_1) := rr rfl
def c81_12 : ACode := .seq c81_3 c81_11
theorem r81_12 : type_of% (@rr _ _ c81_12.eq_1) := rr rfl
def c81_13 : ACode := .keep [1, 2, 3, 5] [1, 2, 3] c81_12
theorem r81_13 : type_of% (@rr _ _ c81_13.eq_1) := rr rfl
def c81_14 : ACode := .loop c81_13
theorem r81_14 : type_of% (@rr _ _ c81_14.eq_1) := rr rfl
def c81_15 : ACode := .block 0 c81_14
theorem r81_15 : type_of% (@rr _ _ c81_15.eq_1) := rr rfl
def c81_16 : ACode := .seq c81_2 c81_15
theorem r81_16 : type_of% (@rr _ _ c81_16.eq_1) := rr rfl
def c81_17 : ACode := .ops [⟨some 15, .load 4 true (.t 3), none, [3]⟩,⟨none, .store (.t 2) 4 (.t 15), none, [2]⟩] [2]
theorem r81_17 : type_of% (@rr _ _ c81_17.eq_1) := rr rfl
def c81_18 : ACode := .seq c81_17 .ret
theorem r81_18 : type_of% (@rr _ _ c81_18.eq_1) := rr rfl
def c81_19 : ACode := .seq c81_16 c81_18
theorem r81_19 : type_of% (@rr _ _ c81_19.eq_1) := rr rfl
def c81_20 : ACode := .seq c81_1 c81_19
theorem r81_20 : type_of% (@rr _ _ c81_20.eq_1) := rr rfl
def c81_21 : ACode := .seq c81_0 c81_20
theorem r81_21 : type_of% (@rr _ _ c81_21.eq_1) := rr rfl
def a81 : AFun := ⟨1, 16, c81_21, [.cell 2 4 true]⟩
attribute [simp] r81_0 r81_1 r81_2 r81_3 r81_4 r81_5 r81_6 r81_7 r81_8 r81_9 r81_10 r81_11 r81_12 r81_13 r81_14 r81_15 r81_16 r81_17 r81_18 r81_19 r81_20 r81_21
theorem m81 : mFun Try.prog Try.f81 a81 = true := by decide +kernel
def c127_0 : ACode := .ops [⟨some 2, .box (.t 0) 17, none, []⟩,⟨some 3, .box (.t 1) 10, none, []⟩,⟨some 4, .alloc [.int .i64 0, .int .i64 0, .int .i64 0, .int .i64 0, .int .i64 0, .int .i64 0, .int .i64 0, .int .i64 0, .int .i64 0, .int .i64 0], none, []⟩] [2, 3, 4]
theorem r127_0 : type_of% (@rr _ _ c127_0.eq_1) := rr rfl
def c127_1 : ACode := .ops [⟨some 5, .fad (.t 2) 0, none, [2]⟩,⟨some 6, .load 1 false (.t 5), none, [2]⟩,⟨some 7, .bin .eql (.t 6) (.c (.int .i64 3)), none, []⟩,⟨some 8, .mv (.t 7), none, []⟩,⟨some 9, .fad (.t 2) 14, some (8, true), [2]⟩,⟨some 10, .load 1 false (.t 9), some (8, true), [2]⟩,⟨some 11, .bin .geq (.t 10) (.c (.int .i64 0)), some (8, true), []⟩,⟨some 12, .pick (.t 8) (.t 11) (.c (.bool false)), none, []⟩,⟨some 13, .mv (.t 12), none, []⟩,⟨some 14, .fad (.t 2) 14, some (13, true), [2]⟩,⟨some 15, .load 1 false (.t 14), some (13, true), [2]⟩,⟨some 16, .bin .lss (.t 15) (.c (.int .i64 4)), some (13, true), []⟩,⟨some 17, .pick (.t 13) (.t 16) (.c (.bool false)), none, []⟩] [2, 3, 4, 17]
theorem r127_1 : type_of% (@rr _ _ c127_1.eq_1) := rr rfl
def c127_2 : ACode := .ops [⟨some 18, .fad (.t 2) 14, none, [2]⟩,⟨some 19, .load 1 false (.t 18), none, [2]⟩,⟨some 20, .iad (.t 3) (.c (.int .i64 4)) 2 5, none, [3]⟩,⟨some 21, .load 2 true (.t 20), none, [3]⟩,⟨some 22, .iad (.t 3) (.t 19) 2 5, none, [3]⟩,⟨none, .store (.t 22) 2 (.t 21), none, [3]⟩] [3, 4]
theorem r127_2 : type_of% (@rr _ _ c127_2.eq_1) := rr rfl
def c127_3 : ACode := .cond (.t 17) c127_2 .skip
theorem r127_3 : type_of% (@rr _ _ c127_3.eq_1) := rr rfl
def c127_4 : ACode := .seq c127_1 c127_3
theorem r127_4 : type_of% (@rr _ _ c127_4.eq_1) := rr rfl
def c127_5 : ACode := .ops [⟨some 23, .load 10 true (.t 3), none, [3]⟩,⟨none, .store (.t 4) 10 (.t 23), none, [4]⟩] [4]
theorem r127_5 : type_of% (@rr _ _ c127_5.eq_1) := rr rfl
def c127_6 : ACode := .seq c127_5 .ret
theorem r127_6 : type_of% (@rr _ _ c127_6.eq_1) := rr rfl
def c127_7 : ACode := .seq c127_4 c127_6
theorem r127_7 : type_of% (@rr _ _ c127_7.eq_1) := rr rfl
def c127_8 : ACode := .seq c127_0 c127_7
theorem r127_8 : type_of% (@rr _ _ c127_8.eq_1) := rr rfl
def a127 : AFun := ⟨2, 24, c127_8, [.cell 4 10 true]⟩
attribute [simp] r127_0 r127_1 r127_2 r127_3 r127_4 r127_5 r127_6 r127_7 r127_8
theorem m127 : mFun Try.prog Try.f127 a127 = true := by decide +kernel
def c80_0 : ACode := .ops [⟨some 3, .box (.t 0) 6, none, []⟩,⟨some 4, .box (.t 1) 17, none, []⟩,⟨some 5, .box (.t 2) 10, none, []⟩,⟨some 6, .mv (.c (.bool false)), none, []⟩] [3, 4, 5]
theorem r80_0 : type_of% (@rr _ _ c80_0.eq_1) := rr rfl
def c80_1 : ACode := .ops [⟨some 17, .load 6 true (.t 3), none, [3]⟩,⟨some 18, .load 17 true (.t 4), none, [4]⟩,⟨some 19, .call 79 [.t 17, .t 18], none, []⟩,⟨some 20, .un .not (.t 19), none, []⟩] [3, 4, 5, 20]
theorem r80_1 : type_of% (@rr _ _ c80_1.eq_1) := rr rfl
def c80_2 : ACode := .ops [⟨some 6, .mv (.c (.bool false)), none, []⟩] [6]
theorem r80_2 : type_of% (@rr _ _ c80_2.eq_1) := rr rfl
def c80_3 : ACode := .seq c80_2 .ret
theorem r80_3 : type_of% (@rr _ _ c80_3.eq_1) := rr rfl
def c80_4 : ACode := .cond (.t 20) c80_3 .skip
theorem r80_4 : type_of% (@rr _ _ c80_4.eq_1) := rr rfl
def c80_5 : ACode := .seq c80_1 c80_4
theorem r80_5 : type_of% (@rr _ _ c80_5.eq_1) := rr rfl
def c80_6 : ACode := .ops [⟨some 21, .load 10 true (.t 5), none, [5]⟩,⟨some 22, .call 87 [.t 21], none, []⟩] [3, 4, 5, 22]
theorem r80_6 : type_of% (@rr _ _ c80_6.eq_1) := rr rfl
def c80_7 : ACode := .ops [⟨some 6, .mv (.c (.bool true)), none, []⟩] [6]
theorem r80_7 : type_of% (@rr _ _ c80_7.eq_1) := rr rfl
def c80_8 : ACode := .seq c80_7 .ret
theorem r80_8 : type_of% (@rr _ _ c80_8.eq_1) := rr rfl
def c80_9 : ACode := .cond (.t 22) c80_8 .skip
theorem r80_9 : type_of% (@rr _ _ c80_9.eq_1) := rr rfl
def c80_10 : ACode := .seq c80_6 c80_9
theorem r80_10 : type_of% (@rr _ _ c80_10.eq_1) := rr rfl
def c80_11 : ACode := .ops [⟨some 24, .load 6 true (.t 3), none, [3]⟩,⟨some 25, .fad (.t 4) 1, none, [4]⟩,⟨some 26, .load 1 false (.t 25), none, [4]⟩,⟨some 27, .load 10 true (.t 5), none, [5]⟩,⟨some 28, .call 39 [.t 24, .t 26, .t 27], none, []⟩,⟨some 23, .mv (.t 28), none, []⟩,⟨some 29, .ext (.t 23) 0, none, []⟩,⟨some 30, .ext (.t 23) 1, none, []⟩,⟨some 31, .ext (.t 23) 2, none, []⟩,⟨some 7, .mv (.t 29), none, []⟩,⟨some 8, .mv (.t 30), none, []⟩,⟨some 9, .mv (.t 31), none, []⟩] [3, 4, 5, 7, 8]
theorem r80_11 : type_of% (@rr _ _ c80_11.eq_1) := rr rfl
def c80_12 : ACode := .ops [⟨some 32, .fad (.t 4) 0, none, [4]⟩,⟨some 33, .load 1 false (.t 32), none, [4]⟩] [3, 4, 5, 7, 8, 33]
theorem r80_12 : type_of% (@rr _ _ c80_12.eq_1) := rr rfl
def c80_13 : ACode := .ops [⟨some 35, .bin .eql (.t 33) (.c (.int .i64 1)), none, []⟩,⟨some 34, .mv (.t 35), none, []⟩] [3, 4, 5, 7, 8, 33, 34]
theorem r80_13 : type_of% (@rr _ _ c80_13.eq_1) := rr rfl
def c80_14 : ACode := .ops [⟨some 36, .mv (.t 7), none, []⟩,⟨some 37, .fad (.t 4) 12, none, [4]⟩,⟨some 38, .load 1 false (.t 37), none, [4]⟩,⟨some 39, .bin .geq (.t 36) (.t 38), none, []⟩,⟨some 40, .mv (.t 39), none, []⟩,⟨some 41, .mv (.t 8), some (40, true), []⟩,⟨some 42, .fad (.t 4) 13, some (40, true), [4]⟩,⟨some 43, .load 1 false (.t 42), some (40, true), [4]⟩,⟨some 44, .bin .leq (.t 41) (.t 43), some (40, true), []⟩,⟨some 45, .pick (.t 40) (.t 44) (.c (.bool false)), none, []⟩,⟨some 6, .mv (.t 45), none, []⟩] [6]
theorem r80_14 : type_of% (@rr _ _ c80_14.eq_1) := rr rfl
def c80_15 : ACode := .seq c80_14 .ret
theorem r80_15 : type_of% (@rr _ _ c80_15.eq_1) := rr rfl
def c80_16 : ACode := .ops [⟨some 47, .bin .eql (.t 33) (.c (.int .i64 2)), none, []⟩,⟨some 46, .mv (.t 47), none, []⟩] [3, 4, 5, 7, 8, 46]
theorem r80_16 : type_of% (@rr _ _ c80_16.eq_1) := rr rfl
def c80_17 : ACode := .ops [⟨some 48, .fad (.t 3) 1, none, [3]⟩,⟨some 49, .load 1 false (.t 48), none, [3]⟩,⟨some 50, .mv (.c (.int .i64 0)), none, []⟩] [3, 4, 5, 7, 49, 50]
theorem r80_17 : type_of% (@rr _ _ c80_17.eq_1) := rr rfl
def c80_18 : ACode := .ops [⟨some 51, .bin .lss (.t 50) (.t 49), none, []⟩] [3, 4, 5, 7, 49, 50, 51]
theorem r80_18 : type_of% (@rr _ _ c80_18.eq_1) := rr rfl
def c80_19 : ACode := .cond (.t 51) .skip (.exit 1)
theorem r80_19 : type_of% (@rr _ _ c80_19.eq_1) := rr rfl
def c80_20 : ACode := .ops [⟨some 52, .mv (.t 50), none, []⟩,⟨some 10, .mv (.t 52), none, []⟩] [3, 4, 5, 7, 10, 49, 50]
theorem r80_20 : type_of% (@rr _ _ c80_20.eq_1) := rr rfl
def c80_21 : ACode := .ops [⟨some 54, .load 6 true (.t 3), none, [3]⟩,⟨some 55, .mv (.t 10), none, []⟩,⟨some 56, .load 10 true (.t 5), none, [5]⟩,⟨some 57, .call 39 [.t 54, .t 55, .t 56], none, []⟩,⟨some 53, .mv (.t 57), none, []⟩,⟨some 58, .ext (.t 53) 0, none, []⟩,⟨some 59, .ext (.t 53) 1, none, []⟩,⟨some 60, .ext (.t 53) 2, none, []⟩,⟨some 11, .mv (.t 58), none, []⟩,⟨some 12, .mv (.t 59), none, []⟩,⟨some 13, .mv (.t 60), none, []⟩] [3, 4, 5, 7, 10, 12, 49, 50]
theorem r80_21 : type_of% (@rr _ _ c80_21.eq_1) := rr rfl
def c80_22 : ACode := .ops [⟨some 61, .mv (.t 10), none, []⟩,⟨some 62, .fad (.t 4) 1, none, [4]⟩,⟨some 63, .load 1 false (.t 62), none, [4]⟩,⟨some 64, .bin .neq (.t 61) (.t 63), none, []⟩,⟨some 65, .mv (.t 64), none, []⟩,⟨some 66, .mv (.t 12), some (65, true), []⟩,⟨some 67, .mv (.t 7), some (65, true), []⟩,⟨some 68, .bin .geq (.t 66) (.t 67), some (65, true), []⟩,⟨some 69, .pick (.t 65) (.t 68) (.c (.bool false)), none, []⟩] [3, 4, 5, 7, 49, 50, 69]
theorem r80_22 : type_of% (@rr _ _ c80_22.eq_1) := rr rfl
def c80_23 : ACode := .ops [⟨some 6, .mv (.c (.bool false)), none, []⟩] [6]
theorem r80_23 : type_of% (@rr _ _ c80_23.eq_1) := rr rfl
def c80_24 : ACode := .seq c80_23 .ret
theorem r80_24 : type_of% (@rr _ _ c80_24.eq_1) := rr rfl
def c80_25 : ACode := .cond (.t 69) c80_24 .skip
theorem r80_25 : type_of% (@rr _ _ c80_25.eq_1) := rr rfl
def c80_26 : ACode := .seq c80_22 c80_25
theorem r80_26 : type_of% (@rr _ _ c80_26.eq_1) := rr rfl
def c80_27 : ACode := .seq c80_21 c80_26
theorem r80_27 : type_of% (@rr _ _ c80_27.eq_1) := rr rfl
def c80_28 : ACode := .seq c80_20 c80_27
theorem r80_28 : type_of% (@rr _ _ c80_28.eq_1) := rr rfl
def c80_29 : ACode := .block 2 c80_28
theorem r80_29 : type_of% (@rr _ _ c80_29.eq_1) := rr rfl
def c80_30 : ACode := .ops [⟨some 70, .bin .add (.t 50) (.c (.int .i64 1)), none, []⟩,⟨some 50, .mv (.t 70), none, []⟩] [3, 4, 5, 7, 49, 50]
theorem r80_30 : type_of% (@rr _ _ c80_30.eq_1) := rr rfl
def c80_31 : ACode := .seq c80_29 c80_30
theorem r80_31 : type_of% (@rr _ _ c80_31.eq_1) := rr rfl
def c80_32 : ACode := .seq c80_19 c80_31
theorem r80_32 : type_of% (@rr _ _ c80_32.eq_1) := rr rfl
def c80_33 : ACode := .seq c80_18 c80_32
theorem r80_33 : type_of% (@rr _ _ c80_33.eq_1) := rr rfl
def c80_34 : ACode := .keep [3, 4, 5, 7, 49, 50] [3, 4, 5] c80_33
theorem r80_34 : type_of% (@rr _ _ c80_34.eq_1) := rr rfl
def c80_35 : ACode := .loop c80_34
theorem r80_35 : type_of% (@rr _ _ c80_35.eq_1) := rr rfl
def c80_36 : ACode := .block 1 c80_35
theorem r80_36 : type_of% (@rr _ _ c80_36.eq_1) := rr rfl
def c80_37 : ACode := .seq c80_17 c80_36
theorem r80_37 : type_of% (@rr _ _ c80_37.eq_1) := rr rfl
def c80_38 : ACode := .ops [⟨some 6, .mv (.c (.bool true)), none, []⟩] [6]
theorem r80_38 : type_of% (@rr _ _ c80_38.eq_1) := rr rfl
def c80_39 : ACode := .seq c80_38 .ret
theorem r80_39 : type_of% (@rr _ _ c80_39.eq_1) := rr rfl
def c80_40 : ACode := .seq c80_37 c80_39
theorem r80_40 : type_of% (@rr _ _ c80_40.eq_1) := rr rfl
def c80_41 : ACode := .cond (.t 46) c80_40 .skip
theorem r80_41 : type_of% (@rr _ _ c80_41.eq_1) := rr rfl
def c80_42 : ACode := .seq c80_16 c80_41
theorem r80_42 : type_of% (@rr _ _ c80_42.eq_1) := rr rfl
def c80_43 : ACode := .cond (.t 34) c80_15 c80_42
theorem r80_43 : type_of% (@rr _ _ c80_43.eq_1) := rr rfl
def c80_44 : ACode := .seq c80_13 c80_43
theorem r80_44 : type_of% (@rr _ _ c80_44.eq_1) := rr rfl
def c80_45 : ACode := .block 0 c80_44
theorem r80_45 : type_of% (@rr _ _ c80_45.eq_1) := rr rfl
def c80_46 : ACode := .seq c80_12 c80_45
theorem r80_46 : type_of% (@rr _ _ c80_46.eq_1) := rr rfl
def c80_47 : ACode := .ops [⟨some 71, .fad (.t 4) 14, none, [4]⟩,⟨some 72, .load 1 false (.t 71), none, [4]⟩,⟨some 73, .iad (.t 5) (.t 72) 2 5, none, [5]⟩,⟨some 74, .fad (.t 73) 0, none, [5]⟩,⟨some 75, .load 1 false (.t 74), none, [5]⟩,⟨some 76, .iad (.t 5) (.c (.int .i64 4)) 2 5, none, [5]⟩,⟨some 77, .fad (.t 76) 1, none, [5]⟩,⟨some 78, .load 1 false (.t 77), none, [5]⟩,⟨some 79, .bin .geq (.t 75) (.t 78), none, []⟩] [3, 4, 5, 7, 8, 79]
theorem r80_47 : type_of% (@rr _ _ c80_47.eq_1) := rr rfl
def c80_48 : ACode := .ops [⟨some 6, .mv (.c (.bool true)), none, []⟩] [6]
theorem r80_48 : type_of% (@rr _ _ c80_48.eq_1) := rr rfl
def c80_49 : ACode := .seq c80_48 .ret
theorem r80_49 : type_of% (@rr _ _ c80_49.eq_1) := rr rfl
def c80_50 : ACode := .cond (.t 79) c80_49 .skip
theorem r80_50 : type_of% (@rr _ _ c80_50.eq_1) := rr rfl
def c80_51 : ACode := .seq c80_47 c80_50
theorem r80_51 : type_of% (@rr _ _ c80_51.eq_1) := rr rfl
def c80_52 : ACode := .ops [⟨some 81, .load 6 true (.t 3), none, [3]⟩,⟨some 82, .fad (.t 4) 1, none, [4]⟩,⟨some 83, .load 1 false (.t 82), none, [4]⟩,⟨some 84, .load 17 true (.t 4), none, [4]⟩,⟨some 85, .load 10 true (.t 5), none, [5]⟩,⟨some 86, .call 127 [.t 84, .t 85], none, []⟩,⟨some 87, .call 39 [.t 81, .t 83, .t 86], none, []⟩,⟨some 80, .mv (.t 87), none, []⟩,⟨some 88, .ext (.t 80) 0, none, []⟩,⟨some 89, .ext (.t 80) 1, none, []⟩,⟨some 90, .ext (.t 80) 2, none, []⟩,⟨some 14, .mv (.t 88), none, []⟩,⟨some 15, .mv (.t 89), none, []⟩,⟨some 16, .mv (.t 90), none, []⟩] [4, 7, 8, 14, 15]
theorem r80_52 : type_of% (@rr _ _ c80_52.eq_1) := rr rfl
def c80_53 : ACode := .ops [⟨some 91, .fad (.t 4) 15, none, [4]⟩,⟨some 92, .load 1 false (.t 91), none, [4]⟩,⟨some 93, .mv (.t 92), none, []⟩,⟨some 94, .mv (.t 15), some (93, true), []⟩,⟨some 95, .mv (.t 7), some (93, true), []⟩,⟨some 96, .bin .leq (.t 94) (.t 95), some (93, true), []⟩,⟨some 97, .pick (.t 93) (.t 96) (.c (.bool false)), none, []⟩,⟨some 98, .mv (.t 97), none, []⟩,⟨some 99, .fad (.t 4) 15, some (98, false), [4]⟩,⟨some 100, .load 1 false (.t 99), some (98, false), [4]⟩,⟨some 101, .un .not (.t 100), some (98, false), []⟩,⟨some 102, .mv (.t 101), some (98, false), []⟩,⟨some 103, .mv (.t 14), some (102, true), []⟩,⟨some 104, .mv (.t 8), some (102, true), []⟩,⟨some 105, .bin .geq (.t 103) (.t 104), some (102, true), []⟩,⟨some 106, .pick (.t 102) (.t 105) (.c (.bool false)), some (98, false), []⟩,⟨some 107, .pick (.t 98) (.c (.bool true)) (.t 106), none, []⟩,⟨some 6, .mv (.t 107), none, []⟩] [6]
theorem r80_53 : type_of% (@rr _ _ c80_53.eq_1) := rr rfl
def c80_54 : ACode := .seq c80_53 .ret
theorem r80_54 : type_of% (@rr _ _ c80_54.eq_1) := rr rfl
def c80_55 : ACode := .seq c80_52 c80_54
theorem r80_55 : type_of% (@rr _ _ c80_55.eq_1) := rr rfl
def c80_56 : ACode := .seq c80_51 c80_55
theorem r80_56 : type_of% (@rr _ _ c80_56.eq_1) := rr rfl
def c80_57 : ACode := .seq c80_46 c80_56
theorem r80_57 : type_of% (@rr _ _ c80_57.eq_1) := rr rfl
def c80_58 : ACode := .seq c80_11 c80_57
theorem r80_58 : type_of% (@rr _ _ c80_58.eq_1) := rr rfl
def c80_59 : ACode := .seq c80_10 c80_58
theorem r80_59 : type_of% (@rr _ _ c80_59.eq_1) := rr rfl
def c80_60 : ACode := .seq c80_5 c80_59
theorem r80_60 : type_of% (@rr _ _ c80_60.eq_1) := rr rfl
def c80_61 : ACode := .seq c80_0 c80_60
theorem r80_61 : type_of% (@rr _ _ c80_61.eq_1) := rr rfl
def a80 : AFun := ⟨3, 108, c80_61, [.t 6]⟩
attribute [simp] r80_0 r80_1 r80_2 r80_3 r80_4 r80_5 r80_6 r80_7 r80_8 r80_9 r80_10 r80_11 r80_12 r80_13 r80_14 r80_15 r80_16 r80_17 r80_18 r80_19 r80_20 r80_21 r80_22 r80_23 r80_24 r80_25 r80_26 r80_27 r80_28 r80_29 r80_30 r80_31 r80_32 r80_33 r80_34 r80_35 r80_36 r80_37 r80_38 r80_39 r80_40 r80_41 r80_42 r80_43 r80_44 r80_45 r80_46 r80_47 r80_48 r80_49 r80_50 r80_51 r80_52 r80_53 r80_54 r80_55 r80_56 r80_57 r80_58 r80_59 r80_60 r80_61
theorem m80 : mFun Try.prog Try.f80 a80 = true := by decide +kernel
def c82_0 : ACode := .ops [⟨some 3, .box (.t 0) 6, none, []⟩,⟨some 4, .box (.t 1) 17, none, []⟩,⟨some 5, .box (.t 2) 10, none, []⟩,⟨some 6, .mv (.c (.int .i64 0)), none, []⟩,⟨some 7, .mv (.c (.int .i64 0)), none, []⟩,⟨some 8, .mv (.c (.bool false)), none, []⟩] [3, 4, 5]
theorem r82_0 : type_of% (@rr _ _ c82_0.eq_1) := rr rfl
def c82_1 : ACode := .ops [⟨some 11, .mv (.c (.int .i64 0)), none, []⟩] [3, 4, 5, 11]
theorem r82_1 : type_of% (@rr _ _ c82_1.eq_1) := rr rfl
def c82_2 : ACode := .ops [⟨some 12, .bin .lss (.t 11) (.c (.int .i64 5)), none, []⟩] [3, 4, 5, 11, 12]
theorem r82_2 : type_of% (@rr _ _ c82_2.eq_1) := rr rfl
def c82_3 : ACode := .cond (.t 12) .skip (.exit 0)
theorem r82_3 : type_of% (@rr _ _ c82_3.eq_1) := rr rfl
def c82_4 : ACode := .ops [⟨some 13, .mv (.t 11), none, []⟩,⟨some 9, .mv (.t 13), none, []⟩] [3, 4, 5, 9, 11]
theorem r82_4 : type_of% (@rr _ _ c82_4.eq_1) := rr rfl
def c82_5 : ACode := .ops [⟨some 14, .load 6 true (.t 3), none, [3]⟩,⟨some 15, .load 17 true (.t 4), none, [4]⟩,⟨some 16, .load 10 true (.t 5), none, [5]⟩,⟨some 17, .mv (.t 9), none, []⟩,⟨some 18, .call 52 [.t 14, .t 15, .t 16, .t 17], none, []⟩,⟨some 10, .mv (.t 18), none, []⟩] [3, 4, 5, 9, 10, 11]
theorem r82_5 : type_of% (@rr _ _ c82_5.eq_1) := rr rfl
def c82_6 : ACode := .ops [⟨some 19, .mv (.t 10), none, []⟩,⟨some 20, .len (.t 19), none, []⟩,⟨some 21, .bin .gtr (.t 20) (.c (.int .i64 0)), none, []⟩] [3, 4, 5, 9, 10, 11, 21]
theorem r82_6 : type_of% (@rr _ _ c82_6.eq_1) := rr rfl
def c82_7 : ACode := .ops [⟨some 22, .mv (.t 9), none, []⟩,⟨some 23, .mv (.t 10), none, []⟩,⟨some 24, .mv (.t 10), none, []⟩,⟨some 25, .len (.t 24), none, []⟩,⟨some 26, .bin .sub (.t 25) (.c (.int .i64 1)), none, []⟩,⟨some 27, .bin .quo (.t 26) (.c (.int .i64 2)), none, []⟩,⟨some 28, .ias (.t 23) (.t 27) 1, none, []⟩,⟨some 29, .load 1 false (.t 28), none, []⟩,⟨some 6, .mv (.t 22), none, []⟩,⟨some 7, .mv (.t 29), none, []⟩,⟨some 8, .mv (.c (.bool true)), none, []⟩] [6, 7, 8]
theorem r82_7 : type_of% (@rr _ _ c82_7.eq_1) := rr rfl
def c82_8 : ACode := .seq c82_7 .ret
theorem r82_8 : type_of% (@rr _ _ c82_8.eq_1) := rr rfl
def c82_9 : ACode := .cond (.t 21) c82_8 .skip
theorem r82_9 : type_of% (@rr _ _ c82_9.eq_1) := rr rfl
def c82_10 : ACode := .seq c82_6 c82_9
theorem r82_10 : type_of% (@rr _ _ c82_10.eq_1) := rr rfl
def c82_11 : ACode := .seq c82_5 c82_10
theorem r82_11 : type_of% (@rr _ _ c82_11.eq_1) := rr rfl
def c82_12 : ACode := .seq c82_4 c82_11
theorem r82_12 : type_of% (@rr _ _ c82_12.eq_1) := rr rfl
def c82_13 : ACode := .block 1 c82_12
theorem r82_13 : type_of% (@rr _ _ c82_13.eq_1) := rr rfl
def c82_14 : ACode := .ops [⟨some 30, .bin .add (.t 11) (.c (.int .i64 1)), none, []⟩,⟨some 11, .mv (.t 30), none, []⟩] [3, 4, 5, 11]
theorem r82_14 : type_of% (@rr _ _ c82_14.eq_1) := rr rfl
def c82_15 : ACode := .seq c82_13 c82_14
theorem r82_15 : type_of% (@rr _ _ c82_15.eq_1) := rr rfl
def c82_16 : ACode := .seq c82_3 c82_15
theorem r82_16 : type_of% (@rr _ _ c82_16.eq_1) := rr rfl
def c82_17 : ACode := .seq c82_2 c82_16
theorem r82_17 : type_of% (@rr _ _ c82_17.eq_1) := rr rfl
def c82_18 : ACode := .keep [3, 4, 5, 11] [3, 4, 5] c82_17
theorem r82_18 : type_of% (@rr _ _ c82_18.eq_1) := rr rfl
def c82_19 : ACode := .loop c82_18
theorem r82_19 : type_of% (@rr _ _ c82_19.eq_1) := rr rfl
def c82_20 : ACode := .block 0 c82_19
theorem r82_20 : type_of% (@rr _ _ c82_20.eq_1) := rr rfl
def c82_21 : ACode := .seq c82_1 c82_20
theorem r82_21 : type_of% (@rr _ _ c82_21.eq_1) := rr rfl
def c82_22 : ACode := .ops [⟨some 6, .mv (.c (.int .i64 0)), none, []⟩,⟨some 7, .mv (.c (.int .i64 0)), none, []⟩,⟨some 8, .mv (.c (.bool false)), none, []⟩] [6, 7, 8]
theorem r82_22 : type_of% (@rr _ _ c82_22.eq_1) := rr rfl
def c82_23 : ACode := .seq c82_22 .ret
theorem r82_23 : type_of% (@rr _ _ c82_23.eq_1) := rr rfl
def c82_24 : ACode := .seq c82_21 c82_23
theorem r82_24 : type_of% (@rr _ _ c82_24.eq_1) := rr rfl
def c82_25 : ACode := .seq c82_0 c82_24
theorem r82_25 : type_of% (@rr _ _ c82_25.eq_1) := rr rfl
def a82 : AFun := ⟨3, 31, c82_25, [.t 6, .t 7, .t 8]⟩
attribute [simp] r82_0 r82_1 r82_2 r82_3 r82_4 r82_5 r82_6 r82_7 r82_8 r82_9 r82_10 r82_11 r82_12 r82_13 r82_14 r82_15 r82_16 r82_17 r82_18 r82_19 r82_20 r82_21 r82_22 r82_23 r82_24 r82_25
theorem m82 : mFun Try.prog Try.f82 a82 = true := by decide +kernel
theorem runs_rLow (b : Box) (r : Point) (h : some (lowB b) = some r) : Runs (tbl []) a81 [Arg.enc b] (Arg.enc r) := by
  cases h
  refine ⟨rfl, fun g => run_def ?_⟩
  unfold a81 lowB
  simp -implicitDefEqProofs [run_round]
theorem c_rLow : Contract Try.prog 81 (sp1 fun b => some (lowB b)) :=
  contract_of_runs mixed tbl_nil Try.func81 m81 (sp1_runs runs_rLow)
def pairB (q : Query) (b : Box) : Box := if paired q then b.set q.feature b.s4 else b
theorem runs_rSecond (q : Query) (b : Box) (r : Box) (h : some (pairB q b) = some r) : Runs (tbl []) a127 [Arg.enc q, Arg.enc b] (Arg.enc r) := by
  cases h
  refine ⟨rfl, fun g => run_def ?_⟩
  unfold a127 pairB paired
  obtain ⟨kind, cls, region, lo, hi, feature, falls, budget⟩ := q
  simp only
  by_cases hk : kind = 3
  case neg => simp -implicitDefEqProofs [hk]
  subst hk
  by_cases h0 : 0 ≤ feature
  case neg => simp -implicitDefEqProofs [h0]
  by_cases h4 : feature < 4
  case neg => simp -implicitDefEqProofs [h0, h4]
  have hc : feature = 0 ∨ feature = 1 ∨ feature = 2 ∨ feature = 3 := by omega
  rcases hc with rfl | rfl | rfl | rfl <;> simp -implicitDefEqProofs [Box.set]
theorem c_rSecond : Contract Try.prog 127 (sp2 fun q b => some (pairB q b)) :=
  contract_of_runs mixed tbl_nil Try.func127 m127 (sp2_runs runs_rSecond)
noncomputable def RcutC (b : Box) (k n : Int) : Option (Box × Box) := Part (okB b ∧ 0 ≤ k ∧ k < 5 ∧ (b.get k).lo ≤ n ∧ n < (b.get k).hi) (cutB b k n)
theorem meet_low {s : Span} {n : Int} (h1 : s.lo ≤ n) (h2 : n < s.hi) : meetS s ⟨s.lo, n⟩ = ⟨s.lo, n⟩ := by
  unfold meetS ofS max2 min2
  simp only
  rw [if_neg (by omega), if_pos h2, if_neg (by omega)]
theorem meet_high {s : Span} {n : Int} (h1 : s.lo ≤ n) (h2 : n < s.hi) : meetS s ⟨n + 1, s.hi⟩ = ⟨n + 1, s.hi⟩ := by
  unfold meetS ofS max2 min2
  simp only
  rw [show (if n + 1 > s.lo then n + 1 else s.lo) = n + 1 from if_pos (by omega), show (if s.hi < s.hi then s.hi else s.hi) = s.hi from ite_self _, if_neg (by omega)]
theorem cutB_halves {b : Box} {k n : Int} (h0 : 0 ≤ k) (h5 : k < 5) (h1 : (b.get k).lo ≤ n) (h2 : n < (b.get k).hi) : cutB b k n = (b.set k ⟨(b.get k).lo, n⟩, b.set k ⟨n + 1, (b.get k).hi⟩) := by
  unfold cutB cutS
  rw [if_pos ⟨h0, h5⟩, if_neg (by omega)]
  unfold ofS
  rw [show (if n + 1 > (b.get k).lo then n + 1 else (b.get k).lo) = n + 1 from if_pos (by omega), if_neg (by omega), if_neg (by omega)]
theorem runs_rcut (b : Box) (k n : Int) (r : Box × Box) (h : RcutC b k n = some r) : Runs (tbl [(128, sp2 fun (a b : Span) => some (meetS a b))]) a83 [Arg.enc b, Arg.enc k, Arg.enc n] (Arg.enc r) := by
  obtain ⟨⟨hb, h0, h5, h1, h2⟩, rfl⟩ := part_some h
  clear h
  refine ⟨rfl, fun g => run_def ?_⟩
  unfold a83
  have hs := okB_get hb k
  unfold okS64 ok64 at hs
  have w1 : IntKind.i64.wrap (n + 1) = n + 1 := wrap64 (by omega) (by omega)
  have m1 := meet_low h1 h2
  have m2 := meet_high h1 h2
  rw [cutB_halves h0 h5 h1 h2]
  have hc : k = 0 ∨ k = 1 ∨ k = 2 ∨ k = 3 ∨ k = 4 := by omega
  obtain ⟨s0, s1, s2, s3, s4⟩ := b
  rcases hc with rfl | rfl | rfl | rfl | rfl <;> simp only [Box.get, reduceIte, Int.reduceEq] at m1 m2 <;> simp -implicitDefEqProofs [Box.set, Box.get, w1, m1, m2]
theorem c_rcut : Contract Try.prog 83 (sp3 RcutC) :=
  contract_of_runs mixed (tbl_cons c_rMeet tbl_nil) Try.func83 m83 (sp3_runs runs_rcut)
theorem boundT_pts {l : List Word} {dim : Int} (h : RT l dim) {a b : Box} (ha : a.empty = false) (hb : b.empty = false) (hp : ∀ p, (∃ t, InB a p t) ↔ ∃ t, InB b p t) : (boundT l a).a = (boundT l b).a ∧ (boundT l a).b = (boundT l b).b := by
  obtain ⟨_, a1, ⟨p1, t1, q1, v1⟩, p2, t2, q2, v2⟩ := boundT_spec h ha
  obtain ⟨_, b1, ⟨p3, t3, q3, v3⟩, p4, t4, q4, v4⟩ := boundT_spec h hb
  obtain ⟨u1, r1⟩ := (hp p1).1 ⟨t1, q1⟩
  obtain ⟨u2, r2⟩ := (hp p2).1 ⟨t2, q2⟩
  obtain ⟨u3, r3⟩ := (hp p3).2 ⟨t3, q3⟩
  obtain ⟨u4, r4⟩ := (hp p4).2 ⟨t4, q4⟩
  have x1 := b1 p1 u1 r1
  have x2 := b1 p2 u2 r2
  have x3 := a1 p3 u3 r3
  have x4 := a1 p4 u4 r4
  omega
theorem pts_fold {c : Int} {a b : Box} (ha : a.empty = false) (hb : b.empty = false) (hp : ∀ p, (∃ t, InB a p t) ↔ ∃ t, InB b p t) : ∀ (l : List Tree) (x : Int × Int), (∀ t ∈ l, ∃ d, RT t.nodes d) → l.foldl (boundF c a) x = l.foldl (boundF c b) x
  | [], _, _ => rfl
  | t :: l, x, h => by
    obtain ⟨d, hd⟩ := h t (by simp)
    have := boundT_pts hd ha hb hp
    have e : boundF c a x t = boundF c b x t := by unfold boundF; rw [this.1, this.2]
    rw [List.foldl_cons, List.foldl_cons, e, pts_fold ha hb hp l _ fun y hy => h y (by simp [hy])]
theorem boundP_pts {m : Model} (hm : RM m) (c : Int) {a b : Box} (ha : a.empty = false) (hb : b.empty = false) (hp : ∀ p, (∃ t, InB a p t) ↔ ∃ t, InB b p t) : boundP m c a = boundP m c b :=
  pts_fold ha hb hp _ _ fun t ht => ⟨_, hm.rt ht⟩
def shownM (m : Model) (q : Query) (b : Box) : Bool :=
  if q.kind = 1 then decide (q.lo ≤ (boundP m q.cls b).1) && decide ((boundP m q.cls b).2 ≤ q.hi) else
  if q.kind = 2 then (decide (0 = q.cls) || decide ((boundP m 0 b).2 < (boundP m q.cls b).1)) && (decide (1 = q.cls) || decide ((boundP m 1 b).2 < (boundP m q.cls b).1)) && (decide (m.classes = 2) || decide (2 = q.cls) || decide ((boundP m 2 b).2 < (boundP m q.cls b).1)) else
  if b.s4.hi ≤ (b.get q.feature).lo then true else if q.falls then decide ((boundP m q.cls (pairB q b)).2 ≤ (boundP m q.cls b).1) else decide ((boundP m q.cls b).2 ≤ (boundP m q.cls (pairB q b)).1)
theorem pair_some {q : Query} {b : Box} (he : b.empty = false) : (pairB q b).empty = false := by
  unfold pairB
  by_cases hp : paired q = true
  · rw [if_pos hp]
    have hf := paired_feature hp
    have h4 := (empty_spec he).2.2.2.2
    rw [set_empty he q.feature b.s4 (by omega) (by omega)]
    exact h4
  · rw [if_neg hp]; exact he
theorem pair_pts {q : Query} (hp : paired q = true) {b : Box} (he : b.empty = false) (p : Point) : (∃ t, InB (pairB q b) p t) ↔ ∃ t, InB (secondB q b) p t := by
  unfold pairB secondB
  rw [if_pos hp, if_pos hp]
  have h4 := (empty_spec he).2.2.2.2
  have hf := paired_feature hp
  have e4 : (b.set q.feature b.s4).s4 = b.s4 := by rcases hf with hf | hf | hf | hf <;> rw [hf] <;> rfl
  constructor
  · rintro ⟨t, h0, h1, h2, h3, h4⟩
    exact ⟨0, h0, h1, h2, h3, by unfold InS; simp⟩
  · rintro ⟨t, h0, h1, h2, h3, h4'⟩
    refine ⟨b.s4.lo, h0, h1, h2, h3, ?_⟩
    rw [e4]
    unfold Span.empty at h4
    simp at h4
    unfold InS
    omega
theorem first_pts {q : Query} (hp : paired q = true) {b : Box} (he : b.empty = false) (p : Point) : (∃ t, InB b p t) ↔ ∃ t, InB (firstB q b) p t := by
  have h4 := (empty_spec he).2.2.2.2
  unfold Span.empty at h4
  simp at h4
  constructor
  · rintro ⟨t, h0, h1, h2, h3, _⟩
    exact ⟨0, (first_in hp).2 ⟨rfl, h0, h1, h2, h3⟩⟩
  · rintro ⟨t, h⟩
    obtain ⟨_, h0, h1, h2, h3⟩ := (first_in hp).1 h
    exact ⟨b.s4.lo, h0, h1, h2, h3, by unfold InS; omega⟩
theorem change_shown {m : Model} (hm : RM m) {q : Query} (hp : paired q = true) (h0 : 0 ≤ q.cls) (h1 : q.cls < m.classes) {b : Box} (he : b.empty = false) :
    (changeM m q b).a = (boundP m q.cls (pairB q b)).1 - (boundP m q.cls b).2 ∧ (changeM m q b).b = (boundP m q.cls (pairB q b)).2 - (boundP m q.cls b).1 := by
  rw [change_some hp h0 h1 he, boundP_pts hm q.cls (pair_some he) (second_some hp he) (pair_pts hp he), boundP_pts hm q.cls he (first_some hp he) (first_pts hp he)]
  exact ⟨rfl, rfl⟩
theorem closed_shown {m : Model} (hm : RM m) {q : Query} (hq : okQuery m q = true) {b : Box} (hb : b.empty = false) : closedM m q b = shownM m q b := by
  rw [Bool.eq_iff_iff, closed_iff hm hq hb]
  have hs := okQuery_spec hq
  have hk := okKind_spec hs.2.2.2.2.2
  have hcl := hm.classes
  unfold Shown shownM
  rcases hk with ⟨k, _⟩ | ⟨k, k2, _⟩ | ⟨k, f0, f1, _⟩
  · simp [k]
  · have h2 : m.classes = 2 ∨ m.classes = 3 := by omega
    simp only [k, Int.reduceEq, false_and, true_and, false_or, or_false, if_false, if_true, Bool.and_eq_true, Bool.or_eq_true, decide_eq_true_eq, reduceIte]
    unfold ahead marD
    constructor
    · intro h
      refine ⟨⟨?_, ?_⟩, ?_⟩
      · by_cases e : (0 : Int) = q.cls
        · exact .inl e
        · have := h 0 (by omega) (by omega) e; exact .inr (by omega)
      · by_cases e : (1 : Int) = q.cls
        · exact .inl e
        · have := h 1 (by omega) (by omega) e; exact .inr (by omega)
      · rcases h2 with h2 | h2
        · exact .inl (.inl h2)
        · by_cases e : (2 : Int) = q.cls
          · exact .inl (.inr e)
          · have := h 2 (by omega) (by omega) e; exact .inr (by omega)
    · rintro ⟨⟨g0, g1⟩, g2⟩ o o0 o1 on
      have ho : o = 0 ∨ o = 1 ∨ o = 2 := by omega
      rcases ho with rfl | rfl | rfl
      · rcases g0 with g | g
        · exact absurd g on
        · omega
      · rcases g1 with g | g
        · exact absurd g on
        · omega
      · rcases g2 with (g | g) | g
        · omega
        · exact absurd g on
        · omega
  · have hp : paired q = true := by unfold paired; simp; have := hm.dim; omega
    obtain ⟨e1, e2⟩ := change_shown hm hp hs.1 hs.2.1 hb
    rw [e1, e2]
    by_cases hle : b.s4.hi ≤ (b.get q.feature).lo
    · simp [k, hle]
      intro h; omega
    · have hlt : (b.get q.feature).lo < b.s4.hi := by omega
      cases hf : q.falls <;> simp [k, hle, hlt] <;> omega
theorem runs_rClosed (m : Model) (q : Query) (b : Box) (r : Bool) (h : ClosedC m q b = some r) : Runs (tbl [(79, sp2 RQRight), (87, sp1 fun (b : Box) => some b.empty), (39, sp3 BoundS), (127, sp2 fun q b => some (pairB q b))]) a80 [Arg.enc m, Arg.enc q, Arg.enc b] (Arg.enc r) := by
  obtain ⟨⟨hm, hb⟩, rfl⟩ := part_some h
  clear h
  refine ⟨rfl, fun g => run_def ?_⟩
  unfold a80
  have hM : RQRight m q = some (okQuery m q) := part_of hm _
  cases hq : okQuery m q
  case false => simp -implicitDefEqProofs [hM, hq, closed_wrong hq]
  cases he : b.empty
  case true =>
    have : closedM m q b = true := by unfold closedM; rw [if_neg (by simp [hq]), if_pos he]
    simp -implicitDefEqProofs [hM, hq, he, this]
  rw [closed_shown hm hq he]
  have hs := okQuery_spec hq
  have hk := okKind_spec hs.2.2.2.2.2
  have hcl := hm.classes
  have hS := boundS_some hm hb he hs.1 hs.2.1
  have s0 := boundS_some hm hb he (c := 0) (by omega) (by omega)
  have s1 : 2 ≤ m.classes → _ := fun h => boundS_some hm hb he (c := 1) (by omega) (by omega)
  have s2 : m.classes = 3 → _ := fun h => boundS_some hm hb he (c := 2) (by omega) (by omega)
  have hokp : okB (pairB q b) := by
    unfold pairB
    split
    · exact okB_set hb _ hb.2.2.2.2
    · exact hb
  have hP := boundS_some hm hokp (pair_some he) hs.1 hs.2.1
  generalize hpb : pairB q b = pb at *
  unfold shownM
  rw [hpb]
  rcases hk with ⟨k, _⟩ | ⟨k, k2, _⟩ | ⟨k, f0, f1, _⟩
  · rw [if_pos k]
    generalize boundP m q.cls b = z at *
    obtain ⟨z1, z2⟩ := z
    obtain ⟨kind, cls, region, lo, hi, feature, falls, budget⟩ := q
    simp only at *
    subst k
    by_cases c1 : lo ≤ z1
    · simp -implicitDefEqProofs [hM, hq, he, hS, c1]
    · simp -implicitDefEqProofs [hM, hq, he, hS, c1]
  · rw [if_neg (by omega), if_pos k]
    have s1 := s1 k2
    have hx : 0 ≤ q.cls := hs.1
    have hx1 := hs.2.1
    obtain ⟨kind, cls, region, lo, hi, feature, falls, budget⟩ := q
    obtain ⟨dim, classes, bias, trees⟩ := m
    simp only at *
    subst k
    have hcs : (classes = 2 ∧ cls = 0) ∨ (classes = 2 ∧ cls = 1) ∨ (classes = 3 ∧ cls = 0) ∨ (classes = 3 ∧ cls = 1) ∨ (classes = 3 ∧ cls = 2) := by omega
    rcases hcs with ⟨rfl, rfl⟩ | ⟨rfl, rfl⟩ | ⟨rfl, rfl⟩ | ⟨rfl, rfl⟩ | ⟨rfl, rfl⟩
    · rcases Int.lt_or_le (boundP ⟨dim, 2, bias, trees⟩ 1 b).2 (boundP ⟨dim, 2, bias, trees⟩ 0 b).1 with g1 | g1 <;> simp -implicitDefEqProofs [hM, hq, he, hS, s0, s1, run_round, g1]
    · rcases Int.lt_or_le (boundP ⟨dim, 2, bias, trees⟩ 0 b).2 (boundP ⟨dim, 2, bias, trees⟩ 1 b).1 with g1 | g1 <;> simp -implicitDefEqProofs [hM, hq, he, hS, s0, s1, run_round, g1]
    · have s2 := s2 rfl
      rcases Int.lt_or_le (boundP ⟨dim, 3, bias, trees⟩ 1 b).2 (boundP ⟨dim, 3, bias, trees⟩ 0 b).1 with g1 | g1 <;> rcases Int.lt_or_le (boundP ⟨dim, 3, bias, trees⟩ 2 b).2 (boundP ⟨dim, 3, bias, trees⟩ 0 b).1 with g2 | g2 <;> simp -implicitDefEqProofs [hM, hq, he, hS, s0, s1, s2, run_round, g1, g2]
    · have s2 := s2 rfl
      rcases Int.lt_or_le (boundP ⟨dim, 3, bias, trees⟩ 0 b).2 (boundP ⟨dim, 3, bias, trees⟩ 1 b).1 with g1 | g1 <;> rcases Int.lt_or_le (boundP ⟨dim, 3, bias, trees⟩ 2 b).2 (boundP ⟨dim, 3, bias, trees⟩ 1 b).1 with g2 | g2 <;> simp -implicitDefEqProofs [hM, hq, he, hS, s0, s1, s2, run_round, g1, g2]
    · have s2 := s2 rfl
      rcases Int.lt_or_le (boundP ⟨dim, 3, bias, trees⟩ 0 b).2 (boundP ⟨dim, 3, bias, trees⟩ 2 b).1 with g1 | g1 <;> rcases Int.lt_or_le (boundP ⟨dim, 3, bias, trees⟩ 1 b).2 (boundP ⟨dim, 3, bias, trees⟩ 2 b).1 with g2 | g2 <;> simp -implicitDefEqProofs [hM, hq, he, hS, s0, s1, s2, run_round, g1, g2]
  · rw [if_neg (by omega), if_neg (by omega)]
    generalize boundP m q.cls b = z at *
    generalize boundP m q.cls pb = y at *
    obtain ⟨z1, z2⟩ := z
    obtain ⟨y1, y2⟩ := y
    have hd := hm.dim
    obtain ⟨kind, cls, region, lo, hi, feature, falls, budget⟩ := q
    simp only at *
    subst k
    have hc : feature = 0 ∨ feature = 1 ∨ feature = 2 ∨ feature = 3 := by omega
    by_cases hle : b.s4.hi ≤ (b.get feature).lo
    · rcases hc with rfl | rfl | rfl | rfl <;> simp only [Box.get, reduceIte, Int.reduceEq] at hle <;> simp -implicitDefEqProofs [Box.get, hM, hq, he, hS, hle]
    · cases falls
      · by_cases g1 : z2 ≤ y1 <;> (rcases hc with rfl | rfl | rfl | rfl) <;> simp only [Box.get, reduceIte, Int.reduceEq] at hle <;> simp -implicitDefEqProofs [Box.get, hM, hq, he, hS, hP, hpb, hle, g1]
      · by_cases g1 : y2 ≤ z1 <;> (rcases hc with rfl | rfl | rfl | rfl) <;> simp only [Box.get, reduceIte, Int.reduceEq] at hle <;> simp -implicitDefEqProofs [Box.get, hM, hq, he, hS, hP, hpb, hle, g1]
theorem c_rClosed : Contract Try.prog 80 (sp3 ClosedC) :=
  contract_of_runs mixed (tbl_cons c_rRight' (tbl_cons c_rEmpty (tbl_cons c_rSum (tbl_cons c_rSecond tbl_nil)))) Try.func80 m80 (sp3_runs runs_rClosed)
theorem runs_rSplit (m : Model) (q : Query) (b : Box) (r : Tri Int Int Bool) (h : SplitC m q b = some r) : Runs (tbl [(52, sp4 RCutsC)]) a82 [Arg.enc m, Arg.enc q, Arg.enc b] (Arg.enc r) := by
  obtain ⟨hm, rfl⟩ := part_some h
  clear h
  refine ⟨rfl, fun g => run_def ?_⟩
  unfold a82 splitM
  have hK : ∀ i : Int, 0 ≤ i → i ≤ 4 → RCutsC m q b i = some (cutsL m q b i) := fun i i0 i5 => part_of hm _
  have hL : ∀ i, (cutsL m q b i).length ≤ 248 := fun i => by rw [cutsL_len]; exact cutN_le hm q b i
  have fin : ∀ (l : List Int), l.length ≤ 248 → l ≠ [] → 0 < l.length ∧ l.length ≤ maxN ∧ IntKind.i64.wrap ((l.length : Int) - 1) = ((l.length - 1 : Nat) : Int) ∧ ∃ x : Nat, IntKind.i64.wrap (((l.length - 1 : Nat) : Int) / 2) = (x : Int) ∧ x < l.length ∧ rd (encL l) x 1 false = some (.int .i64 (midL l)) := by
    intro l hl hne
    have hp : 0 < l.length := List.length_pos_iff.2 hne
    have hlt : (l.length - 1) / 2 < l.length := by omega
    refine ⟨by omega, by unfold maxN; omega, ?_, (l.length - 1) / 2, ?_, hlt, ?_⟩
    · rw [show (l.length : Int) - 1 = ((l.length - 1 : Nat) : Int) by omega]
      exact wrap64 (by omega) (by omega)
    · rw [show ((l.length - 1 : Nat) : Int) / 2 = (((l.length - 1) / 2 : Nat) : Int) by omega]
      exact wrap64 (by omega) (by omega)
    · rw [rd_ints l _ hlt]
      unfold midL
      simp [hlt]
  have K0 := hK 0 (by omega) (by omega)
  have K1 := hK 1 (by omega) (by omega)
  have K2 := hK 2 (by omega) (by omega)
  have K3 := hK 3 (by omega) (by omega)
  have K4 := hK 4 (by omega) (by omega)
  have L0 := fin _ (hL 0)
  have L1 := fin _ (hL 1)
  have L2 := fin _ (hL 2)
  have L3 := fin _ (hL 3)
  have L4 := fin _ (hL 4)
  clear hK hL fin
  unfold splitFrom splitFrom splitFrom splitFrom splitFrom splitFrom
  generalize cutsL m q b 0 = l0 at *
  generalize cutsL m q b 1 = l1 at *
  generalize cutsL m q b 2 = l2 at *
  generalize cutsL m q b 3 = l3 at *
  generalize cutsL m q b 4 = l4 at *
  by_cases h0 : l0 = []
  case neg =>
    obtain ⟨a1, a2, a3, x, a4, a5, a6⟩ := L0 h0
    simp -implicitDefEqProofs [run_round, K0, h0, a1, a2, a3, a4, a5, a6, encL_nil]
  subst h0
  by_cases h1 : l1 = []
  case neg =>
    obtain ⟨a1, a2, a3, x, a4, a5, a6⟩ := L1 h1
    simp -implicitDefEqProofs [run_round, K0, K1, h1, a1, a2, a3, a4, a5, a6, encL_nil]
  subst h1
  by_cases h2 : l2 = []
  case neg =>
    obtain ⟨a1, a2, a3, x, a4, a5, a6⟩ := L2 h2
    simp -implicitDefEqProofs [run_round, K0, K1, K2, h2, a1, a2, a3, a4, a5, a6, encL_nil]
  subst h2
  by_cases h3 : l3 = []
  case neg =>
    obtain ⟨a1, a2, a3, x, a4, a5, a6⟩ := L3 h3
    simp -implicitDefEqProofs [run_round, K0, K1, K2, K3, h3, a1, a2, a3, a4, a5, a6, encL_nil]
  subst h3
  by_cases h4 : l4 = []
  case neg =>
    obtain ⟨a1, a2, a3, x, a4, a5, a6⟩ := L4 h4
    simp -implicitDefEqProofs [run_round, K0, K1, K2, K3, K4, h4, a1, a2, a3, a4, a5, a6, encL_nil]
  subst h4
  simp -implicitDefEqProofs [run_round, K0, K1, K2, K3, K4, encL_nil]
theorem c_rSplit : Contract Try.prog 82 (sp3 SplitC) :=
  contract_of_runs mixed (tbl_cons c_rCuts tbl_nil) Try.func82 m82 (sp3_runs runs_rSplit)
end Go.Co
