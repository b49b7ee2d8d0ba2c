/- CO: texts of this claim, one behind the other. -/
import Derived.Test.YtcjflbmpfmibbaaCz6
import Derived.Test.YtcjflbmpfmibbaaCz11
/- CO: the document's own answers: leaves and bounds. -/
set_option maxHeartbeats 16000000
set_option maxRecDepth 100000
namespace Go.Co
open Go.Am Go.Proofs
set_option linter.unusedSimpArgs false
set_option linter.unusedVariables false
def c131_0 : ACode := .ops [⟨some 3, .box (.t 1) 10, none, []⟩,⟨some 4, .mv (.c (.nils)), none, []⟩] [0, 3]
theorem r131_0 : type_of% (@rr _ _ c131_0.eq_1) := rr rfl
def c131_1 : ACode := .ops [⟨some 12, .mv (.t 0), none, []⟩,⟨some 13, .call 130 [.t 12, .c (.int .i64 4)], none, []⟩,⟨some 14, .un .not (.t 13), none, []⟩] [0, 3, 14]
theorem r131_1 : type_of% (@rr _ _ c131_1.eq_1) := rr rfl
def c131_2 : ACode := .ops [⟨some 4, .mv (.c (.nils)), none, []⟩] [4]
theorem r131_2 : type_of% (@rr _ _ c131_2.eq_1) := rr rfl
def c131_3 : ACode := .seq c131_2 .ret
theorem r131_3 : type_of% (@rr _ _ c131_3.eq_1) := rr rfl
def c131_4 : ACode := .cond (.t 14) c131_3 .skip
theorem r131_4 : type_of% (@rr _ _ c131_4.eq_1) := rr rfl
def c131_5 : ACode := .seq c131_1 c131_4
theorem r131_5 : type_of% (@rr _ _ c131_5.eq_1) := rr rfl
def c131_6 : ACode := .ops [⟨some 15, .mv (.t 0), none, []⟩,⟨some 16, .len (.t 15), none, []⟩,⟨some 17, .mks 5 (.t 16) 10 [.int .i64 0, .int .i64 0, .int .i64 0, .int .i64 0, .int .i64 0, .int .i64 0, .int .i64 0, .int .i64 0, .int .i64 0, .int .i64 0], none, []⟩,⟨some 5, .mv (.t 17), none, []⟩] [0, 3, 5]
theorem r131_6 : type_of% (@rr _ _ c131_6.eq_1) := rr rfl
def c131_7 : ACode := .ops [⟨some 18, .mv (.t 5), none, []⟩,⟨some 19, .load 10 true (.t 3), none, [3]⟩,⟨some 20, .ias (.t 18) (.c (.int .i64 0)) 10, none, [5]⟩,⟨none, .store (.t 20) 10 (.t 19), none, [5]⟩] [0, 5]
theorem r131_7 : type_of% (@rr _ _ c131_7.eq_1) := rr rfl
def c131_8 : ACode := .ops [⟨some 6, .nil0 6 11, none, []⟩] [0, 5, 6]
theorem r131_8 : type_of% (@rr _ _ c131_8.eq_1) := rr rfl
def c131_9 : ACode := .ops [⟨some 21, .mv (.t 0), none, []⟩,⟨some 22, .len (.t 21), none, []⟩,⟨some 23, .mv (.c (.int .i64 0)), none, []⟩] [5, 6, 21, 22, 23]
theorem r131_9 : type_of% (@rr _ _ c131_9.eq_1) := rr rfl
def c131_10 : ACode := .ops [⟨some 24, .bin .lss (.t 23) (.t 22), none, []⟩] [5, 6, 21, 22, 23, 24]
theorem r131_10 : type_of% (@rr _ _ c131_10.eq_1) := rr rfl
def c131_11 : ACode := .cond (.t 24) .skip (.exit 0)
theorem r131_11 : type_of% (@rr _ _ c131_11.eq_1) := rr rfl
def c131_12 : ACode := .ops [⟨some 25, .mv (.t 23), none, []⟩,⟨some 26, .ias (.t 21) (.t 23) 1, none, []⟩,⟨some 27, .load 1 false (.t 26), none, []⟩,⟨some 7, .mv (.t 25), none, []⟩,⟨some 8, .mv (.t 27), none, []⟩] [5, 6, 7, 8, 21, 22, 23]
theorem r131_12 : type_of% (@rr _ _ c131_12.eq_1) := rr rfl
def c131_13 : ACode := .ops [⟨some 29, .mv (.t 8), none, []⟩,⟨some 30, .call 104 [.t 29], none, []⟩,⟨some 28, .mv (.t 30), none, []⟩,⟨some 31, .ext (.t 28) 0, none, []⟩,⟨some 32, .ext (.t 28) 1, none, []⟩,⟨some 9, .alloc [.bool false, .int .i64 0, .int .i64 0, .int .i64 0, .int .i64 0, .int .i64 0], none, []⟩,⟨none, .store (.t 9) 6 (.t 31), none, [9]⟩,⟨some 10, .mv (.t 32), none, []⟩] [5, 6, 7, 9, 21, 22, 23]
theorem r131_13 : type_of% (@rr _ _ c131_13.eq_1) := rr rfl
def c131_14 : ACode := .ops [⟨some 33, .fad (.t 9) 0, none, [9]⟩,⟨some 34, .load 1 false (.t 33), none, [9]⟩] [5, 6, 7, 9, 21, 22, 23, 34]
theorem r131_14 : type_of% (@rr _ _ c131_14.eq_1) := rr rfl
def c131_15 : ACode := .ops [⟨some 35, .mv (.t 5), none, []⟩,⟨some 36, .mv (.t 7), none, []⟩,⟨some 37, .ias (.t 35) (.t 36) 10, none, [5]⟩,⟨some 38, .load 10 true (.t 37), none, [5]⟩,⟨some 39, .call 87 [.t 38], none, []⟩,⟨some 40, .un .not (.t 39), none, []⟩] [5, 6, 7, 9, 21, 22, 23, 40]
theorem r131_15 : type_of% (@rr _ _ c131_15.eq_1) := rr rfl
def c131_16 : ACode := .ops [⟨some 41, .mv (.t 6), none, []⟩,⟨some 42, .mv (.t 5), none, []⟩,⟨some 43, .mv (.t 7), none, []⟩,⟨some 44, .ias (.t 42) (.t 43) 10, none, [5]⟩,⟨some 45, .load 10 true (.t 44), none, [5]⟩,⟨some 46, .fad (.t 9) 1, none, [9]⟩,⟨some 47, .load 1 false (.t 46), none, [9]⟩,⟨some 48, .build [.int .i64 0, .int .i64 0, .int .i64 0, .int .i64 0, .int .i64 0, .int .i64 0, .int .i64 0, .int .i64 0, .int .i64 0, .int .i64 0, .int .i64 0] [(0, 10, .t 45), (10, 1, .t 47)], none, []⟩,⟨some 49, .mkrow 49 1 11 [.int .i64 0, .int .i64 0, .int .i64 0, .int .i64 0, .int .i64 0, .int .i64 0, .int .i64 0, .int .i64 0, .int .i64 0, .int .i64 0, .int .i64 0] [(0, 11, .t 48)], none, []⟩,⟨some 50, .app 6 [6] (.t 41) (.t 49) 11, none, [6, 49]⟩,⟨some 6, .mv (.t 50), none, []⟩] [5, 6, 21, 22, 23]
theorem r131_16 : type_of% (@rr _ _ c131_16.eq_1) := rr rfl
def c131_17 : ACode := .cond (.t 40) c131_16 .skip
theorem r131_17 : type_of% (@rr _ _ c131_17.eq_1) := rr rfl
def c131_18 : ACode := .seq c131_15 c131_17
theorem r131_18 : type_of% (@rr _ _ c131_18.eq_1) := rr rfl
def c131_19 : ACode := .seq c131_18 (.exit 1)
theorem r131_19 : type_of% (@rr _ _ c131_19.eq_1) := rr rfl
def c131_20 : ACode := .cond (.t 34) c131_19 .skip
theorem r131_20 : type_of% (@rr _ _ c131_20.eq_1) := rr rfl
def c131_21 : ACode := .seq c131_14 c131_20
theorem r131_21 : type_of% (@rr _ _ c131_21.eq_1) := rr rfl
def c131_22 : ACode := .ops [⟨some 51, .mv (.t 5), none, []⟩,⟨some 52, .mv (.t 7), none, []⟩,⟨some 53, .fad (.t 9) 2, none, [9]⟩,⟨some 54, .load 1 false (.t 53), none, [9]⟩,⟨some 55, .ias (.t 51) (.t 52) 10, none, [5]⟩,⟨some 56, .iad (.t 55) (.t 54) 2 5, none, [5]⟩,⟨some 57, .load 2 true (.t 56), none, [5]⟩,⟨some 11, .alloc [.int .i64 0, .int .i64 0], none, []⟩,⟨none, .store (.t 11) 2 (.t 57), none, [11]⟩] [5, 6, 7, 9, 11, 21, 22, 23]
theorem r131_22 : type_of% (@rr _ _ c131_22.eq_1) := rr rfl
def c131_23 : ACode := .ops [⟨some 58, .mv (.t 5), none, []⟩,⟨some 59, .fad (.t 9) 4, none, [9]⟩,⟨some 60, .load 1 false (.t 59), none, [9]⟩,⟨some 61, .mv (.t 5), none, []⟩,⟨some 62, .fad (.t 9) 5, none, [9]⟩,⟨some 63, .load 1 false (.t 62), none, [9]⟩,⟨some 64, .mv (.t 5), none, []⟩,⟨some 65, .mv (.t 7), none, []⟩,⟨some 66, .ias (.t 64) (.t 65) 10, none, [5]⟩,⟨some 67, .load 10 true (.t 66), none, [5]⟩,⟨some 68, .mv (.t 5), none, []⟩,⟨some 69, .mv (.t 7), none, []⟩,⟨some 70, .ias (.t 68) (.t 69) 10, none, [5]⟩,⟨some 71, .load 10 true (.t 70), none, [5]⟩,⟨some 72, .ias (.t 58) (.t 60) 10, none, [5]⟩,⟨none, .store (.t 72) 10 (.t 67), none, [5]⟩,⟨some 73, .ias (.t 61) (.t 63) 10, none, [5]⟩,⟨none, .store (.t 73) 10 (.t 71), none, [5]⟩] [5, 6, 9, 11, 21, 22, 23]
theorem r131_23 : type_of% (@rr _ _ c131_23.eq_1) := rr rfl
def c131_24 : ACode := .ops [⟨some 74, .mv (.t 5), none, []⟩,⟨some 75, .fad (.t 9) 4, none, [9]⟩,⟨some 76, .load 1 false (.t 75), none, [9]⟩,⟨some 77, .fad (.t 9) 2, none, [9]⟩,⟨some 78, .load 1 false (.t 77), none, [9]⟩,⟨some 79, .load 2 true (.t 11), none, [11]⟩,⟨some 80, .fad (.t 11) 0, none, [11]⟩,⟨some 81, .load 1 false (.t 80), none, [11]⟩,⟨some 82, .fad (.t 9) 3, none, [9]⟩,⟨some 83, .load 1 false (.t 82), none, [9]⟩,⟨some 84, .build [.int .i64 0, .int .i64 0] [(0, 1, .t 81), (1, 1, .t 83)], none, []⟩,⟨some 85, .call 128 [.t 79, .t 84], none, []⟩,⟨some 86, .ias (.t 74) (.t 76) 10, none, [5]⟩,⟨some 87, .iad (.t 86) (.t 78) 2 5, none, [5]⟩,⟨none, .store (.t 87) 2 (.t 85), none, [5]⟩] [5, 6, 9, 11, 21, 22, 23]
theorem r131_24 : type_of% (@rr _ _ c131_24.eq_1) := rr rfl
def c131_25 : ACode := .ops [⟨some 88, .mv (.t 5), none, []⟩,⟨some 89, .fad (.t 9) 5, none, [9]⟩,⟨some 90, .load 1 false (.t 89), none, [9]⟩,⟨some 91, .fad (.t 9) 2, none, [9]⟩,⟨some 92, .load 1 false (.t 91), none, [9]⟩,⟨some 93, .load 2 true (.t 11), none, [11]⟩,⟨some 94, .fad (.t 9) 3, none, [9]⟩,⟨some 95, .load 1 false (.t 94), none, [9]⟩,⟨some 96, .bin .add (.t 95) (.c (.int .i64 1)), none, []⟩,⟨some 97, .fad (.t 11) 1, none, [11]⟩,⟨some 98, .load 1 false (.t 97), none, [11]⟩,⟨some 99, .build [.int .i64 0, .int .i64 0] [(0, 1, .t 96), (1, 1, .t 98)], none, []⟩,⟨some 100, .call 128 [.t 93, .t 99], none, []⟩,⟨some 101, .ias (.t 88) (.t 90) 10, none, [5]⟩,⟨some 102, .iad (.t 101) (.t 92) 2 5, none, [5]⟩,⟨none, .store (.t 102) 2 (.t 100), none, [5]⟩] [5, 6, 21, 22, 23]
theorem r131_25 : type_of% (@rr _ _ c131_25.eq_1) := rr rfl
def c131_26 : ACode := .seq c131_24 c131_25
theorem r131_26 : type_of% (@rr _ _ c131_26.eq_1) := rr rfl
def c131_27 : ACode := .seq c131_23 c131_26
theorem r131_27 : type_of% (@rr _ _ c131_27.eq_1) := rr rfl
def c131_28 : ACode := .seq c131_22 c131_27
theorem r131_28 : type_of% (@rr _ _ c131_28.eq_1) := rr rfl
def c131_29 : ACode := .seq c131_21 c131_28
theorem r131_29 : type_of% (@rr _ _ c131_29.eq_1) := rr rfl
def c131_30 : ACode := .seq c131_13 c131_29
theorem r131_30 : type_of% (@rr _ _ c131_30.eq_1) := rr rfl
def c131_31 : ACode := .seq c131_12 c131_30
theorem r131_31 : type_of% (@rr _ _ c131_31.eq_1) := rr rfl
def c131_32 : ACode := .block 1 c131_31
theorem r131_32 : type_of% (@rr _ _ c131_32.eq_1) := rr rfl
def c131_33 : ACode := .ops [⟨some 103, .bin .add (.t 23) (.c (.int .i64 1)), none, []⟩,⟨some 23, .mv (.t 103), none, []⟩] [5, 6, 21, 22, 23]
theorem r131_33 : type_of% (@rr _ _ c131_33.eq_1) := rr rfl
def c131_34 : ACode := .seq c131_32 c131_33
theorem r131_34 : type_of% (@rr _ _ c131_34.eq_1) := rr rfl
def c131_35 : ACode := .seq c131_11 c131_34
theorem r131_35 : type_of% (@rr _ _ c131_35.eq_1) := rr rfl
def c131_36 : ACode := .seq c131_10 c131_35
theorem r131_36 : type_of% (@rr _ _ c131_36.eq_1) := rr rfl
def c131_37 : ACode := .keep [5, 6, 21, 22, 23] [5, 6] c131_36
theorem r131_37 : type_of% (@rr _ _ c131_37.eq_1) := rr rfl
def c131_38 : ACode := .loop c131_37
theorem r131_38 : type_of% (@rr _ _ c131_38.eq_1) := rr rfl
def c131_39 : ACode := .block 0 c131_38
theorem r131_39 : type_of% (@rr _ _ c131_39.eq_1) := rr rfl
def c131_40 : ACode := .seq c131_9 c131_39
theorem r131_40 : type_of% (@rr _ _ c131_40.eq_1) := rr rfl
def c131_41 : ACode := .ops [⟨some 104, .mv (.t 6), none, []⟩,⟨some 4, .mv (.t 104), none, []⟩] [4]
theorem r131_41 : type_of% (@rr _ _ c131_41.eq_1) := rr rfl
def c131_42 : ACode := .seq c131_41 .ret
theorem r131_42 : type_of% (@rr _ _ c131_42.eq_1) := rr rfl
def c131_43 : ACode := .seq c131_40 c131_42
theorem r131_43 : type_of% (@rr _ _ c131_43.eq_1) := rr rfl
def c131_44 : ACode := .seq c131_8 c131_43
theorem r131_44 : type_of% (@rr _ _ c131_44.eq_1) := rr rfl
def c131_45 : ACode := .seq c131_7 c131_44
theorem r131_45 : type_of% (@rr _ _ c131_45.eq_1) := rr rfl
def c131_46 : ACode := .seq c131_6 c131_45
theorem r131_46 : type_of% (@rr _ _ c131_46.eq_1) := rr rfl
def c131_47 : ACode := .seq c131_5 c131_46
theorem r131_47 : type_of% (@rr _ _ c131_47.eq_1) := rr rfl
def c131_48 : ACode := .seq c131_0 c131_47
theorem r131_48 : type_of% (@rr _ _ c131_48.eq_1) := rr rfl
def a131 : AFun := ⟨2, 105, c131_48, [.t 4]⟩
attribute [simp] r131_0 r131_1 r131_2 r131_3 r131_4 r131_5 r131_6 r131_7 r131_8 r131_9 r131_10 r131_11 r131_12 r131_13 r131_14 r131_15 r131_16 r131_17 r131_18 r131_19 r131_20 r131_21 r131_22 r131_23 r131_24 r131_25 r131_26 r131_27 r131_28 r131_29 r131_30 r131_31 r131_32 r131_33 r131_34 r131_35 r131_36 r131_37 r131_38 r131_39 r131_40 r131_41 r131_42 r131_43 r131_44 r131_45 r131_46 r131_47 r131_48
theorem m131 : mFun Try.prog Try.f131 a131 = true := by decide +kernel
def c88_0 : ACode := .ops [⟨some 3, .box (.t 1) 10, none, []⟩,⟨some 4, .mv (.c (.int .i64 0)), none, []⟩,⟨some 5, .mv (.c (.int .i64 0)), none, []⟩,⟨some 6, .mv (.c (.bool false)), none, []⟩] [0, 3]
theorem r88_0 : type_of% (@rr _ _ c88_0.eq_1) := rr rfl
def c88_1 : ACode := .ops [⟨some 12, .mv (.t 0), none, []⟩,⟨some 13, .load 10 true (.t 3), none, [3]⟩,⟨some 14, .call 131 [.t 12, .t 13], none, []⟩,⟨some 7, .mv (.t 14), none, []⟩] [7]
theorem r88_1 : type_of% (@rr _ _ c88_1.eq_1) := rr rfl
def c88_2 : ACode := .ops [⟨some 15, .mv (.t 7), none, []⟩,⟨some 16, .len (.t 15), none, []⟩,⟨some 17, .bin .eql (.t 16) (.c (.int .i64 0)), none, []⟩] [7, 17]
theorem r88_2 : type_of% (@rr _ _ c88_2.eq_1) := rr rfl
def c88_3 : ACode := .ops [⟨some 4, .mv (.c (.int .i64 0)), none, []⟩,⟨some 5, .mv (.c (.int .i64 0)), none, []⟩,⟨some 6, .mv (.c (.bool false)), none, []⟩] [4, 5, 6]
theorem r88_3 : type_of% (@rr _ _ c88_3.eq_1) := rr rfl
def c88_4 : ACode := .seq c88_3 .ret
theorem r88_4 : type_of% (@rr _ _ c88_4.eq_1) := rr rfl
def c88_5 : ACode := .cond (.t 17) c88_4 .skip
theorem r88_5 : type_of% (@rr _ _ c88_5.eq_1) := rr rfl
def c88_6 : ACode := .seq c88_2 c88_5
theorem r88_6 : type_of% (@rr _ _ c88_6.eq_1) := rr rfl
def c88_7 : ACode := .ops [⟨some 18, .mv (.t 7), none, []⟩,⟨some 19, .ias (.t 18) (.c (.int .i64 0)) 11, none, []⟩,⟨some 20, .fad (.t 19) 10, none, []⟩,⟨some 21, .load 1 false (.t 20), none, []⟩,⟨some 22, .mv (.t 7), none, []⟩,⟨some 23, .ias (.t 22) (.c (.int .i64 0)) 11, none, []⟩,⟨some 24, .fad (.t 23) 10, none, []⟩,⟨some 25, .load 1 false (.t 24), none, []⟩,⟨some 8, .mv (.t 21), none, []⟩,⟨some 9, .mv (.t 25), none, []⟩] [7, 8, 9]
theorem r88_7 : type_of% (@rr _ _ c88_7.eq_1) := rr rfl
def c88_8 : ACode := .ops [⟨some 26, .mv (.t 7), none, []⟩,⟨some 27, .len (.t 26), none, []⟩,⟨some 28, .mv (.c (.int .i64 0)), none, []⟩] [8, 9, 26, 27, 28]
theorem r88_8 : type_of% (@rr _ _ c88_8.eq_1) := rr rfl
def c88_9 : ACode := .ops [⟨some 29, .bin .lss (.t 28) (.t 27), none, []⟩] [8, 9, 26, 27, 28, 29]
theorem r88_9 : type_of% (@rr _ _ c88_9.eq_1) := rr rfl
def c88_10 : ACode := .cond (.t 29) .skip (.exit 0)
theorem r88_10 : type_of% (@rr _ _ c88_10.eq_1) := rr rfl
def c88_11 : ACode := .ops [⟨some 30, .ias (.t 26) (.t 28) 11, none, []⟩,⟨some 31, .load 11 true (.t 30), none, []⟩,⟨some 11, .alloc [.int .i64 0, .int .i64 0, .int .i64 0, .int .i64 0, .int .i64 0, .int .i64 0, .int .i64 0, .int .i64 0, .int .i64 0, .int .i64 0, .int .i64 0], none, []⟩,⟨none, .store (.t 11) 11 (.t 31), none, [11]⟩] [8, 9, 11, 26, 27, 28]
theorem r88_11 : type_of% (@rr _ _ c88_11.eq_1) := rr rfl
def c88_12 : ACode := .ops [⟨some 32, .mv (.t 8), none, []⟩,⟨some 33, .fad (.t 11) 10, none, [11]⟩,⟨some 34, .load 1 false (.t 33), none, [11]⟩,⟨some 35, .mnmx false (.t 32) (.t 34), none, []⟩,⟨some 36, .mv (.t 9), none, []⟩,⟨some 37, .fad (.t 11) 10, none, [11]⟩,⟨some 38, .load 1 false (.t 37), none, [11]⟩,⟨some 39, .mnmx true (.t 36) (.t 38), none, []⟩,⟨some 8, .mv (.t 35), none, []⟩,⟨some 9, .mv (.t 39), none, []⟩] [8, 9, 26, 27, 28]
theorem r88_12 : type_of% (@rr _ _ c88_12.eq_1) := rr rfl
def c88_13 : ACode := .seq c88_11 c88_12
theorem r88_13 : type_of% (@rr _ _ c88_13.eq_1) := rr rfl
def c88_14 : ACode := .block 1 c88_13
theorem r88_14 : type_of% (@rr _ _ c88_14.eq_1) := rr rfl
def c88_15 : ACode := .ops [⟨some 40, .bin .add (.t 28) (.c (.int .i64 1)), none, []⟩,⟨some 28, .mv (.t 40), none, []⟩] [8, 9, 26, 27, 28]
theorem r88_15 : type_of% (@rr _ _ c88_15.eq_1) := rr rfl
def c88_16 : ACode := .seq c88_14 c88_15
theorem r88_16 : type_of% (@rr _ _ c88_16.eq_1) := rr rfl
def c88_17 : ACode := .seq c88_10 c88_16
theorem r88_17 : type_of% (@rr _ _ c88_17.eq_1) := rr rfl
def c88_18 : ACode := .seq c88_9 c88_17
theorem r88_18 : type_of% (@rr _ _ c88_18.eq_1) := rr rfl
def c88_19 : ACode := .keep [8, 9, 26, 27, 28] [] c88_18
theorem r88_19 : type_of% (@rr _ _ c88_19.eq_1) := rr rfl
def c88_20 : ACode := .loop c88_19
theorem r88_20 : type_of% (@rr _ _ c88_20.eq_1) := rr rfl
def c88_21 : ACode := .block 0 c88_20
theorem r88_21 : type_of% (@rr _ _ c88_21.eq_1) := rr rfl
def c88_22 : ACode := .seq c88_8 c88_21
theorem r88_22 : type_of% (@rr _ _ c88_22.eq_1) := rr rfl
def c88_23 : ACode := .ops [⟨some 41, .mv (.t 8), none, []⟩,⟨some 42, .mv (.t 9), none, []⟩,⟨some 4, .mv (.t 41), none, []⟩,⟨some 5, .mv (.t 42), none, []⟩,⟨some 6, .mv (.c (.bool true)), none, []⟩] [4, 5, 6]
theorem r88_23 : type_of% (@rr _ _ c88_23.eq_1) := rr rfl
def c88_24 : ACode := .seq c88_23 .ret
theorem r88_24 : type_of% (@rr _ _ c88_24.eq_1) := rr rfl
def c88_25 : ACode := .seq c88_22 c88_24
theorem r88_25 : type_of% (@rr _ _ c88_25.eq_1) := rr rfl
def c88_26 : ACode := .seq c88_7 c88_25
theorem r88_26 : type_of% (@rr _ _ c88_26.eq_1) := rr rfl
def c88_27 : ACode := .seq c88_6 c88_26
theorem r88_27 : type_of% (@rr _ _ c88_27.eq_1) := rr rfl
def c88_28 : ACode := .seq c88_1 c88_27
theorem r88_28 : type_of% (@rr _ _ c88_28.eq_1) := rr rfl
def c88_29 : ACode := .seq c88_0 c88_28
theorem r88_29 : type_of% (@rr _ _ c88_29.eq_1) := rr rfl
def a88 : AFun := ⟨2, 43, c88_29, [.t 4, .t 5, .t 6]⟩
attribute [simp] r88_0 r88_1 r88_2 r88_3 r88_4 r88_5 r88_6 r88_7 r88_8 r88_9 r88_10 r88_11 r88_12 r88_13 r88_14 r88_15 r88_16 r88_17 r88_18 r88_19 r88_20 r88_21 r88_22 r88_23 r88_24 r88_25 r88_26 r88_27 r88_28 r88_29
theorem m88 : mFun Try.prog Try.f88 a88 = true := by decide +kernel
def c39_0 : ACode := .ops [⟨some 3, .box (.t 0) 6, none, []⟩,⟨some 5, .box (.t 2) 10, none, []⟩,⟨some 6, .mv (.c (.int .i64 0)), none, []⟩,⟨some 7, .mv (.c (.int .i64 0)), none, []⟩,⟨some 8, .mv (.c (.bool false)), none, []⟩] [1, 3, 5]
theorem r39_0 : type_of% (@rr _ _ c39_0.eq_1) := rr rfl
def c39_1 : ACode := .ops [⟨some 16, .load 6 true (.t 3), none, [3]⟩,⟨some 17, .call 86 [.t 16], none, []⟩,⟨some 18, .un .not (.t 17), none, []⟩,⟨some 19, .mv (.t 18), none, []⟩,⟨some 20, .mv (.t 1), some (19, false), []⟩,⟨some 21, .bin .lss (.t 20) (.c (.int .i64 0)), some (19, false), []⟩,⟨some 22, .pick (.t 19) (.c (.bool true)) (.t 21), none, []⟩,⟨some 23, .mv (.t 22), none, []⟩,⟨some 24, .mv (.t 1), some (23, false), []⟩,⟨some 25, .fad (.t 3) 1, some (23, false), [3]⟩,⟨some 26, .load 1 false (.t 25), some (23, false), [3]⟩,⟨some 27, .bin .geq (.t 24) (.t 26), some (23, false), []⟩,⟨some 28, .pick (.t 23) (.c (.bool true)) (.t 27), none, []⟩,⟨some 29, .mv (.t 28), none, []⟩,⟨some 30, .load 10 true (.t 5), some (29, false), [5]⟩,⟨some 31, .call 87 [.t 30], some (29, false), []⟩,⟨some 32, .pick (.t 29) (.c (.bool true)) (.t 31), none, []⟩] [1, 3, 5, 32]
theorem r39_1 : type_of% (@rr _ _ c39_1.eq_1) := rr rfl
def c39_2 : ACode := .ops [⟨some 6, .mv (.c (.int .i64 0)), none, []⟩,⟨some 7, .mv (.c (.int .i64 0)), none, []⟩,⟨some 8, .mv (.c (.bool false)), none, []⟩] [6, 7, 8]
theorem r39_2 : type_of% (@rr _ _ c39_2.eq_1) := rr rfl
def c39_3 : ACode := .seq c39_2 .ret
theorem r39_3 : type_of% (@rr _ _ c39_3.eq_1) := rr rfl
def c39_4 : ACode := .cond (.t 32) c39_3 .skip
theorem r39_4 : type_of% (@rr _ _ c39_4.eq_1) := rr rfl
def c39_5 : ACode := .seq c39_1 c39_4
theorem r39_5 : type_of% (@rr _ _ c39_5.eq_1) := rr rfl
def c39_6 : ACode := .ops [⟨some 33, .mv (.t 1), none, []⟩,⟨some 34, .fad (.t 3) 2, none, [3]⟩,⟨some 35, .iad (.t 34) (.t 33) 1 3, none, [3]⟩,⟨some 36, .load 1 false (.t 35), none, [3]⟩,⟨some 37, .mv (.t 1), none, []⟩,⟨some 38, .fad (.t 3) 2, none, [3]⟩,⟨some 39, .iad (.t 38) (.t 37) 1 3, none, [3]⟩,⟨some 40, .load 1 false (.t 39), none, [3]⟩,⟨some 9, .mv (.t 36), none, []⟩,⟨some 10, .mv (.t 40), none, []⟩] [1, 3, 5, 9, 10]
theorem r39_6 : type_of% (@rr _ _ c39_6.eq_1) := rr rfl
def c39_7 : ACode := .ops [⟨some 41, .fad (.t 3) 5, none, [3]⟩,⟨some 42, .load 1 false (.t 41), none, [3]⟩,⟨some 43, .len (.t 42), none, []⟩,⟨some 44, .mv (.c (.int .i64 0)), none, []⟩] [1, 5, 9, 10, 42, 43, 44]
theorem r39_7 : type_of% (@rr _ _ c39_7.eq_1) := rr rfl
def c39_8 : ACode := .ops [⟨some 45, .bin .lss (.t 44) (.t 43), none, []⟩] [1, 5, 9, 10, 42, 43, 44, 45]
theorem r39_8 : type_of% (@rr _ _ c39_8.eq_1) := rr rfl
def c39_9 : ACode := .cond (.t 45) .skip (.exit 0)
theorem r39_9 : type_of% (@rr _ _ c39_9.eq_1) := rr rfl
def c39_10 : ACode := .ops [⟨some 46, .ias (.t 42) (.t 44) 2, none, []⟩,⟨some 47, .load 2 true (.t 46), none, []⟩,⟨some 12, .alloc [.int .i64 0, .nils], none, []⟩,⟨none, .store (.t 12) 2 (.t 47), none, [12]⟩] [1, 5, 9, 10, 12, 42, 43, 44]
theorem r39_10 : type_of% (@rr _ _ c39_10.eq_1) := rr rfl
def c39_11 : ACode := .ops [⟨some 48, .fad (.t 12) 0, none, [12]⟩,⟨some 49, .load 1 false (.t 48), none, [12]⟩,⟨some 50, .mv (.t 1), none, []⟩,⟨some 51, .bin .eql (.t 49) (.t 50), none, []⟩] [1, 5, 9, 10, 12, 42, 43, 44, 51]
theorem r39_11 : type_of% (@rr _ _ c39_11.eq_1) := rr rfl
def c39_12 : ACode := .ops [⟨some 53, .fad (.t 12) 1, none, [12]⟩,⟨some 54, .load 1 false (.t 53), none, [12]⟩,⟨some 55, .load 10 true (.t 5), none, [5]⟩,⟨some 56, .call 88 [.t 54, .t 55], none, []⟩,⟨some 52, .mv (.t 56), none, []⟩,⟨some 57, .ext (.t 52) 0, none, []⟩,⟨some 58, .ext (.t 52) 1, none, []⟩,⟨some 59, .ext (.t 52) 2, none, []⟩,⟨some 13, .mv (.t 57), none, []⟩,⟨some 14, .mv (.t 58), none, []⟩,⟨some 15, .mv (.t 59), none, []⟩] [1, 5, 9, 10, 13, 14, 42, 43, 44]
theorem r39_12 : type_of% (@rr _ _ c39_12.eq_1) := rr rfl
def c39_13 : ACode := .ops [⟨some 60, .mv (.t 9), none, []⟩,⟨some 61, .mv (.t 13), none, []⟩,⟨some 62, .bin .add (.t 60) (.t 61), none, []⟩,⟨some 63, .mv (.t 10), none, []⟩,⟨some 64, .mv (.t 14), none, []⟩,⟨some 65, .bin .add (.t 63) (.t 64), none, []⟩,⟨some 9, .mv (.t 62), none, []⟩,⟨some 10, .mv (.t 65), none, []⟩] [1, 5, 9, 10, 42, 43, 44]
theorem r39_13 : type_of% (@rr _ _ c39_13.eq_1) := rr rfl
def c39_14 : ACode := .seq c39_12 c39_13
theorem r39_14 : type_of% (@rr _ _ c39_14.eq_1) := rr rfl
def c39_15 : ACode := .cond (.t 51) c39_14 .skip
theorem r39_15 : type_of% (@rr _ _ c39_15.eq_1) := rr rfl
def c39_16 : ACode := .seq c39_11 c39_15
theorem r39_16 : type_of% (@rr _ _ c39_16.eq_1) := rr rfl
def c39_17 : ACode := .seq c39_10 c39_16
theorem r39_17 : type_of% (@rr _ _ c39_17.eq_1) := rr rfl
def c39_18 : ACode := .block 1 c39_17
theorem r39_18 : type_of% (@rr _ _ c39_18.eq_1) := rr rfl
def c39_19 : ACode := .ops [⟨some 66, .bin .add (.t 44) (.c (.int .i64 1)), none, []⟩,⟨some 44, .mv (.t 66), none, []⟩] [1, 5, 9, 10, 42, 43, 44]
theorem r39_19 : type_of% (@rr _ _ c39_19.eq_1) := rr rfl
def c39_20 : ACode := .seq c39_18 c39_19
theorem r39_20 : type_of% (@rr _ _ c39_20.eq_1) := rr rfl
def c39_21 : ACode := .seq c39_9 c39_20
theorem r39_21 : type_of% (@rr _ _ c39_21.eq_1) := rr rfl
def c39_22 : ACode := .seq c39_8 c39_21
theorem r39_22 : type_of% (@rr _ _ c39_22.eq_1) := rr rfl
def c39_23 : ACode := .keep [1, 5, 9, 10, 42, 43, 44] [5] c39_22
theorem r39_23 : type_of% (@rr _ _ c39_23.eq_1) := rr rfl
def c39_24 : ACode := .loop c39_23
theorem r39_24 : type_of% (@rr _ _ c39_24.eq_1) := rr rfl
def c39_25 : ACode := .block 0 c39_24
theorem r39_25 : type_of% (@rr _ _ c39_25.eq_1) := rr rfl
def c39_26 : ACode := .seq c39_7 c39_25
theorem r39_26 : type_of% (@rr _ _ c39_26.eq_1) := rr rfl
def c39_27 : ACode := .ops [⟨some 67, .mv (.t 9), none, []⟩,⟨some 68, .mv (.t 10), none, []⟩,⟨some 6, .mv (.t 67), none, []⟩,⟨some 7, .mv (.t 68), none, []⟩,⟨some 8, .mv (.c (.bool true)), none, []⟩] [6, 7, 8]
theorem r39_27 : type_of% (@rr _ _ c39_27.eq_1) := rr rfl
def c39_28 : ACode := .seq c39_27 .ret
theorem r39_28 : type_of% (@rr _ _ c39_28.eq_1) := rr rfl
def c39_29 : ACode := .seq c39_26 c39_28
theorem r39_29 : type_of% (@rr _ _ c39_29.eq_1) := rr rfl
def c39_30 : ACode := .seq c39_6 c39_29
theorem r39_30 : type_of% (@rr _ _ c39_30.eq_1) := rr rfl
def c39_31 : ACode := .seq c39_5 c39_30
theorem r39_31 : type_of% (@rr _ _ c39_31.eq_1) := rr rfl
def c39_32 : ACode := .seq c39_0 c39_31
theorem r39_32 : type_of% (@rr _ _ c39_32.eq_1) := rr rfl
def a39 : AFun := ⟨3, 69, c39_32, [.t 6, .t 7, .t 8]⟩
attribute [simp] r39_0 r39_1 r39_2 r39_3 r39_4 r39_5 r39_6 r39_7 r39_8 r39_9 r39_10 r39_11 r39_12 r39_13 r39_14 r39_15 r39_16 r39_17 r39_18 r39_19 r39_20 r39_21 r39_22 r39_23 r39_24 r39_25 r39_26 r39_27 r39_28 r39_29 r39_30 r39_31 r39_32
theorem m39 : mFun Try.prog Try.f39 a39 = true := by decide +kernel
theorem meet_1 (s : Span) (c : Int) : meetS s ⟨s.lo, c⟩ = (cutS s c).1 := by
  unfold meetS cutS max2 min2
  simp only [gt_iff_lt, Int.lt_irrefl, if_false]
  by_cases h : s.hi ≤ c
  · rw [if_pos h, if_neg (by omega)]
  · rw [if_neg h, if_pos (by omega)]
theorem meet_2 (s : Span) (c : Int) : meetS s ⟨c + 1, s.hi⟩ = (cutS s c).2 := by
  unfold meetS cutS max2 min2
  simp only [Int.lt_irrefl, if_false]
  by_cases h : s.hi ≤ c
  · rw [if_pos h]
    show ofS (if s.lo < c + 1 then c + 1 else s.lo) s.hi = noneS
    unfold ofS
    rw [if_pos (by split <;> omega)]
  · rw [if_neg h]
theorem wr_in {α : Type} [Row α] : ∀ (l : List α) (i j : Nat) (h : i < l.length) (vs : List AV) (a : α), j + vs.length ≤ Row.sz α → Row.enc a = wr (Row.enc l[i]) j vs → wr (encL l) (i * Row.sz α + j) vs = encL (l.set i a)
  | [], i, j, h, _, _, _, _ => by simp at h
  | x :: l, 0, j, h, vs, a, hj, ha => by
    have hl := Row.len x
    rw [List.set_cons_zero, encL_cons, encL_cons, ha]
    simp only [List.getElem_cons_zero, wr, Nat.zero_mul, Nat.zero_add]
    rw [List.take_append_of_le_length (by omega), List.drop_append_of_le_length (by omega)]
    simp
  | x :: l, i + 1, j, h, vs, a, hj, ha => by
    have hl := Row.len x
    have ih := wr_in l i j (by simpa using h) vs a hj (by simpa using ha)
    rw [List.set_cons_succ, encL_cons, encL_cons, ← ih]
    unfold wr
    have e : (i + 1) * Row.sz α + j = (Row.enc x).length + (i * Row.sz α + j) := by rw [hl, Nat.succ_mul]; omega
    rw [e, List.take_length_add_append, show (Row.enc x).length + (i * Row.sz α + j) + vs.length = (Row.enc x).length + (i * Row.sz α + j + vs.length) by omega, List.drop_length_add_append]
    simp
theorem rd_in {α : Type} [Row α] (l : List α) (i j n : Nat) (h : i < l.length) (hj : j + n ≤ Row.sz α) : rd (encL l) (i * Row.sz α + j) n true = some (.agg (((Row.enc l[i]).drop j).take n)) := by
  have h1 := encL_get l i h
  have hl := encL_length l
  unfold rd
  rw [if_pos (by
    have : (i + 1) * Row.sz α ≤ l.length * Row.sz α := Nat.mul_le_mul_right _ h
    rw [Nat.succ_mul] at this
    omega)]
  rw [← h1]
  simp only [if_true, List.drop_take, List.take_take, List.drop_drop]
  rw [Nat.min_eq_left (by omega)]
theorem rd_bspan (l : List Box) (i : Nat) (h : i < l.length) {f : Int} (h0 : 0 ≤ f) (h4 : f < 4) : rd (encL l) (i * 10 + f.toNat * 2) 2 true = some (.agg [.int .i64 (l[i].get f).lo, .int .i64 (l[i].get f).hi]) := by
  have hf : f = 0 ∨ f = 1 ∨ f = 2 ∨ f = 3 := by omega
  rcases hf with rfl | rfl | rfl | rfl <;> exact rd_in l i _ 2 h (by decide)
theorem wr_bspan (l : List Box) (i : Nat) (h : i < l.length) {f : Int} (h0 : 0 ≤ f) (h4 : f < 4) (s : Span) : wr (encL l) (i * 10 + f.toNat * 2) [.int .i64 s.lo, .int .i64 s.hi] = encL (l.set i (l[i].set f s)) := by
  have hf : f = 0 ∨ f = 1 ∨ f = 2 ∨ f = 3 := by omega
  rcases hf with rfl | rfl | rfl | rfl <;> exact wr_in l i _ h _ _ (by simp) rfl
theorem set_four {α : Type} (l : List α) (a b : Nat) (h : a ≠ b) (x y z : α) : (((l.set a x).set b x).set a y).set b z = (l.set a y).set b z := by
  apply List.ext_getElem
  · simp
  · intro j h1 h2
    simp only [List.getElem_set]
    by_cases e1 : b = j
    · simp [e1]
    · by_cases e2 : a = j <;> simp [e1, e2]
theorem pieces_empty {l : List Word} {d : Int} (hr : RT l d) {b : Box} (hb : b.empty = true) : pieces l b = [] := by
  apply List.eq_nil_iff_forall_not_mem.2
  intro x hx
  obtain ⟨p, t, hp⟩ := empty_false.1 (piece_some hx)
  exact empty_true.1 hb p t (piece_in hr hx hp).1
noncomputable def RLeaves (l : List Word) (b : Box) : Option (List Piece) := Part ((∃ d, RT l d) ∧ okB b) (pieces l b)
theorem runs_rLeaves (l : List Word) (b : Box) (c : List Piece) (h : RLeaves l b = some c) : Runs (tbl [(130, sp2 TreeRight), (104, sp1 Unpack), (87, sp1 fun (b : Box) => some b.empty), (128, sp2 fun (a b : Span) => some (meetS a b))]) a131 [Arg.enc l, Arg.enc b] (Arg.enc c) := by
  obtain ⟨⟨⟨d, hr⟩, hb⟩, rfl⟩ := part_some h
  refine ⟨rfl, fun g => run_def ?_⟩
  unfold a131
  have hT : TreeRight l 4 = some true := part_of hr.four _
  have hp := hr.pos
  have hle := hr.le
  have b3 : l.length ≤ maxN := by unfold maxN; omega
  have b4 : (l.length : Int) ≤ 1099511627776 := by omega
  have hz : rep l.length [.int .i64 0, .int .i64 0, .int .i64 0, .int .i64 0, .int .i64 0, .int .i64 0, .int .i64 0, .int .i64 0, .int .i64 0, .int .i64 0] = encL (List.replicate l.length zeroB) := rep_enc l.length zeroB
  have hw0 : wr (encL (List.replicate l.length zeroB)) 0 [.int .i64 b.s0.lo, .int .i64 b.s0.hi, .int .i64 b.s1.lo, .int .i64 b.s1.hi, .int .i64 b.s2.lo, .int .i64 b.s2.hi, .int .i64 b.s3.lo, .int .i64 b.s3.hi, .int .i64 b.s4.lo, .int .i64 b.s4.hi] = encL (ownL l b 0) := by
    rw [ownL_zero l b (by omega)]
    exact wr_box (List.replicate l.length zeroB) 0 (by simp; omega) b
  have hlen : 10 ≤ (encL (List.replicate l.length zeroB)).length := by rw [encL_length]; simp; omega
  have b6 : 0 < l.length := by omega
  simp -implicitDefEqProofs [hT, b3, b4, b6, hp, hz, hw0, hlen, -Go.Am.rep]
  refine run_while (c := c131_36) (fun n s => ∃ (i : Nat) (g : Nat → Nat), i + n = l.length ∧ s = ⟨[(5, .own 5 (g 5) 0 l.length), (6, .own 6 (g 6) 0 (piecesTo l b i).length), (21, .lst l.length (encL l)), (22, .int .i64 l.length), (23, .int .i64 i)],
    [(5, ⟨encL (ownL l b i), false, 10⟩), (6, ⟨encL (piecesTo l b i), false, 11⟩)], g⟩) l.length ⟨0, bump 6 (bump 5 (bump 3 g)), by omega, by simp [piecesTo, encL_nil]⟩ ?_
  rintro n s ⟨i, g, hi, rfl⟩
  have w1 : IntKind.i64.wrap ((i : Int) + 1) = (i : Int) + 1 := wrap64 (by omega) (by omega)
  by_cases h1 : i < l.length
  case pos =>
    have hU := unpack_at hr h1
    have hrow : rd (encL (ownL l b i)) (i * 10) 10 true = some (Arg.enc (own l b i)) := by
      rw [rd_box _ _ (by rw [ownL_len]; exact h1), ownL_get]
      rfl
    cases hl : (ndAt l i).leaf
    case true =>
      cases hE : (own l b i).empty
      case true =>
        have hp1 : piecesTo l b (i + 1) = piecesTo l b i := by rw [piecesTo_succ, pieceAt, hl, hE]; simp
        have ho := ownL_leaf b hl
        simp -implicitDefEqProofs [h1, rd_words, hU, hl, w1, hrow, hE]
        exact ⟨n - 1, by omega, i + 1, by omega, ⟨by rw [hp1], by omega⟩, by rw [ho], by rw [hp1]⟩
      case false =>
        have hp1 : piecesTo l b (i + 1) = piecesTo l b i ++ [⟨own l b i, (ndAt l i).value⟩] := by rw [piecesTo_succ, pieceAt, hl, hE]; simp
        have ho := ownL_leaf b hl
        have hpl := piecesTo_len l b i
        have c1 : (piecesTo l b i).length * 11 ≤ (encL (piecesTo l b i)).length := by rw [encL_length]; simp
        have c2 : (piecesTo l b i).length ≤ 1099511627775 := by omega
        have htk : List.take ((piecesTo l b i).length * 11) (encL (piecesTo l b i)) = encL (piecesTo l b i) := take_rows _ _ (by simp)
        simp -implicitDefEqProofs [h1, rd_words, hU, hl, w1, hrow, hE, c1, c2, htk]
        exact ⟨n - 1, by omega, i + 1, by omega, ⟨by rw [hp1]; simp, by omega⟩, by rw [ho], by rw [hp1, encL_append]; rfl⟩
    case false =>
      have ha := hr.at h1 hl
      have hfe := hr.feature h1 hl
      have f0 := hfe.1
      have f9 := hfe.2
      have f5i : (ndAt l i).feature < 5 := by omega
      have f1 : 0 ≤ (ndAt l i).left := by omega
      have f2 : (ndAt l i).left < l.length := by omega
      have f3 : 0 ≤ (ndAt l i).right := by omega
      have f4 : (ndAt l i).right < l.length := by omega
      have f5 : (ndAt l i).left.toNat < l.length := by omega
      have f6 : (ndAt l i).right.toNat < l.length := by omega
      have f7 : ¬ (ndAt l i).left.toNat = (ndAt l i).right.toNat := by omega
      have hcut := of_fits (hr.cutOk h1)
      have w2 : IntKind.i64.wrap ((ndAt l i).cut + 1) = (ndAt l i).cut + 1 := wrap64 (by omega) (by omega)
      have ho := ownL_inner b hl
      have hp1 : piecesTo l b (i + 1) = piecesTo l b i := by rw [piecesTo_succ, pieceAt, hl]; simp
      have hspan : rd (encL (ownL l b i)) (i * 10 + (ndAt l i).feature.toNat * 2) 2 true = some (.agg [.int .i64 ((own l b i).get (ndAt l i).feature).lo, .int .i64 ((own l b i).get (ndAt l i).feature).hi]) := by
        rw [rd_bspan _ i (by rw [ownL_len]; exact h1) f0 f9, ownL_get]
        rfl
      have m1 := meet_1 ((own l b i).get (ndAt l i).feature) (ndAt l i).cut
      have m2 := meet_2 ((own l b i).get (ndAt l i).feature) (ndAt l i).cut
      have hcb : cutB (own l b i) (ndAt l i).feature (ndAt l i).cut = ((own l b i).set (ndAt l i).feature (cutS ((own l b i).get (ndAt l i).feature) (ndAt l i).cut).1, (own l b i).set (ndAt l i).feature (cutS ((own l b i).get (ndAt l i).feature) (ndAt l i).cut).2) := by
        unfold cutB
        rw [if_pos (by omega)]
      rw [hcb] at ho
      have wA := wr_box (ownL l b i) (ndAt l i).left.toNat (by rw [ownL_len]; exact f5) (own l b i)
      have wB := wr_box ((ownL l b i).set (ndAt l i).left.toNat (own l b i)) (ndAt l i).right.toNat (by rw [List.length_set, ownL_len]; exact f6) (own l b i)
      generalize (own l b i).get (ndAt l i).feature = sp at *
      generalize (cutS sp (ndAt l i).cut).1 = s1 at *
      generalize (cutS sp (ndAt l i).cut).2 = s2 at *
      have wC := wr_bspan (((ownL l b i).set (ndAt l i).left.toNat (own l b i)).set (ndAt l i).right.toNat (own l b i)) (ndAt l i).left.toNat (by simp [ownL_len]; exact f5) f0 f9 s1
      have gC : (((ownL l b i).set (ndAt l i).left.toNat (own l b i)).set (ndAt l i).right.toNat (own l b i))[(ndAt l i).left.toNat]'(by simp [ownL_len]; exact f5) = own l b i := by
        rw [List.getElem_set, if_neg (Ne.symm f7), List.getElem_set, if_pos rfl]
      rw [gC] at wC
      have wD := wr_bspan ((((ownL l b i).set (ndAt l i).left.toNat (own l b i)).set (ndAt l i).right.toNat (own l b i)).set (ndAt l i).left.toNat ((own l b i).set (ndAt l i).feature s1)) (ndAt l i).right.toNat (by simp [ownL_len]; exact f6) f0 f9 s2
      have gD : ((((ownL l b i).set (ndAt l i).left.toNat (own l b i)).set (ndAt l i).right.toNat (own l b i)).set (ndAt l i).left.toNat ((own l b i).set (ndAt l i).feature s1))[(ndAt l i).right.toNat]'(by simp [ownL_len]; exact f6) = own l b i := by
        rw [List.getElem_set, if_neg f7, List.getElem_set, if_pos rfl]
      rw [gD, set_four _ _ _ f7, ← ho] at wD
      simp -implicitDefEqProofs [h1, rd_words, hU, hl, w1, w2, hrow, hspan, f0, f5i, f1, f2, f3, f4, wA, wB, wC, wD, m1, m2, encL_length, ownL_len]
      exact ⟨fun _ => ⟨fun _ => ⟨fun _ => ⟨fun _ => ⟨n - 1, by omega, i + 1, by omega, ⟨by rw [hp1], by omega⟩, rfl, by rw [hp1]⟩, by omega⟩, by omega⟩, by omega⟩, by omega⟩
  case neg =>
    have hil : i = l.length := by omega
    subst hil
    have hpp : piecesTo l b l.length = pieces l b := rfl
    have c1 : (pieces l b).length * 11 ≤ (encL (pieces l b)).length := by rw [encL_length]; simp
    have htk : List.take ((pieces l b).length * 11) (encL (pieces l b)) = encL (pieces l b) := take_rows _ _ (by simp)
    simp -implicitDefEqProofs [h1, hpp, c1, htk]
theorem c_rLeaves : Contract Try.prog 131 (sp2 RLeaves) :=
  contract_of_runs mixed (tbl_cons c_rRT (tbl_cons c_rUnpack (tbl_cons c_rEmpty (tbl_cons c_rMeet tbl_nil)))) Try.func131 m131 (sp2_runs runs_rLeaves)
noncomputable def RBound (l : List Word) (b : Box) : Option (Tri Int Int Bool) := Part ((∃ d, RT l d) ∧ okB b) (boundT l b)
theorem runs_rBound (l : List Word) (b : Box) (c : Tri Int Int Bool) (h : RBound l b = some c) : Runs (tbl [(131, sp2 RLeaves)]) a88 [Arg.enc l, Arg.enc b] (Arg.enc c) := by
  obtain ⟨hh, rfl⟩ := part_some h
  refine ⟨rfl, fun g => run_def ?_⟩
  unfold a88
  have hL : RLeaves l b = some (pieces l b) := part_of hh _
  have hl : (pieces l b).length ≤ l.length := piecesTo_len l b l.length
  obtain ⟨⟨d, hr⟩, hb⟩ := hh
  have hle := hr.le
  have hbt : boundT l b = ends (pieces l b) := by
    unfold boundT
    cases he : b.empty
    · rfl
    · rw [pieces_empty hr he]; rfl
  rw [hbt]
  generalize pieces l b = ps at *
  have b3 : ps.length ≤ maxN := by unfold maxN; omega
  cases ps with
  | nil => simp -implicitDefEqProofs [hL, ends, encL_nil]
  | cons x xs =>
    have hne : ¬ ((x :: xs).length : Int) = 0 := by simp; omega
    have hnn : x :: xs ≠ [] := by simp
    have r0 : rd (encL (x :: xs)) 10 1 false = some (.int .i64 x.value) := rd_piece10 (x :: xs) 0 (by simp)
    have hpos : 0 < (x :: xs).length := by simp
    have he : ends (x :: xs) = ⟨((x :: xs).foldl endF (x.value, x.value)).1, ((x :: xs).foldl endF (x.value, x.value)).2, true⟩ := rfl
    rw [he]
    generalize x :: xs = ps at *
    simp -implicitDefEqProofs [hL, b3, hne, r0, hpos]
    refine ⟨hnn, fun _ => ?_⟩
    refine run_while (c := c88_18) (fun n s => ∃ (i : Nat), i + n = ps.length ∧ s = ⟨[(8, .int .i64 ((ps.take i).foldl endF (x.value, x.value)).1), (9, .int .i64 ((ps.take i).foldl endF (x.value, x.value)).2), (26, .lst ps.length (encL ps)), (27, .int .i64 ps.length), (28, .int .i64 i)], [], s.g⟩) ps.length ⟨0, by omega, by simp⟩ ?_
    rintro n s ⟨i, hi, hs⟩
    rw [hs]
    have w1 : IntKind.i64.wrap ((i : Int) + 1) = (i : Int) + 1 := wrap64 (by omega) (by omega)
    by_cases h1 : i < ps.length
    case pos =>
      have hrow := rd_piece ps i h1
      have hs2 : (ps.take (i + 1)).foldl endF (x.value, x.value) = endF ((ps.take i).foldl endF (x.value, x.value)) ps[i] := by
        rw [List.take_succ_eq_append_getElem h1, List.foldl_append]
        rfl
      simp -implicitDefEqProofs [h1, hrow, w1]
      exact ⟨n - 1, by omega, i + 1, by omega, by rw [hs2]; rfl, by rw [hs2]; rfl, by omega⟩
    case neg =>
      have hil : i = ps.length := by omega
      subst hil
      simp -implicitDefEqProofs [h1]
theorem c_rBound : Contract Try.prog 88 (sp2 RBound) :=
  contract_of_runs mixed (tbl_cons c_rLeaves tbl_nil) Try.func88 m88 (sp2_runs runs_rBound)
theorem runs_rSum (m : Model) (c : Int) (b : Box) (r : Tri Int Int Bool) (h : BoundS m c b = some r) : Runs (tbl [(86, sp1 RModel), (87, sp1 fun (b : Box) => some b.empty), (88, sp2 RBound)]) a39 [Arg.enc m, Arg.enc c, Arg.enc b] (Arg.enc r) := by
  obtain ⟨⟨hr, hb⟩, rfl⟩ := part_some h
  refine ⟨rfl, fun g => run_def ?_⟩
  unfold a39
  have hM : RModel m = some true := part_of hr _
  by_cases h0 : c < 0
  case pos => simp -implicitDefEqProofs [hM, h0, boundM]
  by_cases h1 : m.classes ≤ c
  case pos => simp -implicitDefEqProofs [hM, h0, h1, boundM]
  cases he : b.empty
  case true => simp -implicitDefEqProofs [hM, h0, h1, he, boundM]
  have hle := hr.trees
  have b3 : m.trees.length ≤ maxN := by unfold maxN; omega
  have c0 : 0 ≤ c := by omega
  have c3 : c < 3 := by have := hr.classes; omega
  have hres : boundM m c b = ⟨(boundP m c b).1, (boundP m c b).2, true⟩ := by unfold boundM; rw [if_neg (by simp [he]; omega)]
  rw [hres]
  simp -implicitDefEqProofs [hM, h0, h1, he, b3, c0, c3]
  refine run_while (c := c39_22) (fun n s => ∃ (i : Nat) (g : Nat → Nat), i + n = m.trees.length ∧ s = ⟨[(1, .int .i64 c), (5, .ptr 5 (g 5) 0), (9, .int .i64 ((m.trees.take i).foldl (boundF c b) (m.bias.get c, m.bias.get c)).1), (10, .int .i64 ((m.trees.take i).foldl (boundF c b) (m.bias.get c, m.bias.get c)).2), (42, .lst m.trees.length (encL m.trees)), (43, .int .i64 m.trees.length), (44, .int .i64 i)],
    [(5, ⟨[.int .i64 b.s0.lo, .int .i64 b.s0.hi, .int .i64 b.s1.lo, .int .i64 b.s1.hi, .int .i64 b.s2.lo, .int .i64 b.s2.hi, .int .i64 b.s3.lo, .int .i64 b.s3.hi, .int .i64 b.s4.lo, .int .i64 b.s4.hi], false, 0⟩)], g⟩) m.trees.length ⟨0, bump 5 (bump 3 g), by omega, by simp⟩ ?_
  rintro n s ⟨i, g, hi, rfl⟩
  by_cases h1 : i < m.trees.length
  case pos =>
    have w1 : IntKind.i64.wrap ((i : Int) + 1) = (i : Int) + 1 := wrap64 (by omega) (by omega)
    have hrow := rd_tree m.trees i h1
    have hrt := hr.rt (List.getElem_mem h1)
    have hV : RBound m.trees[i].nodes b = some (boundT m.trees[i].nodes b) := part_of ⟨⟨_, hrt⟩, hb⟩ _
    have hbd := boundF_le (c := c) he (m.trees.take (i + 1)) (m.bias.get c, m.bias.get c) (fun t ht => ⟨_, hr.rt (List.mem_of_mem_take ht)⟩)
    have hb2 := of_fits (Bias.get_fits hr c)
    have hs : (m.trees.take (i + 1)).foldl (boundF c b) (m.bias.get c, m.bias.get c) = boundF c b ((m.trees.take i).foldl (boundF c b) (m.bias.get c, m.bias.get c)) m.trees[i] := by
      rw [List.take_succ_eq_append_getElem h1, List.foldl_append]
      rfl
    have hl : (m.trees.take (i + 1)).length ≤ 8 := by simp; omega
    simp only at hbd
    by_cases hc : m.trees[i].cls = c
    case pos =>
      have hs1 : ((m.trees.take (i + 1)).foldl (boundF c b) (m.bias.get c, m.bias.get c)).1 = ((m.trees.take i).foldl (boundF c b) (m.bias.get c, m.bias.get c)).1 + (boundT m.trees[i].nodes b).a := by rw [hs, boundF, if_pos hc]
      have hs2 : ((m.trees.take (i + 1)).foldl (boundF c b) (m.bias.get c, m.bias.get c)).2 = ((m.trees.take i).foldl (boundF c b) (m.bias.get c, m.bias.get c)).2 + (boundT m.trees[i].nodes b).b := by rw [hs, boundF, if_pos hc]
      have w2 : IntKind.i64.wrap (((m.trees.take i).foldl (boundF c b) (m.bias.get c, m.bias.get c)).1 + (boundT m.trees[i].nodes b).a) = ((m.trees.take (i + 1)).foldl (boundF c b) (m.bias.get c, m.bias.get c)).1 := by rw [← hs1]; exact wrap64 (by omega) (by omega)
      have w3 : IntKind.i64.wrap (((m.trees.take i).foldl (boundF c b) (m.bias.get c, m.bias.get c)).2 + (boundT m.trees[i].nodes b).b) = ((m.trees.take (i + 1)).foldl (boundF c b) (m.bias.get c, m.bias.get c)).2 := by rw [← hs2]; exact wrap64 (by omega) (by omega)
      simp -implicitDefEqProofs [h1, hrow, hc, hV, w1, w2, w3]
      exact ⟨n - 1, by omega, i + 1, by omega, rfl, rfl, by omega⟩
    case neg =>
      have hs2 : (m.trees.take (i + 1)).foldl (boundF c b) (m.bias.get c, m.bias.get c) = (m.trees.take i).foldl (boundF c b) (m.bias.get c, m.bias.get c) := by rw [hs, boundF, if_neg hc]
      simp -implicitDefEqProofs [h1, hrow, hc, hV, w1]
      exact ⟨n - 1, by omega, i + 1, by omega, by rw [hs2], by rw [hs2], by omega⟩
  case neg =>
    have hil : i = m.trees.length := by omega
    subst hil
    simp -implicitDefEqProofs [h1, boundP]
theorem c_rSum : Contract Try.prog 39 (sp3 BoundS) :=
  contract_of_runs mixed (tbl_cons c_rModel (tbl_cons c_rEmpty (tbl_cons c_rBound tbl_nil))) Try.func39 m39 (sp3_runs runs_rSum)
end Go.Co
/- CO: what breaks a query, by the document. -/
set_option maxHeartbeats 16000000
set_option maxRecDepth 100000
namespace Go.Co
open Go.Am Go.Proofs
set_option linter.unusedSimpArgs false
set_option linter.unusedVariables false
theorem reval_of {m : Model} (h : RM m) {c : Int} (h0 : 0 ≤ c) (h1 : c < m.classes) (p : Point) : REval m c p = some (evalM m c p) := by
  unfold REval
  rw [part_of h, evalX, if_pos ⟨h0, h1⟩]
theorem runs_rBreaks (m : Model) (q : Query) (p : Point) (t : Int) (c : Bool) (h : BreaksC m q p t = some c) :
    Runs (tbl [(79, sp2 RQRight), (84, sp3 REval)]) a37 [Arg.enc m, Arg.enc q, Arg.enc p, Arg.enc t] (Arg.enc c) := by
  obtain ⟨hr, rfl⟩ := part_some h
  clear h
  refine ⟨rfl, fun g => run_def ?_⟩
  unfold a37
  have hM : RQRight m q = some (okQuery m q) := part_of hr _
  cases hq : okQuery m q
  case false => simp -implicitDefEqProofs [hM, hq, breaks]
  have hs := okQuery_spec hq
  have hE := reval_of hr hs.1 hs.2.1 p
  have hc3 := hr.classes
  have hks := okKind_spec hs.2.2.2.2.2
  obtain ⟨kind, cls, region, lo, hi, feature, falls, budget⟩ := q
  simp only at hE hks hs
  rcases hks with ⟨k, _⟩ | ⟨k, k2, _⟩ | ⟨k, f0, f1, _⟩
  · subst k
    by_cases g1 : evalM m cls p < lo
    · have g2 : ¬ lo ≤ evalM m cls p := by omega
      simp -implicitDefEqProofs [hM, hq, breaks, hE, Span.has, g1, g2]
    · have g2 : lo ≤ evalM m cls p := by omega
      by_cases g3 : hi < evalM m cls p
      · have g4 : ¬ evalM m cls p ≤ hi := by omega
        simp -implicitDefEqProofs [hM, hq, breaks, hE, Span.has, g1, g2, g3, g4]
      · have g4 : evalM m cls p ≤ hi := by omega
        simp -implicitDefEqProofs [hM, hq, breaks, hE, Span.has, g1, g2, g3, g4]
  · subst k
    have e0 := reval_of hr (c := 0) (by omega) (by omega) p
    have e1 := reval_of hr (c := 1) (by omega) (by omega) p
    obtain ⟨dim, classes, bias, trees⟩ := m
    simp only at hE hc3 k2 hs
    have hcl : classes = 2 ∨ classes = 3 := by omega
    have hcs : cls = 0 ∨ cls = 1 ∨ cls = 2 := by omega
    have rg2 : List.range 2 = [0, 1] := rfl
    have rg3 : List.range 3 = [0, 1, 2] := rfl
    rcases hcl with rfl | rfl
    · have hcs : cls = 0 ∨ cls = 1 := by omega
      rcases hcs with rfl | rfl
      · by_cases g0 : evalM (⟨dim, 2, bias, trees⟩ : Model) 0 p ≤ evalM (⟨dim, 2, bias, trees⟩ : Model) 1 p <;> simp -implicitDefEqProofs [hM, hq, breaks, e0, e1, g0, run_round, beaten, rg2]
      · by_cases g0 : evalM (⟨dim, 2, bias, trees⟩ : Model) 1 p ≤ evalM (⟨dim, 2, bias, trees⟩ : Model) 0 p <;> simp -implicitDefEqProofs [hM, hq, breaks, e0, e1, g0, run_round, beaten, rg2]
    · have e2 := reval_of hr (c := 2) (by omega) (by simp) p
      rcases hcs with rfl | rfl | rfl
      · by_cases g0 : evalM (⟨dim, 3, bias, trees⟩ : Model) 0 p ≤ evalM (⟨dim, 3, bias, trees⟩ : Model) 1 p <;> by_cases g1 : evalM (⟨dim, 3, bias, trees⟩ : Model) 0 p ≤ evalM (⟨dim, 3, bias, trees⟩ : Model) 2 p <;> simp -implicitDefEqProofs [hM, hq, breaks, e0, e1, e2, g0, g1, run_round, beaten, rg3]
      · by_cases g0 : evalM (⟨dim, 3, bias, trees⟩ : Model) 1 p ≤ evalM (⟨dim, 3, bias, trees⟩ : Model) 0 p <;> by_cases g1 : evalM (⟨dim, 3, bias, trees⟩ : Model) 1 p ≤ evalM (⟨dim, 3, bias, trees⟩ : Model) 2 p <;> simp -implicitDefEqProofs [hM, hq, breaks, e0, e1, e2, g0, g1, run_round, beaten, rg3]
      · by_cases g0 : evalM (⟨dim, 3, bias, trees⟩ : Model) 2 p ≤ evalM (⟨dim, 3, bias, trees⟩ : Model) 0 p <;> by_cases g1 : evalM (⟨dim, 3, bias, trees⟩ : Model) 2 p ≤ evalM (⟨dim, 3, bias, trees⟩ : Model) 1 p <;> simp -implicitDefEqProofs [hM, hq, breaks, e0, e1, e2, g0, g1, run_round, beaten, rg3]
  · subst k
    have f2 : feature < 4 := by have := hr.dim; omega
    have hsec : secondOf ⟨3, cls, region, lo, hi, feature, falls, budget⟩ p t = p.set feature t := by unfold secondOf paired; rw [if_pos (by simp; omega)]
    have hE2 := eval_of hr hs.1 hs.2.1 (p.set feature t)
    have hE2 : REval m cls (p.set feature t) = some (evalM m cls (p.set feature t)) := reval_of hr hs.1 hs.2.1 _
    obtain ⟨Y, hY⟩ : ∃ Y, evalM m cls (p.set feature t) = Y := ⟨_, rfl⟩
    obtain ⟨X, hX⟩ : ∃ X, evalM m cls p = X := ⟨_, rfl⟩
    rw [hY] at hE2
    rw [hX] at hE
    by_cases g1 : t ≤ p.get feature
    · have g2 : ¬ p.get feature < t := by omega
      simp -implicitDefEqProofs [hM, hq, breaks, hE, f0, f2, g1, g2]
    · have g2 : p.get feature < t := by omega
      have hf : feature = 0 ∨ feature = 1 ∨ feature = 2 ∨ feature = 3 := by omega
      rcases hf with rfl | rfl | rfl | rfl <;> simp only [Point.set, Point.get, Int.reduceEq, if_true, if_false, reduceIte] at hE2 hsec hY g1 g2 <;>
        by_cases e1 : X < Y <;> by_cases e2 : Y < X <;> (try (exfalso; omega)) <;> cases falls <;>
        simp -implicitDefEqProofs [hM, hq, breaks, hE, hE2, hsec, hX, hY, g1, g2, e1, e2, Point.get]
theorem c_rBreaks : Contract Try.prog 37 (sp4 BreaksC) :=
  contract_of_runs mixed (tbl_cons c_rRight' (tbl_cons c_rEval tbl_nil)) Try.func37 m37 (sp4_runs runs_rBreaks)
end Go.Co
