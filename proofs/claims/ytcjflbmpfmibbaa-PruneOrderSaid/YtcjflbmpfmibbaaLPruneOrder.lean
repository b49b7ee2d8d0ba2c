/- The law PruneOrder: what its text computes. -/
import Derived.Test.YtcjflbmpfmibbaaCz6
import Derived.Test.YtcjflbmpfmibbaaCz5
import Derived.Test.YtcjflbmpfmibbaaCz7
set_option maxHeartbeats 16000000
set_option maxRecDepth 100000
namespace Go.Co
open Go.Am Go.Proofs
set_option linter.unusedSimpArgs false
set_option linter.unusedVariables false
attribute [-simp] Go.Am.eff_gcall
def c3_0 : ACode := .ops [⟨some 4, .box (.t 0) 5, none, []⟩,⟨some 7, .box (.t 3) 4, none, []⟩,⟨some 8, .mv (.c (.bool false)), none, []⟩] [1, 2, 4, 7]
theorem r3_0 : type_of% (@rr _ _ c3_0.eq_1) := rr rfl
def c3_1 : ACode := .ops [⟨some 16, .load 4 true (.t 7), none, [7]⟩,⟨some 17, .call 15 [.t 16], none, []⟩,⟨some 9, .alloc [.int .i64 0, .int .i64 0, .int .i64 0, .int .i64 0, .int .i64 0, .nils], none, []⟩,⟨none, .store (.t 9) 6 (.t 17), none, [9]⟩] [1, 2, 4, 9]
theorem r3_1 : type_of% (@rr _ _ c3_1.eq_1) := rr rfl
def c3_2 : ACode := .ops [⟨some 18, .load 6 true (.t 9), none, [9]⟩,⟨some 19, .mv (.t 1), none, []⟩,⟨some 20, .call 16 [.t 18, .t 19], none, []⟩,⟨some 10, .alloc [.int .i64 0, .int .i64 0, .int .i64 0, .int .i64 0, .int .i64 0, .int .i64 0, .int .i64 0, .int .i64 0, .int .i64 0, .int .i64 0], none, []⟩,⟨none, .store (.t 10) 10 (.t 20), none, [10]⟩] [2, 4, 9, 10]
theorem r3_2 : type_of% (@rr _ _ c3_2.eq_1) := rr rfl
def c3_3 : ACode := .ops [⟨some 21, .load 5 true (.t 4), none, [4]⟩,⟨some 22, .fad (.t 9) 0, none, [9]⟩,⟨some 23, .load 1 false (.t 22), none, [9]⟩,⟨some 24, .call 18 [.t 21, .t 23], none, []⟩,⟨some 25, .load 10 true (.t 10), none, [10]⟩,⟨some 26, .call 17 [.t 24, .t 25], none, []⟩,⟨some 11, .mv (.t 26), none, []⟩] [2, 4, 9, 10, 11]
theorem r3_3 : type_of% (@rr _ _ c3_3.eq_1) := rr rfl
def c3_4 : ACode := .ops [⟨some 27, .mv (.t 11), none, []⟩,⟨some 28, .fad (.t 9) 0, none, [9]⟩,⟨some 29, .load 1 false (.t 28), none, [9]⟩,⟨some 30, .call 19 [.t 27, .t 29], none, []⟩,⟨some 31, .un .not (.t 30), none, []⟩] [2, 4, 9, 10, 11, 31]
theorem r3_4 : type_of% (@rr _ _ c3_4.eq_1) := rr rfl
def c3_5 : ACode := .ops [⟨some 8, .mv (.c (.bool false)), none, []⟩] [8]
theorem r3_5 : type_of% (@rr _ _ c3_5.eq_1) := rr rfl
def c3_6 : ACode := .seq c3_5 .ret
theorem r3_6 : type_of% (@rr _ _ c3_6.eq_1) := rr rfl
def c3_7 : ACode := .cond (.t 31) c3_6 .skip
theorem r3_7 : type_of% (@rr _ _ c3_7.eq_1) := rr rfl
def c3_8 : ACode := .seq c3_4 c3_7
theorem r3_8 : type_of% (@rr _ _ c3_8.eq_1) := rr rfl
def c3_9 : ACode := .ops [⟨some 12, .mv (.c (.int .i64 0)), none, []⟩] [2, 4, 9, 10, 11, 12]
theorem r3_9 : type_of% (@rr _ _ c3_9.eq_1) := rr rfl
def c3_10 : ACode := .ops [⟨some 13, .nil0 13 1, none, []⟩] [2, 4, 9, 10, 11, 12, 13]
theorem r3_10 : type_of% (@rr _ _ c3_10.eq_1) := rr rfl
def c3_11 : ACode := .ops [⟨some 32, .mv (.t 12), none, []⟩,⟨some 33, .mv (.t 11), none, []⟩,⟨some 34, .len (.t 33), none, []⟩,⟨some 35, .bin .lss (.t 32) (.t 34), none, []⟩] [2, 4, 9, 10, 11, 12, 13, 35]
theorem r3_11 : type_of% (@rr _ _ c3_11.eq_1) := rr rfl
def c3_12 : ACode := .cond (.t 35) .skip (.exit 0)
theorem r3_12 : type_of% (@rr _ _ c3_12.eq_1) := rr rfl
def c3_13 : ACode := .seq c3_11 c3_12
theorem r3_13 : type_of% (@rr _ _ c3_13.eq_1) := rr rfl
def c3_14 : ACode := .ops [⟨some 37, .mv (.t 11), none, []⟩,⟨some 38, .mv (.t 12), none, []⟩,⟨some 39, .ias (.t 37) (.t 38) 1, none, []⟩,⟨some 40, .load 1 false (.t 39), none, []⟩,⟨some 41, .call 20 [.t 40], none, []⟩,⟨some 36, .mv (.t 41), none, []⟩,⟨some 42, .ext (.t 36) 0, none, []⟩,⟨some 43, .ext (.t 36) 1, none, []⟩,⟨some 14, .alloc [.bool false, .int .i64 0, .int .i64 0, .int .i64 0, .int .i64 0, .int .i64 0], none, []⟩,⟨none, .store (.t 14) 6 (.t 42), none, [14]⟩,⟨some 15, .mv (.t 43), none, []⟩] [2, 4, 9, 10, 11, 12, 13, 14]
theorem r3_14 : type_of% (@rr _ _ c3_14.eq_1) := rr rfl
def c3_15 : ACode := .ops [⟨some 44, .fad (.t 14) 0, none, [14]⟩,⟨some 45, .load 1 false (.t 44), none, [14]⟩,⟨some 46, .un .not (.t 45), none, []⟩] [2, 4, 9, 10, 11, 12, 13, 14, 46]
theorem r3_15 : type_of% (@rr _ _ c3_15.eq_1) := rr rfl
def c3_16 : ACode := .ops [⟨some 47, .fad (.t 14) 4, none, [14]⟩,⟨some 48, .load 1 false (.t 47), none, [14]⟩,⟨some 49, .mv (.t 12), none, []⟩,⟨some 50, .bin .add (.t 49) (.c (.int .i64 1)), none, []⟩,⟨some 51, .bin .neq (.t 48) (.t 50), none, []⟩] [2, 4, 9, 10, 11, 12, 13, 14, 51]
theorem r3_16 : type_of% (@rr _ _ c3_16.eq_1) := rr rfl
def c3_17 : ACode := .ops [⟨some 8, .mv (.c (.bool false)), none, []⟩] [8]
theorem r3_17 : type_of% (@rr _ _ c3_17.eq_1) := rr rfl
def c3_18 : ACode := .seq c3_17 .ret
theorem r3_18 : type_of% (@rr _ _ c3_18.eq_1) := rr rfl
def c3_19 : ACode := .cond (.t 51) c3_18 .skip
theorem r3_19 : type_of% (@rr _ _ c3_19.eq_1) := rr rfl
def c3_20 : ACode := .seq c3_16 c3_19
theorem r3_20 : type_of% (@rr _ _ c3_20.eq_1) := rr rfl
def c3_21 : ACode := .ops [⟨some 52, .mv (.t 13), none, []⟩,⟨some 53, .fad (.t 14) 5, none, [14]⟩,⟨some 54, .load 1 false (.t 53), none, [14]⟩,⟨some 55, .mkrow 55 1 1 [.int .i64 0] [(0, 1, .t 54)], none, []⟩,⟨some 56, .app 13 [13] (.t 52) (.t 55) 1, none, [13, 55]⟩,⟨some 13, .mv (.t 56), none, []⟩] [2, 4, 9, 10, 11, 12, 13]
theorem r3_21 : type_of% (@rr _ _ c3_21.eq_1) := rr rfl
def c3_22 : ACode := .seq c3_20 c3_21
theorem r3_22 : type_of% (@rr _ _ c3_22.eq_1) := rr rfl
def c3_23 : ACode := .ops [⟨some 57, .mv (.t 12), none, []⟩,⟨some 58, .bin .add (.t 57) (.c (.int .i64 1)), none, []⟩,⟨some 59, .mv (.t 11), none, []⟩,⟨some 60, .len (.t 59), none, []⟩,⟨some 61, .bin .lss (.t 58) (.t 60), none, []⟩] [2, 4, 9, 10, 11, 12, 13, 61]
theorem r3_23 : type_of% (@rr _ _ c3_23.eq_1) := rr rfl
def c3_24 : ACode := .ops [⟨some 62, .mv (.t 13), none, []⟩,⟨some 63, .len (.t 62), none, [13]⟩,⟨some 64, .bin .eql (.t 63) (.c (.int .i64 0)), none, []⟩,⟨some 65, .mv (.t 64), none, []⟩,⟨some 66, .mv (.t 13), some (65, false), []⟩,⟨some 67, .mv (.t 13), some (65, false), []⟩,⟨some 68, .len (.t 67), some (65, false), [13]⟩,⟨some 69, .bin .sub (.t 68) (.c (.int .i64 1)), some (65, false), []⟩,⟨some 70, .ias (.t 66) (.t 69) 1, some (65, false), [13]⟩,⟨some 71, .load 1 false (.t 70), some (65, false), [13]⟩,⟨some 72, .mv (.t 12), some (65, false), []⟩,⟨some 73, .bin .add (.t 72) (.c (.int .i64 1)), some (65, false), []⟩,⟨some 74, .bin .neq (.t 71) (.t 73), some (65, false), []⟩,⟨some 75, .pick (.t 65) (.c (.bool true)) (.t 74), none, []⟩] [2, 4, 9, 10, 11, 12, 13, 75]
theorem r3_24 : type_of% (@rr _ _ c3_24.eq_1) := rr rfl
def c3_25 : ACode := .ops [⟨some 8, .mv (.c (.bool false)), none, []⟩] [8]
theorem r3_25 : type_of% (@rr _ _ c3_25.eq_1) := rr rfl
def c3_26 : ACode := .seq c3_25 .ret
theorem r3_26 : type_of% (@rr _ _ c3_26.eq_1) := rr rfl
def c3_27 : ACode := .cond (.t 75) c3_26 .skip
theorem r3_27 : type_of% (@rr _ _ c3_27.eq_1) := rr rfl
def c3_28 : ACode := .seq c3_24 c3_27
theorem r3_28 : type_of% (@rr _ _ c3_28.eq_1) := rr rfl
def c3_29 : ACode := .ops [⟨some 76, .mv (.t 13), none, []⟩,⟨some 77, .mv (.t 13), none, []⟩,⟨some 78, .len (.t 77), none, [13]⟩,⟨some 79, .bin .sub (.t 78) (.c (.int .i64 1)), none, []⟩,⟨some 80, .sl (.t 76) none (some (.t 79)) 1, none, [13]⟩,⟨some 13, .mv (.t 80), none, []⟩] [2, 4, 9, 10, 11, 12, 13]
theorem r3_29 : type_of% (@rr _ _ c3_29.eq_1) := rr rfl
def c3_30 : ACode := .seq c3_28 c3_29
theorem r3_30 : type_of% (@rr _ _ c3_30.eq_1) := rr rfl
def c3_31 : ACode := .cond (.t 61) c3_30 .skip
theorem r3_31 : type_of% (@rr _ _ c3_31.eq_1) := rr rfl
def c3_32 : ACode := .seq c3_23 c3_31
theorem r3_32 : type_of% (@rr _ _ c3_32.eq_1) := rr rfl
def c3_33 : ACode := .cond (.t 46) c3_22 c3_32
theorem r3_33 : type_of% (@rr _ _ c3_33.eq_1) := rr rfl
def c3_34 : ACode := .seq c3_15 c3_33
theorem r3_34 : type_of% (@rr _ _ c3_34.eq_1) := rr rfl
def c3_35 : ACode := .ops [⟨some 81, .mv (.t 12), none, []⟩,⟨some 82, .bin .add (.t 81) (.c (.int .i64 1)), none, []⟩,⟨some 12, .mv (.t 82), none, []⟩] [2, 4, 9, 10, 11, 12, 13]
theorem r3_35 : type_of% (@rr _ _ c3_35.eq_1) := rr rfl
def c3_36 : ACode := .seq c3_34 c3_35
theorem r3_36 : type_of% (@rr _ _ c3_36.eq_1) := rr rfl
def c3_37 : ACode := .seq c3_14 c3_36
theorem r3_37 : type_of% (@rr _ _ c3_37.eq_1) := rr rfl
def c3_38 : ACode := .block 1 c3_37
theorem r3_38 : type_of% (@rr _ _ c3_38.eq_1) := rr rfl
def c3_39 : ACode := .seq c3_13 c3_38
theorem r3_39 : type_of% (@rr _ _ c3_39.eq_1) := rr rfl
def c3_40 : ACode := .keep [2, 4, 9, 10, 11, 12, 13] [4, 9, 10, 13] c3_39
theorem r3_40 : type_of% (@rr _ _ c3_40.eq_1) := rr rfl
def c3_41 : ACode := .loop c3_40
theorem r3_41 : type_of% (@rr _ _ c3_41.eq_1) := rr rfl
def c3_42 : ACode := .block 0 c3_41
theorem r3_42 : type_of% (@rr _ _ c3_42.eq_1) := rr rfl
def c3_43 : ACode := .ops [⟨some 83, .mv (.t 2), none, []⟩,⟨some 84, .mv (.t 2), none, []⟩,⟨some 85, .len (.t 84), none, []⟩,⟨some 86, .mnmx false (.t 85) (.c (.int .i64 33)), none, []⟩,⟨some 87, .sl (.t 83) none (some (.t 86)) 1, none, []⟩,⟨some 2, .mv (.t 87), none, []⟩] [2, 4, 9, 10, 13]
theorem r3_43 : type_of% (@rr _ _ c3_43.eq_1) := rr rfl
def c3_44 : ACode := .ops [⟨some 88, .build [.int .i64 0, .int .i64 0] [(0, 1, .c (.int .i64 1))], none, []⟩,⟨some 89, .iad (.t 10) (.c (.int .i64 0)) 2 5, none, [10]⟩,⟨none, .store (.t 89) 2 (.t 88), none, [10]⟩] [2, 4, 9, 10, 13]
theorem r3_44 : type_of% (@rr _ _ c3_44.eq_1) := rr rfl
def c3_45 : ACode := .ops [⟨some 90, .mv (.t 2), none, []⟩,⟨some 91, .call 19 [.t 90, .c (.int .i64 4)], none, []⟩,⟨some 92, .un .not (.t 91), none, []⟩,⟨some 93, .mv (.t 92), none, []⟩,⟨some 94, .mv (.t 2), some (93, true), []⟩,⟨some 95, .build [.int .i64 0, .int .i64 0, .int .i64 0, .int .i64 0, .int .i64 0, .int .i64 0, .int .i64 0, .int .i64 0, .int .i64 0, .int .i64 0] [], some (93, true), []⟩,⟨some 96, .call 17 [.t 94, .t 95], some (93, true), []⟩,⟨some 97, .len (.t 96), some (93, true), []⟩,⟨some 98, .bin .neq (.t 97) (.c (.int .i64 0)), some (93, true), []⟩,⟨some 99, .pick (.t 93) (.t 98) (.c (.bool false)), none, []⟩] [4, 9, 10, 13, 99]
theorem r3_45 : type_of% (@rr _ _ c3_45.eq_1) := rr rfl
def c3_46 : ACode := .ops [⟨some 8, .mv (.c (.bool false)), none, []⟩] [8]
theorem r3_46 : type_of% (@rr _ _ c3_46.eq_1) := rr rfl
def c3_47 : ACode := .seq c3_46 .ret
theorem r3_47 : type_of% (@rr _ _ c3_47.eq_1) := rr rfl
def c3_48 : ACode := .cond (.t 99) c3_47 .skip
theorem r3_48 : type_of% (@rr _ _ c3_48.eq_1) := rr rfl
def c3_49 : ACode := .seq c3_45 c3_48
theorem r3_49 : type_of% (@rr _ _ c3_49.eq_1) := rr rfl
def c3_50 : ACode := .ops [⟨some 100, .mv (.t 13), none, []⟩,⟨some 101, .len (.t 100), none, [13]⟩,⟨some 102, .bin .eql (.t 101) (.c (.int .i64 0)), none, []⟩,⟨some 103, .mv (.t 102), none, []⟩,⟨some 104, .load 5 true (.t 4), some (103, true), [4]⟩,⟨some 105, .fad (.t 9) 0, some (103, true), [9]⟩,⟨some 106, .load 1 false (.t 105), some (103, true), [9]⟩,⟨some 107, .call 18 [.t 104, .t 106], some (103, true), []⟩,⟨some 108, .load 10 true (.t 10), some (103, true), [10]⟩,⟨some 109, .call 17 [.t 107, .t 108], some (103, true), []⟩,⟨some 110, .len (.t 109), some (103, true), []⟩,⟨some 111, .bin .eql (.t 110) (.c (.int .i64 0)), some (103, true), []⟩,⟨some 112, .pick (.t 103) (.t 111) (.c (.bool false)), none, []⟩,⟨some 113, .mv (.t 112), none, []⟩,⟨some 114, .load 6 true (.t 9), some (113, true), [9]⟩,⟨some 115, .load 10 true (.t 10), some (113, true), [10]⟩,⟨some 116, .call 22 [.t 114, .t 115], some (113, true), []⟩,⟨some 117, .build [.int .i64 0, .int .i64 0, .int .i64 0, .int .i64 0, .int .i64 0, .nils] [], some (113, true), []⟩,⟨some 118, .call 21 [.t 116, .t 117], some (113, true), []⟩,⟨some 119, .pick (.t 113) (.t 118) (.c (.bool false)), none, []⟩,⟨some 120, .mv (.t 119), none, []⟩,⟨some 121, .call 23 [], some (120, true), []⟩,⟨some 122, .pick (.t 120) (.t 121) (.c (.bool false)), none, []⟩,⟨some 8, .mv (.t 122), none, []⟩] [8]
theorem r3_50 : type_of% (@rr _ _ c3_50.eq_1) := rr rfl
def c3_51 : ACode := .seq c3_50 .ret
theorem r3_51 : type_of% (@rr _ _ c3_51.eq_1) := rr rfl
def c3_52 : ACode := .seq c3_49 c3_51
theorem r3_52 : type_of% (@rr _ _ c3_52.eq_1) := rr rfl
def c3_53 : ACode := .seq c3_44 c3_52
theorem r3_53 : type_of% (@rr _ _ c3_53.eq_1) := rr rfl
def c3_54 : ACode := .seq c3_43 c3_53
theorem r3_54 : type_of% (@rr _ _ c3_54.eq_1) := rr rfl
def c3_55 : ACode := .seq c3_42 c3_54
theorem r3_55 : type_of% (@rr _ _ c3_55.eq_1) := rr rfl
def c3_56 : ACode := .seq c3_10 c3_55
theorem r3_56 : type_of% (@rr _ _ c3_56.eq_1) := rr rfl
def c3_57 : ACode := .seq c3_9 c3_56
theorem r3_57 : type_of% (@rr _ _ c3_57.eq_1) := rr rfl
def c3_58 : ACode := .seq c3_8 c3_57
theorem r3_58 : type_of% (@rr _ _ c3_58.eq_1) := rr rfl
def c3_59 : ACode := .seq c3_3 c3_58
theorem r3_59 : type_of% (@rr _ _ c3_59.eq_1) := rr rfl
def c3_60 : ACode := .seq c3_2 c3_59
theorem r3_60 : type_of% (@rr _ _ c3_60.eq_1) := rr rfl
def c3_61 : ACode := .seq c3_1 c3_60
theorem r3_61 : type_of% (@rr _ _ c3_61.eq_1) := rr rfl
def c3_62 : ACode := .seq c3_0 c3_61
theorem r3_62 : type_of% (@rr _ _ c3_62.eq_1) := rr rfl
def a3 : AFun := ⟨4, 123, c3_62, [.t 8]⟩
attribute [simp] r3_0 r3_1 r3_2 r3_3 r3_4 r3_5 r3_6 r3_7 r3_8 r3_9 r3_10 r3_11 r3_12 r3_13 r3_14 r3_15 r3_16 r3_17 r3_18 r3_19 r3_20 r3_21 r3_22 r3_23 r3_24 r3_25 r3_26 r3_27 r3_28 r3_29 r3_30 r3_31 r3_32 r3_33 r3_34 r3_35 r3_36 r3_37 r3_38 r3_39 r3_40 r3_41 r3_42 r3_43 r3_44 r3_45 r3_46 r3_47 r3_48 r3_49 r3_50 r3_51 r3_52 r3_53 r3_54 r3_55 r3_56 r3_57 r3_58 r3_59 r3_60 r3_61 r3_62
theorem m3 : mFun Try.prog Try.f3 a3 = true := by decide +kernel
def c23_0 : ACode := .ops [⟨some 0, .mv (.c (.bool false)), none, []⟩] []
def c23_1 : ACode := .ops [⟨some 4, .call 74 [], none, []⟩,⟨some 1, .alloc [.int .i64 0, .int .i64 0, .int .i64 0, .int .i64 0, .int .i64 0, .nils], none, []⟩,⟨none, .store (.t 1) 6 (.t 4), none, [1]⟩] [1]
def c23_2 : ACode := .ops [⟨some 5, .load 6 true (.t 1), none, [1]⟩,⟨some 6, .build [.int .i64 0, .int .i64 0] [(0, 1, .c (.int .i64 6)), (1, 1, .c (.int .i64 9))], none, []⟩,⟨some 7, .build [.int .i64 0, .int .i64 0, .int .i64 0, .int .i64 0, .int .i64 0, .int .i64 0, .int .i64 0, .int .i64 0, .int .i64 0, .int .i64 0] [(0, 2, .t 6)], none, []⟩,⟨some 8, .call 22 [.t 5, .t 7], none, []⟩,⟨some 2, .alloc [.int .i64 0, .int .i64 0, .int .i64 0, .int .i64 0, .int .i64 0, .nils], none, []⟩,⟨none, .store (.t 2) 6 (.t 8), none, [2]⟩] [1, 2]
def c23_3 : ACode := .ops [⟨some 9, .load 6 true (.t 1), none, [1]⟩,⟨some 10, .build [.int .i64 0, .int .i64 0] [(0, 1, .c (.int .i64 0)), (1, 1, .c (.int .i64 9))], none, []⟩,⟨some 11, .build [.int .i64 0, .int .i64 0, .int .i64 0, .int .i64 0, .int .i64 0, .int .i64 0, .int .i64 0, .int .i64 0, .int .i64 0, .int .i64 0] [(0, 2, .t 10)], none, []⟩,⟨some 12, .call 22 [.t 9, .t 11], none, []⟩,⟨some 3, .alloc [.int .i64 0, .int .i64 0, .int .i64 0, .int .i64 0, .int .i64 0, .nils], none, []⟩,⟨none, .store (.t 3) 6 (.t 12), none, [3]⟩] [1, 2, 3]
def c23_4 : ACode := .ops [⟨some 13, .load 6 true (.t 2), none, [2]⟩,⟨some 14, .call 27 [.t 13], none, []⟩,⟨some 15, .mv (.t 14), none, []⟩,⟨some 16, .load 6 true (.t 2), some (15, true), [2]⟩,⟨some 17, .call 25 [.t 16], some (15, true), []⟩,⟨some 18, .bin .eql (.t 17) (.c (.int .i64 1)), some (15, true), []⟩,⟨some 19, .pick (.t 15) (.t 18) (.c (.bool false)), none, []⟩,⟨some 20, .mv (.t 19), none, []⟩,⟨some 21, .load 6 true (.t 2), some (20, true), [2]⟩,⟨some 22, .build [.int .i64 0, .int .i64 0, .int .i64 0, .int .i64 0] [], some (20, true), []⟩,⟨some 23, .call 28 [.t 21, .c (.int .i64 0), .t 22], some (20, true), []⟩,⟨some 24, .bin .eql (.t 23) (.c (.int .i64 23)), some (20, true), []⟩,⟨some 25, .pick (.t 20) (.t 24) (.c (.bool false)), none, []⟩,⟨some 26, .mv (.t 25), none, []⟩,⟨some 27, .load 6 true (.t 3), some (26, true), [3]⟩,⟨some 28, .load 6 true (.t 1), some (26, true), [1]⟩,⟨some 29, .call 21 [.t 27, .t 28], some (26, true), []⟩,⟨some 30, .pick (.t 26) (.t 29) (.c (.bool false)), none, []⟩,⟨some 0, .mv (.t 30), none, []⟩] [0]
def c23_5 : ACode := .seq c23_4 .ret
def c23_6 : ACode := .seq c23_3 c23_5
def c23_7 : ACode := .seq c23_2 c23_6
def c23_8 : ACode := .seq c23_1 c23_7
def c23_9 : ACode := .seq c23_0 c23_8
def a23 : AFun := ⟨0, 31, c23_9, [.t 0]⟩
theorem m23 : mFun Try.prog Try.f23 a23 = true := by decide +kernel
def c74_0 : ACode := .ops [⟨some 0, .alloc [.int .i64 0, .int .i64 0, .int .i64 0, .int .i64 0, .int .i64 0, .nils], none, []⟩] [0]
def c74_1 : ACode := .ops [⟨some 2, .build [.bool false, .int .i64 0, .int .i64 0, .int .i64 0, .int .i64 0, .int .i64 0] [(3, 1, .c (.int .i64 5)), (4, 1, .c (.int .i64 1)), (5, 1, .c (.int .i64 2))], none, []⟩,⟨some 3, .call 68 [.t 2], none, []⟩,⟨some 4, .build [.bool false, .int .i64 0, .int .i64 0, .int .i64 0, .int .i64 0, .int .i64 0] [(0, 1, .c (.bool true)), (1, 1, .c (.int .i64 10))], none, []⟩,⟨some 5, .call 68 [.t 4], none, []⟩,⟨some 6, .build [.bool false, .int .i64 0, .int .i64 0, .int .i64 0, .int .i64 0, .int .i64 0] [(0, 1, .c (.bool true)), (1, 1, .c (.int .i64 20))], none, []⟩,⟨some 7, .call 68 [.t 6], none, []⟩,⟨some 8, .mkrow 1 3 1 [.int .u64 0] [(0, 1, .t 3), (1, 1, .t 5), (2, 1, .t 7)], none, []⟩,⟨some 1, .mv (.t 8), none, []⟩] [0, 1]
def c74_2 : ACode := .ops [⟨some 9, .build [.int .i64 0, .int .i64 0, .int .i64 0] [(0, 1, .c (.int .i64 3))], none, []⟩,⟨some 10, .mv (.t 1), none, []⟩,⟨some 11, .build [.int .i64 0, .nils] [(1, 1, .t 10)], none, []⟩,⟨some 12, .mkrow 12 1 2 [.int .i64 0, .nils] [(0, 2, .t 11)], none, []⟩,⟨some 13, .build [.int .i64 0, .int .i64 0, .int .i64 0, .int .i64 0, .int .i64 0, .nils] [(0, 1, .c (.int .i64 1)), (1, 1, .c (.int .i64 1)), (2, 3, .t 9), (5, 1, .t 12)], none, []⟩,⟨none, .store (.t 0) 6 (.t 13), none, [0]⟩] [0]
def c74_3 : ACode := .seq c74_2 .ret
def c74_4 : ACode := .seq c74_1 c74_3
def c74_5 : ACode := .seq c74_0 c74_4
def a74 : AFun := ⟨0, 14, c74_5, [.cell 0 6 true]⟩
theorem m74 : mFun Try.prog Try.f74 a74 = true := by decide +kernel
def texts23 : List (Nat × AFun) := [(17, a17), (19, a19), (20, a20), (21, a21), (22, a22), (23, a23), (25, a25), (27, a27), (28, a28), (58, a58), (66, a66), (67, a67), (68, a68), (69, a69), (70, a70), (71, a71), (72, a72), (73, a73), (74, a74), (75, a75), (76, a76), (77, a77), (78, a78), (110, a110), (117, a117), (118, a118), (119, a119), (120, a120), (121, a121), (122, a122), (123, a123), (124, a124), (125, a125), (126, a126), (143, a143), (144, a144), (146, a146), (147, a147)]
theorem texts23_good : Go.Am.Good Try.prog texts23 :=
  good_cons Try.func17 m17 <| good_cons Try.func19 m19 <| good_cons Try.func20 m20 <| good_cons Try.func21 m21 <| good_cons Try.func22 m22 <| good_cons Try.func23 m23 <| good_cons Try.func25 m25 <| good_cons Try.func27 m27 <| good_cons Try.func28 m28 <| good_cons Try.func58 m58 <| good_cons Try.func66 m66 <| good_cons Try.func67 m67 <| good_cons Try.func68 m68 <| good_cons Try.func69 m69 <| good_cons Try.func70 m70 <| good_cons Try.func71 m71 <| good_cons Try.func72 m72 <| good_cons Try.func73 m73 <| good_cons Try.func74 m74 <| good_cons Try.func75 m75 <| good_cons Try.func76 m76 <| good_cons Try.func77 m77 <| good_cons Try.func78 m78 <| good_cons Try.func110 m110 <| good_cons Try.func117 m117 <| good_cons Try.func118 m118 <| good_cons Try.func119 m119 <| good_cons Try.func120 m120 <| good_cons Try.func121 m121 <| good_cons Try.func122 m122 <| good_cons Try.func123 m123 <| good_cons Try.func124 m124 <| good_cons Try.func125 m125 <| good_cons Try.func126 m126 <| good_cons Try.func143 m143 <| good_cons Try.func144 m144 <| good_cons Try.func146 m146 <| good_cons Try.func147 m147 <| good_nil
theorem c_closed23 : Contract Try.prog 23 (sp0 (some true)) := contract_closedG mixed texts23_good lib0 (NW := fun f => if f = 43 then some 5 else if f = 67 then some 10001 else none) (m := 2000) (n := 80) (by decide +kernel)
theorem reg_facts (dim : Int) (l : List Int) : smallB (regionOf dim l) ∧ okB (regionOf dim l) ∧ (regionOf dim l).empty = false ∧ (regionOf dim l).s4 = ⟨0, 0⟩ := by
  have h0 := rSpan_le dim l 0
  have h1 := rSpan_le dim l 1
  have h2 := rSpan_le dim l 2
  have h3 := rSpan_le dim l 3
  unfold smallB small okB okS64 ok64 Box.empty Span.empty regionOf
  simp only [Bool.or_eq_false_iff, decide_eq_false_iff_not]
  refine ⟨?_, ?_, ?_, ?_⟩ <;> first | trivial | omega | (simp; done)
def serL : List PT → Nat → List Node
  | [], _ => []
  | p :: ps, o => p.ser o ++ serL ps (o + p.size)
def begs : List PT → Nat → List Int
  | [], _ => []
  | p :: ps, o => ((o : Nat) : Int) :: begs ps (o + p.size)
def openL : List PT → Nat → List Int
  | [], _ => []
  | p :: ps, o => (begs ps (o + p.size)).reverse
theorem serL_len : ∀ (ps : List PT) (o : Nat), (serL ps o).length = (ps.map PT.size).sum
  | [], _ => rfl
  | p :: ps, o => by simp [serL, ser_len, serL_len ps]
theorem openL_node (f c : Int) (l r : PT) (ps : List PT) (o : Nat) : openL (l :: r :: ps) (o + 1) = openL (.node f c l r :: ps) o ++ [((o + 1 + l.size : Nat) : Int)] := by
  have e : o + 1 + l.size + r.size = o + (PT.node f c l r).size := by simp only [PT.size]; omega
  simp only [openL, begs, List.reverse_cons, e]
theorem openL_leaf (n : Node) (p : PT) (ps : List PT) (o : Nat) : openL (.leaf n :: p :: ps) o = openL (p :: ps) (o + 1) ++ [((o + 1 : Nat) : Int)] := by
  simp only [openL, begs, PT.size, List.reverse_cons]
theorem serL_node (f c : Int) (l r : PT) (ps : List PT) (o : Nat) : serL (.node f c l r :: ps) o = ⟨false, 0, f, c, ((o + 1 : Nat) : Int), ((o + 1 + l.size : Nat) : Int)⟩ :: serL (l :: r :: ps) (o + 1) := by
  have e : o + 1 + l.size + r.size = o + (PT.node f c l r).size := by simp only [PT.size]; omega
  simp only [serL, PT.ser, List.cons_append, List.append_assoc, e]
theorem serL_leaf (n : Node) (ps : List PT) (o : Nat) : serL (.leaf n :: ps) o = n :: serL ps (o + 1) := by
  simp only [serL, PT.ser, PT.size, List.cons_append, List.nil_append]
theorem begs_len : ∀ (ps : List PT) (o : Nat), (begs ps o).length = ps.length
  | [], _ => rfl
  | p :: ps, o => by simp [begs, begs_len ps]
theorem openL_len (ps : List PT) (o : Nat) : (openL ps o).length = ps.length - 1 := by
  cases ps with
  | nil => rfl
  | cons p ps => simp [openL, begs_len]
theorem serL_pos (p : PT) (ps : List PT) (o : Nat) : 0 < (serL (p :: ps) o).length := by
  have := p.pos
  rw [serL_len]
  simp
  omega
noncomputable abbrev poT : Cs := tbl [(15, sp1 ModelC), (16, sp2 RegionC), (18, sp2 NodesC), (17, sp2 PruneC), (19, sp2 TreeRightT), (20, sp1 Unpack), (22, sp2 PrModelC), (21, sp2 ModelsC), (23, sp0 (some true))]
theorem zero_box (b : Box) : (⟨⟨1, 0⟩, b.s1, b.s2, b.s3, b.s4⟩ : Box).empty = true := by
  unfold Box.empty
  have : (⟨1, 0⟩ : Span).empty = true := rfl
  rw [this]
  rfl
theorem okL_take {l : List Word} (h : okL l) (n : Nat) : okL (l.take n) := fun w hw => h w (List.mem_of_mem_take hw)
theorem run_poEnd (m : Model) (hm : RM m) (t : KTree) (l : List Word) (hl : okL l) (b : Box) (hb : okB b) (h : Hp) (g : Nat → Nat) (G : List AV)
    (h4 : hlook h 4 = some ⟨Row.enc t, false, 0⟩) (h9 : hlook h 9 = some ⟨Row.enc m, false, 0⟩) (h10 : hlook h 10 = some ⟨Row.enc b, false, 0⟩) (h13 : hlook h 13 = some ⟨G, false, 1⟩) (e : Env)
    (he : Go.Am.look e 2 = .lst l.length (encL l) ∧ Go.Am.look e 4 = .ptr 4 (g 4) 0 ∧ Go.Am.look e 9 = .ptr 9 (g 9) 0 ∧ Go.Am.look e 10 = .ptr 10 (g 10) 0 ∧ Go.Am.look e 13 = .own 13 (g 13) 0 0) :
    run poT c3_54 [] ⟨e, h, g⟩ (fin a3.res (.bool true)) := by
  unfold a3
  obtain ⟨t2, t4, t9, t10, t13⟩ := he
  have hbe := zero_box b
  have hbo : okB ⟨⟨1, 0⟩, b.s1, b.s2, b.s3, b.s4⟩ := ⟨by unfold okS64 ok64; simp, hb.2⟩
  have hzo : okB ⟨⟨0, 0⟩, ⟨0, 0⟩, ⟨0, 0⟩, ⟨0, 0⟩, ⟨0, 0⟩⟩ := by unfold okB okS64 ok64; simp
  have hN : NodesC t m.dim = some (treeNodes t m.dim) := part_of hm.dim _
  have hr := rt_treeNodes t m.dim hm.dim.1 hm.dim.2
  have hP : PruneC (treeNodes t m.dim) ⟨⟨1, 0⟩, b.s1, b.s2, b.s3, b.s4⟩ = some [] := by
    unfold PruneC
    rw [part_of ⟨okL_of hr, fun _ => hbo⟩, hbe]
    simp
  have hM : PrModelC m ⟨⟨1, 0⟩, b.s1, b.s2, b.s3, b.s4⟩ = some ⟨0, 0, ⟨0, 0, 0⟩, []⟩ := by
    unfold PrModelC
    rw [part_of ⟨hm, hbo⟩, hbe]
    rfl
  have hE : ModelsC ⟨0, 0, ⟨0, 0, 0⟩, []⟩ ⟨0, 0, ⟨0, 0, 0⟩, []⟩ = some true := part_of ⟨rfl, by simp⟩ _
  have hDm : (Arg.dec (.agg [.int .i64 0, .int .i64 0, .int .i64 0, .int .i64 0, .int .i64 0, .lst 0 []]) : Option Model) = some ⟨0, 0, ⟨0, 0, 0⟩, []⟩ := rfl
  have hDt : (Arg.dec (Arg.enc t) : Option KTree) = some t := Arg.dec_enc t
  generalize treeNodes t m.dim = tn at *
  by_cases b1 : l.length ≤ maxN
  case neg => simp -implicitDefEqProofs [t2, b1]
  have hT : ∀ x : List Word, okL x → x.length ≤ maxN → TreeRightT x 4 = some (rightT x 4) := fun x h1 h2 => part_of ⟨h1, h2⟩ _
  have hQ : ∀ x : List Word, okL x → x.length ≤ maxN → rightT x 4 = false → PruneC x ⟨⟨0, 0⟩, ⟨0, 0⟩, ⟨0, 0⟩, ⟨0, 0⟩, ⟨0, 0⟩⟩ = some [] := fun x h1 h2 h3 => by
    unfold PruneC
    rw [part_of ⟨⟨h1, h2⟩, fun _ => hzo⟩, h3]
    rfl
  have ht33 : List.take 33 (encL l) = encL (l.take 33) := encL_take l 33
  have htal : List.take l.length (encL l) = encL l := by
    have : (encL l).length = l.length := by have := encL_length l; simpa using this
    rw [← this, List.take_length]
  by_cases h33 : (33 : Int) < l.length
  · have c33 : (33 : Int) ≤ l.length := by omega
    have hlen : (l.take 33).length = 33 := by rw [List.length_take]; omega
    have hT1 := hT (l.take 33) (okL_take hl 33) (by rw [hlen]; unfold maxN; omega)
    have hQ1 := hQ (l.take 33) (okL_take hl 33) (by rw [hlen]; unfold maxN; omega)
    have hD : (Arg.dec (.lst 33 (encL (l.take 33))) : Option (List Word)) = some (l.take 33) := by have := dec_lst (l.take 33); rw [hlen] at this; exact this
    generalize l.take 33 = l' at *
    cases hrt : rightT l' 4
    · rw [hrt] at hT1
      have hQ1 := hQ1 hrt
      simp -implicitDefEqProofs [hlook_hput, hlook_frzAll, h4, h9, h10, h13, t2, t4, t9, t10, t13, b1, h33, c33, ht33, hT1, hQ1, hD, hN, hP, hM, hE, hDm, encL_nil]
    · rw [hrt] at hT1
      simp -implicitDefEqProofs [hlook_hput, hlook_frzAll, h4, h9, h10, h13, t2, t4, t9, t10, t13, b1, h33, c33, ht33, hT1, hD, hN, hP, hM, hE, hDm, encL_nil]
  · have hT1 := hT l hl b1
    have hQ1 := hQ l hl b1
    cases hrt : rightT l 4
    · rw [hrt] at hT1
      have hQ1 := hQ1 hrt
      simp -implicitDefEqProofs [hlook_hput, hlook_frzAll, h4, h9, h10, h13, t2, t4, t9, t10, t13, b1, h33, htal, hT1, hQ1, hN, hP, hM, hE, hDm, encL_nil]
    · rw [hrt] at hT1
      simp -implicitDefEqProofs [hlook_hput, hlook_frzAll, h4, h9, h10, h13, t2, t4, t9, t10, t13, b1, h33, htal, hT1, hN, hP, hM, hE, hDm, encL_nil]
theorem rd_topI (O : List Int) (v : Int) (G : List AV) : rd (encL O ++ (.int .i64 v :: G)) O.length 1 false = some (.int .i64 v) := by
  have h1 : (encL O).length = O.length := by have := encL_length O; simpa using this
  have := rd_ints (O ++ [v]) O.length (by simp)
  unfold rd at this ⊢
  simp [h1, encL_append, encL_cons] at this ⊢
theorem take_openG (O : List Int) (G : List AV) : List.take O.length (encL O ++ G) = encL O := by
  have h1 : (encL O).length = O.length := by have := encL_length O; simpa using this
  rw [← h1, List.take_left]
theorem len_openG (O : List Int) (G : List AV) : O.length ≤ (encL O).length + G.length := by
  have h1 : (encL O).length = O.length := by have := encL_length O; simpa using this
  omega
theorem serL_ge : ∀ (ps : List PT) (o : Nat), ps.length ≤ (serL ps o).length
  | [], _ => Nat.le_refl _
  | p :: ps, o => by
    have h1 := p.pos
    have h2 := serL_ge ps (o + p.size)
    simp only [serL, List.length_cons, List.length_append, ser_len]
    omega
theorem step_node {dim : Int} {P : PT} (hok : P.ok dim) (hs : P.size ≤ 31) {i : Nat} {d : Node} {rest : List Node} (h : (P.ser 0).drop i = d :: rest) (x : List Word) (hx : x = (P.ser 0).map pack) :
    ∃ hi : i < x.length, Unpack ⟨x[i].v⟩ = some (d, true) ∧ (P.ser 0).drop (i + 1) = rest := by
  subst hx
  have hi : i < (P.ser 0).length := by
    have := congrArg List.length h
    simp at this
    omega
  have hd : (P.ser 0)[i] = d := by
    rw [List.drop_eq_getElem_cons hi] at h
    exact (List.cons.inj h).1
  have hr : RT ((P.ser 0).map pack) dim := (ser_nt hok hs).words
  refine ⟨by simpa using hi, ?_, ?_⟩
  · have hU := unpack_at hr (i := i) (by simpa using hi)
    rw [hU, ndAt_lt (by simpa using hi), List.getElem_map, hd, nd_pack d (by rw [← hd]; exact ser_right P 0 hok (by omega) _ (List.getElem_mem hi))]
  · rw [List.drop_eq_getElem_cons hi] at h
    exact (List.cons.inj h).2
theorem runs_law (t : KTree) (spans : List Int) (l : List Word) (f : Forest) (c : Bool) (h : Part (okL l) true = some c) : Runs poT a3 [Arg.enc t, Arg.enc spans, Arg.enc l, Arg.enc f] (Arg.enc c) := by
  obtain ⟨hl, rfl⟩ := part_some h
  clear h
  refine ⟨rfl, fun g => run_def ?_⟩
  have hm := rm_modelOf f
  have hM : ModelC f = some (modelOf f) := rfl
  generalize modelOf f = m at *
  have hR : RegionC m spans = some (regionOf m.dim spans) := part_of hm.dim _
  obtain ⟨hsm, hbok, hbe, _⟩ := reg_facts m.dim spans
  generalize regionOf m.dim spans = b at *
  have hN : NodesC t m.dim = some (treeNodes t m.dim) := part_of hm.dim _
  have hr := rt_treeNodes t m.dim hm.dim.1 hm.dim.2
  have hP : PruneC (treeNodes t m.dim) b = some (pruneT (treeNodes t m.dim) b) := by
    unfold PruneC
    rw [part_of ⟨okL_of hr, fun _ => hbok⟩, rightT_true.2 hr.four, hbe]
    rfl
  have hxr := pruneT_right hr b
  have hT : TreeRightT (pruneT (treeNodes t m.dim) b) m.dim = some true := by
    unfold TreeRightT
    rw [part_of (okL_of hxr), rightT_true.2 hxr]
  have hx := pruneT_eq hr b
  have hPo : (prT' (treeNodes t m.dim) b).ok m.dim := prPT_ok hr 31 0 b hr.pos (by have := hr.le; omega)
  have hPs := Nat.le_trans (prT_size hr b) hr.le
  generalize prT' (treeNodes t m.dim) b = P at *
  generalize pruneT (treeNodes t m.dim) b = x at *
  generalize treeNodes t m.dim = tn at *
  have hxl : x.length = P.size := by rw [hx, List.length_map, ser_len]
  have b1 : x.length ≤ maxN := by unfold maxN; omega
  have hend := fun h g G => run_poEnd m hm t l hl b hbok h g G
  unfold a3 at hend ⊢
  simp -implicitDefEqProofs [hM, hR, hN, hP, hT, -r3_54]
  refine run_while (c := c3_39) (fun n s => ∃ (i : Nat) (ts : List PT) (G : List AV) (g : Nat → Nat), i + n = x.length ∧ (P.ser 0).drop i = serL ts i ∧ (∀ p ∈ ts, p.ok m.dim) ∧ s = ⟨[(2, .lst l.length (encL l)), (4, .ptr 4 (g 4) 0), (9, .ptr 9 (g 9) 0), (10, .ptr 10 (g 10) 0), (11, .lst x.length (encL x)), (12, .int .i64 i), (13, .own 13 (g 13) 0 (openL ts i).length)],
    [(4, ⟨Row.enc t, false, 0⟩), (9, ⟨Row.enc m, false, 0⟩), (10, ⟨Row.enc b, false, 0⟩), (13, ⟨encL (openL ts i) ++ G, false, 1⟩)], g⟩) x.length ⟨0, [P], [], bump 13 (bump 10 (bump 9 (bump 7 (bump 4 g)))), by omega, by simp [serL], by simpa using hPo, by simp [openL, begs, encL_nil]⟩ ?_
  rintro n s ⟨i, ts, G, g, hi, hdr, htok, rfl⟩
  have hle := congrArg List.length hdr
  rw [List.length_drop, ser_len] at hle
  cases ts with
  | nil =>
    have hil : i = x.length := by
      simp only [serL, List.length_nil] at hle
      omega
    have h1 : ¬ i < x.length := by omega
    simp -implicitDefEqProofs [h1, b1, openL, encL_nil, -r3_54]
    refine hend _ _ G ?_ ?_ ?_ ?_ _ ?_ <;> first | rfl | exact ⟨rfl, rfl, rfl, rfl, rfl⟩
  | cons p ps =>
    have hpos := serL_pos p ps i
    have w1 : IntKind.i64.wrap ((i : Int) + 1) = (i : Int) + 1 := wrap64 (by omega) (by omega)
    have hol := openL_len (p :: ps) i
    have hge := serL_ge (p :: ps) i
    rw [List.length_cons] at hol hge
    cases p with
    | node fe ct lt rt =>
      rw [serL_node] at hdr
      obtain ⟨h1, hU, hdr'⟩ := step_node hPo hPs hdr x hx
      have ho := openL_node fe ct lt rt ps i
      have e1 : (openL (.node fe ct lt rt :: ps) i).length + 1 = (openL (lt :: rt :: ps) (i + 1)).length := by rw [ho]; simp
      have e2 : encL (openL (lt :: rt :: ps) (i + 1)) = encL (openL (.node fe ct lt rt :: ps) i) ++ [.int .i64 ((i + 1 + lt.size : Nat) : Int)] := by rw [ho, encL_append]; rfl
      generalize openL (.node fe ct lt rt :: ps) i = O at *
      have htk := take_openG O G
      have hln := len_openG O G
      have hc1 : O.length ≤ 1099511627775 := by omega
      have htk2 := htok _ List.mem_cons_self
      simp -implicitDefEqProofs [h1, b1, rd_words, hU, w1, htk, hln, hc1]
      refine ⟨n - 1, by omega, i + 1, by omega, lt :: rt :: ps, hdr', fun z hz => ?_, ⟨by omega, e1⟩, [], by rw [e2, List.append_nil]; simp⟩
      simp only [List.mem_cons] at hz
      rcases hz with rfl | rfl | hz
      · exact htk2.2.2.2.2.1
      · exact htk2.2.2.2.2.2
      · exact htok z (by simp [hz])
    | leaf d =>
      rw [serL_leaf] at hdr
      obtain ⟨h1, hU, hdr'⟩ := step_node hPo hPs hdr x hx
      have hlf : d.leaf = true := (htok _ List.mem_cons_self).1
      have hle' := congrArg List.length hdr'
      rw [List.length_drop, ser_len] at hle'
      cases ps with
      | nil =>
        have h2 : ¬ i + 1 < x.length := by
          simp only [serL, List.length_nil] at hle'
          omega
        have h2' : ¬ (i : Int) + 1 < x.length := by omega
        have ho : openL [.leaf d] i = [] := rfl
        simp -implicitDefEqProofs [h1, b1, rd_words, hU, w1, hlf, h2, h2', ho, encL_nil]
        exact ⟨n - 1, by omega, i + 1, by omega, [], hdr', by simp, ⟨by omega, rfl⟩, G, rfl⟩
      | cons p' ps' =>
        have hp2 := serL_pos p' ps' (i + 1)
        have h2 : i + 1 < x.length := by omega
        have h2' : (i : Int) + 1 < x.length := by omega
        have ho := openL_leaf d p' ps' i
        have hol2 := openL_len (p' :: ps') (i + 1)
        have hfin : ∀ z ∈ p' :: ps', PT.ok m.dim z := fun z hz => htok z (List.mem_cons_of_mem _ hz)
        have e1 : encL (openL (.leaf d :: p' :: ps') i) ++ G = encL (openL (p' :: ps') (i + 1)) ++ (.int .i64 ((i : Int) + 1) :: G) := by
          rw [ho, encL_append, List.append_assoc]
          rfl
        have e2 : (openL (.leaf d :: p' :: ps') i).length = (openL (p' :: ps') (i + 1)).length + 1 := by rw [ho]; simp
        rw [e1, e2]
        have hrt := rd_topI (openL (p' :: ps') (i + 1)) ((i : Int) + 1) G
        have htk := take_openG (openL (p' :: ps') (i + 1)) (.int .i64 ((i : Int) + 1) :: G)
        have hln := len_openG (openL (p' :: ps') (i + 1)) (.int .i64 ((i : Int) + 1) :: G)
        have hcl : (openL (p' :: ps') (i + 1)).length + 1 ≤ maxN := by unfold maxN; omega
        have wL : IntKind.i64.wrap (((openL (p' :: ps') (i + 1)).length : Nat) : Int) = (openL (p' :: ps') (i + 1)).length := wrap64 (by omega) (by omega)
        have fin : ∀ O : List Int, O = openL (p' :: ps') (i + 1) → ∀ G2 : List AV, ∃ m', m' < n ∧ ∃ i_1, i_1 + m' = x.length ∧ ∃ ts, List.drop i_1 (P.ser 0) = serL ts i_1 ∧ (∀ p ∈ ts, PT.ok m.dim p) ∧ ((i : Int) + 1 = i_1 ∧ O.length = (openL ts i_1).length) ∧ ∃ G3, encL O ++ G2 = encL (openL ts i_1) ++ G3 :=
          fun O hO G2 => ⟨n - 1, by omega, i + 1, by omega, p' :: ps', hdr', hfin, ⟨by omega, by rw [hO]⟩, G2, by rw [hO]⟩
        have fin := fin _ rfl
        generalize openL (p' :: ps') (i + 1) = O at *
        have d0 : ¬ (O.length : Int) + 1 = 0 := by omega
        have d9 : (O.length : Int) < (O.length : Int) + 1 := by omega
        have d10 : (O.length : Int) ≤ (O.length : Int) + 1 := by omega
        generalize hG2 : (AV.int .i64 ((i : Int) + 1) :: G) = G2 at *
        have hln2 : O.length + 1 ≤ (encL O).length + G2.length ∨ True := .inr trivial
        simp -implicitDefEqProofs [h1, b1, rd_words, hU, w1, hlf, h2, h2', hcl, wL, hrt, htk, hln, d0, d9, d10]
        exact fin G2
noncomputable def law_sp : List AV → Option AV := sp4 fun (_ : KTree) (_ : List Int) (l : List Word) (_ : Forest) => Part (okL l) true
theorem law_holds : Contract Try.prog 3 law_sp :=
  contract_of_runs mixed (tbl_cons c_Model (tbl_cons c_Region (tbl_cons c_Nodes (tbl_cons c_prTree (tbl_cons c_tRightT (tbl_cons c_Unpack (tbl_cons c_prModel (tbl_cons c_Models (tbl_cons c_closed23 tbl_nil))))))))) Try.func3 m3 (sp4_runs runs_law)
theorem law_says (t : KTree) (spans : List Int) (l : List Word) (f : Forest) (h : ∀ a ∈ l, Sh.good a) : law_sp [Arg.enc t, Arg.enc spans, Arg.enc l, Arg.enc f] = some (.bool true) := by
  have hl : okL l := fun w hw => h w hw
  simp only [law_sp, sp4, Arg.dec_enc, Option.bind_some]
  rw [part_of hl]
  rfl
end Go.Co
