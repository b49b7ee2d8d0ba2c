/- The law PruneSame: what its text computes. -/
import Derived.Test.YtlljcfmgedmigaaCz8
set_option maxHeartbeats 16000000
set_option maxRecDepth 100000
namespace Go.Co
open Go.Am Go.Proofs
set_option linter.unusedSimpArgs false
set_option linter.unusedVariables false
attribute [-simp] Go.Am.eff_gcall
def c6_0 : ACode := .ops [⟨some 3, .box (.t 0) 4, none, []⟩,⟨some 6, .mv (.c (.bool false)), none, []⟩] [1, 2, 3]
theorem r6_0 : type_of% (@rr _ _ c6_0.eq_1) := rr rfl
def c6_1 : ACode := .ops [⟨some 20, .load 4 true (.t 3), none, [3]⟩,⟨some 21, .call 10 [.t 20], none, []⟩,⟨some 7, .alloc [.int .i64 0, .int .i64 0, .int .i64 0, .int .i64 0, .int .i64 0, .nils], none, []⟩,⟨none, .store (.t 7) 6 (.t 21), none, [7]⟩] [1, 2, 7]
theorem r6_1 : type_of% (@rr _ _ c6_1.eq_1) := rr rfl
def c6_2 : ACode := .ops [⟨some 22, .load 6 true (.t 7), none, [7]⟩,⟨some 23, .mv (.t 1), none, []⟩,⟨some 24, .call 11 [.t 22, .t 23], none, []⟩,⟨some 8, .alloc [.int .i64 0, .int .i64 0, .int .i64 0, .int .i64 0, .int .i64 0, .int .i64 0, .int .i64 0, .int .i64 0, .int .i64 0, .int .i64 0], none, []⟩,⟨none, .store (.t 8) 10 (.t 24), none, [8]⟩] [2, 7, 8]
theorem r6_2 : type_of% (@rr _ _ c6_2.eq_1) := rr rfl
def c6_3 : ACode := .ops [⟨some 25, .load 6 true (.t 7), none, [7]⟩,⟨some 26, .load 10 true (.t 8), none, [8]⟩,⟨some 27, .call 17 [.t 25, .t 26], none, []⟩,⟨some 9, .alloc [.int .i64 0, .int .i64 0, .int .i64 0, .int .i64 0, .int .i64 0, .nils], none, []⟩,⟨none, .store (.t 9) 6 (.t 27), none, [9]⟩] [2, 7, 8, 9]
theorem r6_3 : type_of% (@rr _ _ c6_3.eq_1) := rr rfl
def c6_4 : ACode := .ops [⟨some 28, .load 10 true (.t 8), none, [8]⟩,⟨some 29, .mv (.t 2), none, []⟩,⟨some 30, .call 23 [.t 28, .t 29], none, []⟩,⟨some 10, .alloc [.int .i64 0, .int .i64 0, .int .i64 0, .int .i64 0], none, []⟩,⟨none, .store (.t 10) 4 (.t 30), none, [10]⟩] [7, 8, 9, 10]
theorem r6_4 : type_of% (@rr _ _ c6_4.eq_1) := rr rfl
def c6_5 : ACode := .ops [⟨some 31, .load 6 true (.t 9), none, [9]⟩,⟨some 32, .call 26 [.t 31], none, []⟩,⟨some 33, .un .not (.t 32), none, []⟩,⟨some 34, .mv (.t 33), none, []⟩,⟨some 35, .load 6 true (.t 9), some (34, false), [9]⟩,⟨some 36, .call 20 [.t 35], some (34, false), []⟩,⟨some 37, .load 6 true (.t 7), some (34, false), [7]⟩,⟨some 38, .call 20 [.t 37], some (34, false), []⟩,⟨some 39, .bin .gtr (.t 36) (.t 38), some (34, false), []⟩,⟨some 40, .pick (.t 34) (.c (.bool true)) (.t 39), none, []⟩,⟨some 41, .mv (.t 40), none, []⟩,⟨some 42, .fad (.t 9) 5, some (41, false), [9]⟩,⟨some 43, .load 1 false (.t 42), some (41, false), [9]⟩,⟨some 44, .len (.t 43), some (41, false), []⟩,⟨some 45, .fad (.t 7) 5, some (41, false), [7]⟩,⟨some 46, .load 1 false (.t 45), some (41, false), [7]⟩,⟨some 47, .len (.t 46), some (41, false), []⟩,⟨some 48, .bin .neq (.t 44) (.t 47), some (41, false), []⟩,⟨some 49, .pick (.t 41) (.c (.bool true)) (.t 48), none, []⟩,⟨some 50, .mv (.t 49), none, []⟩,⟨some 51, .load 6 true (.t 9), some (50, false), [9]⟩,⟨some 52, .load 10 true (.t 8), some (50, false), [8]⟩,⟨some 53, .call 17 [.t 51, .t 52], some (50, false), []⟩,⟨some 54, .load 6 true (.t 9), some (50, false), [9]⟩,⟨some 55, .call 16 [.t 53, .t 54], some (50, false), []⟩,⟨some 56, .un .not (.t 55), some (50, false), []⟩,⟨some 57, .pick (.t 50) (.c (.bool true)) (.t 56), none, []⟩] [7, 8, 9, 10, 57]
theorem r6_5 : type_of% (@rr _ _ c6_5.eq_1) := rr rfl
def c6_6 : ACode := .ops [⟨some 6, .mv (.c (.bool false)), none, []⟩] [6]
theorem r6_6 : type_of% (@rr _ _ c6_6.eq_1) := rr rfl
def c6_7 : ACode := .seq c6_6 .ret
theorem r6_7 : type_of% (@rr _ _ c6_7.eq_1) := rr rfl
def c6_8 : ACode := .cond (.t 57) c6_7 .skip
theorem r6_8 : type_of% (@rr _ _ c6_8.eq_1) := rr rfl
def c6_9 : ACode := .seq c6_5 c6_8
theorem r6_9 : type_of% (@rr _ _ c6_9.eq_1) := rr rfl
def c6_10 : ACode := .ops [⟨some 11, .mv (.c (.int .i64 0)), none, []⟩] [7, 8, 9, 10, 11]
theorem r6_10 : type_of% (@rr _ _ c6_10.eq_1) := rr rfl
def c6_11 : ACode := .ops [⟨some 58, .mv (.t 11), none, []⟩,⟨some 59, .fad (.t 7) 1, none, [7]⟩,⟨some 60, .load 1 false (.t 59), none, [7]⟩,⟨some 61, .bin .lss (.t 58) (.t 60), none, []⟩] [7, 8, 9, 10, 11, 61]
theorem r6_11 : type_of% (@rr _ _ c6_11.eq_1) := rr rfl
def c6_12 : ACode := .cond (.t 61) .skip (.exit 0)
theorem r6_12 : type_of% (@rr _ _ c6_12.eq_1) := rr rfl
def c6_13 : ACode := .seq c6_11 c6_12
theorem r6_13 : type_of% (@rr _ _ c6_13.eq_1) := rr rfl
def c6_14 : ACode := .ops [⟨some 64, .load 6 true (.t 9), none, [9]⟩,⟨some 65, .mv (.t 11), none, []⟩,⟨some 66, .load 4 true (.t 10), none, [10]⟩,⟨some 67, .call 24 [.t 64, .t 65, .t 66], none, []⟩,⟨some 68, .load 6 true (.t 7), none, [7]⟩,⟨some 69, .mv (.t 11), none, []⟩,⟨some 70, .load 4 true (.t 10), none, [10]⟩,⟨some 71, .call 24 [.t 68, .t 69, .t 70], none, []⟩,⟨some 72, .bin .neq (.t 67) (.t 71), none, []⟩] [7, 8, 9, 10, 11, 72]
theorem r6_14 : type_of% (@rr _ _ c6_14.eq_1) := rr rfl
def c6_15 : ACode := .ops [⟨some 6, .mv (.c (.bool false)), none, []⟩] [6]
theorem r6_15 : type_of% (@rr _ _ c6_15.eq_1) := rr rfl
def c6_16 : ACode := .seq c6_15 .ret
theorem r6_16 : type_of% (@rr _ _ c6_16.eq_1) := rr rfl
def c6_17 : ACode := .cond (.t 72) c6_16 .skip
theorem r6_17 : type_of% (@rr _ _ c6_17.eq_1) := rr rfl
def c6_18 : ACode := .seq c6_14 c6_17
theorem r6_18 : type_of% (@rr _ _ c6_18.eq_1) := rr rfl
def c6_19 : ACode := .block 1 c6_18
theorem r6_19 : type_of% (@rr _ _ c6_19.eq_1) := rr rfl
def c6_20 : ACode := .ops [⟨some 62, .mv (.t 11), none, []⟩,⟨some 63, .bin .add (.t 62) (.c (.int .i64 1)), none, []⟩,⟨some 11, .mv (.t 63), none, []⟩] [7, 8, 9, 10, 11]
theorem r6_20 : type_of% (@rr _ _ c6_20.eq_1) := rr rfl
def c6_21 : ACode := .seq c6_19 c6_20
theorem r6_21 : type_of% (@rr _ _ c6_21.eq_1) := rr rfl
def c6_22 : ACode := .seq c6_13 c6_21
theorem r6_22 : type_of% (@rr _ _ c6_22.eq_1) := rr rfl
def c6_23 : ACode := .keep [7, 8, 9, 10, 11] [7, 8, 9, 10] c6_22
theorem r6_23 : type_of% (@rr _ _ c6_23.eq_1) := rr rfl
def c6_24 : ACode := .loop c6_23
theorem r6_24 : type_of% (@rr _ _ c6_24.eq_1) := rr rfl
def c6_25 : ACode := .block 0 c6_24
theorem r6_25 : type_of% (@rr _ _ c6_25.eq_1) := rr rfl
def c6_26 : ACode := .seq c6_10 c6_25
theorem r6_26 : type_of% (@rr _ _ c6_26.eq_1) := rr rfl
def c6_27 : ACode := .ops [⟨some 73, .fad (.t 9) 5, none, [9]⟩,⟨some 74, .load 1 false (.t 73), none, [9]⟩,⟨some 75, .len (.t 74), none, []⟩,⟨some 76, .mv (.c (.int .i64 0)), none, []⟩] [7, 8, 74, 75, 76]
theorem r6_27 : type_of% (@rr _ _ c6_27.eq_1) := rr rfl
def c6_28 : ACode := .ops [⟨some 77, .bin .lss (.t 76) (.t 75), none, []⟩] [7, 8, 74, 75, 76, 77]
theorem r6_28 : type_of% (@rr _ _ c6_28.eq_1) := rr rfl
def c6_29 : ACode := .cond (.t 77) .skip (.exit 2)
theorem r6_29 : type_of% (@rr _ _ c6_29.eq_1) := rr rfl
def c6_30 : ACode := .ops [⟨some 78, .mv (.t 76), none, []⟩,⟨some 79, .ias (.t 74) (.t 76) 2, none, []⟩,⟨some 80, .load 2 true (.t 79), none, []⟩,⟨some 13, .alloc [.int .i64 0, .nils], none, []⟩,⟨some 12, .mv (.t 78), none, []⟩,⟨none, .store (.t 13) 2 (.t 80), none, [13]⟩] [7, 8, 12, 13, 74, 75, 76]
theorem r6_30 : type_of% (@rr _ _ c6_30.eq_1) := rr rfl
def c6_31 : ACode := .ops [⟨some 81, .fad (.t 13) 1, none, [13]⟩,⟨some 82, .load 1 false (.t 81), none, [13]⟩,⟨some 83, .load 10 true (.t 8), none, [8]⟩,⟨some 84, .call 27 [.t 82, .t 83], none, []⟩,⟨some 85, .fad (.t 7) 5, none, [7]⟩,⟨some 86, .load 1 false (.t 85), none, [7]⟩,⟨some 87, .mv (.t 12), none, []⟩,⟨some 88, .ias (.t 86) (.t 87) 2, none, []⟩,⟨some 89, .fad (.t 88) 1, none, []⟩,⟨some 90, .load 1 false (.t 89), none, []⟩,⟨some 91, .load 10 true (.t 8), none, [8]⟩,⟨some 92, .call 27 [.t 90, .t 91], none, []⟩,⟨some 14, .mv (.t 84), none, []⟩,⟨some 15, .mv (.t 92), none, []⟩] [7, 8, 12, 13, 14, 15, 74, 75, 76]
theorem r6_31 : type_of% (@rr _ _ c6_31.eq_1) := rr rfl
def c6_32 : ACode := .ops [⟨some 93, .fad (.t 13) 0, none, [13]⟩,⟨some 94, .load 1 false (.t 93), none, [13]⟩,⟨some 95, .fad (.t 7) 5, none, [7]⟩,⟨some 96, .load 1 false (.t 95), none, [7]⟩,⟨some 97, .mv (.t 12), none, []⟩,⟨some 98, .ias (.t 96) (.t 97) 2, none, []⟩,⟨some 99, .fad (.t 98) 0, none, []⟩,⟨some 100, .load 1 false (.t 99), none, []⟩,⟨some 101, .bin .neq (.t 94) (.t 100), none, []⟩,⟨some 102, .mv (.t 101), none, []⟩,⟨some 103, .mv (.t 14), some (102, false), []⟩,⟨some 104, .len (.t 103), some (102, false), []⟩,⟨some 105, .fad (.t 13) 1, some (102, false), [13]⟩,⟨some 106, .load 1 false (.t 105), some (102, false), [13]⟩,⟨some 107, .call 28 [.t 106], some (102, false), []⟩,⟨some 108, .len (.t 107), some (102, false), []⟩,⟨some 109, .bin .neq (.t 104) (.t 108), some (102, false), []⟩,⟨some 110, .pick (.t 102) (.c (.bool true)) (.t 109), none, []⟩,⟨some 111, .mv (.t 110), none, []⟩,⟨some 112, .mv (.t 14), some (111, false), []⟩,⟨some 113, .len (.t 112), some (111, false), []⟩,⟨some 114, .mv (.t 15), some (111, false), []⟩,⟨some 115, .len (.t 114), some (111, false), []⟩,⟨some 116, .bin .neq (.t 113) (.t 115), some (111, false), []⟩,⟨some 117, .pick (.t 111) (.c (.bool true)) (.t 116), none, []⟩] [7, 8, 14, 15, 74, 75, 76, 117]
theorem r6_32 : type_of% (@rr _ _ c6_32.eq_1) := rr rfl
def c6_33 : ACode := .ops [⟨some 6, .mv (.c (.bool false)), none, []⟩] [6]
theorem r6_33 : type_of% (@rr _ _ c6_33.eq_1) := rr rfl
def c6_34 : ACode := .seq c6_33 .ret
theorem r6_34 : type_of% (@rr _ _ c6_34.eq_1) := rr rfl
def c6_35 : ACode := .cond (.t 117) c6_34 .skip
theorem r6_35 : type_of% (@rr _ _ c6_35.eq_1) := rr rfl
def c6_36 : ACode := .seq c6_32 c6_35
theorem r6_36 : type_of% (@rr _ _ c6_36.eq_1) := rr rfl
def c6_37 : ACode := .ops [⟨some 118, .mkmap, none, []⟩,⟨some 16, .mv (.t 118), none, []⟩] [7, 8, 14, 15, 16, 74, 75, 76]
theorem r6_37 : type_of% (@rr _ _ c6_37.eq_1) := rr rfl
def c6_38 : ACode := .ops [⟨some 119, .mv (.t 14), none, []⟩,⟨some 120, .len (.t 119), none, []⟩,⟨some 121, .mv (.c (.int .i64 0)), none, []⟩] [7, 8, 14, 15, 16, 74, 75, 76, 120, 121]
theorem r6_38 : type_of% (@rr _ _ c6_38.eq_1) := rr rfl
def c6_39 : ACode := .ops [⟨some 122, .bin .lss (.t 121) (.t 120), none, []⟩] [7, 8, 14, 15, 16, 74, 75, 76, 120, 121, 122]
theorem r6_39 : type_of% (@rr _ _ c6_39.eq_1) := rr rfl
def c6_40 : ACode := .cond (.t 122) .skip (.exit 4)
theorem r6_40 : type_of% (@rr _ _ c6_40.eq_1) := rr rfl
def c6_41 : ACode := .ops [⟨some 123, .mv (.t 121), none, []⟩,⟨some 17, .mv (.t 123), none, []⟩] [7, 8, 14, 15, 16, 17, 74, 75, 76, 120, 121]
theorem r6_41 : type_of% (@rr _ _ c6_41.eq_1) := rr rfl
def c6_42 : ACode := .ops [⟨some 124, .mv (.t 16), none, []⟩,⟨some 125, .mv (.t 14), none, []⟩,⟨some 126, .mv (.t 17), none, []⟩,⟨some 127, .ias (.t 125) (.t 126) 11, none, []⟩,⟨some 128, .load 11 true (.t 127), none, []⟩,⟨some 129, .aget (.t 124) (.t 128) 11 (.int .i64 0), none, [118]⟩,⟨some 130, .bin .add (.t 129) (.c (.int .i64 1)), none, []⟩,⟨some 131, .aent (.t 124) (.t 128) 11 (.int .i64 0), none, [118]⟩,⟨some 132, .ext (.t 131) 1, none, []⟩,⟨none, .mset (.t 124) (.t 132) (.t 130), none, [118]⟩] [7, 8, 14, 15, 16, 17, 74, 75, 76, 120, 121]
theorem r6_42 : type_of% (@rr _ _ c6_42.eq_1) := rr rfl
def c6_43 : ACode := .ops [⟨some 133, .mv (.t 16), none, []⟩,⟨some 134, .mv (.t 15), none, []⟩,⟨some 135, .mv (.t 17), none, []⟩,⟨some 136, .ias (.t 134) (.t 135) 11, none, []⟩,⟨some 137, .load 11 true (.t 136), none, []⟩,⟨some 138, .aget (.t 133) (.t 137) 11 (.int .i64 0), none, [118]⟩,⟨some 139, .bin .sub (.t 138) (.c (.int .i64 1)), none, []⟩,⟨some 140, .aent (.t 133) (.t 137) 11 (.int .i64 0), none, [118]⟩,⟨some 141, .ext (.t 140) 1, none, []⟩,⟨none, .mset (.t 133) (.t 141) (.t 139), none, [118]⟩] [7, 8, 14, 15, 16, 74, 75, 76, 120, 121]
theorem r6_43 : type_of% (@rr _ _ c6_43.eq_1) := rr rfl
def c6_44 : ACode := .seq c6_42 c6_43
theorem r6_44 : type_of% (@rr _ _ c6_44.eq_1) := rr rfl
def c6_45 : ACode := .seq c6_41 c6_44
theorem r6_45 : type_of% (@rr _ _ c6_45.eq_1) := rr rfl
def c6_46 : ACode := .block 5 c6_45
theorem r6_46 : type_of% (@rr _ _ c6_46.eq_1) := rr rfl
def c6_47 : ACode := .ops [⟨some 142, .bin .add (.t 121) (.c (.int .i64 1)), none, []⟩,⟨some 121, .mv (.t 142), none, []⟩] [7, 8, 14, 15, 16, 74, 75, 76, 120, 121]
theorem r6_47 : type_of% (@rr _ _ c6_47.eq_1) := rr rfl
def c6_48 : ACode := .seq c6_46 c6_47
theorem r6_48 : type_of% (@rr _ _ c6_48.eq_1) := rr rfl
def c6_49 : ACode := .seq c6_40 c6_48
theorem r6_49 : type_of% (@rr _ _ c6_49.eq_1) := rr rfl
def c6_50 : ACode := .seq c6_39 c6_49
theorem r6_50 : type_of% (@rr _ _ c6_50.eq_1) := rr rfl
def c6_51 : ACode := .keep [7, 8, 14, 15, 16, 74, 75, 76, 120, 121] [7, 8, 118] c6_50
theorem r6_51 : type_of% (@rr _ _ c6_51.eq_1) := rr rfl
def c6_52 : ACode := .loop c6_51
theorem r6_52 : type_of% (@rr _ _ c6_52.eq_1) := rr rfl
def c6_53 : ACode := .block 4 c6_52
theorem r6_53 : type_of% (@rr _ _ c6_53.eq_1) := rr rfl
def c6_54 : ACode := .seq c6_38 c6_53
theorem r6_54 : type_of% (@rr _ _ c6_54.eq_1) := rr rfl
def c6_55 : ACode := .ops [⟨some 143, .mv (.t 16), none, []⟩,⟨some 144, .mrng (.t 143), none, [118]⟩] [7, 8, 74, 75, 76, 144]
theorem r6_55 : type_of% (@rr _ _ c6_55.eq_1) := rr rfl
def c6_56 : ACode := .next (.t 144) 145 146 [118, 144] [7, 8, 74, 75, 76, 144, 146]
theorem r6_56 : type_of% (@rr _ _ c6_56.eq_1) := rr rfl
def c6_57 : ACode := .cond (.t 146) .skip (.exit 6)
theorem r6_57 : type_of% (@rr _ _ c6_57.eq_1) := rr rfl
def c6_58 : ACode := .ops [⟨some 147, .entry (.t 144), none, [118, 144]⟩,⟨some 148, .ext (.t 147) 1, none, []⟩,⟨some 19, .mv (.t 148), none, []⟩] [7, 8, 19, 74, 75, 76, 144]
theorem r6_58 : type_of% (@rr _ _ c6_58.eq_1) := rr rfl
def c6_59 : ACode := .ops [⟨some 149, .mv (.t 19), none, []⟩,⟨some 150, .bin .neq (.t 149) (.c (.int .i64 0)), none, []⟩] [7, 8, 74, 75, 76, 144, 150]
theorem r6_59 : type_of% (@rr _ _ c6_59.eq_1) := rr rfl
def c6_60 : ACode := .ops [⟨some 6, .mv (.c (.bool false)), none, []⟩] [6]
theorem r6_60 : type_of% (@rr _ _ c6_60.eq_1) := rr rfl
def c6_61 : ACode := .seq c6_60 .ret
theorem r6_61 : type_of% (@rr _ _ c6_61.eq_1) := rr rfl
def c6_62 : ACode := .cond (.t 150) c6_61 .skip
theorem r6_62 : type_of% (@rr _ _ c6_62.eq_1) := rr rfl
def c6_63 : ACode := .seq c6_59 c6_62
theorem r6_63 : type_of% (@rr _ _ c6_63.eq_1) := rr rfl
def c6_64 : ACode := .seq c6_58 c6_63
theorem r6_64 : type_of% (@rr _ _ c6_64.eq_1) := rr rfl
def c6_65 : ACode := .block 7 c6_64
theorem r6_65 : type_of% (@rr _ _ c6_65.eq_1) := rr rfl
def c6_66 : ACode := .seq c6_57 c6_65
theorem r6_66 : type_of% (@rr _ _ c6_66.eq_1) := rr rfl
def c6_67 : ACode := .seq c6_56 c6_66
theorem r6_67 : type_of% (@rr _ _ c6_67.eq_1) := rr rfl
def c6_68 : ACode := .keep [7, 8, 74, 75, 76, 144] [7, 8, 118, 144] c6_67
theorem r6_68 : type_of% (@rr _ _ c6_68.eq_1) := rr rfl
def c6_69 : ACode := .loop c6_68
theorem r6_69 : type_of% (@rr _ _ c6_69.eq_1) := rr rfl
def c6_70 : ACode := .block 6 c6_69
theorem r6_70 : type_of% (@rr _ _ c6_70.eq_1) := rr rfl
def c6_71 : ACode := .seq c6_55 c6_70
theorem r6_71 : type_of% (@rr _ _ c6_71.eq_1) := rr rfl
def c6_72 : ACode := .seq c6_54 c6_71
theorem r6_72 : type_of% (@rr _ _ c6_72.eq_1) := rr rfl
def c6_73 : ACode := .seq c6_37 c6_72
theorem r6_73 : type_of% (@rr _ _ c6_73.eq_1) := rr rfl
def c6_74 : ACode := .seq c6_36 c6_73
theorem r6_74 : type_of% (@rr _ _ c6_74.eq_1) := rr rfl
def c6_75 : ACode := .seq c6_31 c6_74
theorem r6_75 : type_of% (@rr _ _ c6_75.eq_1) := rr rfl
def c6_76 : ACode := .seq c6_30 c6_75
theorem r6_76 : type_of% (@rr _ _ c6_76.eq_1) := rr rfl
def c6_77 : ACode := .block 3 c6_76
theorem r6_77 : type_of% (@rr _ _ c6_77.eq_1) := rr rfl
def c6_78 : ACode := .ops [⟨some 151, .bin .add (.t 76) (.c (.int .i64 1)), none, []⟩,⟨some 76, .mv (.t 151), none, []⟩] [7, 8, 74, 75, 76]
theorem r6_78 : type_of% (@rr _ _ c6_78.eq_1) := rr rfl
def c6_79 : ACode := .seq c6_77 c6_78
theorem r6_79 : type_of% (@rr _ _ c6_79.eq_1) := rr rfl
def c6_80 : ACode := .seq c6_29 c6_79
theorem r6_80 : type_of% (@rr _ _ c6_80.eq_1) := rr rfl
def c6_81 : ACode := .seq c6_28 c6_80
theorem r6_81 : type_of% (@rr _ _ c6_81.eq_1) := rr rfl
def c6_82 : ACode := .keep [7, 8, 74, 75, 76] [7, 8] c6_81
theorem r6_82 : type_of% (@rr _ _ c6_82.eq_1) := rr rfl
def c6_83 : ACode := .loop c6_82
theorem r6_83 : type_of% (@rr _ _ c6_83.eq_1) := rr rfl
def c6_84 : ACode := .block 2 c6_83
theorem r6_84 : type_of% (@rr _ _ c6_84.eq_1) := rr rfl
def c6_85 : ACode := .seq c6_27 c6_84
theorem r6_85 : type_of% (@rr _ _ c6_85.eq_1) := rr rfl
def c6_86 : ACode := .ops [⟨some 152, .call 18 [], none, []⟩,⟨some 6, .mv (.t 152), none, []⟩] [6]
theorem r6_86 : type_of% (@rr _ _ c6_86.eq_1) := rr rfl
def c6_87 : ACode := .seq c6_86 .ret
theorem r6_87 : type_of% (@rr _ _ c6_87.eq_1) := rr rfl
def c6_88 : ACode := .seq c6_85 c6_87
theorem r6_88 : type_of% (@rr _ _ c6_88.eq_1) := rr rfl
def c6_89 : ACode := .seq c6_26 c6_88
theorem r6_89 : type_of% (@rr _ _ c6_89.eq_1) := rr rfl
def c6_90 : ACode := .seq c6_9 c6_89
theorem r6_90 : type_of% (@rr _ _ c6_90.eq_1) := rr rfl
def c6_91 : ACode := .seq c6_4 c6_90
theorem r6_91 : type_of% (@rr _ _ c6_91.eq_1) := rr rfl
def c6_92 : ACode := .seq c6_3 c6_91
theorem r6_92 : type_of% (@rr _ _ c6_92.eq_1) := rr rfl
def c6_93 : ACode := .seq c6_2 c6_92
theorem r6_93 : type_of% (@rr _ _ c6_93.eq_1) := rr rfl
def c6_94 : ACode := .seq c6_1 c6_93
theorem r6_94 : type_of% (@rr _ _ c6_94.eq_1) := rr rfl
def c6_95 : ACode := .seq c6_0 c6_94
theorem r6_95 : type_of% (@rr _ _ c6_95.eq_1) := rr rfl
def a6 : AFun := ⟨3, 153, c6_95, [.t 6]⟩
attribute [simp] r6_0 r6_1 r6_2 r6_3 r6_4 r6_5 r6_6 r6_7 r6_8 r6_9 r6_10 r6_11 r6_12 r6_13 r6_14 r6_15 r6_16 r6_17 r6_18 r6_19 r6_20 r6_21 r6_22 r6_23 r6_24 r6_25 r6_26 r6_27 r6_28 r6_29 r6_30 r6_31 r6_32 r6_33 r6_34 r6_35 r6_36 r6_37 r6_38 r6_39 r6_40 r6_41 r6_42 r6_43 r6_44 r6_45 r6_46 r6_47 r6_48 r6_49 r6_50 r6_51 r6_52 r6_53 r6_54 r6_55 r6_56 r6_57 r6_58 r6_59 r6_60 r6_61 r6_62 r6_63 r6_64 r6_65 r6_66 r6_67 r6_68 r6_69 r6_70 r6_71 r6_72 r6_73 r6_74 r6_75 r6_76 r6_77 r6_78 r6_79 r6_80 r6_81 r6_82 r6_83 r6_84 r6_85 r6_86 r6_87 r6_88 r6_89 r6_90 r6_91 r6_92 r6_93 r6_94 r6_95
theorem m6 : mFun Try.prog Try.f6 a6 = true := by decide +kernel
def c18_0 : ACode := .ops [⟨some 0, .mv (.c (.bool false)), none, []⟩] []
def c18_1 : ACode := .ops [⟨some 4, .call 57 [], none, []⟩,⟨some 1, .alloc [.int .i64 0, .int .i64 0, .int .i64 0, .int .i64 0, .int .i64 0, .nils], none, []⟩,⟨none, .store (.t 1) 6 (.t 4), none, [1]⟩] [1]
def c18_2 : ACode := .ops [⟨some 5, .load 6 true (.t 1), none, [1]⟩,⟨some 6, .build [.int .i64 0, .int .i64 0] [(0, 1, .c (.int .i64 6)), (1, 1, .c (.int .i64 9))], none, []⟩,⟨some 7, .build [.int .i64 0, .int .i64 0, .int .i64 0, .int .i64 0, .int .i64 0, .int .i64 0, .int .i64 0, .int .i64 0, .int .i64 0, .int .i64 0] [(0, 2, .t 6)], none, []⟩,⟨some 8, .call 17 [.t 5, .t 7], none, []⟩,⟨some 2, .alloc [.int .i64 0, .int .i64 0, .int .i64 0, .int .i64 0, .int .i64 0, .nils], none, []⟩,⟨none, .store (.t 2) 6 (.t 8), none, [2]⟩] [1, 2]
def c18_3 : ACode := .ops [⟨some 9, .load 6 true (.t 1), none, [1]⟩,⟨some 10, .build [.int .i64 0, .int .i64 0] [(0, 1, .c (.int .i64 0)), (1, 1, .c (.int .i64 9))], none, []⟩,⟨some 11, .build [.int .i64 0, .int .i64 0, .int .i64 0, .int .i64 0, .int .i64 0, .int .i64 0, .int .i64 0, .int .i64 0, .int .i64 0, .int .i64 0] [(0, 2, .t 10)], none, []⟩,⟨some 12, .call 17 [.t 9, .t 11], none, []⟩,⟨some 3, .alloc [.int .i64 0, .int .i64 0, .int .i64 0, .int .i64 0, .int .i64 0, .nils], none, []⟩,⟨none, .store (.t 3) 6 (.t 12), none, [3]⟩] [1, 2, 3]
def c18_4 : ACode := .ops [⟨some 13, .load 6 true (.t 2), none, [2]⟩,⟨some 14, .call 26 [.t 13], none, []⟩,⟨some 15, .mv (.t 14), none, []⟩,⟨some 16, .load 6 true (.t 2), some (15, true), [2]⟩,⟨some 17, .call 20 [.t 16], some (15, true), []⟩,⟨some 18, .bin .eql (.t 17) (.c (.int .i64 1)), some (15, true), []⟩,⟨some 19, .pick (.t 15) (.t 18) (.c (.bool false)), none, []⟩,⟨some 20, .mv (.t 19), none, []⟩,⟨some 21, .load 6 true (.t 2), some (20, true), [2]⟩,⟨some 22, .build [.int .i64 0, .int .i64 0, .int .i64 0, .int .i64 0] [], some (20, true), []⟩,⟨some 23, .call 24 [.t 21, .c (.int .i64 0), .t 22], some (20, true), []⟩,⟨some 24, .bin .eql (.t 23) (.c (.int .i64 23)), some (20, true), []⟩,⟨some 25, .pick (.t 20) (.t 24) (.c (.bool false)), none, []⟩,⟨some 26, .mv (.t 25), none, []⟩,⟨some 27, .load 6 true (.t 3), some (26, true), [3]⟩,⟨some 28, .load 6 true (.t 1), some (26, true), [1]⟩,⟨some 29, .call 16 [.t 27, .t 28], some (26, true), []⟩,⟨some 30, .pick (.t 26) (.t 29) (.c (.bool false)), none, []⟩,⟨some 0, .mv (.t 30), none, []⟩] [0]
def c18_5 : ACode := .seq c18_4 .ret
def c18_6 : ACode := .seq c18_3 c18_5
def c18_7 : ACode := .seq c18_2 c18_6
def c18_8 : ACode := .seq c18_1 c18_7
def c18_9 : ACode := .seq c18_0 c18_8
def a18 : AFun := ⟨0, 31, c18_9, [.t 0]⟩
theorem m18 : mFun Try.prog Try.f18 a18 = true := by decide +kernel
def c57_0 : ACode := .ops [⟨some 0, .alloc [.int .i64 0, .int .i64 0, .int .i64 0, .int .i64 0, .int .i64 0, .nils], none, []⟩] [0]
def c57_1 : ACode := .ops [⟨some 2, .build [.bool false, .int .i64 0, .int .i64 0, .int .i64 0, .int .i64 0, .int .i64 0] [(3, 1, .c (.int .i64 5)), (4, 1, .c (.int .i64 1)), (5, 1, .c (.int .i64 2))], none, []⟩,⟨some 3, .call 51 [.t 2], none, []⟩,⟨some 4, .build [.bool false, .int .i64 0, .int .i64 0, .int .i64 0, .int .i64 0, .int .i64 0] [(0, 1, .c (.bool true)), (1, 1, .c (.int .i64 10))], none, []⟩,⟨some 5, .call 51 [.t 4], none, []⟩,⟨some 6, .build [.bool false, .int .i64 0, .int .i64 0, .int .i64 0, .int .i64 0, .int .i64 0] [(0, 1, .c (.bool true)), (1, 1, .c (.int .i64 20))], none, []⟩,⟨some 7, .call 51 [.t 6], none, []⟩,⟨some 8, .mkrow 1 3 1 [.int .u64 0] [(0, 1, .t 3), (1, 1, .t 5), (2, 1, .t 7)], none, []⟩,⟨some 1, .mv (.t 8), none, []⟩] [0, 1]
def c57_2 : ACode := .ops [⟨some 9, .build [.int .i64 0, .int .i64 0, .int .i64 0] [(0, 1, .c (.int .i64 3))], none, []⟩,⟨some 10, .mv (.t 1), none, []⟩,⟨some 11, .build [.int .i64 0, .nils] [(1, 1, .t 10)], none, []⟩,⟨some 12, .mkrow 12 1 2 [.int .i64 0, .nils] [(0, 2, .t 11)], none, []⟩,⟨some 13, .build [.int .i64 0, .int .i64 0, .int .i64 0, .int .i64 0, .int .i64 0, .nils] [(0, 1, .c (.int .i64 1)), (1, 1, .c (.int .i64 1)), (2, 3, .t 9), (5, 1, .t 12)], none, []⟩,⟨none, .store (.t 0) 6 (.t 13), none, [0]⟩] [0]
def c57_3 : ACode := .seq c57_2 .ret
def c57_4 : ACode := .seq c57_1 c57_3
def c57_5 : ACode := .seq c57_0 c57_4
def a57 : AFun := ⟨0, 14, c57_5, [.cell 0 6 true]⟩
theorem m57 : mFun Try.prog Try.f57 a57 = true := by decide +kernel
def texts18 : List (Nat × AFun) := [(12, a12), (14, a14), (15, a15), (16, a16), (17, a17), (18, a18), (20, a20), (24, a24), (26, a26), (49, a49), (50, a50), (51, a51), (52, a52), (53, a53), (54, a54), (55, a55), (56, a56), (57, a57), (59, a59), (60, a60), (61, a61), (62, a62), (63, a63), (72, a72), (88, a88), (89, a89), (90, a90), (91, a91), (92, a92), (93, a93), (94, a94), (96, a96), (97, a97), (98, a98), (114, a114), (115, a115), (116, a116), (117, a117)]
theorem texts18_good : Go.Am.Good Try.prog texts18 :=
  good_cons Try.func12 m12 <| good_cons Try.func14 m14 <| good_cons Try.func15 m15 <| good_cons Try.func16 m16 <| good_cons Try.func17 m17 <| good_cons Try.func18 m18 <| good_cons Try.func20 m20 <| good_cons Try.func24 m24 <| good_cons Try.func26 m26 <| good_cons Try.func49 m49 <| good_cons Try.func50 m50 <| good_cons Try.func51 m51 <| good_cons Try.func52 m52 <| good_cons Try.func53 m53 <| good_cons Try.func54 m54 <| good_cons Try.func55 m55 <| good_cons Try.func56 m56 <| good_cons Try.func57 m57 <| good_cons Try.func59 m59 <| good_cons Try.func60 m60 <| good_cons Try.func61 m61 <| good_cons Try.func62 m62 <| good_cons Try.func63 m63 <| good_cons Try.func72 m72 <| good_cons Try.func88 m88 <| good_cons Try.func89 m89 <| good_cons Try.func90 m90 <| good_cons Try.func91 m91 <| good_cons Try.func92 m92 <| good_cons Try.func93 m93 <| good_cons Try.func94 m94 <| good_cons Try.func96 m96 <| good_cons Try.func97 m97 <| good_cons Try.func98 m98 <| good_cons Try.func114 m114 <| good_cons Try.func115 m115 <| good_cons Try.func116 m116 <| good_cons Try.func117 m117 <| good_nil
theorem c_closed18 : Contract Try.prog 18 (sp0 (some true)) := contract_closedG mixed texts18_good lib0 (NW := fun f => if f = 50 then some 10001 else if f = 75 then some 5 else none) (m := 2000) (n := 80) (by decide +kernel)
theorem evalM_prune {m : Model} (hm : RM m) {b : Box} {p : Point} {t : Int} (hp : InB b p t) (c : Int) : evalM (pruneM m b) c p = evalM m c p := by
  have key : ∀ (l : List Tree) (n : Int), (∀ t ∈ l, RT t.nodes m.dim) → (l.map (prF b)).foldl (evalF c p) n = l.foldl (evalF c p) n := by
    intro l
    induction l with
    | nil => intro n _; rfl
    | cons x l ih =>
      intro n h
      rw [List.map_cons, List.foldl_cons, List.foldl_cons, ih _ (fun t ht => h t (by simp [ht]))]
      congr 1
      unfold evalF prF
      simp only [value_prune (h x (by simp)) hp]
  exact key m.trees _ (fun t ht => hm.rt ht)
theorem evalX_prune {m : Model} (hm : RM m) {b : Box} {p : Point} {t : Int} (hp : InB b p t) (c : Int) : evalX (pruneM m b) c p = evalX m c p := by
  unfold evalX
  rw [evalM_prune hm hp]
  rfl
def seenP (S : List Nat) : List AV := S.map fun (i : Nat) => AV.int IntKind.i64 (i : Int)
theorem seenP_append (S : List Nat) (i : Nat) : seenP (S ++ [i]) = seenP S ++ [.int .i64 (i : Int)] := by simp [seenP]
theorem entV_flatP (M : List (Piece × Int)) (S : List Nat) (i : Nat) (h : i < M.length) : entV (flatP M) (M.length : Nat) (seenP S ++ [.int .i64 (i : Int)]) = some (.tup [.agg (aggP M[i].1), .int .i64 M[i].2]) := by
  obtain ⟨h1, h2⟩ := flatP_get M i h
  unfold entV
  rw [List.getLast?_concat]
  simp only [flatP_len, Nat.mul_div_cancel_left _ (show 0 < 2 by omega), Int.toNat_natCast]
  rw [if_pos ⟨trivial, by omega⟩, h1, h2]
theorem toCome_P (t : Env) (h : Hp) (g : Nat → Nat) (M : List (Piece × Int)) (S : List Nat) (a b : Nat) (fp : List Nat) (hf : fp.contains a = true ∧ fp.contains b = true) (h1 : hlook h a = some ⟨flatP M, false, mapTag⟩)
    (h2 : hlook h b = some ⟨.mp a (g a) :: .int .i64 (M.length : Nat) :: .int .i64 (M.length : Nat) :: seenP S, false, mapTag⟩) :
    toCome ⟨t, h, g⟩ fp (.ptr b (g b) 0) = some (b, (⟨.mp a (g a) :: .int .i64 (M.length : Nat) :: .int .i64 (M.length : Nat) :: seenP S, false, mapTag⟩ : Blk), (a, g a, ((M.length : Nat) : Int), ((M.length : Nat) : Int), seenP S), M.length) := by
  have i1 : itAt ⟨t, h, g⟩ fp b (g b) = some ⟨.mp a (g a) :: .int .i64 (M.length : Nat) :: .int .i64 (M.length : Nat) :: seenP S, false, mapTag⟩ := by
    simp only [itAt, liveAt, hf.2, h2, if_true]
    rfl
  have i2 : mapAt ⟨t, h, g⟩ fp a (g a) = some ⟨flatP M, false, mapTag⟩ := by
    simp only [mapAt, liveAt, hf.1, h1, if_true, isIt_flatP]
    rfl
  simp only [toCome, i1, itOf, i2, flatP_len, Nat.mul_div_cancel_left _ (show 0 < 2 by omega)]
  simp
noncomputable abbrev psT : Cs := tbl [(10, sp1 ModelC), (11, sp2 RegionC), (17, sp2 PrModelC), (23, sp2 InsideC), (26, sp1 MRight), (20, sp1 SizeC), (16, sp2 ModelsC), (24, sp3 Eval), (27, sp2 ListC), (28, sp1 LeavesC), (18, sp0 (some true))]
attribute [simp] isIt_flatP aOk_flatP
theorem run_step (A B : Blk) (ps qs : List Piece) (L : AV) (n1 i0 : Int) (k : Nat) (hk1 : k < ps.length) (hk2 : k < qs.length) (hl : ps.length ≤ 31 ∧ qs.length ≤ 31) (M : List (Piece × Int)) (hM : InvP M (ps.take k) (qs.take k)) (fs : List Fr) (Q : Post) (g : Nat → Nat)
    (hQ : ∀ M' : List (Piece × Int), InvP M' (ps.take (k + 1)) (qs.take (k + 1)) → kont psT fs Q .normal ⟨[(7, .ptr 7 (g 7) 0), (8, .ptr 8 (g 8) 0), (14, .lst ps.length (encL ps)), (15, .lst qs.length (encL qs)), (16, .mp 118 (g 118)), (74, L), (75, .int .i64 n1), (76, .int .i64 i0), (120, .int .i64 ps.length), (121, .int .i64 k)], [(7, A), (8, B), (118, ⟨flatP M', false, mapTag⟩)], g⟩) :
    run psT c6_44 fs ⟨[(7, .ptr 7 (g 7) 0), (8, .ptr 8 (g 8) 0), (14, .lst ps.length (encL ps)), (15, .lst qs.length (encL qs)), (16, .mp 118 (g 118)), (17, .int .i64 k), (74, L), (75, .int .i64 n1), (76, .int .i64 i0), (120, .int .i64 ps.length), (121, .int .i64 k)], [(7, A), (8, B), (118, ⟨flatP M, false, mapTag⟩)], g⟩ Q := by
  have hx : rd (encL ps) (k * 11) 11 true = some (Arg.enc ps[k]) := rd_row ps k hk1
  have hy : rd (encL qs) (k * 11) 11 true = some (Arg.enc qs[k]) := rd_row qs k hk2
  have hS := hM.step ps[k] qs[k]
  rw [← List.take_succ_eq_append_getElem hk1, ← List.take_succ_eq_append_getElem hk2] at hS
  have hq := hQ _ hS
  have s1 := hM.small ps[k]
  have s1' := hM.small qs[k]
  simp only [List.length_take] at s1 s1'
  have s2 := getP_setP ps[k] qs[k] (getP ps[k] M + 1) M
  generalize ps[k] = x at *
  generalize qs[k] = y at *
  rw [enc_Piece] at hx hy
  have w1 : IntKind.i64.wrap (getP x M + 1) = getP x M + 1 := wrap64 (by omega) (by omega)
  have w2 : IntKind.i64.wrap (getP y (setP x (getP x M + 1) M) - 1) = getP y (setP x (getP x M + 1) M) - 1 := wrap64 (by rw [s2]; split <;> omega) (by rw [s2]; split <;> omega)
  have hi1 : Go.Am.ints [.int .i64 x.box.s0.lo, .int .i64 x.box.s0.hi, .int .i64 x.box.s1.lo, .int .i64 x.box.s1.hi, .int .i64 x.box.s2.lo, .int .i64 x.box.s2.hi, .int .i64 x.box.s3.lo, .int .i64 x.box.s3.hi, .int .i64 x.box.s4.lo, .int .i64 x.box.s4.hi, .int .i64 x.value] = some (nsP x) := rfl
  have hi2 : Go.Am.ints [.int .i64 y.box.s0.lo, .int .i64 y.box.s0.hi, .int .i64 y.box.s1.lo, .int .i64 y.box.s1.hi, .int .i64 y.box.s2.lo, .int .i64 y.box.s2.hi, .int .i64 y.box.s3.lo, .int .i64 y.box.s3.hi, .int .i64 y.box.s4.lo, .int .i64 y.box.s4.hi, .int .i64 y.value] = some (nsP y) := rfl
  have hn1 : (nsP x).length = 11 := rfl
  have hn2 : (nsP y).length = 11 := rfl
  have hg1 := mget_flatP x M
  have e1 := ent_flatP x M
  have hl1 := flatP_len M
  have hh1 : 2 * M.length / 2 = M.length := by omega
  generalize hM1 : setP x (getP x M + 1) M = M1 at *
  have hg2 := mget_flatP y M1
  have e2 := ent_flatP y M1
  have hl2 := flatP_len M1
  have hh2 : 2 * M1.length / 2 = M1.length := by omega
  unfold aggP at e1 e2
  have v1 : (flatP M).length % 2 = 0 := by omega
  have v2 : (flatP M1).length % 2 = 0 := by omega
  rcases e1 with ⟨j1, a1, a2, a3⟩ | ⟨a1, a2, a3, a4⟩
  · have a3' := a3 (getP x M + 1)
    rw [hM1] at a3'
    rcases e2 with ⟨j2, b1, b2, b3⟩ | ⟨b1, b2, b3, b4⟩
    · have b3' := b3 (getP y M1 - 1)
      simp -implicitDefEqProofs [hk1, hk2, hx, hy, hi1, hi2, hn1, hn2, hg1, hg2, a1, a2, a3', b1, b2, b3', w1, w2, v1, v2]
      exact hq
    · have b4' := b4 (getP y M1 - 1)
      simp -implicitDefEqProofs [hk1, hk2, hx, hy, hi1, hi2, hn1, hn2, hg1, hg2, a1, a2, a3', b1, b2, b3, b4', w1, w2, v1, hl2, hh2]
      exact hq
  · have a4' := a4 (getP x M + 1)
    rw [hM1] at a4'
    rcases e2 with ⟨j2, b1, b2, b3⟩ | ⟨b1, b2, b3, b4⟩
    · have b3' := b3 (getP y M1 - 1)
      simp -implicitDefEqProofs [hk1, hk2, hx, hy, hi1, hi2, hn1, hn2, hg1, hg2, a1, a2, a3, a4', b1, b2, b3', w1, w2, v2, hl1, hh1]
      exact hq
    · have b4' := b4 (getP y M1 - 1)
      simp -implicitDefEqProofs [hk1, hk2, hx, hy, hi1, hi2, hn1, hn2, hg1, hg2, a1, a2, a3, a4', b1, b2, b3, b4', w1, w2, hl1, hh1, hl2, hh2]
      exact hq
theorem isIt_mpP (b g : Nat) (l : List AV) : isIt (.mp b g :: l) = true := rfl
theorem nodup_leP : ∀ (n : Nat) (S : List Nat), S.Nodup → (∀ i ∈ S, i < n) → S.length ≤ n := nodup_len
theorem run_counts (A B C : Blk) (ps qs : List Piece) (hp : ps.Perm qs) (hl : ps.length ≤ 31) (L : AV) (n1 i0 : Int) (fs : List Fr) (Q : Post) (g : Nat → Nat)
    (hQ : ∀ (g : Nat → Nat) (D E : Blk), kont psT fs Q .normal ⟨[(7, .ptr 7 (g 7) 0), (8, .ptr 8 (g 8) 0), (74, L), (75, .int .i64 n1), (76, .int .i64 i0), (144, .ptr 144 (g 144) 0), (146, .bool false)], [(7, A), (8, B), (118, D), (144, E)], g⟩) :
    run psT c6_73 fs ⟨[(7, .ptr 7 (g 7) 0), (8, .ptr 8 (g 8) 0), (14, .lst ps.length (encL ps)), (15, .lst qs.length (encL qs)), (74, L), (75, .int .i64 n1), (76, .int .i64 i0), (117, .bool false)], [(7, A), (8, B), (13, C)], g⟩ Q := by
  have b1 : ps.length ≤ maxN := by unfold maxN; omega
  have hlq := hp.length_eq
  simp -implicitDefEqProofs [b1]
  refine run_while (c := c6_50) (fun n s => ∃ (k : Nat) (M : List (Piece × Int)) (g : Nat → Nat), k + n = ps.length ∧ InvP M (ps.take k) (qs.take k) ∧ s = ⟨[(7, .ptr 7 (g 7) 0), (8, .ptr 8 (g 8) 0), (14, .lst ps.length (encL ps)), (15, .lst qs.length (encL qs)), (16, .mp 118 (g 118)), (74, L), (75, .int .i64 n1), (76, .int .i64 i0), (120, .int .i64 ps.length), (121, .int .i64 k)], [(7, A), (8, B), (118, ⟨flatP M, false, mapTag⟩)], g⟩) ps.length
    ⟨0, [], bump 118 g, by omega, InvP.nil, by simp [flatP]⟩ ?_
  rintro n s ⟨k, M, g, hk, hM, rfl⟩
  by_cases h1 : k < ps.length
  · have w1 : IntKind.i64.wrap ((k : Int) + 1) = (k : Int) + 1 := wrap64 (by omega) (by omega)
    simp -implicitDefEqProofs [h1, -r6_44]
    refine run_step A B ps qs L n1 i0 k h1 (by omega) ⟨hl, by omega⟩ M hM _ _ _ ?_
    intro M' hM'
    simp -implicitDefEqProofs [w1]
    refine ⟨n - 1, by omega, k + 1, by omega, M', hM', ?_⟩
    simp
  · have hkl : k = ps.length := by omega
    subst hkl
    rw [List.take_length, hlq, List.take_length] at hM
    have hzero := hM.zero hp
    have hh : 2 * M.length / 2 = M.length := by omega
    have hl2 := flatP_len M
    simp -implicitDefEqProofs [h1, hl2, hh]
    refine run_while (c := c6_67) (fun n s => ∃ (S : List Nat) (g : Nat → Nat), n + S.length = M.length ∧ S.Nodup ∧ (∀ i ∈ S, i < M.length) ∧ s = ⟨[(7, .ptr 7 (g 7) 0), (8, .ptr 8 (g 8) 0), (74, L), (75, .int .i64 n1), (76, .int .i64 i0), (144, .ptr 144 (g 144) 0)], [(7, A), (8, B), (118, ⟨flatP M, false, mapTag⟩), (144, ⟨.mp 118 (g 118) :: .int .i64 (M.length : Nat) :: .int .i64 (M.length : Nat) :: seenP S, false, mapTag⟩)], g⟩) M.length
      ⟨[], bump 144 g, by simp, by simp, by simp, by simp [seenP]⟩ ?_
    rintro n s ⟨S, g, hn, hS, hlt, rfl⟩
    rw [r6_67, run_seq, r6_56]
    refine run_next _ _ _ _ _ (toCome_P _ _ _ M S 118 144 _ ⟨rfl, rfl⟩ rfl rfl) ?_ ?_
    · intro i hi hne
      have hiS : i ∉ S := fun hm => hne (.int .i64 (i : Int)) (List.mem_map.2 ⟨i, hm, rfl⟩) rfl
      have hent := entV_flatP M S i hi
      have hz : M[i].2 = 0 := hzero M[i] (List.getElem_mem hi)
      have hsv := seenP_append S i
      have hS2 : (S ++ [i]).Nodup := by
        rw [List.nodup_append]
        exact ⟨hS, by simp, fun a ha b hb => by simp at hb; subst hb; intro e; subst e; exact hiS ha⟩
      have hlt2 : ∀ j ∈ S ++ [i], j < M.length := by
        intro j hj
        rcases List.mem_append.1 hj with hj | hj
        · exact hlt j hj
        · simp at hj; subst hj; exact hi
      have hSl2 := nodup_leP M.length _ hS2 hlt2
      rw [List.length_append, List.length_singleton] at hSl2
      simp -implicitDefEqProofs [itMore, itAt, itOf, hent, hz, isIt_mpP]
      exact ⟨n - 1, by omega, S ++ [i], by simp; omega, hS2, hlt2, by simp [hsv]⟩
    · intro hall
      simp -implicitDefEqProofs
      exact hQ g _ _
theorem tree_facts {m : Model} (hm : RM m) {b : Box} (hbok : okB b) (hbe : b.empty = false) (i : Nat) (h1 : i < (pruneM m b).trees.length) (h2 : i < m.trees.length) :
    ∃ (ps qs : List Piece) (ls : List Int), (pruneM m b).trees[i].cls = m.trees[i].cls ∧ ListC (pruneM m b).trees[i].nodes b = some ps ∧ ListC m.trees[i].nodes b = some qs ∧ LeavesC (pruneM m b).trees[i].nodes = some ls ∧ ps.Perm qs ∧ ps.length = ls.length ∧ ps.length ≤ 31 := by
  have e : (pruneM m b).trees[i] = prF b m.trees[i] := by simp [pruneM]
  have hr := hm.rt (List.getElem_mem h2)
  have hr2 := pruneT_right hr b
  rw [e]
  refine ⟨pieces (pruneT m.trees[i].nodes b) b, pieces m.trees[i].nodes b, _, rfl, ?_, ?_, part_of ⟨_, hr2⟩ _, pieces_prune hr hbe, (leaves_prune hr hbe).symm, ?_⟩
  · unfold ListC prF
    rw [part_of ⟨⟨_, hr2⟩, hbok⟩, hbe]
    rfl
  · unfold ListC
    rw [part_of ⟨⟨_, hr⟩, hbok⟩, hbe]
    rfl
  · have := piecesTo_len (pruneT m.trees[i].nodes b) b (pruneT m.trees[i].nodes b).length
    have := hr2.le
    unfold pieces
    unfold piecesTo at *
    omega
theorem cell_cls (l : List Tree) (i : Nat) (h : i < l.length) : rd (encL l) (i * 2) 1 false = some (.int .i64 l[i].cls) := by
  have := rd_cell l i 0 h (by simp)
  simpa using this
theorem cell_nodes (l : List Tree) (i : Nat) (h : i < l.length) : rd (encL l) (i * 2 + 1) 1 false = some (.lst l[i].nodes.length (encL l[i].nodes)) := by
  have := rd_cell l i 1 h (by simp)
  simpa using this
theorem runs_law (f : Forest) (l q : List Int) (c : Bool) (h : some true = some c) : Runs psT a6 [Arg.enc f, Arg.enc l, Arg.enc q] (Arg.enc c) := by
  cases h
  refine ⟨rfl, fun g => run_def ?_⟩
  have hm := rm_modelOf f
  have hM : ModelC f = some (modelOf f) := rfl
  generalize modelOf f = m at *
  have hR : RegionC m l = some (regionOf m.dim l) := part_of hm.dim _
  obtain ⟨hbok, hbe, s0, s1, s2, s3⟩ := okB_region m.dim l
  generalize regionOf m.dim l = b at *
  have hI : InsideC b q = some (insideOf b q) := part_of ⟨s0, s1, s2, s3⟩ _
  have hin := inside_in hbe q
  generalize insideOf b q = p at *
  have hP1 : PrModelC m b = some (pruneM m b) := by unfold PrModelC; rw [part_of ⟨hm, hbok⟩, hbe]; rfl
  have r1 := rm_prune hm b
  have hP2 : PrModelC (pruneM m b) b = some (pruneM m b) := by unfold PrModelC; rw [part_of ⟨r1, hbok⟩, hbe, pruneM_twice hm hbe hbe (fun i _ _ => ⟨Int.le_refl _, Int.le_refl _⟩)]; rfl
  have hRt : MRight (pruneM m b) = some true := by unfold MRight; rw [if_neg (by have := r1.dim; omega)]; exact part_of r1 _
  have hS1 := r1.size
  have hS2 := hm.size
  have hz : ¬ sizeM m < sizeM (pruneM m b) := by have := size_prune hm b; omega
  have hE : ModelsC (pruneM m b) (pruneM m b) = some true := part_of ⟨rfl, r1.trees⟩ _
  have hev1 : ∀ c, Eval (pruneM m b) c p = some (evalX m c p) := fun c => by
    rw [← evalX_prune hm hin]
    exact part_of r1 _
  have hev2 : ∀ c, Eval m c p = some (evalX m c p) := fun c => part_of hm _
  have hlen : (pruneM m b).trees.length = m.trees.length := by simp [pruneM]
  have htf := tree_facts hm hbok hbe
  have hle := hm.trees
  have hcl := hm.classes
  generalize pruneM m b = x at *
  have hlt : ((x.trees.length : Int) = (m.trees.length : Int)) = True := eq_true (by rw [hlen])
  have b1 : x.trees.length ≤ maxN := by unfold maxN; omega
  have b2 : m.trees.length ≤ maxN := by unfold maxN; omega
  unfold a6
  simp -implicitDefEqProofs [hM, hR, hI, hP1, hP2, hRt, hS1, hS2, hz, hE, hlt, b1, b2]
  refine run_while (c := c6_22) (fun n s => ∃ (i : Nat) (g : Nat → Nat), i + n = m.classes.toNat ∧ s = ⟨[(7, .ptr 7 (g 7) 0), (8, .ptr 8 (g 8) 0), (9, .ptr 9 (g 9) 0), (10, .ptr 10 (g 10) 0), (11, .int .i64 i)], [(7, ⟨Row.enc m, false, 0⟩), (8, ⟨Row.enc b, false, 0⟩), (9, ⟨Row.enc x, false, 0⟩), (10, ⟨Row.enc p, false, 0⟩)], g⟩) m.classes.toNat
    ⟨0, bump 10 (bump 9 (bump 8 (bump 7 (bump 3 g)))), by omega, by simp⟩ ?_
  rintro n s ⟨i, g, hi, rfl⟩
  by_cases h1 : (i : Int) < m.classes
  case pos =>
    have w1 : IntKind.i64.wrap ((i : Int) + 1) = (i : Int) + 1 := wrap64 (by omega) (by omega)
    simp -implicitDefEqProofs [h1, hev1, hev2, w1]
    exact ⟨n - 1, by omega, i + 1, by omega, by omega⟩
  case neg =>
    simp -implicitDefEqProofs [h1, b1]
    refine run_while (c := c6_81) (fun n s => ∃ (i : Nat) (g : Nat → Nat), i + n = x.trees.length ∧ s = ⟨[(7, .ptr 7 (g 7) 0), (8, .ptr 8 (g 8) 0), (74, .lst x.trees.length (encL x.trees)), (75, .int .i64 x.trees.length), (76, .int .i64 i)], [(7, ⟨Row.enc m, false, 0⟩), (8, ⟨Row.enc b, false, 0⟩)], g⟩) x.trees.length
      ⟨0, g, by omega, by simp⟩ ?_
    rintro n s ⟨i, g, hi, rfl⟩
    by_cases h2 : i < x.trees.length
    case pos =>
      have h3 : i < m.trees.length := by omega
      have w1 : IntKind.i64.wrap ((i : Int) + 1) = (i : Int) + 1 := wrap64 (by omega) (by omega)
      have hr1 := rd_tree x.trees i h2
      have hr2 := cell_cls m.trees i h3
      have hr3 := cell_nodes m.trees i h3
      obtain ⟨ps, qs, ls, e1, e2, e3, e4, e5, e6, e7⟩ := htf i h2 h3
      have d1 : ps.length ≤ maxN := by unfold maxN; omega
      have hqs := e5.length_eq
      have d2 : qs.length ≤ maxN := by unfold maxN; omega
      have d3 : ls.length ≤ maxN := by unfold maxN; omega
      have q1 : ((ps.length : Int) = (ls.length : Int)) = True := eq_true (by rw [e6])
      have q2 : ((ps.length : Int) = (qs.length : Int)) = True := eq_true (by rw [hqs])
      simp -implicitDefEqProofs [h2, h3, hr1, hr2, hr3, e1, e2, e3, e4, d1, d2, d3, q1, q2, -r6_73]
      refine run_counts _ _ _ ps qs e5 e7 _ _ _ _ _ _ ?_
      intro g D E
      simp -implicitDefEqProofs [w1]
      exact ⟨n - 1, by omega, i + 1, by omega, by omega⟩
    case neg =>
      simp -implicitDefEqProofs [h2]
noncomputable def law_sp : List AV → Option AV := sp3 fun (_ : Forest) (_ : List Int) (_ : List Int) => some true
theorem law_holds : Contract Try.prog 6 law_sp :=
  contract_of_runs mixed (tbl_cons c_Model (tbl_cons c_Region (tbl_cons c_prModel (tbl_cons c_Inside (tbl_cons c_mRight (tbl_cons c_Size (tbl_cons c_Models (tbl_cons c_Eval (tbl_cons c_List (tbl_cons c_Leaves (tbl_cons c_closed18 tbl_nil))))))))))) Try.func6 m6 (sp3_runs runs_law)
theorem law_says (f : Forest) (l q : List Int) : law_sp [Arg.enc f, Arg.enc l, Arg.enc q] = some (.bool true) := by
  simp only [law_sp, sp3, Arg.dec_enc, Option.bind_some]
  rfl
end Go.Co
