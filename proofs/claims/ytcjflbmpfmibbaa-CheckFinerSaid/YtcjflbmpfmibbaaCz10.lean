/- CO: texts of this claim, one behind the other. -/
import Derived.Test.YtcjflbmpfmibbaaCz9
import Derived.Test.YtcjflbmpfmibbaaCz5
import Derived.Test.YtcjflbmpfmibbaaCz6
/- CO: the document's own cuts of a box, by a set that is gone through in whatever order. -/
set_option maxHeartbeats 16000000
set_option maxRecDepth 100000
namespace Go.Co
open Go.Am Go.Proofs
set_option linter.unusedSimpArgs false
set_option linter.unusedVariables false
attribute [-simp] Go.Am.eff_gcall
def c52_0 : ACode := .ops [⟨some 4, .box (.t 0) 6, none, []⟩,⟨some 5, .box (.t 1) 17, none, []⟩,⟨some 6, .box (.t 2) 10, none, []⟩,⟨some 8, .mv (.c (.nils)), none, []⟩] [3, 4, 5, 6]
theorem r52_0 : type_of% (@rr _ _ c52_0.eq_1) := rr rfl
def c52_1 : ACode := .ops [⟨some 20, .mv (.t 3), none, []⟩,⟨some 9, .mv (.t 20), none, []⟩] [3, 4, 5, 6, 9]
theorem r52_1 : type_of% (@rr _ _ c52_1.eq_1) := rr rfl
def c52_2 : ACode := .ops [⟨some 21, .mv (.t 3), none, []⟩,⟨some 22, .bin .eql (.t 21) (.c (.int .i64 4)), none, []⟩] [3, 4, 5, 6, 9, 22]
theorem r52_2 : type_of% (@rr _ _ c52_2.eq_1) := rr rfl
def c52_3 : ACode := .ops [⟨some 23, .fad (.t 5) 14, none, [5]⟩,⟨some 24, .load 1 false (.t 23), none, [5]⟩,⟨some 9, .mv (.t 24), none, []⟩] [3, 4, 5, 6, 9]
theorem r52_3 : type_of% (@rr _ _ c52_3.eq_1) := rr rfl
def c52_4 : ACode := .cond (.t 22) c52_3 .skip
theorem r52_4 : type_of% (@rr _ _ c52_4.eq_1) := rr rfl
def c52_5 : ACode := .seq c52_2 c52_4
theorem r52_5 : type_of% (@rr _ _ c52_5.eq_1) := rr rfl
def c52_6 : ACode := .ops [⟨some 25, .mv (.t 3), none, []⟩,⟨some 26, .bin .lss (.t 25) (.c (.int .i64 0)), none, []⟩,⟨some 27, .mv (.t 26), none, []⟩,⟨some 28, .mv (.t 3), some (27, false), []⟩,⟨some 29, .bin .gtr (.t 28) (.c (.int .i64 4)), some (27, false), []⟩,⟨some 30, .pick (.t 27) (.c (.bool true)) (.t 29), none, []⟩,⟨some 31, .mv (.t 30), none, []⟩,⟨some 32, .mv (.t 3), some (31, false), []⟩,⟨some 33, .bin .eql (.t 32) (.c (.int .i64 4)), some (31, false), []⟩,⟨some 34, .mv (.t 33), some (31, false), []⟩,⟨some 35, .fad (.t 5) 0, some (34, true), [5]⟩,⟨some 36, .load 1 false (.t 35), some (34, true), [5]⟩,⟨some 37, .bin .neq (.t 36) (.c (.int .i64 3)), some (34, true), []⟩,⟨some 38, .pick (.t 34) (.t 37) (.c (.bool false)), some (31, false), []⟩,⟨some 39, .pick (.t 31) (.c (.bool true)) (.t 38), none, []⟩] [3, 4, 6, 9, 39]
theorem r52_6 : type_of% (@rr _ _ c52_6.eq_1) := rr rfl
def c52_7 : ACode := .ops [⟨some 8, .mv (.c (.nils)), none, []⟩] [8]
theorem r52_7 : type_of% (@rr _ _ c52_7.eq_1) := rr rfl
def c52_8 : ACode := .seq c52_7 .ret
theorem r52_8 : type_of% (@rr _ _ c52_8.eq_1) := rr rfl
def c52_9 : ACode := .cond (.t 39) c52_8 .skip
theorem r52_9 : type_of% (@rr _ _ c52_9.eq_1) := rr rfl
def c52_10 : ACode := .seq c52_6 c52_9
theorem r52_10 : type_of% (@rr _ _ c52_10.eq_1) := rr rfl
def c52_11 : ACode := .ops [⟨some 40, .mkmap, none, []⟩,⟨some 10, .mv (.t 40), none, []⟩] [3, 4, 6, 9, 10]
theorem r52_11 : type_of% (@rr _ _ c52_11.eq_1) := rr rfl
def c52_12 : ACode := .ops [⟨some 41, .fad (.t 4) 5, none, [4]⟩,⟨some 42, .load 1 false (.t 41), none, [4]⟩,⟨some 43, .len (.t 42), none, []⟩,⟨some 44, .mv (.c (.int .i64 0)), none, []⟩] [3, 6, 9, 10, 42, 43, 44]
theorem r52_12 : type_of% (@rr _ _ c52_12.eq_1) := rr rfl
def c52_13 : ACode := .ops [⟨some 45, .bin .lss (.t 44) (.t 43), none, []⟩] [3, 6, 9, 10, 42, 43, 44, 45]
theorem r52_13 : type_of% (@rr _ _ c52_13.eq_1) := rr rfl
def c52_14 : ACode := .cond (.t 45) .skip (.exit 0)
theorem r52_14 : type_of% (@rr _ _ c52_14.eq_1) := rr rfl
def c52_15 : ACode := .ops [⟨some 46, .ias (.t 42) (.t 44) 2, none, []⟩,⟨some 47, .load 2 true (.t 46), none, []⟩,⟨some 12, .alloc [.int .i64 0, .nils], none, []⟩,⟨none, .store (.t 12) 2 (.t 47), none, [12]⟩] [3, 6, 9, 10, 12, 42, 43, 44]
theorem r52_15 : type_of% (@rr _ _ c52_15.eq_1) := rr rfl
def c52_16 : ACode := .ops [⟨some 48, .fad (.t 12) 1, none, [12]⟩,⟨some 49, .load 1 false (.t 48), none, [12]⟩,⟨some 50, .len (.t 49), none, []⟩,⟨some 51, .mv (.c (.int .i64 0)), none, []⟩] [3, 6, 9, 10, 42, 43, 44, 49, 50, 51]
theorem r52_16 : type_of% (@rr _ _ c52_16.eq_1) := rr rfl
def c52_17 : ACode := .ops [⟨some 52, .bin .lss (.t 51) (.t 50), none, []⟩] [3, 6, 9, 10, 42, 43, 44, 49, 50, 51, 52]
theorem r52_17 : type_of% (@rr _ _ c52_17.eq_1) := rr rfl
def c52_18 : ACode := .cond (.t 52) .skip (.exit 2)
theorem r52_18 : type_of% (@rr _ _ c52_18.eq_1) := rr rfl
def c52_19 : ACode := .ops [⟨some 53, .ias (.t 49) (.t 51) 1, none, []⟩,⟨some 54, .load 1 false (.t 53), none, []⟩,⟨some 14, .mv (.t 54), none, []⟩] [3, 6, 9, 10, 14, 42, 43, 44, 49, 50, 51]
theorem r52_19 : type_of% (@rr _ _ c52_19.eq_1) := rr rfl
def c52_20 : ACode := .ops [⟨some 56, .mv (.t 14), none, []⟩,⟨some 57, .call 104 [.t 56], none, []⟩,⟨some 55, .mv (.t 57), none, []⟩,⟨some 58, .ext (.t 55) 0, none, []⟩,⟨some 59, .ext (.t 55) 1, none, []⟩,⟨some 15, .alloc [.bool false, .int .i64 0, .int .i64 0, .int .i64 0, .int .i64 0, .int .i64 0], none, []⟩,⟨none, .store (.t 15) 6 (.t 58), none, [15]⟩,⟨some 16, .mv (.t 59), none, []⟩] [3, 6, 9, 10, 15, 16, 42, 43, 44, 49, 50, 51]
theorem r52_20 : type_of% (@rr _ _ c52_20.eq_1) := rr rfl
def c52_21 : ACode := .ops [⟨some 60, .mv (.t 16), none, []⟩,⟨some 61, .mv (.t 60), none, []⟩,⟨some 62, .fad (.t 15) 0, some (61, true), [15]⟩,⟨some 63, .load 1 false (.t 62), some (61, true), [15]⟩,⟨some 64, .un .not (.t 63), some (61, true), []⟩,⟨some 65, .pick (.t 61) (.t 64) (.c (.bool false)), none, []⟩,⟨some 66, .mv (.t 65), none, []⟩,⟨some 67, .fad (.t 15) 2, some (66, true), [15]⟩,⟨some 68, .load 1 false (.t 67), some (66, true), [15]⟩,⟨some 69, .mv (.t 9), some (66, true), []⟩,⟨some 70, .bin .eql (.t 68) (.t 69), some (66, true), []⟩,⟨some 71, .pick (.t 66) (.t 70) (.c (.bool false)), none, []⟩,⟨some 72, .mv (.t 71), none, []⟩,⟨some 73, .fad (.t 15) 3, some (72, true), [15]⟩,⟨some 74, .load 1 false (.t 73), some (72, true), [15]⟩,⟨some 75, .mv (.t 3), some (72, true), []⟩,⟨some 76, .iad (.t 6) (.t 75) 2 5, some (72, true), [6]⟩,⟨some 77, .fad (.t 76) 0, some (72, true), [6]⟩,⟨some 78, .load 1 false (.t 77), some (72, true), [6]⟩,⟨some 79, .bin .geq (.t 74) (.t 78), some (72, true), []⟩,⟨some 80, .pick (.t 72) (.t 79) (.c (.bool false)), none, []⟩,⟨some 81, .mv (.t 80), none, []⟩,⟨some 82, .fad (.t 15) 3, some (81, true), [15]⟩,⟨some 83, .load 1 false (.t 82), some (81, true), [15]⟩,⟨some 84, .mv (.t 3), some (81, true), []⟩,⟨some 85, .iad (.t 6) (.t 84) 2 5, some (81, true), [6]⟩,⟨some 86, .fad (.t 85) 1, some (81, true), [6]⟩,⟨some 87, .load 1 false (.t 86), some (81, true), [6]⟩,⟨some 88, .bin .lss (.t 83) (.t 87), some (81, true), []⟩,⟨some 89, .pick (.t 81) (.t 88) (.c (.bool false)), none, []⟩] [3, 6, 9, 10, 15, 42, 43, 44, 49, 50, 51, 89]
theorem r52_21 : type_of% (@rr _ _ c52_21.eq_1) := rr rfl
def c52_22 : ACode := .ops [⟨some 90, .mv (.t 10), none, []⟩,⟨some 91, .fad (.t 15) 3, none, [15]⟩,⟨some 92, .load 1 false (.t 91), none, [15]⟩,⟨none, .mupd (.t 90) (.t 92) (.c (.bool true)), none, [40]⟩] [3, 6, 9, 10, 42, 43, 44, 49, 50, 51]
theorem r52_22 : type_of% (@rr _ _ c52_22.eq_1) := rr rfl
def c52_23 : ACode := .cond (.t 89) c52_22 .skip
theorem r52_23 : type_of% (@rr _ _ c52_23.eq_1) := rr rfl
def c52_24 : ACode := .seq c52_21 c52_23
theorem r52_24 : type_of% (@rr _ _ c52_24.eq_1) := rr rfl
def c52_25 : ACode := .seq c52_20 c52_24
theorem r52_25 : type_of% (@rr _ _ c52_25.eq_1) := rr rfl
def c52_26 : ACode := .seq c52_19 c52_25
theorem r52_26 : type_of% (@rr _ _ c52_26.eq_1) := rr rfl
def c52_27 : ACode := .block 3 c52_26
theorem r52_27 : type_of% (@rr _ _ c52_27.eq_1) := rr rfl
def c52_28 : ACode := .ops [⟨some 93, .bin .add (.t 51) (.c (.int .i64 1)), none, []⟩,⟨some 51, .mv (.t 93), none, []⟩] [3, 6, 9, 10, 42, 43, 44, 49, 50, 51]
theorem r52_28 : type_of% (@rr _ _ c52_28.eq_1) := rr rfl
def c52_29 : ACode := .seq c52_27 c52_28
theorem r52_29 : type_of% (@rr _ _ c52_29.eq_1) := rr rfl
def c52_30 : ACode := .seq c52_18 c52_29
theorem r52_30 : type_of% (@rr _ _ c52_30.eq_1) := rr rfl
def c52_31 : ACode := .seq c52_17 c52_30
theorem r52_31 : type_of% (@rr _ _ c52_31.eq_1) := rr rfl
def c52_32 : ACode := .keep [3, 6, 9, 10, 42, 43, 44, 49, 50, 51] [6, 40] c52_31
theorem r52_32 : type_of% (@rr _ _ c52_32.eq_1) := rr rfl
def c52_33 : ACode := .loop c52_32
theorem r52_33 : type_of% (@rr _ _ c52_33.eq_1) := rr rfl
def c52_34 : ACode := .block 2 c52_33
theorem r52_34 : type_of% (@rr _ _ c52_34.eq_1) := rr rfl
def c52_35 : ACode := .seq c52_16 c52_34
theorem r52_35 : type_of% (@rr _ _ c52_35.eq_1) := rr rfl
def c52_36 : ACode := .seq c52_15 c52_35
theorem r52_36 : type_of% (@rr _ _ c52_36.eq_1) := rr rfl
def c52_37 : ACode := .block 1 c52_36
theorem r52_37 : type_of% (@rr _ _ c52_37.eq_1) := rr rfl
def c52_38 : ACode := .ops [⟨some 94, .bin .add (.t 44) (.c (.int .i64 1)), none, []⟩,⟨some 44, .mv (.t 94), none, []⟩] [3, 6, 9, 10, 42, 43, 44]
theorem r52_38 : type_of% (@rr _ _ c52_38.eq_1) := rr rfl
def c52_39 : ACode := .seq c52_37 c52_38
theorem r52_39 : type_of% (@rr _ _ c52_39.eq_1) := rr rfl
def c52_40 : ACode := .seq c52_14 c52_39
theorem r52_40 : type_of% (@rr _ _ c52_40.eq_1) := rr rfl
def c52_41 : ACode := .seq c52_13 c52_40
theorem r52_41 : type_of% (@rr _ _ c52_41.eq_1) := rr rfl
def c52_42 : ACode := .keep [3, 6, 9, 10, 42, 43, 44] [6, 40] c52_41
theorem r52_42 : type_of% (@rr _ _ c52_42.eq_1) := rr rfl
def c52_43 : ACode := .loop c52_42
theorem r52_43 : type_of% (@rr _ _ c52_43.eq_1) := rr rfl
def c52_44 : ACode := .block 0 c52_43
theorem r52_44 : type_of% (@rr _ _ c52_44.eq_1) := rr rfl
def c52_45 : ACode := .seq c52_12 c52_44
theorem r52_45 : type_of% (@rr _ _ c52_45.eq_1) := rr rfl
def c52_46 : ACode := .ops [⟨some 17, .nil0 17 1, none, []⟩] [10, 17]
theorem r52_46 : type_of% (@rr _ _ c52_46.eq_1) := rr rfl
def c52_47 : ACode := .ops [⟨some 95, .mv (.t 10), none, []⟩,⟨some 96, .mrng (.t 95), none, [40]⟩] [17, 96]
theorem r52_47 : type_of% (@rr _ _ c52_47.eq_1) := rr rfl
def c52_48 : ACode := .next (.t 96) 97 98 [40, 96] [17, 96, 98]
theorem r52_48 : type_of% (@rr _ _ c52_48.eq_1) := rr rfl
def c52_49 : ACode := .cond (.t 98) .skip (.exit 4)
theorem r52_49 : type_of% (@rr _ _ c52_49.eq_1) := rr rfl
def c52_50 : ACode := .ops [⟨some 99, .entry (.t 96), none, [40, 96]⟩,⟨some 100, .ext (.t 99) 0, none, []⟩,⟨some 18, .mv (.t 100), none, []⟩] [17, 18, 96]
theorem r52_50 : type_of% (@rr _ _ c52_50.eq_1) := rr rfl
def c52_51 : ACode := .ops [⟨some 101, .mv (.t 17), none, []⟩,⟨some 102, .len (.t 101), none, [17]⟩,⟨some 19, .mv (.t 102), none, []⟩] [17, 18, 19, 96]
theorem r52_51 : type_of% (@rr _ _ c52_51.eq_1) := rr rfl
def c52_52 : ACode := .ops [⟨some 103, .mv (.t 17), none, []⟩,⟨some 104, .mv (.t 18), none, []⟩,⟨some 105, .mkrow 105 1 1 [.int .i64 0] [(0, 1, .t 104)], none, []⟩,⟨some 106, .app 17 [17] (.t 103) (.t 105) 1, none, [17, 105]⟩,⟨some 17, .mv (.t 106), none, []⟩] [17, 18, 19, 96]
theorem r52_52 : type_of% (@rr _ _ c52_52.eq_1) := rr rfl
def c52_53 : ACode := .ops [⟨some 107, .mv (.t 19), none, []⟩,⟨some 108, .bin .gtr (.t 107) (.c (.int .i64 0)), none, []⟩,⟨some 109, .mv (.t 108), none, []⟩,⟨some 110, .mv (.t 17), some (109, true), []⟩,⟨some 111, .mv (.t 19), some (109, true), []⟩,⟨some 112, .bin .sub (.t 111) (.c (.int .i64 1)), some (109, true), []⟩,⟨some 113, .ias (.t 110) (.t 112) 1, some (109, true), [17]⟩,⟨some 114, .load 1 false (.t 113), some (109, true), [17]⟩,⟨some 115, .mv (.t 18), some (109, true), []⟩,⟨some 116, .bin .gtr (.t 114) (.t 115), some (109, true), []⟩,⟨some 117, .pick (.t 109) (.t 116) (.c (.bool false)), none, []⟩] [17, 18, 19, 96, 117]
theorem r52_53 : type_of% (@rr _ _ c52_53.eq_1) := rr rfl
def c52_54 : ACode := .cond (.t 117) .skip (.exit 6)
theorem r52_54 : type_of% (@rr _ _ c52_54.eq_1) := rr rfl
def c52_55 : ACode := .seq c52_53 c52_54
theorem r52_55 : type_of% (@rr _ _ c52_55.eq_1) := rr rfl
def c52_56 : ACode := .ops [⟨some 118, .mv (.t 17), none, []⟩,⟨some 119, .mv (.t 19), none, []⟩,⟨some 120, .mv (.t 17), none, []⟩,⟨some 121, .mv (.t 19), none, []⟩,⟨some 122, .bin .sub (.t 121) (.c (.int .i64 1)), none, []⟩,⟨some 123, .ias (.t 120) (.t 122) 1, none, [17]⟩,⟨some 124, .load 1 false (.t 123), none, [17]⟩,⟨some 125, .ias (.t 118) (.t 119) 1, none, [17]⟩,⟨none, .store (.t 125) 1 (.t 124), none, [17]⟩] [17, 18, 19, 96]
theorem r52_56 : type_of% (@rr _ _ c52_56.eq_1) := rr rfl
def c52_57 : ACode := .ops [⟨some 126, .mv (.t 19), none, []⟩,⟨some 127, .bin .sub (.t 126) (.c (.int .i64 1)), none, []⟩,⟨some 19, .mv (.t 127), none, []⟩] [17, 18, 19, 96]
theorem r52_57 : type_of% (@rr _ _ c52_57.eq_1) := rr rfl
def c52_58 : ACode := .seq c52_56 c52_57
theorem r52_58 : type_of% (@rr _ _ c52_58.eq_1) := rr rfl
def c52_59 : ACode := .block 7 c52_58
theorem r52_59 : type_of% (@rr _ _ c52_59.eq_1) := rr rfl
def c52_60 : ACode := .seq c52_55 c52_59
theorem r52_60 : type_of% (@rr _ _ c52_60.eq_1) := rr rfl
def c52_61 : ACode := .keep [17, 18, 19, 96] [17, 40, 96] c52_60
theorem r52_61 : type_of% (@rr _ _ c52_61.eq_1) := rr rfl
def c52_62 : ACode := .loop c52_61
theorem r52_62 : type_of% (@rr _ _ c52_62.eq_1) := rr rfl
def c52_63 : ACode := .block 6 c52_62
theorem r52_63 : type_of% (@rr _ _ c52_63.eq_1) := rr rfl
def c52_64 : ACode := .ops [⟨some 128, .mv (.t 17), none, []⟩,⟨some 129, .mv (.t 19), none, []⟩,⟨some 130, .mv (.t 18), none, []⟩,⟨some 131, .ias (.t 128) (.t 129) 1, none, [17]⟩,⟨none, .store (.t 131) 1 (.t 130), none, [17]⟩] [17, 96]
theorem r52_64 : type_of% (@rr _ _ c52_64.eq_1) := rr rfl
def c52_65 : ACode := .seq c52_63 c52_64
theorem r52_65 : type_of% (@rr _ _ c52_65.eq_1) := rr rfl
def c52_66 : ACode := .seq c52_52 c52_65
theorem r52_66 : type_of% (@rr _ _ c52_66.eq_1) := rr rfl
def c52_67 : ACode := .seq c52_51 c52_66
theorem r52_67 : type_of% (@rr _ _ c52_67.eq_1) := rr rfl
def c52_68 : ACode := .seq c52_50 c52_67
theorem r52_68 : type_of% (@rr _ _ c52_68.eq_1) := rr rfl
def c52_69 : ACode := .block 5 c52_68
theorem r52_69 : type_of% (@rr _ _ c52_69.eq_1) := rr rfl
def c52_70 : ACode := .seq c52_49 c52_69
theorem r52_70 : type_of% (@rr _ _ c52_70.eq_1) := rr rfl
def c52_71 : ACode := .seq c52_48 c52_70
theorem r52_71 : type_of% (@rr _ _ c52_71.eq_1) := rr rfl
def c52_72 : ACode := .keep [17, 96] [17, 40, 96] c52_71
theorem r52_72 : type_of% (@rr _ _ c52_72.eq_1) := rr rfl
def c52_73 : ACode := .loop c52_72
theorem r52_73 : type_of% (@rr _ _ c52_73.eq_1) := rr rfl
def c52_74 : ACode := .block 4 c52_73
theorem r52_74 : type_of% (@rr _ _ c52_74.eq_1) := rr rfl
def c52_75 : ACode := .seq c52_47 c52_74
theorem r52_75 : type_of% (@rr _ _ c52_75.eq_1) := rr rfl
def c52_76 : ACode := .ops [⟨some 132, .mv (.t 17), none, []⟩,⟨some 8, .mv (.t 132), none, []⟩] [8]
theorem r52_76 : type_of% (@rr _ _ c52_76.eq_1) := rr rfl
def c52_77 : ACode := .seq c52_76 .ret
theorem r52_77 : type_of% (@rr _ _ c52_77.eq_1) := rr rfl
def c52_78 : ACode := .seq c52_75 c52_77
theorem r52_78 : type_of% (@rr _ _ c52_78.eq_1) := rr rfl
def c52_79 : ACode := .seq c52_46 c52_78
theorem r52_79 : type_of% (@rr _ _ c52_79.eq_1) := rr rfl
def c52_80 : ACode := .seq c52_45 c52_79
theorem r52_80 : type_of% (@rr _ _ c52_80.eq_1) := rr rfl
def c52_81 : ACode := .seq c52_11 c52_80
theorem r52_81 : type_of% (@rr _ _ c52_81.eq_1) := rr rfl
def c52_82 : ACode := .seq c52_10 c52_81
theorem r52_82 : type_of% (@rr _ _ c52_82.eq_1) := rr rfl
def c52_83 : ACode := .seq c52_5 c52_82
theorem r52_83 : type_of% (@rr _ _ c52_83.eq_1) := rr rfl
def c52_84 : ACode := .seq c52_1 c52_83
theorem r52_84 : type_of% (@rr _ _ c52_84.eq_1) := rr rfl
def c52_85 : ACode := .seq c52_0 c52_84
theorem r52_85 : type_of% (@rr _ _ c52_85.eq_1) := rr rfl
def a52 : AFun := ⟨4, 133, c52_85, [.t 8]⟩
attribute [simp] r52_0 r52_1 r52_2 r52_3 r52_4 r52_5 r52_6 r52_7 r52_8 r52_9 r52_10 r52_11 r52_12 r52_13 r52_14 r52_15 r52_16 r52_17 r52_18 r52_19 r52_20 r52_21 r52_22 r52_23 r52_24 r52_25 r52_26 r52_27 r52_28 r52_29 r52_30 r52_31 r52_32 r52_33 r52_34 r52_35 r52_36 r52_37 r52_38 r52_39 r52_40 r52_41 r52_42 r52_43 r52_44 r52_45 r52_46 r52_47 r52_48 r52_49 r52_50 r52_51 r52_52 r52_53 r52_54 r52_55 r52_56 r52_57 r52_58 r52_59 r52_60 r52_61 r52_62 r52_63 r52_64 r52_65 r52_66 r52_67 r52_68 r52_69 r52_70 r52_71 r52_72 r52_73 r52_74 r52_75 r52_76 r52_77 r52_78 r52_79 r52_80 r52_81 r52_82 r52_83 r52_84 r52_85
theorem m52 : mFun Try.prog Try.f52 a52 = true := by decide +kernel
def isCut (f : Int) (s : Span) (w : Word) : Prop := (nd w).leaf = false ∧ (nd w).feature = f ∧ s.lo ≤ (nd w).cut ∧ (nd w).cut < s.hi
instance (f : Int) (s : Span) (w : Word) : Decidable (isCut f s w) := by unfold isCut; exact inferInstance
def metW (f : Int) (s : Span) (a : List Int) (w : Word) : List Int := if isCut f s w then insB (nd w).cut a else a
def metT (f : Int) (s : Span) (a : List Int) (t : Tree) : List Int := t.nodes.foldl (metW f s) a
def metL (m : Model) (f : Int) (s : Span) : List Int := m.trees.foldl (metT f s) []
theorem mem_ins {n x : Int} {l : List Int} : x ∈ insB n l ↔ x = n ∨ x ∈ l := by
  unfold insB
  split
  · constructor
    · exact .inr
    · rintro (rfl | h)
      · assumption
      · exact h
  · simp [or_comm]
theorem nodup_ins {n : Int} {l : List Int} (h : l.Nodup) : (insB n l).Nodup := by
  unfold insB
  split
  · exact h
  · rename_i hn
    rw [List.nodup_append]
    exact ⟨h, by simp, fun a ha b hb => by simp at hb; subst hb; intro e; subst e; exact hn ha⟩
theorem ins_len {n : Int} {l : List Int} : (insB n l).length ≤ l.length + 1 := by unfold insB; split <;> simp
theorem metW_spec (f : Int) (s : Span) : ∀ (l : List Word) (a : List Int), a.Nodup → (l.foldl (metW f s) a).Nodup ∧ (l.foldl (metW f s) a).length ≤ a.length + l.length ∧ ∀ x, x ∈ l.foldl (metW f s) a ↔ x ∈ a ∨ ∃ w ∈ l, isCut f s w ∧ (nd w).cut = x
  | [], a, h => by simp [h]
  | w :: l, a, h => by
    rw [List.foldl_cons]
    by_cases hc : isCut f s w
    · have e : metW f s a w = insB (nd w).cut a := by unfold metW; rw [if_pos hc]
      rw [e]
      obtain ⟨h1, h2, h3⟩ := metW_spec f s l _ (nodup_ins (n := (nd w).cut) h)
      have := ins_len (n := (nd w).cut) (l := a)
      refine ⟨h1, by simp only [List.length_cons]; omega, fun x => ?_⟩
      rw [h3, mem_ins]
      constructor
      · rintro ((h | h) | ⟨u, hu, h⟩)
        · exact .inr ⟨w, by simp, hc, h.symm⟩
        · exact .inl h
        · exact .inr ⟨u, by simp [hu], h⟩
      · rintro (h | ⟨u, hu, h, h'⟩)
        · exact .inl (.inr h)
        · rcases List.mem_cons.1 hu with rfl | hu
          · exact .inl (.inl h'.symm)
          · exact .inr ⟨u, hu, h, h'⟩
    · have e : metW f s a w = a := by unfold metW; rw [if_neg hc]
      rw [e]
      obtain ⟨h1, h2, h3⟩ := metW_spec f s l a h
      refine ⟨h1, by simp only [List.length_cons]; omega, fun x => ?_⟩
      rw [h3]
      constructor
      · rintro (h | ⟨u, hu, h⟩)
        · exact .inl h
        · exact .inr ⟨u, by simp [hu], h⟩
      · rintro (h | ⟨u, hu, h, h'⟩)
        · exact .inl h
        · rcases List.mem_cons.1 hu with rfl | hu
          · exact absurd h hc
          · exact .inr ⟨u, hu, h, h'⟩
theorem metT_spec (f : Int) (s : Span) : ∀ (l : List Tree) (a : List Int), (∀ t ∈ l, t.nodes.length ≤ 31) → a.Nodup → (l.foldl (metT f s) a).Nodup ∧ (l.foldl (metT f s) a).length ≤ a.length + 31 * l.length ∧ ∀ x, x ∈ l.foldl (metT f s) a ↔ x ∈ a ∨ ∃ t ∈ l, ∃ w ∈ t.nodes, isCut f s w ∧ (nd w).cut = x
  | [], a, _, h => by simp [h]
  | t :: l, a, ht, h => by
    rw [List.foldl_cons]
    obtain ⟨g1, g2, g3⟩ := metW_spec f s t.nodes a h
    obtain ⟨h1, h2, h3⟩ := metT_spec f s l (metT f s a t) (fun x hx => ht x (by simp [hx])) g1
    have h31 := ht t (by simp)
    have g2' : (metT f s a t).length ≤ a.length + t.nodes.length := g2
    refine ⟨h1, by simp only [List.length_cons]; omega, fun x => ?_⟩
    rw [h3]
    constructor
    · rintro (h | ⟨u, hu, h⟩)
      · rcases (g3 x).1 h with h | h
        · exact .inl h
        · exact .inr ⟨t, by simp, h⟩
      · exact .inr ⟨u, by simp [hu], h⟩
    · rintro (h | ⟨u, hu, h⟩)
      · exact .inl ((g3 x).2 (.inl h))
      · rcases List.mem_cons.1 hu with rfl | hu
        · exact .inl ((g3 x).2 (.inr h))
        · exact .inr ⟨u, hu, h⟩
theorem rt31 {m : Model} (hm : RM m) {t : Tree} (h : t ∈ m.trees) : t.nodes.length ≤ 31 := (hm.tree t h).2.2.le
theorem sorted_ext : ∀ {a b : List Int}, a.Pairwise (· < ·) → b.Pairwise (· < ·) → (∀ x, x ∈ a ↔ x ∈ b) → a = b
  | [], [], _, _, _ => rfl
  | [], y :: b, _, _, h => by have := (h y).2 (by simp); simp at this
  | x :: a, [], _, _, h => by have := (h x).1 (by simp); simp at this
  | x :: a, y :: b, ha, hb, h => by
    rw [List.pairwise_cons] at ha hb
    have hxy : x = y := by
      rcases List.mem_cons.1 ((h x).1 (by simp)) with e | e
      · exact e
      · rcases List.mem_cons.1 ((h y).2 (by simp)) with e' | e'
        · exact e'.symm
        · have := hb.1 x e; have := ha.1 y e'; omega
    subst hxy
    rw [sorted_ext ha.2 hb.2 fun z => ?_]
    constructor
    · intro hz
      rcases List.mem_cons.1 ((h z).1 (by simp [hz])) with e | e
      · have := ha.1 z hz; omega
      · exact e
    · intro hz
      rcases List.mem_cons.1 ((h z).2 (by simp [hz])) with e | e
      · have := hb.1 z hz; omega
      · exact e
theorem met_cuts {m : Model} (hm : RM m) {q : Query} {b : Box} {place : Int} (h0 : ¬ place < 0) (h4 : ¬ 4 < place) (hk : place = 4 → q.kind = 3) {l : List Int} (hl : l.Pairwise (· < ·))
    (hx : ∀ x, x ∈ l ↔ x ∈ metL m (if place = 4 then q.feature else place) (b.get place)) : l = cutsL m q b place := by
  have hf : featOf q place = if place = 4 then q.feature else place := by
    unfold featOf
    by_cases e : place = 4
    · rw [if_neg (by omega), if_pos ⟨e, hk e⟩, if_pos e]
    · rw [if_pos (by omega), if_neg e]
  refine sorted_ext hl (cuts_sorted m q b place) fun x => ?_
  rw [hx]
  unfold metL
  rw [(metT_spec _ _ _ [] (fun t ht => rt31 hm ht) (by simp)).2.2 x]
  unfold cutsL
  rw [← hf]
  generalize featOf q place = f
  split
  · rename_i hneg
    constructor
    · rintro (h | ⟨t, ht, w, hw, ⟨h1, h2, _⟩, _⟩)
      · simp at h
      · obtain ⟨i, hi, rfl⟩ := List.getElem_of_mem hw
        have := (hm.rt ht).feature hi (by rw [ndAt_lt hi]; exact h1)
        rw [ndAt_lt hi] at this
        omega
    · intro h; simp at h
  · rw [List.mem_filter, mem_thr]
    constructor
    · rintro (h | ⟨t, ht, w, hw, ⟨h1, h2, h3, h4⟩, h5⟩)
      · simp at h
      · exact ⟨⟨t, ht, w, hw, h1, h2, h5⟩, by unfold outS; simp; omega⟩
    · rintro ⟨⟨t, ht, w, hw, h1, h2, h5⟩, h6⟩
      unfold outS at h6
      simp at h6
      exact .inr ⟨t, ht, w, hw, ⟨h1, h2, by omega, by omega⟩, h5⟩
theorem set_mid {α : Type} (a b : List α) (y t : α) (i : Nat) (h : i = a.length) : (a ++ y :: b).set i t = a ++ t :: b := by
  subst h
  simp
theorem ins_sorted {l : List Int} {t : Int} (hl : l.Pairwise (· < ·)) (ht : t ∉ l) {i : Nat} (hi : i ≤ l.length) (h1 : ∀ h : 0 < i, l[i - 1]'(by omega) ≤ t) (h2 : ∀ x ∈ l.drop i, t < x) : (l.take i ++ t :: l.drop i).Pairwise (· < ·) := by
  have hs : (l.take i ++ l.drop i).Pairwise (· < ·) := by rw [List.take_append_drop]; exact hl
  rw [List.pairwise_append] at hs ⊢
  have key : ∀ x ∈ l.take i, x < t := by
    intro x hx
    by_cases h0 : 0 < i
    · have hlt := h1 h0
      obtain ⟨j, hj, rfl⟩ := List.getElem_of_mem hx
      simp only [List.length_take] at hj
      rw [List.getElem_take]
      have hne : l[j] ≠ t := fun e => ht (e ▸ List.getElem_mem _)
      by_cases e : j = i - 1
      · subst e
        omega
      · have := List.pairwise_iff_getElem.1 hl j (i - 1) (by omega) (by omega) (by omega)
        omega
    · have : i = 0 := by omega
      subst this
      simp at hx
  refine ⟨hs.1, List.pairwise_cons.2 ⟨h2, hs.2.1⟩, fun a ha b hb => ?_⟩
  rcases List.mem_cons.1 hb with rfl | hb
  · exact key a ha
  · exact hs.2.2 a ha b hb
theorem mem_mid {l : List Int} {t : Int} {i : Nat} {x : Int} : x ∈ l.take i ++ t :: l.drop i ↔ x = t ∨ x ∈ l := by
  rw [List.mem_append, List.mem_cons]
  have : x ∈ l ↔ x ∈ l.take i ∨ x ∈ l.drop i := by rw [← List.mem_append, List.take_append_drop]
  rw [this]
  constructor
  · rintro (h | h | h)
    · exact .inr (.inl h)
    · exact .inl h
    · exact .inr (.inr h)
  · rintro (h | h | h)
    · exact .inr (.inl h)
    · exact .inl h
    · exact .inr (.inr h)
theorem mid_len {l : List Int} {t : Int} {i : Nat} (h : i ≤ l.length) : (l.take i ++ t :: l.drop i).length = l.length + 1 := by simp; omega
theorem mid_get {l : List Int} {y : Int} {i : Nat} (h : i < l.length) (hy : i < (l.take (i + 1) ++ y :: l.drop (i + 1)).length) : (l.take (i + 1) ++ y :: l.drop (i + 1))[i] = l[i] := by
  rw [List.getElem_append_left (by simp; omega), List.getElem_take]
theorem mid_step {l : List Int} {y : Int} {i : Nat} (h : i < l.length) : (l.take (i + 1) ++ y :: l.drop (i + 1)).set (i + 1) l[i] = l.take i ++ l[i] :: l.drop i := by
  rw [set_mid _ _ _ _ _ (by simp; omega), List.take_succ_eq_append_getElem h, List.append_assoc, List.drop_eq_getElem_cons h]
  rfl
theorem run_ins (C : Cs) (K : List Fr) (Q : Post) (out : List Int) (t : Int) (V : AV) (B D : Blk) (h : Hp) (g : Nat → Nat) (w : Nat) (hw0 : w = g 17) (hl : out.length ≤ 100000)
    (hk : keepH h [17, 40, 96] = [(17, ⟨iv (out ++ [t]), false, 1⟩), (40, B), (96, D)])
    (hQ : ∀ i, i ≤ out.length → (∀ h : 0 < i, ∀ hh : i - 1 < out.length, out[i - 1] ≤ t) → (∀ x ∈ out.drop i, t < x) → kont C K Q .normal ⟨[(17, .own 17 w 0 (out.length + 1)), (96, V)], [(17, ⟨iv (out.take i ++ t :: out.drop i), false, 1⟩), (40, B), (96, D)], g⟩) :
    run C c52_65 K ⟨[(17, .own 17 w 0 (out.length + 1)), (18, .int .i64 t), (19, .int .i64 out.length), (96, V)], h, g⟩ Q := by
  subst hw0
  simp -implicitDefEqProofs only [r52_65, r52_63, r52_62, run_seq, run_block]
  refine run_while (c := c52_60) (fun n s => ∃ (i : Nat) (y : Int), i = n ∧ i ≤ out.length ∧ (∀ x ∈ out.drop i, t < x) ∧ s = ⟨[(17, .own 17 (g 17) 0 (out.length + 1)), (18, .int .i64 t), (19, .int .i64 i), (96, V)], [(17, ⟨iv (out.take i ++ y :: out.drop i), false, 1⟩), (40, B), (96, D)], g⟩) out.length ⟨out.length, t, rfl, Nat.le_refl _, by simp, by simp only [hk]; simp⟩ ?_
  rintro n s ⟨i, y, rfl, hi, hd, rfl⟩
  have hlen : (out.take i ++ y :: out.drop i).length = out.length + 1 := mid_len hi
  cases i with
  | zero =>
    have hq := hQ 0 (by omega) (fun h => absurd h (by omega)) hd
    have hw : wr (iv (y :: out)) 0 [.int .i64 t] = iv (t :: out) := by
      have := wr_iv (y :: out) 0 (by simp) t
      simpa using this
    simp only [List.take_zero, List.drop_zero, List.nil_append] at hq
    simp -implicitDefEqProofs [hw]
    exact hq
  | succ i =>
    have hi' : i < out.length := by omega
    have w1 : IntKind.i64.wrap ((((i + 1 : Nat)) : Int) - 1) = (i : Int) := by rw [wrap64 (by omega) (by omega)]; omega
    have w1' : IntKind.i64.wrap ((i : Int) + 1 - 1) = (i : Int) := by rw [wrap64 (by omega) (by omega)]; omega
    have hrd : rd (iv (out.take (i + 1) ++ y :: out.drop (i + 1))) i 1 false = some (.int .i64 out[i]) := by
      rw [rd_iv _ i (by rw [hlen]; omega), mid_get hi']
    have c1 : (0 : Int) < (i : Int) + 1 := by omega
    have c2 : (i : Int) < (out.length : Int) + 1 := by omega
    have c3 : (i : Int) + 1 < (out.length : Int) + 1 := by omega
    have c4 : (0 : Int) ≤ (i : Int) + 1 := by omega
    have c5 : ((i : Int) + 1).toNat = i + 1 := by omega
    have hRl : i + 1 + 1 ≤ (iv (out.take (i + 1) ++ y :: out.drop (i + 1))).length := by rw [len_iv, hlen]; omega
    have w0 : IntKind.i64.wrap (i : Int) = (i : Int) := wrap64 (by omega) (by omega)
    by_cases hlt : t < out[i]
    case pos =>
      have hw : wr (iv (out.take (i + 1) ++ y :: out.drop (i + 1))) (i + 1) [.int .i64 out[i]] = iv (out.take i ++ out[i] :: out.drop i) := by
        rw [wr_iv _ _ (by rw [hlen]; omega), mid_step hi']
      have hd2 : ∀ x ∈ out.drop i, t < x := by
        rw [List.drop_eq_getElem_cons hi']
        intro x hx
        rcases List.mem_cons.1 hx with rfl | hx
        · exact hlt
        · exact hd x hx
      generalize iv (out.take (i + 1) ++ y :: out.drop (i + 1)) = R at *
      simp -implicitDefEqProofs [hRl, w0, w1, w1', hrd, c1, c2, c3, c4, c5, hlt, hw]
      exact ⟨i, by omega, by omega, hd2, rfl, out[i], rfl⟩
    case neg =>
      have hq := hQ (i + 1) hi (fun _ hh => by have : out[i + 1 - 1] = out[i] := rfl; omega) hd
      have hw : wr (iv (out.take (i + 1) ++ y :: out.drop (i + 1))) (i + 1) [.int .i64 t] = iv (out.take (i + 1) ++ t :: out.drop (i + 1)) := by
        rw [wr_iv _ _ (by rw [hlen]; omega), set_mid _ _ _ _ _ (by simp; omega)]
      generalize iv (out.take (i + 1) ++ y :: out.drop (i + 1)) = R at *
      simp -implicitDefEqProofs [hRl, w0, w1, w1', hrd, c1, c2, c3, c4, c5, hlt, hw]
      exact hq
def seenV (S : List Nat) : List AV := S.map fun (i : Nat) => AV.int IntKind.i64 (i : Int)
theorem seenV_append (S : List Nat) (i : Nat) : seenV (S ++ [i]) = seenV S ++ [.int .i64 (i : Int)] := by simp [seenV]
theorem entV_flatB (M : List Int) (S : List Nat) (i : Nat) (h : i < M.length) : entV (flatB M) (M.length : Nat) (seenV S ++ [.int .i64 (i : Int)]) = some (.tup [.int .i64 M[i], .bool true]) := by
  obtain ⟨h1, h2⟩ := flatB_get M i h
  unfold entV
  rw [List.getLast?_concat]
  simp only [flatB_len, Nat.mul_div_cancel_left _ (show 0 < 2 by omega), Int.toNat_natCast]
  rw [if_pos ⟨trivial, by omega⟩, h1, h2]
theorem nodup_le : ∀ (n : Nat) (S : List Nat), S.Nodup → (∀ i ∈ S, i < n) → S.length ≤ n
  | 0, S, _, h => by
    cases S with
    | nil => simp
    | cons a S => have := h a (by simp); omega
  | n + 1, S, hn, h => by
    by_cases hm : n ∈ S
    · have h1 := nodup_le n (S.erase n) (hn.erase n) fun i hi => by
        have h2 := (hn.mem_erase_iff).1 hi
        have := h i h2.2
        have := h2.1
        omega
      rw [List.length_erase_of_mem hm] at h1
      omega
    · have h1 := nodup_le n S hn fun i hi => by
        have := h i hi
        have : i ≠ n := fun e => hm (e ▸ hi)
        omega
      omega
@[simp] theorem isIt_mp (b g : Nat) (l : List AV) : isIt (.mp b g :: l) = true := rfl
theorem toCome_set (t : Env) (h : Hp) (g : Nat → Nat) (M : List Int) (S : List Nat) (a b : Nat) (fp : List Nat) (hf : fp.contains a = true ∧ fp.contains b = true) (h1 : hlook h a = some ⟨flatB M, false, mapTag⟩)
    (h2 : hlook h b = some ⟨.mp a (g a) :: .int .i64 (M.length : Nat) :: .int .i64 (M.length : Nat) :: seenV S, false, mapTag⟩) :
    toCome ⟨t, h, g⟩ fp (.ptr b (g b) 0) = some (b, (⟨.mp a (g a) :: .int .i64 (M.length : Nat) :: .int .i64 (M.length : Nat) :: seenV S, false, mapTag⟩ : Blk), (a, g a, ((M.length : Nat) : Int), ((M.length : Nat) : Int), seenV S), M.length) := by
  have i1 : itAt ⟨t, h, g⟩ fp b (g b) = some ⟨.mp a (g a) :: .int .i64 (M.length : Nat) :: .int .i64 (M.length : Nat) :: seenV S, false, mapTag⟩ := by
    simp only [itAt, liveAt, hf.2, h2, if_true]
    rfl
  have i2 : mapAt ⟨t, h, g⟩ fp a (g a) = some ⟨flatB M, false, mapTag⟩ := by
    simp only [mapAt, liveAt, hf.1, h1, if_true, isIt_flatB]
    rfl
  simp only [toCome, i1, itOf, i2, flatB_len, Nat.mul_div_cancel_left _ (show 0 < 2 by omega)]
  simp
noncomputable def RCutsC (m : Model) (q : Query) (b : Box) (place : Int) : Option (List Int) := Part (RM m) (cutsL m q b place)
def metTo (m : Model) (f : Int) (s : Span) (i k : Nat) (l : List Word) : List Int := (l.take k).foldl (metW f s) ((m.trees.take i).foldl (metT f s) [])
theorem metTo_zero (m : Model) (f : Int) (s : Span) (i : Nat) (l : List Word) : metTo m f s i 0 l = (m.trees.take i).foldl (metT f s) [] := by simp [metTo]
theorem metTo_some {m : Model} {f : Int} {s : Span} {i k : Nat} {l : List Word} (h : k < l.length) (hc : isCut f s l[k]) : metTo m f s i (k + 1) l = insB (nd l[k]).cut (metTo m f s i k l) := by
  unfold metTo
  rw [List.take_succ_eq_append_getElem h, List.foldl_append, List.foldl_cons, List.foldl_nil]
  conv => lhs; unfold metW
  rw [if_pos hc]
  rfl
theorem metTo_none {m : Model} {f : Int} {s : Span} {i k : Nat} {l : List Word} (h : k < l.length) (hc : ¬ isCut f s l[k]) : metTo m f s i (k + 1) l = metTo m f s i k l := by
  unfold metTo
  rw [List.take_succ_eq_append_getElem h, List.foldl_append, List.foldl_cons, List.foldl_nil]
  conv => lhs; unfold metW
  rw [if_neg hc]
  rfl
theorem metTo_all {m : Model} {f : Int} {s : Span} {i : Nat} (h : i < m.trees.length) : metTo m f s i m.trees[i].nodes.length m.trees[i].nodes = (m.trees.take (i + 1)).foldl (metT f s) [] := by
  unfold metTo
  rw [List.take_length, List.take_succ_eq_append_getElem h, List.foldl_append]
  rfl
abbrev rcT : Cs := tbl [(104, sp1 Unpack)]
theorem run_rcEnd (M L : List Int) (hM : M.Nodup) (hM2 : M.length ≤ 1000) (hL : ∀ l : List Int, l.Pairwise (· < ·) → (∀ x, x ∈ l ↔ x ∈ M) → l = L) (t : Env) (h : Hp) (g : Nat → Nat) (w : Nat) (hw : w = g 40) (ht : Go.Am.look t 10 = .mp 40 w) (h40 : hlook h 40 = some ⟨flatB M, false, mapTag⟩) :
    run rcT c52_79 [] ⟨t, h, g⟩ (fin a52.res (Arg.enc L)) := by
  subst hw
  unfold a52
  have hh : (2 * M.length / 2 : Nat) = M.length := by omega
  simp -implicitDefEqProofs [h40, hh, ht, hlook_hput]
  refine run_while (c := c52_71) (fun n s => ∃ (S : List Nat) (out : List Int) (g : Nat → Nat), n + S.length = M.length ∧ S.Nodup ∧ (∀ i ∈ S, i < M.length) ∧ out.length = S.length ∧ out.Pairwise (· < ·) ∧ (∀ x, x ∈ out ↔ ∃ i ∈ S, ∃ hi : i < M.length, M[i] = x) ∧ s = ⟨[(17, .own 17 (g 17) 0 out.length), (96, .ptr 96 (g 96) 0)], [(17, ⟨iv out, false, 1⟩), (40, ⟨flatB M, false, mapTag⟩), (96, ⟨.mp 40 (g 40) :: .int .i64 (M.length : Nat) :: .int .i64 (M.length : Nat) :: seenV S, false, mapTag⟩)], g⟩) M.length
    ⟨[], [], bump 96 (bump 17 g), by simp, by simp, by simp, by simp, by simp, by simp, by simp [h40, iv, seenV, hlook_hput]⟩ ?_
  rintro n s ⟨S, out, g, hn, hS, hlt, hol, hos, hox, rfl⟩
  rw [r52_71, run_seq, r52_48]
  refine run_next _ _ _ _ _ (toCome_set _ _ _ M S 40 96 _ ⟨rfl, rfl⟩ rfl rfl) ?_ ?_
  · intro i hi hne
    have hiS : i ∉ S := fun hm => hne (.int .i64 (i : Int)) (List.mem_map.2 ⟨i, hm, rfl⟩) rfl
    have hent := entV_flatB M S i hi
    have hSl := nodup_le M.length S hS hlt
    have hMo : M[i] ∉ out := fun hm => by
      obtain ⟨j, hj, hj2, e⟩ := (hox _).1 hm
      have : j = i := by
        rcases Nat.lt_trichotomy j i with hji | hji | hji
        · exact absurd e (List.pairwise_iff_getElem.1 hM j i hj2 hi hji)
        · exact hji
        · exact absurd e.symm (List.pairwise_iff_getElem.1 hM i j hi hj2 hji)
      subst this
      exact hiS hj
    have c1 : out.length ≤ maxN := by unfold maxN; omega
    have c2 : out.length + 1 ≤ 1099511627776 := by omega
    have c3 : out.length ≤ 1099511627775 := by omega
    have hsv := seenV_append S i
    have hS2 : (S ++ [i]).Nodup := by
      rw [List.nodup_append]
      exact ⟨hS, by simp, fun a ha b hb => by simp at hb; subst hb; intro e; subst e; exact hiS ha⟩
    have hlt2 : ∀ j ∈ S ++ [i], j < M.length := by
      intro j hj
      rcases List.mem_append.1 hj with hj | hj
      · exact hlt j hj
      · simp at hj; subst hj; exact hi
    have hSl2 := nodup_le M.length _ hS2 hlt2
    rw [List.length_append, List.length_singleton] at hSl2
    simp -implicitDefEqProofs [itMore, itAt, itOf, hent, c1, c2, c3, iv_take, -r52_65]
    refine run_ins (out := out) (t := M[i]) (B := ⟨flatB M, false, mapTag⟩) (D := ⟨.mp 40 (g 40) :: .int .i64 (M.length : Nat) :: .int .i64 (M.length : Nat) :: seenV (S ++ [i]), false, mapTag⟩) (hw0 := ?_) (hl := by omega) (hk := ?_) (hQ := ?_)
    · simp
    · simp [iv_append, hsv]
      rfl
    intro j hj hj1 hj2
    simp -implicitDefEqProofs
    refine ⟨n - 1, by omega, S ++ [i], by simp; omega, hS2, hlt2, out.take j ++ M[i] :: out.drop j, by rw [mid_len hj]; simp; omega, ins_sorted hos hMo hj (fun h => hj1 h (by omega)) hj2, ?_, ?_⟩
    · intro x
      rw [mem_mid, hox]
      constructor
      · rintro (rfl | ⟨k, hk, h⟩)
        · exact ⟨i, by simp, hi, rfl⟩
        · exact ⟨k, by simp [hk], h⟩
      · rintro ⟨k, hk, hk2, h⟩
        rcases List.mem_append.1 hk with hk | hk
        · exact .inr ⟨k, hk, hk2, h⟩
        · simp at hk; subst hk; exact .inl h.symm
    · rw [mid_len hj]
      simp
  · intro hall
    have hout : out = L := hL out hos fun x => by
      rw [hox]
      constructor
      · rintro ⟨i, _, hi, rfl⟩; exact List.getElem_mem hi
      · intro hx
        obtain ⟨i, hi, rfl⟩ := List.getElem_of_mem hx
        obtain ⟨y, hy, e⟩ := hall i hi
        obtain ⟨j, hj, rfl⟩ := List.mem_map.1 hy
        have hji : (j : Int) = i := by simpa using e
        have : j = i := by omega
        subst this
        exact ⟨j, hj, hi, rfl⟩
    have hl2 : out.length ≤ (iv out).length := by simp
    have htk := iv_take out
    rw [iv_enc] at htk hl2
    subst hout
    simp -implicitDefEqProofs [iv_enc, htk, hl2]
theorem runs_rCuts (m : Model) (q : Query) (b : Box) (place : Int) (r : List Int) (h : RCutsC m q b place = some r) : Runs rcT a52 [Arg.enc m, Arg.enc q, Arg.enc b, Arg.enc place] (Arg.enc r) := by
  obtain ⟨hr, rfl⟩ := part_some h
  clear h
  refine ⟨rfl, fun g => run_def ?_⟩
  have hend := fun (f : Int) (hf : f = if place = 4 then q.feature else place) (h0 : ¬ place < 0) (h4 : ¬ 4 < place) (hk : place = 4 → q.kind = 3) => run_rcEnd (metL m f (b.get place)) (cutsL m q b place) ((metT_spec f (b.get place) m.trees [] (fun t ht => rt31 hr ht) (by simp)).1) (by
    have := (metT_spec f (b.get place) m.trees [] (fun t ht => rt31 hr ht) (by simp)).2.1
    have := hr.trees
    simp at *
    unfold metL
    omega) (fun l hl hx => met_cuts hr h0 h4 hk hl (by rw [← hf]; exact hx))
  unfold a52
  have hle := hr.trees
  have b3 : m.trees.length ≤ maxN := by unfold maxN; omega
  by_cases h0 : place < 0
  case pos =>
    have e : cutsL m q b place = [] := by unfold cutsL; exact if_pos (by unfold featOf; rw [if_neg (by omega), if_neg (by omega)]; omega)
    have h4' : ¬ place = 4 := by omega
    simp -implicitDefEqProofs [h0, h4', e, encL_nil]
  by_cases h4 : 4 < place
  case pos =>
    have e : cutsL m q b place = [] := by unfold cutsL; exact if_pos (by unfold featOf; rw [if_neg (by omega), if_neg (by omega)]; omega)
    have h4' : ¬ place = 4 := by omega
    simp -implicitDefEqProofs [h0, h4, h4', e, encL_nil]
  by_cases hk : place = 4 ∧ ¬ q.kind = 3
  case pos =>
    have e : cutsL m q b place = [] := by unfold cutsL; exact if_pos (by unfold featOf; rw [if_neg (by omega), if_neg (by omega)]; omega)
    obtain ⟨hk1, hk2⟩ := hk
    subst hk1
    simp -implicitDefEqProofs [hk2, e, encL_nil]
  have hk : place = 4 → q.kind = 3 := fun e => Classical.byContradiction fun h => hk ⟨e, h⟩
  obtain ⟨p, rfl⟩ : ∃ p : Nat, place = p := ⟨place.toNat, by omega⟩
  have hp5 : p < 5 := by omega
  have hlo := rd_nlo b p hp5
  have hhi := rd_nhi b p hp5
  have hlo' : rd (Row.enc b) (p * 2) 1 false = some (.int .i64 (b.get p).lo) := hlo
  have hhi' : rd (Row.enc b) (p * 2 + 1) 1 false = some (.int .i64 (b.get p).hi) := hhi
  have hc5 : (p : Int) < 5 := by omega
  have hp0 : ¬ (p : Int) < 0 := h0
  generalize hF : (if (p : Int) = 4 then q.feature else (p : Int)) = f at *
  have hend := hend f rfl hp0 h4 hk
  generalize hsp : b.get (p : Int) = sp at *
  have main : ∀ (g : Nat → Nat) (Q5 : Blk), run rcT c52_81 [] ⟨[(3, .int .i64 p), (4, .ptr 4 (g 4) 0), (6, .ptr 6 (g 6) 0), (9, .int .i64 f), (39, .bool false)], [(4, ⟨Row.enc m, false, 0⟩), (5, Q5), (6, ⟨Row.enc b, false, 0⟩)], g⟩ (fin a52.res (Arg.enc (cutsL m q b p))) := by
    intro g Q5
    unfold a52 at hend ⊢
    generalize Row.enc b = B at *
    simp -implicitDefEqProofs [b3, -r52_79]
    refine run_while (c := c52_41) (fun n s => ∃ (i : Nat) (g : Nat → Nat), i + n = m.trees.length ∧ s = ⟨[(3, .int .i64 p), (6, .ptr 6 (g 6) 0), (9, .int .i64 f), (10, .mp 40 (g 40)), (42, .lst m.trees.length (encL m.trees)), (43, .int .i64 m.trees.length), (44, .int .i64 i)], [(6, ⟨B, false, 0⟩), (40, ⟨flatB ((m.trees.take i).foldl (metT f sp) []), false, mapTag⟩)], g⟩) m.trees.length ⟨0, bump 40 g, by omega, by simp [flatB]⟩ ?_
    rintro n s ⟨i, g, hi, rfl⟩
    by_cases h1 : i < m.trees.length
    case pos =>
      have w1 : IntKind.i64.wrap ((i : Int) + 1) = (i : Int) + 1 := wrap64 (by omega) (by omega)
      have hrow := rd_tree m.trees i h1
      have hrt := hr.rt (List.getElem_mem h1)
      have hnl := hrt.le
      have b4 : m.trees[i].nodes.length ≤ maxN := by unfold maxN; omega
      simp -implicitDefEqProofs [h1, hrow, b4]
      refine run_while (c := c52_31) (fun n s => ∃ (k : Nat) (g : Nat → Nat), k + n = m.trees[i].nodes.length ∧ s = ⟨[(3, .int .i64 p), (6, .ptr 6 (g 6) 0), (9, .int .i64 f), (10, .mp 40 (g 40)), (42, .lst m.trees.length (encL m.trees)), (43, .int .i64 m.trees.length), (44, .int .i64 i), (49, .lst m.trees[i].nodes.length (encL m.trees[i].nodes)), (50, .int .i64 m.trees[i].nodes.length), (51, .int .i64 k)], [(6, ⟨B, false, 0⟩), (40, ⟨flatB (metTo m f sp i k m.trees[i].nodes), false, mapTag⟩)], g⟩) m.trees[i].nodes.length ⟨0, bump 12 g, by omega, by simp [metTo_zero]⟩ ?_
      rintro n2 s ⟨k, g, hk, rfl⟩
      by_cases h2 : k < m.trees[i].nodes.length
      case pos =>
        have w2 : IntKind.i64.wrap ((k : Int) + 1) = (k : Int) + 1 := wrap64 (by omega) (by omega)
        have hU := unpack_at hrt h2
        have hnd : ndAt m.trees[i].nodes k = nd m.trees[i].nodes[k] := ndAt_lt h2
        rw [hnd] at hU
        by_cases hin : isCut f sp m.trees[i].nodes[k]
        case pos =>
          have hs := metTo_some (m := m) (i := i) h2 hin
          obtain ⟨q1, q2, q3, q4⟩ := hin
          have q3' : (nd m.trees[i].nodes[k]).cut ≥ sp.lo := q3
          simp -implicitDefEqProofs [h2, rd_words, hU, w2, q1, q2, q3, q4, hlo', hhi', hc5, hp0]
          refine ⟨n2 - 1, by omega, k + 1, by omega, ?_⟩; rw [hs]; simp
        case neg =>
          have hs := metTo_none (m := m) (i := i) h2 hin
          cases q1 : (nd m.trees[i].nodes[k]).leaf
          case true =>
            simp -implicitDefEqProofs [h2, rd_words, hU, w2, q1, hlo', hhi', hc5, hp0]
            refine ⟨n2 - 1, by omega, k + 1, by omega, ?_⟩; rw [hs]; simp
          case false =>
            by_cases q2 : (nd m.trees[i].nodes[k]).feature = f
            case neg =>
              simp -implicitDefEqProofs [h2, rd_words, hU, w2, q1, q2, hlo', hhi', hc5, hp0]
              refine ⟨n2 - 1, by omega, k + 1, by omega, ?_⟩; rw [hs]; simp
            case pos =>
              by_cases q3 : sp.lo ≤ (nd m.trees[i].nodes[k]).cut
              case neg =>
                simp -implicitDefEqProofs [h2, rd_words, hU, w2, q1, q2, q3, hlo', hhi', hc5, hp0]
                refine ⟨n2 - 1, by omega, k + 1, by omega, ?_⟩; rw [hs]; simp
              case pos =>
                have q4 : ¬ (nd m.trees[i].nodes[k]).cut < sp.hi := fun q4 => hin ⟨q1, q2, q3, q4⟩
                simp -implicitDefEqProofs [h2, rd_words, hU, w2, q1, q2, q3, q4, hlo', hhi', hc5, hp0]
                refine ⟨n2 - 1, by omega, k + 1, by omega, ?_⟩; rw [hs]; simp
      case neg =>
        have hkl : k = m.trees[i].nodes.length := by omega
        subst hkl
        rw [metTo_all h1]
        simp -implicitDefEqProofs [h2, w1]
        refine ⟨n - 1, by omega, i + 1, by omega, ?_⟩
        simp
    case neg =>
      have hil : i = m.trees.length := by omega
      subst hil
      simp -implicitDefEqProofs [h1, -r52_79]
      exact hend _ _ g _ rfl rfl rfl
  unfold a52 at main
  by_cases e4 : (p : Int) = 4
  case pos =>
    rw [if_pos e4] at hF
    subst hF
    have hk3 := hk e4
    have hp4 : p = 4 := by omega
    subst hp4
    simp -implicitDefEqProofs [hk3, -r52_81]
    exact main (bump 6 (bump 5 (bump 4 g))) _
  case neg =>
    rw [if_neg e4] at hF
    subst hF
    simp -implicitDefEqProofs [e4, hp0, h4, -r52_81]
    exact main (bump 6 (bump 5 (bump 4 g))) _
theorem c_rCuts : Contract Try.prog 52 (sp4 RCutsC) :=
  contract_of_runs mixed (tbl_cons c_rUnpack tbl_nil) Try.func52 m52 (sp4_runs runs_rCuts)
end Go.Co
