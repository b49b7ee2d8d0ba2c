/- The law ModelCells: what its text computes. -/
import Derived.Test.YtcjflbmpfmibbaaCz6
import Derived.Test.YtcjflbmpfmibbaaCz4
set_option maxHeartbeats 16000000
set_option maxRecDepth 100000
namespace Go.Co
open Go.Am Go.Proofs
set_option linter.unusedSimpArgs false
set_option linter.unusedVariables false
attribute [-simp] Go.Am.eff_gcall
def c10_0 : ACode := .ops [⟨some 3, .box (.t 0) 4, none, []⟩,⟨some 4, .box (.t 1) 4, none, []⟩,⟨some 5, .box (.t 2) 4, none, []⟩,⟨some 6, .mv (.c (.bool false)), none, []⟩] [3, 4, 5]
theorem r10_0 : type_of% (@rr _ _ c10_0.eq_1) := rr rfl
def c10_1 : ACode := .ops [⟨some 29, .load 4 true (.t 3), none, [3]⟩,⟨some 30, .call 15 [.t 29], none, []⟩,⟨some 7, .alloc [.int .i64 0, .int .i64 0, .int .i64 0, .int .i64 0, .int .i64 0, .nils], none, []⟩,⟨none, .store (.t 7) 6 (.t 30), none, [7]⟩] [4, 5, 7]
theorem r10_1 : type_of% (@rr _ _ c10_1.eq_1) := rr rfl
def c10_2 : ACode := .ops [⟨some 31, .load 6 true (.t 7), none, [7]⟩,⟨some 32, .call 27 [.t 31], none, []⟩,⟨some 8, .mv (.t 32), none, []⟩] [4, 5, 7, 8]
theorem r10_2 : type_of% (@rr _ _ c10_2.eq_1) := rr rfl
def c10_3 : ACode := .ops [⟨some 33, .mv (.t 8), none, []⟩,⟨some 34, .un .not (.t 33), none, []⟩] [4, 5, 7, 8, 34]
theorem r10_3 : type_of% (@rr _ _ c10_3.eq_1) := rr rfl
def c10_4 : ACode := .ops [⟨some 6, .mv (.c (.bool false)), none, []⟩] [6]
theorem r10_4 : type_of% (@rr _ _ c10_4.eq_1) := rr rfl
def c10_5 : ACode := .seq c10_4 .ret
theorem r10_5 : type_of% (@rr _ _ c10_5.eq_1) := rr rfl
def c10_6 : ACode := .cond (.t 34) c10_5 .skip
theorem r10_6 : type_of% (@rr _ _ c10_6.eq_1) := rr rfl
def c10_7 : ACode := .seq c10_3 c10_6
theorem r10_7 : type_of% (@rr _ _ c10_7.eq_1) := rr rfl
def c10_8 : ACode := .ops [⟨some 9, .mv (.c (.int .i64 0)), none, []⟩] [4, 5, 7, 8, 9]
theorem r10_8 : type_of% (@rr _ _ c10_8.eq_1) := rr rfl
def c10_9 : ACode := .ops [⟨some 35, .mv (.t 9), none, []⟩,⟨some 36, .fad (.t 7) 0, none, [7]⟩,⟨some 37, .load 1 false (.t 36), none, [7]⟩,⟨some 38, .bin .lss (.t 35) (.t 37), none, []⟩] [4, 5, 7, 8, 9, 38]
theorem r10_9 : type_of% (@rr _ _ c10_9.eq_1) := rr rfl
def c10_10 : ACode := .cond (.t 38) .skip (.exit 0)
theorem r10_10 : type_of% (@rr _ _ c10_10.eq_1) := rr rfl
def c10_11 : ACode := .seq c10_9 c10_10
theorem r10_11 : type_of% (@rr _ _ c10_11.eq_1) := rr rfl
def c10_12 : ACode := .ops [⟨some 41, .load 6 true (.t 7), none, [7]⟩,⟨some 42, .mv (.t 9), none, []⟩,⟨some 43, .call 43 [.t 41, .t 42], none, []⟩,⟨some 10, .mv (.t 43), none, []⟩] [4, 5, 7, 8, 9, 10]
theorem r10_12 : type_of% (@rr _ _ c10_12.eq_1) := rr rfl
def c10_13 : ACode := .ops [⟨some 11, .mv (.c (.int .i64 0)), none, []⟩] [4, 5, 7, 8, 9, 10, 11]
theorem r10_13 : type_of% (@rr _ _ c10_13.eq_1) := rr rfl
def c10_14 : ACode := .ops [⟨some 44, .mv (.t 10), none, []⟩,⟨some 45, .len (.t 44), none, []⟩,⟨some 46, .mv (.c (.int .i64 0)), none, []⟩] [4, 5, 7, 8, 9, 10, 11, 44, 45, 46]
theorem r10_14 : type_of% (@rr _ _ c10_14.eq_1) := rr rfl
def c10_15 : ACode := .ops [⟨some 47, .bin .lss (.t 46) (.t 45), none, []⟩] [4, 5, 7, 8, 9, 10, 11, 44, 45, 46, 47]
theorem r10_15 : type_of% (@rr _ _ c10_15.eq_1) := rr rfl
def c10_16 : ACode := .cond (.t 47) .skip (.exit 2)
theorem r10_16 : type_of% (@rr _ _ c10_16.eq_1) := rr rfl
def c10_17 : ACode := .ops [⟨some 48, .mv (.t 46), none, []⟩,⟨some 49, .ias (.t 44) (.t 46) 1, none, []⟩,⟨some 50, .load 1 false (.t 49), none, []⟩,⟨some 12, .mv (.t 48), none, []⟩,⟨some 13, .mv (.t 50), none, []⟩] [4, 5, 7, 8, 9, 10, 11, 12, 13, 44, 45, 46]
theorem r10_17 : type_of% (@rr _ _ c10_17.eq_1) := rr rfl
def c10_18 : ACode := .ops [⟨some 51, .mv (.t 12), none, []⟩,⟨some 52, .bin .gtr (.t 51) (.c (.int .i64 0)), none, []⟩,⟨some 53, .mv (.t 52), none, []⟩,⟨some 54, .mv (.t 10), some (53, true), []⟩,⟨some 55, .mv (.t 12), some (53, true), []⟩,⟨some 56, .bin .sub (.t 55) (.c (.int .i64 1)), some (53, true), []⟩,⟨some 57, .ias (.t 54) (.t 56) 1, some (53, true), []⟩,⟨some 58, .load 1 false (.t 57), some (53, true), []⟩,⟨some 59, .mv (.t 13), some (53, true), []⟩,⟨some 60, .bin .geq (.t 58) (.t 59), some (53, true), []⟩,⟨some 61, .pick (.t 53) (.t 60) (.c (.bool false)), none, []⟩] [4, 5, 7, 8, 9, 10, 11, 13, 44, 45, 46, 61]
theorem r10_18 : type_of% (@rr _ _ c10_18.eq_1) := rr rfl
def c10_19 : ACode := .ops [⟨some 6, .mv (.c (.bool false)), none, []⟩] [6]
theorem r10_19 : type_of% (@rr _ _ c10_19.eq_1) := rr rfl
def c10_20 : ACode := .seq c10_19 .ret
theorem r10_20 : type_of% (@rr _ _ c10_20.eq_1) := rr rfl
def c10_21 : ACode := .cond (.t 61) c10_20 .skip
theorem r10_21 : type_of% (@rr _ _ c10_21.eq_1) := rr rfl
def c10_22 : ACode := .seq c10_18 c10_21
theorem r10_22 : type_of% (@rr _ _ c10_22.eq_1) := rr rfl
def c10_23 : ACode := .ops [⟨some 62, .mv (.t 8), none, []⟩,⟨some 63, .mv (.t 62), none, []⟩,⟨some 64, .mv (.t 9), some (63, true), []⟩,⟨some 65, .iad (.t 4) (.t 64) 1 4, some (63, true), [4]⟩,⟨some 66, .load 1 false (.t 65), some (63, true), [4]⟩,⟨some 67, .mv (.t 13), some (63, true), []⟩,⟨some 68, .bin .leq (.t 66) (.t 67), some (63, true), []⟩,⟨some 69, .mv (.t 9), some (63, true), []⟩,⟨some 70, .iad (.t 5) (.t 69) 1 4, some (63, true), [5]⟩,⟨some 71, .load 1 false (.t 70), some (63, true), [5]⟩,⟨some 72, .mv (.t 13), some (63, true), []⟩,⟨some 73, .bin .leq (.t 71) (.t 72), some (63, true), []⟩,⟨some 74, .eqb false (.t 68) (.t 73), some (63, true), []⟩,⟨some 75, .pick (.t 63) (.t 74) (.c (.bool false)), none, []⟩,⟨some 8, .mv (.t 75), none, []⟩] [4, 5, 7, 8, 9, 10, 11, 13, 44, 45, 46]
theorem r10_23 : type_of% (@rr _ _ c10_23.eq_1) := rr rfl
def c10_24 : ACode := .ops [⟨some 14, .mv (.c (.bool false)), none, []⟩] [4, 5, 7, 8, 9, 10, 11, 13, 14, 44, 45, 46]
theorem r10_24 : type_of% (@rr _ _ c10_24.eq_1) := rr rfl
def c10_25 : ACode := .ops [⟨some 76, .fad (.t 7) 5, none, [7]⟩,⟨some 77, .load 1 false (.t 76), none, [7]⟩,⟨some 78, .len (.t 77), none, []⟩,⟨some 79, .mv (.c (.int .i64 0)), none, []⟩] [4, 5, 7, 8, 9, 10, 11, 13, 14, 44, 45, 46, 77, 78, 79]
theorem r10_25 : type_of% (@rr _ _ c10_25.eq_1) := rr rfl
def c10_26 : ACode := .ops [⟨some 80, .bin .lss (.t 79) (.t 78), none, []⟩] [4, 5, 7, 8, 9, 10, 11, 13, 14, 44, 45, 46, 77, 78, 79, 80]
theorem r10_26 : type_of% (@rr _ _ c10_26.eq_1) := rr rfl
def c10_27 : ACode := .cond (.t 80) .skip (.exit 4)
theorem r10_27 : type_of% (@rr _ _ c10_27.eq_1) := rr rfl
def c10_28 : ACode := .ops [⟨some 81, .ias (.t 77) (.t 79) 2, none, []⟩,⟨some 82, .load 2 true (.t 81), none, []⟩,⟨some 16, .alloc [.int .i64 0, .nils], none, []⟩,⟨none, .store (.t 16) 2 (.t 82), none, [16]⟩] [4, 5, 7, 8, 9, 10, 11, 13, 14, 16, 44, 45, 46, 77, 78, 79]
theorem r10_28 : type_of% (@rr _ _ c10_28.eq_1) := rr rfl
def c10_29 : ACode := .ops [⟨some 83, .fad (.t 16) 1, none, [16]⟩,⟨some 84, .load 1 false (.t 83), none, [16]⟩,⟨some 85, .len (.t 84), none, []⟩,⟨some 86, .mv (.c (.int .i64 0)), none, []⟩] [4, 5, 7, 8, 9, 10, 11, 13, 14, 44, 45, 46, 77, 78, 79, 84, 85, 86]
theorem r10_29 : type_of% (@rr _ _ c10_29.eq_1) := rr rfl
def c10_30 : ACode := .ops [⟨some 87, .bin .lss (.t 86) (.t 85), none, []⟩] [4, 5, 7, 8, 9, 10, 11, 13, 14, 44, 45, 46, 77, 78, 79, 84, 85, 86, 87]
theorem r10_30 : type_of% (@rr _ _ c10_30.eq_1) := rr rfl
def c10_31 : ACode := .cond (.t 87) .skip (.exit 6)
theorem r10_31 : type_of% (@rr _ _ c10_31.eq_1) := rr rfl
def c10_32 : ACode := .ops [⟨some 88, .ias (.t 84) (.t 86) 1, none, []⟩,⟨some 89, .load 1 false (.t 88), none, []⟩,⟨some 18, .mv (.t 89), none, []⟩] [4, 5, 7, 8, 9, 10, 11, 13, 14, 18, 44, 45, 46, 77, 78, 79, 84, 85, 86]
theorem r10_32 : type_of% (@rr _ _ c10_32.eq_1) := rr rfl
def c10_33 : ACode := .ops [⟨some 91, .mv (.t 18), none, []⟩,⟨some 92, .call 20 [.t 91], none, []⟩,⟨some 90, .mv (.t 92), none, []⟩,⟨some 93, .ext (.t 90) 0, none, []⟩,⟨some 94, .ext (.t 90) 1, none, []⟩,⟨some 19, .alloc [.bool false, .int .i64 0, .int .i64 0, .int .i64 0, .int .i64 0, .int .i64 0], none, []⟩,⟨none, .store (.t 19) 6 (.t 93), none, [19]⟩,⟨some 20, .mv (.t 94), none, []⟩] [4, 5, 7, 8, 9, 10, 11, 13, 14, 19, 44, 45, 46, 77, 78, 79, 84, 85, 86]
theorem r10_33 : type_of% (@rr _ _ c10_33.eq_1) := rr rfl
def c10_34 : ACode := .ops [⟨some 95, .mv (.t 14), none, []⟩,⟨some 96, .mv (.t 95), none, []⟩,⟨some 97, .fad (.t 19) 0, some (96, false), [19]⟩,⟨some 98, .load 1 false (.t 97), some (96, false), [19]⟩,⟨some 99, .un .not (.t 98), some (96, false), []⟩,⟨some 100, .mv (.t 99), some (96, false), []⟩,⟨some 101, .fad (.t 19) 2, some (100, true), [19]⟩,⟨some 102, .load 1 false (.t 101), some (100, true), [19]⟩,⟨some 103, .mv (.t 9), some (100, true), []⟩,⟨some 104, .bin .eql (.t 102) (.t 103), some (100, true), []⟩,⟨some 105, .pick (.t 100) (.t 104) (.c (.bool false)), some (96, false), []⟩,⟨some 106, .mv (.t 105), some (96, false), []⟩,⟨some 107, .fad (.t 19) 3, some (106, true), [19]⟩,⟨some 108, .load 1 false (.t 107), some (106, true), [19]⟩,⟨some 109, .mv (.t 13), some (106, true), []⟩,⟨some 110, .bin .eql (.t 108) (.t 109), some (106, true), []⟩,⟨some 111, .pick (.t 106) (.t 110) (.c (.bool false)), some (96, false), []⟩,⟨some 112, .pick (.t 96) (.c (.bool true)) (.t 111), none, []⟩,⟨some 14, .mv (.t 112), none, []⟩] [4, 5, 7, 8, 9, 10, 11, 13, 14, 44, 45, 46, 77, 78, 79, 84, 85, 86]
theorem r10_34 : type_of% (@rr _ _ c10_34.eq_1) := rr rfl
def c10_35 : ACode := .seq c10_33 c10_34
theorem r10_35 : type_of% (@rr _ _ c10_35.eq_1) := rr rfl
def c10_36 : ACode := .seq c10_32 c10_35
theorem r10_36 : type_of% (@rr _ _ c10_36.eq_1) := rr rfl
def c10_37 : ACode := .block 7 c10_36
theorem r10_37 : type_of% (@rr _ _ c10_37.eq_1) := rr rfl
def c10_38 : ACode := .ops [⟨some 113, .bin .add (.t 86) (.c (.int .i64 1)), none, []⟩,⟨some 86, .mv (.t 113), none, []⟩] [4, 5, 7, 8, 9, 10, 11, 13, 14, 44, 45, 46, 77, 78, 79, 84, 85, 86]
theorem r10_38 : type_of% (@rr _ _ c10_38.eq_1) := rr rfl
def c10_39 : ACode := .seq c10_37 c10_38
theorem r10_39 : type_of% (@rr _ _ c10_39.eq_1) := rr rfl
def c10_40 : ACode := .seq c10_31 c10_39
theorem r10_40 : type_of% (@rr _ _ c10_40.eq_1) := rr rfl
def c10_41 : ACode := .seq c10_30 c10_40
theorem r10_41 : type_of% (@rr _ _ c10_41.eq_1) := rr rfl
def c10_42 : ACode := .keep [4, 5, 7, 8, 9, 10, 11, 13, 14, 44, 45, 46, 77, 78, 79, 84, 85, 86] [4, 5, 7] c10_41
theorem r10_42 : type_of% (@rr _ _ c10_42.eq_1) := rr rfl
def c10_43 : ACode := .loop c10_42
theorem r10_43 : type_of% (@rr _ _ c10_43.eq_1) := rr rfl
def c10_44 : ACode := .block 6 c10_43
theorem r10_44 : type_of% (@rr _ _ c10_44.eq_1) := rr rfl
def c10_45 : ACode := .seq c10_29 c10_44
theorem r10_45 : type_of% (@rr _ _ c10_45.eq_1) := rr rfl
def c10_46 : ACode := .seq c10_28 c10_45
theorem r10_46 : type_of% (@rr _ _ c10_46.eq_1) := rr rfl
def c10_47 : ACode := .block 5 c10_46
theorem r10_47 : type_of% (@rr _ _ c10_47.eq_1) := rr rfl
def c10_48 : ACode := .ops [⟨some 114, .bin .add (.t 79) (.c (.int .i64 1)), none, []⟩,⟨some 79, .mv (.t 114), none, []⟩] [4, 5, 7, 8, 9, 10, 11, 13, 14, 44, 45, 46, 77, 78, 79]
theorem r10_48 : type_of% (@rr _ _ c10_48.eq_1) := rr rfl
def c10_49 : ACode := .seq c10_47 c10_48
theorem r10_49 : type_of% (@rr _ _ c10_49.eq_1) := rr rfl
def c10_50 : ACode := .seq c10_27 c10_49
theorem r10_50 : type_of% (@rr _ _ c10_50.eq_1) := rr rfl
def c10_51 : ACode := .seq c10_26 c10_50
theorem r10_51 : type_of% (@rr _ _ c10_51.eq_1) := rr rfl
def c10_52 : ACode := .keep [4, 5, 7, 8, 9, 10, 11, 13, 14, 44, 45, 46, 77, 78, 79] [4, 5, 7] c10_51
theorem r10_52 : type_of% (@rr _ _ c10_52.eq_1) := rr rfl
def c10_53 : ACode := .loop c10_52
theorem r10_53 : type_of% (@rr _ _ c10_53.eq_1) := rr rfl
def c10_54 : ACode := .block 4 c10_53
theorem r10_54 : type_of% (@rr _ _ c10_54.eq_1) := rr rfl
def c10_55 : ACode := .seq c10_25 c10_54
theorem r10_55 : type_of% (@rr _ _ c10_55.eq_1) := rr rfl
def c10_56 : ACode := .ops [⟨some 115, .mv (.t 14), none, []⟩,⟨some 116, .un .not (.t 115), none, []⟩] [4, 5, 7, 8, 9, 10, 11, 44, 45, 46, 116]
theorem r10_56 : type_of% (@rr _ _ c10_56.eq_1) := rr rfl
def c10_57 : ACode := .ops [⟨some 6, .mv (.c (.bool false)), none, []⟩] [6]
theorem r10_57 : type_of% (@rr _ _ c10_57.eq_1) := rr rfl
def c10_58 : ACode := .seq c10_57 .ret
theorem r10_58 : type_of% (@rr _ _ c10_58.eq_1) := rr rfl
def c10_59 : ACode := .cond (.t 116) c10_58 .skip
theorem r10_59 : type_of% (@rr _ _ c10_59.eq_1) := rr rfl
def c10_60 : ACode := .seq c10_56 c10_59
theorem r10_60 : type_of% (@rr _ _ c10_60.eq_1) := rr rfl
def c10_61 : ACode := .ops [⟨some 117, .mv (.t 11), none, []⟩,⟨some 118, .bin .add (.t 117) (.c (.int .i64 1)), none, []⟩,⟨some 11, .mv (.t 118), none, []⟩] [4, 5, 7, 8, 9, 10, 11, 44, 45, 46]
theorem r10_61 : type_of% (@rr _ _ c10_61.eq_1) := rr rfl
def c10_62 : ACode := .seq c10_60 c10_61
theorem r10_62 : type_of% (@rr _ _ c10_62.eq_1) := rr rfl
def c10_63 : ACode := .seq c10_55 c10_62
theorem r10_63 : type_of% (@rr _ _ c10_63.eq_1) := rr rfl
def c10_64 : ACode := .seq c10_24 c10_63
theorem r10_64 : type_of% (@rr _ _ c10_64.eq_1) := rr rfl
def c10_65 : ACode := .seq c10_23 c10_64
theorem r10_65 : type_of% (@rr _ _ c10_65.eq_1) := rr rfl
def c10_66 : ACode := .seq c10_22 c10_65
theorem r10_66 : type_of% (@rr _ _ c10_66.eq_1) := rr rfl
def c10_67 : ACode := .seq c10_17 c10_66
theorem r10_67 : type_of% (@rr _ _ c10_67.eq_1) := rr rfl
def c10_68 : ACode := .block 3 c10_67
theorem r10_68 : type_of% (@rr _ _ c10_68.eq_1) := rr rfl
def c10_69 : ACode := .ops [⟨some 119, .bin .add (.t 46) (.c (.int .i64 1)), none, []⟩,⟨some 46, .mv (.t 119), none, []⟩] [4, 5, 7, 8, 9, 10, 11, 44, 45, 46]
theorem r10_69 : type_of% (@rr _ _ c10_69.eq_1) := rr rfl
def c10_70 : ACode := .seq c10_68 c10_69
theorem r10_70 : type_of% (@rr _ _ c10_70.eq_1) := rr rfl
def c10_71 : ACode := .seq c10_16 c10_70
theorem r10_71 : type_of% (@rr _ _ c10_71.eq_1) := rr rfl
def c10_72 : ACode := .seq c10_15 c10_71
theorem r10_72 : type_of% (@rr _ _ c10_72.eq_1) := rr rfl
def c10_73 : ACode := .keep [4, 5, 7, 8, 9, 10, 11, 44, 45, 46] [4, 5, 7] c10_72
theorem r10_73 : type_of% (@rr _ _ c10_73.eq_1) := rr rfl
def c10_74 : ACode := .loop c10_73
theorem r10_74 : type_of% (@rr _ _ c10_74.eq_1) := rr rfl
def c10_75 : ACode := .block 2 c10_74
theorem r10_75 : type_of% (@rr _ _ c10_75.eq_1) := rr rfl
def c10_76 : ACode := .seq c10_14 c10_75
theorem r10_76 : type_of% (@rr _ _ c10_76.eq_1) := rr rfl
def c10_77 : ACode := .ops [⟨some 120, .mkmap, none, []⟩,⟨some 21, .mv (.t 120), none, []⟩] [4, 5, 7, 8, 9, 11, 21]
theorem r10_77 : type_of% (@rr _ _ c10_77.eq_1) := rr rfl
def c10_78 : ACode := .ops [⟨some 121, .fad (.t 7) 5, none, [7]⟩,⟨some 122, .load 1 false (.t 121), none, [7]⟩,⟨some 123, .len (.t 122), none, []⟩,⟨some 124, .mv (.c (.int .i64 0)), none, []⟩] [4, 5, 7, 8, 9, 11, 21, 122, 123, 124]
theorem r10_78 : type_of% (@rr _ _ c10_78.eq_1) := rr rfl
def c10_79 : ACode := .ops [⟨some 125, .bin .lss (.t 124) (.t 123), none, []⟩] [4, 5, 7, 8, 9, 11, 21, 122, 123, 124, 125]
theorem r10_79 : type_of% (@rr _ _ c10_79.eq_1) := rr rfl
def c10_80 : ACode := .cond (.t 125) .skip (.exit 8)
theorem r10_80 : type_of% (@rr _ _ c10_80.eq_1) := rr rfl
def c10_81 : ACode := .ops [⟨some 126, .ias (.t 122) (.t 124) 2, none, []⟩,⟨some 127, .load 2 true (.t 126), none, []⟩,⟨some 23, .alloc [.int .i64 0, .nils], none, []⟩,⟨none, .store (.t 23) 2 (.t 127), none, [23]⟩] [4, 5, 7, 8, 9, 11, 21, 23, 122, 123, 124]
theorem r10_81 : type_of% (@rr _ _ c10_81.eq_1) := rr rfl
def c10_82 : ACode := .ops [⟨some 128, .fad (.t 23) 1, none, [23]⟩,⟨some 129, .load 1 false (.t 128), none, [23]⟩,⟨some 130, .len (.t 129), none, []⟩,⟨some 131, .mv (.c (.int .i64 0)), none, []⟩] [4, 5, 7, 8, 9, 11, 21, 122, 123, 124, 129, 130, 131]
theorem r10_82 : type_of% (@rr _ _ c10_82.eq_1) := rr rfl
def c10_83 : ACode := .ops [⟨some 132, .bin .lss (.t 131) (.t 130), none, []⟩] [4, 5, 7, 8, 9, 11, 21, 122, 123, 124, 129, 130, 131, 132]
theorem r10_83 : type_of% (@rr _ _ c10_83.eq_1) := rr rfl
def c10_84 : ACode := .cond (.t 132) .skip (.exit 10)
theorem r10_84 : type_of% (@rr _ _ c10_84.eq_1) := rr rfl
def c10_85 : ACode := .ops [⟨some 133, .ias (.t 129) (.t 131) 1, none, []⟩,⟨some 134, .load 1 false (.t 133), none, []⟩,⟨some 25, .mv (.t 134), none, []⟩] [4, 5, 7, 8, 9, 11, 21, 25, 122, 123, 124, 129, 130, 131]
theorem r10_85 : type_of% (@rr _ _ c10_85.eq_1) := rr rfl
def c10_86 : ACode := .ops [⟨some 136, .mv (.t 25), none, []⟩,⟨some 137, .call 20 [.t 136], none, []⟩,⟨some 135, .mv (.t 137), none, []⟩,⟨some 138, .ext (.t 135) 0, none, []⟩,⟨some 139, .ext (.t 135) 1, none, []⟩,⟨some 26, .alloc [.bool false, .int .i64 0, .int .i64 0, .int .i64 0, .int .i64 0, .int .i64 0], none, []⟩,⟨none, .store (.t 26) 6 (.t 138), none, [26]⟩,⟨some 27, .mv (.t 139), none, []⟩] [4, 5, 7, 8, 9, 11, 21, 26, 122, 123, 124, 129, 130, 131]
theorem r10_86 : type_of% (@rr _ _ c10_86.eq_1) := rr rfl
def c10_87 : ACode := .ops [⟨some 140, .fad (.t 26) 0, none, [26]⟩,⟨some 141, .load 1 false (.t 140), none, [26]⟩,⟨some 142, .un .not (.t 141), none, []⟩,⟨some 143, .mv (.t 142), none, []⟩,⟨some 144, .fad (.t 26) 2, some (143, true), [26]⟩,⟨some 145, .load 1 false (.t 144), some (143, true), [26]⟩,⟨some 146, .mv (.t 9), some (143, true), []⟩,⟨some 147, .bin .eql (.t 145) (.t 146), some (143, true), []⟩,⟨some 148, .pick (.t 143) (.t 147) (.c (.bool false)), none, []⟩] [4, 5, 7, 8, 9, 11, 21, 26, 122, 123, 124, 129, 130, 131, 148]
theorem r10_87 : type_of% (@rr _ _ c10_87.eq_1) := rr rfl
def c10_88 : ACode := .ops [⟨some 149, .mv (.t 21), none, []⟩,⟨some 150, .fad (.t 26) 3, none, [26]⟩,⟨some 151, .load 1 false (.t 150), none, [26]⟩,⟨none, .mupd (.t 149) (.t 151) (.c (.bool true)), none, [120]⟩] [4, 5, 7, 8, 9, 11, 21, 122, 123, 124, 129, 130, 131]
theorem r10_88 : type_of% (@rr _ _ c10_88.eq_1) := rr rfl
def c10_89 : ACode := .cond (.t 148) c10_88 .skip
theorem r10_89 : type_of% (@rr _ _ c10_89.eq_1) := rr rfl
def c10_90 : ACode := .seq c10_87 c10_89
theorem r10_90 : type_of% (@rr _ _ c10_90.eq_1) := rr rfl
def c10_91 : ACode := .seq c10_86 c10_90
theorem r10_91 : type_of% (@rr _ _ c10_91.eq_1) := rr rfl
def c10_92 : ACode := .seq c10_85 c10_91
theorem r10_92 : type_of% (@rr _ _ c10_92.eq_1) := rr rfl
def c10_93 : ACode := .block 11 c10_92
theorem r10_93 : type_of% (@rr _ _ c10_93.eq_1) := rr rfl
def c10_94 : ACode := .ops [⟨some 152, .bin .add (.t 131) (.c (.int .i64 1)), none, []⟩,⟨some 131, .mv (.t 152), none, []⟩] [4, 5, 7, 8, 9, 11, 21, 122, 123, 124, 129, 130, 131]
theorem r10_94 : type_of% (@rr _ _ c10_94.eq_1) := rr rfl
def c10_95 : ACode := .seq c10_93 c10_94
theorem r10_95 : type_of% (@rr _ _ c10_95.eq_1) := rr rfl
def c10_96 : ACode := .seq c10_84 c10_95
theorem r10_96 : type_of% (@rr _ _ c10_96.eq_1) := rr rfl
def c10_97 : ACode := .seq c10_83 c10_96
theorem r10_97 : type_of% (@rr _ _ c10_97.eq_1) := rr rfl
def c10_98 : ACode := .keep [4, 5, 7, 8, 9, 11, 21, 122, 123, 124, 129, 130, 131] [4, 5, 7, 120] c10_97
theorem r10_98 : type_of% (@rr _ _ c10_98.eq_1) := rr rfl
def c10_99 : ACode := .loop c10_98
theorem r10_99 : type_of% (@rr _ _ c10_99.eq_1) := rr rfl
def c10_100 : ACode := .block 10 c10_99
theorem r10_100 : type_of% (@rr _ _ c10_100.eq_1) := rr rfl
def c10_101 : ACode := .seq c10_82 c10_100
theorem r10_101 : type_of% (@rr _ _ c10_101.eq_1) := rr rfl
def c10_102 : ACode := .seq c10_81 c10_101
theorem r10_102 : type_of% (@rr _ _ c10_102.eq_1) := rr rfl
def c10_103 : ACode := .block 9 c10_102
theorem r10_103 : type_of% (@rr _ _ c10_103.eq_1) := rr rfl
def c10_104 : ACode := .ops [⟨some 153, .bin .add (.t 124) (.c (.int .i64 1)), none, []⟩,⟨some 124, .mv (.t 153), none, []⟩] [4, 5, 7, 8, 9, 11, 21, 122, 123, 124]
theorem r10_104 : type_of% (@rr _ _ c10_104.eq_1) := rr rfl
def c10_105 : ACode := .seq c10_103 c10_104
theorem r10_105 : type_of% (@rr _ _ c10_105.eq_1) := rr rfl
def c10_106 : ACode := .seq c10_80 c10_105
theorem r10_106 : type_of% (@rr _ _ c10_106.eq_1) := rr rfl
def c10_107 : ACode := .seq c10_79 c10_106
theorem r10_107 : type_of% (@rr _ _ c10_107.eq_1) := rr rfl
def c10_108 : ACode := .keep [4, 5, 7, 8, 9, 11, 21, 122, 123, 124] [4, 5, 7, 120] c10_107
theorem r10_108 : type_of% (@rr _ _ c10_108.eq_1) := rr rfl
def c10_109 : ACode := .loop c10_108
theorem r10_109 : type_of% (@rr _ _ c10_109.eq_1) := rr rfl
def c10_110 : ACode := .block 8 c10_109
theorem r10_110 : type_of% (@rr _ _ c10_110.eq_1) := rr rfl
def c10_111 : ACode := .seq c10_78 c10_110
theorem r10_111 : type_of% (@rr _ _ c10_111.eq_1) := rr rfl
def c10_112 : ACode := .ops [⟨some 154, .mv (.t 11), none, []⟩,⟨some 155, .mv (.t 21), none, []⟩,⟨some 156, .mlen (.t 155), none, [120]⟩,⟨some 157, .bin .neq (.t 154) (.t 156), none, []⟩] [4, 5, 7, 8, 9, 157]
theorem r10_112 : type_of% (@rr _ _ c10_112.eq_1) := rr rfl
def c10_113 : ACode := .ops [⟨some 6, .mv (.c (.bool false)), none, []⟩] [6]
theorem r10_113 : type_of% (@rr _ _ c10_113.eq_1) := rr rfl
def c10_114 : ACode := .seq c10_113 .ret
theorem r10_114 : type_of% (@rr _ _ c10_114.eq_1) := rr rfl
def c10_115 : ACode := .cond (.t 157) c10_114 .skip
theorem r10_115 : type_of% (@rr _ _ c10_115.eq_1) := rr rfl
def c10_116 : ACode := .seq c10_112 c10_115
theorem r10_116 : type_of% (@rr _ _ c10_116.eq_1) := rr rfl
def c10_117 : ACode := .seq c10_111 c10_116
theorem r10_117 : type_of% (@rr _ _ c10_117.eq_1) := rr rfl
def c10_118 : ACode := .seq c10_77 c10_117
theorem r10_118 : type_of% (@rr _ _ c10_118.eq_1) := rr rfl
def c10_119 : ACode := .seq c10_76 c10_118
theorem r10_119 : type_of% (@rr _ _ c10_119.eq_1) := rr rfl
def c10_120 : ACode := .seq c10_13 c10_119
theorem r10_120 : type_of% (@rr _ _ c10_120.eq_1) := rr rfl
def c10_121 : ACode := .seq c10_12 c10_120
theorem r10_121 : type_of% (@rr _ _ c10_121.eq_1) := rr rfl
def c10_122 : ACode := .block 1 c10_121
theorem r10_122 : type_of% (@rr _ _ c10_122.eq_1) := rr rfl
def c10_123 : ACode := .ops [⟨some 39, .mv (.t 9), none, []⟩,⟨some 40, .bin .add (.t 39) (.c (.int .i64 1)), none, []⟩,⟨some 9, .mv (.t 40), none, []⟩] [4, 5, 7, 8, 9]
theorem r10_123 : type_of% (@rr _ _ c10_123.eq_1) := rr rfl
def c10_124 : ACode := .seq c10_122 c10_123
theorem r10_124 : type_of% (@rr _ _ c10_124.eq_1) := rr rfl
def c10_125 : ACode := .seq c10_11 c10_124
theorem r10_125 : type_of% (@rr _ _ c10_125.eq_1) := rr rfl
def c10_126 : ACode := .keep [4, 5, 7, 8, 9] [4, 5, 7] c10_125
theorem r10_126 : type_of% (@rr _ _ c10_126.eq_1) := rr rfl
def c10_127 : ACode := .loop c10_126
theorem r10_127 : type_of% (@rr _ _ c10_127.eq_1) := rr rfl
def c10_128 : ACode := .block 0 c10_127
theorem r10_128 : type_of% (@rr _ _ c10_128.eq_1) := rr rfl
def c10_129 : ACode := .seq c10_8 c10_128
theorem r10_129 : type_of% (@rr _ _ c10_129.eq_1) := rr rfl
def c10_130 : ACode := .ops [⟨some 28, .mv (.c (.int .i64 0)), none, []⟩] [4, 5, 7, 8, 28]
theorem r10_130 : type_of% (@rr _ _ c10_130.eq_1) := rr rfl
def c10_131 : ACode := .ops [⟨some 158, .mv (.t 28), none, []⟩,⟨some 159, .fad (.t 7) 1, none, [7]⟩,⟨some 160, .load 1 false (.t 159), none, [7]⟩,⟨some 161, .bin .lss (.t 158) (.t 160), none, []⟩,⟨some 162, .mv (.t 161), none, []⟩,⟨some 163, .mv (.t 8), some (162, true), []⟩,⟨some 164, .pick (.t 162) (.t 163) (.c (.bool false)), none, []⟩] [4, 5, 7, 8, 28, 164]
theorem r10_131 : type_of% (@rr _ _ c10_131.eq_1) := rr rfl
def c10_132 : ACode := .cond (.t 164) .skip (.exit 12)
theorem r10_132 : type_of% (@rr _ _ c10_132.eq_1) := rr rfl
def c10_133 : ACode := .seq c10_131 c10_132
theorem r10_133 : type_of% (@rr _ _ c10_133.eq_1) := rr rfl
def c10_134 : ACode := .ops [⟨some 167, .load 6 true (.t 7), none, [7]⟩,⟨some 168, .mv (.t 28), none, []⟩,⟨some 169, .load 4 true (.t 4), none, [4]⟩,⟨some 170, .call 28 [.t 167, .t 168, .t 169], none, []⟩,⟨some 171, .load 6 true (.t 7), none, [7]⟩,⟨some 172, .mv (.t 28), none, []⟩,⟨some 173, .load 4 true (.t 5), none, [5]⟩,⟨some 174, .call 28 [.t 171, .t 172, .t 173], none, []⟩,⟨some 175, .bin .neq (.t 170) (.t 174), none, []⟩] [4, 5, 7, 8, 28, 175]
theorem r10_134 : type_of% (@rr _ _ c10_134.eq_1) := rr rfl
def c10_135 : ACode := .ops [⟨some 6, .mv (.c (.bool false)), none, []⟩] [6]
theorem r10_135 : type_of% (@rr _ _ c10_135.eq_1) := rr rfl
def c10_136 : ACode := .seq c10_135 .ret
theorem r10_136 : type_of% (@rr _ _ c10_136.eq_1) := rr rfl
def c10_137 : ACode := .cond (.t 175) c10_136 .skip
theorem r10_137 : type_of% (@rr _ _ c10_137.eq_1) := rr rfl
def c10_138 : ACode := .seq c10_134 c10_137
theorem r10_138 : type_of% (@rr _ _ c10_138.eq_1) := rr rfl
def c10_139 : ACode := .block 13 c10_138
theorem r10_139 : type_of% (@rr _ _ c10_139.eq_1) := rr rfl
def c10_140 : ACode := .ops [⟨some 165, .mv (.t 28), none, []⟩,⟨some 166, .bin .add (.t 165) (.c (.int .i64 1)), none, []⟩,⟨some 28, .mv (.t 166), none, []⟩] [4, 5, 7, 8, 28]
theorem r10_140 : type_of% (@rr _ _ c10_140.eq_1) := rr rfl
def c10_141 : ACode := .seq c10_139 c10_140
theorem r10_141 : type_of% (@rr _ _ c10_141.eq_1) := rr rfl
def c10_142 : ACode := .seq c10_133 c10_141
theorem r10_142 : type_of% (@rr _ _ c10_142.eq_1) := rr rfl
def c10_143 : ACode := .keep [4, 5, 7, 8, 28] [4, 5, 7] c10_142
theorem r10_143 : type_of% (@rr _ _ c10_143.eq_1) := rr rfl
def c10_144 : ACode := .loop c10_143
theorem r10_144 : type_of% (@rr _ _ c10_144.eq_1) := rr rfl
def c10_145 : ACode := .block 12 c10_144
theorem r10_145 : type_of% (@rr _ _ c10_145.eq_1) := rr rfl
def c10_146 : ACode := .seq c10_130 c10_145
theorem r10_146 : type_of% (@rr _ _ c10_146.eq_1) := rr rfl
def c10_147 : ACode := .ops [⟨some 176, .load 6 true (.t 7), none, [7]⟩,⟨some 177, .fad (.t 7) 0, none, [7]⟩,⟨some 178, .load 1 false (.t 177), none, [7]⟩,⟨some 179, .call 43 [.t 176, .t 178], none, []⟩,⟨some 180, .len (.t 179), none, []⟩,⟨some 181, .bin .eql (.t 180) (.c (.int .i64 0)), none, []⟩,⟨some 182, .mv (.t 181), none, []⟩,⟨some 183, .load 6 true (.t 7), some (182, true), [7]⟩,⟨some 184, .call 43 [.t 183, .c (.int .i64 (-1))], some (182, true), []⟩,⟨some 185, .len (.t 184), some (182, true), []⟩,⟨some 186, .bin .eql (.t 185) (.c (.int .i64 0)), some (182, true), []⟩,⟨some 187, .pick (.t 182) (.t 186) (.c (.bool false)), none, []⟩,⟨some 188, .mv (.t 187), none, []⟩,⟨some 189, .call 44 [], some (188, true), []⟩,⟨some 190, .pick (.t 188) (.t 189) (.c (.bool false)), none, []⟩,⟨some 6, .mv (.t 190), none, []⟩] [6]
theorem r10_147 : type_of% (@rr _ _ c10_147.eq_1) := rr rfl
def c10_148 : ACode := .seq c10_147 .ret
theorem r10_148 : type_of% (@rr _ _ c10_148.eq_1) := rr rfl
def c10_149 : ACode := .seq c10_146 c10_148
theorem r10_149 : type_of% (@rr _ _ c10_149.eq_1) := rr rfl
def c10_150 : ACode := .seq c10_129 c10_149
theorem r10_150 : type_of% (@rr _ _ c10_150.eq_1) := rr rfl
def c10_151 : ACode := .seq c10_7 c10_150
theorem r10_151 : type_of% (@rr _ _ c10_151.eq_1) := rr rfl
def c10_152 : ACode := .seq c10_2 c10_151
theorem r10_152 : type_of% (@rr _ _ c10_152.eq_1) := rr rfl
def c10_153 : ACode := .seq c10_1 c10_152
theorem r10_153 : type_of% (@rr _ _ c10_153.eq_1) := rr rfl
def c10_154 : ACode := .seq c10_0 c10_153
theorem r10_154 : type_of% (@rr _ _ c10_154.eq_1) := rr rfl
def a10 : AFun := ⟨3, 191, c10_154, [.t 6]⟩
attribute [simp] r10_0 r10_1 r10_2 r10_3 r10_4 r10_5 r10_6 r10_7 r10_8 r10_9 r10_10 r10_11 r10_12 r10_13 r10_14 r10_15 r10_16 r10_17 r10_18 r10_19 r10_20 r10_21 r10_22 r10_23 r10_24 r10_25 r10_26 r10_27 r10_28 r10_29 r10_30 r10_31 r10_32 r10_33 r10_34 r10_35 r10_36 r10_37 r10_38 r10_39 r10_40 r10_41 r10_42 r10_43 r10_44 r10_45 r10_46 r10_47 r10_48 r10_49 r10_50 r10_51 r10_52 r10_53 r10_54 r10_55 r10_56 r10_57 r10_58 r10_59 r10_60 r10_61 r10_62 r10_63 r10_64 r10_65 r10_66 r10_67 r10_68 r10_69 r10_70 r10_71 r10_72 r10_73 r10_74 r10_75 r10_76 r10_77 r10_78 r10_79 r10_80 r10_81 r10_82 r10_83 r10_84 r10_85 r10_86 r10_87 r10_88 r10_89 r10_90 r10_91 r10_92 r10_93 r10_94 r10_95 r10_96 r10_97 r10_98 r10_99 r10_100 r10_101 r10_102 r10_103 r10_104 r10_105 r10_106 r10_107 r10_108 r10_109 r10_110 r10_111 r10_112 r10_113 r10_114 r10_115 r10_116 r10_117 r10_118 r10_119 r10_120 r10_121 r10_122 r10_123 r10_124 r10_125 r10_126 r10_127 r10_128 r10_129 r10_130 r10_131 r10_132 r10_133 r10_134 r10_135 r10_136 r10_137 r10_138 r10_139 r10_140 r10_141 r10_142 r10_143 r10_144 r10_145 r10_146 r10_147 r10_148 r10_149 r10_150 r10_151 r10_152 r10_153 r10_154
theorem m10 : mFun Try.prog Try.f10 a10 = true := by decide +kernel
def c44_0 : ACode := .ops [⟨some 0, .mv (.c (.bool false)), none, []⟩] []
def c44_1 : ACode := .ops [⟨some 2, .build [.int .i64 0, .int .i64 0, .int .i64 0] [(0, 1, .c (.int .i64 3))], none, []⟩,⟨some 3, .call 95 [.c (.int .i64 5), .c (.int .i64 10), .c (.int .i64 20)], none, []⟩,⟨some 4, .build [.int .i64 0, .nils] [(1, 1, .t 3)], none, []⟩,⟨some 5, .mkrow 5 1 2 [.int .i64 0, .nils] [(0, 2, .t 4)], none, []⟩,⟨some 6, .build [.int .i64 0, .int .i64 0, .int .i64 0, .int .i64 0, .int .i64 0, .nils] [(0, 1, .c (.int .i64 1)), (1, 1, .c (.int .i64 1)), (2, 3, .t 2), (5, 1, .t 5)], none, []⟩,⟨some 1, .alloc [.int .i64 0, .int .i64 0, .int .i64 0, .int .i64 0, .int .i64 0, .nils], none, []⟩,⟨none, .store (.t 1) 6 (.t 6), none, [1]⟩] [1]
def c44_2 : ACode := .ops [⟨some 7, .load 6 true (.t 1), none, [1]⟩,⟨some 8, .call 27 [.t 7], none, [5]⟩,⟨some 9, .mv (.t 8), none, []⟩,⟨some 10, .load 6 true (.t 1), some (9, true), [1]⟩,⟨some 11, .build [.int .i64 0, .int .i64 0, .int .i64 0, .int .i64 0] [(0, 1, .c (.int .i64 5))], some (9, true), []⟩,⟨some 12, .call 28 [.t 10, .c (.int .i64 0), .t 11], some (9, true), [5]⟩,⟨some 13, .bin .eql (.t 12) (.c (.int .i64 13)), some (9, true), []⟩,⟨some 14, .pick (.t 9) (.t 13) (.c (.bool false)), none, []⟩,⟨some 15, .mv (.t 14), none, []⟩,⟨some 16, .load 6 true (.t 1), some (15, true), [1]⟩,⟨some 17, .build [.int .i64 0, .int .i64 0, .int .i64 0, .int .i64 0] [(0, 1, .c (.int .i64 6))], some (15, true), []⟩,⟨some 18, .call 28 [.t 16, .c (.int .i64 0), .t 17], some (15, true), [5]⟩,⟨some 19, .bin .eql (.t 18) (.c (.int .i64 23)), some (15, true), []⟩,⟨some 20, .pick (.t 15) (.t 19) (.c (.bool false)), none, []⟩,⟨some 21, .mv (.t 20), none, []⟩,⟨some 22, .load 6 true (.t 1), some (21, true), [1]⟩,⟨some 23, .call 43 [.t 22, .c (.int .i64 0)], some (21, true), [5]⟩,⟨some 24, .mkrow 24 1 1 [.int .i64 0] [(0, 1, .c (.int .i64 5))], some (21, true), []⟩,⟨some 25, .call 50 [.t 23, .t 24], some (21, true), [24]⟩,⟨some 26, .pick (.t 21) (.t 25) (.c (.bool false)), none, []⟩,⟨some 27, .mv (.t 26), none, []⟩,⟨some 28, .load 6 true (.t 1), some (27, true), [1]⟩,⟨some 29, .call 25 [.t 28], some (27, true), [5]⟩,⟨some 30, .bin .eql (.t 29) (.c (.int .i64 3)), some (27, true), []⟩,⟨some 31, .pick (.t 27) (.t 30) (.c (.bool false)), none, []⟩,⟨some 32, .mv (.t 31), none, []⟩,⟨some 33, .load 6 true (.t 1), some (32, true), [1]⟩,⟨some 34, .build [.int .i64 0, .int .i64 0, .int .i64 0, .int .i64 0] [], some (32, true), []⟩,⟨some 35, .call 96 [.t 33, .t 34], some (32, true), [5]⟩,⟨some 36, .bin .eql (.t 35) (.c (.int .i64 0)), some (32, true), []⟩,⟨some 37, .pick (.t 32) (.t 36) (.c (.bool false)), none, []⟩,⟨some 0, .mv (.t 37), none, []⟩] [0]
def c44_3 : ACode := .seq c44_2 .ret
def c44_4 : ACode := .seq c44_1 c44_3
def c44_5 : ACode := .seq c44_0 c44_4
def a44 : AFun := ⟨0, 38, c44_5, [.t 0]⟩
theorem m44 : mFun Try.prog Try.f44 a44 = true := by decide +kernel
def c50_0 : ACode := .ops [⟨some 4, .mv (.c (.bool false)), none, []⟩] [0, 1]
def c50_1 : ACode := .ops [⟨some 6, .mv (.t 0), none, []⟩,⟨some 7, .len (.t 6), none, []⟩,⟨some 8, .mv (.t 1), none, []⟩,⟨some 9, .len (.t 8), none, []⟩,⟨some 10, .bin .neq (.t 7) (.t 9), none, []⟩] [0, 1, 10]
def c50_2 : ACode := .ops [⟨some 4, .mv (.c (.bool false)), none, []⟩] [4]
def c50_3 : ACode := .seq c50_2 .ret
def c50_4 : ACode := .cond (.t 10) c50_3 .skip
def c50_5 : ACode := .seq c50_1 c50_4
def c50_6 : ACode := .ops [⟨some 5, .mv (.c (.int .i64 0)), none, []⟩] [0, 1, 5]
def c50_7 : ACode := .ops [⟨some 11, .mv (.t 5), none, []⟩,⟨some 12, .mv (.t 0), none, []⟩,⟨some 13, .len (.t 12), none, []⟩,⟨some 14, .bin .lss (.t 11) (.t 13), none, []⟩] [0, 1, 5, 14]
def c50_8 : ACode := .cond (.t 14) .skip (.exit 0)
def c50_9 : ACode := .seq c50_7 c50_8
def c50_10 : ACode := .ops [⟨some 17, .mv (.t 0), none, []⟩,⟨some 18, .mv (.t 5), none, []⟩,⟨some 19, .ias (.t 17) (.t 18) 1, none, []⟩,⟨some 20, .load 1 false (.t 19), none, []⟩,⟨some 21, .mv (.t 1), none, []⟩,⟨some 22, .mv (.t 5), none, []⟩,⟨some 23, .ias (.t 21) (.t 22) 1, none, []⟩,⟨some 24, .load 1 false (.t 23), none, []⟩,⟨some 25, .bin .neq (.t 20) (.t 24), none, []⟩] [0, 1, 5, 25]
def c50_11 : ACode := .ops [⟨some 4, .mv (.c (.bool false)), none, []⟩] [4]
def c50_12 : ACode := .seq c50_11 .ret
def c50_13 : ACode := .cond (.t 25) c50_12 .skip
def c50_14 : ACode := .seq c50_10 c50_13
def c50_15 : ACode := .block 1 c50_14
def c50_16 : ACode := .ops [⟨some 15, .mv (.t 5), none, []⟩,⟨some 16, .bin .add (.t 15) (.c (.int .i64 1)), none, []⟩,⟨some 5, .mv (.t 16), none, []⟩] [0, 1, 5]
def c50_17 : ACode := .seq c50_15 c50_16
def c50_18 : ACode := .seq c50_9 c50_17
def c50_19 : ACode := .keep [0, 1, 5] [] c50_18
def c50_20 : ACode := .loop c50_19
def c50_21 : ACode := .block 0 c50_20
def c50_22 : ACode := .seq c50_6 c50_21
def c50_23 : ACode := .ops [⟨some 4, .mv (.c (.bool true)), none, []⟩] [4]
def c50_24 : ACode := .seq c50_23 .ret
def c50_25 : ACode := .seq c50_22 c50_24
def c50_26 : ACode := .seq c50_5 c50_25
def c50_27 : ACode := .seq c50_0 c50_26
def a50 : AFun := ⟨2, 26, c50_27, [.t 4]⟩
theorem m50 : mFun Try.prog Try.f50 a50 = true := by decide +kernel
def c95_0 : ACode := .ops [⟨some 6, .nil0 6 1, none, []⟩] [0, 1, 2]
def c95_1 : ACode := .ops [⟨some 7, .mv (.t 0), none, []⟩,⟨some 8, .build [.bool false, .int .i64 0, .int .i64 0, .int .i64 0, .int .i64 0, .int .i64 0] [(3, 1, .t 7), (4, 1, .c (.int .i64 1)), (5, 1, .c (.int .i64 2))], none, []⟩,⟨some 9, .call 68 [.t 8], none, []⟩,⟨some 10, .mv (.t 1), none, []⟩,⟨some 11, .build [.bool false, .int .i64 0, .int .i64 0, .int .i64 0, .int .i64 0, .int .i64 0] [(0, 1, .c (.bool true)), (1, 1, .t 10)], none, []⟩,⟨some 12, .call 68 [.t 11], none, []⟩,⟨some 13, .mv (.t 2), none, []⟩,⟨some 14, .build [.bool false, .int .i64 0, .int .i64 0, .int .i64 0, .int .i64 0, .int .i64 0] [(0, 1, .c (.bool true)), (1, 1, .t 13)], none, []⟩,⟨some 15, .call 68 [.t 14], none, []⟩,⟨some 16, .mkrow 6 3 1 [.int .u64 0] [(0, 1, .t 9), (1, 1, .t 12), (2, 1, .t 15)], none, []⟩,⟨some 6, .mv (.t 16), none, []⟩] [6]
def c95_2 : ACode := .seq c95_1 .ret
def c95_3 : ACode := .seq c95_0 c95_2
def a95 : AFun := ⟨3, 17, c95_3, [.t 6]⟩
theorem m95 : mFun Try.prog Try.f95 a95 = true := by decide +kernel
def texts44 : List (Nat × AFun) := [(19, a19), (20, a20), (25, a25), (27, a27), (28, a28), (43, a43), (44, a44), (50, a50), (68, a68), (69, a69), (70, a70), (71, a71), (72, a72), (75, a75), (76, a76), (77, a77), (78, a78), (95, a95), (96, a96), (118, a118), (119, a119), (120, a120), (121, a121), (122, a122), (123, a123), (124, a124), (125, a125), (126, a126), (146, a146), (147, a147)]
theorem texts44_good : Go.Am.Good Try.prog texts44 :=
  good_cons Try.func19 m19 <| good_cons Try.func20 m20 <| good_cons Try.func25 m25 <| good_cons Try.func27 m27 <| good_cons Try.func28 m28 <| good_cons Try.func43 m43 <| good_cons Try.func44 m44 <| good_cons Try.func50 m50 <| good_cons Try.func68 m68 <| good_cons Try.func69 m69 <| good_cons Try.func70 m70 <| good_cons Try.func71 m71 <| good_cons Try.func72 m72 <| good_cons Try.func75 m75 <| good_cons Try.func76 m76 <| good_cons Try.func77 m77 <| good_cons Try.func78 m78 <| good_cons Try.func95 m95 <| good_cons Try.func96 m96 <| good_cons Try.func118 m118 <| good_cons Try.func119 m119 <| good_cons Try.func120 m120 <| good_cons Try.func121 m121 <| good_cons Try.func122 m122 <| good_cons Try.func123 m123 <| good_cons Try.func124 m124 <| good_cons Try.func125 m125 <| good_cons Try.func126 m126 <| good_cons Try.func146 m146 <| good_cons Try.func147 m147 <| good_nil
theorem c_closed44 : Contract Try.prog 44 (sp0 (some true)) := contract_closedG mixed texts44_good lib (NW := fun f => if f = 43 then some 5 else if f = 67 then some 10001 else none) (m := 2000) (n := 80) (by decide +kernel)
theorem mem_raw {m : Model} {j x : Int} : x ∈ rawM m.trees j ↔ x ∈ thrL m j := by
  rw [mem_thr]
  unfold rawM rawW cutF
  simp only [List.mem_flatMap, List.mem_filterMap]
  constructor
  · rintro ⟨t, ht, w, hw, h⟩
    split at h
    · rename_i hc
      cases h
      exact ⟨t, ht, w, hw, hc.1, hc.2, rfl⟩
    · cases h
  · rintro ⟨t, ht, w, hw, h1, h2, h3⟩
    exact ⟨t, ht, w, hw, by rw [if_pos ⟨h1, h2⟩, h3]⟩
def onceL (l : List Int) : List Int := l.foldl (fun a n => insB n a) []
theorem onceL_snoc (l : List Int) (n : Int) : onceL (l ++ [n]) = insB n (onceL l) := by unfold onceL; rw [List.foldl_append]; rfl
theorem insB_nodup {n : Int} {l : List Int} (h : l.Nodup) : (insB n l).Nodup := by
  unfold insB
  split
  · exact h
  · rw [List.nodup_append]
    exact ⟨h, by simp, fun a ha b hb => by simp at hb; subst hb; intro e; subst e; exact absurd ha ‹_›⟩
theorem mem_insB {n x : Int} {l : List Int} : x ∈ insB n l ↔ x = n ∨ x ∈ l := by
  unfold insB
  split
  · constructor
    · exact .inr
    · rintro (rfl | h)
      · assumption
      · exact h
  · simp [or_comm]
theorem onceL_spec (l : List Int) : (onceL l).Nodup ∧ ∀ x, x ∈ onceL l ↔ x ∈ l := by
  have key : ∀ (l a : List Int), a.Nodup → (l.foldl (fun a n => insB n a) a).Nodup ∧ ∀ x, x ∈ l.foldl (fun a n => insB n a) a ↔ x ∈ a ∨ x ∈ l := by
    intro l
    induction l with
    | nil => intro a h; simp [h]
    | cons n l ih =>
      intro a h
      have := ih (insB n a) (insB_nodup h)
      refine ⟨this.1, fun x => ?_⟩
      rw [List.foldl_cons, this.2 x, mem_insB]
      simp only [List.mem_cons]
      constructor
      · rintro ((h | h) | h) <;> simp [h]
      · rintro (h | h | h) <;> simp [h]
  have := key l [] (by simp)
  refine ⟨this.1, fun x => ?_⟩
  have h2 := this.2 x
  simp only [List.not_mem_nil, false_or] at h2
  exact h2
theorem once_len (m : Model) (j : Int) : (onceL (rawM m.trees j)).length = (thrL m j).length := by
  have h1 := onceL_spec (rawM m.trees j)
  have h2 : (thrL m j).Nodup := (thr_sorted m j).imp fun h => by omega
  have hp : (onceL (rawM m.trees j)).Perm (thrL m j) := (List.perm_ext_iff_of_nodup h1.1 h2).2 fun x => by rw [h1.2 x, mem_raw]
  exact hp.length_eq
noncomputable abbrev mcT : Cs := tbl [(15, sp1 ModelC), (27, sp1 MRight), (43, sp2 ThrT), (20, sp1 Unpack), (28, sp3 Eval), (44, sp0 (some true))]
abbrev mcH (p q : Point) (m : Model) : Hp := [(4, ⟨Row.enc p, false, 0⟩), (5, ⟨Row.enc q, false, 0⟩), (7, ⟨Row.enc m, false, 0⟩)]
theorem run_there (m : Model) (hm : RM m) (p q : Point) (sm : Bool) (j cnt t i0 : Int) (L : List Int) (fs : List Fr) (Q : Post) (g : Nat → Nat)
    (hQ : ∀ g' : Nat → Nat, kont mcT fs Q .normal ⟨[(4, .ptr 4 (g' 4) 0), (5, .ptr 5 (g' 5) 0), (7, .ptr 7 (g' 7) 0), (8, .bool sm), (9, .int .i64 j), (10, .lst L.length (encL L)), (11, .int .i64 cnt), (13, .int .i64 t), (14, .bool (decide (t ∈ rawM m.trees j))), (44, .lst L.length (encL L)), (45, .int .i64 L.length), (46, .int .i64 i0), (77, .lst m.trees.length (encL m.trees)), (78, .int .i64 m.trees.length), (79, .int .i64 m.trees.length), (80, .bool false)], mcH p q m, g'⟩) :
    run mcT c10_55 fs ⟨[(4, .ptr 4 (g 4) 0), (5, .ptr 5 (g 5) 0), (7, .ptr 7 (g 7) 0), (8, .bool sm), (9, .int .i64 j), (10, .lst L.length (encL L)), (11, .int .i64 cnt), (13, .int .i64 t), (14, .bool false), (44, .lst L.length (encL L)), (45, .int .i64 L.length), (46, .int .i64 i0)], mcH p q m, g⟩ Q := by
  have hle := hm.trees
  have b3 : m.trees.length ≤ maxN := by unfold maxN; omega
  simp -implicitDefEqProofs [b3]
  refine run_while (c := c10_51) (fun n s => ∃ (i : Nat) (g : Nat → Nat), i + n = m.trees.length ∧ s = ⟨[(4, .ptr 4 (g 4) 0), (5, .ptr 5 (g 5) 0), (7, .ptr 7 (g 7) 0), (8, .bool sm), (9, .int .i64 j), (10, .lst L.length (encL L)), (11, .int .i64 cnt), (13, .int .i64 t), (14, .bool (decide (t ∈ rawM (m.trees.take i) j))), (44, .lst L.length (encL L)), (45, .int .i64 L.length), (46, .int .i64 i0), (77, .lst m.trees.length (encL m.trees)), (78, .int .i64 m.trees.length), (79, .int .i64 i)], mcH p q m, g⟩) m.trees.length ⟨0, g, by omega, by simp [rawM]⟩ ?_
  rintro n s ⟨i, g, hi, rfl⟩
  by_cases h1 : i < m.trees.length
  case pos =>
    have w1 : IntKind.i64.wrap ((i : Int) + 1) = (i : Int) + 1 := wrap64 (by omega) (by omega)
    have hrow := rd_tree m.trees i h1
    have hrt := hm.rt (List.getElem_mem h1)
    have hnl := hrt.le
    have b4 : m.trees[i].nodes.length ≤ maxN := by unfold maxN; omega
    simp -implicitDefEqProofs [h1, hrow, b4]
    refine run_while (c := c10_41) (fun n s => ∃ (k : Nat) (g : Nat → Nat), k + n = m.trees[i].nodes.length ∧ s = ⟨[(4, .ptr 4 (g 4) 0), (5, .ptr 5 (g 5) 0), (7, .ptr 7 (g 7) 0), (8, .bool sm), (9, .int .i64 j), (10, .lst L.length (encL L)), (11, .int .i64 cnt), (13, .int .i64 t), (14, .bool (decide (t ∈ rawTo m j i k m.trees[i].nodes))), (44, .lst L.length (encL L)), (45, .int .i64 L.length), (46, .int .i64 i0), (77, .lst m.trees.length (encL m.trees)), (78, .int .i64 m.trees.length), (79, .int .i64 i), (84, .lst m.trees[i].nodes.length (encL m.trees[i].nodes)), (85, .int .i64 m.trees[i].nodes.length), (86, .int .i64 k)], mcH p q m, g⟩) m.trees[i].nodes.length ⟨0, bump 16 g, by omega, by simp [rawTo_zero]⟩ ?_
    rintro n2 s ⟨k, g, hk, rfl⟩
    by_cases h2 : k < m.trees[i].nodes.length
    case pos =>
      have w2 : IntKind.i64.wrap ((k : Int) + 1) = (k : Int) + 1 := wrap64 (by omega) (by omega)
      have hU := unpack_at hrt h2
      have hnd : ndAt m.trees[i].nodes k = nd m.trees[i].nodes[k] := ndAt_lt h2
      rw [hnd] at hU
      by_cases hin : (nd m.trees[i].nodes[k]).leaf = false ∧ (nd m.trees[i].nodes[k]).feature = j
      case pos =>
        have hs := rawTo_some (m := m) (i := i) h2 hin.1 hin.2
        have q1 := hin.1
        have q2 := hin.2
        by_cases h3 : t ∈ rawTo m j i k m.trees[i].nodes
        · simp -implicitDefEqProofs [h2, rd_words, hU, w2, q1, q2, h3]
          exact ⟨n2 - 1, by omega, k + 1, by omega, by rw [hs]; simp [h3], by omega⟩
        · by_cases h4 : (nd m.trees[i].nodes[k]).cut = t
          · simp -implicitDefEqProofs [h2, rd_words, hU, w2, q1, q2, h3, h4]
            exact ⟨n2 - 1, by omega, k + 1, by omega, by rw [hs]; simp [h4], by omega⟩
          · simp -implicitDefEqProofs [h2, rd_words, hU, w2, q1, q2, h3, h4]
            exact ⟨n2 - 1, by omega, k + 1, by omega, by rw [hs]; simp [h3, Ne.symm h4], by omega⟩
      case neg =>
        have hs := rawTo_none (m := m) (i := i) h2 hin
        by_cases h3 : t ∈ rawTo m j i k m.trees[i].nodes
        · simp -implicitDefEqProofs [h2, rd_words, hU, w2, h3]
          exact ⟨n2 - 1, by omega, k + 1, by omega, by rw [hs]; exact h3, by omega⟩
        · cases q1 : (nd m.trees[i].nodes[k]).leaf
          case true =>
            simp -implicitDefEqProofs [h2, rd_words, hU, w2, q1, h3]
            exact ⟨n2 - 1, by omega, k + 1, by omega, by rw [hs]; exact h3, by omega⟩
          case false =>
            have q2 : ¬ (nd m.trees[i].nodes[k]).feature = j := fun e => hin ⟨q1, e⟩
            simp -implicitDefEqProofs [h2, rd_words, hU, w2, q1, q2, h3]
            exact ⟨n2 - 1, by omega, k + 1, by omega, by rw [hs]; exact h3, by omega⟩
    case neg =>
      have hkl : k = m.trees[i].nodes.length := by omega
      subst hkl
      rw [rawTo_all h1]
      simp -implicitDefEqProofs [h2, w1]
      exact ⟨n - 1, by omega, i + 1, by omega, Iff.rfl, by omega⟩
  case neg =>
    have hil : i = m.trees.length := by omega
    subst hil
    rw [List.take_length]
    simp -implicitDefEqProofs [h1]
    exact hQ g
theorem run_met (m : Model) (hm : RM m) (p q : Point) (sm : Bool) (j cnt : Int) (fs : List Fr) (Q : Post) (g : Nat → Nat)
    (hQ : ∀ g' : Nat → Nat, kont mcT fs Q .normal ⟨[(4, .ptr 4 (g' 4) 0), (5, .ptr 5 (g' 5) 0), (7, .ptr 7 (g' 7) 0), (8, .bool sm), (9, .int .i64 j), (11, .int .i64 cnt), (21, .mp 120 (g' 120)), (122, .lst m.trees.length (encL m.trees)), (123, .int .i64 m.trees.length), (124, .int .i64 m.trees.length), (125, .bool false)], [(4, ⟨Row.enc p, false, 0⟩), (5, ⟨Row.enc q, false, 0⟩), (7, ⟨Row.enc m, false, 0⟩), (120, ⟨flatB (onceL (rawM m.trees j)), false, mapTag⟩)], g'⟩) :
    run mcT c10_111 fs ⟨[(4, .ptr 4 (g 4) 0), (5, .ptr 5 (g 5) 0), (7, .ptr 7 (g 7) 0), (8, .bool sm), (9, .int .i64 j), (11, .int .i64 cnt), (21, .mp 120 (g 120))], [(4, ⟨Row.enc p, false, 0⟩), (5, ⟨Row.enc q, false, 0⟩), (7, ⟨Row.enc m, false, 0⟩), (120, ⟨[], false, mapTag⟩)], g⟩ Q := by
  have hle := hm.trees
  have b3 : m.trees.length ≤ maxN := by unfold maxN; omega
  simp -implicitDefEqProofs [b3]
  refine run_while (c := c10_107) (fun n s => ∃ (i : Nat) (g : Nat → Nat), i + n = m.trees.length ∧ s = ⟨[(4, .ptr 4 (g 4) 0), (5, .ptr 5 (g 5) 0), (7, .ptr 7 (g 7) 0), (8, .bool sm), (9, .int .i64 j), (11, .int .i64 cnt), (21, .mp 120 (g 120)), (122, .lst m.trees.length (encL m.trees)), (123, .int .i64 m.trees.length), (124, .int .i64 i)], [(4, ⟨Row.enc p, false, 0⟩), (5, ⟨Row.enc q, false, 0⟩), (7, ⟨Row.enc m, false, 0⟩), (120, ⟨flatB (onceL (rawM (m.trees.take i) j)), false, mapTag⟩)], g⟩) m.trees.length ⟨0, g, by omega, by simp [rawM, onceL, flatB]⟩ ?_
  rintro n s ⟨i, g, hi, rfl⟩
  by_cases h1 : i < m.trees.length
  case pos =>
    have w1 : IntKind.i64.wrap ((i : Int) + 1) = (i : Int) + 1 := wrap64 (by omega) (by omega)
    have hrow := rd_tree m.trees i h1
    have hrt := hm.rt (List.getElem_mem h1)
    have hnl := hrt.le
    have b4 : m.trees[i].nodes.length ≤ maxN := by unfold maxN; omega
    simp -implicitDefEqProofs [h1, hrow, b4]
    refine run_while (c := c10_97) (fun n s => ∃ (k : Nat) (g : Nat → Nat), k + n = m.trees[i].nodes.length ∧ s = ⟨[(4, .ptr 4 (g 4) 0), (5, .ptr 5 (g 5) 0), (7, .ptr 7 (g 7) 0), (8, .bool sm), (9, .int .i64 j), (11, .int .i64 cnt), (21, .mp 120 (g 120)), (122, .lst m.trees.length (encL m.trees)), (123, .int .i64 m.trees.length), (124, .int .i64 i), (129, .lst m.trees[i].nodes.length (encL m.trees[i].nodes)), (130, .int .i64 m.trees[i].nodes.length), (131, .int .i64 k)], [(4, ⟨Row.enc p, false, 0⟩), (5, ⟨Row.enc q, false, 0⟩), (7, ⟨Row.enc m, false, 0⟩), (120, ⟨flatB (onceL (rawTo m j i k m.trees[i].nodes)), false, mapTag⟩)], g⟩) m.trees[i].nodes.length ⟨0, bump 23 g, by omega, by simp [rawTo_zero]⟩ ?_
    rintro n2 s ⟨k, g, hk, rfl⟩
    by_cases h2 : k < m.trees[i].nodes.length
    case pos =>
      have w2 : IntKind.i64.wrap ((k : Int) + 1) = (k : Int) + 1 := wrap64 (by omega) (by omega)
      have hU := unpack_at hrt h2
      have hnd : ndAt m.trees[i].nodes k = nd m.trees[i].nodes[k] := ndAt_lt h2
      rw [hnd] at hU
      by_cases hin : (nd m.trees[i].nodes[k]).leaf = false ∧ (nd m.trees[i].nodes[k]).feature = j
      case pos =>
        have hs := rawTo_some (m := m) (i := i) h2 hin.1 hin.2
        have q1 := hin.1
        have q2 := hin.2
        simp -implicitDefEqProofs [h2, rd_words, hU, w2, q1, q2]
        exact ⟨n2 - 1, by omega, k + 1, by omega, by omega, by rw [hs, onceL_snoc]⟩
      case neg =>
        have hs := rawTo_none (m := m) (i := i) h2 hin
        cases q1 : (nd m.trees[i].nodes[k]).leaf
        case true =>
          simp -implicitDefEqProofs [h2, rd_words, hU, w2, q1]
          exact ⟨n2 - 1, by omega, k + 1, by omega, by omega, by rw [hs]⟩
        case false =>
          have q2 : ¬ (nd m.trees[i].nodes[k]).feature = j := fun e => hin ⟨q1, e⟩
          simp -implicitDefEqProofs [h2, rd_words, hU, w2, q1, q2]
          exact ⟨n2 - 1, by omega, k + 1, by omega, by omega, by rw [hs]⟩
    case neg =>
      have hkl : k = m.trees[i].nodes.length := by omega
      subst hkl
      rw [rawTo_all h1]
      simp -implicitDefEqProofs [h2, w1]
      exact ⟨n - 1, by omega, i + 1, by omega, by omega, rfl⟩
  case neg =>
    have hil : i = m.trees.length := by omega
    subst hil
    rw [List.take_length]
    simp -implicitDefEqProofs [h1]
    exact hQ g
def sideTo (m : Model) (p q : Point) (j : Int) : Prop := ∀ i : Int, 0 ≤ i → i < j → ∀ t ∈ thrL m i, (p.get i ≤ t ↔ q.get i ≤ t)
theorem thr_none {m : Model} (hm : RM m) {j : Int} (h : j < 0 ∨ m.dim ≤ j) : thrL m j = [] := by
  rw [List.eq_nil_iff_forall_not_mem]
  intro t ht
  obtain ⟨x, hx, w, hw, h1, h2, h3⟩ := mem_thr.1 ht
  obtain ⟨i, hi, rfl⟩ := List.getElem_of_mem hw
  have hr := hm.rt hx
  have e := ndAt_lt hi
  have hf := hr.feature hi (by rw [e]; exact h1)
  have hf2 := (hr.inner i hi h1).1
  rw [e] at hf
  omega
theorem sideTo_all {m : Model} (hm : RM m) {p q : Point} (h : sideTo m p q m.dim) (c : Int) : evalM m c p = evalM m c q := by
  refine eval_same hm (fun j h0 h4 t ht => ?_) c
  by_cases hj : j < m.dim
  · exact h j h0 hj t ht
  · rw [thr_none hm (.inr (by omega))] at ht
    cases ht
theorem runs_law (f : Forest) (p q : Point) (c : Bool) (h : some true = some c) : Runs mcT a10 [Arg.enc f, Arg.enc p, Arg.enc q] (Arg.enc c) := by
  cases h
  refine ⟨rfl, fun g => run_def ?_⟩
  unfold a10
  have hm := rm_modelOf f
  have hM : ModelC f = some (modelOf f) := rfl
  generalize modelOf f = m at *
  have hR : MRight m = some true := by unfold MRight; rw [if_neg (by have := hm.dim; omega)]; exact part_of hm _
  have hT : ∀ j, ThrT m j = some (thrL m j) := fun j => by unfold ThrT; rw [part_of hm.okMW, rightM_true.2 hm]; rfl
  have hd := hm.dim
  have hcl := hm.classes
  have hle := hm.trees
  have hTl : ∀ j, (thrL m j).length ≤ 248 := fun j => by
    have h1 := thr_len m j
    have h2 := rawM_len (j := j) (l := m.trees) fun t ht => (hm.tree t ht).2.2.le
    omega
  have hTd := hT m.dim
  have hT1 := hT (-1)
  rw [thr_none hm (.inr (Int.le_refl _))] at hTd
  rw [thr_none hm (.inl (by omega))] at hT1
  simp -implicitDefEqProofs [hM, hR, -r10_149]
  refine run_while (c := c10_125) (fun n s => ∃ (j : Nat) (sm : Bool) (g : Nat → Nat), (j : Int) + n = m.dim ∧ (sm = true → sideTo m p q j) ∧ s = ⟨[(4, .ptr 4 (g 4) 0), (5, .ptr 5 (g 5) 0), (7, .ptr 7 (g 7) 0), (8, .bool sm), (9, .int .i64 j)], mcH p q m, g⟩) m.dim.toNat ⟨0, true, bump 7 (bump 5 (bump 4 (bump 3 g))), by omega, fun _ i h0 h1 => by omega, by simp⟩ ?_
  rintro n s ⟨j, sm, g, hj, hsm, rfl⟩
  by_cases h1 : (j : Int) < m.dim
  case neg =>
    have hjd : (j : Int) = m.dim := by omega
    rw [hjd] at hsm ⊢
    have h1' : ¬ m.dim < m.dim := by omega
    simp -implicitDefEqProofs [h1', -r10_147]
    refine run_while (c := c10_142) (fun n s => ∃ (k : Nat) (g : Nat → Nat), (k : Int) + n = m.classes ∧ s = ⟨[(4, .ptr 4 (g 4) 0), (5, .ptr 5 (g 5) 0), (7, .ptr 7 (g 7) 0), (8, .bool sm), (28, .int .i64 k)], mcH p q m, g⟩) m.classes.toNat ⟨0, g, by omega, by simp⟩ ?_
    rintro n2 s ⟨k, g, hk, rfl⟩
    by_cases h2 : (k : Int) < m.classes
    · cases sm
      · simp -implicitDefEqProofs [h2, hTd, hT1]
      · have hp := eval_of hm (c := k) (by omega) h2 p
        have hq := eval_of hm (c := k) (by omega) h2 q
        rw [sideTo_all hm (hsm rfl) k] at hp
        have w2 : IntKind.i64.wrap ((k : Int) + 1) = (k : Int) + 1 := wrap64 (by omega) (by omega)
        simp -implicitDefEqProofs [h2, hp, hq, w2]
        exact ⟨n2 - 1, by omega, k + 1, by omega, by omega⟩
    · simp -implicitDefEqProofs [h2, hTd, hT1]
  case pos =>
    have w1 : IntKind.i64.wrap ((j : Int) + 1) = (j : Int) + 1 := wrap64 (by omega) (by omega)
    have hTj := hT j
    have hso := thr_sorted m j
    have hol := once_len m j
    have hTl := hTl j
    have hmr := fun x => mem_raw (m := m) (j := j) (x := x)
    have hside : ∀ (b : Bool), (b = true → sideTo m p q j ∧ ∀ t ∈ thrL m j, (p.get j ≤ t ↔ q.get j ≤ t)) → b = true → sideTo m p q ((j : Int) + 1) := by
      intro b hb hbt i h0 hi
      obtain ⟨g1, g2⟩ := hb hbt
      by_cases e : i < j
      · exact g1 i h0 e
      · have : i = j := by omega
        subst this
        exact g2
    have hj4 : (j : Int) < 4 := by omega
    have hrp : rd [.int .i64 p.p0, .int .i64 p.p1, .int .i64 p.p2, .int .i64 p.p3] j 1 false = some (.int .i64 (p.get j)) := by have := rd_point p j (by omega) hj4; simpa using this
    have hrq : rd [.int .i64 q.p0, .int .i64 q.p1, .int .i64 q.p2, .int .i64 q.p3] j 1 false = some (.int .i64 (q.get j)) := by have := rd_point q j (by omega) hj4; simpa using this
    generalize hL : thrL m j = L at *
    have b3 : L.length ≤ maxN := by unfold maxN; omega
    simp -implicitDefEqProofs [h1, hTj, b3, -r10_118]
    refine run_while (c := c10_72) (fun n s => ∃ (i : Nat) (sm : Bool) (g : Nat → Nat), i + n = L.length ∧ (sm = true → sideTo m p q j ∧ ∀ t ∈ L.take i, (p.get j ≤ t ↔ q.get j ≤ t)) ∧ s = ⟨[(4, .ptr 4 (g 4) 0), (5, .ptr 5 (g 5) 0), (7, .ptr 7 (g 7) 0), (8, .bool sm), (9, .int .i64 j), (10, .lst L.length (encL L)), (11, .int .i64 i), (44, .lst L.length (encL L)), (45, .int .i64 L.length), (46, .int .i64 i)], mcH p q m, g⟩) L.length ⟨0, sm, g, by omega, fun e => ⟨hsm e, fun t ht => by simp at ht⟩, by simp⟩ ?_
    rintro n2 s ⟨i, sm, g, hi, hsm, rfl⟩
    by_cases h2 : i < L.length
    case neg =>
      have hil : i = L.length := by omega
      subst hil
      rw [List.take_length] at hsm
      have hsd := hside sm hsm
      simp -implicitDefEqProofs [h2, -r10_111]
      refine run_met m hm p q sm j _ _ _ _ ?_
      intro g'
      simp -implicitDefEqProofs [hol, w1]
      refine ⟨n - 1, by omega, j + 1, by omega, ?_⟩
      cases sm
      · exact .inl ⟨rfl, by omega⟩
      · exact .inr ⟨by simpa using hsd rfl, rfl, by omega⟩
    case pos =>
      have w2 : IntKind.i64.wrap ((i : Int) + 1) = (i : Int) + 1 := wrap64 (by omega) (by omega)
      have hrd := rd_ints L i h2
      have hth : L[i] ∈ rawM m.trees j := (hmr L[i]).2 (List.getElem_mem h2)
      have hdt : decide (L[i] ∈ rawM m.trees j) = true := decide_eq_true hth
      have htk : L.take (i + 1) = L.take i ++ [L[i]] := by rw [List.take_succ_eq_append_getElem h2]
      have hq : ∀ b : Bool, (b = true → sm = true ∧ (p.get j ≤ L[i] ↔ q.get j ≤ L[i])) → b = true → sideTo m p q j ∧ ∀ t ∈ L.take (i + 1), (p.get j ≤ t ↔ q.get j ≤ t) := by
        intro b hb hbt
        obtain ⟨g1, g2⟩ := hb hbt
        obtain ⟨g3, g4⟩ := hsm g1
        refine ⟨g3, fun t ht => ?_⟩
        rw [htk] at ht
        rcases List.mem_append.1 ht with ht | ht
        · exact g4 t ht
        · simp at ht
          subst ht
          exact g2
      rcases Nat.eq_zero_or_pos i with h0 | h0
      · subst h0
        cases sm
        · simp -implicitDefEqProofs [h2, hrd, hrp, hrq, hj4, -r10_55]
          refine run_there m hm p q _ j _ _ _ _ _ _ _ ?_
          intro g'
          rw [hdt]
          simp -implicitDefEqProofs [w2]
          exact ⟨n2 - 1, by omega, 1, by omega, by omega⟩
        · simp -implicitDefEqProofs [h2, hrd, hrp, hrq, hj4, -r10_55]
          refine run_there m hm p q _ j _ _ _ _ _ _ _ ?_
          intro g'
          rw [hdt]
          simp -implicitDefEqProofs [w2]
          refine ⟨n2 - 1, by omega, 1, by omega, ?_⟩
          by_cases hpq : (p.get j ≤ L[0] ↔ q.get j ≤ L[0])
          · exact .inr ⟨hq true (fun _ => ⟨rfl, hpq⟩) rfl, hpq, by omega⟩
          · exact .inl ⟨hpq, by omega⟩
      · obtain ⟨k, hki⟩ : ∃ k : Nat, (i : Int) - 1 = k := ⟨i - 1, by omega⟩
        have hk : k < L.length := by omega
        have w3 : IntKind.i64.wrap ((i : Int) - 1) = (k : Int) := by rw [wrap64 (by omega) (by omega)]; exact hki
        have hlt : ¬ L[i] ≤ L[k] := by
          have := List.pairwise_iff_getElem.1 hso k i hk h2 (by omega)
          omega
        have hrk := rd_ints L k hk
        cases sm
        · simp -implicitDefEqProofs [h0, h2, hrd, hrp, hrq, hj4, hk, hrk, w3, hlt, -r10_55]
          refine run_there m hm p q _ j _ _ _ _ _ _ _ ?_
          intro g'
          rw [hdt]
          simp -implicitDefEqProofs [w2]
          exact ⟨n2 - 1, by omega, i + 1, by omega, by omega⟩
        · simp -implicitDefEqProofs [h0, h2, hrd, hrp, hrq, hj4, hk, hrk, w3, hlt, -r10_55]
          refine run_there m hm p q _ j _ _ _ _ _ _ _ ?_
          intro g'
          rw [hdt]
          simp -implicitDefEqProofs [w2]
          refine ⟨n2 - 1, by omega, i + 1, by omega, ?_⟩
          by_cases hpq : (p.get j ≤ L[i] ↔ q.get j ≤ L[i])
          · exact .inr ⟨hq true (fun _ => ⟨rfl, hpq⟩) rfl, hpq, by omega⟩
          · exact .inl ⟨hpq, by omega⟩
noncomputable def law_sp : List AV → Option AV := sp3 fun (_ : Forest) (_ : Point) (_ : Point) => some true
theorem mc_holds : ∀ f, Contract Try.prog f (mcT f) := tbl_cons c_Model (tbl_cons c_mRight (tbl_cons c_ThrT (tbl_cons c_Unpack (tbl_cons c_Eval (tbl_cons c_closed44 tbl_nil)))))
theorem law_holds : Contract Try.prog 10 law_sp :=
  contract_of_runs mixed mc_holds Try.func10 m10 (sp3_runs runs_law)
theorem law_says (f : Forest) (p q : Point) : law_sp [Arg.enc f, Arg.enc p, Arg.enc q] = some (.bool true) := by
  simp only [law_sp, sp3, Arg.dec_enc, Option.bind_some]
  rfl
end Go.Co
