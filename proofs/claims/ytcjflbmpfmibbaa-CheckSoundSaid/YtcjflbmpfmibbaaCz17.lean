/- CO: texts of this claim, one behind the other. -/
import Derived.Test.YtcjflbmpfmibbaaCz13
/- CO: the document's own cells of a box; does a query hold by them? (written by mkCoRe.py) -/
set_option maxHeartbeats 16000000
set_option maxRecDepth 100000
namespace Go.Co
open Go.Am Go.Proofs
set_option linter.unusedSimpArgs false
set_option linter.unusedVariables false
attribute [-simp] Go.Am.eff_gcall
def c47_0 : ACode := .ops [⟨some 4, .box (.t 0) 6, none, []⟩,⟨some 5, .box (.t 1) 17, none, []⟩,⟨some 6, .box (.t 2) 10, none, []⟩,⟨some 8, .mv (.c (.nils)), none, []⟩,⟨some 9, .mv (.c (.bool false)), none, []⟩] [3, 4, 5, 6]
theorem r47_0 : type_of% (@rr _ _ c47_0.eq_1) := rr rfl
def c47_1 : ACode := .ops [⟨some 10, .mv (.c (.int .i64 1)), none, []⟩] [3, 4, 5, 6, 10]
theorem r47_1 : type_of% (@rr _ _ c47_1.eq_1) := rr rfl
def c47_2 : ACode := .ops [⟨some 20, .mv (.c (.int .i64 0)), none, []⟩] [3, 4, 5, 6, 10, 20]
theorem r47_2 : type_of% (@rr _ _ c47_2.eq_1) := rr rfl
def c47_3 : ACode := .ops [⟨some 21, .bin .lss (.t 20) (.c (.int .i64 5)), none, []⟩] [3, 4, 5, 6, 10, 20, 21]
theorem r47_3 : type_of% (@rr _ _ c47_3.eq_1) := rr rfl
def c47_4 : ACode := .cond (.t 21) .skip (.exit 0)
theorem r47_4 : type_of% (@rr _ _ c47_4.eq_1) := rr rfl
def c47_5 : ACode := .ops [⟨some 22, .mv (.t 20), none, []⟩,⟨some 11, .mv (.t 22), none, []⟩] [3, 4, 5, 6, 10, 11, 20]
theorem r47_5 : type_of% (@rr _ _ c47_5.eq_1) := rr rfl
def c47_6 : ACode := .ops [⟨some 23, .mv (.t 10), none, []⟩,⟨some 24, .load 6 true (.t 4), none, [4]⟩,⟨some 25, .load 17 true (.t 5), none, [5]⟩,⟨some 26, .load 10 true (.t 6), none, [6]⟩,⟨some 27, .mv (.t 11), none, []⟩,⟨some 28, .call 52 [.t 24, .t 25, .t 26, .t 27], none, []⟩,⟨some 29, .len (.t 28), none, []⟩,⟨some 30, .bin .add (.c (.int .i64 1)) (.t 29), none, []⟩,⟨some 31, .bin .mul (.t 23) (.t 30), none, []⟩,⟨some 10, .mv (.t 31), none, []⟩] [3, 4, 5, 6, 10, 20]
theorem r47_6 : type_of% (@rr _ _ c47_6.eq_1) := rr rfl
def c47_7 : ACode := .ops [⟨some 32, .mv (.t 10), none, []⟩,⟨some 33, .mv (.t 3), none, []⟩,⟨some 34, .bin .gtr (.t 32) (.t 33), none, []⟩] [3, 4, 5, 6, 10, 20, 34]
theorem r47_7 : type_of% (@rr _ _ c47_7.eq_1) := rr rfl
def c47_8 : ACode := .ops [⟨some 8, .mv (.c (.nils)), none, []⟩,⟨some 9, .mv (.c (.bool false)), none, []⟩] [8, 9]
theorem r47_8 : type_of% (@rr _ _ c47_8.eq_1) := rr rfl
def c47_9 : ACode := .seq c47_8 .ret
theorem r47_9 : type_of% (@rr _ _ c47_9.eq_1) := rr rfl
def c47_10 : ACode := .cond (.t 34) c47_9 .skip
theorem r47_10 : type_of% (@rr _ _ c47_10.eq_1) := rr rfl
def c47_11 : ACode := .seq c47_7 c47_10
theorem r47_11 : type_of% (@rr _ _ c47_11.eq_1) := rr rfl
def c47_12 : ACode := .seq c47_6 c47_11
theorem r47_12 : type_of% (@rr _ _ c47_12.eq_1) := rr rfl
def c47_13 : ACode := .seq c47_5 c47_12
theorem r47_13 : type_of% (@rr _ _ c47_13.eq_1) := rr rfl
def c47_14 : ACode := .block 1 c47_13
theorem r47_14 : type_of% (@rr _ _ c47_14.eq_1) := rr rfl
def c47_15 : ACode := .ops [⟨some 35, .bin .add (.t 20) (.c (.int .i64 1)), none, []⟩,⟨some 20, .mv (.t 35), none, []⟩] [3, 4, 5, 6, 10, 20]
theorem r47_15 : type_of% (@rr _ _ c47_15.eq_1) := rr rfl
def c47_16 : ACode := .seq c47_14 c47_15
theorem r47_16 : type_of% (@rr _ _ c47_16.eq_1) := rr rfl
def c47_17 : ACode := .seq c47_4 c47_16
theorem r47_17 : type_of% (@rr _ _ c47_17.eq_1) := rr rfl
def c47_18 : ACode := .seq c47_3 c47_17
theorem r47_18 : type_of% (@rr _ _ c47_18.eq_1) := rr rfl
def c47_19 : ACode := .keep [3, 4, 5, 6, 10, 20] [4, 5, 6] c47_18
theorem r47_19 : type_of% (@rr _ _ c47_19.eq_1) := rr rfl
def c47_20 : ACode := .loop c47_19
theorem r47_20 : type_of% (@rr _ _ c47_20.eq_1) := rr rfl
def c47_21 : ACode := .block 0 c47_20
theorem r47_21 : type_of% (@rr _ _ c47_21.eq_1) := rr rfl
def c47_22 : ACode := .seq c47_2 c47_21
theorem r47_22 : type_of% (@rr _ _ c47_22.eq_1) := rr rfl
def c47_23 : ACode := .ops [⟨some 36, .load 10 true (.t 6), none, [6]⟩,⟨some 37, .mkrow 12 1 10 [.int .i64 0, .int .i64 0, .int .i64 0, .int .i64 0, .int .i64 0, .int .i64 0, .int .i64 0, .int .i64 0, .int .i64 0, .int .i64 0] [(0, 10, .t 36)], none, []⟩,⟨some 12, .mv (.t 37), none, []⟩] [4, 5, 6, 12]
theorem r47_23 : type_of% (@rr _ _ c47_23.eq_1) := rr rfl
def c47_24 : ACode := .ops [⟨some 38, .mv (.c (.int .i64 0)), none, []⟩] [4, 5, 6, 12, 38]
theorem r47_24 : type_of% (@rr _ _ c47_24.eq_1) := rr rfl
def c47_25 : ACode := .ops [⟨some 39, .bin .lss (.t 38) (.c (.int .i64 5)), none, []⟩] [4, 5, 6, 12, 38, 39]
theorem r47_25 : type_of% (@rr _ _ c47_25.eq_1) := rr rfl
def c47_26 : ACode := .cond (.t 39) .skip (.exit 2)
theorem r47_26 : type_of% (@rr _ _ c47_26.eq_1) := rr rfl
def c47_27 : ACode := .ops [⟨some 40, .mv (.t 38), none, []⟩,⟨some 13, .mv (.t 40), none, []⟩] [4, 5, 6, 12, 13, 38]
theorem r47_27 : type_of% (@rr _ _ c47_27.eq_1) := rr rfl
def c47_28 : ACode := .ops [⟨some 14, .nil0 14 10, none, []⟩] [4, 5, 6, 12, 13, 14, 38]
theorem r47_28 : type_of% (@rr _ _ c47_28.eq_1) := rr rfl
def c47_29 : ACode := .ops [⟨some 41, .mv (.t 12), none, []⟩,⟨some 42, .len (.t 41), none, [12]⟩,⟨some 43, .mv (.c (.int .i64 0)), none, []⟩] [4, 5, 6, 13, 14, 38, 41, 42, 43]
theorem r47_29 : type_of% (@rr _ _ c47_29.eq_1) := rr rfl
def c47_30 : ACode := .ops [⟨some 44, .bin .lss (.t 43) (.t 42), none, []⟩] [4, 5, 6, 13, 14, 38, 41, 42, 43, 44]
theorem r47_30 : type_of% (@rr _ _ c47_30.eq_1) := rr rfl
def c47_31 : ACode := .cond (.t 44) .skip (.exit 4)
theorem r47_31 : type_of% (@rr _ _ c47_31.eq_1) := rr rfl
def c47_32 : ACode := .ops [⟨some 45, .ias (.t 41) (.t 43) 10, none, [12]⟩,⟨some 46, .load 10 true (.t 45), none, [12]⟩,⟨some 16, .alloc [.int .i64 0, .int .i64 0, .int .i64 0, .int .i64 0, .int .i64 0, .int .i64 0, .int .i64 0, .int .i64 0, .int .i64 0, .int .i64 0], none, []⟩,⟨none, .store (.t 16) 10 (.t 46), none, [16]⟩] [4, 5, 6, 13, 14, 16, 38, 41, 42, 43]
theorem r47_32 : type_of% (@rr _ _ c47_32.eq_1) := rr rfl
def c47_33 : ACode := .ops [⟨some 47, .mv (.t 13), none, []⟩,⟨some 48, .iad (.t 6) (.t 47) 2 5, none, [6]⟩,⟨some 49, .fad (.t 48) 0, none, [6]⟩,⟨some 50, .load 1 false (.t 49), none, [6]⟩,⟨some 17, .mv (.t 50), none, []⟩] [4, 5, 6, 13, 14, 16, 17, 38, 41, 42, 43]
theorem r47_33 : type_of% (@rr _ _ c47_33.eq_1) := rr rfl
def c47_34 : ACode := .ops [⟨some 51, .load 6 true (.t 4), none, [4]⟩,⟨some 52, .load 17 true (.t 5), none, [5]⟩,⟨some 53, .load 10 true (.t 6), none, [6]⟩,⟨some 54, .mv (.t 13), none, []⟩,⟨some 55, .call 52 [.t 51, .t 52, .t 53, .t 54], none, []⟩,⟨some 56, .len (.t 55), none, []⟩,⟨some 57, .mv (.c (.int .i64 0)), none, []⟩] [4, 5, 6, 13, 14, 16, 17, 38, 41, 42, 43, 55, 56, 57]
theorem r47_34 : type_of% (@rr _ _ c47_34.eq_1) := rr rfl
def c47_35 : ACode := .ops [⟨some 58, .bin .lss (.t 57) (.t 56), none, []⟩] [4, 5, 6, 13, 14, 16, 17, 38, 41, 42, 43, 55, 56, 57, 58]
theorem r47_35 : type_of% (@rr _ _ c47_35.eq_1) := rr rfl
def c47_36 : ACode := .cond (.t 58) .skip (.exit 6)
theorem r47_36 : type_of% (@rr _ _ c47_36.eq_1) := rr rfl
def c47_37 : ACode := .ops [⟨some 59, .ias (.t 55) (.t 57) 1, none, []⟩,⟨some 60, .load 1 false (.t 59), none, []⟩,⟨some 19, .mv (.t 60), none, []⟩] [4, 5, 6, 13, 14, 16, 17, 19, 38, 41, 42, 43, 55, 56, 57]
theorem r47_37 : type_of% (@rr _ _ c47_37.eq_1) := rr rfl
def c47_38 : ACode := .ops [⟨some 61, .mv (.t 13), none, []⟩,⟨some 62, .mv (.t 17), none, []⟩,⟨some 63, .mv (.t 19), none, []⟩,⟨some 64, .build [.int .i64 0, .int .i64 0] [(0, 1, .t 62), (1, 1, .t 63)], none, []⟩,⟨some 65, .iad (.t 16) (.t 61) 2 5, none, [16]⟩,⟨none, .store (.t 65) 2 (.t 64), none, [16]⟩] [4, 5, 6, 13, 14, 16, 19, 38, 41, 42, 43, 55, 56, 57]
theorem r47_38 : type_of% (@rr _ _ c47_38.eq_1) := rr rfl
def c47_39 : ACode := .ops [⟨some 66, .mv (.t 14), none, []⟩,⟨some 67, .load 10 true (.t 16), none, [16]⟩,⟨some 68, .mkrow 68 1 10 [.int .i64 0, .int .i64 0, .int .i64 0, .int .i64 0, .int .i64 0, .int .i64 0, .int .i64 0, .int .i64 0, .int .i64 0, .int .i64 0] [(0, 10, .t 67)], none, []⟩,⟨some 69, .app 14 [14] (.t 66) (.t 68) 10, none, [14, 68]⟩,⟨some 14, .mv (.t 69), none, []⟩] [4, 5, 6, 13, 14, 16, 19, 38, 41, 42, 43, 55, 56, 57]
theorem r47_39 : type_of% (@rr _ _ c47_39.eq_1) := rr rfl
def c47_40 : ACode := .ops [⟨some 70, .mv (.t 19), none, []⟩,⟨some 71, .bin .add (.t 70) (.c (.int .i64 1)), none, []⟩,⟨some 17, .mv (.t 71), none, []⟩] [4, 5, 6, 13, 14, 16, 17, 38, 41, 42, 43, 55, 56, 57]
theorem r47_40 : type_of% (@rr _ _ c47_40.eq_1) := rr rfl
def c47_41 : ACode := .seq c47_39 c47_40
theorem r47_41 : type_of% (@rr _ _ c47_41.eq_1) := rr rfl
def c47_42 : ACode := .seq c47_38 c47_41
theorem r47_42 : type_of% (@rr _ _ c47_42.eq_1) := rr rfl
def c47_43 : ACode := .seq c47_37 c47_42
theorem r47_43 : type_of% (@rr _ _ c47_43.eq_1) := rr rfl
def c47_44 : ACode := .block 7 c47_43
theorem r47_44 : type_of% (@rr _ _ c47_44.eq_1) := rr rfl
def c47_45 : ACode := .ops [⟨some 72, .bin .add (.t 57) (.c (.int .i64 1)), none, []⟩,⟨some 57, .mv (.t 72), none, []⟩] [4, 5, 6, 13, 14, 16, 17, 38, 41, 42, 43, 55, 56, 57]
theorem r47_45 : type_of% (@rr _ _ c47_45.eq_1) := rr rfl
def c47_46 : ACode := .seq c47_44 c47_45
theorem r47_46 : type_of% (@rr _ _ c47_46.eq_1) := rr rfl
def c47_47 : ACode := .seq c47_36 c47_46
theorem r47_47 : type_of% (@rr _ _ c47_47.eq_1) := rr rfl
def c47_48 : ACode := .seq c47_35 c47_47
theorem r47_48 : type_of% (@rr _ _ c47_48.eq_1) := rr rfl
def c47_49 : ACode := .keep [4, 5, 6, 13, 14, 16, 17, 38, 41, 42, 43, 55, 56, 57] [4, 5, 6, 12, 14, 16] c47_48
theorem r47_49 : type_of% (@rr _ _ c47_49.eq_1) := rr rfl
def c47_50 : ACode := .loop c47_49
theorem r47_50 : type_of% (@rr _ _ c47_50.eq_1) := rr rfl
def c47_51 : ACode := .block 6 c47_50
theorem r47_51 : type_of% (@rr _ _ c47_51.eq_1) := rr rfl
def c47_52 : ACode := .seq c47_34 c47_51
theorem r47_52 : type_of% (@rr _ _ c47_52.eq_1) := rr rfl
def c47_53 : ACode := .ops [⟨some 73, .mv (.t 13), none, []⟩,⟨some 74, .mv (.t 17), none, []⟩,⟨some 75, .mv (.t 13), none, []⟩,⟨some 76, .iad (.t 6) (.t 75) 2 5, none, [6]⟩,⟨some 77, .fad (.t 76) 1, none, [6]⟩,⟨some 78, .load 1 false (.t 77), none, [6]⟩,⟨some 79, .build [.int .i64 0, .int .i64 0] [(0, 1, .t 74), (1, 1, .t 78)], none, []⟩,⟨some 80, .iad (.t 16) (.t 73) 2 5, none, [16]⟩,⟨none, .store (.t 80) 2 (.t 79), none, [16]⟩] [4, 5, 6, 13, 14, 16, 38, 41, 42, 43]
theorem r47_53 : type_of% (@rr _ _ c47_53.eq_1) := rr rfl
def c47_54 : ACode := .ops [⟨some 81, .mv (.t 14), none, []⟩,⟨some 82, .load 10 true (.t 16), none, [16]⟩,⟨some 83, .mkrow 83 1 10 [.int .i64 0, .int .i64 0, .int .i64 0, .int .i64 0, .int .i64 0, .int .i64 0, .int .i64 0, .int .i64 0, .int .i64 0, .int .i64 0] [(0, 10, .t 82)], none, []⟩,⟨some 84, .app 14 [14] (.t 81) (.t 83) 10, none, [14, 83]⟩,⟨some 14, .mv (.t 84), none, []⟩] [4, 5, 6, 13, 14, 38, 41, 42, 43]
theorem r47_54 : type_of% (@rr _ _ c47_54.eq_1) := rr rfl
def c47_55 : ACode := .seq c47_53 c47_54
theorem r47_55 : type_of% (@rr _ _ c47_55.eq_1) := rr rfl
def c47_56 : ACode := .seq c47_52 c47_55
theorem r47_56 : type_of% (@rr _ _ c47_56.eq_1) := rr rfl
def c47_57 : ACode := .seq c47_33 c47_56
theorem r47_57 : type_of% (@rr _ _ c47_57.eq_1) := rr rfl
def c47_58 : ACode := .seq c47_32 c47_57
theorem r47_58 : type_of% (@rr _ _ c47_58.eq_1) := rr rfl
def c47_59 : ACode := .block 5 c47_58
theorem r47_59 : type_of% (@rr _ _ c47_59.eq_1) := rr rfl
def c47_60 : ACode := .ops [⟨some 85, .bin .add (.t 43) (.c (.int .i64 1)), none, []⟩,⟨some 43, .mv (.t 85), none, []⟩] [4, 5, 6, 13, 14, 38, 41, 42, 43]
theorem r47_60 : type_of% (@rr _ _ c47_60.eq_1) := rr rfl
def c47_61 : ACode := .seq c47_59 c47_60
theorem r47_61 : type_of% (@rr _ _ c47_61.eq_1) := rr rfl
def c47_62 : ACode := .seq c47_31 c47_61
theorem r47_62 : type_of% (@rr _ _ c47_62.eq_1) := rr rfl
def c47_63 : ACode := .seq c47_30 c47_62
theorem r47_63 : type_of% (@rr _ _ c47_63.eq_1) := rr rfl
def c47_64 : ACode := .keep [4, 5, 6, 13, 14, 38, 41, 42, 43] [4, 5, 6, 12, 14] c47_63
theorem r47_64 : type_of% (@rr _ _ c47_64.eq_1) := rr rfl
def c47_65 : ACode := .loop c47_64
theorem r47_65 : type_of% (@rr _ _ c47_65.eq_1) := rr rfl
def c47_66 : ACode := .block 4 c47_65
theorem r47_66 : type_of% (@rr _ _ c47_66.eq_1) := rr rfl
def c47_67 : ACode := .seq c47_29 c47_66
theorem r47_67 : type_of% (@rr _ _ c47_67.eq_1) := rr rfl
def c47_68 : ACode := .ops [⟨some 86, .mv (.t 14), none, []⟩,⟨some 12, .frz (.t 86), none, [14]⟩] [4, 5, 6, 12, 38]
theorem r47_68 : type_of% (@rr _ _ c47_68.eq_1) := rr rfl
def c47_69 : ACode := .seq c47_67 c47_68
theorem r47_69 : type_of% (@rr _ _ c47_69.eq_1) := rr rfl
def c47_70 : ACode := .seq c47_28 c47_69
theorem r47_70 : type_of% (@rr _ _ c47_70.eq_1) := rr rfl
def c47_71 : ACode := .seq c47_27 c47_70
theorem r47_71 : type_of% (@rr _ _ c47_71.eq_1) := rr rfl
def c47_72 : ACode := .block 3 c47_71
theorem r47_72 : type_of% (@rr _ _ c47_72.eq_1) := rr rfl
def c47_73 : ACode := .ops [⟨some 87, .bin .add (.t 38) (.c (.int .i64 1)), none, []⟩,⟨some 38, .mv (.t 87), none, []⟩] [4, 5, 6, 12, 38]
theorem r47_73 : type_of% (@rr _ _ c47_73.eq_1) := rr rfl
def c47_74 : ACode := .seq c47_72 c47_73
theorem r47_74 : type_of% (@rr _ _ c47_74.eq_1) := rr rfl
def c47_75 : ACode := .seq c47_26 c47_74
theorem r47_75 : type_of% (@rr _ _ c47_75.eq_1) := rr rfl
def c47_76 : ACode := .seq c47_25 c47_75
theorem r47_76 : type_of% (@rr _ _ c47_76.eq_1) := rr rfl
def c47_77 : ACode := .keep [4, 5, 6, 12, 38] [4, 5, 6, 12] c47_76
theorem r47_77 : type_of% (@rr _ _ c47_77.eq_1) := rr rfl
def c47_78 : ACode := .loop c47_77
theorem r47_78 : type_of% (@rr _ _ c47_78.eq_1) := rr rfl
def c47_79 : ACode := .block 2 c47_78
theorem r47_79 : type_of% (@rr _ _ c47_79.eq_1) := rr rfl
def c47_80 : ACode := .seq c47_24 c47_79
theorem r47_80 : type_of% (@rr _ _ c47_80.eq_1) := rr rfl
def c47_81 : ACode := .ops [⟨some 88, .mv (.t 12), none, []⟩,⟨some 8, .mv (.t 88), none, []⟩,⟨some 9, .mv (.c (.bool true)), none, []⟩] [8, 9]
theorem r47_81 : type_of% (@rr _ _ c47_81.eq_1) := rr rfl
def c47_82 : ACode := .seq c47_81 .ret
theorem r47_82 : type_of% (@rr _ _ c47_82.eq_1) := rr rfl
def c47_83 : ACode := .seq c47_80 c47_82
theorem r47_83 : type_of% (@rr _ _ c47_83.eq_1) := rr rfl
def c47_84 : ACode := .seq c47_23 c47_83
theorem r47_84 : type_of% (@rr _ _ c47_84.eq_1) := rr rfl
def c47_85 : ACode := .seq c47_22 c47_84
theorem r47_85 : type_of% (@rr _ _ c47_85.eq_1) := rr rfl
def c47_86 : ACode := .seq c47_1 c47_85
theorem r47_86 : type_of% (@rr _ _ c47_86.eq_1) := rr rfl
def c47_87 : ACode := .seq c47_0 c47_86
theorem r47_87 : type_of% (@rr _ _ c47_87.eq_1) := rr rfl
def a47 : AFun := ⟨4, 89, c47_87, [.t 8, .t 9]⟩
attribute [simp] r47_0 r47_1 r47_2 r47_3 r47_4 r47_5 r47_6 r47_7 r47_8 r47_9 r47_10 r47_11 r47_12 r47_13 r47_14 r47_15 r47_16 r47_17 r47_18 r47_19 r47_20 r47_21 r47_22 r47_23 r47_24 r47_25 r47_26 r47_27 r47_28 r47_29 r47_30 r47_31 r47_32 r47_33 r47_34 r47_35 r47_36 r47_37 r47_38 r47_39 r47_40 r47_41 r47_42 r47_43 r47_44 r47_45 r47_46 r47_47 r47_48 r47_49 r47_50 r47_51 r47_52 r47_53 r47_54 r47_55 r47_56 r47_57 r47_58 r47_59 r47_60 r47_61 r47_62 r47_63 r47_64 r47_65 r47_66 r47_67 r47_68 r47_69 r47_70 r47_71 r47_72 r47_73 r47_74 r47_75 r47_76 r47_77 r47_78 r47_79 r47_80 r47_81 r47_82 r47_83 r47_84 r47_85 r47_86 r47_87
theorem m47 : mFun Try.prog Try.f47 a47 = true := by decide +kernel
def c42_0 : ACode := .ops [⟨some 3, .box (.t 0) 6, none, []⟩,⟨some 4, .box (.t 1) 17, none, []⟩,⟨some 6, .mv (.c (.bool false)), none, []⟩,⟨some 7, .mv (.c (.bool false)), none, []⟩] [2, 3, 4]
theorem r42_0 : type_of% (@rr _ _ c42_0.eq_1) := rr rfl
def c42_1 : ACode := .ops [⟨some 13, .load 6 true (.t 3), none, [3]⟩,⟨some 14, .load 17 true (.t 4), none, [4]⟩,⟨some 15, .load 17 true (.t 4), none, [4]⟩,⟨some 16, .call 33 [.t 15], none, []⟩,⟨some 17, .mv (.t 2), none, []⟩,⟨some 18, .call 47 [.t 13, .t 14, .t 16, .t 17], none, []⟩,⟨some 12, .mv (.t 18), none, []⟩,⟨some 19, .ext (.t 12) 0, none, []⟩,⟨some 20, .ext (.t 12) 1, none, []⟩,⟨some 8, .mv (.t 19), none, []⟩,⟨some 9, .mv (.t 20), none, []⟩] [3, 4, 8, 9]
theorem r42_1 : type_of% (@rr _ _ c42_1.eq_1) := rr rfl
def c42_2 : ACode := .ops [⟨some 21, .mv (.t 9), none, []⟩,⟨some 22, .un .not (.t 21), none, []⟩] [3, 4, 8, 22]
theorem r42_2 : type_of% (@rr _ _ c42_2.eq_1) := rr rfl
def c42_3 : ACode := .ops [⟨some 6, .mv (.c (.bool false)), none, []⟩,⟨some 7, .mv (.c (.bool false)), none, []⟩] [6, 7]
theorem r42_3 : type_of% (@rr _ _ c42_3.eq_1) := rr rfl
def c42_4 : ACode := .seq c42_3 .ret
theorem r42_4 : type_of% (@rr _ _ c42_4.eq_1) := rr rfl
def c42_5 : ACode := .cond (.t 22) c42_4 .skip
theorem r42_5 : type_of% (@rr _ _ c42_5.eq_1) := rr rfl
def c42_6 : ACode := .seq c42_2 c42_5
theorem r42_6 : type_of% (@rr _ _ c42_6.eq_1) := rr rfl
def c42_7 : ACode := .ops [⟨some 23, .mv (.t 8), none, []⟩,⟨some 24, .len (.t 23), none, []⟩,⟨some 25, .mv (.c (.int .i64 0)), none, []⟩] [3, 4, 23, 24, 25]
theorem r42_7 : type_of% (@rr _ _ c42_7.eq_1) := rr rfl
def c42_8 : ACode := .ops [⟨some 26, .bin .lss (.t 25) (.t 24), none, []⟩] [3, 4, 23, 24, 25, 26]
theorem r42_8 : type_of% (@rr _ _ c42_8.eq_1) := rr rfl
def c42_9 : ACode := .cond (.t 26) .skip (.exit 0)
theorem r42_9 : type_of% (@rr _ _ c42_9.eq_1) := rr rfl
def c42_10 : ACode := .ops [⟨some 27, .ias (.t 23) (.t 25) 10, none, []⟩,⟨some 28, .load 10 true (.t 27), none, []⟩,⟨some 11, .alloc [.int .i64 0, .int .i64 0, .int .i64 0, .int .i64 0, .int .i64 0, .int .i64 0, .int .i64 0, .int .i64 0, .int .i64 0, .int .i64 0], none, []⟩,⟨none, .store (.t 11) 10 (.t 28), none, [11]⟩] [3, 4, 11, 23, 24, 25]
theorem r42_10 : type_of% (@rr _ _ c42_10.eq_1) := rr rfl
def c42_11 : ACode := .ops [⟨some 29, .load 6 true (.t 3), none, [3]⟩,⟨some 30, .load 17 true (.t 4), none, [4]⟩,⟨some 31, .load 10 true (.t 11), none, [11]⟩,⟨some 32, .call 81 [.t 31], none, []⟩,⟨some 33, .iad (.t 11) (.c (.int .i64 4)) 2 5, none, [11]⟩,⟨some 34, .fad (.t 33) 1, none, [11]⟩,⟨some 35, .load 1 false (.t 34), none, [11]⟩,⟨some 36, .call 37 [.t 29, .t 30, .t 32, .t 35], none, []⟩] [3, 4, 23, 24, 25, 36]
theorem r42_11 : type_of% (@rr _ _ c42_11.eq_1) := rr rfl
def c42_12 : ACode := .ops [⟨some 6, .mv (.c (.bool false)), none, []⟩,⟨some 7, .mv (.c (.bool true)), none, []⟩] [6, 7]
theorem r42_12 : type_of% (@rr _ _ c42_12.eq_1) := rr rfl
def c42_13 : ACode := .seq c42_12 .ret
theorem r42_13 : type_of% (@rr _ _ c42_13.eq_1) := rr rfl
def c42_14 : ACode := .cond (.t 36) c42_13 .skip
theorem r42_14 : type_of% (@rr _ _ c42_14.eq_1) := rr rfl
def c42_15 : ACode := .seq c42_11 c42_14
theorem r42_15 : type_of% (@rr _ _ c42_15.eq_1) := rr rfl
def c42_16 : ACode := .seq c42_10 c42_15
theorem r42_16 : type_of% (@rr _ _ c42_16.eq_1) := rr rfl
def c42_17 : ACode := .block 1 c42_16
theorem r42_17 : type_of% (@rr _ _ c42_17.eq_1) := rr rfl
def c42_18 : ACode := .ops [⟨some 37, .bin .add (.t 25) (.c (.int .i64 1)), none, []⟩,⟨some 25, .mv (.t 37), none, []⟩] [3, 4, 23, 24, 25]
theorem r42_18 : type_of% (@rr _ _ c42_18.eq_1) := rr rfl
def c42_19 : ACode := .seq c42_17 c42_18
theorem r42_19 : type_of% (@rr _ _ c42_19.eq_1) := rr rfl
def c42_20 : ACode := .seq c42_9 c42_19
theorem r42_20 : type_of% (@rr _ _ c42_20.eq_1) := rr rfl
def c42_21 : ACode := .seq c42_8 c42_20
theorem r42_21 : type_of% (@rr _ _ c42_21.eq_1) := rr rfl
def c42_22 : ACode := .keep [3, 4, 23, 24, 25] [3, 4] c42_21
theorem r42_22 : type_of% (@rr _ _ c42_22.eq_1) := rr rfl
def c42_23 : ACode := .loop c42_22
theorem r42_23 : type_of% (@rr _ _ c42_23.eq_1) := rr rfl
def c42_24 : ACode := .block 0 c42_23
theorem r42_24 : type_of% (@rr _ _ c42_24.eq_1) := rr rfl
def c42_25 : ACode := .seq c42_7 c42_24
theorem r42_25 : type_of% (@rr _ _ c42_25.eq_1) := rr rfl
def c42_26 : ACode := .ops [⟨some 6, .mv (.c (.bool true)), none, []⟩,⟨some 7, .mv (.c (.bool true)), none, []⟩] [6, 7]
theorem r42_26 : type_of% (@rr _ _ c42_26.eq_1) := rr rfl
def c42_27 : ACode := .seq c42_26 .ret
theorem r42_27 : type_of% (@rr _ _ c42_27.eq_1) := rr rfl
def c42_28 : ACode := .seq c42_25 c42_27
theorem r42_28 : type_of% (@rr _ _ c42_28.eq_1) := rr rfl
def c42_29 : ACode := .seq c42_6 c42_28
theorem r42_29 : type_of% (@rr _ _ c42_29.eq_1) := rr rfl
def c42_30 : ACode := .seq c42_1 c42_29
theorem r42_30 : type_of% (@rr _ _ c42_30.eq_1) := rr rfl
def c42_31 : ACode := .seq c42_0 c42_30
theorem r42_31 : type_of% (@rr _ _ c42_31.eq_1) := rr rfl
def a42 : AFun := ⟨3, 38, c42_31, [.t 6, .t 7]⟩
attribute [simp] r42_0 r42_1 r42_2 r42_3 r42_4 r42_5 r42_6 r42_7 r42_8 r42_9 r42_10 r42_11 r42_12 r42_13 r42_14 r42_15 r42_16 r42_17 r42_18 r42_19 r42_20 r42_21 r42_22 r42_23 r42_24 r42_25 r42_26 r42_27 r42_28 r42_29 r42_30 r42_31
theorem m42 : mFun Try.prog Try.f42 a42 = true := by decide +kernel
def cumN (m : Model) (q : Query) (b : Box) : Nat → Int
  | 0 => 1
  | p + 1 => cumN m q b p * kN m q b p
theorem cumN_pos {m : Model} (hm : RM m) (q : Query) (b : Box) : ∀ p, 1 ≤ cumN m q b p
  | 0 => Int.le_refl _
  | p + 1 => by
    have h1 := cumN_pos hm q b p
    have h2 := kN_le hm q b p
    exact (mul_le h1 (Int.le_refl _) h2.1 h2.2).1
theorem cumN_le {m : Model} (hm : RM m) (q : Query) (b : Box) (p : Nat) : cumN m q b p ≤ cumN m q b (p + 1) := by
  have h1 := cumN_pos hm q b p
  have h2 := kN_le hm q b p
  have := Int.mul_le_mul_of_nonneg_left h2.1 (show (0 : Int) ≤ cumN m q b p by omega)
  rw [Int.mul_one] at this
  exact this
theorem cumN_five {m : Model} (hm : RM m) (q : Query) (b : Box) {p : Nat} (h : p ≤ 5) : cumN m q b p ≤ countM m q b := by
  have e : countM m q b = cumN m q b 5 := by
    show _ = 1 * kN m q b 0 * kN m q b 1 * kN m q b 2 * kN m q b 3 * kN m q b 4
    rw [Int.one_mul]
    rfl
  have h0 : cumN m q b 0 ≤ cumN m q b 1 := cumN_le hm q b 0
  have h1 : cumN m q b 1 ≤ cumN m q b 2 := cumN_le hm q b 1
  have h2 : cumN m q b 2 ≤ cumN m q b 3 := cumN_le hm q b 2
  have h3 : cumN m q b 3 ≤ cumN m q b 4 := cumN_le hm q b 3
  have h4 : cumN m q b 4 ≤ cumN m q b 5 := cumN_le hm q b 4
  rw [e]
  match p, h with
  | 0, _ => omega
  | 1, _ => omega
  | 2, _ => omega
  | 3, _ => omega
  | 4, _ => omega
  | 5, _ => omega
theorem count_cum {m : Model} (q : Query) (b : Box) : countM m q b = cumN m q b 5 := by
  show _ = 1 * kN m q b 0 * kN m q b 1 * kN m q b 2 * kN m q b 3 * kN m q b 4
  rw [Int.one_mul]
  rfl
theorem cut_rest {X : Box} {k lo hi t : Int} (h0 : 0 ≤ k) (h5 : k < 5) (h1 : lo ≤ t) (h2 : t < hi) : cutB (X.set k ⟨lo, hi⟩) k t = (X.set k ⟨lo, t⟩, X.set k ⟨t + 1, hi⟩) := by
  have hg : (X.set k ⟨lo, hi⟩).get k = ⟨lo, hi⟩ := by rw [set_get_ite _ _ h0 h5 h0 h5, if_pos rfl]
  rw [cutB_halves h0 h5 (by rw [hg]; exact h1) (by rw [hg]; exact h2), hg]
  simp only
  rw [set_set _ _ _ h0 h5, set_set _ _ _ h0 h5]
theorem wr_nrow (X : Box) (i : Nat) (h : i < 5) (x y : Int) : wr [.int .i64 X.s0.lo, .int .i64 X.s0.hi, .int .i64 X.s1.lo, .int .i64 X.s1.hi, .int .i64 X.s2.lo, .int .i64 X.s2.hi, .int .i64 X.s3.lo, .int .i64 X.s3.hi, .int .i64 X.s4.lo, .int .i64 X.s4.hi] (i * 2) [.int .i64 x, .int .i64 y] = Row.enc (X.set i ⟨x, y⟩) := by
  match i, h with
  | 0, _ => rfl
  | 1, _ => rfl
  | 2, _ => rfl
  | 3, _ => rfl
  | 4, _ => rfl
theorem wr_nrow' (X : Box) (i : Nat) (h : i < 5) (x y : Int) : wr (Row.enc X) (i * 2) [.int .i64 x, .int .i64 y] = Row.enc (X.set i ⟨x, y⟩) := wr_nrow X i h x y
noncomputable def RCellsC (m : Model) (q : Query) (b : Box) (most : Int) : Option (List Box × Bool) := Part (RM m ∧ okB b ∧ b.empty = false ∧ most ≤ 1000000) (if countM m q b ≤ most then (stageC m q b 5, true) else ([], false))
noncomputable abbrev reT : Cs := tbl [(52, sp4 RCutsC)]
theorem rd_all (X : Box) : rd (Row.enc X) 0 10 true = some (.agg (Row.enc X)) := rfl
theorem len_all (X : Box) : (Row.enc X).length = 10 := rfl
theorem take_all (X : Box) : List.take 10 (Row.enc X) = Row.enc X := rfl
theorem wr_all (X : Box) : wr [.int .i64 0, .int .i64 0, .int .i64 0, .int .i64 0, .int .i64 0, .int .i64 0, .int .i64 0, .int .i64 0, .int .i64 0, .int .i64 0] 0 (Row.enc X) = Row.enc X := rfl
theorem encL_snocE (X : List Box) (c : Box) : encL (X ++ [c]) = encL X ++ Row.enc c := by rw [encL_append, encL_cons, encL_nil, List.append_nil]
theorem cell_all (X : Box) : (Row.enc X).all AV.isCell = true := rfl
theorem cuts_rest {ts : List Int} (hs : ts.Pairwise (· < ·)) {i : Nat} (h : i < ts.length) {lo hi : Int} (hb : ∀ t ∈ ts.drop i, lo ≤ t ∧ t < hi) : lo ≤ ts[i] ∧ ts[i] < hi ∧ ∀ t ∈ ts.drop (i + 1), ts[i] + 1 ≤ t ∧ t < hi := by
  have h1 := hb ts[i] (by rw [List.drop_eq_getElem_cons h]; exact List.mem_cons_self)
  refine ⟨h1.1, h1.2, fun t ht => ?_⟩
  have h2 := hb t (by rw [List.drop_eq_getElem_cons h]; exact List.mem_cons_of_mem _ ht)
  obtain ⟨j, hj, rfl⟩ := List.getElem_of_mem ht
  rw [List.length_drop] at hj
  rw [List.getElem_drop]
  rw [List.getElem_drop] at h2
  have := List.pairwise_iff_getElem.1 hs i (i + 1 + j) h (by omega) (by omega)
  omega
theorem run_reCells (m : Model) (q : Query) (b : Box) (hm : RM m) (hb : okB b) (he : b.empty = false) (hcnt : countM m q b ≤ 1000000) (e1 e2 e3 e4 : AV) (g : Nat → Nat) :
    run reT c47_84 [] ⟨[(3, e1), (4, .ptr 4 (g 4) 0), (5, .ptr 5 (g 5) 0), (6, .ptr 6 (g 6) 0), (10, e2), (20, e3), (21, e4)], [(4, ⟨Row.enc m, false, 0⟩), (5, ⟨Row.enc q, false, 0⟩), (6, ⟨Row.enc b, false, 0⟩)], g⟩ (fin a47.res (Arg.enc (stageC m q b 5, true))) := by
  unfold a47
  have hbr : rd (Row.enc b) 0 10 true = some (.agg (Row.enc b)) := rfl
  have hmr : rd (Row.enc m) 0 6 true = some (.agg (Row.enc m)) := rfl
  have hqr : rd (Row.enc q) 0 17 true = some (.agg (Row.enc q)) := rfl
  have hbp : (Row.enc b).all AV.plain = true := rfl
  have hmp : (Row.enc m).all AV.plain = true := rfl
  have hqp : (Row.enc q).all AV.plain = true := rfl
  have hbz := wr_all b
  have hbl := len_all b
  have hbc := cell_all b
  have hE1 : encL [b] = Row.enc b := by rw [encL_cons, encL_nil, List.append_nil]
  have hlo : ∀ p : Nat, p < 5 → rd (Row.enc b) (p * 2) 1 false = some (.int .i64 (b.get p).lo) := fun p h => rd_nlo b p h
  have hhi : ∀ p : Nat, p < 5 → rd (Row.enc b) (p * 2 + 1) 1 false = some (.int .i64 (b.get p).hi) := fun p h => rd_nhi b p h
  have hCall : ∀ p : Nat, sp4 RCutsC [.agg (Row.enc m), .agg (Row.enc q), .agg (Row.enc b), .int .i64 p] = some (.lst (cutsL m q b p).length (encL (cutsL m q b p))) := fun p => by
    have hd1 : (Arg.dec (.agg (Row.enc m)) : Option Model) = some m := Arg.dec_enc m
    have hd2 : (Arg.dec (.agg (Row.enc q)) : Option Query) = some q := Arg.dec_enc q
    have hd3 : (Arg.dec (.agg (Row.enc b)) : Option Box) = some b := Arg.dec_enc b
    have hK : RCutsC m q b p = some (cutsL m q b p) := part_of hm _
    rw [sp4_eq, hd1, hd2, hd3, Option.bind_some, Option.bind_some, Option.bind_some, dec_int, Option.bind_some, hK]
    rfl
  generalize Row.enc m = EM at *
  generalize Row.enc q = EQ at *
  generalize Row.enc b = EB at *
  simp -implicitDefEqProofs [hbr, hbz, hbl, hbc]
  refine run_while (c := c47_76) (fun n s => ∃ (p : Nat) (V : AV) (g : Nat → Nat), p + n = 5 ∧ ((p = 0 ∧ V = .own 12 (g 12) 0 1 ∧ stageC m q b p = [b]) ∨ V = .lst (stageC m q b p).length (encL (stageC m q b p))) ∧ s = ⟨[(4, .ptr 4 (g 4) 0), (5, .ptr 5 (g 5) 0), (6, .ptr 6 (g 6) 0), (12, V), (38, .int .i64 p)],
    [(4, ⟨EM, false, 0⟩), (5, ⟨EQ, false, 0⟩), (6, ⟨EB, false, 0⟩), (12, ⟨encL [b], false, 10⟩)], g⟩) 5 ⟨0, .own 12 (bump 12 g 12) 0 1, bump 12 g, by omega, by simp [stageC], by simp [hE1]⟩ ?_
  rintro n s ⟨p, V, g, hp, hV, rfl⟩
  by_cases h1 : p < 5
  case neg =>
    have hp5 : p = 5 := by omega
    subst hp5
    have hV' : V = .lst (stageC m q b 5).length (encL (stageC m q b 5)) := by
      rcases hV with ⟨h, _⟩ | h
      · cases h
      · exact h
    subst hV'
    simp -implicitDefEqProofs []
  have w1 : IntKind.i64.wrap ((p : Int) + 1) = (p : Int) + 1 := wrap64 (by omega) (by omega)
  have hkl : (cutsL m q b p).length ≤ 248 := by rw [cutsL_len]; exact cutN_le hm q b p
  have hS : stageC m q b (p + 1) = (stageC m q b p).flatMap (splitC p (cutsL m q b p)) := rfl
  have hSl := stage_count hm q b (j := p + 1) (by omega)
  have hsl := stage_count hm q b (j := p) (by omega)
  have hpt := stage_part (m := m) (q := q) he (j := p) (by omega)
  have hso := cuts_sorted m q b p
  have hin := cuts_in (m := m) (q := q) (b := b) (k := p)
  have htk := cuts_ok hm (q := q) (b := b) (i := p)
  have hget : ∀ x ∈ stageC m q b p, x.get p = b.get p := fun x hx => (hpt x hx).rest p (Int.le_refl _) (by omega)
  clear hpt
  have h1i : (p : Int) < 5 := by omega
  have p0 : (0 : Int) ≤ p := by omega
  have hp8 : p * 2 ≤ 8 := by omega
  have m1 : 1 ≤ maxN := by decide
  have hlo := hlo p h1
  have hhi := hhi p h1
  have hCall := hCall p
  have hbhi := (okB_get hb p).2
  generalize hSe : stageC m q b (p + 1) = S at *
  generalize stageC m q b p = L at *
  generalize hts : cutsL m q b p = ts at *
  generalize hsp : b.get (p : Int) = sp at *
  have b1 : ts.length ≤ maxN := by unfold maxN; omega
  have b2 : L.length ≤ maxN := by unfold maxN; omega
  rcases hV with ⟨_, rfl, rfl⟩ | rfl
  · simp -implicitDefEqProofs [h1i, m1, b2]
    refine run_while (c := c47_63) (fun n s => ∃ (j : Nat) (g' : Nat → Nat), j + n = 1 ∧ g' 12 = g 12 ∧ s = ⟨[(4, .ptr 4 (g' 4) 0), (5, .ptr 5 (g' 5) 0), (6, .ptr 6 (g' 6) 0), (13, .int .i64 p), (14, .own 14 (g' 14) 0 (doneC p ts [b] j).length), (38, .int .i64 p), (41, .own 12 (g 12) 0 1), (42, .int .i64 1), (43, .int .i64 j)],
      [(4, ⟨EM, false, 0⟩), (5, ⟨EQ, false, 0⟩), (6, ⟨EB, false, 0⟩), (12, ⟨encL [b], false, 10⟩), (14, ⟨encL (doneC p ts [b] j), false, 10⟩)], g'⟩) 1 ⟨0, bump 14 g, by omega, by simp, by simp [encL_nil, doneC]⟩ ?_
    rintro n2 s ⟨j, g', hj, hg, rfl⟩
    have hDl := doneC_le p ts [b] j
    rw [← hS] at hDl
    have nn0 : (doneC p ts [b] j).length ≤ maxN := by unfold maxN; omega
    by_cases h2 : j < 1
    case neg =>
      have hj1 : j = 1 := by omega
      subst hj1
      have hD : doneC p ts [b] 1 = S := by rw [hS]; unfold doneC; simp
      have h2i : ¬ ((1 : Int) < 1) := by omega
      rw [hD]
      simp -implicitDefEqProofs [w1, h2i, lenB, takeB]
      exact ⟨n - 1, by omega, p + 1, by omega, .inr ⟨⟨by rw [hSe], by rw [hSe]⟩, by omega⟩⟩
    case pos =>
      have h2i : (j : Int) < 1 := by omega
      have hrow := rd_box [b] j (by simpa using h2)
      have hD := doneC_succ p ts [b] (j := j) (by simpa using h2)
      have hDl' := doneC_le p ts [b] (j + 1)
      rw [← hS, hD, List.length_append] at hDl'
      have hgj := hget ([b][j]'(by simpa using h2)) (List.getElem_mem _)
      generalize [b][j]'(by simpa using h2) = c0 at *
      have w2 : IntKind.i64.wrap ((j : Int) + 1) = (j : Int) + 1 := wrap64 (by omega) (by omega)
      generalize hD1 : doneC p ts [b] (j + 1) = D1 at *
      generalize doneC p ts [b] j = D0 at *
      simp -implicitDefEqProofs [h2, h2i, hg, hrow, b1, p0, h1i, hlo, hhi, hbr, hmr, hqr, hbp, hmp, hqp, hCall, w1, -sp4_eq]
      refine run_while (c := c47_48) (fun n s => ∃ (i : Nat) (X : Box) (lo : Int) (pre : List Box) (g'' : Nat → Nat), i + n = ts.length ∧ pre.length = i ∧ (∀ t ∈ ts.drop i, lo ≤ t ∧ t < sp.hi) ∧ pre ++ splitC p (ts.drop i) (X.set p ⟨lo, sp.hi⟩) = splitC p ts c0 ∧ g'' 12 = g 12 ∧ s = ⟨[(4, .ptr 4 (g'' 4) 0), (5, .ptr 5 (g'' 5) 0), (6, .ptr 6 (g'' 6) 0), (13, .int .i64 p), (14, .own 14 (g'' 14) 0 (D0 ++ pre).length), (16, .ptr 16 (g'' 16) 0), (17, .int .i64 lo), (38, .int .i64 p), (41, .own 12 (g 12) 0 1), (42, .int .i64 1), (43, .int .i64 j), (55, .lst ts.length (encL ts)), (56, .int .i64 ts.length), (57, .int .i64 i)],
        [(4, ⟨EM, false, 0⟩), (5, ⟨EQ, false, 0⟩), (6, ⟨EB, false, 0⟩), (12, ⟨encL [b], false, 10⟩), (14, ⟨encL (D0 ++ pre), false, 10⟩), (16, ⟨Row.enc X, false, 0⟩)], g''⟩) ts.length ⟨0, c0, sp.lo, [], bump 16 g', by omega, rfl, by simpa using hin, by rw [← hgj, set_get _ p0 h1i]; rfl, by simp [hg], by simp⟩ ?_
      rintro n3 s ⟨i, X, lo, pre, g'', hi, hpl, hbd, hspl, hg'', rfl⟩
      have nn : (D0 ++ pre).length ≤ maxN := by
        have := congrArg List.length hspl
        rw [List.length_append, splitC_len, splitC_len, List.length_drop] at this
        rw [List.length_append]; unfold maxN; omega
      have nn2 : (D0 ++ pre).length ≤ 1099511627775 := by
        have := congrArg List.length hspl
        rw [List.length_append, splitC_len, splitC_len, List.length_drop] at this
        rw [List.length_append]; omega
      have w3 : IntKind.i64.wrap ((i : Int) + 1) = (i : Int) + 1 := wrap64 (by omega) (by omega)
      generalize hXX : D0 ++ pre = XX at *
      by_cases h3 : i < ts.length
      case pos =>
        have hrd := rd_ints ts i h3
        obtain ⟨r1, r2, r3⟩ := cuts_rest hso h3 hbd
        have ht := htk _ (List.getElem_mem h3)
        have htm := hin _ (List.getElem_mem h3)
        rw [List.drop_eq_getElem_cons h3, splitC, cut_rest p0 h1i r1 r2] at hspl
        simp only at hspl
        have hwr := wr_nrow' X p h1 lo ts[i]
        have hX2 : ∀ s : Span, (X.set p ⟨lo, ts[i]⟩).set p s = X.set p s := fun s => set_set _ _ _ p0 h1i
        have hspl2 : (pre ++ [X.set p ⟨lo, ts[i]⟩]) ++ splitC p (ts.drop (i + 1)) ((X.set p ⟨lo, ts[i]⟩).set p ⟨ts[i] + 1, sp.hi⟩) = splitC p ts c0 := by
          rw [hX2, List.append_assoc]
          exact hspl
        generalize X.set p ⟨lo, ts[i]⟩ = Y at *
        have w4 : IntKind.i64.wrap (ts[i] + 1) = ts[i] + 1 := by
          have hu := hbhi
          unfold ok64 at ht hu
          exact wrap64 (by omega) (by omega)
        generalize hti : ts[i] = t at *
        have hrr := rd_all Y
        have hY1 := len_all Y
        have hX1 := len_all X
        have hYt := take_all Y
        have hYz := wr_all Y
        have hYc := cell_all Y
        have hEnc := encL_snocE (D0 ++ pre) Y
        rw [hXX] at hEnc
        generalize Row.enc X = EX at *
        generalize hEY : Row.enc Y = EY at *
        simp -implicitDefEqProofs [hp8, h3, hrd, w3, w4, nn, nn2, lenB, takeB, h1i, p0, hwr, hX1, hY1, hYt, hYz, hYc, hrr]
        exact ⟨n3 - 1, by omega, i + 1, by omega, Y, t + 1, pre ++ [Y], by simp [hpl], r3, hspl2, bump 14 (bump 68 g''), by simp [hg''], ⟨by simp, by simp, by simp, ⟨by simp, by rw [List.length_append, ← Nat.add_assoc, ← List.length_append, hXX]; rfl⟩, by simp, rfl, by omega⟩, ⟨by rw [← List.append_assoc, hXX, hEnc], hEY.symm⟩, rfl⟩
      case neg =>
        have hi3 : i = ts.length := by omega
        subst hi3
        rw [List.drop_length, splitC] at hspl
        have hwr := wr_nrow' X p h1 lo sp.hi
        generalize X.set p ⟨lo, sp.hi⟩ = Y at *
        have hrr := rd_all Y
        have hY1 := len_all Y
        have hX1 := len_all X
        have hYt := take_all Y
        have hYz := wr_all Y
        have hYc := cell_all Y
        have hEnc := encL_snocE (D0 ++ pre) Y
        rw [hXX] at hEnc
        have hDf : doneC p ts [b] (j + 1) = XX ++ [Y] := by rw [hD1, hD, ← hspl, ← List.append_assoc, hXX]
        generalize Row.enc X = EX at *
        generalize hEY : Row.enc Y = EY at *
        simp -implicitDefEqProofs [hp8, h3, w2, w3, nn, nn2, lenB, takeB, h1i, p0, hhi, hwr, hX1, hY1, hYt, hYz, hYc, hrr]
        exact ⟨n2 - 1, by omega, j + 1, by omega, bump 14 (bump 83 g''), by simp [hg''], ⟨by simp, by simp, by simp, ⟨by simp, by rw [hDf]; simp⟩, by omega⟩, by rw [hDf, hEnc], rfl⟩
  · simp -implicitDefEqProofs [h1i, m1, b2]
    refine run_while (c := c47_63) (fun n s => ∃ (j : Nat) (g' : Nat → Nat), j + n = L.length ∧ g' 12 = g 12 ∧ s = ⟨[(4, .ptr 4 (g' 4) 0), (5, .ptr 5 (g' 5) 0), (6, .ptr 6 (g' 6) 0), (13, .int .i64 p), (14, .own 14 (g' 14) 0 (doneC p ts L j).length), (38, .int .i64 p), (41, .lst L.length (encL L)), (42, .int .i64 L.length), (43, .int .i64 j)],
      [(4, ⟨EM, false, 0⟩), (5, ⟨EQ, false, 0⟩), (6, ⟨EB, false, 0⟩), (12, ⟨encL [b], false, 10⟩), (14, ⟨encL (doneC p ts L j), false, 10⟩)], g'⟩) L.length ⟨0, bump 14 g, by omega, by simp, by simp [encL_nil, doneC]⟩ ?_
    rintro n2 s ⟨j, g', hj, hg, rfl⟩
    have hDl := doneC_le p ts L j
    rw [← hS] at hDl
    have nn0 : (doneC p ts L j).length ≤ maxN := by unfold maxN; omega
    by_cases h2 : j < L.length
    case neg =>
      have hj1 : j = L.length := by omega
      subst hj1
      have hD : doneC p ts L L.length = S := by rw [hS]; unfold doneC; simp
      have h2i : ¬ ((L.length : Int) < L.length) := by omega
      rw [hD]
      simp -implicitDefEqProofs [w1, h2i, lenB, takeB]
      exact ⟨n - 1, by omega, p + 1, by omega, .inr ⟨⟨by rw [hSe], by rw [hSe]⟩, by omega⟩⟩
    case pos =>
      have h2i : (j : Int) < L.length := by omega
      have hrow := rd_box L j (by simpa using h2)
      have hD := doneC_succ p ts L (j := j) (by simpa using h2)
      have hDl' := doneC_le p ts L (j + 1)
      rw [← hS, hD, List.length_append] at hDl'
      have hgj := hget (L[j]'(by simpa using h2)) (List.getElem_mem _)
      generalize L[j]'(by simpa using h2) = c0 at *
      have w2 : IntKind.i64.wrap ((j : Int) + 1) = (j : Int) + 1 := wrap64 (by omega) (by omega)
      generalize hD1 : doneC p ts L (j + 1) = D1 at *
      generalize doneC p ts L j = D0 at *
      simp -implicitDefEqProofs [h2, h2i, hg, hrow, b1, p0, h1i, hlo, hhi, hbr, hmr, hqr, hbp, hmp, hqp, hCall, w1, -sp4_eq]
      refine run_while (c := c47_48) (fun n s => ∃ (i : Nat) (X : Box) (lo : Int) (pre : List Box) (g'' : Nat → Nat), i + n = ts.length ∧ pre.length = i ∧ (∀ t ∈ ts.drop i, lo ≤ t ∧ t < sp.hi) ∧ pre ++ splitC p (ts.drop i) (X.set p ⟨lo, sp.hi⟩) = splitC p ts c0 ∧ g'' 12 = g 12 ∧ s = ⟨[(4, .ptr 4 (g'' 4) 0), (5, .ptr 5 (g'' 5) 0), (6, .ptr 6 (g'' 6) 0), (13, .int .i64 p), (14, .own 14 (g'' 14) 0 (D0 ++ pre).length), (16, .ptr 16 (g'' 16) 0), (17, .int .i64 lo), (38, .int .i64 p), (41, .lst L.length (encL L)), (42, .int .i64 L.length), (43, .int .i64 j), (55, .lst ts.length (encL ts)), (56, .int .i64 ts.length), (57, .int .i64 i)],
        [(4, ⟨EM, false, 0⟩), (5, ⟨EQ, false, 0⟩), (6, ⟨EB, false, 0⟩), (12, ⟨encL [b], false, 10⟩), (14, ⟨encL (D0 ++ pre), false, 10⟩), (16, ⟨Row.enc X, false, 0⟩)], g''⟩) ts.length ⟨0, c0, sp.lo, [], bump 16 g', by omega, rfl, by simpa using hin, by rw [← hgj, set_get _ p0 h1i]; rfl, by simp [hg], by simp⟩ ?_
      rintro n3 s ⟨i, X, lo, pre, g'', hi, hpl, hbd, hspl, hg'', rfl⟩
      have nn : (D0 ++ pre).length ≤ maxN := by
        have := congrArg List.length hspl
        rw [List.length_append, splitC_len, splitC_len, List.length_drop] at this
        rw [List.length_append]; unfold maxN; omega
      have nn2 : (D0 ++ pre).length ≤ 1099511627775 := by
        have := congrArg List.length hspl
        rw [List.length_append, splitC_len, splitC_len, List.length_drop] at this
        rw [List.length_append]; omega
      have w3 : IntKind.i64.wrap ((i : Int) + 1) = (i : Int) + 1 := wrap64 (by omega) (by omega)
      generalize hXX : D0 ++ pre = XX at *
      by_cases h3 : i < ts.length
      case pos =>
        have hrd := rd_ints ts i h3
        obtain ⟨r1, r2, r3⟩ := cuts_rest hso h3 hbd
        have ht := htk _ (List.getElem_mem h3)
        have htm := hin _ (List.getElem_mem h3)
        rw [List.drop_eq_getElem_cons h3, splitC, cut_rest p0 h1i r1 r2] at hspl
        simp only at hspl
        have hwr := wr_nrow' X p h1 lo ts[i]
        have hX2 : ∀ s : Span, (X.set p ⟨lo, ts[i]⟩).set p s = X.set p s := fun s => set_set _ _ _ p0 h1i
        have hspl2 : (pre ++ [X.set p ⟨lo, ts[i]⟩]) ++ splitC p (ts.drop (i + 1)) ((X.set p ⟨lo, ts[i]⟩).set p ⟨ts[i] + 1, sp.hi⟩) = splitC p ts c0 := by
          rw [hX2, List.append_assoc]
          exact hspl
        generalize X.set p ⟨lo, ts[i]⟩ = Y at *
        have w4 : IntKind.i64.wrap (ts[i] + 1) = ts[i] + 1 := by
          have hu := hbhi
          unfold ok64 at ht hu
          exact wrap64 (by omega) (by omega)
        generalize hti : ts[i] = t at *
        have hrr := rd_all Y
        have hY1 := len_all Y
        have hX1 := len_all X
        have hYt := take_all Y
        have hYz := wr_all Y
        have hYc := cell_all Y
        have hEnc := encL_snocE (D0 ++ pre) Y
        rw [hXX] at hEnc
        generalize Row.enc X = EX at *
        generalize hEY : Row.enc Y = EY at *
        simp -implicitDefEqProofs [hp8, h3, hrd, w3, w4, nn, nn2, lenB, takeB, h1i, p0, hwr, hX1, hY1, hYt, hYz, hYc, hrr]
        exact ⟨n3 - 1, by omega, i + 1, by omega, Y, t + 1, pre ++ [Y], by simp [hpl], r3, hspl2, bump 14 (bump 68 g''), by simp [hg''], ⟨by simp, by simp, by simp, ⟨by simp, by rw [List.length_append, ← Nat.add_assoc, ← List.length_append, hXX]; rfl⟩, by simp, rfl, by omega⟩, ⟨by rw [← List.append_assoc, hXX, hEnc], hEY.symm⟩, rfl⟩
      case neg =>
        have hi3 : i = ts.length := by omega
        subst hi3
        rw [List.drop_length, splitC] at hspl
        have hwr := wr_nrow' X p h1 lo sp.hi
        generalize X.set p ⟨lo, sp.hi⟩ = Y at *
        have hrr := rd_all Y
        have hY1 := len_all Y
        have hX1 := len_all X
        have hYt := take_all Y
        have hYz := wr_all Y
        have hYc := cell_all Y
        have hEnc := encL_snocE (D0 ++ pre) Y
        rw [hXX] at hEnc
        have hDf : doneC p ts L (j + 1) = XX ++ [Y] := by rw [hD1, hD, ← hspl, ← List.append_assoc, hXX]
        generalize Row.enc X = EX at *
        generalize hEY : Row.enc Y = EY at *
        simp -implicitDefEqProofs [hp8, h3, w2, w3, nn, nn2, lenB, takeB, h1i, p0, hhi, hwr, hX1, hY1, hYt, hYz, hYc, hrr]
        exact ⟨n2 - 1, by omega, j + 1, by omega, bump 14 (bump 83 g''), by simp [hg''], ⟨by simp, by simp, by simp, ⟨by simp, by rw [hDf]; simp⟩, by omega⟩, by rw [hDf, hEnc], rfl⟩
theorem runs_rCells (m : Model) (q : Query) (b : Box) (most : Int) (r : List Box × Bool) (h : RCellsC m q b most = some r) : Runs reT a47 [Arg.enc m, Arg.enc q, Arg.enc b, Arg.enc most] (Arg.enc r) := by
  obtain ⟨⟨hm, hb, he, hmost⟩, rfl⟩ := part_some h
  clear h
  refine ⟨rfl, fun g => run_def ?_⟩
  have hmain := run_reCells m q b hm hb he
  unfold a47 at hmain ⊢
  simp -implicitDefEqProofs [-r47_84]
  refine run_while (c := c47_18) (fun n s => ∃ (p : Nat) (g : Nat → Nat), p + n = 5 ∧ (p = 0 ∨ cumN m q b p ≤ most) ∧ s = ⟨[(3, .int .i64 most), (4, .ptr 4 (g 4) 0), (5, .ptr 5 (g 5) 0), (6, .ptr 6 (g 6) 0), (10, .int .i64 (cumN m q b p)), (20, .int .i64 p)],
    [(4, ⟨Row.enc m, false, 0⟩), (5, ⟨Row.enc q, false, 0⟩), (6, ⟨Row.enc b, false, 0⟩)], g⟩) 5 ⟨0, bump 6 (bump 5 (bump 4 g)), by omega, .inl rfl, by simp [cumN]⟩ ?_
  rintro n s ⟨p, g, hp, hcu, rfl⟩
  have hpos := cumN_pos hm q b p
  by_cases h1 : p < 5
  case neg =>
    have hp5 : p = 5 := by omega
    subst hp5
    have hle : countM m q b ≤ most := by
      rw [count_cum]
      omega
    rw [if_pos hle]
    have hmain := hmain (by omega) (.int .i64 most) (.int .i64 (cumN m q b 5)) (.int .i64 5) (.bool false) g
    simp -implicitDefEqProofs [-r47_84]
    exact hmain
  have h1i : (p : Int) < 5 := by omega
  have w1 : IntKind.i64.wrap ((p : Int) + 1) = (p : Int) + 1 := wrap64 (by omega) (by omega)
  have hK : RCutsC m q b p = some (cutsL m q b p) := part_of hm _
  have hkl : (cutsL m q b p).length ≤ 248 := by rw [cutsL_len]; exact cutN_le hm q b p
  have hkN : kN m q b p = 1 + ((cutsL m q b p).length : Int) := by unfold kN; rw [cutsL_len]
  have b1 : (cutsL m q b p).length ≤ maxN := by unfold maxN; omega
  have hs : cumN m q b (p + 1) = cumN m q b p * (1 + ((cutsL m q b p).length : Int)) := by rw [← hkN]; rfl
  have hb1 : cumN m q b p * (1 + ((cutsL m q b p).length : Int)) ≤ 1000000 * 249 := by
    have : cumN m q b p ≤ 1000000 := by
      rcases hcu with rfl | h
      · show (1 : Int) ≤ 1000000; omega
      · omega
    exact (mul_le hpos this (by omega) (by omega)).2
  have hb0 := cumN_pos hm q b (p + 1)
  have w2 : IntKind.i64.wrap (1 + ((cutsL m q b p).length : Int)) = 1 + ((cutsL m q b p).length : Int) := wrap64 (by omega) (by omega)
  have w3 : IntKind.i64.wrap (cumN m q b p * (1 + ((cutsL m q b p).length : Int))) = cumN m q b (p + 1) := by rw [hs]; rw [hs] at hb0; exact wrap64 (by omega) (by omega)
  by_cases hgt : most < cumN m q b (p + 1)
  case pos =>
    have := cumN_five hm q b (p := p + 1) (by omega)
    rw [if_neg (by omega)]
    simp -implicitDefEqProofs [h1i, hK, b1, w2, w3, hgt, encL_nil]
  case neg =>
    simp -implicitDefEqProofs [h1i, hK, b1, w1, w2, w3, hgt]
    exact ⟨n - 1, by omega, p + 1, by omega, .inr (by omega), rfl, by omega⟩
theorem c_rCells : Contract Try.prog 47 (sp4 RCellsC) :=
  contract_of_runs mixed (tbl_cons c_rCuts tbl_nil) Try.func47 m47 (sp4_runs runs_rCells)
noncomputable def RTruthC (m : Model) (q : Query) (most : Int) : Option (Bool × Bool) := Part (RM m ∧ okB (startOf q) ∧ (startOf q).empty = false ∧ most ≤ 1000000) (if countM m q (startOf q) ≤ most then (holdsM m q, true) else (false, false))
theorem runs_rTruth (m : Model) (q : Query) (most : Int) (r : Bool × Bool) (h : RTruthC m q most = some r) : Runs (tbl [(33, sp1 fun q => some (startOf q)), (47, sp4 RCellsC), (81, sp1 fun b => some (lowB b)), (37, sp4 BreaksC)]) a42 [Arg.enc m, Arg.enc q, Arg.enc most] (Arg.enc r) := by
  obtain ⟨⟨hm, hb, he, hmost⟩, rfl⟩ := part_some h
  clear h
  refine ⟨rfl, fun g => run_def ?_⟩
  unfold a42
  have hC : RCellsC m q (startOf q) most = some (if countM m q (startOf q) ≤ most then (stageC m q (startOf q) 5, true) else ([], false)) := part_of ⟨hm, hb, he, hmost⟩ _
  by_cases hc : countM m q (startOf q) ≤ most
  case neg =>
    rw [if_neg hc] at hC ⊢
    simp -implicitDefEqProofs [hC, encL_nil]
  rw [if_pos hc] at hC ⊢
  have hlen := stage_five m q (startOf q)
  unfold holdsM
  generalize stageC m q (startOf q) 5 = L at *
  have b1 : L.length ≤ maxN := by unfold maxN; omega
  simp -implicitDefEqProofs [hC, b1]
  refine run_while (c := c42_21) (fun n s => ∃ (i : Nat) (g : Nat → Nat), i + n = L.length ∧ (∀ x ∈ L.take i, corner m q x = false) ∧ s = ⟨[(3, .ptr 3 (g 3) 0), (4, .ptr 4 (g 4) 0), (23, .lst L.length (encL L)), (24, .int .i64 L.length), (25, .int .i64 i)],
    [(3, ⟨Row.enc m, false, 0⟩), (4, ⟨Row.enc q, false, 0⟩)], g⟩) L.length ⟨0, bump 4 (bump 3 g), by omega, by simp, by simp⟩ ?_
  rintro n s ⟨i, g, hi, hal, rfl⟩
  by_cases h1 : i < L.length
  case pos =>
    have w1 : IntKind.i64.wrap ((i : Int) + 1) = (i : Int) + 1 := wrap64 (by omega) (by omega)
    have hrow := rd_box L i h1
    have hB : BreaksC m q (lowB L[i]) L[i].s4.hi = some (corner m q L[i]) := part_of hm _
    have hmem : L[i] ∈ L := List.getElem_mem h1
    have htk : L.take (i + 1) = L.take i ++ [L[i]] := List.take_succ_eq_append_getElem h1
    generalize L[i] = x at *
    cases hx : corner m q x
    case true =>
      have : L.any (corner m q) = true := List.any_eq_true.2 ⟨x, hmem, hx⟩
      rw [hx] at hB
      simp -implicitDefEqProofs [h1, hrow, hB, this]
    case false =>
      rw [hx] at hB
      simp -implicitDefEqProofs [h1, hrow, hB, w1]
      refine ⟨n - 1, by omega, i + 1, by omega, fun y hy => ?_, by omega⟩
      rw [htk, List.mem_append, List.mem_singleton] at hy
      rcases hy with hy | rfl
      · exact hal y hy
      · exact hx
  case neg =>
    have hil : i = L.length := by omega
    subst hil
    rw [List.take_length] at hal
    have : L.any (corner m q) = false := by
      rw [List.any_eq_false]
      intro x hx
      simp [hal x hx]
    simp -implicitDefEqProofs [h1, this]
theorem c_rTruth : Contract Try.prog 42 (sp3 RTruthC) :=
  contract_of_runs mixed (tbl_cons c_rStart (tbl_cons c_rCells (tbl_cons c_rLow (tbl_cons c_rBreaks tbl_nil)))) Try.func42 m42 (sp3_runs runs_rTruth)
end Go.Co
