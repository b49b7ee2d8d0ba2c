/- CO: texts of this claim, one behind the other. -/
import Derived.Test.YtcjflbmpfmibbaaGreatCz11
import Derived.Test.YtcjflbmpfmibbaaGreatCz6
import Derived.Test.YtcjflbmpfmibbaaGreatCz10
/- CO: the document's own cuts of a box, by a set that is gone through in whatever order. -/
namespace Go.Co
open Go.Am Go.Proofs
set_option linter.unusedSimpArgs false
set_option linter.unusedVariables false
attribute [-simp] Go.Am.eff_gcall
def c38_0 : ACode := .ops [⟨some 4, .box (.t 0) 6, none, []⟩,
  ⟨some 5, .box (.t 1) 17, none, []⟩,
  ⟨some 6, .box (.t 2) 10, none, []⟩,
  ⟨some 8, .mv (.c (.nils)), none, []⟩] [3, 4, 5, 6]
theorem r38_0 : type_of% (@rr _ _ c38_0.eq_1) := rr c38_0.eq_1
def c38_1 : ACode := .ops [⟨some 20, .mv (.t 3), none, []⟩,
  ⟨some 9, .mv (.t 20), none, []⟩] [3, 4, 5, 6, 9]
theorem r38_1 : type_of% (@rr _ _ c38_1.eq_1) := rr c38_1.eq_1
def c38_2 : ACode := .ops [⟨some 21, .mv (.t 3), none, []⟩,
  ⟨some 22, .bin .eql (.t 21) (.c (.int .i64 4)), none, []⟩] [3, 4, 5, 6, 9, 22]
theorem r38_2 : type_of% (@rr _ _ c38_2.eq_1) := rr c38_2.eq_1
def c38_3 : ACode := .ops [⟨some 23, .fad (.t 5) 14, none, [5]⟩,
  ⟨some 24, .load 1 false (.t 23), none, [5]⟩,
  ⟨some 9, .mv (.t 24), none, []⟩] [3, 4, 5, 6, 9]
theorem r38_3 : type_of% (@rr _ _ c38_3.eq_1) := rr c38_3.eq_1
def c38_4 : ACode := .cond (.t 22) c38_3 .skip
theorem r38_4 : type_of% (@rr _ _ c38_4.eq_1) := rr c38_4.eq_1
def c38_5 : ACode := .seq c38_2 c38_4
theorem r38_5 : type_of% (@rr _ _ c38_5.eq_1) := rr c38_5.eq_1
def c38_6 : ACode := .ops [⟨some 25, .mv (.t 3), none, []⟩,
  ⟨some 26, .bin .lss (.t 25) (.c (.int .i64 0)), none, []⟩,
  ⟨some 27, .mv (.t 26), none, []⟩,
  ⟨some 28, .mv (.t 3), some (27, false), []⟩,
  ⟨some 29, .bin .gtr (.t 28) (.c (.int .i64 4)), some (27, false), []⟩,
  ⟨some 30, .pick (.t 27) (.c (.bool true)) (.t 29), none, []⟩,
  ⟨some 31, .mv (.t 30), none, []⟩,
  ⟨some 32, .mv (.t 3), some (31, false), []⟩,
  ⟨some 33, .bin .eql (.t 32) (.c (.int .i64 4)), some (31, false), []⟩,
  ⟨some 34, .mv (.t 33), some (31, false), []⟩,
  ⟨some 35, .fad (.t 5) 0, some (34, true), [5]⟩,
  ⟨some 36, .load 1 false (.t 35), some (34, true), [5]⟩,
  ⟨some 37, .bin .neq (.t 36) (.c (.int .i64 3)), some (34, true), []⟩,
  ⟨some 38, .pick (.t 34) (.t 37) (.c (.bool false)), some (31, false), []⟩,
  ⟨some 39, .pick (.t 31) (.c (.bool true)) (.t 38), none, []⟩] [3, 4, 6, 9, 39]
theorem r38_6 : type_of% (@rr _ _ c38_6.eq_1) := rr c38_6.eq_1
def c38_7 : ACode := .ops [⟨some 8, .mv (.c (.nils)), none, []⟩] [8]
theorem r38_7 : type_of% (@rr _ _ c38_7.eq_1) := rr c38_7.eq_1
def c38_8 : ACode := .seq c38_7 .ret
theorem r38_8 : type_of% (@rr _ _ c38_8.eq_1) := rr c38_8.eq_1
def c38_9 : ACode := .cond (.t 39) c38_8 .skip
theorem r38_9 : type_of% (@rr _ _ c38_9.eq_1) := rr c38_9.eq_1
def c38_10 : ACode := .seq c38_6 c38_9
theorem r38_10 : type_of% (@rr _ _ c38_10.eq_1) := rr c38_10.eq_1
def c38_11 : ACode := .ops [⟨some 40, .mkmap, none, []⟩,
  ⟨some 10, .mv (.t 40), none, []⟩] [3, 4, 6, 9, 10]
theorem r38_11 : type_of% (@rr _ _ c38_11.eq_1) := rr c38_11.eq_1
def c38_12 : ACode := .ops [⟨some 41, .fad (.t 4) 5, none, [4]⟩,
  ⟨some 42, .load 1 false (.t 41), none, [4]⟩,
  ⟨some 43, .len (.t 42), none, []⟩,
  ⟨some 44, .mv (.c (.int .i64 0)), none, []⟩] [3, 6, 9, 10, 42, 43, 44]
theorem r38_12 : type_of% (@rr _ _ c38_12.eq_1) := rr c38_12.eq_1
def c38_13 : ACode := .ops [⟨some 45, .bin .lss (.t 44) (.t 43), none, []⟩] [3, 6, 9, 10, 42, 43, 44, 45]
theorem r38_13 : type_of% (@rr _ _ c38_13.eq_1) := rr c38_13.eq_1
def c38_14 : ACode := .cond (.t 45) .skip (.exit 0)
theorem r38_14 : type_of% (@rr _ _ c38_14.eq_1) := rr c38_14.eq_1
def c38_15 : ACode := .ops [⟨some 46, .ias (.t 42) (.t 44) 2, none, []⟩,
  ⟨some 47, .load 2 true (.t 46), none, []⟩,
  ⟨some 12, .alloc [.int .i64 0, .nils], none, []⟩,
  ⟨none, .store (.t 12) 2 (.t 47), none, [12]⟩] [3, 6, 9, 10, 12, 42, 43, 44]
theorem r38_15 : type_of% (@rr _ _ c38_15.eq_1) := rr c38_15.eq_1
def c38_16 : ACode := .ops [⟨some 48, .fad (.t 12) 1, none, [12]⟩,
  ⟨some 49, .load 1 false (.t 48), none, [12]⟩,
  ⟨some 50, .len (.t 49), none, []⟩,
  ⟨some 51, .mv (.c (.int .i64 0)), none, []⟩] [3, 6, 9, 10, 42, 43, 44, 49, 50, 51]
theorem r38_16 : type_of% (@rr _ _ c38_16.eq_1) := rr c38_16.eq_1
def c38_17 : ACode := .ops [⟨some 52, .bin .lss (.t 51) (.t 50), none, []⟩] [3, 6, 9, 10, 42, 43, 44, 49, 50, 51, 52]
theorem r38_17 : type_of% (@rr _ _ c38_17.eq_1) := rr c38_17.eq_1
def c38_18 : ACode := .cond (.t 52) .skip (.exit 2)
theorem r38_18 : type_of% (@rr _ _ c38_18.eq_1) := rr c38_18.eq_1
def c38_19 : ACode := .ops [⟨some 53, .ias (.t 49) (.t 51) 1, none, []⟩,
  ⟨some 54, .load 1 false (.t 53), none, []⟩,
  ⟨some 14, .mv (.t 54), none, []⟩] [3, 6, 9, 10, 14, 42, 43, 44, 49, 50, 51]
theorem r38_19 : type_of% (@rr _ _ c38_19.eq_1) := rr c38_19.eq_1
def c38_20 : ACode := .ops [⟨some 56, .mv (.t 14), none, []⟩,
  ⟨some 57, .call 68 [.t 56], none, []⟩,
  ⟨some 55, .mv (.t 57), none, []⟩,
  ⟨some 58, .ext (.t 55) 0, none, []⟩,
  ⟨some 59, .ext (.t 55) 1, none, []⟩,
  ⟨some 15, .alloc [.bool false, .int .i64 0, .int .i64 0, .int .i64 0, .int .i64 0, .int .i64 0], none, []⟩,
  ⟨none, .store (.t 15) 6 (.t 58), none, [15]⟩,
  ⟨some 16, .mv (.t 59), none, []⟩] [3, 6, 9, 10, 15, 16, 42, 43, 44, 49, 50, 51]
theorem r38_20 : type_of% (@rr _ _ c38_20.eq_1) := rr c38_20.eq_1
def c38_21 : ACode := .ops [⟨some 60, .mv (.t 16), none, []⟩,
  ⟨some 61, .mv (.t 60), none, []⟩,
  ⟨some 62, .fad (.t 15) 0, some (61, true), [15]⟩,
  ⟨some 63, .load 1 false (.t 62), some (61, true), [15]⟩,
  ⟨some 64, .un .not (.t 63), some (61, true), []⟩,
  ⟨some 65, .pick (.t 61) (.t 64) (.c (.bool false)), none, []⟩,
  ⟨some 66, .mv (.t 65), none, []⟩,
  ⟨some 67, .fad (.t 15) 2, some (66, true), [15]⟩,
  ⟨some 68, .load 1 false (.t 67), some (66, true), [15]⟩,
  ⟨some 69, .mv (.t 9), some (66, true), []⟩,
  ⟨some 70, .bin .eql (.t 68) (.t 69), some (66, true), []⟩,
  ⟨some 71, .pick (.t 66) (.t 70) (.c (.bool false)), none, []⟩,
  ⟨some 72, .mv (.t 71), none, []⟩,
  ⟨some 73, .fad (.t 15) 3, some (72, true), [15]⟩,
  ⟨some 74, .load 1 false (.t 73), some (72, true), [15]⟩,
  ⟨some 75, .mv (.t 3), some (72, true), []⟩,
  ⟨some 76, .iad (.t 6) (.t 75) 2 5, some (72, true), [6]⟩,
  ⟨some 77, .fad (.t 76) 0, some (72, true), [6]⟩,
  ⟨some 78, .load 1 false (.t 77), some (72, true), [6]⟩,
  ⟨some 79, .bin .geq (.t 74) (.t 78), some (72, true), []⟩,
  ⟨some 80, .pick (.t 72) (.t 79) (.c (.bool false)), none, []⟩,
  ⟨some 81, .mv (.t 80), none, []⟩,
  ⟨some 82, .fad (.t 15) 3, some (81, true), [15]⟩,
  ⟨some 83, .load 1 false (.t 82), some (81, true), [15]⟩,
  ⟨some 84, .mv (.t 3), some (81, true), []⟩,
  ⟨some 85, .iad (.t 6) (.t 84) 2 5, some (81, true), [6]⟩,
  ⟨some 86, .fad (.t 85) 1, some (81, true), [6]⟩,
  ⟨some 87, .load 1 false (.t 86), some (81, true), [6]⟩,
  ⟨some 88, .bin .lss (.t 83) (.t 87), some (81, true), []⟩,
  ⟨some 89, .pick (.t 81) (.t 88) (.c (.bool false)), none, []⟩] [3, 6, 9, 10, 15, 42, 43, 44, 49, 50, 51, 89]
theorem r38_21 : type_of% (@rr _ _ c38_21.eq_1) := rr c38_21.eq_1
def c38_22 : ACode := .ops [⟨some 90, .mv (.t 10), none, []⟩,
  ⟨some 91, .fad (.t 15) 3, none, [15]⟩,
  ⟨some 92, .load 1 false (.t 91), none, [15]⟩,
  ⟨none, .mupd (.t 90) (.t 92) (.c (.bool true)), none, [40]⟩] [3, 6, 9, 10, 42, 43, 44, 49, 50, 51]
theorem r38_22 : type_of% (@rr _ _ c38_22.eq_1) := rr c38_22.eq_1
def c38_23 : ACode := .cond (.t 89) c38_22 .skip
theorem r38_23 : type_of% (@rr _ _ c38_23.eq_1) := rr c38_23.eq_1
def c38_24 : ACode := .seq c38_21 c38_23
theorem r38_24 : type_of% (@rr _ _ c38_24.eq_1) := rr c38_24.eq_1
def c38_25 : ACode := .seq c38_20 c38_24
theorem r38_25 : type_of% (@rr _ _ c38_25.eq_1) := rr c38_25.eq_1
def c38_26 : ACode := .seq c38_19 c38_25
theorem r38_26 : type_of% (@rr _ _ c38_26.eq_1) := rr c38_26.eq_1
def c38_27 : ACode := .block 3 c38_26
theorem r38_27 : type_of% (@rr _ _ c38_27.eq_1) := rr c38_27.eq_1
def c38_28 : ACode := .ops [⟨some 93, .bin .add (.t 51) (.c (.int .i64 1)), none, []⟩,
  ⟨some 51, .mv (.t 93), none, []⟩] [3, 6, 9, 10, 42, 43, 44, 49, 50, 51]
theorem r38_28 : type_of% (@rr _ _ c38_28.eq_1) := rr c38_28.eq_1
def c38_29 : ACode := .seq c38_27 c38_28
theorem r38_29 : type_of% (@rr _ _ c38_29.eq_1) := rr c38_29.eq_1
def c38_30 : ACode := .seq c38_18 c38_29
theorem r38_30 : type_of% (@rr _ _ c38_30.eq_1) := rr c38_30.eq_1
def c38_31 : ACode := .seq c38_17 c38_30
theorem r38_31 : type_of% (@rr _ _ c38_31.eq_1) := rr c38_31.eq_1
def c38_32 : ACode := .keep [3, 6, 9, 10, 42, 43, 44, 49, 50, 51] [6, 40] c38_31
theorem r38_32 : type_of% (@rr _ _ c38_32.eq_1) := rr c38_32.eq_1
def c38_33 : ACode := .loop c38_32
theorem r38_33 : type_of% (@rr _ _ c38_33.eq_1) := rr c38_33.eq_1
def c38_34 : ACode := .block 2 c38_33
theorem r38_34 : type_of% (@rr _ _ c38_34.eq_1) := rr c38_34.eq_1
def c38_35 : ACode := .seq c38_16 c38_34
theorem r38_35 : type_of% (@rr _ _ c38_35.eq_1) := rr c38_35.eq_1
def c38_36 : ACode := .seq c38_15 c38_35
theorem r38_36 : type_of% (@rr _ _ c38_36.eq_1) := rr c38_36.eq_1
def c38_37 : ACode := .block 1 c38_36
theorem r38_37 : type_of% (@rr _ _ c38_37.eq_1) := rr c38_37.eq_1
def c38_38 : ACode := .ops [⟨some 94, .bin .add (.t 44) (.c (.int .i64 1)), none, []⟩,
  ⟨some 44, .mv (.t 94), none, []⟩] [3, 6, 9, 10, 42, 43, 44]
theorem r38_38 : type_of% (@rr _ _ c38_38.eq_1) := rr c38_38.eq_1
def c38_39 : ACode := .seq c38_37 c38_38
theorem r38_39 : type_of% (@rr _ _ c38_39.eq_1) := rr c38_39.eq_1
def c38_40 : ACode := .seq c38_14 c38_39
theorem r38_40 : type_of% (@rr _ _ c38_40.eq_1) := rr c38_40.eq_1
def c38_41 : ACode := .seq c38_13 c38_40
theorem r38_41 : type_of% (@rr _ _ c38_41.eq_1) := rr c38_41.eq_1
def c38_42 : ACode := .keep [3, 6, 9, 10, 42, 43, 44] [6, 40] c38_41
theorem r38_42 : type_of% (@rr _ _ c38_42.eq_1) := rr c38_42.eq_1
def c38_43 : ACode := .loop c38_42
theorem r38_43 : type_of% (@rr _ _ c38_43.eq_1) := rr c38_43.eq_1
def c38_44 : ACode := .block 0 c38_43
theorem r38_44 : type_of% (@rr _ _ c38_44.eq_1) := rr c38_44.eq_1
def c38_45 : ACode := .seq c38_12 c38_44
theorem r38_45 : type_of% (@rr _ _ c38_45.eq_1) := rr c38_45.eq_1
def c38_46 : ACode := .ops [⟨some 17, .nil0 17 1, none, []⟩] [10, 17]
theorem r38_46 : type_of% (@rr _ _ c38_46.eq_1) := rr c38_46.eq_1
def c38_47 : ACode := .ops [⟨some 95, .mv (.t 10), none, []⟩,
  ⟨some 96, .mrng (.t 95), none, [40]⟩] [17, 96]
theorem r38_47 : type_of% (@rr _ _ c38_47.eq_1) := rr c38_47.eq_1
def c38_48 : ACode := .next (.t 96) 97 98 [40, 96] [17, 96, 98]
theorem r38_48 : type_of% (@rr _ _ c38_48.eq_1) := rr c38_48.eq_1
def c38_49 : ACode := .cond (.t 98) .skip (.exit 4)
theorem r38_49 : type_of% (@rr _ _ c38_49.eq_1) := rr c38_49.eq_1
def c38_50 : ACode := .ops [⟨some 99, .entry (.t 96), none, [40, 96]⟩,
  ⟨some 100, .ext (.t 99) 0, none, []⟩,
  ⟨some 18, .mv (.t 100), none, []⟩] [17, 18, 96]
theorem r38_50 : type_of% (@rr _ _ c38_50.eq_1) := rr c38_50.eq_1
def c38_51 : ACode := .ops [⟨some 101, .mv (.t 17), none, []⟩,
  ⟨some 102, .len (.t 101), none, [17]⟩,
  ⟨some 19, .mv (.t 102), none, []⟩] [17, 18, 19, 96]
theorem r38_51 : type_of% (@rr _ _ c38_51.eq_1) := rr c38_51.eq_1
def c38_52 : ACode := .ops [⟨some 103, .mv (.t 17), none, []⟩,
  ⟨some 104, .mv (.t 18), none, []⟩,
  ⟨some 105, .mkrow 105 1 1 [.int .i64 0] [(0, 1, .t 104)], none, []⟩,
  ⟨some 106, .app 17 [17] (.t 103) (.t 105) 1, none, [17, 105]⟩,
  ⟨some 17, .mv (.t 106), none, []⟩] [17, 18, 19, 96]
theorem r38_52 : type_of% (@rr _ _ c38_52.eq_1) := rr c38_52.eq_1
def c38_53 : ACode := .ops [⟨some 107, .mv (.t 19), none, []⟩,
  ⟨some 108, .bin .gtr (.t 107) (.c (.int .i64 0)), none, []⟩,
  ⟨some 109, .mv (.t 108), none, []⟩,
  ⟨some 110, .mv (.t 17), some (109, true), []⟩,
  ⟨some 111, .mv (.t 19), some (109, true), []⟩,
  ⟨some 112, .bin .sub (.t 111) (.c (.int .i64 1)), some (109, true), []⟩,
  ⟨some 113, .ias (.t 110) (.t 112) 1, some (109, true), [17]⟩,
  ⟨some 114, .load 1 false (.t 113), some (109, true), [17]⟩,
  ⟨some 115, .mv (.t 18), some (109, true), []⟩,
  ⟨some 116, .bin .gtr (.t 114) (.t 115), some (109, true), []⟩,
  ⟨some 117, .pick (.t 109) (.t 116) (.c (.bool false)), none, []⟩] [17, 18, 19, 96, 117]
theorem r38_53 : type_of% (@rr _ _ c38_53.eq_1) := rr c38_53.eq_1
def c38_54 : ACode := .cond (.t 117) .skip (.exit 6)
theorem r38_54 : type_of% (@rr _ _ c38_54.eq_1) := rr c38_54.eq_1
def c38_55 : ACode := .seq c38_53 c38_54
theorem r38_55 : type_of% (@rr _ _ c38_55.eq_1) := rr c38_55.eq_1
def c38_56 : ACode := .ops [⟨some 118, .mv (.t 17), none, []⟩,
  ⟨some 119, .mv (.t 19), none, []⟩,
  ⟨some 120, .mv (.t 17), none, []⟩,
  ⟨some 121, .mv (.t 19), none, []⟩,
  ⟨some 122, .bin .sub (.t 121) (.c (.int .i64 1)), none, []⟩,
  ⟨some 123, .ias (.t 120) (.t 122) 1, none, [17]⟩,
  ⟨some 124, .load 1 false (.t 123), none, [17]⟩,
  ⟨some 125, .ias (.t 118) (.t 119) 1, none, [17]⟩,
  ⟨none, .store (.t 125) 1 (.t 124), none, [17]⟩] [17, 18, 19, 96]
theorem r38_56 : type_of% (@rr _ _ c38_56.eq_1) := rr c38_56.eq_1
def c38_57 : ACode := .ops [⟨some 126, .mv (.t 19), none, []⟩,
  ⟨some 127, .bin .sub (.t 126) (.c (.int .i64 1)), none, []⟩,
  ⟨some 19, .mv (.t 127), none, []⟩] [17, 18, 19, 96]
theorem r38_57 : type_of% (@rr _ _ c38_57.eq_1) := rr c38_57.eq_1
def c38_58 : ACode := .seq c38_56 c38_57
theorem r38_58 : type_of% (@rr _ _ c38_58.eq_1) := rr c38_58.eq_1
def c38_59 : ACode := .block 7 c38_58
theorem r38_59 : type_of% (@rr _ _ c38_59.eq_1) := rr c38_59.eq_1
def c38_60 : ACode := .seq c38_55 c38_59
theorem r38_60 : type_of% (@rr _ _ c38_60.eq_1) := rr c38_60.eq_1
def c38_61 : ACode := .keep [17, 18, 19, 96] [17, 40, 96] c38_60
theorem r38_61 : type_of% (@rr _ _ c38_61.eq_1) := rr c38_61.eq_1
def c38_62 : ACode := .loop c38_61
theorem r38_62 : type_of% (@rr _ _ c38_62.eq_1) := rr c38_62.eq_1
def c38_63 : ACode := .block 6 c38_62
theorem r38_63 : type_of% (@rr _ _ c38_63.eq_1) := rr c38_63.eq_1
def c38_64 : ACode := .ops [⟨some 128, .mv (.t 17), none, []⟩,
  ⟨some 129, .mv (.t 19), none, []⟩,
  ⟨some 130, .mv (.t 18), none, []⟩,
  ⟨some 131, .ias (.t 128) (.t 129) 1, none, [17]⟩,
  ⟨none, .store (.t 131) 1 (.t 130), none, [17]⟩] [17, 96]
theorem r38_64 : type_of% (@rr _ _ c38_64.eq_1) := rr c38_64.eq_1
def c38_65 : ACode := .seq c38_63 c38_64
theorem r38_65 : type_of% (@rr _ _ c38_65.eq_1) := rr c38_65.eq_1
def c38_66 : ACode := .seq c38_52 c38_65
theorem r38_66 : type_of% (@rr _ _ c38_66.eq_1) := rr c38_66.eq_1
def c38_67 : ACode := .seq c38_51 c38_66
theorem r38_67 : type_of% (@rr _ _ c38_67.eq_1) := rr c38_67.eq_1
def c38_68 : ACode := .seq c38_50 c38_67
theorem r38_68 : type_of% (@rr _ _ c38_68.eq_1) := rr c38_68.eq_1
def c38_69 : ACode := .block 5 c38_68
theorem r38_69 : type_of% (@rr _ _ c38_69.eq_1) := rr c38_69.eq_1
def c38_70 : ACode := .seq c38_49 c38_69
theorem r38_70 : type_of% (@rr _ _ c38_70.eq_1) := rr c38_70.eq_1
def c38_71 : ACode := .seq c38_48 c38_70
theorem r38_71 : type_of% (@rr _ _ c38_71.eq_1) := rr c38_71.eq_1
def c38_72 : ACode := .keep [17, 96] [17, 40, 96] c38_71
theorem r38_72 : type_of% (@rr _ _ c38_72.eq_1) := rr c38_72.eq_1
def c38_73 : ACode := .loop c38_72
theorem r38_73 : type_of% (@rr _ _ c38_73.eq_1) := rr c38_73.eq_1
def c38_74 : ACode := .block 4 c38_73
theorem r38_74 : type_of% (@rr _ _ c38_74.eq_1) := rr c38_74.eq_1
def c38_75 : ACode := .seq c38_47 c38_74
theorem r38_75 : type_of% (@rr _ _ c38_75.eq_1) := rr c38_75.eq_1
def c38_76 : ACode := .ops [⟨some 132, .mv (.t 17), none, []⟩,
  ⟨some 8, .mv (.t 132), none, []⟩] [8]
theorem r38_76 : type_of% (@rr _ _ c38_76.eq_1) := rr c38_76.eq_1
def c38_77 : ACode := .seq c38_76 .ret
theorem r38_77 : type_of% (@rr _ _ c38_77.eq_1) := rr c38_77.eq_1
def c38_78 : ACode := .seq c38_75 c38_77
theorem r38_78 : type_of% (@rr _ _ c38_78.eq_1) := rr c38_78.eq_1
def c38_79 : ACode := .seq c38_46 c38_78
theorem r38_79 : type_of% (@rr _ _ c38_79.eq_1) := rr c38_79.eq_1
def c38_80 : ACode := .seq c38_45 c38_79
theorem r38_80 : type_of% (@rr _ _ c38_80.eq_1) := rr c38_80.eq_1
def c38_81 : ACode := .seq c38_11 c38_80
theorem r38_81 : type_of% (@rr _ _ c38_81.eq_1) := rr c38_81.eq_1
def c38_82 : ACode := .seq c38_10 c38_81
theorem r38_82 : type_of% (@rr _ _ c38_82.eq_1) := rr c38_82.eq_1
def c38_83 : ACode := .seq c38_5 c38_82
theorem r38_83 : type_of% (@rr _ _ c38_83.eq_1) := rr c38_83.eq_1
def c38_84 : ACode := .seq c38_1 c38_83
theorem r38_84 : type_of% (@rr _ _ c38_84.eq_1) := rr c38_84.eq_1
def c38_85 : ACode := .seq c38_0 c38_84
theorem r38_85 : type_of% (@rr _ _ c38_85.eq_1) := rr c38_85.eq_1
def a38 : AFun := ⟨4, 133, c38_85, [.t 8]⟩
attribute [simp] r38_0 r38_1 r38_2 r38_3 r38_4 r38_5 r38_6 r38_7 r38_8 r38_9 r38_10 r38_11 r38_12 r38_13 r38_14 r38_15 r38_16 r38_17 r38_18 r38_19 r38_20 r38_21 r38_22 r38_23 r38_24 r38_25 r38_26 r38_27 r38_28 r38_29 r38_30 r38_31 r38_32 r38_33 r38_34 r38_35 r38_36 r38_37 r38_38 r38_39 r38_40 r38_41 r38_42 r38_43 r38_44 r38_45 r38_46 r38_47 r38_48 r38_49 r38_50 r38_51 r38_52 r38_53 r38_54 r38_55 r38_56 r38_57 r38_58 r38_59 r38_60 r38_61 r38_62 r38_63 r38_64 r38_65 r38_66 r38_67 r38_68 r38_69 r38_70 r38_71 r38_72 r38_73 r38_74 r38_75 r38_76 r38_77 r38_78 r38_79 r38_80 r38_81 r38_82 r38_83 r38_84 r38_85
theorem m38 : mFun Tryz.prog Tryz.f38 a38 = true := by decide +kernel
def isCut (f : Int) (s : Span) (w : Word) : Prop := (nd w).leaf = false ∧ (nd w).feature = f ∧ s.lo ≤ (nd w).cut ∧ (nd w).cut < s.hi
instance (f : Int) (s : Span) (w : Word) : Decidable (isCut f s w) := by unfold isCut; exact inferInstance
def metW (f : Int) (s : Span) (a : List Int) (w : Word) : List Int := if isCut f s w then insB (nd w).cut a else a
def metT (f : Int) (s : Span) (a : List Int) (t : Tree) : List Int := t.nodes.foldl (metW f s) a
def metL (m : Model) (f : Int) (s : Span) : List Int := m.trees.foldl (metT f s) []
theorem mem_ins {n x : Int} {l : List Int} : x ∈ insB n l ↔ x = n ∨ x ∈ l := by
  unfold insB
  split
  · constructor
    · exact .inr
    · rintro (rfl | h)
      · assumption
      · exact h
  · simp [or_comm]
theorem nodup_ins {n : Int} {l : List Int} (h : l.Nodup) : (insB n l).Nodup := by
  unfold insB
  split
  · exact h
  · rename_i hn
    rw [List.nodup_append]
    exact ⟨h, by simp, fun a ha b hb => by simp at hb; subst hb; intro e; subst e; exact hn ha⟩
theorem ins_len {n : Int} {l : List Int} : (insB n l).length ≤ l.length + 1 := by unfold insB; split <;> simp
theorem metW_spec (f : Int) (s : Span) : ∀ (l : List Word) (a : List Int), a.Nodup → (l.foldl (metW f s) a).Nodup ∧ (l.foldl (metW f s) a).length ≤ a.length + l.length ∧ ∀ x, x ∈ l.foldl (metW f s) a ↔ x ∈ a ∨ ∃ w ∈ l, isCut f s w ∧ (nd w).cut = x
  | [], a, h => by simp [h]
  | w :: l, a, h => by
    rw [List.foldl_cons]
    by_cases hc : isCut f s w
    · have e : metW f s a w = insB (nd w).cut a := by unfold metW; rw [if_pos hc]
      rw [e]
      obtain ⟨h1, h2, h3⟩ := metW_spec f s l _ (nodup_ins (n := (nd w).cut) h)
      have := ins_len (n := (nd w).cut) (l := a)
      refine ⟨h1, by simp only [List.length_cons]; omega, fun x => ?_⟩
      rw [h3, mem_ins]
      constructor
      · rintro ((h | h) | ⟨u, hu, h⟩)
        · exact .inr ⟨w, by simp, hc, h.symm⟩
        · exact .inl h
        · exact .inr ⟨u, by simp [hu], h⟩
      · rintro (h | ⟨u, hu, h, h'⟩)
        · exact .inl (.inr h)
        · rcases List.mem_cons.1 hu with rfl | hu
          · exact .inl (.inl h'.symm)
          · exact .inr ⟨u, hu, h, h'⟩
    · have e : metW f s a w = a := by unfold metW; rw [if_neg hc]
      rw [e]
      obtain ⟨h1, h2, h3⟩ := metW_spec f s l a h
      refine ⟨h1, by simp only [List.length_cons]; omega, fun x => ?_⟩
      rw [h3]
      constructor
      · rintro (h | ⟨u, hu, h⟩)
        · exact .inl h
        · exact .inr ⟨u, by simp [hu], h⟩
      · rintro (h | ⟨u, hu, h, h'⟩)
        · exact .inl h
        · rcases List.mem_cons.1 hu with rfl | hu
          · exact absurd h hc
          · exact .inr ⟨u, hu, h, h'⟩
theorem metT_spec (f : Int) (s : Span) : ∀ (l : List Tree) (a : List Int), (∀ t ∈ l, t.nodes.length ≤ 31) → a.Nodup → (l.foldl (metT f s) a).Nodup ∧ (l.foldl (metT f s) a).length ≤ a.length + 31 * l.length ∧ ∀ x, x ∈ l.foldl (metT f s) a ↔ x ∈ a ∨ ∃ t ∈ l, ∃ w ∈ t.nodes, isCut f s w ∧ (nd w).cut = x
  | [], a, _, h => by simp [h]
  | t :: l, a, ht, h => by
    rw [List.foldl_cons]
    obtain ⟨g1, g2, g3⟩ := metW_spec f s t.nodes a h
    obtain ⟨h1, h2, h3⟩ := metT_spec f s l (metT f s a t) (fun x hx => ht x (by simp [hx])) g1
    have h31 := ht t (by simp)
    have g2' : (metT f s a t).length ≤ a.length + t.nodes.length := g2
    refine ⟨h1, by simp only [List.length_cons]; omega, fun x => ?_⟩
    rw [h3]
    constructor
    · rintro (h | ⟨u, hu, h⟩)
      · rcases (g3 x).1 h with h | h
        · exact .inl h
        · exact .inr ⟨t, by simp, h⟩
      · exact .inr ⟨u, by simp [hu], h⟩
    · rintro (h | ⟨u, hu, h⟩)
      · exact .inl ((g3 x).2 (.inl h))
      · rcases List.mem_cons.1 hu with rfl | hu
        · exact .inl ((g3 x).2 (.inr h))
        · exact .inr ⟨u, hu, h⟩
theorem rt31 {m : Model} (hm : RM m) {t : Tree} (h : t ∈ m.trees) : t.nodes.length ≤ 31 := (hm.tree t h).2.2.le
theorem sorted_ext : ∀ {a b : List Int}, a.Pairwise (· < ·) → b.Pairwise (· < ·) → (∀ x, x ∈ a ↔ x ∈ b) → a = b
  | [], [], _, _, _ => rfl
  | [], y :: b, _, _, h => by have := (h y).2 (by simp); simp at this
  | x :: a, [], _, _, h => by have := (h x).1 (by simp); simp at this
  | x :: a, y :: b, ha, hb, h => by
    rw [List.pairwise_cons] at ha hb
    have hxy : x = y := by
      rcases List.mem_cons.1 ((h x).1 (by simp)) with e | e
      · exact e
      · rcases List.mem_cons.1 ((h y).2 (by simp)) with e' | e'
        · exact e'.symm
        · have := hb.1 x e; have := ha.1 y e'; omega
    subst hxy
    rw [sorted_ext ha.2 hb.2 fun z => ?_]
    constructor
    · intro hz
      rcases List.mem_cons.1 ((h z).1 (by simp [hz])) with e | e
      · have := ha.1 z hz; omega
      · exact e
    · intro hz
      rcases List.mem_cons.1 ((h z).2 (by simp [hz])) with e | e
      · have := hb.1 z hz; omega
      · exact e
theorem met_cuts {m : Model} (hm : RM m) {q : Query} {b : Box} {place : Int} (h0 : ¬ place < 0) (h4 : ¬ 4 < place) (hk : place = 4 → q.kind = 3) {l : List Int} (hl : l.Pairwise (· < ·))
    (hx : ∀ x, x ∈ l ↔ x ∈ metL m (if place = 4 then q.feature else place) (b.get place)) : l = cutsL m q b place := by
  have hf : featOf q place = if place = 4 then q.feature else place := by
    unfold featOf
    by_cases e : place = 4
    · rw [if_neg (by omega), if_pos ⟨e, hk e⟩, if_pos e]
    · rw [if_pos (by omega), if_neg e]
  refine sorted_ext hl (cuts_sorted m q b place) fun x => ?_
  rw [hx]
  unfold metL
  rw [(metT_spec _ _ _ [] (fun t ht => rt31 hm ht) (by simp)).2.2 x]
  unfold cutsL
  rw [← hf]
  generalize featOf q place = f
  split
  · rename_i hneg
    constructor
    · rintro (h | ⟨t, ht, w, hw, ⟨h1, h2, _⟩, _⟩)
      · simp at h
      · obtain ⟨i, hi, rfl⟩ := List.getElem_of_mem hw
        have := (hm.rt ht).feature hi (by rw [ndAt_lt hi]; exact h1)
        rw [ndAt_lt hi] at this
        omega
    · intro h; simp at h
  · rw [List.mem_filter, mem_thr]
    constructor
    · rintro (h | ⟨t, ht, w, hw, ⟨h1, h2, h3, h4⟩, h5⟩)
      · simp at h
      · exact ⟨⟨t, ht, w, hw, h1, h2, h5⟩, by unfold outS; simp; omega⟩
    · rintro ⟨⟨t, ht, w, hw, h1, h2, h5⟩, h6⟩
      unfold outS at h6
      simp at h6
      exact .inr ⟨t, ht, w, hw, ⟨h1, h2, by omega, by omega⟩, h5⟩
/-! ### a number put in its place -/
theorem set_mid {α : Type} (a b : List α) (y t : α) (i : Nat) (h : i = a.length) : (a ++ y :: b).set i t = a ++ t :: b := by
  subst h
  simp
theorem ins_sorted {l : List Int} {t : Int} (hl : l.Pairwise (· < ·)) (ht : t ∉ l) {i : Nat} (hi : i ≤ l.length) (h1 : ∀ h : 0 < i, l[i - 1]'(by omega) ≤ t) (h2 : ∀ x ∈ l.drop i, t < x) : (l.take i ++ t :: l.drop i).Pairwise (· < ·) := by
  have hs : (l.take i ++ l.drop i).Pairwise (· < ·) := by rw [List.take_append_drop]; exact hl
  rw [List.pairwise_append] at hs ⊢
  have key : ∀ x ∈ l.take i, x < t := by
    intro x hx
    by_cases h0 : 0 < i
    · have hlt := h1 h0
      obtain ⟨j, hj, rfl⟩ := List.getElem_of_mem hx
      simp only [List.length_take] at hj
      rw [List.getElem_take]
      have hne : l[j] ≠ t := fun e => ht (e ▸ List.getElem_mem _)
      by_cases e : j = i - 1
      · subst e
        omega
      · have := List.pairwise_iff_getElem.1 hl j (i - 1) (by omega) (by omega) (by omega)
        omega
    · have : i = 0 := by omega
      subst this
      simp at hx
  refine ⟨hs.1, List.pairwise_cons.2 ⟨h2, hs.2.1⟩, fun a ha b hb => ?_⟩
  rcases List.mem_cons.1 hb with rfl | hb
  · exact key a ha
  · exact hs.2.2 a ha b hb
theorem mem_mid {l : List Int} {t : Int} {i : Nat} {x : Int} : x ∈ l.take i ++ t :: l.drop i ↔ x = t ∨ x ∈ l := by
  rw [List.mem_append, List.mem_cons]
  have : x ∈ l ↔ x ∈ l.take i ∨ x ∈ l.drop i := by rw [← List.mem_append, List.take_append_drop]
  rw [this]
  constructor
  · rintro (h | h | h)
    · exact .inr (.inl h)
    · exact .inl h
    · exact .inr (.inr h)
  · rintro (h | h | h)
    · exact .inr (.inl h)
    · exact .inl h
    · exact .inr (.inr h)
theorem mid_len {l : List Int} {t : Int} {i : Nat} (h : i ≤ l.length) : (l.take i ++ t :: l.drop i).length = l.length + 1 := by simp; omega
theorem mid_get {l : List Int} {y : Int} {i : Nat} (h : i < l.length) (hy : i < (l.take (i + 1) ++ y :: l.drop (i + 1)).length) : (l.take (i + 1) ++ y :: l.drop (i + 1))[i] = l[i] := by
  rw [List.getElem_append_left (by simp; omega), List.getElem_take]
theorem mid_step {l : List Int} {y : Int} {i : Nat} (h : i < l.length) : (l.take (i + 1) ++ y :: l.drop (i + 1)).set (i + 1) l[i] = l.take i ++ l[i] :: l.drop i := by
  rw [set_mid _ _ _ _ _ (by simp; omega), List.take_succ_eq_append_getElem h, List.append_assoc, List.drop_eq_getElem_cons h]
  rfl
set_option maxHeartbeats 4000000 in
theorem run_ins (C : Cs) (K : List Fr) (Q : Post) (out : List Int) (t : Int) (V : AV) (B D : Blk) (h : Hp) (g : Nat → Nat) (w : Nat) (hw0 : w = g 17) (hl : out.length ≤ 100000)
    (hk : keepH h [17, 40, 96] = [(17, ⟨iv (out ++ [t]), false, 1⟩), (40, B), (96, D)])
    (hQ : ∀ i, i ≤ out.length → (∀ h : 0 < i, ∀ hh : i - 1 < out.length, out[i - 1] ≤ t) → (∀ x ∈ out.drop i, t < x) → kont C K Q .normal ⟨[(17, .own 17 w 0 (out.length + 1)), (96, V)], [(17, ⟨iv (out.take i ++ t :: out.drop i), false, 1⟩), (40, B), (96, D)], g⟩) :
    run C c38_65 K ⟨[(17, .own 17 w 0 (out.length + 1)), (18, .int .i64 t), (19, .int .i64 out.length), (96, V)], h, g⟩ Q := by
  subst hw0
  simp -implicitDefEqProofs only [r38_65, r38_63, r38_62, run_seq, run_block]
  refine run_while (c := c38_60) (fun n s => ∃ (i : Nat) (y : Int), i = n ∧ i ≤ out.length ∧ (∀ x ∈ out.drop i, t < x) ∧ s = ⟨[(17, .own 17 (g 17) 0 (out.length + 1)), (18, .int .i64 t), (19, .int .i64 i), (96, V)], [(17, ⟨iv (out.take i ++ y :: out.drop i), false, 1⟩), (40, B), (96, D)], g⟩) out.length ⟨out.length, t, rfl, Nat.le_refl _, by simp, by simp only [hk]; simp⟩ ?_
  rintro n s ⟨i, y, rfl, hi, hd, rfl⟩
  have hlen : (out.take i ++ y :: out.drop i).length = out.length + 1 := mid_len hi
  cases i with
  | zero =>
    have hq := hQ 0 (by omega) (fun h => absurd h (by omega)) hd
    have hw : wr (iv (y :: out)) 0 [.int .i64 t] = iv (t :: out) := by
      have := wr_iv (y :: out) 0 (by simp) t
      simpa using this
    simp only [List.take_zero, List.drop_zero, List.nil_append] at hq
    simp -implicitDefEqProofs [hw]
    exact hq
  | succ i =>
    have hi' : i < out.length := by omega
    have w1 : IntKind.i64.wrap ((((i + 1 : Nat)) : Int) - 1) = (i : Int) := by rw [wrap64 (by omega) (by omega)]; omega
    have w1' : IntKind.i64.wrap ((i : Int) + 1 - 1) = (i : Int) := by rw [wrap64 (by omega) (by omega)]; omega
    have hrd : rd (iv (out.take (i + 1) ++ y :: out.drop (i + 1))) i 1 false = some (.int .i64 out[i]) := by
      rw [rd_iv _ i (by rw [hlen]; omega), mid_get hi']
    have c1 : (0 : Int) < (i : Int) + 1 := by omega
    have c2 : (i : Int) < (out.length : Int) + 1 := by omega
    have c3 : (i : Int) + 1 < (out.length : Int) + 1 := by omega
    have c4 : (0 : Int) ≤ (i : Int) + 1 := by omega
    have c5 : ((i : Int) + 1).toNat = i + 1 := by omega
    have hRl : i + 1 + 1 ≤ (iv (out.take (i + 1) ++ y :: out.drop (i + 1))).length := by rw [len_iv, hlen]; omega
    have w0 : IntKind.i64.wrap (i : Int) = (i : Int) := wrap64 (by omega) (by omega)
    by_cases hlt : t < out[i]
    case pos =>
      have hw : wr (iv (out.take (i + 1) ++ y :: out.drop (i + 1))) (i + 1) [.int .i64 out[i]] = iv (out.take i ++ out[i] :: out.drop i) := by
        rw [wr_iv _ _ (by rw [hlen]; omega), mid_step hi']
      have hd2 : ∀ x ∈ out.drop i, t < x := by
        rw [List.drop_eq_getElem_cons hi']
        intro x hx
        rcases List.mem_cons.1 hx with rfl | hx
        · exact hlt
        · exact hd x hx
      generalize iv (out.take (i + 1) ++ y :: out.drop (i + 1)) = R at *
      simp -implicitDefEqProofs [hRl, w0, w1, w1', hrd, c1, c2, c3, c4, c5, hlt, hw]
      exact ⟨i, by omega, by omega, hd2, rfl, out[i], rfl⟩
    case neg =>
      have hq := hQ (i + 1) hi (fun _ hh => by have : out[i + 1 - 1] = out[i] := rfl; omega) hd
      have hw : wr (iv (out.take (i + 1) ++ y :: out.drop (i + 1))) (i + 1) [.int .i64 t] = iv (out.take (i + 1) ++ t :: out.drop (i + 1)) := by
        rw [wr_iv _ _ (by rw [hlen]; omega), set_mid _ _ _ _ _ (by simp; omega)]
      generalize iv (out.take (i + 1) ++ y :: out.drop (i + 1)) = R at *
      simp -implicitDefEqProofs [hRl, w0, w1, w1', hrd, c1, c2, c3, c4, c5, hlt, hw]
      exact hq
/-! ### a set gone through -/
def seenV (S : List Nat) : List AV := S.map fun (i : Nat) => AV.int IntKind.i64 (i : Int)
theorem seenV_append (S : List Nat) (i : Nat) : seenV (S ++ [i]) = seenV S ++ [.int .i64 (i : Int)] := by simp [seenV]
theorem entV_flatB (M : List Int) (S : List Nat) (i : Nat) (h : i < M.length) : entV (flatB M) (M.length : Nat) (seenV S ++ [.int .i64 (i : Int)]) = some (.tup [.int .i64 M[i], .bool true]) := by
  obtain ⟨h1, h2⟩ := flatB_get M i h
  unfold entV
  rw [List.getLast?_concat]
  simp only [flatB_len, Nat.mul_div_cancel_left _ (show 0 < 2 by omega), Int.toNat_natCast]
  rw [if_pos ⟨trivial, by omega⟩, h1, h2]
theorem nodup_le : ∀ (n : Nat) (S : List Nat), S.Nodup → (∀ i ∈ S, i < n) → S.length ≤ n
  | 0, S, _, h => by
    cases S with
    | nil => simp
    | cons a S => have := h a (by simp); omega
  | n + 1, S, hn, h => by
    by_cases hm : n ∈ S
    · have h1 := nodup_le n (S.erase n) (hn.erase n) fun i hi => by
        have h2 := (hn.mem_erase_iff).1 hi
        have := h i h2.2
        have := h2.1
        omega
      rw [List.length_erase_of_mem hm] at h1
      omega
    · have h1 := nodup_le n S hn fun i hi => by
        have := h i hi
        have : i ≠ n := fun e => hm (e ▸ hi)
        omega
      omega
@[simp] theorem isIt_mp (b g : Nat) (l : List AV) : isIt (.mp b g :: l) = true := rfl
theorem toCome_set (t : Env) (h : Hp) (g : Nat → Nat) (M : List Int) (S : List Nat) (a b : Nat) (fp : List Nat) (hf : fp.contains a = true ∧ fp.contains b = true) (h1 : hlook h a = some ⟨flatB M, false, mapTag⟩)
    (h2 : hlook h b = some ⟨.mp a (g a) :: .int .i64 (M.length : Nat) :: .int .i64 (M.length : Nat) :: seenV S, false, mapTag⟩) :
    toCome ⟨t, h, g⟩ fp (.ptr b (g b) 0) = some (b, (⟨.mp a (g a) :: .int .i64 (M.length : Nat) :: .int .i64 (M.length : Nat) :: seenV S, false, mapTag⟩ : Blk), (a, g a, ((M.length : Nat) : Int), ((M.length : Nat) : Int), seenV S), M.length) := by
  have i1 : itAt ⟨t, h, g⟩ fp b (g b) = some ⟨.mp a (g a) :: .int .i64 (M.length : Nat) :: .int .i64 (M.length : Nat) :: seenV S, false, mapTag⟩ := by
    simp only [itAt, liveAt, hf.2, h2, if_true]
    rfl
  have i2 : mapAt ⟨t, h, g⟩ fp a (g a) = some ⟨flatB M, false, mapTag⟩ := by
    simp only [mapAt, liveAt, hf.1, h1, if_true, isIt_flatB]
    rfl
  simp only [toCome, i1, itOf, i2, flatB_len, Nat.mul_div_cancel_left _ (show 0 < 2 by omega)]
  simp
noncomputable def RCutsC (m : Model) (q : Query) (b : Box) (place : Int) : Option (List Int) := Part (RM m) (cutsL m q b place)
def metTo (m : Model) (f : Int) (s : Span) (i k : Nat) (l : List Word) : List Int := (l.take k).foldl (metW f s) ((m.trees.take i).foldl (metT f s) [])
theorem metTo_zero (m : Model) (f : Int) (s : Span) (i : Nat) (l : List Word) : metTo m f s i 0 l = (m.trees.take i).foldl (metT f s) [] := by simp [metTo]
theorem metTo_some {m : Model} {f : Int} {s : Span} {i k : Nat} {l : List Word} (h : k < l.length) (hc : isCut f s l[k]) : metTo m f s i (k + 1) l = insB (nd l[k]).cut (metTo m f s i k l) := by
  unfold metTo
  rw [List.take_succ_eq_append_getElem h, List.foldl_append, List.foldl_cons, List.foldl_nil]
  conv => lhs; unfold metW
  rw [if_pos hc]
  rfl
theorem metTo_none {m : Model} {f : Int} {s : Span} {i k : Nat} {l : List Word} (h : k < l.length) (hc : ¬ isCut f s l[k]) : metTo m f s i (k + 1) l = metTo m f s i k l := by
  unfold metTo
  rw [List.take_succ_eq_append_getElem h, List.foldl_append, List.foldl_cons, List.foldl_nil]
  conv => lhs; unfold metW
  rw [if_neg hc]
  rfl
theorem metTo_all {m : Model} {f : Int} {s : Span} {i : Nat} (h : i < m.trees.length) : metTo m f s i m.trees[i].nodes.length m.trees[i].nodes = (m.trees.take (i + 1)).foldl (metT f s) [] := by
  unfold metTo
  rw [List.take_length, List.take_succ_eq_append_getElem h, List.foldl_append]
  rfl
abbrev rcT : Cs := tbl [(68, sp1 Unpack)]
set_option maxHeartbeats 8000000 in
theorem run_rcEnd (M L : List Int) (hM : M.Nodup) (hM2 : M.length ≤ 1000) (hL : ∀ l : List Int, l.Pairwise (· < ·) → (∀ x, x ∈ l ↔ x ∈ M) → l = L) (t : Env) (h : Hp) (g : Nat → Nat) (w : Nat) (hw : w = g 40) (ht : Go.Am.look t 10 = .mp 40 w) (h40 : hlook h 40 = some ⟨flatB M, false, mapTag⟩) :
    run rcT c38_79 [] ⟨t, h, g⟩ (fin a38.res (Arg.enc L)) := by
  subst hw
  unfold a38
  have hh : (2 * M.length / 2 : Nat) = M.length := by omega
  simp -implicitDefEqProofs [h40, hh, ht, hlook_hput]
  refine run_while (c := c38_71) (fun n s => ∃ (S : List Nat) (out : List Int) (g : Nat → Nat), n + S.length = M.length ∧ S.Nodup ∧ (∀ i ∈ S, i < M.length) ∧ out.length = S.length ∧ out.Pairwise (· < ·) ∧ (∀ x, x ∈ out ↔ ∃ i ∈ S, ∃ hi : i < M.length, M[i] = x) ∧ s = ⟨[(17, .own 17 (g 17) 0 out.length), (96, .ptr 96 (g 96) 0)], [(17, ⟨iv out, false, 1⟩), (40, ⟨flatB M, false, mapTag⟩), (96, ⟨.mp 40 (g 40) :: .int .i64 (M.length : Nat) :: .int .i64 (M.length : Nat) :: seenV S, false, mapTag⟩)], g⟩) M.length
    ⟨[], [], bump 96 (bump 17 g), by simp, by simp, by simp, by simp, by simp, by simp, by simp [h40, iv, seenV, hlook_hput]⟩ ?_
  rintro n s ⟨S, out, g, hn, hS, hlt, hol, hos, hox, rfl⟩
  rw [r38_71, run_seq, r38_48]
  refine run_next _ _ _ _ _ (toCome_set _ _ _ M S 40 96 _ ⟨rfl, rfl⟩ rfl rfl) ?_ ?_
  · intro i hi hne
    have hiS : i ∉ S := fun hm => hne (.int .i64 (i : Int)) (List.mem_map.2 ⟨i, hm, rfl⟩) rfl
    have hent := entV_flatB M S i hi
    have hSl := nodup_le M.length S hS hlt
    have hMo : M[i] ∉ out := fun hm => by
      obtain ⟨j, hj, hj2, e⟩ := (hox _).1 hm
      have : j = i := by
        rcases Nat.lt_trichotomy j i with hji | hji | hji
        · exact absurd e (List.pairwise_iff_getElem.1 hM j i hj2 hi hji)
        · exact hji
        · exact absurd e.symm (List.pairwise_iff_getElem.1 hM i j hi hj2 hji)
      subst this
      exact hiS hj
    have c1 : out.length ≤ maxN := by unfold maxN; omega
    have c2 : out.length + 1 ≤ 1099511627776 := by omega
    have c3 : out.length ≤ 1099511627775 := by omega
    have hsv := seenV_append S i
    have hS2 : (S ++ [i]).Nodup := by
      rw [List.nodup_append]
      exact ⟨hS, by simp, fun a ha b hb => by simp at hb; subst hb; intro e; subst e; exact hiS ha⟩
    have hlt2 : ∀ j ∈ S ++ [i], j < M.length := by
      intro j hj
      rcases List.mem_append.1 hj with hj | hj
      · exact hlt j hj
      · simp at hj; subst hj; exact hi
    have hSl2 := nodup_le M.length _ hS2 hlt2
    rw [List.length_append, List.length_singleton] at hSl2
    simp -implicitDefEqProofs [itMore, itAt, itOf, hent, c1, c2, c3, iv_take, -r38_65]
    refine run_ins (out := out) (t := M[i]) (B := ⟨flatB M, false, mapTag⟩) (D := ⟨.mp 40 (g 40) :: .int .i64 (M.length : Nat) :: .int .i64 (M.length : Nat) :: seenV (S ++ [i]), false, mapTag⟩) (hw0 := ?_) (hl := by omega) (hk := ?_) (hQ := ?_)
    · simp
    · simp [iv_append, hsv]
      rfl
    intro j hj hj1 hj2
    simp -implicitDefEqProofs
    refine ⟨n - 1, by omega, S ++ [i], by simp; omega, hS2, hlt2, out.take j ++ M[i] :: out.drop j, by rw [mid_len hj]; simp; omega, ins_sorted hos hMo hj (fun h => hj1 h (by omega)) hj2, ?_, ?_⟩
    · intro x
      rw [mem_mid, hox]
      constructor
      · rintro (rfl | ⟨k, hk, h⟩)
        · exact ⟨i, by simp, hi, rfl⟩
        · exact ⟨k, by simp [hk], h⟩
      · rintro ⟨k, hk, hk2, h⟩
        rcases List.mem_append.1 hk with hk | hk
        · exact .inr ⟨k, hk, hk2, h⟩
        · simp at hk; subst hk; exact .inl h.symm
    · rw [mid_len hj]
      simp
  · intro hall
    have hout : out = L := hL out hos fun x => by
      rw [hox]
      constructor
      · rintro ⟨i, _, hi, rfl⟩; exact List.getElem_mem hi
      · intro hx
        obtain ⟨i, hi, rfl⟩ := List.getElem_of_mem hx
        obtain ⟨y, hy, e⟩ := hall i hi
        obtain ⟨j, hj, rfl⟩ := List.mem_map.1 hy
        have hji : (j : Int) = i := by simpa using e
        have : j = i := by omega
        subst this
        exact ⟨j, hj, hi, rfl⟩
    have hl2 : out.length ≤ (iv out).length := by simp
    have htk := iv_take out
    rw [iv_enc] at htk hl2
    subst hout
    simp -implicitDefEqProofs [iv_enc, htk, hl2]
set_option maxHeartbeats 8000000 in
theorem runs_rCuts (m : Model) (q : Query) (b : Box) (place : Int) (r : List Int) (h : RCutsC m q b place = some r) : Runs rcT a38 [Arg.enc m, Arg.enc q, Arg.enc b, Arg.enc place] (Arg.enc r) := by
  obtain ⟨hr, rfl⟩ := part_some h
  clear h
  refine ⟨rfl, fun g => run_def ?_⟩
  have hend := fun (f : Int) (hf : f = if place = 4 then q.feature else place) (h0 : ¬ place < 0) (h4 : ¬ 4 < place) (hk : place = 4 → q.kind = 3) => run_rcEnd (metL m f (b.get place)) (cutsL m q b place) ((metT_spec f (b.get place) m.trees [] (fun t ht => rt31 hr ht) (by simp)).1) (by
    have := (metT_spec f (b.get place) m.trees [] (fun t ht => rt31 hr ht) (by simp)).2.1
    have := hr.trees
    simp at *
    unfold metL
    omega) (fun l hl hx => met_cuts hr h0 h4 hk hl (by rw [← hf]; exact hx))
  unfold a38
  have hle := hr.trees
  have b3 : m.trees.length ≤ maxN := by unfold maxN; omega
  by_cases h0 : place < 0
  case pos =>
    have e : cutsL m q b place = [] := by unfold cutsL; exact if_pos (by unfold featOf; rw [if_neg (by omega), if_neg (by omega)]; omega)
    have h4' : ¬ place = 4 := by omega
    simp -implicitDefEqProofs [h0, h4', e, encL_nil]
  by_cases h4 : 4 < place
  case pos =>
    have e : cutsL m q b place = [] := by unfold cutsL; exact if_pos (by unfold featOf; rw [if_neg (by omega), if_neg (by omega)]; omega)
    have h4' : ¬ place = 4 := by omega
    simp -implicitDefEqProofs [h0, h4, h4', e, encL_nil]
  by_cases hk : place = 4 ∧ ¬ q.kind = 3
  case pos =>
    have e : cutsL m q b place = [] := by unfold cutsL; exact if_pos (by unfold featOf; rw [if_neg (by omega), if_neg (by omega)]; omega)
    obtain ⟨hk1, hk2⟩ := hk
    subst hk1
    simp -implicitDefEqProofs [hk2, e, encL_nil]
  have hk : place = 4 → q.kind = 3 := fun e => Classical.byContradiction fun h => hk ⟨e, h⟩
  obtain ⟨p, rfl⟩ : ∃ p : Nat, place = p := ⟨place.toNat, by omega⟩
  have hp5 : p < 5 := by omega
  have hlo := rd_nlo b p hp5
  have hhi := rd_nhi b p hp5
  have hlo' : rd (Row.enc b) (p * 2) 1 false = some (.int .i64 (b.get p).lo) := hlo
  have hhi' : rd (Row.enc b) (p * 2 + 1) 1 false = some (.int .i64 (b.get p).hi) := hhi
  have hc5 : (p : Int) < 5 := by omega
  have hp0 : ¬ (p : Int) < 0 := h0
  generalize hF : (if (p : Int) = 4 then q.feature else (p : Int)) = f at *
  have hend := hend f rfl hp0 h4 hk
  generalize hsp : b.get (p : Int) = sp at *
  have main : ∀ (g : Nat → Nat) (Q5 : Blk), run rcT c38_81 [] ⟨[(3, .int .i64 p), (4, .ptr 4 (g 4) 0), (6, .ptr 6 (g 6) 0), (9, .int .i64 f), (39, .bool false)], [(4, ⟨Row.enc m, false, 0⟩), (5, Q5), (6, ⟨Row.enc b, false, 0⟩)], g⟩ (fin a38.res (Arg.enc (cutsL m q b p))) := by
    intro g Q5
    unfold a38 at hend ⊢
    generalize Row.enc b = B at *
    simp -implicitDefEqProofs [b3, -r38_79]
    refine run_while (c := c38_41) (fun n s => ∃ (i : Nat) (g : Nat → Nat), i + n = m.trees.length ∧ s = ⟨[(3, .int .i64 p), (6, .ptr 6 (g 6) 0), (9, .int .i64 f), (10, .mp 40 (g 40)), (42, .lst m.trees.length (encL m.trees)), (43, .int .i64 m.trees.length), (44, .int .i64 i)], [(6, ⟨B, false, 0⟩), (40, ⟨flatB ((m.trees.take i).foldl (metT f sp) []), false, mapTag⟩)], g⟩) m.trees.length ⟨0, bump 40 g, by omega, by simp [flatB]⟩ ?_
    rintro n s ⟨i, g, hi, rfl⟩
    by_cases h1 : i < m.trees.length
    case pos =>
      have w1 : IntKind.i64.wrap ((i : Int) + 1) = (i : Int) + 1 := wrap64 (by omega) (by omega)
      have hrow := rd_tree m.trees i h1
      have hrt := hr.rt (List.getElem_mem h1)
      have hnl := hrt.le
      have b4 : m.trees[i].nodes.length ≤ maxN := by unfold maxN; omega
      simp -implicitDefEqProofs [h1, hrow, b4]
      refine run_while (c := c38_31) (fun n s => ∃ (k : Nat) (g : Nat → Nat), k + n = m.trees[i].nodes.length ∧ s = ⟨[(3, .int .i64 p), (6, .ptr 6 (g 6) 0), (9, .int .i64 f), (10, .mp 40 (g 40)), (42, .lst m.trees.length (encL m.trees)), (43, .int .i64 m.trees.length), (44, .int .i64 i), (49, .lst m.trees[i].nodes.length (encL m.trees[i].nodes)), (50, .int .i64 m.trees[i].nodes.length), (51, .int .i64 k)], [(6, ⟨B, false, 0⟩), (40, ⟨flatB (metTo m f sp i k m.trees[i].nodes), false, mapTag⟩)], g⟩) m.trees[i].nodes.length ⟨0, bump 12 g, by omega, by simp [metTo_zero]⟩ ?_
      rintro n2 s ⟨k, g, hk, rfl⟩
      by_cases h2 : k < m.trees[i].nodes.length
      case pos =>
        have w2 : IntKind.i64.wrap ((k : Int) + 1) = (k : Int) + 1 := wrap64 (by omega) (by omega)
        have hU := unpack_at hrt h2
        have hnd : ndAt m.trees[i].nodes k = nd m.trees[i].nodes[k] := ndAt_lt h2
        rw [hnd] at hU
        by_cases hin : isCut f sp m.trees[i].nodes[k]
        case pos =>
          have hs := metTo_some (m := m) (i := i) h2 hin
          obtain ⟨q1, q2, q3, q4⟩ := hin
          have q3' : (nd m.trees[i].nodes[k]).cut ≥ sp.lo := q3
          simp -implicitDefEqProofs [h2, rd_words, hU, w2, q1, q2, q3, q4, hlo', hhi', hc5, hp0]
          refine ⟨n2 - 1, by omega, k + 1, by omega, ?_⟩; rw [hs]; simp
        case neg =>
          have hs := metTo_none (m := m) (i := i) h2 hin
          cases q1 : (nd m.trees[i].nodes[k]).leaf
          case true =>
            simp -implicitDefEqProofs [h2, rd_words, hU, w2, q1, hlo', hhi', hc5, hp0]
            refine ⟨n2 - 1, by omega, k + 1, by omega, ?_⟩; rw [hs]; simp
          case false =>
            by_cases q2 : (nd m.trees[i].nodes[k]).feature = f
            case neg =>
              simp -implicitDefEqProofs [h2, rd_words, hU, w2, q1, q2, hlo', hhi', hc5, hp0]
              refine ⟨n2 - 1, by omega, k + 1, by omega, ?_⟩; rw [hs]; simp
            case pos =>
              by_cases q3 : sp.lo ≤ (nd m.trees[i].nodes[k]).cut
              case neg =>
                simp -implicitDefEqProofs [h2, rd_words, hU, w2, q1, q2, q3, hlo', hhi', hc5, hp0]
                refine ⟨n2 - 1, by omega, k + 1, by omega, ?_⟩; rw [hs]; simp
              case pos =>
                have q4 : ¬ (nd m.trees[i].nodes[k]).cut < sp.hi := fun q4 => hin ⟨q1, q2, q3, q4⟩
                simp -implicitDefEqProofs [h2, rd_words, hU, w2, q1, q2, q3, q4, hlo', hhi', hc5, hp0]
                refine ⟨n2 - 1, by omega, k + 1, by omega, ?_⟩; rw [hs]; simp
      case neg =>
        have hkl : k = m.trees[i].nodes.length := by omega
        subst hkl
        rw [metTo_all h1]
        simp -implicitDefEqProofs [h2, w1]
        refine ⟨n - 1, by omega, i + 1, by omega, ?_⟩
        simp
    case neg =>
      have hil : i = m.trees.length := by omega
      subst hil
      simp -implicitDefEqProofs [h1, -r38_79]
      exact hend _ _ g _ rfl rfl rfl
  unfold a38 at main
  by_cases e4 : (p : Int) = 4
  case pos =>
    rw [if_pos e4] at hF
    subst hF
    have hk3 := hk e4
    have hp4 : p = 4 := by omega
    subst hp4
    simp -implicitDefEqProofs [hk3, -r38_81]
    exact main (bump 6 (bump 5 (bump 4 g))) _
  case neg =>
    rw [if_neg e4] at hF
    subst hF
    simp -implicitDefEqProofs [e4, hp0, h4, -r38_81]
    exact main (bump 6 (bump 5 (bump 4 g))) _
theorem c_rCuts : Contract Tryz.prog 38 (sp4 RCutsC) :=
  contract_of_runs mixed (tbl_cons c_rUnpack tbl_nil) Tryz.func38 m38 (sp4_runs runs_rCuts)
end Go.Co
/- CO: the document's own answers: right queries, what breaks them (written by mkCoS.py). -/
namespace Go.Co
open Go.Am Go.Proofs
set_option linter.unusedSimpArgs false
set_option linter.unusedVariables false
def c31_0 : ACode := .ops [⟨some 2, .box (.t 0) 6, none, []⟩,
  ⟨some 3, .box (.t 1) 17, none, []⟩,
  ⟨some 4, .mv (.c (.bool false)), none, []⟩] [2, 3]
theorem r31_0 : type_of% (@rr _ _ c31_0.eq_1) := rr c31_0.eq_1
def c31_1 : ACode := .ops [⟨some 7, .load 6 true (.t 2), none, [2]⟩,
  ⟨some 8, .call 59 [.t 7], none, []⟩,
  ⟨some 9, .un .not (.t 8), none, []⟩,
  ⟨some 10, .mv (.t 9), none, []⟩,
  ⟨some 11, .fad (.t 3) 1, some (10, false), [3]⟩,
  ⟨some 12, .load 1 false (.t 11), some (10, false), [3]⟩,
  ⟨some 13, .bin .lss (.t 12) (.c (.int .i64 0)), some (10, false), []⟩,
  ⟨some 14, .pick (.t 10) (.c (.bool true)) (.t 13), none, []⟩,
  ⟨some 15, .mv (.t 14), none, []⟩,
  ⟨some 16, .fad (.t 3) 1, some (15, false), [3]⟩,
  ⟨some 17, .load 1 false (.t 16), some (15, false), [3]⟩,
  ⟨some 18, .fad (.t 2) 1, some (15, false), [2]⟩,
  ⟨some 19, .load 1 false (.t 18), some (15, false), [2]⟩,
  ⟨some 20, .bin .geq (.t 17) (.t 19), some (15, false), []⟩,
  ⟨some 21, .pick (.t 15) (.c (.bool true)) (.t 20), none, []⟩,
  ⟨some 22, .mv (.t 21), none, []⟩,
  ⟨some 23, .fad (.t 3) 16, some (22, false), [3]⟩,
  ⟨some 24, .load 1 false (.t 23), some (22, false), [3]⟩,
  ⟨some 25, .bin .lss (.t 24) (.c (.int .i64 0)), some (22, false), []⟩,
  ⟨some 26, .pick (.t 22) (.c (.bool true)) (.t 25), none, []⟩,
  ⟨some 27, .mv (.t 26), none, []⟩,
  ⟨some 28, .fad (.t 3) 16, some (27, false), [3]⟩,
  ⟨some 29, .load 1 false (.t 28), some (27, false), [3]⟩,
  ⟨some 30, .bin .gtr (.t 29) (.c (.int .i64 65536)), some (27, false), []⟩,
  ⟨some 31, .pick (.t 27) (.c (.bool true)) (.t 30), none, []⟩] [2, 3, 31]
theorem r31_1 : type_of% (@rr _ _ c31_1.eq_1) := rr c31_1.eq_1
def c31_2 : ACode := .ops [⟨some 4, .mv (.c (.bool false)), none, []⟩] [4]
theorem r31_2 : type_of% (@rr _ _ c31_2.eq_1) := rr c31_2.eq_1
def c31_3 : ACode := .seq c31_2 .ret
theorem r31_3 : type_of% (@rr _ _ c31_3.eq_1) := rr c31_3.eq_1
def c31_4 : ACode := .cond (.t 31) c31_3 .skip
theorem r31_4 : type_of% (@rr _ _ c31_4.eq_1) := rr c31_4.eq_1
def c31_5 : ACode := .seq c31_1 c31_4
theorem r31_5 : type_of% (@rr _ _ c31_5.eq_1) := rr c31_5.eq_1
def c31_6 : ACode := .ops [⟨some 32, .fad (.t 3) 2, none, [3]⟩,
  ⟨some 33, .load 10 true (.t 32), none, [3]⟩,
  ⟨some 34, .mv (.c (.int .i64 0)), none, []⟩] [2, 3, 33, 34]
theorem r31_6 : type_of% (@rr _ _ c31_6.eq_1) := rr c31_6.eq_1
def c31_7 : ACode := .ops [⟨some 35, .bin .lss (.t 34) (.c (.int .i64 5)), none, []⟩] [2, 3, 33, 34, 35]
theorem r31_7 : type_of% (@rr _ _ c31_7.eq_1) := rr c31_7.eq_1
def c31_8 : ACode := .cond (.t 35) .skip (.exit 0)
theorem r31_8 : type_of% (@rr _ _ c31_8.eq_1) := rr c31_8.eq_1
def c31_9 : ACode := .ops [⟨some 36, .mv (.t 34), none, []⟩,
  ⟨some 37, .idx (.t 33) (.t 34) 2 5 true, none, []⟩,
  ⟨some 6, .alloc [.int .i64 0, .int .i64 0], none, []⟩,
  ⟨some 5, .mv (.t 36), none, []⟩,
  ⟨none, .store (.t 6) 2 (.t 37), none, [6]⟩] [2, 3, 5, 6, 33, 34]
theorem r31_9 : type_of% (@rr _ _ c31_9.eq_1) := rr c31_9.eq_1
def c31_10 : ACode := .ops [⟨some 38, .mv (.t 5), none, []⟩,
  ⟨some 39, .fad (.t 2) 0, none, [2]⟩,
  ⟨some 40, .load 1 false (.t 39), none, [2]⟩,
  ⟨some 41, .bin .lss (.t 38) (.t 40), none, []⟩,
  ⟨some 42, .mv (.t 41), none, []⟩,
  ⟨some 43, .fad (.t 6) 0, some (42, true), [6]⟩,
  ⟨some 44, .load 1 false (.t 43), some (42, true), [6]⟩,
  ⟨some 45, .fad (.t 6) 1, some (42, true), [6]⟩,
  ⟨some 46, .load 1 false (.t 45), some (42, true), [6]⟩,
  ⟨some 47, .bin .gtr (.t 44) (.t 46), some (42, true), []⟩,
  ⟨some 48, .mv (.t 47), some (42, true), []⟩,
  ⟨some 49, .fad (.t 6) 0, some (48, false), [6]⟩,
  ⟨some 50, .load 1 false (.t 49), some (48, false), [6]⟩,
  ⟨some 51, .call 60 [.t 50, .c (.int .i64 32)], some (48, false), []⟩,
  ⟨some 52, .un .not (.t 51), some (48, false), []⟩,
  ⟨some 53, .pick (.t 48) (.c (.bool true)) (.t 52), some (42, true), []⟩,
  ⟨some 54, .mv (.t 53), some (42, true), []⟩,
  ⟨some 55, .fad (.t 6) 1, some (54, false), [6]⟩,
  ⟨some 56, .load 1 false (.t 55), some (54, false), [6]⟩,
  ⟨some 57, .call 60 [.t 56, .c (.int .i64 32)], some (54, false), []⟩,
  ⟨some 58, .un .not (.t 57), some (54, false), []⟩,
  ⟨some 59, .pick (.t 54) (.c (.bool true)) (.t 58), some (42, true), []⟩,
  ⟨some 60, .pick (.t 42) (.t 59) (.c (.bool false)), none, []⟩,
  ⟨some 61, .mv (.t 60), none, []⟩,
  ⟨some 62, .mv (.t 5), some (61, false), []⟩,
  ⟨some 63, .fad (.t 2) 0, some (61, false), [2]⟩,
  ⟨some 64, .load 1 false (.t 63), some (61, false), [2]⟩,
  ⟨some 65, .bin .geq (.t 62) (.t 64), some (61, false), []⟩,
  ⟨some 66, .mv (.t 65), some (61, false), []⟩,
  ⟨some 67, .load 2 true (.t 6), some (66, true), [6]⟩,
  ⟨some 68, .build [.int .i64 0, .int .i64 0] [], some (66, true), []⟩,
  ⟨some 69, .eqa true [false, false] (.t 67) (.t 68), some (66, true), []⟩,
  ⟨some 70, .pick (.t 66) (.t 69) (.c (.bool false)), some (61, false), []⟩,
  ⟨some 71, .pick (.t 61) (.c (.bool true)) (.t 70), none, []⟩] [2, 3, 33, 34, 71]
theorem r31_10 : type_of% (@rr _ _ c31_10.eq_1) := rr c31_10.eq_1
def c31_11 : ACode := .ops [⟨some 4, .mv (.c (.bool false)), none, []⟩] [4]
theorem r31_11 : type_of% (@rr _ _ c31_11.eq_1) := rr c31_11.eq_1
def c31_12 : ACode := .seq c31_11 .ret
theorem r31_12 : type_of% (@rr _ _ c31_12.eq_1) := rr c31_12.eq_1
def c31_13 : ACode := .cond (.t 71) c31_12 .skip
theorem r31_13 : type_of% (@rr _ _ c31_13.eq_1) := rr c31_13.eq_1
def c31_14 : ACode := .seq c31_10 c31_13
theorem r31_14 : type_of% (@rr _ _ c31_14.eq_1) := rr c31_14.eq_1
def c31_15 : ACode := .seq c31_9 c31_14
theorem r31_15 : type_of% (@rr _ _ c31_15.eq_1) := rr c31_15.eq_1
def c31_16 : ACode := .block 1 c31_15
theorem r31_16 : type_of% (@rr _ _ c31_16.eq_1) := rr c31_16.eq_1
def c31_17 : ACode := .ops [⟨some 72, .bin .add (.t 34) (.c (.int .i64 1)), none, []⟩,
  ⟨some 34, .mv (.t 72), none, []⟩] [2, 3, 33, 34]
theorem r31_17 : type_of% (@rr _ _ c31_17.eq_1) := rr c31_17.eq_1
def c31_18 : ACode := .seq c31_16 c31_17
theorem r31_18 : type_of% (@rr _ _ c31_18.eq_1) := rr c31_18.eq_1
def c31_19 : ACode := .seq c31_8 c31_18
theorem r31_19 : type_of% (@rr _ _ c31_19.eq_1) := rr c31_19.eq_1
def c31_20 : ACode := .seq c31_7 c31_19
theorem r31_20 : type_of% (@rr _ _ c31_20.eq_1) := rr c31_20.eq_1
def c31_21 : ACode := .keep [2, 3, 33, 34] [2, 3] c31_20
theorem r31_21 : type_of% (@rr _ _ c31_21.eq_1) := rr c31_21.eq_1
def c31_22 : ACode := .loop c31_21
theorem r31_22 : type_of% (@rr _ _ c31_22.eq_1) := rr c31_22.eq_1
def c31_23 : ACode := .block 0 c31_22
theorem r31_23 : type_of% (@rr _ _ c31_23.eq_1) := rr c31_23.eq_1
def c31_24 : ACode := .seq c31_6 c31_23
theorem r31_24 : type_of% (@rr _ _ c31_24.eq_1) := rr c31_24.eq_1
def c31_25 : ACode := .ops [⟨some 73, .fad (.t 3) 0, none, [3]⟩,
  ⟨some 74, .load 1 false (.t 73), none, [3]⟩] [2, 3, 74]
theorem r31_25 : type_of% (@rr _ _ c31_25.eq_1) := rr c31_25.eq_1
def c31_26 : ACode := .ops [⟨some 76, .bin .eql (.t 74) (.c (.int .i64 1)), none, []⟩,
  ⟨some 75, .mv (.t 76), none, []⟩] [2, 3, 74, 75]
theorem r31_26 : type_of% (@rr _ _ c31_26.eq_1) := rr c31_26.eq_1
def c31_27 : ACode := .ops [⟨some 77, .fad (.t 3) 12, none, [3]⟩,
  ⟨some 78, .load 1 false (.t 77), none, [3]⟩,
  ⟨some 79, .fad (.t 3) 13, none, [3]⟩,
  ⟨some 80, .load 1 false (.t 79), none, [3]⟩,
  ⟨some 81, .bin .leq (.t 78) (.t 80), none, []⟩,
  ⟨some 82, .mv (.t 81), none, []⟩,
  ⟨some 83, .fad (.t 3) 14, some (82, true), [3]⟩,
  ⟨some 84, .load 1 false (.t 83), some (82, true), [3]⟩,
  ⟨some 85, .bin .eql (.t 84) (.c (.int .i64 0)), some (82, true), []⟩,
  ⟨some 86, .pick (.t 82) (.t 85) (.c (.bool false)), none, []⟩,
  ⟨some 87, .mv (.t 86), none, []⟩,
  ⟨some 88, .fad (.t 3) 15, some (87, true), [3]⟩,
  ⟨some 89, .load 1 false (.t 88), some (87, true), [3]⟩,
  ⟨some 90, .un .not (.t 89), some (87, true), []⟩,
  ⟨some 91, .pick (.t 87) (.t 90) (.c (.bool false)), none, []⟩,
  ⟨some 4, .mv (.t 91), none, []⟩] [4]
theorem r31_27 : type_of% (@rr _ _ c31_27.eq_1) := rr c31_27.eq_1
def c31_28 : ACode := .seq c31_27 .ret
theorem r31_28 : type_of% (@rr _ _ c31_28.eq_1) := rr c31_28.eq_1
def c31_29 : ACode := .ops [⟨some 93, .bin .eql (.t 74) (.c (.int .i64 2)), none, []⟩,
  ⟨some 92, .mv (.t 93), none, []⟩] [2, 3, 74, 92]
theorem r31_29 : type_of% (@rr _ _ c31_29.eq_1) := rr c31_29.eq_1
def c31_30 : ACode := .ops [⟨some 94, .fad (.t 2) 1, none, [2]⟩,
  ⟨some 95, .load 1 false (.t 94), none, [2]⟩,
  ⟨some 96, .bin .geq (.t 95) (.c (.int .i64 2)), none, []⟩,
  ⟨some 97, .mv (.t 96), none, []⟩,
  ⟨some 98, .fad (.t 3) 12, some (97, true), [3]⟩,
  ⟨some 99, .load 1 false (.t 98), some (97, true), [3]⟩,
  ⟨some 100, .bin .eql (.t 99) (.c (.int .i64 0)), some (97, true), []⟩,
  ⟨some 101, .pick (.t 97) (.t 100) (.c (.bool false)), none, []⟩,
  ⟨some 102, .mv (.t 101), none, []⟩,
  ⟨some 103, .fad (.t 3) 13, some (102, true), [3]⟩,
  ⟨some 104, .load 1 false (.t 103), some (102, true), [3]⟩,
  ⟨some 105, .bin .eql (.t 104) (.c (.int .i64 0)), some (102, true), []⟩,
  ⟨some 106, .pick (.t 102) (.t 105) (.c (.bool false)), none, []⟩,
  ⟨some 107, .mv (.t 106), none, []⟩,
  ⟨some 108, .fad (.t 3) 14, some (107, true), [3]⟩,
  ⟨some 109, .load 1 false (.t 108), some (107, true), [3]⟩,
  ⟨some 110, .bin .eql (.t 109) (.c (.int .i64 0)), some (107, true), []⟩,
  ⟨some 111, .pick (.t 107) (.t 110) (.c (.bool false)), none, []⟩,
  ⟨some 112, .mv (.t 111), none, []⟩,
  ⟨some 113, .fad (.t 3) 15, some (112, true), [3]⟩,
  ⟨some 114, .load 1 false (.t 113), some (112, true), [3]⟩,
  ⟨some 115, .un .not (.t 114), some (112, true), []⟩,
  ⟨some 116, .pick (.t 112) (.t 115) (.c (.bool false)), none, []⟩,
  ⟨some 4, .mv (.t 116), none, []⟩] [4]
theorem r31_30 : type_of% (@rr _ _ c31_30.eq_1) := rr c31_30.eq_1
def c31_31 : ACode := .seq c31_30 .ret
theorem r31_31 : type_of% (@rr _ _ c31_31.eq_1) := rr c31_31.eq_1
def c31_32 : ACode := .ops [⟨some 118, .bin .eql (.t 74) (.c (.int .i64 3)), none, []⟩,
  ⟨some 117, .mv (.t 118), none, []⟩] [2, 3, 117]
theorem r31_32 : type_of% (@rr _ _ c31_32.eq_1) := rr c31_32.eq_1
def c31_33 : ACode := .ops [⟨some 119, .fad (.t 3) 14, none, [3]⟩,
  ⟨some 120, .load 1 false (.t 119), none, [3]⟩,
  ⟨some 121, .bin .geq (.t 120) (.c (.int .i64 0)), none, []⟩,
  ⟨some 122, .mv (.t 121), none, []⟩,
  ⟨some 123, .fad (.t 3) 14, some (122, true), [3]⟩,
  ⟨some 124, .load 1 false (.t 123), some (122, true), [3]⟩,
  ⟨some 125, .fad (.t 2) 0, some (122, true), [2]⟩,
  ⟨some 126, .load 1 false (.t 125), some (122, true), [2]⟩,
  ⟨some 127, .bin .lss (.t 124) (.t 126), some (122, true), []⟩,
  ⟨some 128, .pick (.t 122) (.t 127) (.c (.bool false)), none, []⟩,
  ⟨some 129, .mv (.t 128), none, []⟩,
  ⟨some 130, .fad (.t 3) 12, some (129, true), [3]⟩,
  ⟨some 131, .load 1 false (.t 130), some (129, true), [3]⟩,
  ⟨some 132, .bin .eql (.t 131) (.c (.int .i64 0)), some (129, true), []⟩,
  ⟨some 133, .pick (.t 129) (.t 132) (.c (.bool false)), none, []⟩,
  ⟨some 134, .mv (.t 133), none, []⟩,
  ⟨some 135, .fad (.t 3) 13, some (134, true), [3]⟩,
  ⟨some 136, .load 1 false (.t 135), some (134, true), [3]⟩,
  ⟨some 137, .bin .eql (.t 136) (.c (.int .i64 0)), some (134, true), []⟩,
  ⟨some 138, .pick (.t 134) (.t 137) (.c (.bool false)), none, []⟩,
  ⟨some 4, .mv (.t 138), none, []⟩] [4]
theorem r31_33 : type_of% (@rr _ _ c31_33.eq_1) := rr c31_33.eq_1
def c31_34 : ACode := .seq c31_33 .ret
theorem r31_34 : type_of% (@rr _ _ c31_34.eq_1) := rr c31_34.eq_1
def c31_35 : ACode := .cond (.t 117) c31_34 .skip
theorem r31_35 : type_of% (@rr _ _ c31_35.eq_1) := rr c31_35.eq_1
def c31_36 : ACode := .seq c31_32 c31_35
theorem r31_36 : type_of% (@rr _ _ c31_36.eq_1) := rr c31_36.eq_1
def c31_37 : ACode := .cond (.t 92) c31_31 c31_36
theorem r31_37 : type_of% (@rr _ _ c31_37.eq_1) := rr c31_37.eq_1
def c31_38 : ACode := .seq c31_29 c31_37
theorem r31_38 : type_of% (@rr _ _ c31_38.eq_1) := rr c31_38.eq_1
def c31_39 : ACode := .cond (.t 75) c31_28 c31_38
theorem r31_39 : type_of% (@rr _ _ c31_39.eq_1) := rr c31_39.eq_1
def c31_40 : ACode := .seq c31_26 c31_39
theorem r31_40 : type_of% (@rr _ _ c31_40.eq_1) := rr c31_40.eq_1
def c31_41 : ACode := .block 2 c31_40
theorem r31_41 : type_of% (@rr _ _ c31_41.eq_1) := rr c31_41.eq_1
def c31_42 : ACode := .seq c31_25 c31_41
theorem r31_42 : type_of% (@rr _ _ c31_42.eq_1) := rr c31_42.eq_1
def c31_43 : ACode := .ops [⟨some 4, .mv (.c (.bool false)), none, []⟩] [4]
theorem r31_43 : type_of% (@rr _ _ c31_43.eq_1) := rr c31_43.eq_1
def c31_44 : ACode := .seq c31_43 .ret
theorem r31_44 : type_of% (@rr _ _ c31_44.eq_1) := rr c31_44.eq_1
def c31_45 : ACode := .seq c31_42 c31_44
theorem r31_45 : type_of% (@rr _ _ c31_45.eq_1) := rr c31_45.eq_1
def c31_46 : ACode := .seq c31_24 c31_45
theorem r31_46 : type_of% (@rr _ _ c31_46.eq_1) := rr c31_46.eq_1
def c31_47 : ACode := .seq c31_5 c31_46
theorem r31_47 : type_of% (@rr _ _ c31_47.eq_1) := rr c31_47.eq_1
def c31_48 : ACode := .seq c31_0 c31_47
theorem r31_48 : type_of% (@rr _ _ c31_48.eq_1) := rr c31_48.eq_1
def a31 : AFun := ⟨2, 139, c31_48, [.t 4]⟩
attribute [simp] r31_0 r31_1 r31_2 r31_3 r31_4 r31_5 r31_6 r31_7 r31_8 r31_9 r31_10 r31_11 r31_12 r31_13 r31_14 r31_15 r31_16 r31_17 r31_18 r31_19 r31_20 r31_21 r31_22 r31_23 r31_24 r31_25 r31_26 r31_27 r31_28 r31_29 r31_30 r31_31 r31_32 r31_33 r31_34 r31_35 r31_36 r31_37 r31_38 r31_39 r31_40 r31_41 r31_42 r31_43 r31_44 r31_45 r31_46 r31_47 r31_48
theorem m31 : mFun Tryz.prog Tryz.f31 a31 = true := by decide +kernel
theorem rRight_rest {C : Cs} (m : Model) (q : Query) (g : Nat → Nat) (h : Hp) (x y z : AV) : run C c31_45 [] ⟨[(2, .ptr 2 (g 2) 0), (3, .ptr 3 (g 3) 0), (33, x), (34, y), (35, z)], (2, ⟨Row.enc m, false, 0⟩) :: (3, ⟨Row.enc q, false, 0⟩) :: h, g⟩ (fin [.t 4] (.bool (okKind m q))) := by
  by_cases k1 : q.kind = 1
  case pos =>
    by_cases a0 : q.lo ≤ q.hi
    case neg => simp -implicitDefEqProofs [okKind, k1, a0]
    by_cases a1 : q.feature = 0
    case neg => simp -implicitDefEqProofs [okKind, k1, a0, a1]
    cases q.falls <;> simp -implicitDefEqProofs [okKind, k1, a0, a1]
  by_cases k2 : q.kind = 2
  case pos =>
    by_cases a0 : 2 ≤ m.classes
    case neg => simp -implicitDefEqProofs [okKind, k1, k2, a0]
    by_cases a1 : q.lo = 0
    case neg => simp -implicitDefEqProofs [okKind, k1, k2, a0, a1]
    by_cases a2 : q.hi = 0
    case neg => simp -implicitDefEqProofs [okKind, k1, k2, a0, a1, a2]
    by_cases a3 : q.feature = 0
    case neg => simp -implicitDefEqProofs [okKind, k1, k2, a0, a1, a2, a3]
    cases q.falls <;> simp -implicitDefEqProofs [okKind, k1, k2, a0, a1, a2, a3]
  by_cases k3 : q.kind = 3
  case pos =>
    by_cases a0 : 0 ≤ q.feature
    case neg => simp -implicitDefEqProofs [okKind, k1, k2, k3, a0]
    by_cases a1 : q.feature < m.dim
    case neg => simp -implicitDefEqProofs [okKind, k1, k2, k3, a0, a1]
    by_cases a2 : q.lo = 0
    case neg => simp -implicitDefEqProofs [okKind, k1, k2, k3, a0, a1, a2]
    simp -implicitDefEqProofs [okKind, k1, k2, k3, a0, a1, a2]
  simp -implicitDefEqProofs [okKind, k1, k2, k3]
theorem okRegion_get (b : Box) (dim : Int) : okRegion b dim = true ↔ ∀ j : Nat, j < 5 → okSpan dim j (b.get j) = true := by
  unfold okRegion
  simp only [Bool.and_eq_true]
  constructor
  · rintro ⟨⟨⟨⟨h0, h1⟩, h2⟩, h3⟩, h4⟩ j hj
    have : j = 0 ∨ j = 1 ∨ j = 2 ∨ j = 3 ∨ j = 4 := by omega
    rcases this with rfl | rfl | rfl | rfl | rfl
    · exact h0
    · exact h1
    · exact h2
    · exact h3
    · exact h4
  · intro h
    exact ⟨⟨⟨⟨h 0 (by omega), h 1 (by omega)⟩, h 2 (by omega)⟩, h 3 (by omega)⟩, h 4 (by omega)⟩
@[simp high] theorem rd_spanN (b : Box) (k : Nat) (h : k < 5) : rd [.int .i64 b.s0.lo, .int .i64 b.s0.hi, .int .i64 b.s1.lo, .int .i64 b.s1.hi, .int .i64 b.s2.lo, .int .i64 b.s2.hi, .int .i64 b.s3.lo, .int .i64 b.s3.hi, .int .i64 b.s4.lo, .int .i64 b.s4.hi] (k * 2) 2 true = some (.agg [.int .i64 (b.get k).lo, .int .i64 (b.get k).hi]) := by
  have hf : k = 0 ∨ k = 1 ∨ k = 2 ∨ k = 3 ∨ k = 4 := by omega
  rcases hf with rfl | rfl | rfl | rfl | rfl <;> rfl
set_option maxHeartbeats 4000000 in
theorem rRight_loop (m : Model) (q : Query) (hd : 1 ≤ m.dim ∧ m.dim ≤ 4) (g : Nat → Nat) (h : Hp) (hh : keepH h [2, 3] = [(2, ⟨Row.enc m, false, 0⟩), (3, ⟨Row.enc q, false, 0⟩)]) :
    run (tbl [(59, sp1 RModel), (60, sp2 Fits)]) (.loop c31_21) [Fr.blk 0, Fr.c c31_45] ⟨[(2, .ptr 2 (g 2) 0), (3, .ptr 3 (g 3) 0), (33, .agg (Row.enc q.region)), (34, .int .i64 0)], h, g⟩ (fin [.t 4] (.bool (okRegion q.region m.dim && okKind m q))) := by
  refine run_while (c := c31_20) (fun n s => ∃ (i : Nat) (g : Nat → Nat), i + n = 5 ∧ (∀ j : Nat, j < i → okSpan m.dim j (q.region.get j) = true) ∧ s = ⟨[(2, .ptr 2 (g 2) 0), (3, .ptr 3 (g 3) 0), (33, .agg (Row.enc q.region)), (34, .int .i64 i)], [(2, ⟨Row.enc m, false, 0⟩), (3, ⟨Row.enc q, false, 0⟩)], g⟩) 5 ⟨0, g, by omega, fun j hj => by omega, by simp only [hh]; rfl⟩ ?_
  rintro n s ⟨i, g, hi, hok, rfl⟩
  by_cases h1 : i < 5
  case neg =>
    have h1i : ¬ (i : Int) < 5 := by omega
    have hall : okRegion q.region m.dim = true := (okRegion_get _ _).2 fun j hj => hok j (by omega)
    rw [hall, Bool.true_and]
    simp -implicitDefEqProofs [h1i, -r31_45]
    exact rRight_rest m q g [] _ _ _
  have h1i : (i : Int) < 5 := by omega
  have w1 : IntKind.i64.wrap ((i : Int) + 1) = (i : Int) + 1 := wrap64 (by omega) (by omega)
  have hbad : okSpan m.dim i (q.region.get i) = false → (okRegion q.region m.dim && okKind m q) = false := by
    intro hb
    have : okRegion q.region m.dim = false := by
      cases hr : okRegion q.region m.dim
      · rfl
      · rw [(okRegion_get _ _).1 hr i h1] at hb; cases hb
    rw [this]
    rfl
  have hgood : okSpan m.dim i (q.region.get i) = true → ∀ j : Nat, j < i + 1 → okSpan m.dim j (q.region.get j) = true := by
    intro hb j hj
    by_cases e : j = i
    · subst e; exact hb
    · exact hok j (by omega)
  unfold okSpan Span.empty at hbad hgood
  generalize hsp : q.region.get i = sp at *
  have hrd : q.region.get (i : Int) = sp := hsp
  by_cases a1 : (i : Int) < m.dim
  · have a2 : ¬ m.dim ≤ i := by omega
    by_cases e1 : sp.hi < sp.lo
    case pos =>
      rw [hbad (by simp [e1])]
      simp -implicitDefEqProofs [h1, h1i, hrd, a1, a2, e1, Fits]
    cases e2 : fits sp.lo
    case false =>
      rw [hbad (by simp [e2])]
      simp -implicitDefEqProofs [h1, h1i, hrd, a1, a2, e1, e2, Fits]
    cases e3 : fits sp.hi
    case false =>
      rw [hbad (by simp [e3])]
      simp -implicitDefEqProofs [h1, h1i, hrd, a1, a2, e1, e2, e3, Fits]
    have hg := hgood (by simp [a1, e1, e2, e3])
    simp -implicitDefEqProofs [h1, h1i, hrd, a1, a2, e1, e2, e3, Fits, w1]
    exact ⟨n - 1, by omega, i + 1, by omega, hg, by omega⟩
  · have a2 : m.dim ≤ i := by omega
    by_cases e1 : sp.lo = 0
    case neg =>
      rw [hbad (by have : sp ≠ ⟨0, 0⟩ := fun e => e1 (by rw [e]); simp [a1, this])]
      simp -implicitDefEqProofs [h1, h1i, hrd, a1, a2, e1, Fits]
    by_cases e2 : sp.hi = 0
    case neg =>
      rw [hbad (by have : sp ≠ ⟨0, 0⟩ := fun e => e2 (by rw [e]); simp [a1, this])]
      simp -implicitDefEqProofs [h1, h1i, hrd, a1, a2, e1, e2, Fits]
    have hz : sp = ⟨0, 0⟩ := by obtain ⟨x, y⟩ := sp; simp only at e1 e2; rw [e1, e2]
    have fz : fits 0 = true := rfl
    have hg := hgood (by rw [hz]; simp [fz])
    simp -implicitDefEqProofs [h1, h1i, hrd, a1, a2, e1, e2, Fits, w1]
    exact ⟨n - 1, by omega, i + 1, by omega, hg, by omega⟩
set_option maxHeartbeats 4000000 in
theorem runs_rRight (m : Model) (q : Query) (c : Bool) (h : Part (RM m) (okQuery m q) = some c) : Runs (tbl [(59, sp1 RModel), (60, sp2 Fits)]) a31 [Arg.enc m, Arg.enc q] (Arg.enc c) := by
  obtain ⟨hr, rfl⟩ := part_some h
  clear h
  refine ⟨rfl, fun g => run_def ?_⟩
  unfold a31
  have hM : RModel m = some true := part_of hr _
  have hd := hr.dim
  by_cases a0 : q.cls < 0
  case pos =>
    have : ¬ 0 ≤ q.cls := by omega
    simp -implicitDefEqProofs [hM, a0, okQuery, this]
  have a0' : 0 ≤ q.cls := by omega
  by_cases a1 : m.classes ≤ q.cls
  case pos =>
    have : ¬ q.cls < m.classes := by omega
    simp -implicitDefEqProofs [hM, a0, a1, okQuery, this]
  have a1' : q.cls < m.classes := by omega
  by_cases a2 : q.budget < 0
  case pos =>
    have : ¬ 0 ≤ q.budget := by omega
    simp -implicitDefEqProofs [hM, a0, a1, a2, okQuery, this]
  have a2' : 0 ≤ q.budget := by omega
  by_cases a3 : 65536 < q.budget
  case pos =>
    have : ¬ q.budget ≤ 65536 := by omega
    simp -implicitDefEqProofs [hM, a0, a1, a2, a3, okQuery, this]
  have a3' : q.budget ≤ 65536 := by omega
  have hres : okQuery m q = (okRegion q.region m.dim && okKind m q) := by simp [okQuery, a0', a1', a2', a3']
  rw [hres]
  simp -implicitDefEqProofs [hM, a0, a1, a2, a3, -r31_22]
  exact rRight_loop m q hd (bump 3 (bump 2 g)) _ (by simp)
noncomputable def RQRight (m : Model) (q : Query) : Option Bool := Part (RM m) (okQuery m q)
theorem c_rRight' : Contract Tryz.prog 31 (sp2 RQRight) :=
  contract_of_runs mixed (tbl_cons c_rModel (tbl_cons c_rFits tbl_nil)) Tryz.func31 m31 (sp2_runs runs_rRight)
end Go.Co
