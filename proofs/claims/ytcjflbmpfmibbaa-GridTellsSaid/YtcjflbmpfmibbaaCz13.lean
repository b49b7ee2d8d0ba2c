/- CO: texts of this claim, one behind the other. -/
import Derived.Test.YtcjflbmpfmibbaaCz6
import Derived.Test.YtcjflbmpfmibbaaCz10
import Derived.Test.YtcjflbmpfmibbaaCz12
/- CO: the document's own answers: right queries, what breaks them (written by mkCoS.py). -/
namespace Go.Co
open Go.Am Go.Proofs
set_option linter.unusedSimpArgs false
set_option linter.unusedVariables false
def c79_0 : ACode := .ops [⟨some 2, .box (.t 0) 6, none, []⟩,
  ⟨some 3, .box (.t 1) 17, none, []⟩,
  ⟨some 4, .mv (.c (.bool false)), none, []⟩] [2, 3]
theorem r79_0 : type_of% (@rr _ _ c79_0.eq_1) := rr c79_0.eq_1
def c79_1 : ACode := .ops [⟨some 7, .load 6 true (.t 2), none, [2]⟩,
  ⟨some 8, .call 86 [.t 7], none, []⟩,
  ⟨some 9, .un .not (.t 8), none, []⟩,
  ⟨some 10, .mv (.t 9), none, []⟩,
  ⟨some 11, .fad (.t 3) 1, some (10, false), [3]⟩,
  ⟨some 12, .load 1 false (.t 11), some (10, false), [3]⟩,
  ⟨some 13, .bin .lss (.t 12) (.c (.int .i64 0)), some (10, false), []⟩,
  ⟨some 14, .pick (.t 10) (.c (.bool true)) (.t 13), none, []⟩,
  ⟨some 15, .mv (.t 14), none, []⟩,
  ⟨some 16, .fad (.t 3) 1, some (15, false), [3]⟩,
  ⟨some 17, .load 1 false (.t 16), some (15, false), [3]⟩,
  ⟨some 18, .fad (.t 2) 1, some (15, false), [2]⟩,
  ⟨some 19, .load 1 false (.t 18), some (15, false), [2]⟩,
  ⟨some 20, .bin .geq (.t 17) (.t 19), some (15, false), []⟩,
  ⟨some 21, .pick (.t 15) (.c (.bool true)) (.t 20), none, []⟩,
  ⟨some 22, .mv (.t 21), none, []⟩,
  ⟨some 23, .fad (.t 3) 16, some (22, false), [3]⟩,
  ⟨some 24, .load 1 false (.t 23), some (22, false), [3]⟩,
  ⟨some 25, .bin .lss (.t 24) (.c (.int .i64 0)), some (22, false), []⟩,
  ⟨some 26, .pick (.t 22) (.c (.bool true)) (.t 25), none, []⟩,
  ⟨some 27, .mv (.t 26), none, []⟩,
  ⟨some 28, .fad (.t 3) 16, some (27, false), [3]⟩,
  ⟨some 29, .load 1 false (.t 28), some (27, false), [3]⟩,
  ⟨some 30, .bin .gtr (.t 29) (.c (.int .i64 65536)), some (27, false), []⟩,
  ⟨some 31, .pick (.t 27) (.c (.bool true)) (.t 30), none, []⟩] [2, 3, 31]
theorem r79_1 : type_of% (@rr _ _ c79_1.eq_1) := rr c79_1.eq_1
def c79_2 : ACode := .ops [⟨some 4, .mv (.c (.bool false)), none, []⟩] [4]
theorem r79_2 : type_of% (@rr _ _ c79_2.eq_1) := rr c79_2.eq_1
def c79_3 : ACode := .seq c79_2 .ret
theorem r79_3 : type_of% (@rr _ _ c79_3.eq_1) := rr c79_3.eq_1
def c79_4 : ACode := .cond (.t 31) c79_3 .skip
theorem r79_4 : type_of% (@rr _ _ c79_4.eq_1) := rr c79_4.eq_1
def c79_5 : ACode := .seq c79_1 c79_4
theorem r79_5 : type_of% (@rr _ _ c79_5.eq_1) := rr c79_5.eq_1
def c79_6 : ACode := .ops [⟨some 32, .fad (.t 3) 2, none, [3]⟩,
  ⟨some 33, .load 10 true (.t 32), none, [3]⟩,
  ⟨some 34, .mv (.c (.int .i64 0)), none, []⟩] [2, 3, 33, 34]
theorem r79_6 : type_of% (@rr _ _ c79_6.eq_1) := rr c79_6.eq_1
def c79_7 : ACode := .ops [⟨some 35, .bin .lss (.t 34) (.c (.int .i64 5)), none, []⟩] [2, 3, 33, 34, 35]
theorem r79_7 : type_of% (@rr _ _ c79_7.eq_1) := rr c79_7.eq_1
def c79_8 : ACode := .cond (.t 35) .skip (.exit 0)
theorem r79_8 : type_of% (@rr _ _ c79_8.eq_1) := rr c79_8.eq_1
def c79_9 : ACode := .ops [⟨some 36, .mv (.t 34), none, []⟩,
  ⟨some 37, .idx (.t 33) (.t 34) 2 5 true, none, []⟩,
  ⟨some 6, .alloc [.int .i64 0, .int .i64 0], none, []⟩,
  ⟨some 5, .mv (.t 36), none, []⟩,
  ⟨none, .store (.t 6) 2 (.t 37), none, [6]⟩] [2, 3, 5, 6, 33, 34]
theorem r79_9 : type_of% (@rr _ _ c79_9.eq_1) := rr c79_9.eq_1
def c79_10 : ACode := .ops [⟨some 38, .mv (.t 5), none, []⟩,
  ⟨some 39, .fad (.t 2) 0, none, [2]⟩,
  ⟨some 40, .load 1 false (.t 39), none, [2]⟩,
  ⟨some 41, .bin .lss (.t 38) (.t 40), none, []⟩,
  ⟨some 42, .mv (.t 41), none, []⟩,
  ⟨some 43, .fad (.t 6) 0, some (42, true), [6]⟩,
  ⟨some 44, .load 1 false (.t 43), some (42, true), [6]⟩,
  ⟨some 45, .fad (.t 6) 1, some (42, true), [6]⟩,
  ⟨some 46, .load 1 false (.t 45), some (42, true), [6]⟩,
  ⟨some 47, .bin .gtr (.t 44) (.t 46), some (42, true), []⟩,
  ⟨some 48, .mv (.t 47), some (42, true), []⟩,
  ⟨some 49, .fad (.t 6) 0, some (48, false), [6]⟩,
  ⟨some 50, .load 1 false (.t 49), some (48, false), [6]⟩,
  ⟨some 51, .call 126 [.t 50, .c (.int .i64 32)], some (48, false), []⟩,
  ⟨some 52, .un .not (.t 51), some (48, false), []⟩,
  ⟨some 53, .pick (.t 48) (.c (.bool true)) (.t 52), some (42, true), []⟩,
  ⟨some 54, .mv (.t 53), some (42, true), []⟩,
  ⟨some 55, .fad (.t 6) 1, some (54, false), [6]⟩,
  ⟨some 56, .load 1 false (.t 55), some (54, false), [6]⟩,
  ⟨some 57, .call 126 [.t 56, .c (.int .i64 32)], some (54, false), []⟩,
  ⟨some 58, .un .not (.t 57), some (54, false), []⟩,
  ⟨some 59, .pick (.t 54) (.c (.bool true)) (.t 58), some (42, true), []⟩,
  ⟨some 60, .pick (.t 42) (.t 59) (.c (.bool false)), none, []⟩,
  ⟨some 61, .mv (.t 60), none, []⟩,
  ⟨some 62, .mv (.t 5), some (61, false), []⟩,
  ⟨some 63, .fad (.t 2) 0, some (61, false), [2]⟩,
  ⟨some 64, .load 1 false (.t 63), some (61, false), [2]⟩,
  ⟨some 65, .bin .geq (.t 62) (.t 64), some (61, false), []⟩,
  ⟨some 66, .mv (.t 65), some (61, false), []⟩,
  ⟨some 67, .load 2 true (.t 6), some (66, true), [6]⟩,
  ⟨some 68, .build [.int .i64 0, .int .i64 0] [], some (66, true), []⟩,
  ⟨some 69, .eqa true [false, false] (.t 67) (.t 68), some (66, true), []⟩,
  ⟨some 70, .pick (.t 66) (.t 69) (.c (.bool false)), some (61, false), []⟩,
  ⟨some 71, .pick (.t 61) (.c (.bool true)) (.t 70), none, []⟩] [2, 3, 33, 34, 71]
theorem r79_10 : type_of% (@rr _ _ c79_10.eq_1) := rr c79_10.eq_1
def c79_11 : ACode := .ops [⟨some 4, .mv (.c (.bool false)), none, []⟩] [4]
theorem r79_11 : type_of% (@rr _ _ c79_11.eq_1) := rr c79_11.eq_1
def c79_12 : ACode := .seq c79_11 .ret
theorem r79_12 : type_of% (@rr _ _ c79_12.eq_1) := rr c79_12.eq_1
def c79_13 : ACode := .cond (.t 71) c79_12 .skip
theorem r79_13 : type_of% (@rr _ _ c79_13.eq_1) := rr c79_13.eq_1
def c79_14 : ACode := .seq c79_10 c79_13
theorem r79_14 : type_of% (@rr _ _ c79_14.eq_1) := rr c79_14.eq_1
def c79_15 : ACode := .seq c79_9 c79_14
theorem r79_15 : type_of% (@rr _ _ c79_15.eq_1) := rr c79_15.eq_1
def c79_16 : ACode := .block 1 c79_15
theorem r79_16 : type_of% (@rr _ _ c79_16.eq_1) := rr c79_16.eq_1
def c79_17 : ACode := .ops [⟨some 72, .bin .add (.t 34) (.c (.int .i64 1)), none, []⟩,
  ⟨some 34, .mv (.t 72), none, []⟩] [2, 3, 33, 34]
theorem r79_17 : type_of% (@rr _ _ c79_17.eq_1) := rr c79_17.eq_1
def c79_18 : ACode := .seq c79_16 c79_17
theorem r79_18 : type_of% (@rr _ _ c79_18.eq_1) := rr c79_18.eq_1
def c79_19 : ACode := .seq c79_8 c79_18
theorem r79_19 : type_of% (@rr _ _ c79_19.eq_1) := rr c79_19.eq_1
def c79_20 : ACode := .seq c79_7 c79_19
theorem r79_20 : type_of% (@rr _ _ c79_20.eq_1) := rr c79_20.eq_1
def c79_21 : ACode := .keep [2, 3, 33, 34] [2, 3] c79_20
theorem r79_21 : type_of% (@rr _ _ c79_21.eq_1) := rr c79_21.eq_1
def c79_22 : ACode := .loop c79_21
theorem r79_22 : type_of% (@rr _ _ c79_22.eq_1) := rr c79_22.eq_1
def c79_23 : ACode := .block 0 c79_22
theorem r79_23 : type_of% (@rr _ _ c79_23.eq_1) := rr c79_23.eq_1
def c79_24 : ACode := .seq c79_6 c79_23
theorem r79_24 : type_of% (@rr _ _ c79_24.eq_1) := rr c79_24.eq_1
def c79_25 : ACode := .ops [⟨some 73, .fad (.t 3) 0, none, [3]⟩,
  ⟨some 74, .load 1 false (.t 73), none, [3]⟩] [2, 3, 74]
theorem r79_25 : type_of% (@rr _ _ c79_25.eq_1) := rr c79_25.eq_1
def c79_26 : ACode := .ops [⟨some 76, .bin .eql (.t 74) (.c (.int .i64 1)), none, []⟩,
  ⟨some 75, .mv (.t 76), none, []⟩] [2, 3, 74, 75]
theorem r79_26 : type_of% (@rr _ _ c79_26.eq_1) := rr c79_26.eq_1
def c79_27 : ACode := .ops [⟨some 77, .fad (.t 3) 12, none, [3]⟩,
  ⟨some 78, .load 1 false (.t 77), none, [3]⟩,
  ⟨some 79, .fad (.t 3) 13, none, [3]⟩,
  ⟨some 80, .load 1 false (.t 79), none, [3]⟩,
  ⟨some 81, .bin .leq (.t 78) (.t 80), none, []⟩,
  ⟨some 82, .mv (.t 81), none, []⟩,
  ⟨some 83, .fad (.t 3) 14, some (82, true), [3]⟩,
  ⟨some 84, .load 1 false (.t 83), some (82, true), [3]⟩,
  ⟨some 85, .bin .eql (.t 84) (.c (.int .i64 0)), some (82, true), []⟩,
  ⟨some 86, .pick (.t 82) (.t 85) (.c (.bool false)), none, []⟩,
  ⟨some 87, .mv (.t 86), none, []⟩,
  ⟨some 88, .fad (.t 3) 15, some (87, true), [3]⟩,
  ⟨some 89, .load 1 false (.t 88), some (87, true), [3]⟩,
  ⟨some 90, .un .not (.t 89), some (87, true), []⟩,
  ⟨some 91, .pick (.t 87) (.t 90) (.c (.bool false)), none, []⟩,
  ⟨some 4, .mv (.t 91), none, []⟩] [4]
theorem r79_27 : type_of% (@rr _ _ c79_27.eq_1) := rr c79_27.eq_1
def c79_28 : ACode := .seq c79_27 .ret
theorem r79_28 : type_of% (@rr _ _ c79_28.eq_1) := rr c79_28.eq_1
def c79_29 : ACode := .ops [⟨some 93, .bin .eql (.t 74) (.c (.int .i64 2)), none, []⟩,
  ⟨some 92, .mv (.t 93), none, []⟩] [2, 3, 74, 92]
theorem r79_29 : type_of% (@rr _ _ c79_29.eq_1) := rr c79_29.eq_1
def c79_30 : ACode := .ops [⟨some 94, .fad (.t 2) 1, none, [2]⟩,
  ⟨some 95, .load 1 false (.t 94), none, [2]⟩,
  ⟨some 96, .bin .geq (.t 95) (.c (.int .i64 2)), none, []⟩,
  ⟨some 97, .mv (.t 96), none, []⟩,
  ⟨some 98, .fad (.t 3) 12, some (97, true), [3]⟩,
  ⟨some 99, .load 1 false (.t 98), some (97, true), [3]⟩,
  ⟨some 100, .bin .eql (.t 99) (.c (.int .i64 0)), some (97, true), []⟩,
  ⟨some 101, .pick (.t 97) (.t 100) (.c (.bool false)), none, []⟩,
  ⟨some 102, .mv (.t 101), none, []⟩,
  ⟨some 103, .fad (.t 3) 13, some (102, true), [3]⟩,
  ⟨some 104, .load 1 false (.t 103), some (102, true), [3]⟩,
  ⟨some 105, .bin .eql (.t 104) (.c (.int .i64 0)), some (102, true), []⟩,
  ⟨some 106, .pick (.t 102) (.t 105) (.c (.bool false)), none, []⟩,
  ⟨some 107, .mv (.t 106), none, []⟩,
  ⟨some 108, .fad (.t 3) 14, some (107, true), [3]⟩,
  ⟨some 109, .load 1 false (.t 108), some (107, true), [3]⟩,
  ⟨some 110, .bin .eql (.t 109) (.c (.int .i64 0)), some (107, true), []⟩,
  ⟨some 111, .pick (.t 107) (.t 110) (.c (.bool false)), none, []⟩,
  ⟨some 112, .mv (.t 111), none, []⟩,
  ⟨some 113, .fad (.t 3) 15, some (112, true), [3]⟩,
  ⟨some 114, .load 1 false (.t 113), some (112, true), [3]⟩,
  ⟨some 115, .un .not (.t 114), some (112, true), []⟩,
  ⟨some 116, .pick (.t 112) (.t 115) (.c (.bool false)), none, []⟩,
  ⟨some 4, .mv (.t 116), none, []⟩] [4]
theorem r79_30 : type_of% (@rr _ _ c79_30.eq_1) := rr c79_30.eq_1
def c79_31 : ACode := .seq c79_30 .ret
theorem r79_31 : type_of% (@rr _ _ c79_31.eq_1) := rr c79_31.eq_1
def c79_32 : ACode := .ops [⟨some 118, .bin .eql (.t 74) (.c (.int .i64 3)), none, []⟩,
  ⟨some 117, .mv (.t 118), none, []⟩] [2, 3, 117]
theorem r79_32 : type_of% (@rr _ _ c79_32.eq_1) := rr c79_32.eq_1
def c79_33 : ACode := .ops [⟨some 119, .fad (.t 3) 14, none, [3]⟩,
  ⟨some 120, .load 1 false (.t 119), none, [3]⟩,
  ⟨some 121, .bin .geq (.t 120) (.c (.int .i64 0)), none, []⟩,
  ⟨some 122, .mv (.t 121), none, []⟩,
  ⟨some 123, .fad (.t 3) 14, some (122, true), [3]⟩,
  ⟨some 124, .load 1 false (.t 123), some (122, true), [3]⟩,
  ⟨some 125, .fad (.t 2) 0, some (122, true), [2]⟩,
  ⟨some 126, .load 1 false (.t 125), some (122, true), [2]⟩,
  ⟨some 127, .bin .lss (.t 124) (.t 126), some (122, true), []⟩,
  ⟨some 128, .pick (.t 122) (.t 127) (.c (.bool false)), none, []⟩,
  ⟨some 129, .mv (.t 128), none, []⟩,
  ⟨some 130, .fad (.t 3) 12, some (129, true), [3]⟩,
  ⟨some 131, .load 1 false (.t 130), some (129, true), [3]⟩,
  ⟨some 132, .bin .eql (.t 131) (.c (.int .i64 0)), some (129, true), []⟩,
  ⟨some 133, .pick (.t 129) (.t 132) (.c (.bool false)), none, []⟩,
  ⟨some 134, .mv (.t 133), none, []⟩,
  ⟨some 135, .fad (.t 3) 13, some (134, true), [3]⟩,
  ⟨some 136, .load 1 false (.t 135), some (134, true), [3]⟩,
  ⟨some 137, .bin .eql (.t 136) (.c (.int .i64 0)), some (134, true), []⟩,
  ⟨some 138, .pick (.t 134) (.t 137) (.c (.bool false)), none, []⟩,
  ⟨some 4, .mv (.t 138), none, []⟩] [4]
theorem r79_33 : type_of% (@rr _ _ c79_33.eq_1) := rr c79_33.eq_1
def c79_34 : ACode := .seq c79_33 .ret
theorem r79_34 : type_of% (@rr _ _ c79_34.eq_1) := rr c79_34.eq_1
def c79_35 : ACode := .cond (.t 117) c79_34 .skip
theorem r79_35 : type_of% (@rr _ _ c79_35.eq_1) := rr c79_35.eq_1
def c79_36 : ACode := .seq c79_32 c79_35
theorem r79_36 : type_of% (@rr _ _ c79_36.eq_1) := rr c79_36.eq_1
def c79_37 : ACode := .cond (.t 92) c79_31 c79_36
theorem r79_37 : type_of% (@rr _ _ c79_37.eq_1) := rr c79_37.eq_1
def c79_38 : ACode := .seq c79_29 c79_37
theorem r79_38 : type_of% (@rr _ _ c79_38.eq_1) := rr c79_38.eq_1
def c79_39 : ACode := .cond (.t 75) c79_28 c79_38
theorem r79_39 : type_of% (@rr _ _ c79_39.eq_1) := rr c79_39.eq_1
def c79_40 : ACode := .seq c79_26 c79_39
theorem r79_40 : type_of% (@rr _ _ c79_40.eq_1) := rr c79_40.eq_1
def c79_41 : ACode := .block 2 c79_40
theorem r79_41 : type_of% (@rr _ _ c79_41.eq_1) := rr c79_41.eq_1
def c79_42 : ACode := .seq c79_25 c79_41
theorem r79_42 : type_of% (@rr _ _ c79_42.eq_1) := rr c79_42.eq_1
def c79_43 : ACode := .ops [⟨some 4, .mv (.c (.bool false)), none, []⟩] [4]
theorem r79_43 : type_of% (@rr _ _ c79_43.eq_1) := rr c79_43.eq_1
def c79_44 : ACode := .seq c79_43 .ret
theorem r79_44 : type_of% (@rr _ _ c79_44.eq_1) := rr c79_44.eq_1
def c79_45 : ACode := .seq c79_42 c79_44
theorem r79_45 : type_of% (@rr _ _ c79_45.eq_1) := rr c79_45.eq_1
def c79_46 : ACode := .seq c79_24 c79_45
theorem r79_46 : type_of% (@rr _ _ c79_46.eq_1) := rr c79_46.eq_1
def c79_47 : ACode := .seq c79_5 c79_46
theorem r79_47 : type_of% (@rr _ _ c79_47.eq_1) := rr c79_47.eq_1
def c79_48 : ACode := .seq c79_0 c79_47
theorem r79_48 : type_of% (@rr _ _ c79_48.eq_1) := rr c79_48.eq_1
def a79 : AFun := ⟨2, 139, c79_48, [.t 4]⟩
attribute [simp] r79_0 r79_1 r79_2 r79_3 r79_4 r79_5 r79_6 r79_7 r79_8 r79_9 r79_10 r79_11 r79_12 r79_13 r79_14 r79_15 r79_16 r79_17 r79_18 r79_19 r79_20 r79_21 r79_22 r79_23 r79_24 r79_25 r79_26 r79_27 r79_28 r79_29 r79_30 r79_31 r79_32 r79_33 r79_34 r79_35 r79_36 r79_37 r79_38 r79_39 r79_40 r79_41 r79_42 r79_43 r79_44 r79_45 r79_46 r79_47 r79_48
theorem m79 : mFun Try.prog Try.f79 a79 = true := by decide +kernel
def c33_0 : ACode := .ops [⟨some 1, .box (.t 0) 17, none, []⟩,
  ⟨some 2, .alloc [.int .i64 0, .int .i64 0, .int .i64 0, .int .i64 0, .int .i64 0, .int .i64 0, .int .i64 0, .int .i64 0, .int .i64 0, .int .i64 0], none, []⟩] [1, 2]
theorem r33_0 : type_of% (@rr _ _ c33_0.eq_1) := rr c33_0.eq_1
def c33_1 : ACode := .ops [⟨some 4, .fad (.t 1) 2, none, [1]⟩,
  ⟨some 5, .load 10 true (.t 4), none, [1]⟩,
  ⟨some 3, .alloc [.int .i64 0, .int .i64 0, .int .i64 0, .int .i64 0, .int .i64 0, .int .i64 0, .int .i64 0, .int .i64 0, .int .i64 0, .int .i64 0], none, []⟩,
  ⟨none, .store (.t 3) 10 (.t 5), none, [3]⟩] [1, 2, 3]
theorem r33_1 : type_of% (@rr _ _ c33_1.eq_1) := rr c33_1.eq_1
def c33_2 : ACode := .ops [⟨some 6, .build [.int .i64 0, .int .i64 0] [], none, []⟩,
  ⟨some 7, .iad (.t 3) (.c (.int .i64 4)) 2 5, none, [3]⟩,
  ⟨none, .store (.t 7) 2 (.t 6), none, [3]⟩] [1, 2, 3]
theorem r33_2 : type_of% (@rr _ _ c33_2.eq_1) := rr c33_2.eq_1
def c33_3 : ACode := .ops [⟨some 8, .fad (.t 1) 0, none, [1]⟩,
  ⟨some 9, .load 1 false (.t 8), none, [1]⟩,
  ⟨some 10, .bin .eql (.t 9) (.c (.int .i64 3)), none, []⟩,
  ⟨some 11, .mv (.t 10), none, []⟩,
  ⟨some 12, .fad (.t 1) 14, some (11, true), [1]⟩,
  ⟨some 13, .load 1 false (.t 12), some (11, true), [1]⟩,
  ⟨some 14, .bin .geq (.t 13) (.c (.int .i64 0)), some (11, true), []⟩,
  ⟨some 15, .pick (.t 11) (.t 14) (.c (.bool false)), none, []⟩,
  ⟨some 16, .mv (.t 15), none, []⟩,
  ⟨some 17, .fad (.t 1) 14, some (16, true), [1]⟩,
  ⟨some 18, .load 1 false (.t 17), some (16, true), [1]⟩,
  ⟨some 19, .bin .lss (.t 18) (.c (.int .i64 4)), some (16, true), []⟩,
  ⟨some 20, .pick (.t 16) (.t 19) (.c (.bool false)), none, []⟩] [1, 2, 3, 20]
theorem r33_3 : type_of% (@rr _ _ c33_3.eq_1) := rr c33_3.eq_1
def c33_4 : ACode := .ops [⟨some 21, .fad (.t 1) 14, none, [1]⟩,
  ⟨some 22, .load 1 false (.t 21), none, [1]⟩,
  ⟨some 23, .fad (.t 1) 2, none, [1]⟩,
  ⟨some 24, .iad (.t 23) (.t 22) 2 5, none, [1]⟩,
  ⟨some 25, .load 2 true (.t 24), none, [1]⟩,
  ⟨some 26, .iad (.t 3) (.c (.int .i64 4)) 2 5, none, [3]⟩,
  ⟨none, .store (.t 26) 2 (.t 25), none, [3]⟩] [2, 3]
theorem r33_4 : type_of% (@rr _ _ c33_4.eq_1) := rr c33_4.eq_1
def c33_5 : ACode := .cond (.t 20) c33_4 .skip
theorem r33_5 : type_of% (@rr _ _ c33_5.eq_1) := rr c33_5.eq_1
def c33_6 : ACode := .seq c33_3 c33_5
theorem r33_6 : type_of% (@rr _ _ c33_6.eq_1) := rr c33_6.eq_1
def c33_7 : ACode := .ops [⟨some 27, .load 10 true (.t 3), none, [3]⟩,
  ⟨none, .store (.t 2) 10 (.t 27), none, [2]⟩] [2]
theorem r33_7 : type_of% (@rr _ _ c33_7.eq_1) := rr c33_7.eq_1
def c33_8 : ACode := .seq c33_7 .ret
theorem r33_8 : type_of% (@rr _ _ c33_8.eq_1) := rr c33_8.eq_1
def c33_9 : ACode := .seq c33_6 c33_8
theorem r33_9 : type_of% (@rr _ _ c33_9.eq_1) := rr c33_9.eq_1
def c33_10 : ACode := .seq c33_2 c33_9
theorem r33_10 : type_of% (@rr _ _ c33_10.eq_1) := rr c33_10.eq_1
def c33_11 : ACode := .seq c33_1 c33_10
theorem r33_11 : type_of% (@rr _ _ c33_11.eq_1) := rr c33_11.eq_1
def c33_12 : ACode := .seq c33_0 c33_11
theorem r33_12 : type_of% (@rr _ _ c33_12.eq_1) := rr c33_12.eq_1
def a33 : AFun := ⟨1, 28, c33_12, [.cell 2 10 true]⟩
attribute [simp] r33_0 r33_1 r33_2 r33_3 r33_4 r33_5 r33_6 r33_7 r33_8 r33_9 r33_10 r33_11 r33_12
theorem m33 : mFun Try.prog Try.f33 a33 = true := by decide +kernel
def c37_0 : ACode := .ops [⟨some 4, .box (.t 0) 6, none, []⟩,
  ⟨some 5, .box (.t 1) 17, none, []⟩,
  ⟨some 6, .box (.t 2) 4, none, []⟩,
  ⟨some 8, .mv (.c (.bool false)), none, []⟩] [3, 4, 5, 6]
theorem r37_0 : type_of% (@rr _ _ c37_0.eq_1) := rr c37_0.eq_1
def c37_1 : ACode := .ops [⟨some 12, .load 6 true (.t 4), none, [4]⟩,
  ⟨some 13, .load 17 true (.t 5), none, [5]⟩,
  ⟨some 14, .call 79 [.t 12, .t 13], none, []⟩,
  ⟨some 15, .un .not (.t 14), none, []⟩] [3, 4, 5, 6, 15]
theorem r37_1 : type_of% (@rr _ _ c37_1.eq_1) := rr c37_1.eq_1
def c37_2 : ACode := .ops [⟨some 8, .mv (.c (.bool false)), none, []⟩] [8]
theorem r37_2 : type_of% (@rr _ _ c37_2.eq_1) := rr c37_2.eq_1
def c37_3 : ACode := .seq c37_2 .ret
theorem r37_3 : type_of% (@rr _ _ c37_3.eq_1) := rr c37_3.eq_1
def c37_4 : ACode := .cond (.t 15) c37_3 .skip
theorem r37_4 : type_of% (@rr _ _ c37_4.eq_1) := rr c37_4.eq_1
def c37_5 : ACode := .seq c37_1 c37_4
theorem r37_5 : type_of% (@rr _ _ c37_5.eq_1) := rr c37_5.eq_1
def c37_6 : ACode := .ops [⟨some 16, .load 6 true (.t 4), none, [4]⟩,
  ⟨some 17, .fad (.t 5) 1, none, [5]⟩,
  ⟨some 18, .load 1 false (.t 17), none, [5]⟩,
  ⟨some 19, .load 4 true (.t 6), none, [6]⟩,
  ⟨some 20, .call 84 [.t 16, .t 18, .t 19], none, []⟩,
  ⟨some 9, .mv (.t 20), none, []⟩] [3, 4, 5, 6, 9]
theorem r37_6 : type_of% (@rr _ _ c37_6.eq_1) := rr c37_6.eq_1
def c37_7 : ACode := .ops [⟨some 21, .fad (.t 5) 0, none, [5]⟩,
  ⟨some 22, .load 1 false (.t 21), none, [5]⟩] [3, 4, 5, 6, 9, 22]
theorem r37_7 : type_of% (@rr _ _ c37_7.eq_1) := rr c37_7.eq_1
def c37_8 : ACode := .ops [⟨some 24, .bin .eql (.t 22) (.c (.int .i64 1)), none, []⟩,
  ⟨some 23, .mv (.t 24), none, []⟩] [3, 4, 5, 6, 9, 22, 23]
theorem r37_8 : type_of% (@rr _ _ c37_8.eq_1) := rr c37_8.eq_1
def c37_9 : ACode := .ops [⟨some 25, .mv (.t 9), none, []⟩,
  ⟨some 26, .fad (.t 5) 12, none, [5]⟩,
  ⟨some 27, .load 1 false (.t 26), none, [5]⟩,
  ⟨some 28, .bin .lss (.t 25) (.t 27), none, []⟩,
  ⟨some 29, .mv (.t 28), none, []⟩,
  ⟨some 30, .mv (.t 9), some (29, false), []⟩,
  ⟨some 31, .fad (.t 5) 13, some (29, false), [5]⟩,
  ⟨some 32, .load 1 false (.t 31), some (29, false), [5]⟩,
  ⟨some 33, .bin .gtr (.t 30) (.t 32), some (29, false), []⟩,
  ⟨some 34, .pick (.t 29) (.c (.bool true)) (.t 33), none, []⟩,
  ⟨some 8, .mv (.t 34), none, []⟩] [8]
theorem r37_9 : type_of% (@rr _ _ c37_9.eq_1) := rr c37_9.eq_1
def c37_10 : ACode := .seq c37_9 .ret
theorem r37_10 : type_of% (@rr _ _ c37_10.eq_1) := rr c37_10.eq_1
def c37_11 : ACode := .ops [⟨some 36, .bin .eql (.t 22) (.c (.int .i64 2)), none, []⟩,
  ⟨some 35, .mv (.t 36), none, []⟩] [3, 4, 5, 6, 9, 35]
theorem r37_11 : type_of% (@rr _ _ c37_11.eq_1) := rr c37_11.eq_1
def c37_12 : ACode := .ops [⟨some 37, .fad (.t 4) 1, none, [4]⟩,
  ⟨some 38, .load 1 false (.t 37), none, [4]⟩,
  ⟨some 39, .mv (.c (.int .i64 0)), none, []⟩] [4, 5, 6, 9, 38, 39]
theorem r37_12 : type_of% (@rr _ _ c37_12.eq_1) := rr c37_12.eq_1
def c37_13 : ACode := .ops [⟨some 40, .bin .lss (.t 39) (.t 38), none, []⟩] [4, 5, 6, 9, 38, 39, 40]
theorem r37_13 : type_of% (@rr _ _ c37_13.eq_1) := rr c37_13.eq_1
def c37_14 : ACode := .cond (.t 40) .skip (.exit 1)
theorem r37_14 : type_of% (@rr _ _ c37_14.eq_1) := rr c37_14.eq_1
def c37_15 : ACode := .ops [⟨some 41, .mv (.t 39), none, []⟩,
  ⟨some 10, .mv (.t 41), none, []⟩] [4, 5, 6, 9, 10, 38, 39]
theorem r37_15 : type_of% (@rr _ _ c37_15.eq_1) := rr c37_15.eq_1
def c37_16 : ACode := .ops [⟨some 42, .mv (.t 10), none, []⟩,
  ⟨some 43, .fad (.t 5) 1, none, [5]⟩,
  ⟨some 44, .load 1 false (.t 43), none, [5]⟩,
  ⟨some 45, .bin .neq (.t 42) (.t 44), none, []⟩,
  ⟨some 46, .mv (.t 45), none, []⟩,
  ⟨some 47, .load 6 true (.t 4), some (46, true), [4]⟩,
  ⟨some 48, .mv (.t 10), some (46, true), []⟩,
  ⟨some 49, .load 4 true (.t 6), some (46, true), [6]⟩,
  ⟨some 50, .call 84 [.t 47, .t 48, .t 49], some (46, true), []⟩,
  ⟨some 51, .mv (.t 9), some (46, true), []⟩,
  ⟨some 52, .bin .geq (.t 50) (.t 51), some (46, true), []⟩,
  ⟨some 53, .pick (.t 46) (.t 52) (.c (.bool false)), none, []⟩] [4, 5, 6, 9, 38, 39, 53]
theorem r37_16 : type_of% (@rr _ _ c37_16.eq_1) := rr c37_16.eq_1
def c37_17 : ACode := .ops [⟨some 8, .mv (.c (.bool true)), none, []⟩] [8]
theorem r37_17 : type_of% (@rr _ _ c37_17.eq_1) := rr c37_17.eq_1
def c37_18 : ACode := .seq c37_17 .ret
theorem r37_18 : type_of% (@rr _ _ c37_18.eq_1) := rr c37_18.eq_1
def c37_19 : ACode := .cond (.t 53) c37_18 .skip
theorem r37_19 : type_of% (@rr _ _ c37_19.eq_1) := rr c37_19.eq_1
def c37_20 : ACode := .seq c37_16 c37_19
theorem r37_20 : type_of% (@rr _ _ c37_20.eq_1) := rr c37_20.eq_1
def c37_21 : ACode := .seq c37_15 c37_20
theorem r37_21 : type_of% (@rr _ _ c37_21.eq_1) := rr c37_21.eq_1
def c37_22 : ACode := .block 2 c37_21
theorem r37_22 : type_of% (@rr _ _ c37_22.eq_1) := rr c37_22.eq_1
def c37_23 : ACode := .ops [⟨some 54, .bin .add (.t 39) (.c (.int .i64 1)), none, []⟩,
  ⟨some 39, .mv (.t 54), none, []⟩] [4, 5, 6, 9, 38, 39]
theorem r37_23 : type_of% (@rr _ _ c37_23.eq_1) := rr c37_23.eq_1
def c37_24 : ACode := .seq c37_22 c37_23
theorem r37_24 : type_of% (@rr _ _ c37_24.eq_1) := rr c37_24.eq_1
def c37_25 : ACode := .seq c37_14 c37_24
theorem r37_25 : type_of% (@rr _ _ c37_25.eq_1) := rr c37_25.eq_1
def c37_26 : ACode := .seq c37_13 c37_25
theorem r37_26 : type_of% (@rr _ _ c37_26.eq_1) := rr c37_26.eq_1
def c37_27 : ACode := .keep [4, 5, 6, 9, 38, 39] [4, 5, 6] c37_26
theorem r37_27 : type_of% (@rr _ _ c37_27.eq_1) := rr c37_27.eq_1
def c37_28 : ACode := .loop c37_27
theorem r37_28 : type_of% (@rr _ _ c37_28.eq_1) := rr c37_28.eq_1
def c37_29 : ACode := .block 1 c37_28
theorem r37_29 : type_of% (@rr _ _ c37_29.eq_1) := rr c37_29.eq_1
def c37_30 : ACode := .seq c37_12 c37_29
theorem r37_30 : type_of% (@rr _ _ c37_30.eq_1) := rr c37_30.eq_1
def c37_31 : ACode := .ops [⟨some 8, .mv (.c (.bool false)), none, []⟩] [8]
theorem r37_31 : type_of% (@rr _ _ c37_31.eq_1) := rr c37_31.eq_1
def c37_32 : ACode := .seq c37_31 .ret
theorem r37_32 : type_of% (@rr _ _ c37_32.eq_1) := rr c37_32.eq_1
def c37_33 : ACode := .seq c37_30 c37_32
theorem r37_33 : type_of% (@rr _ _ c37_33.eq_1) := rr c37_33.eq_1
def c37_34 : ACode := .cond (.t 35) c37_33 .skip
theorem r37_34 : type_of% (@rr _ _ c37_34.eq_1) := rr c37_34.eq_1
def c37_35 : ACode := .seq c37_11 c37_34
theorem r37_35 : type_of% (@rr _ _ c37_35.eq_1) := rr c37_35.eq_1
def c37_36 : ACode := .cond (.t 23) c37_10 c37_35
theorem r37_36 : type_of% (@rr _ _ c37_36.eq_1) := rr c37_36.eq_1
def c37_37 : ACode := .seq c37_8 c37_36
theorem r37_37 : type_of% (@rr _ _ c37_37.eq_1) := rr c37_37.eq_1
def c37_38 : ACode := .block 0 c37_37
theorem r37_38 : type_of% (@rr _ _ c37_38.eq_1) := rr c37_38.eq_1
def c37_39 : ACode := .seq c37_7 c37_38
theorem r37_39 : type_of% (@rr _ _ c37_39.eq_1) := rr c37_39.eq_1
def c37_40 : ACode := .ops [⟨some 55, .fad (.t 5) 14, none, [5]⟩,
  ⟨some 56, .load 1 false (.t 55), none, [5]⟩,
  ⟨some 57, .iad (.t 6) (.t 56) 1 4, none, [6]⟩,
  ⟨some 58, .load 1 false (.t 57), none, [6]⟩,
  ⟨some 59, .mv (.t 3), none, []⟩,
  ⟨some 60, .bin .geq (.t 58) (.t 59), none, []⟩] [3, 4, 5, 6, 9, 60]
theorem r37_40 : type_of% (@rr _ _ c37_40.eq_1) := rr c37_40.eq_1
def c37_41 : ACode := .ops [⟨some 8, .mv (.c (.bool false)), none, []⟩] [8]
theorem r37_41 : type_of% (@rr _ _ c37_41.eq_1) := rr c37_41.eq_1
def c37_42 : ACode := .seq c37_41 .ret
theorem r37_42 : type_of% (@rr _ _ c37_42.eq_1) := rr c37_42.eq_1
def c37_43 : ACode := .cond (.t 60) c37_42 .skip
theorem r37_43 : type_of% (@rr _ _ c37_43.eq_1) := rr c37_43.eq_1
def c37_44 : ACode := .seq c37_40 c37_43
theorem r37_44 : type_of% (@rr _ _ c37_44.eq_1) := rr c37_44.eq_1
def c37_45 : ACode := .ops [⟨some 61, .fad (.t 5) 14, none, [5]⟩,
  ⟨some 62, .load 1 false (.t 61), none, [5]⟩,
  ⟨some 63, .mv (.t 3), none, []⟩,
  ⟨some 64, .iad (.t 6) (.t 62) 1 4, none, [6]⟩,
  ⟨none, .store (.t 64) 1 (.t 63), none, [6]⟩] [4, 5, 6, 9]
theorem r37_45 : type_of% (@rr _ _ c37_45.eq_1) := rr c37_45.eq_1
def c37_46 : ACode := .ops [⟨some 65, .load 6 true (.t 4), none, [4]⟩,
  ⟨some 66, .fad (.t 5) 1, none, [5]⟩,
  ⟨some 67, .load 1 false (.t 66), none, [5]⟩,
  ⟨some 68, .load 4 true (.t 6), none, [6]⟩,
  ⟨some 69, .call 84 [.t 65, .t 67, .t 68], none, []⟩,
  ⟨some 11, .mv (.t 69), none, []⟩] [5, 9, 11]
theorem r37_46 : type_of% (@rr _ _ c37_46.eq_1) := rr c37_46.eq_1
def c37_47 : ACode := .ops [⟨some 70, .fad (.t 5) 15, none, [5]⟩,
  ⟨some 71, .load 1 false (.t 70), none, [5]⟩,
  ⟨some 72, .mv (.t 71), none, []⟩,
  ⟨some 73, .mv (.t 9), some (72, true), []⟩,
  ⟨some 74, .mv (.t 11), some (72, true), []⟩,
  ⟨some 75, .bin .lss (.t 73) (.t 74), some (72, true), []⟩,
  ⟨some 76, .pick (.t 72) (.t 75) (.c (.bool false)), none, []⟩,
  ⟨some 77, .mv (.t 76), none, []⟩,
  ⟨some 78, .fad (.t 5) 15, some (77, false), [5]⟩,
  ⟨some 79, .load 1 false (.t 78), some (77, false), [5]⟩,
  ⟨some 80, .un .not (.t 79), some (77, false), []⟩,
  ⟨some 81, .mv (.t 80), some (77, false), []⟩,
  ⟨some 82, .mv (.t 9), some (81, true), []⟩,
  ⟨some 83, .mv (.t 11), some (81, true), []⟩,
  ⟨some 84, .bin .gtr (.t 82) (.t 83), some (81, true), []⟩,
  ⟨some 85, .pick (.t 81) (.t 84) (.c (.bool false)), some (77, false), []⟩,
  ⟨some 86, .pick (.t 77) (.c (.bool true)) (.t 85), none, []⟩,
  ⟨some 8, .mv (.t 86), none, []⟩] [8]
theorem r37_47 : type_of% (@rr _ _ c37_47.eq_1) := rr c37_47.eq_1
def c37_48 : ACode := .seq c37_47 .ret
theorem r37_48 : type_of% (@rr _ _ c37_48.eq_1) := rr c37_48.eq_1
def c37_49 : ACode := .seq c37_46 c37_48
theorem r37_49 : type_of% (@rr _ _ c37_49.eq_1) := rr c37_49.eq_1
def c37_50 : ACode := .seq c37_45 c37_49
theorem r37_50 : type_of% (@rr _ _ c37_50.eq_1) := rr c37_50.eq_1
def c37_51 : ACode := .seq c37_44 c37_50
theorem r37_51 : type_of% (@rr _ _ c37_51.eq_1) := rr c37_51.eq_1
def c37_52 : ACode := .seq c37_39 c37_51
theorem r37_52 : type_of% (@rr _ _ c37_52.eq_1) := rr c37_52.eq_1
def c37_53 : ACode := .seq c37_6 c37_52
theorem r37_53 : type_of% (@rr _ _ c37_53.eq_1) := rr c37_53.eq_1
def c37_54 : ACode := .seq c37_5 c37_53
theorem r37_54 : type_of% (@rr _ _ c37_54.eq_1) := rr c37_54.eq_1
def c37_55 : ACode := .seq c37_0 c37_54
theorem r37_55 : type_of% (@rr _ _ c37_55.eq_1) := rr c37_55.eq_1
def a37 : AFun := ⟨4, 87, c37_55, [.t 8]⟩
attribute [simp] r37_0 r37_1 r37_2 r37_3 r37_4 r37_5 r37_6 r37_7 r37_8 r37_9 r37_10 r37_11 r37_12 r37_13 r37_14 r37_15 r37_16 r37_17 r37_18 r37_19 r37_20 r37_21 r37_22 r37_23 r37_24 r37_25 r37_26 r37_27 r37_28 r37_29 r37_30 r37_31 r37_32 r37_33 r37_34 r37_35 r37_36 r37_37 r37_38 r37_39 r37_40 r37_41 r37_42 r37_43 r37_44 r37_45 r37_46 r37_47 r37_48 r37_49 r37_50 r37_51 r37_52 r37_53 r37_54 r37_55
theorem m37 : mFun Try.prog Try.f37 a37 = true := by decide +kernel
theorem rRight_rest {C : Cs} (m : Model) (q : Query) (g : Nat → Nat) (h : Hp) (x y z : AV) : run C c79_45 [] ⟨[(2, .ptr 2 (g 2) 0), (3, .ptr 3 (g 3) 0), (33, x), (34, y), (35, z)], (2, ⟨Row.enc m, false, 0⟩) :: (3, ⟨Row.enc q, false, 0⟩) :: h, g⟩ (fin [.t 4] (.bool (okKind m q))) := by
  by_cases k1 : q.kind = 1
  case pos =>
    by_cases a0 : q.lo ≤ q.hi
    case neg => simp -implicitDefEqProofs [okKind, k1, a0]
    by_cases a1 : q.feature = 0
    case neg => simp -implicitDefEqProofs [okKind, k1, a0, a1]
    cases q.falls <;> simp -implicitDefEqProofs [okKind, k1, a0, a1]
  by_cases k2 : q.kind = 2
  case pos =>
    by_cases a0 : 2 ≤ m.classes
    case neg => simp -implicitDefEqProofs [okKind, k1, k2, a0]
    by_cases a1 : q.lo = 0
    case neg => simp -implicitDefEqProofs [okKind, k1, k2, a0, a1]
    by_cases a2 : q.hi = 0
    case neg => simp -implicitDefEqProofs [okKind, k1, k2, a0, a1, a2]
    by_cases a3 : q.feature = 0
    case neg => simp -implicitDefEqProofs [okKind, k1, k2, a0, a1, a2, a3]
    cases q.falls <;> simp -implicitDefEqProofs [okKind, k1, k2, a0, a1, a2, a3]
  by_cases k3 : q.kind = 3
  case pos =>
    by_cases a0 : 0 ≤ q.feature
    case neg => simp -implicitDefEqProofs [okKind, k1, k2, k3, a0]
    by_cases a1 : q.feature < m.dim
    case neg => simp -implicitDefEqProofs [okKind, k1, k2, k3, a0, a1]
    by_cases a2 : q.lo = 0
    case neg => simp -implicitDefEqProofs [okKind, k1, k2, k3, a0, a1, a2]
    simp -implicitDefEqProofs [okKind, k1, k2, k3, a0, a1, a2]
  simp -implicitDefEqProofs [okKind, k1, k2, k3]
theorem okRegion_get (b : Box) (dim : Int) : okRegion b dim = true ↔ ∀ j : Nat, j < 5 → okSpan dim j (b.get j) = true := by
  unfold okRegion
  simp only [Bool.and_eq_true]
  constructor
  · rintro ⟨⟨⟨⟨h0, h1⟩, h2⟩, h3⟩, h4⟩ j hj
    have : j = 0 ∨ j = 1 ∨ j = 2 ∨ j = 3 ∨ j = 4 := by omega
    rcases this with rfl | rfl | rfl | rfl | rfl
    · exact h0
    · exact h1
    · exact h2
    · exact h3
    · exact h4
  · intro h
    exact ⟨⟨⟨⟨h 0 (by omega), h 1 (by omega)⟩, h 2 (by omega)⟩, h 3 (by omega)⟩, h 4 (by omega)⟩
@[simp high] theorem rd_spanN (b : Box) (k : Nat) (h : k < 5) : rd [.int .i64 b.s0.lo, .int .i64 b.s0.hi, .int .i64 b.s1.lo, .int .i64 b.s1.hi, .int .i64 b.s2.lo, .int .i64 b.s2.hi, .int .i64 b.s3.lo, .int .i64 b.s3.hi, .int .i64 b.s4.lo, .int .i64 b.s4.hi] (k * 2) 2 true = some (.agg [.int .i64 (b.get k).lo, .int .i64 (b.get k).hi]) := by
  have hf : k = 0 ∨ k = 1 ∨ k = 2 ∨ k = 3 ∨ k = 4 := by omega
  rcases hf with rfl | rfl | rfl | rfl | rfl <;> rfl
set_option maxHeartbeats 4000000 in
theorem rRight_loop (m : Model) (q : Query) (hd : 1 ≤ m.dim ∧ m.dim ≤ 4) (g : Nat → Nat) (h : Hp) (hh : keepH h [2, 3] = [(2, ⟨Row.enc m, false, 0⟩), (3, ⟨Row.enc q, false, 0⟩)]) :
    run (tbl [(86, sp1 RModel), (126, sp2 Fits)]) (.loop c79_21) [Fr.blk 0, Fr.c c79_45] ⟨[(2, .ptr 2 (g 2) 0), (3, .ptr 3 (g 3) 0), (33, .agg (Row.enc q.region)), (34, .int .i64 0)], h, g⟩ (fin [.t 4] (.bool (okRegion q.region m.dim && okKind m q))) := by
  refine run_while (c := c79_20) (fun n s => ∃ (i : Nat) (g : Nat → Nat), i + n = 5 ∧ (∀ j : Nat, j < i → okSpan m.dim j (q.region.get j) = true) ∧ s = ⟨[(2, .ptr 2 (g 2) 0), (3, .ptr 3 (g 3) 0), (33, .agg (Row.enc q.region)), (34, .int .i64 i)], [(2, ⟨Row.enc m, false, 0⟩), (3, ⟨Row.enc q, false, 0⟩)], g⟩) 5 ⟨0, g, by omega, fun j hj => by omega, by simp only [hh]; rfl⟩ ?_
  rintro n s ⟨i, g, hi, hok, rfl⟩
  by_cases h1 : i < 5
  case neg =>
    have h1i : ¬ (i : Int) < 5 := by omega
    have hall : okRegion q.region m.dim = true := (okRegion_get _ _).2 fun j hj => hok j (by omega)
    rw [hall, Bool.true_and]
    simp -implicitDefEqProofs [h1i, -r79_45]
    exact rRight_rest m q g [] _ _ _
  have h1i : (i : Int) < 5 := by omega
  have w1 : IntKind.i64.wrap ((i : Int) + 1) = (i : Int) + 1 := wrap64 (by omega) (by omega)
  have hbad : okSpan m.dim i (q.region.get i) = false → (okRegion q.region m.dim && okKind m q) = false := by
    intro hb
    have : okRegion q.region m.dim = false := by
      cases hr : okRegion q.region m.dim
      · rfl
      · rw [(okRegion_get _ _).1 hr i h1] at hb; cases hb
    rw [this]
    rfl
  have hgood : okSpan m.dim i (q.region.get i) = true → ∀ j : Nat, j < i + 1 → okSpan m.dim j (q.region.get j) = true := by
    intro hb j hj
    by_cases e : j = i
    · subst e; exact hb
    · exact hok j (by omega)
  unfold okSpan Span.empty at hbad hgood
  generalize hsp : q.region.get i = sp at *
  have hrd : q.region.get (i : Int) = sp := hsp
  by_cases a1 : (i : Int) < m.dim
  · have a2 : ¬ m.dim ≤ i := by omega
    by_cases e1 : sp.hi < sp.lo
    case pos =>
      rw [hbad (by simp [e1])]
      simp -implicitDefEqProofs [h1, h1i, hrd, a1, a2, e1, Fits]
    cases e2 : fits sp.lo
    case false =>
      rw [hbad (by simp [e2])]
      simp -implicitDefEqProofs [h1, h1i, hrd, a1, a2, e1, e2, Fits]
    cases e3 : fits sp.hi
    case false =>
      rw [hbad (by simp [e3])]
      simp -implicitDefEqProofs [h1, h1i, hrd, a1, a2, e1, e2, e3, Fits]
    have hg := hgood (by simp [a1, e1, e2, e3])
    simp -implicitDefEqProofs [h1, h1i, hrd, a1, a2, e1, e2, e3, Fits, w1]
    exact ⟨n - 1, by omega, i + 1, by omega, hg, by omega⟩
  · have a2 : m.dim ≤ i := by omega
    by_cases e1 : sp.lo = 0
    case neg =>
      rw [hbad (by have : sp ≠ ⟨0, 0⟩ := fun e => e1 (by rw [e]); simp [a1, this])]
      simp -implicitDefEqProofs [h1, h1i, hrd, a1, a2, e1, Fits]
    by_cases e2 : sp.hi = 0
    case neg =>
      rw [hbad (by have : sp ≠ ⟨0, 0⟩ := fun e => e2 (by rw [e]); simp [a1, this])]
      simp -implicitDefEqProofs [h1, h1i, hrd, a1, a2, e1, e2, Fits]
    have hz : sp = ⟨0, 0⟩ := by obtain ⟨x, y⟩ := sp; simp only at e1 e2; rw [e1, e2]
    have fz : fits 0 = true := rfl
    have hg := hgood (by rw [hz]; simp [fz])
    simp -implicitDefEqProofs [h1, h1i, hrd, a1, a2, e1, e2, Fits, w1]
    exact ⟨n - 1, by omega, i + 1, by omega, hg, by omega⟩
set_option maxHeartbeats 4000000 in
theorem runs_rRight (m : Model) (q : Query) (c : Bool) (h : Part (RM m) (okQuery m q) = some c) : Runs (tbl [(86, sp1 RModel), (126, sp2 Fits)]) a79 [Arg.enc m, Arg.enc q] (Arg.enc c) := by
  obtain ⟨hr, rfl⟩ := part_some h
  clear h
  refine ⟨rfl, fun g => run_def ?_⟩
  unfold a79
  have hM : RModel m = some true := part_of hr _
  have hd := hr.dim
  by_cases a0 : q.cls < 0
  case pos =>
    have : ¬ 0 ≤ q.cls := by omega
    simp -implicitDefEqProofs [hM, a0, okQuery, this]
  have a0' : 0 ≤ q.cls := by omega
  by_cases a1 : m.classes ≤ q.cls
  case pos =>
    have : ¬ q.cls < m.classes := by omega
    simp -implicitDefEqProofs [hM, a0, a1, okQuery, this]
  have a1' : q.cls < m.classes := by omega
  by_cases a2 : q.budget < 0
  case pos =>
    have : ¬ 0 ≤ q.budget := by omega
    simp -implicitDefEqProofs [hM, a0, a1, a2, okQuery, this]
  have a2' : 0 ≤ q.budget := by omega
  by_cases a3 : 65536 < q.budget
  case pos =>
    have : ¬ q.budget ≤ 65536 := by omega
    simp -implicitDefEqProofs [hM, a0, a1, a2, a3, okQuery, this]
  have a3' : q.budget ≤ 65536 := by omega
  have hres : okQuery m q = (okRegion q.region m.dim && okKind m q) := by simp [okQuery, a0', a1', a2', a3']
  rw [hres]
  simp -implicitDefEqProofs [hM, a0, a1, a2, a3, -r79_22]
  exact rRight_loop m q hd (bump 3 (bump 2 g)) _ (by simp)
noncomputable def RQRight (m : Model) (q : Query) : Option Bool := Part (RM m) (okQuery m q)
theorem c_rRight' : Contract Try.prog 79 (sp2 RQRight) :=
  contract_of_runs mixed (tbl_cons c_rModel (tbl_cons c_rFits tbl_nil)) Try.func79 m79 (sp2_runs runs_rRight)
theorem runs_rStart (q : Query) (c : Box) (h : some (startOf q) = some c) : Runs (tbl []) a33 [Arg.enc q] (Arg.enc c) := by
  cases h
  refine ⟨rfl, fun g => run_def ?_⟩
  unfold a33
  obtain ⟨kind, cls, region, lo, hi, feature, falls, budget⟩ := q
  by_cases k1 : kind = 3
  case neg => simp -implicitDefEqProofs [startOf, paired, k1]
  by_cases k2 : 0 ≤ feature
  case neg => simp -implicitDefEqProofs [startOf, paired, k1, k2]
  by_cases k3 : feature < 4
  case neg => simp -implicitDefEqProofs [startOf, paired, k1, k2, k3]
  have hf : feature = 0 ∨ feature = 1 ∨ feature = 2 ∨ feature = 3 := by omega
  rcases hf with rfl | rfl | rfl | rfl <;> simp -implicitDefEqProofs [startOf, paired, k1, Box.get]
theorem c_rStart : Contract Try.prog 33 (sp1 fun q => some (startOf q)) :=
  contract_of_runs mixed tbl_nil Try.func33 m33 (sp1_runs runs_rStart)
end Go.Co
/- CO: the document's own answers: leaves and bounds. -/
namespace Go.Co
open Go.Am Go.Proofs
set_option linter.unusedSimpArgs false
set_option linter.unusedVariables false
def c131_0 : ACode := .ops [⟨some 3, .box (.t 1) 10, none, []⟩,
  ⟨some 4, .mv (.c (.nils)), none, []⟩] [0, 3]
def c131_1 : ACode := .ops [⟨some 12, .mv (.t 0), none, []⟩,
  ⟨some 13, .call 130 [.t 12, .c (.int .i64 4)], none, []⟩,
  ⟨some 14, .un .not (.t 13), none, []⟩] [0, 3, 14]
def c131_2 : ACode := .ops [⟨some 4, .mv (.c (.nils)), none, []⟩] [4]
def c131_3 : ACode := .seq c131_2 .ret
def c131_4 : ACode := .cond (.t 14) c131_3 .skip
def c131_5 : ACode := .seq c131_1 c131_4
def c131_6 : ACode := .ops [⟨some 15, .mv (.t 0), none, []⟩,
  ⟨some 16, .len (.t 15), none, []⟩,
  ⟨some 17, .mks 5 (.t 16) 10 [.int .i64 0, .int .i64 0, .int .i64 0, .int .i64 0, .int .i64 0, .int .i64 0, .int .i64 0, .int .i64 0, .int .i64 0, .int .i64 0], none, []⟩,
  ⟨some 5, .mv (.t 17), none, []⟩] [0, 3, 5]
def c131_7 : ACode := .ops [⟨some 18, .mv (.t 5), none, []⟩,
  ⟨some 19, .load 10 true (.t 3), none, [3]⟩,
  ⟨some 20, .ias (.t 18) (.c (.int .i64 0)) 10, none, [5]⟩,
  ⟨none, .store (.t 20) 10 (.t 19), none, [5]⟩] [0, 5]
def c131_8 : ACode := .ops [⟨some 6, .nil0 6 11, none, []⟩] [0, 5, 6]
def c131_9 : ACode := .ops [⟨some 21, .mv (.t 0), none, []⟩,
  ⟨some 22, .len (.t 21), none, []⟩,
  ⟨some 23, .mv (.c (.int .i64 0)), none, []⟩] [5, 6, 21, 22, 23]
def c131_10 : ACode := .ops [⟨some 24, .bin .lss (.t 23) (.t 22), none, []⟩] [5, 6, 21, 22, 23, 24]
def c131_11 : ACode := .cond (.t 24) .skip (.exit 0)
def c131_12 : ACode := .ops [⟨some 25, .mv (.t 23), none, []⟩,
  ⟨some 26, .ias (.t 21) (.t 23) 1, none, []⟩,
  ⟨some 27, .load 1 false (.t 26), none, []⟩,
  ⟨some 7, .mv (.t 25), none, []⟩,
  ⟨some 8, .mv (.t 27), none, []⟩] [5, 6, 7, 8, 21, 22, 23]
def c131_13 : ACode := .ops [⟨some 29, .mv (.t 8), none, []⟩,
  ⟨some 30, .call 104 [.t 29], none, []⟩,
  ⟨some 28, .mv (.t 30), none, []⟩,
  ⟨some 31, .ext (.t 28) 0, none, []⟩,
  ⟨some 32, .ext (.t 28) 1, none, []⟩,
  ⟨some 9, .alloc [.bool false, .int .i64 0, .int .i64 0, .int .i64 0, .int .i64 0, .int .i64 0], none, []⟩,
  ⟨none, .store (.t 9) 6 (.t 31), none, [9]⟩,
  ⟨some 10, .mv (.t 32), none, []⟩] [5, 6, 7, 9, 21, 22, 23]
def c131_14 : ACode := .ops [⟨some 33, .fad (.t 9) 0, none, [9]⟩,
  ⟨some 34, .load 1 false (.t 33), none, [9]⟩] [5, 6, 7, 9, 21, 22, 23, 34]
def c131_15 : ACode := .ops [⟨some 35, .mv (.t 5), none, []⟩,
  ⟨some 36, .mv (.t 7), none, []⟩,
  ⟨some 37, .ias (.t 35) (.t 36) 10, none, [5]⟩,
  ⟨some 38, .load 10 true (.t 37), none, [5]⟩,
  ⟨some 39, .call 87 [.t 38], none, []⟩,
  ⟨some 40, .un .not (.t 39), none, []⟩] [5, 6, 7, 9, 21, 22, 23, 40]
def c131_16 : ACode := .ops [⟨some 41, .mv (.t 6), none, []⟩,
  ⟨some 42, .mv (.t 5), none, []⟩,
  ⟨some 43, .mv (.t 7), none, []⟩,
  ⟨some 44, .ias (.t 42) (.t 43) 10, none, [5]⟩,
  ⟨some 45, .load 10 true (.t 44), none, [5]⟩,
  ⟨some 46, .fad (.t 9) 1, none, [9]⟩,
  ⟨some 47, .load 1 false (.t 46), none, [9]⟩,
  ⟨some 48, .build [.int .i64 0, .int .i64 0, .int .i64 0, .int .i64 0, .int .i64 0, .int .i64 0, .int .i64 0, .int .i64 0, .int .i64 0, .int .i64 0, .int .i64 0] [(0, 10, .t 45), (10, 1, .t 47)], none, []⟩,
  ⟨some 49, .mkrow 49 1 11 [.int .i64 0, .int .i64 0, .int .i64 0, .int .i64 0, .int .i64 0, .int .i64 0, .int .i64 0, .int .i64 0, .int .i64 0, .int .i64 0, .int .i64 0] [(0, 11, .t 48)], none, []⟩,
  ⟨some 50, .app 6 [6] (.t 41) (.t 49) 11, none, [6, 49]⟩,
  ⟨some 6, .mv (.t 50), none, []⟩] [5, 6, 21, 22, 23]
def c131_17 : ACode := .cond (.t 40) c131_16 .skip
def c131_18 : ACode := .seq c131_15 c131_17
def c131_19 : ACode := .seq c131_18 (.exit 1)
def c131_20 : ACode := .cond (.t 34) c131_19 .skip
def c131_21 : ACode := .seq c131_14 c131_20
def c131_22 : ACode := .ops [⟨some 51, .mv (.t 5), none, []⟩,
  ⟨some 52, .mv (.t 7), none, []⟩,
  ⟨some 53, .fad (.t 9) 2, none, [9]⟩,
  ⟨some 54, .load 1 false (.t 53), none, [9]⟩,
  ⟨some 55, .ias (.t 51) (.t 52) 10, none, [5]⟩,
  ⟨some 56, .iad (.t 55) (.t 54) 2 5, none, [5]⟩,
  ⟨some 57, .load 2 true (.t 56), none, [5]⟩,
  ⟨some 11, .alloc [.int .i64 0, .int .i64 0], none, []⟩,
  ⟨none, .store (.t 11) 2 (.t 57), none, [11]⟩] [5, 6, 7, 9, 11, 21, 22, 23]
def c131_23 : ACode := .ops [⟨some 58, .mv (.t 5), none, []⟩,
  ⟨some 59, .fad (.t 9) 4, none, [9]⟩,
  ⟨some 60, .load 1 false (.t 59), none, [9]⟩,
  ⟨some 61, .mv (.t 5), none, []⟩,
  ⟨some 62, .fad (.t 9) 5, none, [9]⟩,
  ⟨some 63, .load 1 false (.t 62), none, [9]⟩,
  ⟨some 64, .mv (.t 5), none, []⟩,
  ⟨some 65, .mv (.t 7), none, []⟩,
  ⟨some 66, .ias (.t 64) (.t 65) 10, none, [5]⟩,
  ⟨some 67, .load 10 true (.t 66), none, [5]⟩,
  ⟨some 68, .mv (.t 5), none, []⟩,
  ⟨some 69, .mv (.t 7), none, []⟩,
  ⟨some 70, .ias (.t 68) (.t 69) 10, none, [5]⟩,
  ⟨some 71, .load 10 true (.t 70), none, [5]⟩,
  ⟨some 72, .ias (.t 58) (.t 60) 10, none, [5]⟩,
  ⟨none, .store (.t 72) 10 (.t 67), none, [5]⟩,
  ⟨some 73, .ias (.t 61) (.t 63) 10, none, [5]⟩,
  ⟨none, .store (.t 73) 10 (.t 71), none, [5]⟩] [5, 6, 9, 11, 21, 22, 23]
def c131_24 : ACode := .ops [⟨some 74, .mv (.t 5), none, []⟩,
  ⟨some 75, .fad (.t 9) 4, none, [9]⟩,
  ⟨some 76, .load 1 false (.t 75), none, [9]⟩,
  ⟨some 77, .fad (.t 9) 2, none, [9]⟩,
  ⟨some 78, .load 1 false (.t 77), none, [9]⟩,
  ⟨some 79, .load 2 true (.t 11), none, [11]⟩,
  ⟨some 80, .fad (.t 11) 0, none, [11]⟩,
  ⟨some 81, .load 1 false (.t 80), none, [11]⟩,
  ⟨some 82, .fad (.t 9) 3, none, [9]⟩,
  ⟨some 83, .load 1 false (.t 82), none, [9]⟩,
  ⟨some 84, .build [.int .i64 0, .int .i64 0] [(0, 1, .t 81), (1, 1, .t 83)], none, []⟩,
  ⟨some 85, .call 128 [.t 79, .t 84], none, []⟩,
  ⟨some 86, .ias (.t 74) (.t 76) 10, none, [5]⟩,
  ⟨some 87, .iad (.t 86) (.t 78) 2 5, none, [5]⟩,
  ⟨none, .store (.t 87) 2 (.t 85), none, [5]⟩] [5, 6, 9, 11, 21, 22, 23]
def c131_25 : ACode := .ops [⟨some 88, .mv (.t 5), none, []⟩,
  ⟨some 89, .fad (.t 9) 5, none, [9]⟩,
  ⟨some 90, .load 1 false (.t 89), none, [9]⟩,
  ⟨some 91, .fad (.t 9) 2, none, [9]⟩,
  ⟨some 92, .load 1 false (.t 91), none, [9]⟩,
  ⟨some 93, .load 2 true (.t 11), none, [11]⟩,
  ⟨some 94, .fad (.t 9) 3, none, [9]⟩,
  ⟨some 95, .load 1 false (.t 94), none, [9]⟩,
  ⟨some 96, .bin .add (.t 95) (.c (.int .i64 1)), none, []⟩,
  ⟨some 97, .fad (.t 11) 1, none, [11]⟩,
  ⟨some 98, .load 1 false (.t 97), none, [11]⟩,
  ⟨some 99, .build [.int .i64 0, .int .i64 0] [(0, 1, .t 96), (1, 1, .t 98)], none, []⟩,
  ⟨some 100, .call 128 [.t 93, .t 99], none, []⟩,
  ⟨some 101, .ias (.t 88) (.t 90) 10, none, [5]⟩,
  ⟨some 102, .iad (.t 101) (.t 92) 2 5, none, [5]⟩,
  ⟨none, .store (.t 102) 2 (.t 100), none, [5]⟩] [5, 6, 21, 22, 23]
def c131_26 : ACode := .seq c131_24 c131_25
def c131_27 : ACode := .seq c131_23 c131_26
def c131_28 : ACode := .seq c131_22 c131_27
def c131_29 : ACode := .seq c131_21 c131_28
def c131_30 : ACode := .seq c131_13 c131_29
def c131_31 : ACode := .seq c131_12 c131_30
def c131_32 : ACode := .block 1 c131_31
def c131_33 : ACode := .ops [⟨some 103, .bin .add (.t 23) (.c (.int .i64 1)), none, []⟩,
  ⟨some 23, .mv (.t 103), none, []⟩] [5, 6, 21, 22, 23]
def c131_34 : ACode := .seq c131_32 c131_33
def c131_35 : ACode := .seq c131_11 c131_34
def c131_36 : ACode := .seq c131_10 c131_35
def c131_37 : ACode := .keep [5, 6, 21, 22, 23] [5, 6] c131_36
def c131_38 : ACode := .loop c131_37
def c131_39 : ACode := .block 0 c131_38
def c131_40 : ACode := .seq c131_9 c131_39
def c131_41 : ACode := .ops [⟨some 104, .mv (.t 6), none, []⟩,
  ⟨some 4, .mv (.t 104), none, []⟩] [4]
def c131_42 : ACode := .seq c131_41 .ret
def c131_43 : ACode := .seq c131_40 c131_42
def c131_44 : ACode := .seq c131_8 c131_43
def c131_45 : ACode := .seq c131_7 c131_44
def c131_46 : ACode := .seq c131_6 c131_45
def c131_47 : ACode := .seq c131_5 c131_46
def c131_48 : ACode := .seq c131_0 c131_47
def a131 : AFun := ⟨2, 105, c131_48, [.t 4]⟩
end Go.Co
/- CO: what breaks a query, by the document. -/
namespace Go.Co
open Go.Am Go.Proofs
set_option linter.unusedSimpArgs false
set_option linter.unusedVariables false
theorem reval_of {m : Model} (h : RM m) {c : Int} (h0 : 0 ≤ c) (h1 : c < m.classes) (p : Point) : REval m c p = some (evalM m c p) := by
  unfold REval
  rw [part_of h, evalX, if_pos ⟨h0, h1⟩]
set_option maxRecDepth 100000 in
set_option maxHeartbeats 4000000 in
theorem runs_rBreaks (m : Model) (q : Query) (p : Point) (t : Int) (c : Bool) (h : BreaksC m q p t = some c) :
    Runs (tbl [(79, sp2 RQRight), (84, sp3 REval)]) a37 [Arg.enc m, Arg.enc q, Arg.enc p, Arg.enc t] (Arg.enc c) := by
  obtain ⟨hr, rfl⟩ := part_some h
  clear h
  refine ⟨rfl, fun g => run_def ?_⟩
  unfold a37
  have hM : RQRight m q = some (okQuery m q) := part_of hr _
  cases hq : okQuery m q
  case false => simp -implicitDefEqProofs [hM, hq, breaks]
  have hs := okQuery_spec hq
  have hE := reval_of hr hs.1 hs.2.1 p
  have hc3 := hr.classes
  have hks := okKind_spec hs.2.2.2.2.2
  obtain ⟨kind, cls, region, lo, hi, feature, falls, budget⟩ := q
  simp only at hE hks hs
  rcases hks with ⟨k, _⟩ | ⟨k, k2, _⟩ | ⟨k, f0, f1, _⟩
  · subst k
    by_cases g1 : evalM m cls p < lo
    · have g2 : ¬ lo ≤ evalM m cls p := by omega
      simp -implicitDefEqProofs [hM, hq, breaks, hE, Span.has, g1, g2]
    · have g2 : lo ≤ evalM m cls p := by omega
      by_cases g3 : hi < evalM m cls p
      · have g4 : ¬ evalM m cls p ≤ hi := by omega
        simp -implicitDefEqProofs [hM, hq, breaks, hE, Span.has, g1, g2, g3, g4]
      · have g4 : evalM m cls p ≤ hi := by omega
        simp -implicitDefEqProofs [hM, hq, breaks, hE, Span.has, g1, g2, g3, g4]
  · subst k
    have e0 := reval_of hr (c := 0) (by omega) (by omega) p
    have e1 := reval_of hr (c := 1) (by omega) (by omega) p
    obtain ⟨dim, classes, bias, trees⟩ := m
    simp only at hE hc3 k2 hs
    have hcl : classes = 2 ∨ classes = 3 := by omega
    have hcs : cls = 0 ∨ cls = 1 ∨ cls = 2 := by omega
    have rg2 : List.range 2 = [0, 1] := rfl
    have rg3 : List.range 3 = [0, 1, 2] := rfl
    rcases hcl with rfl | rfl
    · have hcs : cls = 0 ∨ cls = 1 := by omega
      rcases hcs with rfl | rfl
      · by_cases g0 : evalM (⟨dim, 2, bias, trees⟩ : Model) 0 p ≤ evalM (⟨dim, 2, bias, trees⟩ : Model) 1 p <;> simp -implicitDefEqProofs [hM, hq, breaks, e0, e1, g0, run_round, beaten, rg2]
      · by_cases g0 : evalM (⟨dim, 2, bias, trees⟩ : Model) 1 p ≤ evalM (⟨dim, 2, bias, trees⟩ : Model) 0 p <;> simp -implicitDefEqProofs [hM, hq, breaks, e0, e1, g0, run_round, beaten, rg2]
    · have e2 := reval_of hr (c := 2) (by omega) (by simp) p
      rcases hcs with rfl | rfl | rfl
      · by_cases g0 : evalM (⟨dim, 3, bias, trees⟩ : Model) 0 p ≤ evalM (⟨dim, 3, bias, trees⟩ : Model) 1 p <;> by_cases g1 : evalM (⟨dim, 3, bias, trees⟩ : Model) 0 p ≤ evalM (⟨dim, 3, bias, trees⟩ : Model) 2 p <;> simp -implicitDefEqProofs [hM, hq, breaks, e0, e1, e2, g0, g1, run_round, beaten, rg3]
      · by_cases g0 : evalM (⟨dim, 3, bias, trees⟩ : Model) 1 p ≤ evalM (⟨dim, 3, bias, trees⟩ : Model) 0 p <;> by_cases g1 : evalM (⟨dim, 3, bias, trees⟩ : Model) 1 p ≤ evalM (⟨dim, 3, bias, trees⟩ : Model) 2 p <;> simp -implicitDefEqProofs [hM, hq, breaks, e0, e1, e2, g0, g1, run_round, beaten, rg3]
      · by_cases g0 : evalM (⟨dim, 3, bias, trees⟩ : Model) 2 p ≤ evalM (⟨dim, 3, bias, trees⟩ : Model) 0 p <;> by_cases g1 : evalM (⟨dim, 3, bias, trees⟩ : Model) 2 p ≤ evalM (⟨dim, 3, bias, trees⟩ : Model) 1 p <;> simp -implicitDefEqProofs [hM, hq, breaks, e0, e1, e2, g0, g1, run_round, beaten, rg3]
  · subst k
    have f2 : feature < 4 := by have := hr.dim; omega
    have hsec : secondOf ⟨3, cls, region, lo, hi, feature, falls, budget⟩ p t = p.set feature t := by unfold secondOf paired; rw [if_pos (by simp; omega)]
    have hE2 := eval_of hr hs.1 hs.2.1 (p.set feature t)
    have hE2 : REval m cls (p.set feature t) = some (evalM m cls (p.set feature t)) := reval_of hr hs.1 hs.2.1 _
    obtain ⟨Y, hY⟩ : ∃ Y, evalM m cls (p.set feature t) = Y := ⟨_, rfl⟩
    obtain ⟨X, hX⟩ : ∃ X, evalM m cls p = X := ⟨_, rfl⟩
    rw [hY] at hE2
    rw [hX] at hE
    by_cases g1 : t ≤ p.get feature
    · have g2 : ¬ p.get feature < t := by omega
      simp -implicitDefEqProofs [hM, hq, breaks, hE, f0, f2, g1, g2]
    · have g2 : p.get feature < t := by omega
      have hf : feature = 0 ∨ feature = 1 ∨ feature = 2 ∨ feature = 3 := by omega
      rcases hf with rfl | rfl | rfl | rfl <;> simp only [Point.set, Point.get, Int.reduceEq, if_true, if_false, reduceIte] at hE2 hsec hY g1 g2 <;>
        by_cases e1 : X < Y <;> by_cases e2 : Y < X <;> (try (exfalso; omega)) <;> cases falls <;>
        simp -implicitDefEqProofs [hM, hq, breaks, hE, hE2, hsec, hX, hY, g1, g2, e1, e2, Point.get]
theorem c_rBreaks : Contract Try.prog 37 (sp4 BreaksC) :=
  contract_of_runs mixed (tbl_cons c_rRight' (tbl_cons c_rEval tbl_nil)) Try.func37 m37 (sp4_runs runs_rBreaks)
end Go.Co
/- CO: what is shown, closed, where a box is cut: by the document. -/
namespace Go.Co
open Go.Am Go.Proofs
set_option linter.unusedSimpArgs false
set_option linter.unusedVariables false
attribute [-simp] Go.Am.eff_gcall
def c81_0 : ACode := .ops [⟨some 1, .box (.t 0) 10, none, []⟩,
  ⟨some 2, .alloc [.int .i64 0, .int .i64 0, .int .i64 0, .int .i64 0], none, []⟩] [1, 2]
theorem r81_0 : type_of% (@rr _ _ c81_0.eq_1) := rr c81_0.eq_1
def c81_1 : ACode := .ops [⟨some 3, .alloc [.int .i64 0, .int .i64 0, .int .i64 0, .int .i64 0], none, []⟩] [1, 2, 3]
theorem r81_1 : type_of% (@rr _ _ c81_1.eq_1) := rr c81_1.eq_1
def c81_2 : ACode := .ops [⟨some 5, .mv (.c (.int .i64 0)), none, []⟩] [1, 2, 3, 5]
theorem r81_2 : type_of% (@rr _ _ c81_2.eq_1) := rr c81_2.eq_1
def c81_3 : ACode := .ops [⟨some 6, .bin .lss (.t 5) (.c (.int .i64 4)), none, []⟩] [1, 2, 3, 5, 6]
theorem r81_3 : type_of% (@rr _ _ c81_3.eq_1) := rr c81_3.eq_1
def c81_4 : ACode := .cond (.t 6) .skip (.exit 0)
theorem r81_4 : type_of% (@rr _ _ c81_4.eq_1) := rr c81_4.eq_1
def c81_5 : ACode := .ops [⟨some 7, .mv (.t 5), none, []⟩,
  ⟨some 4, .mv (.t 7), none, []⟩] [1, 2, 3, 4, 5]
theorem r81_5 : type_of% (@rr _ _ c81_5.eq_1) := rr c81_5.eq_1
def c81_6 : ACode := .ops [⟨some 8, .mv (.t 4), none, []⟩,
  ⟨some 9, .mv (.t 4), none, []⟩,
  ⟨some 10, .iad (.t 1) (.t 9) 2 5, none, [1]⟩,
  ⟨some 11, .fad (.t 10) 0, none, [1]⟩,
  ⟨some 12, .load 1 false (.t 11), none, [1]⟩,
  ⟨some 13, .iad (.t 3) (.t 8) 1 4, none, [3]⟩,
  ⟨none, .store (.t 13) 1 (.t 12), none, [3]⟩] [1, 2, 3, 5]
theorem r81_6 : type_of% (@rr _ _ c81_6.eq_1) := rr c81_6.eq_1
def c81_7 : ACode := .seq c81_5 c81_6
theorem r81_7 : type_of% (@rr _ _ c81_7.eq_1) := rr c81_7.eq_1
def c81_8 : ACode := .block 1 c81_7
theorem r81_8 : type_of% (@rr _ _ c81_8.eq_1) := rr c81_8.eq_1
def c81_9 : ACode := .ops [⟨some 14, .bin .add (.t 5) (.c (.int .i64 1)), none, []⟩,
  ⟨some 5, .mv (.t 14), none, []⟩] [1, 2, 3, 5]
theorem r81_9 : type_of% (@rr _ _ c81_9.eq_1) := rr c81_9.eq_1
def c81_10 : ACode := .seq c81_8 c81_9
theorem r81_10 : type_of% (@rr _ _ c81_10.eq_1) := rr c81_10.eq_1
def c81_11 : ACode := .seq c81_4 c81_10
theorem r81_11 : type_of% (@rr _ _ c81_11.eq_1) := rr c81_11.eq_1
def c81_12 : ACode := .seq c81_3 c81_11
theorem r81_12 : type_of% (@rr _ _ c81_12.eq_1) := rr c81_12.eq_1
def c81_13 : ACode := .keep [1, 2, 3, 5] [1, 2, 3] c81_12
theorem r81_13 : type_of% (@rr _ _ c81_13.eq_1) := rr c81_13.eq_1
def c81_14 : ACode := .loop c81_13
theorem r81_14 : type_of% (@rr _ _ c81_14.eq_1) := rr c81_14.eq_1
def c81_15 : ACode := .block 0 c81_14
theorem r81_15 : type_of% (@rr _ _ c81_15.eq_1) := rr c81_15.eq_1
def c81_16 : ACode := .seq c81_2 c81_15
theorem r81_16 : type_of% (@rr _ _ c81_16.eq_1) := rr c81_16.eq_1
def c81_17 : ACode := .ops [⟨some 15, .load 4 true (.t 3), none, [3]⟩,
  ⟨none, .store (.t 2) 4 (.t 15), none, [2]⟩] [2]
theorem r81_17 : type_of% (@rr _ _ c81_17.eq_1) := rr c81_17.eq_1
def c81_18 : ACode := .seq c81_17 .ret
theorem r81_18 : type_of% (@rr _ _ c81_18.eq_1) := rr c81_18.eq_1
def c81_19 : ACode := .seq c81_16 c81_18
theorem r81_19 : type_of% (@rr _ _ c81_19.eq_1) := rr c81_19.eq_1
def c81_20 : ACode := .seq c81_1 c81_19
theorem r81_20 : type_of% (@rr _ _ c81_20.eq_1) := rr c81_20.eq_1
def c81_21 : ACode := .seq c81_0 c81_20
theorem r81_21 : type_of% (@rr _ _ c81_21.eq_1) := rr c81_21.eq_1
def a81 : AFun := ⟨1, 16, c81_21, [.cell 2 4 true]⟩
attribute [simp] r81_0 r81_1 r81_2 r81_3 r81_4 r81_5 r81_6 r81_7 r81_8 r81_9 r81_10 r81_11 r81_12 r81_13 r81_14 r81_15 r81_16 r81_17 r81_18 r81_19 r81_20 r81_21
theorem m81 : mFun Try.prog Try.f81 a81 = true := by decide +kernel
set_option maxRecDepth 8000 in
theorem runs_rLow (b : Box) (r : Point) (h : some (lowB b) = some r) : Runs (tbl []) a81 [Arg.enc b] (Arg.enc r) := by
  cases h
  refine ⟨rfl, fun g => run_def ?_⟩
  unfold a81 lowB
  simp -implicitDefEqProofs [run_round]
theorem c_rLow : Contract Try.prog 81 (sp1 fun b => some (lowB b)) :=
  contract_of_runs mixed tbl_nil Try.func81 m81 (sp1_runs runs_rLow)
theorem cutB_halves {b : Box} {k n : Int} (h0 : 0 ≤ k) (h5 : k < 5) (h1 : (b.get k).lo ≤ n) (h2 : n < (b.get k).hi) : cutB b k n = (b.set k ⟨(b.get k).lo, n⟩, b.set k ⟨n + 1, (b.get k).hi⟩) := by
  unfold cutB cutS
  rw [if_pos ⟨h0, h5⟩, if_neg (by omega)]
  unfold ofS
  rw [show (if n + 1 > (b.get k).lo then n + 1 else (b.get k).lo) = n + 1 from if_pos (by omega), if_neg (by omega), if_neg (by omega)]
/-! ### bounds by points alone -/
end Go.Co
