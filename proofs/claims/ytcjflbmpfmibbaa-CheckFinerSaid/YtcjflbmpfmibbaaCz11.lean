/- CO: texts of this claim, one behind the other. -/
import Derived.Test.YtcjflbmpfmibbaaCz6
import Derived.Test.YtcjflbmpfmibbaaCz8
/- CO: the document's own answers: right queries, what breaks them (written by mkCoS.py). -/
set_option maxHeartbeats 16000000
set_option maxRecDepth 100000
namespace Go.Co
open Go.Am Go.Proofs
set_option linter.unusedSimpArgs false
set_option linter.unusedVariables false
def c79_0 : ACode := .ops [⟨some 2, .box (.t 0) 6, none, []⟩,⟨some 3, .box (.t 1) 17, none, []⟩,⟨some 4, .mv (.c (.bool false)), none, []⟩] [2, 3]
theorem r79_0 : type_of% (@rr _ _ c79_0.eq_1) := rr rfl
def c79_1 : ACode := .ops [⟨some 7, .load 6 true (.t 2), none, [2]⟩,⟨some 8, .call 86 [.t 7], none, []⟩,⟨some 9, .un .not (.t 8), none, []⟩,⟨some 10, .mv (.t 9), none, []⟩,⟨some 11, .fad (.t 3) 1, some (10, false), [3]⟩,⟨some 12, .load 1 false (.t 11), some (10, false), [3]⟩,⟨some 13, .bin .lss (.t 12) (.c (.int .i64 0)), some (10, false), []⟩,⟨some 14, .pick (.t 10) (.c (.bool true)) (.t 13), none, []⟩,⟨some 15, .mv (.t 14), none, []⟩,⟨some 16, .fad (.t 3) 1, some (15, false), [3]⟩,⟨some 17, .load 1 false (.t 16), some (15, false), [3]⟩,⟨some 18, .fad (.t 2) 1, some (15, false), [2]⟩,⟨some 19, .load 1 false (.t 18), some (15, false), [2]⟩,⟨some 20, .bin .geq (.t 17) (.t 19), some (15, false), []⟩,⟨some 21, .pick (.t 15) (.c (.bool true)) (.t 20), none, []⟩,⟨some 22, .mv (.t 21), none, []⟩,⟨some 23, .fad (.t 3) 16, some (22, false), [3]⟩,⟨some 24, .load 1 false (.t 23), some (22, false), [3]⟩,⟨some 25, .bin .lss (.t 24) (.c (.int .i64 0)), some (22, false), []⟩,⟨some 26, .pick (.t 22) (.c (.bool true)) (.t 25), none, []⟩,⟨some 27, .mv (.t 26), none, []⟩,⟨some 28, .fad (.t 3) 16, some (27, false), [3]⟩,⟨some 29, .load 1 false (.t 28), some (27, false), [3]⟩,⟨some 30, .bin .gtr (.t 29) (.c (.int .i64 65536)), some (27, false), []⟩,⟨some 31, .pick (.t 27) (.c (.bool true)) (.t 30), none, []⟩] [2, 3, 31]
theorem r79_1 : type_of% (@rr _ _ c79_1.eq_1) := rr rfl
def c79_2 : ACode := .ops [⟨some 4, .mv (.c (.bool false)), none, []⟩] [4]
theorem r79_2 : type_of% (@rr _ _ c79_2.eq_1) := rr rfl
def c79_3 : ACode := .seq c79_2 .ret
theorem r79_3 : type_of% (@rr _ _ c79_3.eq_1) := rr rfl
def c79_4 : ACode := .cond (.t 31) c79_3 .skip
theorem r79_4 : type_of% (@rr _ _ c79_4.eq_1) := rr rfl
def c79_5 : ACode := .seq c79_1 c79_4
theorem r79_5 : type_of% (@rr _ _ c79_5.eq_1) := rr rfl
def c79_6 : ACode := .ops [⟨some 32, .fad (.t 3) 2, none, [3]⟩,⟨some 33, .load 10 true (.t 32), none, [3]⟩,⟨some 34, .mv (.c (.int .i64 0)), none, []⟩] [2, 3, 33, 34]
theorem r79_6 : type_of% (@rr _ _ c79_6.eq_1) := rr rfl
def c79_7 : ACode := .ops [⟨some 35, .bin .lss (.t 34) (.c (.int .i64 5)), none, []⟩] [2, 3, 33, 34, 35]
theorem r79_7 : type_of% (@rr _ _ c79_7.eq_1) := rr rfl
def c79_8 : ACode := .cond (.t 35) .skip (.exit 0)
theorem r79_8 : type_of% (@rr _ _ c79_8.eq_1) := rr rfl
def c79_9 : ACode := .ops [⟨some 36, .mv (.t 34), none, []⟩,⟨some 37, .idx (.t 33) (.t 34) 2 5 true, none, []⟩,⟨some 6, .alloc [.int .i64 0, .int .i64 0], none, []⟩,⟨some 5, .mv (.t 36), none, []⟩,⟨none, .store (.t 6) 2 (.t 37), none, [6]⟩] [2, 3, 5, 6, 33, 34]
theorem r79_9 : type_of% (@rr _ _ c79_9.eq_1) := rr rfl
def c79_10 : ACode := .ops [⟨some 38, .mv (.t 5), none, []⟩,⟨some 39, .fad (.t 2) 0, none, [2]⟩,⟨some 40, .load 1 false (.t 39), none, [2]⟩,⟨some 41, .bin .lss (.t 38) (.t 40), none, []⟩,⟨some 42, .mv (.t 41), none, []⟩,⟨some 43, .fad (.t 6) 0, some (42, true), [6]⟩,⟨some 44, .load 1 false (.t 43), some (42, true), [6]⟩,⟨some 45, .fad (.t 6) 1, some (42, true), [6]⟩,⟨some 46, .load 1 false (.t 45), some (42, true), [6]⟩,⟨some 47, .bin .gtr (.t 44) (.t 46), some (42, true), []⟩,⟨some 48, .mv (.t 47), some (42, true), []⟩,⟨some 49, .fad (.t 6) 0, some (48, false), [6]⟩,⟨some 50, .load 1 false (.t 49), some (48, false), [6]⟩,⟨some 51, .call 126 [.t 50, .c (.int .i64 32)], some (48, false), []⟩,⟨some 52, .un .not (.t 51), some (48, false), []⟩,⟨some 53, .pick (.t 48) (.c (.bool true)) (.t 52), some (42, true), []⟩,⟨some 54, .mv (.t 53), some (42, true), []⟩,⟨some 55, .fad (.t 6) 1, some (54, false), [6]⟩,⟨some 56, .load 1 false (.t 55), some (54, false), [6]⟩,⟨some 57, .call 126 [.t 56, .c (.int .i64 32)], some (54, false), []⟩,⟨some 58, .un .not (.t 57), some (54, false), []⟩,⟨some 59, .pick (.t 54) (.c (.bool true)) (.t 58), some (42, true), []⟩,⟨some 60, .pick (.t 42) (.t 59) (.c (.bool false)), none, []⟩,⟨some 61, .mv (.t 60), none, []⟩,⟨some 62, .mv (.t 5), some (61, false), []⟩,⟨some 63, .fad (.t 2) 0, some (61, false), [2]⟩,⟨some 64, .load 1 false (.t 63), some (61, false), [2]⟩,⟨some 65, .bin .geq (.t 62) (.t 64), some (61, false), []⟩,⟨some 66, .mv (.t 65), some (61, false), []⟩,⟨some 67, .load 2 true (.t 6), some (66, true), [6]⟩,⟨some 68, .build [.int .i64 0, .int .i64 0] [], some (66, true), []⟩,⟨some 69, .eqa true [false, false] (.t 67) (.t 68), some (66, true), []⟩,⟨some 70, .pick (.t 66) (.t 69) (.c (.bool false)), some (61, false), []⟩,⟨some 71, .pick (.t 61) (.c (.bool true)) (.t 70), none, []⟩] [2, 3, 33, 34, 71]
theorem r79_10 : type_of% (@rr _ _ c79_10.eq_1) := rr rfl
def c79_11 : ACode := .ops [⟨some 4, .mv (.c (.bool false)), none, []⟩] [4]
theorem r79_11 : type_of% (@rr _ _ c79_11.eq_1) := rr rfl
def c79_12 : ACode := .seq c79_11 .ret
theorem r79_12 : type_of% (@rr _ _ c79_12.eq_1) := rr rfl
def c79_13 : ACode := .cond (.t 71) c79_12 .skip
theorem r79_13 : type_of% (@rr _ _ c79_13.eq_1) := rr rfl
def c79_14 : ACode := .seq c79_10 c79_13
theorem r79_14 : type_of% (@rr _ _ c79_14.eq_1) := rr rfl
def c79_15 : ACode := .seq c79_9 c79_14
theorem r79_15 : type_of% (@rr _ _ c79_15.eq_1) := rr rfl
def c79_16 : ACode := .block 1 c79_15
theorem r79_16 : type_of% (@rr _ _ c79_16.eq_1) := rr rfl
def c79_17 : ACode := .ops [⟨some 72, .bin .add (.t 34) (.c (.int .i64 1)), none, []⟩,⟨some 34, .mv (.t 72), none, []⟩] [2, 3, 33, 34]
theorem r79_17 : type_of% (@rr _ _ c79_17.eq_1) := rr rfl
def c79_18 : ACode := .seq c79_16 c79_17
theorem r79_18 : type_of% (@rr _ _ c79_18.eq_1) := rr rfl
def c79_19 : ACode := .seq c79_8 c79_18
theorem r79_19 : type_of% (@rr _ _ c79_19.eq_1) := rr rfl
def c79_20 : ACode := .seq c79_7 c79_19
theorem r79_20 : type_of% (@rr _ _ c79_20.eq_1) := rr rfl
def c79_21 : ACode := .keep [2, 3, 33, 34] [2, 3] c79_20
theorem r79_21 : type_of% (@rr _ _ c79_21.eq_1) := rr rfl
def c79_22 : ACode := .loop c79_21
theorem r79_22 : type_of% (@rr _ _ c79_22.eq_1) := rr rfl
def c79_23 : ACode := .block 0 c79_22
theorem r79_23 : type_of% (@rr _ _ c79_23.eq_1) := rr rfl
def c79_24 : ACode := .seq c79_6 c79_23
theorem r79_24 : type_of% (@rr _ _ c79_24.eq_1) := rr rfl
def c79_25 : ACode := .ops [⟨some 73, .fad (.t 3) 0, none, [3]⟩,⟨some 74, .load 1 false (.t 73), none, [3]⟩] [2, 3, 74]
theorem r79_25 : type_of% (@rr _ _ c79_25.eq_1) := rr rfl
def c79_26 : ACode := .ops [⟨some 76, .bin .eql (.t 74) (.c (.int .i64 1)), none, []⟩,⟨some 75, .mv (.t 76), none, []⟩] [2, 3, 74, 75]
theorem r79_26 : type_of% (@rr _ _ c79_26.eq_1) := rr rfl
def c79_27 : ACode := .ops [⟨some 77, .fad (.t 3) 12, none, [3]⟩,⟨some 78, .load 1 false (.t 77), none, [3]⟩,⟨some 79, .fad (.t 3) 13, none, [3]⟩,⟨some 80, .load 1 false (.t 79), none, [3]⟩,⟨some 81, .bin .leq (.t 78) (.t 80), none, []⟩,⟨some 82, .mv (.t 81), none, []⟩,⟨some 83, .fad (.t 3) 14, some (82, true), [3]⟩,⟨some 84, .load 1 false (.t 83), some (82, true), [3]⟩,⟨some 85, .bin .eql (.t 84) (.c (.int .i64 0)), some (82, true), []⟩,⟨some 86, .pick (.t 82) (.t 85) (.c (.bool false)), none, []⟩,⟨some 87, .mv (.t 86), none, []⟩,⟨some 88, .fad (.t 3) 15, some (87, true), [3]⟩,⟨some 89, .load 1 false (.t 88), some (87, true), [3]⟩,⟨some 90, .un .not (.t 89), some (87, true), []⟩,⟨some 91, .pick (.t 87) (.t 90) (.c (.bool false)), none, []⟩,⟨some 4, .mv (.t 91), none, []⟩] [4]
theorem r79_27 : type_of% (@rr _ _ c79_27.eq_1) := rr rfl
def c79_28 : ACode := .seq c79_27 .ret
theorem r79_28 : type_of% (@rr _ _ c79_28.eq_1) := rr rfl
def c79_29 : ACode := .ops [⟨some 93, .bin .eql (.t 74) (.c (.int .i64 2)), none, []⟩,⟨some 92, .mv (.t 93), none, []⟩] [2, 3, 74, 92]
theorem r79_29 : type_of% (@rr _ _ c79_29.eq_1) := rr rfl
def c79_30 : ACode := .ops [⟨some 94, .fad (.t 2) 1, none, [2]⟩,⟨some 95, .load 1 false (.t 94), none, [2]⟩,⟨some 96, .bin .geq (.t 95) (.c (.int .i64 2)), none, []⟩,⟨some 97, .mv (.t 96), none, []⟩,⟨some 98, .fad (.t 3) 12, some (97, true), [3]⟩,⟨some 99, .load 1 false (.t 98), some (97, true), [3]⟩,⟨some 100, .bin .eql (.t 99) (.c (.int .i64 0)), some (97, true), []⟩,⟨some 101, .pick (.t 97) (.t 100) (.c (.bool false)), none, []⟩,⟨some 102, .mv (.t 101), none, []⟩,⟨some 103, .fad (.t 3) 13, some (102, true), [3]⟩,⟨some 104, .load 1 false (.t 103), some (102, true), [3]⟩,⟨some 105, .bin .eql (.t 104) (.c (.int .i64 0)), some (102, true), []⟩,⟨some 106, .pick (.t 102) (.t 105) (.c (.bool false)), none, []⟩,⟨some 107, .mv (.t 106), none, []⟩,⟨some 108, .fad (.t 3) 14, some (107, true), [3]⟩,⟨some 109, .load 1 false (.t 108), some (107, true), [3]⟩,⟨some 110, .bin .eql (.t 109) (.c (.int .i64 0)), some (107, true), []⟩,⟨some 111, .pick (.t 107) (.t 110) (.c (.bool false)), none, []⟩,⟨some 112, .mv (.t 111), none, []⟩,⟨some 113, .fad (.t 3) 15, some (112, true), [3]⟩,⟨some 114, .load 1 false (.t 113), some (112, true), [3]⟩,⟨some 115, .un .not (.t 114), some (112, true), []⟩,⟨some 116, .pick (.t 112) (.t 115) (.c (.bool false)), none, []⟩,⟨some 4, .mv (.t 116), none, []⟩] [4]
theorem r79_30 : type_of% (@rr _ _ c79_30.eq_1) := rr rfl
def c79_31 : ACode := .seq c79_30 .ret
theorem r79_31 : type_of% (@rr _ _ c79_31.eq_1) := rr rfl
def c79_32 : ACode := .ops [⟨some 118, .bin .eql (.t 74) (.c (.int .i64 3)), none, []⟩,⟨some 117, .mv (.t 118), none, []⟩] [2, 3, 117]
theorem r79_32 : type_of% (@rr _ _ c79_32.eq_1) := rr rfl
def c79_33 : ACode := .ops [⟨some 119, .fad (.t 3) 14, none, [3]⟩,⟨some 120, .load 1 false (.t 119), none, [3]⟩,⟨some 121, .bin .geq (.t 120) (.c (.int .i64 0)), none, []⟩,⟨some 122, .mv (.t 121), none, []⟩,⟨some 123, .fad (.t 3) 14, some (122, true), [3]⟩,⟨some 124, .load 1 false (.t 123), some (122, true), [3]⟩,⟨some 125, .fad (.t 2) 0, some (122, true), [2]⟩,⟨some 126, .load 1 false (.t 125), some (122, true), [2]⟩,⟨some 127, .bin .lss (.t 124) (.t 126), some (122, true), []⟩,⟨some 128, .pick (.t 122) (.t 127) (.c (.bool false)), none, []⟩,⟨some 129, .mv (.t 128), none, []⟩,⟨some 130, .fad (.t 3) 12, some (129, true), [3]⟩,⟨some 131, .load 1 false (.t 130), some (129, true), [3]⟩,⟨some 132, .bin .eql (.t 131) (.c (.int .i64 0)), some (129, true), []⟩,⟨some 133, .pick (.t 129) (.t 132) (.c (.bool false)), none, []⟩,⟨some 134, .mv (.t 133), none, []⟩,⟨some 135, .fad (.t 3) 13, some (134, true), [3]⟩,⟨some 136, .load 1 false (.t 135), some (134, true), [3]⟩,⟨some 137, .bin .eql (.t 136) (.c (.int .i64 0)), some (134, true), []⟩,⟨some 138, .pick (.t 134) (.t 137) (.c (.bool false)), none, []⟩,⟨some 4, .mv (.t 138), none, []⟩] [4]
theorem r79_33 : type_of% (@rr _ _ c79_33.eq_1) := rr rfl
def c79_34 : ACode := .seq c79_33 .ret
theorem r79_34 : type_of% (@rr _ _ c79_34.eq_1) := rr rfl
def c79_35 : ACode := .cond (.t 117) c79_34 .skip
theorem r79_35 : type_of% (@rr _ _ c79_35.eq_1) := rr rfl
def c79_36 : ACode := .seq c79_32 c79_35
theorem r79_36 : type_of% (@rr _ _ c79_36.eq_1) := rr rfl
def c79_37 : ACode := .cond (.t 92) c79_31 c79_36
theorem r79_37 : type_of% (@rr _ _ c79_37.eq_1) := rr rfl
def c79_38 : ACode := .seq c79_29 c79_37
theorem r79_38 : type_of% (@rr _ _ c79_38.eq_1) := rr rfl
def c79_39 : ACode := .cond (.t 75) c79_28 c79_38
theorem r79_39 : type_of% (@rr _ _ c79_39.eq_1) := rr rfl
def c79_40 : ACode := .seq c79_26 c79_39
theorem r79_40 : type_of% (@rr _ _ c79_40.eq_1) := rr rfl
def c79_41 : ACode := .block 2 c79_40
theorem r79_41 : type_of% (@rr _ _ c79_41.eq_1) := rr rfl
def c79_42 : ACode := .seq c79_25 c79_41
theorem r79_42 : type_of% (@rr _ _ c79_42.eq_1) := rr rfl
def c79_43 : ACode := .ops [⟨some 4, .mv (.c (.bool false)), none, []⟩] [4]
theorem r79_43 : type_of% (@rr _ _ c79_43.eq_1) := rr rfl
def c79_44 : ACode := .seq c79_43 .ret
theorem r79_44 : type_of% (@rr _ _ c79_44.eq_1) := rr rfl
def c79_45 : ACode := .seq c79_42 c79_44
theorem r79_45 : type_of% (@rr _ _ c79_45.eq_1) := rr rfl
def c79_46 : ACode := .seq c79_24 c79_45
theorem r79_46 : type_of% (@rr _ _ c79_46.eq_1) := rr rfl
def c79_47 : ACode := .seq c79_5 c79_46
theorem r79_47 : type_of% (@rr _ _ c79_47.eq_1) := rr rfl
def c79_48 : ACode := .seq c79_0 c79_47
theorem r79_48 : type_of% (@rr _ _ c79_48.eq_1) := rr rfl
def a79 : AFun := ⟨2, 139, c79_48, [.t 4]⟩
attribute [simp] r79_0 r79_1 r79_2 r79_3 r79_4 r79_5 r79_6 r79_7 r79_8 r79_9 r79_10 r79_11 r79_12 r79_13 r79_14 r79_15 r79_16 r79_17 r79_18 r79_19 r79_20 r79_21 r79_22 r79_23 r79_24 r79_25 r79_26 r79_27 r79_28 r79_29 r79_30 r79_31 r79_32 r79_33 r79_34 r79_35 r79_36 r79_37 r79_38 r79_39 r79_40 r79_41 r79_42 r79_43 r79_44 r79_45 r79_46 r79_47 r79_48
theorem m79 : mFun Try.prog Try.f79 a79 = true := by decide +kernel
def c33_0 : ACode := .ops [⟨some 1, .box (.t 0) 17, none, []⟩,⟨some 2, .alloc [.int .i64 0, .int .i64 0, .int .i64 0, .int .i64 0, .int .i64 0, .int .i64 0, .int .i64 0, .int .i64 0, .int .i64 0, .int .i64 0], none, []⟩] [1, 2]
theorem r33_0 : type_of% (@rr _ _ c33_0.eq_1) := rr rfl
def c33_1 : ACode := .ops [⟨some 4, .fad (.t 1) 2, none, [1]⟩,⟨some 5, .load 10 true (.t 4), none, [1]⟩,⟨some 3, .alloc [.int .i64 0, .int .i64 0, .int .i64 0, .int .i64 0, .int .i64 0, .int .i64 0, .int .i64 0, .int .i64 0, .int .i64 0, .int .i64 0], none, []⟩,⟨none, .store (.t 3) 10 (.t 5), none, [3]⟩] [1, 2, 3]
theorem r33_1 : type_of% (@rr _ _ c33_1.eq_1) := rr rfl
def c33_2 : ACode := .ops [⟨some 6, .build [.int .i64 0, .int .i64 0] [], none, []⟩,⟨some 7, .iad (.t 3) (.c (.int .i64 4)) 2 5, none, [3]⟩,⟨none, .store (.t 7) 2 (.t 6), none, [3]⟩] [1, 2, 3]
theorem r33_2 : type_of% (@rr _ _ c33_2.eq_1) := rr rfl
def c33_3 : ACode := .ops [⟨some 8, .fad (.t 1) 0, none, [1]⟩,⟨some 9, .load 1 false (.t 8), none, [1]⟩,⟨some 10, .bin .eql (.t 9) (.c (.int .i64 3)), none, []⟩,⟨some 11, .mv (.t 10), none, []⟩,⟨some 12, .fad (.t 1) 14, some (11, true), [1]⟩,⟨some 13, .load 1 false (.t 12), some (11, true), [1]⟩,⟨some 14, .bin .geq (.t 13) (.c (.int .i64 0)), some (11, true), []⟩,⟨some 15, .pick (.t 11) (.t 14) (.c (.bool false)), none, []⟩,⟨some 16, .mv (.t 15), none, []⟩,⟨some 17, .fad (.t 1) 14, some (16, true), [1]⟩,⟨some 18, .load 1 false (.t 17), some (16, true), [1]⟩,⟨some 19, .bin .lss (.t 18) (.c (.int .i64 4)), some (16, true), []⟩,⟨some 20, .pick (.t 16) (.t 19) (.c (.bool false)), none, []⟩] [1, 2, 3, 20]
theorem r33_3 : type_of% (@rr _ _ c33_3.eq_1) := rr rfl
def c33_4 : ACode := .ops [⟨some 21, .fad (.t 1) 14, none, [1]⟩,⟨some 22, .load 1 false (.t 21), none, [1]⟩,⟨some 23, .fad (.t 1) 2, none, [1]⟩,⟨some 24, .iad (.t 23) (.t 22) 2 5, none, [1]⟩,⟨some 25, .load 2 true (.t 24), none, [1]⟩,⟨some 26, .iad (.t 3) (.c (.int .i64 4)) 2 5, none, [3]⟩,⟨none, .store (.t 26) 2 (.t 25), none, [3]⟩] [2, 3]
theorem r33_4 : type_of% (@rr _ _ c33_4.eq_1) := rr rfl
def c33_5 : ACode := .cond (.t 20) c33_4 .skip
theorem r33_5 : type_of% (@rr _ _ c33_5.eq_1) := rr rfl
def c33_6 : ACode := .seq c33_3 c33_5
theorem r33_6 : type_of% (@rr _ _ c33_6.eq_1) := rr rfl
def c33_7 : ACode := .ops [⟨some 27, .load 10 true (.t 3), none, [3]⟩,⟨none, .store (.t 2) 10 (.t 27), none, [2]⟩] [2]
theorem r33_7 : type_of% (@rr _ _ c33_7.eq_1) := rr rfl
def c33_8 : ACode := .seq c33_7 .ret
theorem r33_8 : type_of% (@rr _ _ c33_8.eq_1) := rr rfl
def c33_9 : ACode := .seq c33_6 c33_8
theorem r33_9 : type_of% (@rr _ _ c33_9.eq_1) := rr rfl
def c33_10 : ACode := .seq c33_2 c33_9
theorem r33_10 : type_of% (@rr _ _ c33_10.eq_1) := rr rfl
def c33_11 : ACode := .seq c33_1 c33_10
theorem r33_11 : type_of% (@rr _ _ c33_11.eq_1) := rr rfl
def c33_12 : ACode := .seq c33_0 c33_11
theorem r33_12 : type_of% (@rr _ _ c33_12.eq_1) := rr rfl
def a33 : AFun := ⟨1, 28, c33_12, [.cell 2 10 true]⟩
attribute [simp] r33_0 r33_1 r33_2 r33_3 r33_4 r33_5 r33_6 r33_7 r33_8 r33_9 r33_10 r33_11 r33_12
theorem m33 : mFun Try.prog Try.f33 a33 = true := by decide +kernel
def c37_0 : ACode := .ops [⟨some 4, .box (.t 0) 6, none, []⟩,⟨some 5, .box (.t 1) 17, none, []⟩,⟨some 6, .box (.t 2) 4, none, []⟩,⟨some 8, .mv (.c (.bool false)), none, []⟩] [3, 4, 5, 6]
theorem r37_0 : type_of% (@rr _ _ c37_0.eq_1) := rr rfl
def c37_1 : ACode := .ops [⟨some 12, .load 6 true (.t 4), none, [4]⟩,⟨some 13, .load 17 true (.t 5), none, [5]⟩,⟨some 14, .call 79 [.t 12, .t 13], none, []⟩,⟨some 15, .un .not (.t 14), none, []⟩] [3, 4, 5, 6, 15]
theorem r37_1 : type_of% (@rr _ _ c37_1.eq_1) := rr rfl
def c37_2 : ACode := .ops [⟨some 8, .mv (.c (.bool false)), none, []⟩] [8]
theorem r37_2 : type_of% (@rr _ _ c37_2.eq_1) := rr rfl
def c37_3 : ACode := .seq c37_2 .ret
theorem r37_3 : type_of% (@rr _ _ c37_3.eq_1) := rr rfl
def c37_4 : ACode := .cond (.t 15) c37_3 .skip
theorem r37_4 : type_of% (@rr _ _ c37_4.eq_1) := rr rfl
def c37_5 : ACode := .seq c37_1 c37_4
theorem r37_5 : type_of% (@rr _ _ c37_5.eq_1) := rr rfl
def c37_6 : ACode := .ops [⟨some 16, .load 6 true (.t 4), none, [4]⟩,⟨some 17, .fad (.t 5) 1, none, [5]⟩,⟨some 18, .load 1 false (.t 17), none, [5]⟩,⟨some 19, .load 4 true (.t 6), none, [6]⟩,⟨some 20, .call 84 [.t 16, .t 18, .t 19], none, []⟩,⟨some 9, .mv (.t 20), none, []⟩] [3, 4, 5, 6, 9]
theorem r37_6 : type_of% (@rr _ _ c37_6.eq_1) := rr rfl
def c37_7 : ACode := .ops [⟨some 21, .fad (.t 5) 0, none, [5]⟩,⟨some 22, .load 1 false (.t 21), none, [5]⟩] [3, 4, 5, 6, 9, 22]
theorem r37_7 : type_of% (@rr _ _ c37_7.eq_1) := rr rfl
def c37_8 : ACode := .ops [⟨some 24, .bin .eql (.t 22) (.c (.int .i64 1)), none, []⟩,⟨some 23, .mv (.t 24), none, []⟩] [3, 4, 5, 6, 9, 22, 23]
theorem r37_8 : type_of% (@rr _ _ c37_8.eq_1) := rr rfl
def c37_9 : ACode := .ops [⟨some 25, .mv (.t 9), none, []⟩,⟨some 26, .fad (.t 5) 12, none, [5]⟩,⟨some 27, .load 1 false (.t 26), none, [5]⟩,⟨some 28, .bin .lss (.t 25) (.t 27), none, []⟩,⟨some 29, .mv (.t 28), none, []⟩,⟨some 30, .mv (.t 9), some (29, false), []⟩,⟨some 31, .fad (.t 5) 13, some (29, false), [5]⟩,⟨some 32, .load 1 false (.t 31), some (29, false), [5]⟩,⟨some 33, .bin .gtr (.t 30) (.t 32), some (29, false), []⟩,⟨some 34, .pick (.t 29) (.c (.bool true)) (.t 33), none, []⟩,⟨some 8, .mv (.t 34), none, []⟩] [8]
theorem r37_9 : type_of% (@rr _ _ c37_9.eq_1) := rr rfl
def c37_10 : ACode := .seq c37_9 .ret
theorem r37_10 : type_of% (@rr _ _ c37_10.eq_1) := rr rfl
def c37_11 : ACode := .ops [⟨some 36, .bin .eql (.t 22) (.c (.int .i64 2)), none, []⟩,⟨some 35, .mv (.t 36), none, []⟩] [3, 4, 5, 6, 9, 35]
theorem r37_11 : type_of% (@rr _ _ c37_11.eq_1) := rr rfl
def c37_12 : ACode := .ops [⟨some 37, .fad (.t 4) 1, none, [4]⟩,⟨some 38, .load 1 false (.t 37), none, [4]⟩,⟨some 39, .mv (.c (.int .i64 0)), none, []⟩] [4, 5, 6, 9, 38, 39]
theorem r37_12 : type_of% (@rr _ _ c37_12.eq_1) := rr rfl
def c37_13 : ACode := .ops [⟨some 40, .bin .lss (.t 39) (.t 38), none, []⟩] [4, 5, 6, 9, 38, 39, 40]
theorem r37_13 : type_of% (@rr _ _ c37_13.eq_1) := rr rfl
def c37_14 : ACode := .cond (.t 40) .skip (.exit 1)
theorem r37_14 : type_of% (@rr _ _ c37_14.eq_1) := rr rfl
def c37_15 : ACode := .ops [⟨some 41, .mv (.t 39), none, []⟩,⟨some 10, .mv (.t 41), none, []⟩] [4, 5, 6, 9, 10, 38, 39]
theorem r37_15 : type_of% (@rr _ _ c37_15.eq_1) := rr rfl
def c37_16 : ACode := .ops [⟨some 42, .mv (.t 10), none, []⟩,⟨some 43, .fad (.t 5) 1, none, [5]⟩,⟨some 44, .load 1 false (.t 43), none, [5]⟩,⟨some 45, .bin .neq (.t 42) (.t 44), none, []⟩,⟨some 46, .mv (.t 45), none, []⟩,⟨some 47, .load 6 true (.t 4), some (46, true), [4]⟩,⟨some 48, .mv (.t 10), some (46, true), []⟩,⟨some 49, .load 4 true (.t 6), some (46, true), [6]⟩,⟨some 50, .call 84 [.t 47, .t 48, .t 49], some (46, true), []⟩,⟨some 51, .mv (.t 9), some (46, true), []⟩,⟨some 52, .bin .geq (.t 50) (.t 51), some (46, true), []⟩,⟨some 53, .pick (.t 46) (.t 52) (.c (.bool false)), none, []⟩] [4, 5, 6, 9, 38, 39, 53]
theorem r37_16 : type_of% (@rr _ _ c37_16.eq_1) := rr rfl
def c37_17 : ACode := .ops [⟨some 8, .mv (.c (.bool true)), none, []⟩] [8]
theorem r37_17 : type_of% (@rr _ _ c37_17.eq_1) := rr rfl
def c37_18 : ACode := .seq c37_17 .ret
theorem r37_18 : type_of% (@rr _ _ c37_18.eq_1) := rr rfl
def c37_19 : ACode := .cond (.t 53) c37_18 .skip
theorem r37_19 : type_of% (@rr _ _ c37_19.eq_1) := rr rfl
def c37_20 : ACode := .seq c37_16 c37_19
theorem r37_20 : type_of% (@rr _ _ c37_20.eq_1) := rr rfl
def c37_21 : ACode := .seq c37_15 c37_20
theorem r37_21 : type_of% (@rr _ _ c37_21.eq_1) := rr rfl
def c37_22 : ACode := .block 2 c37_21
theorem r37_22 : type_of% (@rr _ _ c37_22.eq_1) := rr rfl
def c37_23 : ACode := .ops [⟨some 54, .bin .add (.t 39) (.c (.int .i64 1)), none, []⟩,⟨some 39, .mv (.t 54), none, []⟩] [4, 5, 6, 9, 38, 39]
theorem r37_23 : type_of% (@rr _ _ c37_23.eq_1) := rr rfl
def c37_24 : ACode := .seq c37_22 c37_23
theorem r37_24 : type_of% (@rr _ _ c37_24.eq_1) := rr rfl
def c37_25 : ACode := .seq c37_14 c37_24
theorem r37_25 : type_of% (@rr _ _ c37_25.eq_1) := rr rfl
def c37_26 : ACode := .seq c37_13 c37_25
theorem r37_26 : type_of% (@rr _ _ c37_26.eq_1) := rr rfl
def c37_27 : ACode := .keep [4, 5, 6, 9, 38, 39] [4, 5, 6] c37_26
theorem r37_27 : type_of% (@rr _ _ c37_27.eq_1) := rr rfl
def c37_28 : ACode := .loop c37_27
theorem r37_28 : type_of% (@rr _ _ c37_28.eq_1) := rr rfl
def c37_29 : ACode := .block 1 c37_28
theorem r37_29 : type_of% (@rr _ _ c37_29.eq_1) := rr rfl
def c37_30 : ACode := .seq c37_12 c37_29
theorem r37_30 : type_of% (@rr _ _ c37_30.eq_1) := rr rfl
def c37_31 : ACode := .ops [⟨some 8, .mv (.c (.bool false)), none, []⟩] [8]
theorem r37_31 : type_of% (@rr _ _ c37_31.eq_1) := rr rfl
def c37_32 : ACode := .seq c37_31 .ret
theorem r37_32 : type_of% (@rr _ _ c37_32.eq_1) := rr rfl
def c37_33 : ACode := .seq c37_30 c37_32
theorem r37_33 : type_of% (@rr _ _ c37_33.eq_1) := rr rfl
def c37_34 : ACode := .cond (.t 35) c37_33 .skip
theorem r37_34 : type_of% (@rr _ _ c37_34.eq_1) := rr rfl
def c37_35 : ACode := .seq c37_11 c37_34
theorem r37_35 : type_of% (@rr _ _ c37_35.eq_1) := rr rfl
def c37_36 : ACode := .cond (.t 23) c37_10 c37_35
theorem r37_36 : type_of% (@rr _ _ c37_36.eq_1) := rr rfl
def c37_37 : ACode := .seq c37_8 c37_36
theorem r37_37 : type_of% (@rr _ _ c37_37.eq_1) := rr rfl
def c37_38 : ACode := .block 0 c37_37
theorem r37_38 : type_of% (@rr _ _ c37_38.eq_1) := rr rfl
def c37_39 : ACode := .seq c37_7 c37_38
theorem r37_39 : type_of% (@rr _ _ c37_39.eq_1) := rr rfl
def c37_40 : ACode := .ops [⟨some 55, .fad (.t 5) 14, none, [5]⟩,⟨some 56, .load 1 false (.t 55), none, [5]⟩,⟨some 57, .iad (.t 6) (.t 56) 1 4, none, [6]⟩,⟨some 58, .load 1 false (.t 57), none, [6]⟩,⟨some 59, .mv (.t 3), none, []⟩,⟨some 60, .bin .geq (.t 58) (.t 59), none, []⟩] [3, 4, 5, 6, 9, 60]
theorem r37_40 : type_of% (@rr _ _ c37_40.eq_1) := rr rfl
def c37_41 : ACode := .ops [⟨some 8, .mv (.c (.bool false)), none, []⟩] [8]
theorem r37_41 : type_of% (@rr _ _ c37_41.eq_1) := rr rfl
def c37_42 : ACode := .seq c37_41 .ret
theorem r37_42 : type_of% (@rr _ _ c37_42.eq_1) := rr rfl
def c37_43 : ACode := .cond (.t 60) c37_42 .skip
theorem r37_43 : type_of% (@rr _ _ c37_43.eq_1) := rr rfl
def c37_44 : ACode := .seq c37_40 c37_43
theorem r37_44 : type_of% (@rr _ _ c37_44.eq_1) := rr rfl
def c37_45 : ACode := .ops [⟨some 61, .fad (.t 5) 14, none, [5]⟩,⟨some 62, .load 1 false (.t 61), none, [5]⟩,⟨some 63, .mv (.t 3), none, []⟩,⟨some 64, .iad (.t 6) (.t 62) 1 4, none, [6]⟩,⟨none, .store (.t 64) 1 (.t 63), none, [6]⟩] [4, 5, 6, 9]
theorem r37_45 : type_of% (@rr _ _ c37_45.eq_1) := rr rfl
def c37_46 : ACode := .ops [⟨some 65, .load 6 true (.t 4), none, [4]⟩,⟨some 66, .fad (.t 5) 1, none, [5]⟩,⟨some 67, .load 1 false (.t 66), none, [5]⟩,⟨some 68, .load 4 true (.t 6), none, [6]⟩,⟨some 69, .call 84 [.t 65, .t 67, .t 68], none, []⟩,⟨some 11, .mv (.t 69), none, []⟩] [5, 9, 11]
theorem r37_46 : type_of% (@rr _ _ c37_46.eq_1) := rr rfl
def c37_47 : ACode := .ops [⟨some 70, .fad (.t 5) 15, none, [5]⟩,⟨some 71, .load 1 false (.t 70), none, [5]⟩,⟨some 72, .mv (.t 71), none, []⟩,⟨some 73, .mv (.t 9), some (72, true), []⟩,⟨some 74, .mv (.t 11), some (72, true), []⟩,⟨some 75, .bin .lss (.t 73) (.t 74), some (72, true), []⟩,⟨some 76, .pick (.t 72) (.t 75) (.c (.bool false)), none, []⟩,⟨some 77, .mv (.t 76), none, []⟩,⟨some 78, .fad (.t 5) 15, some (77, false), [5]⟩,⟨some 79, .load 1 false (.t 78), some (77, false), [5]⟩,⟨some 80, .un .not (.t 79), some (77, false), []⟩,⟨some 81, .mv (.t 80), some (77, false), []⟩,⟨some 82, .mv (.t 9), some (81, true), []⟩,⟨some 83, .mv (.t 11), some (81, true), []⟩,⟨some 84, .bin .gtr (.t 82) (.t 83), some (81, true), []⟩,⟨some 85, .pick (.t 81) (.t 84) (.c (.bool false)), some (77, false), []⟩,⟨some 86, .pick (.t 77) (.c (.bool true)) (.t 85), none, []⟩,⟨some 8, .mv (.t 86), none, []⟩] [8]
theorem r37_47 : type_of% (@rr _ _ c37_47.eq_1) := rr rfl
def c37_48 : ACode := .seq c37_47 .ret
theorem r37_48 : type_of% (@rr _ _ c37_48.eq_1) := rr rfl
def c37_49 : ACode := .seq c37_46 c37_48
theorem r37_49 : type_of% (@rr _ _ c37_49.eq_1) := rr rfl
def c37_50 : ACode := .seq c37_45 c37_49
theorem r37_50 : type_of% (@rr _ _ c37_50.eq_1) := rr rfl
def c37_51 : ACode := .seq c37_44 c37_50
theorem r37_51 : type_of% (@rr _ _ c37_51.eq_1) := rr rfl
def c37_52 : ACode := .seq c37_39 c37_51
theorem r37_52 : type_of% (@rr _ _ c37_52.eq_1) := rr rfl
def c37_53 : ACode := .seq c37_6 c37_52
theorem r37_53 : type_of% (@rr _ _ c37_53.eq_1) := rr rfl
def c37_54 : ACode := .seq c37_5 c37_53
theorem r37_54 : type_of% (@rr _ _ c37_54.eq_1) := rr rfl
def c37_55 : ACode := .seq c37_0 c37_54
theorem r37_55 : type_of% (@rr _ _ c37_55.eq_1) := rr rfl
def a37 : AFun := ⟨4, 87, c37_55, [.t 8]⟩
attribute [simp] r37_0 r37_1 r37_2 r37_3 r37_4 r37_5 r37_6 r37_7 r37_8 r37_9 r37_10 r37_11 r37_12 r37_13 r37_14 r37_15 r37_16 r37_17 r37_18 r37_19 r37_20 r37_21 r37_22 r37_23 r37_24 r37_25 r37_26 r37_27 r37_28 r37_29 r37_30 r37_31 r37_32 r37_33 r37_34 r37_35 r37_36 r37_37 r37_38 r37_39 r37_40 r37_41 r37_42 r37_43 r37_44 r37_45 r37_46 r37_47 r37_48 r37_49 r37_50 r37_51 r37_52 r37_53 r37_54 r37_55
theorem m37 : mFun Try.prog Try.f37 a37 = true := by decide +kernel
theorem rRight_rest {C : Cs} (m : Model) (q : Query) (g : Nat → Nat) (h : Hp) (x y z : AV) : run C c79_45 [] ⟨[(2, .ptr 2 (g 2) 0), (3, .ptr 3 (g 3) 0), (33, x), (34, y), (35, z)], (2, ⟨Row.enc m, false, 0⟩) :: (3, ⟨Row.enc q, false, 0⟩) :: h, g⟩ (fin [.t 4] (.bool (okKind m q))) := by
  by_cases k1 : q.kind = 1
  case pos =>
    by_cases a0 : q.lo ≤ q.hi
    case neg => simp -implicitDefEqProofs [okKind, k1, a0]
    by_cases a1 : q.feature = 0
    case neg => simp -implicitDefEqProofs [okKind, k1, a0, a1]
    cases q.falls <;> simp -implicitDefEqProofs [okKind, k1, a0, a1]
  by_cases k2 : q.kind = 2
  case pos =>
    by_cases a0 : 2 ≤ m.classes
    case neg => simp -implicitDefEqProofs [okKind, k1, k2, a0]
    by_cases a1 : q.lo = 0
    case neg => simp -implicitDefEqProofs [okKind, k1, k2, a0, a1]
    by_cases a2 : q.hi = 0
    case neg => simp -implicitDefEqProofs [okKind, k1, k2, a0, a1, a2]
    by_cases a3 : q.feature = 0
    case neg => simp -implicitDefEqProofs [okKind, k1, k2, a0, a1, a2, a3]
    cases q.falls <;> simp -implicitDefEqProofs [okKind, k1, k2, a0, a1, a2, a3]
  by_cases k3 : q.kind = 3
  case pos =>
    by_cases a0 : 0 ≤ q.feature
    case neg => simp -implicitDefEqProofs [okKind, k1, k2, k3, a0]
    by_cases a1 : q.feature < m.dim
    case neg => simp -implicitDefEqProofs [okKind, k1, k2, k3, a0, a1]
    by_cases a2 : q.lo = 0
    case neg => simp -implicitDefEqProofs [okKind, k1, k2, k3, a0, a1, a2]
    simp -implicitDefEqProofs [okKind, k1, k2, k3, a0, a1, a2]
  simp -implicitDefEqProofs [okKind, k1, k2, k3]
theorem okRegion_get (b : Box) (dim : Int) : okRegion b dim = true ↔ ∀ j : Nat, j < 5 → okSpan dim j (b.get j) = true := by
  unfold okRegion
  simp only [Bool.and_eq_true]
  constructor
  · rintro ⟨⟨⟨⟨h0, h1⟩, h2⟩, h3⟩, h4⟩ j hj
    have : j = 0 ∨ j = 1 ∨ j = 2 ∨ j = 3 ∨ j = 4 := by omega
    rcases this with rfl | rfl | rfl | rfl | rfl
    · exact h0
    · exact h1
    · exact h2
    · exact h3
    · exact h4
  · intro h
    exact ⟨⟨⟨⟨h 0 (by omega), h 1 (by omega)⟩, h 2 (by omega)⟩, h 3 (by omega)⟩, h 4 (by omega)⟩
@[simp high] theorem rd_spanN (b : Box) (k : Nat) (h : k < 5) : rd [.int .i64 b.s0.lo, .int .i64 b.s0.hi, .int .i64 b.s1.lo, .int .i64 b.s1.hi, .int .i64 b.s2.lo, .int .i64 b.s2.hi, .int .i64 b.s3.lo, .int .i64 b.s3.hi, .int .i64 b.s4.lo, .int .i64 b.s4.hi] (k * 2) 2 true = some (.agg [.int .i64 (b.get k).lo, .int .i64 (b.get k).hi]) := by
  have hf : k = 0 ∨ k = 1 ∨ k = 2 ∨ k = 3 ∨ k = 4 := by omega
  rcases hf with rfl | rfl | rfl | rfl | rfl <;> rfl
theorem rRight_loop (m : Model) (q : Query) (hd : 1 ≤ m.dim ∧ m.dim ≤ 4) (g : Nat → Nat) (h : Hp) (hh : keepH h [2, 3] = [(2, ⟨Row.enc m, false, 0⟩), (3, ⟨Row.enc q, false, 0⟩)]) :
    run (tbl [(86, sp1 RModel), (126, sp2 Fits)]) (.loop c79_21) [Fr.blk 0, Fr.c c79_45] ⟨[(2, .ptr 2 (g 2) 0), (3, .ptr 3 (g 3) 0), (33, .agg (Row.enc q.region)), (34, .int .i64 0)], h, g⟩ (fin [.t 4] (.bool (okRegion q.region m.dim && okKind m q))) := by
  refine run_while (c := c79_20) (fun n s => ∃ (i : Nat) (g : Nat → Nat), i + n = 5 ∧ (∀ j : Nat, j < i → okSpan m.dim j (q.region.get j) = true) ∧ s = ⟨[(2, .ptr 2 (g 2) 0), (3, .ptr 3 (g 3) 0), (33, .agg (Row.enc q.region)), (34, .int .i64 i)], [(2, ⟨Row.enc m, false, 0⟩), (3, ⟨Row.enc q, false, 0⟩)], g⟩) 5 ⟨0, g, by omega, fun j hj => by omega, by simp only [hh]; rfl⟩ ?_
  rintro n s ⟨i, g, hi, hok, rfl⟩
  by_cases h1 : i < 5
  case neg =>
    have h1i : ¬ (i : Int) < 5 := by omega
    have hall : okRegion q.region m.dim = true := (okRegion_get _ _).2 fun j hj => hok j (by omega)
    rw [hall, Bool.true_and]
    simp -implicitDefEqProofs [h1i, -r79_45]
    exact rRight_rest m q g [] _ _ _
  have h1i : (i : Int) < 5 := by omega
  have w1 : IntKind.i64.wrap ((i : Int) + 1) = (i : Int) + 1 := wrap64 (by omega) (by omega)
  have hbad : okSpan m.dim i (q.region.get i) = false → (okRegion q.region m.dim && okKind m q) = false := by
    intro hb
    have : okRegion q.region m.dim = false := by
      cases hr : okRegion q.region m.dim
      · rfl
      · rw [(okRegion_get _ _).1 hr i h1] at hb; cases hb
    rw [this]
    rfl
  have hgood : okSpan m.dim i (q.region.get i) = true → ∀ j : Nat, j < i + 1 → okSpan m.dim j (q.region.get j) = true := by
    intro hb j hj
    by_cases e : j = i
    · subst e; exact hb
    · exact hok j (by omega)
  unfold okSpan Span.empty at hbad hgood
  generalize hsp : q.region.get i = sp at *
  have hrd : q.region.get (i : Int) = sp := hsp
  by_cases a1 : (i : Int) < m.dim
  · have a2 : ¬ m.dim ≤ i := by omega
    by_cases e1 : sp.hi < sp.lo
    case pos =>
      rw [hbad (by simp [e1])]
      simp -implicitDefEqProofs [h1, h1i, hrd, a1, a2, e1, Fits]
    cases e2 : fits sp.lo
    case false =>
      rw [hbad (by simp [e2])]
      simp -implicitDefEqProofs [h1, h1i, hrd, a1, a2, e1, e2, Fits]
    cases e3 : fits sp.hi
    case false =>
      rw [hbad (by simp [e3])]
      simp -implicitDefEqProofs [h1, h1i, hrd, a1, a2, e1, e2, e3, Fits]
    have hg := hgood (by simp [a1, e1, e2, e3])
    simp -implicitDefEqProofs [h1, h1i, hrd, a1, a2, e1, e2, e3, Fits, w1]
    exact ⟨n - 1, by omega, i + 1, by omega, hg, by omega⟩
  · have a2 : m.dim ≤ i := by omega
    by_cases e1 : sp.lo = 0
    case neg =>
      rw [hbad (by have : sp ≠ ⟨0, 0⟩ := fun e => e1 (by rw [e]); simp [a1, this])]
      simp -implicitDefEqProofs [h1, h1i, hrd, a1, a2, e1, Fits]
    by_cases e2 : sp.hi = 0
    case neg =>
      rw [hbad (by have : sp ≠ ⟨0, 0⟩ := fun e => e2 (by rw [e]); simp [a1, this])]
      simp -implicitDefEqProofs [h1, h1i, hrd, a1, a2, e1, e2, Fits]
    have hz : sp = ⟨0, 0⟩ := by obtain ⟨x, y⟩ := sp; simp only at e1 e2; rw [e1, e2]
    have fz : fits 0 = true := rfl
    have hg := hgood (by rw [hz]; simp [fz])
    simp -implicitDefEqProofs [h1, h1i, hrd, a1, a2, e1, e2, Fits, w1]
    exact ⟨n - 1, by omega, i + 1, by omega, hg, by omega⟩
theorem runs_rRight (m : Model) (q : Query) (c : Bool) (h : Part (RM m) (okQuery m q) = some c) : Runs (tbl [(86, sp1 RModel), (126, sp2 Fits)]) a79 [Arg.enc m, Arg.enc q] (Arg.enc c) := by
  obtain ⟨hr, rfl⟩ := part_some h
  clear h
  refine ⟨rfl, fun g => run_def ?_⟩
  unfold a79
  have hM : RModel m = some true := part_of hr _
  have hd := hr.dim
  by_cases a0 : q.cls < 0
  case pos =>
    have : ¬ 0 ≤ q.cls := by omega
    simp -implicitDefEqProofs [hM, a0, okQuery, this]
  have a0' : 0 ≤ q.cls := by omega
  by_cases a1 : m.classes ≤ q.cls
  case pos =>
    have : ¬ q.cls < m.classes := by omega
    simp -implicitDefEqProofs [hM, a0, a1, okQuery, this]
  have a1' : q.cls < m.classes := by omega
  by_cases a2 : q.budget < 0
  case pos =>
    have : ¬ 0 ≤ q.budget := by omega
    simp -implicitDefEqProofs [hM, a0, a1, a2, okQuery, this]
  have a2' : 0 ≤ q.budget := by omega
  by_cases a3 : 65536 < q.budget
  case pos =>
    have : ¬ q.budget ≤ 65536 := by omega
    simp -implicitDefEqProofs [hM, a0, a1, a2, a3, okQuery, this]
  have a3' : q.budget ≤ 65536 := by omega
  have hres : okQuery m q = (okRegion q.region m.dim && okKind m q) := by simp [okQuery, a0', a1', a2', a3']
  rw [hres]
  simp -implicitDefEqProofs [hM, a0, a1, a2, a3, -r79_22]
  exact rRight_loop m q hd (bump 3 (bump 2 g)) _ (by simp)
noncomputable def RQRight (m : Model) (q : Query) : Option Bool := Part (RM m) (okQuery m q)
theorem c_rRight' : Contract Try.prog 79 (sp2 RQRight) :=
  contract_of_runs mixed (tbl_cons c_rModel (tbl_cons c_rFits tbl_nil)) Try.func79 m79 (sp2_runs runs_rRight)
theorem runs_rStart (q : Query) (c : Box) (h : some (startOf q) = some c) : Runs (tbl []) a33 [Arg.enc q] (Arg.enc c) := by
  cases h
  refine ⟨rfl, fun g => run_def ?_⟩
  unfold a33
  obtain ⟨kind, cls, region, lo, hi, feature, falls, budget⟩ := q
  by_cases k1 : kind = 3
  case neg => simp -implicitDefEqProofs [startOf, paired, k1]
  by_cases k2 : 0 ≤ feature
  case neg => simp -implicitDefEqProofs [startOf, paired, k1, k2]
  by_cases k3 : feature < 4
  case neg => simp -implicitDefEqProofs [startOf, paired, k1, k2, k3]
  have hf : feature = 0 ∨ feature = 1 ∨ feature = 2 ∨ feature = 3 := by omega
  rcases hf with rfl | rfl | rfl | rfl <;> simp -implicitDefEqProofs [startOf, paired, k1, Box.get]
theorem c_rStart : Contract Try.prog 33 (sp1 fun q => some (startOf q)) :=
  contract_of_runs mixed tbl_nil Try.func33 m33 (sp1_runs runs_rStart)
end Go.Co
