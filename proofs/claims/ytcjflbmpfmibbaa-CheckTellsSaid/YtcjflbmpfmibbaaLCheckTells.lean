/- The law CheckTells: what its text computes. -/
import Derived.Test.YtcjflbmpfmibbaaCz16
import Derived.Test.YtcjflbmpfmibbaaCz9
import Derived.Test.YtcjflbmpfmibbaaCz7
set_option maxHeartbeats 16000000
set_option maxRecDepth 100000
namespace Go.Co
open Go.Am Go.Proofs
set_option linter.unusedSimpArgs false
set_option linter.unusedVariables false
attribute [-simp] Go.Am.eff_gcall
def c6_0 : ACode := .ops [⟨some 7, .box (.t 0) 4, none, []⟩,⟨some 8, .box (.t 1) 8, none, []⟩,⟨some 9, .box (.t 2) 8, none, []⟩,⟨some 10, .box (.t 3) 2, none, []⟩,⟨some 13, .box (.t 6) 10, none, []⟩,⟨some 14, .mv (.c (.bool false)), none, []⟩] [4, 5, 7, 8, 9, 10, 13]
theorem r6_0 : type_of% (@rr _ _ c6_0.eq_1) := rr rfl
def c6_1 : ACode := .ops [⟨some 25, .load 4 true (.t 7), none, [7]⟩,⟨some 26, .call 15 [.t 25], none, []⟩,⟨some 15, .alloc [.int .i64 0, .int .i64 0, .int .i64 0, .int .i64 0, .int .i64 0, .nils], none, []⟩,⟨none, .store (.t 15) 6 (.t 26), none, [15]⟩] [4, 5, 8, 9, 10, 13, 15]
theorem r6_1 : type_of% (@rr _ _ c6_1.eq_1) := rr rfl
def c6_2 : ACode := .ops [⟨some 27, .load 8 true (.t 8), none, [8]⟩,⟨some 28, .load 6 true (.t 15), none, [15]⟩,⟨some 29, .call 31 [.t 27, .t 28], none, []⟩,⟨some 16, .alloc [.int .i64 0, .int .i64 0, .int .i64 0, .int .i64 0, .int .i64 0, .int .i64 0, .int .i64 0, .int .i64 0, .int .i64 0, .int .i64 0, .int .i64 0, .int .i64 0, .int .i64 0, .int .i64 0, .int .i64 0, .bool false, .int .i64 0], none, []⟩,⟨none, .store (.t 16) 17 (.t 29), none, [16]⟩] [4, 5, 8, 9, 10, 13, 15, 16]
theorem r6_2 : type_of% (@rr _ _ c6_2.eq_1) := rr rfl
def c6_3 : ACode := .ops [⟨some 30, .fad (.t 9) 1, none, [9]⟩,⟨some 31, .load 1 false (.t 30), none, [9]⟩,⟨some 32, .fad (.t 9) 1, none, [9]⟩,⟨some 33, .load 1 false (.t 32), none, [9]⟩,⟨some 34, .len (.t 33), none, [57]⟩,⟨some 35, .mnmx false (.t 34) (.c (.int .i64 40)), none, []⟩,⟨some 36, .sl (.t 31) none (some (.t 35)) 3, none, [57]⟩,⟨some 37, .fad (.t 9) 1, none, [9]⟩,⟨none, .store (.t 37) 1 (.t 36), none, [9]⟩] [4, 5, 8, 9, 10, 13, 15, 16]
theorem r6_3 : type_of% (@rr _ _ c6_3.eq_1) := rr rfl
def c6_4 : ACode := .ops [⟨some 38, .mv (.t 4), none, []⟩,⟨some 39, .call 24 [.t 38, .c (.int .i64 0), .c (.int .i64 4)], none, []⟩] [4, 5, 8, 9, 10, 13, 15, 16, 39]
theorem r6_4 : type_of% (@rr _ _ c6_4.eq_1) := rr rfl
def c6_5 : ACode := .ops [⟨some 41, .bin .eql (.t 39) (.c (.int .i64 0)), none, []⟩,⟨some 40, .mv (.t 41), none, []⟩] [4, 5, 8, 9, 10, 13, 15, 16, 39, 40]
theorem r6_5 : type_of% (@rr _ _ c6_5.eq_1) := rr rfl
def c6_6 : ACode := .ops [⟨some 43, .load 2 true (.t 10), none, [10]⟩,⟨some 44, .load 17 true (.t 16), none, [16]⟩,⟨some 45, .call 33 [.t 44], none, []⟩,⟨some 46, .call 32 [.t 43, .t 45], none, []⟩,⟨some 42, .mv (.t 46), none, []⟩,⟨some 47, .ext (.t 42) 0, none, []⟩,⟨some 48, .ext (.t 42) 1, none, []⟩,⟨some 17, .mv (.t 47), none, []⟩,⟨some 18, .mv (.t 48), none, []⟩] [9, 13, 15, 16, 18]
theorem r6_6 : type_of% (@rr _ _ c6_6.eq_1) := rr rfl
def c6_7 : ACode := .ops [⟨some 49, .mv (.t 18), none, []⟩,⟨some 50, .build [.int .i64 0, .nils, .int .i64 0, .int .i64 0, .int .i64 0, .int .i64 0, .int .i64 0, .int .i64 0] [(0, 1, .c (.int .i64 1)), (1, 1, .t 49)], none, []⟩,⟨none, .store (.t 9) 8 (.t 50), none, [9]⟩] [9, 13, 15, 16]
theorem r6_7 : type_of% (@rr _ _ c6_7.eq_1) := rr rfl
def c6_8 : ACode := .seq c6_6 c6_7
theorem r6_8 : type_of% (@rr _ _ c6_8.eq_1) := rr rfl
def c6_9 : ACode := .ops [⟨some 52, .bin .eql (.t 39) (.c (.int .i64 1)), none, []⟩,⟨some 51, .mv (.t 52), none, []⟩] [4, 5, 8, 9, 13, 15, 16, 39, 51]
theorem r6_9 : type_of% (@rr _ _ c6_9.eq_1) := rr rfl
def c6_10 : ACode := .ops [⟨some 53, .bin .eql (.t 39) (.c (.int .i64 2)), none, []⟩,⟨some 51, .mv (.t 53), none, []⟩] [4, 5, 8, 9, 13, 15, 16, 39, 51]
theorem r6_10 : type_of% (@rr _ _ c6_10.eq_1) := rr rfl
def c6_11 : ACode := .cond (.t 51) .skip c6_10
theorem r6_11 : type_of% (@rr _ _ c6_11.eq_1) := rr rfl
def c6_12 : ACode := .seq c6_9 c6_11
theorem r6_12 : type_of% (@rr _ _ c6_12.eq_1) := rr rfl
def c6_13 : ACode := .ops [⟨some 54, .fad (.t 16) 16, none, [16]⟩,⟨none, .store (.t 54) 1 (.c (.int .i64 400)), none, [16]⟩] [4, 5, 9, 13, 15, 16]
theorem r6_13 : type_of% (@rr _ _ c6_13.eq_1) := rr rfl
def c6_14 : ACode := .ops [⟨some 55, .load 6 true (.t 15), none, [15]⟩,⟨some 56, .load 17 true (.t 16), none, [16]⟩,⟨some 57, .gcall 34 [.t 55, .t 56] [] 57, none, []⟩,⟨none, .store (.t 9) 8 (.t 57), none, [9]⟩] [4, 5, 9, 13, 15, 16]
theorem r6_14 : type_of% (@rr _ _ c6_14.eq_1) := rr rfl
def c6_15 : ACode := .ops [⟨some 58, .fad (.t 9) 1, none, [9]⟩,⟨some 59, .load 1 false (.t 58), none, [9]⟩,⟨some 60, .len (.t 59), none, [57]⟩,⟨some 61, .bin .gtr (.t 60) (.c (.int .i64 0)), none, []⟩,⟨some 62, .mv (.t 61), none, []⟩,⟨some 63, .mv (.t 4), some (62, true), []⟩,⟨some 64, .bin .and (.t 63) (.c (.int .i64 1)), some (62, true), []⟩,⟨some 65, .bin .eql (.t 64) (.c (.int .i64 0)), some (62, true), []⟩,⟨some 66, .pick (.t 62) (.t 65) (.c (.bool false)), none, []⟩] [5, 9, 13, 15, 16, 66]
theorem r6_15 : type_of% (@rr _ _ c6_15.eq_1) := rr rfl
def c6_16 : ACode := .ops [⟨some 67, .fad (.t 9) 1, none, [9]⟩,⟨some 68, .load 1 false (.t 67), none, [9]⟩,⟨some 69, .mv (.t 5), none, []⟩,⟨some 70, .fad (.t 9) 1, none, [9]⟩,⟨some 71, .load 1 false (.t 70), none, [9]⟩,⟨some 72, .len (.t 71), none, [57]⟩,⟨some 73, .bin .sub (.t 72) (.c (.int .i64 1)), none, []⟩,⟨some 74, .call 24 [.t 69, .c (.int .i64 0), .t 73], none, []⟩,⟨some 75, .mv (.t 5), none, []⟩,⟨some 76, .ias (.t 68) (.t 74) 3, none, [57]⟩,⟨some 77, .fad (.t 76) 2, none, [57]⟩,⟨none, .store (.t 77) 1 (.t 75), none, [57]⟩] [9, 13, 15, 16]
theorem r6_16 : type_of% (@rr _ _ c6_16.eq_1) := rr rfl
def c6_17 : ACode := .cond (.t 66) c6_16 .skip
theorem r6_17 : type_of% (@rr _ _ c6_17.eq_1) := rr rfl
def c6_18 : ACode := .seq c6_15 c6_17
theorem r6_18 : type_of% (@rr _ _ c6_18.eq_1) := rr rfl
def c6_19 : ACode := .seq c6_14 c6_18
theorem r6_19 : type_of% (@rr _ _ c6_19.eq_1) := rr rfl
def c6_20 : ACode := .seq c6_13 c6_19
theorem r6_20 : type_of% (@rr _ _ c6_20.eq_1) := rr rfl
def c6_21 : ACode := .ops [⟨some 79, .bin .eql (.t 39) (.c (.int .i64 3)), none, []⟩,⟨some 78, .mv (.t 79), none, []⟩] [5, 8, 9, 13, 15, 16, 78]
theorem r6_21 : type_of% (@rr _ _ c6_21.eq_1) := rr rfl
def c6_22 : ACode := .ops [⟨some 80, .load 17 true (.t 16), none, [16]⟩,⟨some 81, .call 33 [.t 80], none, []⟩,⟨some 82, .fad (.t 8) 7, none, [8]⟩,⟨some 83, .load 1 false (.t 82), none, [8]⟩,⟨some 84, .call 26 [.t 81, .t 83], none, []⟩,⟨some 85, .mv (.t 5), none, []⟩,⟨some 86, .load 17 true (.t 16), none, [16]⟩,⟨some 87, .call 33 [.t 86], none, []⟩,⟨some 88, .idx (.t 87) (.c (.int .i64 4)) 2 5 true, none, []⟩,⟨some 89, .fld (.t 88) 0 1 false, none, []⟩,⟨some 90, .load 17 true (.t 16), none, [16]⟩,⟨some 91, .call 33 [.t 90], none, []⟩,⟨some 92, .idx (.t 91) (.c (.int .i64 4)) 2 5 true, none, []⟩,⟨some 93, .fld (.t 92) 1 1 false, none, []⟩,⟨some 94, .call 24 [.t 85, .t 89, .t 93], none, []⟩,⟨some 95, .build [.int .i64 0, .nils, .int .i64 0, .int .i64 0, .int .i64 0, .int .i64 0, .int .i64 0, .int .i64 0] [(0, 1, .c (.int .i64 2)), (2, 4, .t 84), (6, 1, .t 94)], none, []⟩,⟨none, .store (.t 9) 8 (.t 95), none, [9]⟩] [9, 13, 15, 16]
theorem r6_22 : type_of% (@rr _ _ c6_22.eq_1) := rr rfl
def c6_23 : ACode := .cond (.t 78) c6_22 .skip
theorem r6_23 : type_of% (@rr _ _ c6_23.eq_1) := rr rfl
def c6_24 : ACode := .seq c6_21 c6_23
theorem r6_24 : type_of% (@rr _ _ c6_24.eq_1) := rr rfl
def c6_25 : ACode := .cond (.t 51) c6_20 c6_24
theorem r6_25 : type_of% (@rr _ _ c6_25.eq_1) := rr rfl
def c6_26 : ACode := .seq c6_12 c6_25
theorem r6_26 : type_of% (@rr _ _ c6_26.eq_1) := rr rfl
def c6_27 : ACode := .cond (.t 40) c6_8 c6_26
theorem r6_27 : type_of% (@rr _ _ c6_27.eq_1) := rr rfl
def c6_28 : ACode := .seq c6_5 c6_27
theorem r6_28 : type_of% (@rr _ _ c6_28.eq_1) := rr rfl
def c6_29 : ACode := .block 0 c6_28
theorem r6_29 : type_of% (@rr _ _ c6_29.eq_1) := rr rfl
def c6_30 : ACode := .seq c6_4 c6_29
theorem r6_30 : type_of% (@rr _ _ c6_30.eq_1) := rr rfl
def c6_31 : ACode := .ops [⟨some 19, .mv (.c (.bool false)), none, []⟩] [9, 13, 15, 16, 19]
theorem r6_31 : type_of% (@rr _ _ c6_31.eq_1) := rr rfl
def c6_32 : ACode := .ops [⟨some 96, .fad (.t 9) 0, none, [9]⟩,⟨some 97, .load 1 false (.t 96), none, [9]⟩] [9, 13, 15, 16, 19, 97]
theorem r6_32 : type_of% (@rr _ _ c6_32.eq_1) := rr rfl
def c6_33 : ACode := .ops [⟨some 99, .bin .eql (.t 97) (.c (.int .i64 1)), none, []⟩,⟨some 98, .mv (.t 99), none, []⟩] [9, 13, 15, 16, 19, 97, 98]
theorem r6_33 : type_of% (@rr _ _ c6_33.eq_1) := rr rfl
def c6_34 : ACode := .ops [⟨some 100, .fad (.t 9) 1, none, [9]⟩,⟨some 101, .load 1 false (.t 100), none, [9]⟩,⟨some 102, .len (.t 101), none, [57]⟩,⟨some 103, .bin .gtr (.t 102) (.c (.int .i64 0)), none, []⟩,⟨some 104, .mv (.t 103), none, []⟩,⟨some 105, .load 6 true (.t 15), some (104, true), [15]⟩,⟨some 106, .load 17 true (.t 16), some (104, true), [16]⟩,⟨some 107, .fad (.t 9) 1, some (104, true), [9]⟩,⟨some 108, .load 1 false (.t 107), some (104, true), [9]⟩,⟨some 109, .call 35 [.t 105, .t 106, .t 108], some (104, true), [57]⟩,⟨some 110, .pick (.t 104) (.t 109) (.c (.bool false)), none, []⟩,⟨some 19, .mv (.t 110), none, []⟩] [9, 13, 15, 16, 19]
theorem r6_34 : type_of% (@rr _ _ c6_34.eq_1) := rr rfl
def c6_35 : ACode := .ops [⟨some 112, .bin .eql (.t 97) (.c (.int .i64 2)), none, []⟩,⟨some 111, .mv (.t 112), none, []⟩] [9, 13, 15, 16, 19, 111]
theorem r6_35 : type_of% (@rr _ _ c6_35.eq_1) := rr rfl
def c6_36 : ACode := .ops [⟨some 113, .load 6 true (.t 15), none, [15]⟩,⟨some 114, .load 17 true (.t 16), none, [16]⟩,⟨some 115, .fad (.t 9) 2, none, [9]⟩,⟨some 116, .load 4 true (.t 115), none, [9]⟩,⟨some 117, .fad (.t 9) 6, none, [9]⟩,⟨some 118, .load 1 false (.t 117), none, [9]⟩,⟨some 119, .call 36 [.t 113, .t 114, .t 116, .t 118], none, []⟩,⟨some 120, .mv (.t 119), none, []⟩,⟨some 121, .load 6 true (.t 15), some (120, true), [15]⟩,⟨some 122, .load 17 true (.t 16), some (120, true), [16]⟩,⟨some 123, .fad (.t 9) 2, some (120, true), [9]⟩,⟨some 124, .load 4 true (.t 123), some (120, true), [9]⟩,⟨some 125, .fad (.t 9) 6, some (120, true), [9]⟩,⟨some 126, .load 1 false (.t 125), some (120, true), [9]⟩,⟨some 127, .call 37 [.t 121, .t 122, .t 124, .t 126], some (120, true), []⟩,⟨some 128, .pick (.t 120) (.t 127) (.c (.bool false)), none, []⟩,⟨some 19, .mv (.t 128), none, []⟩] [9, 13, 15, 16, 19]
theorem r6_36 : type_of% (@rr _ _ c6_36.eq_1) := rr rfl
def c6_37 : ACode := .cond (.t 111) c6_36 .skip
theorem r6_37 : type_of% (@rr _ _ c6_37.eq_1) := rr rfl
def c6_38 : ACode := .seq c6_35 c6_37
theorem r6_38 : type_of% (@rr _ _ c6_38.eq_1) := rr rfl
def c6_39 : ACode := .cond (.t 98) c6_34 c6_38
theorem r6_39 : type_of% (@rr _ _ c6_39.eq_1) := rr rfl
def c6_40 : ACode := .seq c6_33 c6_39
theorem r6_40 : type_of% (@rr _ _ c6_40.eq_1) := rr rfl
def c6_41 : ACode := .block 1 c6_40
theorem r6_41 : type_of% (@rr _ _ c6_41.eq_1) := rr rfl
def c6_42 : ACode := .seq c6_32 c6_41
theorem r6_42 : type_of% (@rr _ _ c6_42.eq_1) := rr rfl
def c6_43 : ACode := .ops [⟨some 130, .load 6 true (.t 15), none, [15]⟩,⟨some 131, .fad (.t 16) 1, none, [16]⟩,⟨some 132, .load 1 false (.t 131), none, [16]⟩,⟨some 133, .load 10 true (.t 13), none, [13]⟩,⟨some 134, .call 38 [.t 130, .t 132, .t 133], none, []⟩,⟨some 129, .mv (.t 134), none, []⟩,⟨some 135, .ext (.t 129) 0, none, []⟩,⟨some 136, .ext (.t 129) 1, none, []⟩,⟨some 20, .mv (.t 135), none, []⟩,⟨some 21, .mv (.t 136), none, []⟩] [9, 13, 15, 16, 19, 20, 21]
theorem r6_43 : type_of% (@rr _ _ c6_43.eq_1) := rr rfl
def c6_44 : ACode := .ops [⟨some 138, .load 6 true (.t 15), none, [15]⟩,⟨some 139, .fad (.t 16) 1, none, [16]⟩,⟨some 140, .load 1 false (.t 139), none, [16]⟩,⟨some 141, .load 10 true (.t 13), none, [13]⟩,⟨some 142, .call 39 [.t 138, .t 140, .t 141], none, []⟩,⟨some 137, .mv (.t 142), none, []⟩,⟨some 143, .ext (.t 137) 0, none, []⟩,⟨some 144, .ext (.t 137) 1, none, []⟩,⟨some 145, .ext (.t 137) 2, none, []⟩,⟨some 22, .mv (.t 143), none, []⟩,⟨some 23, .mv (.t 144), none, []⟩,⟨some 24, .mv (.t 145), none, []⟩] [9, 15, 16, 19, 20, 21, 22, 23]
theorem r6_44 : type_of% (@rr _ _ c6_44.eq_1) := rr rfl
def c6_45 : ACode := .ops [⟨some 146, .load 6 true (.t 15), none, [15]⟩,⟨some 147, .load 17 true (.t 16), none, [16]⟩,⟨some 148, .load 8 true (.t 9), none, [9]⟩,⟨some 149, .call 40 [.t 146, .t 147, .t 148], none, [57]⟩,⟨some 150, .mv (.t 19), none, []⟩,⟨some 151, .eqb false (.t 149) (.t 150), none, []⟩,⟨some 152, .mv (.t 151), none, []⟩,⟨some 153, .mv (.t 20), some (152, true), []⟩,⟨some 154, .mv (.t 22), some (152, true), []⟩,⟨some 155, .bin .eql (.t 153) (.t 154), some (152, true), []⟩,⟨some 156, .pick (.t 152) (.t 155) (.c (.bool false)), none, []⟩,⟨some 157, .mv (.t 156), none, []⟩,⟨some 158, .mv (.t 21), some (157, true), []⟩,⟨some 159, .mv (.t 23), some (157, true), []⟩,⟨some 160, .bin .eql (.t 158) (.t 159), some (157, true), []⟩,⟨some 161, .pick (.t 157) (.t 160) (.c (.bool false)), none, []⟩,⟨some 162, .mv (.t 161), none, []⟩,⟨some 163, .call 41 [], some (162, true), []⟩,⟨some 164, .pick (.t 162) (.t 163) (.c (.bool false)), none, []⟩,⟨some 14, .mv (.t 164), none, []⟩] [14]
theorem r6_45 : type_of% (@rr _ _ c6_45.eq_1) := rr rfl
def c6_46 : ACode := .seq c6_45 .ret
theorem r6_46 : type_of% (@rr _ _ c6_46.eq_1) := rr rfl
def c6_47 : ACode := .seq c6_44 c6_46
theorem r6_47 : type_of% (@rr _ _ c6_47.eq_1) := rr rfl
def c6_48 : ACode := .seq c6_43 c6_47
theorem r6_48 : type_of% (@rr _ _ c6_48.eq_1) := rr rfl
def c6_49 : ACode := .seq c6_42 c6_48
theorem r6_49 : type_of% (@rr _ _ c6_49.eq_1) := rr rfl
def c6_50 : ACode := .seq c6_31 c6_49
theorem r6_50 : type_of% (@rr _ _ c6_50.eq_1) := rr rfl
def c6_51 : ACode := .seq c6_30 c6_50
theorem r6_51 : type_of% (@rr _ _ c6_51.eq_1) := rr rfl
def c6_52 : ACode := .seq c6_3 c6_51
theorem r6_52 : type_of% (@rr _ _ c6_52.eq_1) := rr rfl
def c6_53 : ACode := .seq c6_2 c6_52
theorem r6_53 : type_of% (@rr _ _ c6_53.eq_1) := rr rfl
def c6_54 : ACode := .seq c6_1 c6_53
theorem r6_54 : type_of% (@rr _ _ c6_54.eq_1) := rr rfl
def c6_55 : ACode := .seq c6_0 c6_54
theorem r6_55 : type_of% (@rr _ _ c6_55.eq_1) := rr rfl
def a6 : AFun := ⟨7, 165, c6_55, [.t 14]⟩
attribute [simp] r6_0 r6_1 r6_2 r6_3 r6_4 r6_5 r6_6 r6_7 r6_8 r6_9 r6_10 r6_11 r6_12 r6_13 r6_14 r6_15 r6_16 r6_17 r6_18 r6_19 r6_20 r6_21 r6_22 r6_23 r6_24 r6_25 r6_26 r6_27 r6_28 r6_29 r6_30 r6_31 r6_32 r6_33 r6_34 r6_35 r6_36 r6_37 r6_38 r6_39 r6_40 r6_41 r6_42 r6_43 r6_44 r6_45 r6_46 r6_47 r6_48 r6_49 r6_50 r6_51 r6_52 r6_53 r6_54 r6_55
theorem m6 : mFun Try.prog Try.f6 a6 = true := by decide +kernel
def c41_0 : ACode := .ops [⟨some 0, .mv (.c (.bool false)), none, []⟩] []
def c41_1 : ACode := .ops [⟨some 9, .call 74 [], none, []⟩,⟨some 1, .alloc [.int .i64 0, .int .i64 0, .int .i64 0, .int .i64 0, .int .i64 0, .nils], none, []⟩,⟨none, .store (.t 1) 6 (.t 9), none, [1]⟩] [1]
def c41_2 : ACode := .ops [⟨some 10, .build [.int .i64 0, .int .i64 0] [(0, 1, .c (.int .i64 0)), (1, 1, .c (.int .i64 9))], none, []⟩,⟨some 11, .build [.int .i64 0, .int .i64 0, .int .i64 0, .int .i64 0, .int .i64 0, .int .i64 0, .int .i64 0, .int .i64 0, .int .i64 0, .int .i64 0] [(0, 2, .t 10)], none, []⟩,⟨some 12, .build [.int .i64 0, .int .i64 0, .int .i64 0, .int .i64 0, .int .i64 0, .int .i64 0, .int .i64 0, .int .i64 0, .int .i64 0, .int .i64 0, .int .i64 0, .int .i64 0, .int .i64 0, .int .i64 0, .int .i64 0, .bool false, .int .i64 0] [(0, 1, .c (.int .i64 3)), (2, 10, .t 11)], none, []⟩,⟨some 2, .alloc [.int .i64 0, .int .i64 0, .int .i64 0, .int .i64 0, .int .i64 0, .int .i64 0, .int .i64 0, .int .i64 0, .int .i64 0, .int .i64 0, .int .i64 0, .int .i64 0, .int .i64 0, .int .i64 0, .int .i64 0, .bool false, .int .i64 0], none, []⟩,⟨none, .store (.t 2) 17 (.t 12), none, [2]⟩] [1, 2]
def c41_3 : ACode := .ops [⟨some 13, .build [.bool false, .int .i64 0, .int .i64 0] [(2, 1, .c (.int .i64 5))], none, []⟩,⟨some 14, .build [.bool false, .int .i64 0, .int .i64 0] [(0, 1, .c (.bool true))], none, []⟩,⟨some 15, .build [.bool false, .int .i64 0, .int .i64 0] [(1, 1, .c (.int .i64 4)), (2, 1, .c (.int .i64 5))], none, []⟩,⟨some 16, .build [.bool false, .int .i64 0, .int .i64 0] [(0, 1, .c (.bool true))], none, []⟩,⟨some 17, .build [.bool false, .int .i64 0, .int .i64 0] [(0, 1, .c (.bool true))], none, []⟩,⟨some 18, .mkrow 18 5 3 [.bool false, .int .i64 0, .int .i64 0] [(0, 3, .t 13), (3, 3, .t 14), (6, 3, .t 15), (9, 3, .t 16), (12, 3, .t 17)], none, []⟩,⟨some 19, .build [.int .i64 0, .nils, .int .i64 0, .int .i64 0, .int .i64 0, .int .i64 0, .int .i64 0, .int .i64 0] [(0, 1, .c (.int .i64 1)), (1, 1, .t 18)], none, []⟩,⟨some 3, .alloc [.int .i64 0, .nils, .int .i64 0, .int .i64 0, .int .i64 0, .int .i64 0, .int .i64 0, .int .i64 0], none, []⟩,⟨none, .store (.t 3) 8 (.t 19), none, [3]⟩] [1, 2, 3]
def c41_4 : ACode := .ops [⟨some 20, .build [.bool false, .int .i64 0, .int .i64 0] [(0, 1, .c (.bool true))], none, []⟩,⟨some 21, .mkrow 21 1 3 [.bool false, .int .i64 0, .int .i64 0] [(0, 3, .t 20)], none, []⟩,⟨some 22, .build [.int .i64 0, .nils, .int .i64 0, .int .i64 0, .int .i64 0, .int .i64 0, .int .i64 0, .int .i64 0] [(0, 1, .c (.int .i64 1)), (1, 1, .t 21)], none, []⟩,⟨some 4, .alloc [.int .i64 0, .nils, .int .i64 0, .int .i64 0, .int .i64 0, .int .i64 0, .int .i64 0, .int .i64 0], none, []⟩,⟨none, .store (.t 4) 8 (.t 22), none, [4]⟩] [1, 2, 3, 4]
def c41_5 : ACode := .ops [⟨some 23, .build [.int .i64 0, .nils, .int .i64 0, .int .i64 0, .int .i64 0, .int .i64 0, .int .i64 0, .int .i64 0] [(0, 1, .c (.int .i64 2)), (6, 1, .c (.int .i64 9))], none, []⟩,⟨some 5, .alloc [.int .i64 0, .nils, .int .i64 0, .int .i64 0, .int .i64 0, .int .i64 0, .int .i64 0, .int .i64 0], none, []⟩,⟨none, .store (.t 5) 8 (.t 23), none, [5]⟩] [1, 2, 3, 4, 5]
def c41_6 : ACode := .ops [⟨some 24, .load 6 true (.t 1), none, [1]⟩,⟨some 25, .load 17 true (.t 2), none, [2]⟩,⟨some 26, .load 8 true (.t 3), none, [3]⟩,⟨some 27, .call 40 [.t 24, .t 25, .t 26], none, [18]⟩,⟨some 28, .load 6 true (.t 1), none, [1]⟩,⟨some 29, .load 17 true (.t 2), none, [2]⟩,⟨some 30, .load 8 true (.t 4), none, [4]⟩,⟨some 31, .call 40 [.t 28, .t 29, .t 30], none, [21]⟩,⟨some 32, .load 6 true (.t 1), none, [1]⟩,⟨some 33, .load 17 true (.t 2), none, [2]⟩,⟨some 34, .load 8 true (.t 5), none, [5]⟩,⟨some 35, .call 40 [.t 32, .t 33, .t 34], none, []⟩,⟨some 6, .mv (.t 27), none, []⟩,⟨some 7, .mv (.t 31), none, []⟩,⟨some 8, .mv (.t 35), none, []⟩] [1, 2, 3, 5, 6, 7, 8]
def c41_7 : ACode := .ops [⟨some 36, .fad (.t 2) 15, none, [2]⟩,⟨none, .store (.t 36) 1 (.c (.bool true)), none, [2]⟩] [1, 2, 3, 5, 6, 7, 8]
def c41_8 : ACode := .ops [⟨some 37, .mv (.t 6), none, []⟩,⟨some 38, .mv (.t 37), none, []⟩,⟨some 39, .mv (.t 7), some (38, true), []⟩,⟨some 40, .un .not (.t 39), some (38, true), []⟩,⟨some 41, .pick (.t 38) (.t 40) (.c (.bool false)), none, []⟩,⟨some 42, .mv (.t 41), none, []⟩,⟨some 43, .mv (.t 8), some (42, true), []⟩,⟨some 44, .un .not (.t 43), some (42, true), []⟩,⟨some 45, .pick (.t 42) (.t 44) (.c (.bool false)), none, []⟩,⟨some 46, .mv (.t 45), none, []⟩,⟨some 47, .load 6 true (.t 1), some (46, true), [1]⟩,⟨some 48, .load 17 true (.t 2), some (46, true), [2]⟩,⟨some 49, .load 8 true (.t 5), some (46, true), [5]⟩,⟨some 50, .call 40 [.t 47, .t 48, .t 49], some (46, true), []⟩,⟨some 51, .pick (.t 46) (.t 50) (.c (.bool false)), none, []⟩,⟨some 52, .mv (.t 51), none, []⟩,⟨some 53, .load 6 true (.t 1), some (52, true), [1]⟩,⟨some 54, .load 17 true (.t 2), some (52, true), [2]⟩,⟨some 55, .load 8 true (.t 3), some (52, true), [3]⟩,⟨some 56, .call 40 [.t 53, .t 54, .t 55], some (52, true), [18]⟩,⟨some 57, .un .not (.t 56), some (52, true), []⟩,⟨some 58, .pick (.t 52) (.t 57) (.c (.bool false)), none, []⟩,⟨some 0, .mv (.t 58), none, []⟩] [0]
def c41_9 : ACode := .seq c41_8 .ret
def c41_10 : ACode := .seq c41_7 c41_9
def c41_11 : ACode := .seq c41_6 c41_10
def c41_12 : ACode := .seq c41_5 c41_11
def c41_13 : ACode := .seq c41_4 c41_12
def c41_14 : ACode := .seq c41_3 c41_13
def c41_15 : ACode := .seq c41_2 c41_14
def c41_16 : ACode := .seq c41_1 c41_15
def c41_17 : ACode := .seq c41_0 c41_16
def a41 : AFun := ⟨0, 59, c41_17, [.t 0]⟩
theorem m41 : mFun Try.prog Try.f41 a41 = true := by decide +kernel
def c74_0 : ACode := .ops [⟨some 0, .alloc [.int .i64 0, .int .i64 0, .int .i64 0, .int .i64 0, .int .i64 0, .nils], none, []⟩] [0]
def c74_1 : ACode := .ops [⟨some 2, .build [.bool false, .int .i64 0, .int .i64 0, .int .i64 0, .int .i64 0, .int .i64 0] [(3, 1, .c (.int .i64 5)), (4, 1, .c (.int .i64 1)), (5, 1, .c (.int .i64 2))], none, []⟩,⟨some 3, .call 68 [.t 2], none, []⟩,⟨some 4, .build [.bool false, .int .i64 0, .int .i64 0, .int .i64 0, .int .i64 0, .int .i64 0] [(0, 1, .c (.bool true)), (1, 1, .c (.int .i64 10))], none, []⟩,⟨some 5, .call 68 [.t 4], none, []⟩,⟨some 6, .build [.bool false, .int .i64 0, .int .i64 0, .int .i64 0, .int .i64 0, .int .i64 0] [(0, 1, .c (.bool true)), (1, 1, .c (.int .i64 20))], none, []⟩,⟨some 7, .call 68 [.t 6], none, []⟩,⟨some 8, .mkrow 1 3 1 [.int .u64 0] [(0, 1, .t 3), (1, 1, .t 5), (2, 1, .t 7)], none, []⟩,⟨some 1, .mv (.t 8), none, []⟩] [0, 1]
def c74_2 : ACode := .ops [⟨some 9, .build [.int .i64 0, .int .i64 0, .int .i64 0] [(0, 1, .c (.int .i64 3))], none, []⟩,⟨some 10, .mv (.t 1), none, []⟩,⟨some 11, .build [.int .i64 0, .nils] [(1, 1, .t 10)], none, []⟩,⟨some 12, .mkrow 12 1 2 [.int .i64 0, .nils] [(0, 2, .t 11)], none, []⟩,⟨some 13, .build [.int .i64 0, .int .i64 0, .int .i64 0, .int .i64 0, .int .i64 0, .nils] [(0, 1, .c (.int .i64 1)), (1, 1, .c (.int .i64 1)), (2, 3, .t 9), (5, 1, .t 12)], none, []⟩,⟨none, .store (.t 0) 6 (.t 13), none, [0]⟩] [0]
def c74_3 : ACode := .seq c74_2 .ret
def c74_4 : ACode := .seq c74_1 c74_3
def c74_5 : ACode := .seq c74_0 c74_4
def a74 : AFun := ⟨0, 14, c74_5, [.cell 0 6 true]⟩
theorem m74 : mFun Try.prog Try.f74 a74 = true := by decide +kernel
def texts41 : List (Nat × AFun) := [(19, a19), (20, a20), (27, a27), (28, a28), (38, a38), (40, a40), (41, a41), (45, a45), (57, a57), (58, a58), (66, a66), (68, a68), (69, a69), (70, a70), (71, a71), (72, a72), (74, a74), (75, a75), (76, a76), (77, a77), (78, a78), (85, a85), (89, a89), (90, a90), (91, a91), (92, a92), (97, a97), (108, a108), (109, a109), (110, a110), (117, a117), (118, a118), (119, a119), (120, a120), (121, a121), (122, a122), (123, a123), (124, a124), (125, a125), (126, a126), (132, a132), (133, a133), (134, a134), (143, a143), (144, a144), (146, a146), (147, a147), (149, a149), (162, a162)]
theorem texts41_good : Go.Am.Good Try.prog texts41 :=
  good_cons Try.func19 m19 <| good_cons Try.func20 m20 <| good_cons Try.func27 m27 <| good_cons Try.func28 m28 <| good_cons Try.func38 m38 <| good_cons Try.func40 m40 <| good_cons Try.func41 m41 <| good_cons Try.func45 m45 <| good_cons Try.func57 m57 <| good_cons Try.func58 m58 <| good_cons Try.func66 m66 <| good_cons Try.func68 m68 <| good_cons Try.func69 m69 <| good_cons Try.func70 m70 <| good_cons Try.func71 m71 <| good_cons Try.func72 m72 <| good_cons Try.func74 m74 <| good_cons Try.func75 m75 <| good_cons Try.func76 m76 <| good_cons Try.func77 m77 <| good_cons Try.func78 m78 <| good_cons Try.func85 m85 <| good_cons Try.func89 m89 <| good_cons Try.func90 m90 <| good_cons Try.func91 m91 <| good_cons Try.func92 m92 <| good_cons Try.func97 m97 <| good_cons Try.func108 m108 <| good_cons Try.func109 m109 <| good_cons Try.func110 m110 <| good_cons Try.func117 m117 <| good_cons Try.func118 m118 <| good_cons Try.func119 m119 <| good_cons Try.func120 m120 <| good_cons Try.func121 m121 <| good_cons Try.func122 m122 <| good_cons Try.func123 m123 <| good_cons Try.func124 m124 <| good_cons Try.func125 m125 <| good_cons Try.func126 m126 <| good_cons Try.func132 m132 <| good_cons Try.func133 m133 <| good_cons Try.func134 m134 <| good_cons Try.func143 m143 <| good_cons Try.func144 m144 <| good_cons Try.func146 m146 <| good_cons Try.func147 m147 <| good_cons Try.func149 m149 <| good_cons Try.func162 m162 <| good_nil
theorem c_closed41 : Contract Try.prog 41 (sp0 (some true)) := contract_closed mixed texts41_good (m := 2000) (n := 80) (by decide +kernel)
noncomputable abbrev ctT : Cs := tbl [(15, sp1 ModelC), (31, sp2 QueryC), (24, sp3 Within), (33, sp1 fun q => some (startOf q)), (32, sp2 StepsC), (1000000 + 34, gspec rSearchG), (40, sp3 ProvesC), (26, sp2 InsideC), (35, sp3 RCheckC), (36, sp4 fun (m : Model) q p t => some (hasB (startOf q) p t)), (37, sp4 BreaksC), (38, sp3 SumsC), (39, sp3 BoundS), (41, sp0 (some true))]
inductive PW (pf : List Step) (g : Nat → Nat) : AV → Option Blk → Prop
  | lst (n : Nat) : n = pf.length → PW pf g (.lst n (encL pf)) none
  | nil : pf = [] → PW pf g .nils none
  | own (n : Nat) : n = pf.length → PW pf g (.own 57 (g 57) 0 n) (some ⟨encL pf, false, 3⟩)
theorem sums_bound (m : Model) (c : Int) (b : Box) : sumsP m c b = ((boundM m c b).a, (boundM m c b).b) := by
  unfold sumsP boundM
  split <;> rfl
theorem run_ctEnd (m : Model) (hm : RM m) (q : Query) (hq : okQuery m q = true) (b : Box) (hb : okB b) (v : Verdict) (V : AV) (hx : Option Blk) (h : Hp) (g : Nat → Nat) (hV : PW v.proof g V hx) (b9 : v.proof.length ≤ maxN)
    (h15 : hlook h 15 = some ⟨Row.enc m, false, 0⟩) (h16 : hlook h 16 = some ⟨Row.enc q, false, 0⟩) (h13 : hlook h 13 = some ⟨Row.enc b, false, 0⟩) (h9 : hlook h 9 = some ⟨vCells v V, false, 0⟩)
    (hxx : hlook h 57 = hx) (t : Env) (ht : Go.Am.look t 9 = .ptr 9 (g 9) 0 ∧ Go.Am.look t 13 = .ptr 13 (g 13) 0 ∧ Go.Am.look t 15 = .ptr 15 (g 15) 0 ∧ Go.Am.look t 16 = .ptr 16 (g 16) 0) :
    run ctT c6_50 [] ⟨t, h, g⟩ (fin a6.res (.bool true)) := by
  unfold a6
  obtain ⟨t9, t13, t15, t16⟩ := ht
  have hd := hm.dim
  have hdm : ¬ m.dim < 1 := by omega
  have hP : ProvesC m q v = some (provesM m q v) := by unfold ProvesC; rw [if_neg hdm, part_of hm]
  have hS1 : SumsC m q.cls b = some ((boundM m q.cls b).a, (boundM m q.cls b).b) := by rw [← sums_bound]; exact part_of ⟨hm, hb⟩ _
  have hS2 : BoundS m q.cls b = some (boundM m q.cls b) := part_of ⟨hm, hb⟩ _
  have hB : BreaksC m q v.witness v.twin = some (breaks m q v.witness v.twin) := part_of hm _
  have hCk : RCheckC m q v.proof = some (checkM m q v.proof) := part_of hm _
  have hv1 : v.kind = 1 → provesM m q v = checkM m q v.proof := fun hk => by
    unfold provesM
    rw [if_pos hk]
    exact holds_check hm _
  have hv2 : v.kind = 2 → provesM m q v = (hasB (startOf q) v.witness v.twin && breaks m q v.witness v.twin) := fun hk => by
    unfold provesM
    rw [if_neg (by omega), if_pos hk, hq]
    rfl
  have hv3 : ¬ v.kind = 1 → ¬ v.kind = 2 → provesM m q v = false := fun h1 h2 => by
    unfold provesM
    rw [if_neg h1, if_neg h2]
    simp
  have hnil : v.proof = [] → checkM m q v.proof = false := fun h => by
    rw [h]
    unfold checkM
    rw [checkN]
    simp
  generalize hI : hasB (startOf q) v.witness v.twin = d1 at *
  generalize breaks m q v.witness v.twin = d2 at *
  generalize checkM m q v.proof = d3 at *
  generalize boundM m q.cls b = z at *
  obtain ⟨z1, z2, z3⟩ := z
  obtain ⟨vk, pf, vw, vt, vs⟩ := v
  simp only at hv1 hv2 hv3 hnil hV b9 hB hCk hI
  have hDv : ∀ k : Int, (Arg.dec (.agg [.int .i64 k, .lst pf.length (encL pf), .int .i64 vw.p0, .int .i64 vw.p1, .int .i64 vw.p2, .int .i64 vw.p3, .int .i64 vt, .int .i64 vs]) : Option Verdict) = some ⟨k, pf, vw, vt, vs⟩ := fun k => Arg.dec_enc (⟨k, pf, vw, vt, vs⟩ : Verdict)
  have hDl : (Arg.dec (.lst pf.length (encL pf)) : Option (List Step)) = some pf := dec_lst pf
  unfold vCells at h9
  simp only at h9
  have hDv0 : ∀ k : Int, (Arg.dec (.agg [.int .i64 k, .lst 0 [], .int .i64 vw.p0, .int .i64 vw.p1, .int .i64 vw.p2, .int .i64 vw.p3, .int .i64 vt, .int .i64 vs]) : Option Verdict) = some ⟨k, [], vw, vt, vs⟩ := fun k => rfl
  have key : ∀ n : Nat, n = pf.length → (0 : Nat) < pf.length ∨ pf = [] := fun n _ => by cases pf <;> simp
  cases hV with
  | lst n hn =>
    subst hn
    by_cases k1 : vk = 1
    · subst k1
      have hv1 := hv1 rfl
      rw [hv1] at hP
      by_cases hp : pf = []
      · have hz := hnil hp
        rw [hz] at hP
        subst hp
        simp -implicitDefEqProofs [hlook_hput, hlook_frzAll, h9, h13, h15, h16, t9, t13, t15, t16, hP, hS1, hS2, hDv0, encL_nil]
      · have hp' : 0 < pf.length := List.length_pos_iff.2 hp
        simp -implicitDefEqProofs [hlook_hput, hlook_frzAll, h9, h13, h15, h16, t9, t13, t15, t16, hP, hS1, hS2, b9, hp', hCk]
    · by_cases k2 : vk = 2
      · subst k2
        have hv2 := hv2 rfl
        rw [hv2] at hP
        cases d1 <;> cases d2 <;> simp -implicitDefEqProofs [hlook_hput, hlook_frzAll, h9, h13, h15, h16, t9, t13, t15, t16, hP, hS1, hS2, hB, hI]
      · rw [hv3 k1 k2] at hP
        simp -implicitDefEqProofs [hlook_hput, hlook_frzAll, h9, h13, h15, h16, t9, t13, t15, t16, hP, hS1, hS2, k1, k2]
  | nil hp =>
    subst hp
    have hDv0 : ∀ k : Int, (Arg.dec (.agg [.int .i64 k, .lst 0 [], .int .i64 vw.p0, .int .i64 vw.p1, .int .i64 vw.p2, .int .i64 vw.p3, .int .i64 vt, .int .i64 vs]) : Option Verdict) = some ⟨k, [], vw, vt, vs⟩ := fun k => rfl
    by_cases k1 : vk = 1
    · subst k1
      have hv1 := hv1 rfl
      have hz := hnil rfl
      rw [hz] at hv1
      rw [hv1] at hP
      simp -implicitDefEqProofs [hlook_hput, hlook_frzAll, h9, h13, h15, h16, t9, t13, t15, t16, hP, hS1, hS2, hDv0]
    · by_cases k2 : vk = 2
      · subst k2
        have hv2 := hv2 rfl
        rw [hv2] at hP
        cases d1 <;> cases d2 <;> simp -implicitDefEqProofs [hlook_hput, hlook_frzAll, h9, h13, h15, h16, t9, t13, t15, t16, hP, hS1, hS2, hB, hI, hDv0]
      · rw [hv3 k1 k2] at hP
        simp -implicitDefEqProofs [hlook_hput, hlook_frzAll, h9, h13, h15, h16, t9, t13, t15, t16, hP, hS1, hS2, k1, k2, hDv0]
  | own n hn =>
    subst hn
    have hsk := take_stepsE pf
    have hsl := len_steps pf
    by_cases k1 : vk = 1
    · subst k1
      have hv1 := hv1 rfl
      rw [hv1] at hP
      by_cases hp : pf = []
      · have hz := hnil hp
        rw [hz] at hP
        subst hp
        simp -implicitDefEqProofs [hlook_hput, hlook_frzAll, h9, h13, h15, h16, hxx, t9, t13, t15, t16, hP, hS1, hS2, encL_nil, hDv0]
      · have hp' : 0 < pf.length := List.length_pos_iff.2 hp
        simp -implicitDefEqProofs [hlook_hput, hlook_frzAll, h9, h13, h15, h16, hxx, t9, t13, t15, t16, hP, hS1, hS2, b9, hp', hCk, hsk, hsl]
    · by_cases k2 : vk = 2
      · subst k2
        have hv2 := hv2 rfl
        rw [hv2] at hP
        cases d1 <;> cases d2 <;> simp -implicitDefEqProofs [hlook_hput, hlook_frzAll, h9, h13, h15, h16, hxx, t9, t13, t15, t16, hP, hS1, hS2, hB, hI, hsk, hsl]
      · rw [hv3 k1 k2] at hP
        simp -implicitDefEqProofs [hlook_hput, hlook_frzAll, h9, h13, h15, h16, hxx, t9, t13, t15, t16, hP, hS1, hS2, k1, k2, hsk, hsl]
theorem search_le {m : Model} {q : Query} : ∀ (n : Nat) (sp : Int) (bs : List Box) (pf : List Step), (searchN m q n sp bs pf).proof.length ≤ pf.length + n
  | n, sp, [], pf => by rw [searchN_nil]; simp
  | 0, sp, b :: bs, pf => by show 0 ≤ _; omega
  | n + 1, sp, b :: bs, pf => by
    rw [searchN_cons]
    split
    · have := search_le (m := m) (q := q) n (sp + 1) bs (pf ++ [sumS])
      simp only [List.length_append, List.length_cons, List.length_nil] at this
      omega
    · split
      · show 0 ≤ _; omega
      · split
        · have := search_le (m := m) (q := q) n (sp + 1) ((cutB b (splitM m q b).a (splitM m q b).b).1 :: (cutB b (splitM m q b).a (splitM m q b).b).2 :: bs) (pf ++ [⟨false, (splitM m q b).a, (splitM m q b).b⟩])
          simp only [List.length_append, List.length_cons, List.length_nil] at this
          omega
        · show 0 ≤ _; omega
def cutAt (s : Step) (n : Int) : Step := ⟨s.sum, s.place, n⟩
theorem rd_cutAt (l : List Step) (i : Nat) (h : i < l.length) : rd (encL l) (i * 3 + 2) 1 false = some (.int .i64 l[i].cut) := by
  have := rd_cell l i 2 h (by simp)
  simpa using this
theorem wr_cutAt (l : List Step) (i : Nat) (h : i < l.length) (n : Int) : wr (encL l) (i * 3 + 2) [.int .i64 n] = encL (l.set i (cutAt l[i] n)) := by
  have h0 := wr_row l i h (cutAt l[i] n)
  rw [← h0]
  have hl : (encL l).length = l.length * 3 := encL_length l
  have hg := encL_get l i h
  have hlt : i * 3 + 3 ≤ (encL l).length := by rw [hl]; omega
  have e3 : (encL l).drop (i * 3) = Row.enc l[i] ++ (encL l).drop (i * 3 + 3) := by
    rw [← List.take_append_drop 3 ((encL l).drop (i * 3)), List.drop_drop]
    congr 1
  unfold wr
  show List.take (i * 3 + 2) (encL l) ++ [AV.int .i64 n] ++ List.drop (i * 3 + 2 + 1) (encL l) = List.take (i * 3) (encL l) ++ Row.enc (cutAt l[i] n) ++ List.drop (i * 3 + 3) (encL l)
  have e4 : List.take (i * 3 + 2) (encL l) = List.take (i * 3) (encL l) ++ [.bool l[i].sum, .int .i64 l[i].place] := by
    rw [List.take_add, e3]
    rfl
  rw [e4]
  simp [cutAt]
theorem runs_law (f : Forest) (a : Ask) (v0 : Verdict) (s : Cutting) (how at_ : Int) (b : Box) (c : Bool) (h : Part (okB b) true = some c) : Runs ctT a6 [Arg.enc f, Arg.enc a, Arg.enc v0, Arg.enc s, Arg.enc how, Arg.enc at_, Arg.enc b] (Arg.enc c) := by
  obtain ⟨hb, rfl⟩ := part_some h
  refine ⟨rfl, fun g => run_def ?_⟩
  have hm := rm_modelOf f
  have hM : ModelC f = some (modelOf f) := rfl
  generalize modelOf f = m at *
  have hQ : QueryC a m = some (queryOf m a) := part_of ⟨hm.dim.1, hm.dim.2, hm.classes.1, hm.classes.2⟩ _
  have hq0 := ok_queryOf m a hm
  generalize queryOf m a = q0 at *
  have hst0 := okQuery_start hq0
  have hq := okQuery_budget hq0 (n := 400) (by omega) (by omega)
  have hend := fun v V hx h g hV b9 => run_ctEnd m hm q0 hq0 b hb v V hx h g hV b9
  have hendB := fun v V hx h g hV b9 => run_ctEnd m hm (withBudget q0 400) hq b hb v V hx h g hV b9
  have hSt : StepsC s (startOf q0) = some (stepsOf s (startOf q0)) := part_of ⟨hst0.1, hst0.2.2⟩ _
  have hStl := (steps_len (c := s) 41 [startOf q0] 0 [] []).1
  have hStd : stepsN s 41 [startOf q0] 0 [] [] = stepsOf s (startOf q0) := rfl
  rw [hStd] at hStl
  have hSe : rSearchG [Arg.enc m, Arg.enc (withBudget q0 400)] [] = some (vgV (searchM m (withBudget q0 400)), vgH (searchM m (withBudget q0 400))) := by
    unfold rSearchG
    simp only [Arg.dec_enc, Option.bind_some]
    rw [if_pos hm]
  have hSl : (searchM m (withBudget q0 400)).proof.length ≤ 400 := by
    rw [searchM_eq hq]
    have := search_le (m := m) (q := withBudget q0 400) (withBudget q0 400).budget.toNat 0 [startOf (withBudget q0 400)] []
    have e : (withBudget q0 400).budget.toNat = 400 := rfl
    rw [e] at this ⊢
    simpa using this
  have hI : InsideC (startOf q0) a.spans = some (insideOf (startOf q0) a.spans) := part_of ⟨hst0.1.1, hst0.1.2.1, hst0.1.2.2.1, hst0.1.2.2.2.1⟩ _
  have hes := (empty_spec hst0.2.2).2.2.2.2
  unfold Span.empty at hes
  rw [decide_eq_false_iff_not] at hes
  have hs4 := hst0.1.2.2.2.2
  unfold small at hs4
  have hWt := within_of at_ (startOf q0).s4.lo (startOf q0).s4.hi (by omega)
  generalize within at_ (startOf q0).s4.lo (startOf q0).s4.hi = tw at *
  generalize insideOf (startOf q0) a.spans = wi at *
  generalize stepsOf s (startOf q0) = so at *
  obtain ⟨so1, so2⟩ := so
  generalize searchM m (withBudget q0 400) = v at *
  have hWk := within_of how 0 4 (by omega)
  have hwk := within_le how 0 4 (by omega)
  generalize within how 0 4 = k at *
  unfold a6 at hend hendB ⊢
  obtain ⟨v0k, l, v0w, v0t, v0s⟩ := v0
  by_cases b1 : l.length ≤ maxN
  case neg => simp -implicitDefEqProofs [hM, hQ, b1]
  have hcl : ((40 : Int) < l.length ∧ (40 : Int) ≤ l.length) ∨ (¬ (40 : Int) < l.length ∧ l.length < 41) := by omega
  have ht40 : List.take 120 (encL l) = encL (l.take 40) := encL_take l 40
  have htal : List.take (l.length * 3) (encL l) = encL l := take_stepsE l
  have hk : k = 0 ∨ (k = 1 ∨ k = 2) ∨ k = 3 ∨ k = 4 := by omega
  have hSl9 : v.proof.length ≤ maxN := by unfold maxN; omega
  simp only [enc_Model, enc_Query, withBudget] at hSe
  rcases hk with rfl | hk | rfl | rfl
  · rcases hcl with ⟨h40, c40⟩ | ⟨h40, c40⟩
    · simp -implicitDefEqProofs [hM, hQ, b1, hWk, h40, c40, ht40, htal, hSt, -r6_50]
      refine hend ⟨1, so2, zeroP, 0, 0⟩ _ none _ _ (.lst _ rfl) (by have := hStl; simp at this; show so2.length ≤ 9223372036854775807; omega) ?_ ?_ ?_ ?_ ?_ _ ?_ <;> first | rfl | exact ⟨rfl, rfl, rfl, rfl⟩
    · simp -implicitDefEqProofs [hM, hQ, b1, hWk, h40, c40, ht40, htal, hSt, -r6_50]
      refine hend ⟨1, so2, zeroP, 0, 0⟩ _ none _ _ (.lst _ rfl) (by have := hStl; simp at this; show so2.length ≤ 9223372036854775807; omega) ?_ ?_ ?_ ?_ ?_ _ ?_ <;> first | rfl | exact ⟨rfl, rfl, rfl, rfl⟩
  · 
    by_cases hv : v.proof = []
    · have e1 : vgV v = .agg (vCells v .nils) := by unfold vgV; rw [if_pos hv]
      have e2 : vgH v = [] := by unfold vgH; rw [if_pos hv]
      rw [e1, e2] at hSe
      unfold vCells at hSe
      rcases hk with rfl | rfl <;> rcases hcl with ⟨h40, c40⟩ | ⟨h40, c40⟩
      all_goals
        simp -implicitDefEqProofs [hM, hQ, b1, hWk, h40, c40, ht40, htal, hSe, -r6_50]
        refine hendB v _ none _ _ (.nil hv) (by rw [hv]; simp) ?_ ?_ ?_ ?_ ?_ _ ?_ <;> first | rfl | exact ⟨rfl, rfl, rfl, rfl⟩
    · have e1 : vgV v = .agg (vCells v (.own 2 0 0 v.proof.length)) := by unfold vgV; rw [if_neg hv]
      have e2 : vgH v = [(2, ⟨encL v.proof, false, 3⟩)] := by unfold vgH; rw [if_neg hv]
      rw [e1, e2] at hSe
      unfold vCells at hSe
      have hmu : ∀ gm, mapM1 (up1 gm) (encL v.proof) = some (encL v.proof) := fun gm => mapM1_up (encL_plain v.proof)
      have hn0 : 0 < v.proof.length := List.length_pos_iff.2 hv
      have w2 : IntKind.i64.wrap ((v.proof.length : Int) - 1) = (v.proof.length : Int) - 1 := wrap64 (by omega) (by omega)
      have hW := within_of at_ 0 ((v.proof.length : Int) - 1) (by omega)
      have hw := within_le at_ 0 ((v.proof.length : Int) - 1) (by omega)
      generalize within at_ 0 ((v.proof.length : Int) - 1) = kk at *
      obtain ⟨kn, rfl⟩ : ∃ kn : Nat, kk = kn := ⟨kk.toNat, by omega⟩
      have hkn : kn < v.proof.length := by omega
      have hrc := rd_cutAt v.proof kn hkn
      have hwc := fun x => wr_cutAt v.proof kn hkn x
      have hel : (encL v.proof).length = v.proof.length * 3 := encL_length _
      have hle1 : kn * 3 + 2 + 1 ≤ (encL v.proof).length := by rw [hel]; omega
      have hle2 : kn * 3 + 2 + 1 ≤ v.proof.length * 3 := by omega
      generalize hbit : iand IntKind.i64 how 1 = bit at *
      by_cases hz : bit = 0
      · rcases hk with rfl | rfl <;> rcases hcl with ⟨h40, c40⟩ | ⟨h40, c40⟩
        all_goals
          simp -implicitDefEqProofs [hM, hQ, b1, hWk, h40, c40, ht40, htal, hSe, hmu, hSl9, hn0, hbit, hz, w2, hW, hkn, hrc, hwc, hle1, hle2, hel, -r6_50]
          refine hendB ⟨v.kind, v.proof.set kn (cutAt v.proof[kn] at_), v.witness, v.twin, v.spent⟩ _ _ _ _ (.own v.proof.length (List.length_set).symm) (by show (v.proof.set kn (cutAt v.proof[kn] at_)).length ≤ 9223372036854775807; rw [List.length_set]; omega) ?_ ?_ ?_ ?_ ?_ _ ?_ <;> first | rfl | exact ⟨rfl, rfl, rfl, rfl⟩
      · rcases hk with rfl | rfl <;> rcases hcl with ⟨h40, c40⟩ | ⟨h40, c40⟩
        all_goals
          simp -implicitDefEqProofs [hM, hQ, b1, hWk, h40, c40, ht40, htal, hSe, hmu, hSl9, hn0, hbit, hz, -r6_50]
          refine hendB v _ _ _ _ (.own v.proof.length rfl) hSl9 ?_ ?_ ?_ ?_ ?_ _ ?_ <;> first | rfl | exact ⟨rfl, rfl, rfl, rfl⟩
  · rcases hcl with ⟨h40, c40⟩ | ⟨h40, c40⟩
    · simp -implicitDefEqProofs [hM, hQ, b1, hWk, h40, c40, ht40, htal, hI, hWt, -r6_50]
      refine hend ⟨2, [], wi, tw, 0⟩ _ none _ _ (.nil rfl) (by simp) ?_ ?_ ?_ ?_ ?_ _ ?_ <;> first | rfl | exact ⟨rfl, rfl, rfl, rfl⟩
    · simp -implicitDefEqProofs [hM, hQ, b1, hWk, h40, c40, ht40, htal, hI, hWt, -r6_50]
      refine hend ⟨2, [], wi, tw, 0⟩ _ none _ _ (.nil rfl) (by simp) ?_ ?_ ?_ ?_ ?_ _ ?_ <;> first | rfl | exact ⟨rfl, rfl, rfl, rfl⟩
  · rcases hcl with ⟨h40, c40⟩ | ⟨h40, c40⟩
    · simp -implicitDefEqProofs [hM, hQ, b1, hWk, h40, c40, ht40, htal, -r6_50]
      refine hend ⟨v0k, l.take 40, v0w, v0t, v0s⟩ _ none _ _ (.lst 40 (by show 40 = (l.take 40).length; rw [List.length_take]; omega)) (by show (l.take 40).length ≤ 9223372036854775807; rw [List.length_take]; omega) ?_ ?_ ?_ ?_ ?_ _ ?_ <;> first | rfl | exact ⟨rfl, rfl, rfl, rfl⟩
    · simp -implicitDefEqProofs [hM, hQ, b1, hWk, h40, c40, ht40, htal, -r6_50]
      refine hend ⟨v0k, l, v0w, v0t, v0s⟩ _ none _ _ (.lst _ rfl) (b1) ?_ ?_ ?_ ?_ ?_ _ ?_ <;> first | rfl | exact ⟨rfl, rfl, rfl, rfl⟩
noncomputable def law_sp : List AV → Option AV := sp7 fun (_ : Forest) (_ : Ask) (_ : Verdict) (_ : Cutting) (_ : Int) (_ : Int) (b : Box) => Part (okB b) true
theorem ct_holds : ∀ f, Contract Try.prog f (ctT f) := tbl_cons c_Model (tbl_cons c_Query (tbl_cons c_Within (tbl_cons c_rStart (tbl_cons c_Steps (tbl_cons c_rSearchG (tbl_cons c_Proves (tbl_cons c_Inside (tbl_cons c_rCheck (tbl_cons c_rInside (tbl_cons c_rBreaks (tbl_cons c_sums (tbl_cons c_rSum (tbl_cons c_closed41 tbl_nil)))))))))))))
theorem law_holds : Contract Try.prog 6 law_sp :=
  contract_of_runs mixed ct_holds Try.func6 m6 (sp7_runs runs_law)
theorem law_says (f : Forest) (a : Ask) (v : Verdict) (s : Cutting) (x y : Int) (b : Box) (h : Sh.good b) : law_sp [Arg.enc f, Arg.enc a, Arg.enc v, Arg.enc s, Arg.enc x, Arg.enc y, Arg.enc b] = some (.bool true) := by
  obtain ⟨h0, h1, h2, h3, h4, h5, h6, h7, h8, h9⟩ := h
  have hb : okB b := ⟨⟨h0, h1⟩, ⟨h2, h3⟩, ⟨h4, h5⟩, ⟨h6, h7⟩, h8, h9⟩
  simp only [law_sp, sp7, Arg.dec_enc, Option.bind_some]
  rw [part_of hb]
  rfl
end Go.Co
