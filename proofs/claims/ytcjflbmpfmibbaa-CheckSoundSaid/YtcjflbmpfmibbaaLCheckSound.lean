/- The law CheckSound: what its text computes. -/
import Derived.Test.YtcjflbmpfmibbaaCz16
import Derived.Test.YtcjflbmpfmibbaaCz17
import Derived.Test.YtcjflbmpfmibbaaCz7
import Derived.Test.YtcjflbmpfmibbaaCz9
set_option maxHeartbeats 16000000
set_option maxRecDepth 100000
namespace Go.Co
open Go.Am Go.Proofs
set_option linter.unusedSimpArgs false
set_option linter.unusedVariables false
attribute [-simp] Go.Am.eff_gcall
def c7_0 : ACode := .ops [⟨some 8, .box (.t 0) 4, none, []⟩,⟨some 9, .box (.t 1) 8, none, []⟩,⟨some 10, .box (.t 2) 2, none, []⟩,⟨some 16, .mv (.c (.bool false)), none, []⟩] [3, 4, 5, 6, 7, 8, 9, 10]
theorem r7_0 : type_of% (@rr _ _ c7_0.eq_1) := rr rfl
def c7_1 : ACode := .ops [⟨some 27, .load 4 true (.t 8), none, [8]⟩,⟨some 28, .call 15 [.t 27], none, []⟩,⟨some 17, .alloc [.int .i64 0, .int .i64 0, .int .i64 0, .int .i64 0, .int .i64 0, .nils], none, []⟩,⟨none, .store (.t 17) 6 (.t 28), none, [17]⟩] [3, 4, 5, 6, 7, 9, 10, 17]
theorem r7_1 : type_of% (@rr _ _ c7_1.eq_1) := rr rfl
def c7_2 : ACode := .ops [⟨some 29, .load 8 true (.t 9), none, [9]⟩,⟨some 30, .load 6 true (.t 17), none, [17]⟩,⟨some 31, .call 31 [.t 29, .t 30], none, []⟩,⟨some 18, .alloc [.int .i64 0, .int .i64 0, .int .i64 0, .int .i64 0, .int .i64 0, .int .i64 0, .int .i64 0, .int .i64 0, .int .i64 0, .int .i64 0, .int .i64 0, .int .i64 0, .int .i64 0, .int .i64 0, .int .i64 0, .bool false, .int .i64 0], none, []⟩,⟨none, .store (.t 18) 17 (.t 31), none, [18]⟩] [3, 4, 5, 6, 7, 10, 17, 18]
theorem r7_2 : type_of% (@rr _ _ c7_2.eq_1) := rr rfl
def c7_3 : ACode := .ops [⟨some 33, .load 6 true (.t 17), none, [17]⟩,⟨some 34, .load 17 true (.t 18), none, [18]⟩,⟨some 35, .call 42 [.t 33, .t 34, .c (.int .i64 1500)], none, []⟩,⟨some 32, .mv (.t 35), none, []⟩,⟨some 36, .ext (.t 32) 0, none, []⟩,⟨some 37, .ext (.t 32) 1, none, []⟩,⟨some 19, .mv (.t 36), none, []⟩,⟨some 20, .mv (.t 37), none, []⟩] [3, 4, 5, 6, 7, 10, 17, 18, 19, 20]
theorem r7_3 : type_of% (@rr _ _ c7_3.eq_1) := rr rfl
def c7_4 : ACode := .ops [⟨some 38, .mv (.t 20), none, []⟩,⟨some 39, .un .not (.t 38), none, []⟩] [3, 4, 5, 6, 7, 10, 17, 18, 19, 39]
theorem r7_4 : type_of% (@rr _ _ c7_4.eq_1) := rr rfl
def c7_5 : ACode := .ops [⟨some 40, .call 41 [], none, []⟩,⟨some 16, .mv (.t 40), none, []⟩] [16]
theorem r7_5 : type_of% (@rr _ _ c7_5.eq_1) := rr rfl
def c7_6 : ACode := .seq c7_5 .ret
theorem r7_6 : type_of% (@rr _ _ c7_6.eq_1) := rr rfl
def c7_7 : ACode := .cond (.t 39) c7_6 .skip
theorem r7_7 : type_of% (@rr _ _ c7_7.eq_1) := rr rfl
def c7_8 : ACode := .seq c7_4 c7_7
theorem r7_8 : type_of% (@rr _ _ c7_8.eq_1) := rr rfl
def c7_9 : ACode := .ops [⟨some 41, .fad (.t 18) 16, none, [18]⟩,⟨none, .store (.t 41) 1 (.c (.int .i64 3000)), none, [18]⟩] [3, 4, 5, 6, 7, 10, 17, 18, 19]
theorem r7_9 : type_of% (@rr _ _ c7_9.eq_1) := rr rfl
def c7_10 : ACode := .ops [⟨some 42, .mv (.t 3), none, []⟩,⟨some 43, .mv (.t 3), none, []⟩,⟨some 44, .len (.t 43), none, []⟩,⟨some 45, .mnmx false (.t 44) (.c (.int .i64 60)), none, []⟩,⟨some 46, .sl (.t 42) none (some (.t 45)) 3, none, []⟩,⟨some 47, .build [.int .i64 0, .nils, .int .i64 0, .int .i64 0, .int .i64 0, .int .i64 0, .int .i64 0, .int .i64 0] [(0, 1, .c (.int .i64 1)), (1, 1, .t 46)], none, []⟩,⟨some 21, .alloc [.int .i64 0, .nils, .int .i64 0, .int .i64 0, .int .i64 0, .int .i64 0, .int .i64 0, .int .i64 0], none, []⟩,⟨none, .store (.t 21) 8 (.t 47), none, [21]⟩] [4, 5, 6, 7, 10, 17, 18, 19, 21]
theorem r7_10 : type_of% (@rr _ _ c7_10.eq_1) := rr rfl
def c7_11 : ACode := .ops [⟨some 48, .mv (.t 5), none, []⟩,⟨some 49, .call 24 [.t 48, .c (.int .i64 0), .c (.int .i64 3)], none, []⟩] [4, 6, 7, 10, 17, 18, 19, 21, 49]
theorem r7_11 : type_of% (@rr _ _ c7_11.eq_1) := rr rfl
def c7_12 : ACode := .ops [⟨some 51, .bin .eql (.t 49) (.c (.int .i64 0)), none, []⟩,⟨some 50, .mv (.t 51), none, []⟩] [4, 6, 7, 10, 17, 18, 19, 21, 49, 50]
theorem r7_12 : type_of% (@rr _ _ c7_12.eq_1) := rr rfl
def c7_13 : ACode := .ops [⟨some 53, .load 2 true (.t 10), none, [10]⟩,⟨some 54, .load 17 true (.t 18), none, [18]⟩,⟨some 55, .call 33 [.t 54], none, []⟩,⟨some 56, .call 32 [.t 53, .t 55], none, []⟩,⟨some 52, .mv (.t 56), none, []⟩,⟨some 57, .ext (.t 52) 0, none, []⟩,⟨some 58, .ext (.t 52) 1, none, []⟩,⟨some 59, .fad (.t 21) 1, none, [21]⟩,⟨none, .store (.t 59) 1 (.t 58), none, [21]⟩] [6, 7, 17, 18, 19, 21]
theorem r7_13 : type_of% (@rr _ _ c7_13.eq_1) := rr rfl
def c7_14 : ACode := .ops [⟨some 61, .bin .eql (.t 49) (.c (.int .i64 1)), none, []⟩,⟨some 60, .mv (.t 61), none, []⟩] [4, 6, 7, 17, 18, 19, 21, 49, 60]
theorem r7_14 : type_of% (@rr _ _ c7_14.eq_1) := rr rfl
def c7_15 : ACode := .ops [⟨some 62, .load 6 true (.t 17), none, [17]⟩,⟨some 63, .load 17 true (.t 18), none, [18]⟩,⟨some 64, .gcall 34 [.t 62, .t 63] [] 64, none, []⟩,⟨some 65, .fld (.t 64) 1 1 false, none, []⟩,⟨some 66, .fad (.t 21) 1, none, [21]⟩,⟨none, .store (.t 66) 1 (.t 65), none, [21]⟩] [4, 6, 7, 17, 18, 19, 21]
theorem r7_15 : type_of% (@rr _ _ c7_15.eq_1) := rr rfl
def c7_16 : ACode := .ops [⟨some 22, .mv (.c (.int .i64 0)), none, []⟩] [4, 6, 7, 17, 18, 19, 21, 22]
theorem r7_16 : type_of% (@rr _ _ c7_16.eq_1) := rr rfl
def c7_17 : ACode := .ops [⟨some 67, .mv (.t 22), none, []⟩,⟨some 68, .mv (.t 4), none, []⟩,⟨some 69, .len (.t 68), none, []⟩,⟨some 70, .bin .lss (.t 67) (.t 69), none, []⟩,⟨some 71, .mv (.t 70), none, []⟩,⟨some 72, .fad (.t 21) 1, some (71, true), [21]⟩,⟨some 73, .load 1 false (.t 72), some (71, true), [21]⟩,⟨some 74, .len (.t 73), some (71, true), [64, 110]⟩,⟨some 75, .bin .gtr (.t 74) (.c (.int .i64 0)), some (71, true), []⟩,⟨some 76, .pick (.t 71) (.t 75) (.c (.bool false)), none, []⟩] [4, 6, 7, 17, 18, 19, 21, 22, 76]
theorem r7_17 : type_of% (@rr _ _ c7_17.eq_1) := rr rfl
def c7_18 : ACode := .cond (.t 76) .skip (.exit 1)
theorem r7_18 : type_of% (@rr _ _ c7_18.eq_1) := rr rfl
def c7_19 : ACode := .seq c7_17 c7_18
theorem r7_19 : type_of% (@rr _ _ c7_19.eq_1) := rr rfl
def c7_20 : ACode := .ops [⟨some 79, .mv (.t 4), none, []⟩,⟨some 80, .mv (.t 22), none, []⟩,⟨some 81, .ias (.t 79) (.t 80) 1, none, []⟩,⟨some 82, .load 1 false (.t 81), none, []⟩,⟨some 83, .fad (.t 21) 1, none, [21]⟩,⟨some 84, .load 1 false (.t 83), none, [21]⟩,⟨some 85, .len (.t 84), none, [64, 110]⟩,⟨some 86, .bin .sub (.t 85) (.c (.int .i64 1)), none, []⟩,⟨some 87, .call 24 [.t 82, .c (.int .i64 0), .t 86], none, []⟩,⟨some 23, .mv (.t 87), none, []⟩] [4, 6, 7, 17, 18, 19, 21, 22, 23]
theorem r7_20 : type_of% (@rr _ _ c7_20.eq_1) := rr rfl
def c7_21 : ACode := .ops [⟨some 88, .fad (.t 21) 1, none, [21]⟩,⟨some 89, .load 1 false (.t 88), none, [21]⟩,⟨some 90, .mv (.t 23), none, []⟩,⟨some 91, .fad (.t 21) 1, none, [21]⟩,⟨some 92, .load 1 false (.t 91), none, [21]⟩,⟨some 93, .mv (.t 23), none, []⟩,⟨some 94, .ias (.t 92) (.t 93) 3, none, [64, 110]⟩,⟨some 95, .fad (.t 94) 2, none, [64, 110]⟩,⟨some 96, .load 1 false (.t 95), none, [64, 110]⟩,⟨some 97, .mv (.t 4), none, []⟩,⟨some 98, .mv (.t 22), none, []⟩,⟨some 99, .ias (.t 97) (.t 98) 1, none, []⟩,⟨some 100, .load 1 false (.t 99), none, []⟩,⟨some 101, .bin .rem (.t 100) (.c (.int .i64 3)), none, []⟩,⟨some 102, .bin .add (.t 96) (.t 101), none, []⟩,⟨some 103, .bin .sub (.t 102) (.c (.int .i64 1)), none, []⟩,⟨some 104, .ias (.t 89) (.t 90) 3, none, [64, 110]⟩,⟨some 105, .fad (.t 104) 2, none, [64, 110]⟩,⟨none, .store (.t 105) 1 (.t 103), none, [64, 110]⟩] [4, 6, 7, 17, 18, 19, 21, 22]
theorem r7_21 : type_of% (@rr _ _ c7_21.eq_1) := rr rfl
def c7_22 : ACode := .seq c7_20 c7_21
theorem r7_22 : type_of% (@rr _ _ c7_22.eq_1) := rr rfl
def c7_23 : ACode := .block 2 c7_22
theorem r7_23 : type_of% (@rr _ _ c7_23.eq_1) := rr rfl
def c7_24 : ACode := .ops [⟨some 77, .mv (.t 22), none, []⟩,⟨some 78, .bin .add (.t 77) (.c (.int .i64 1)), none, []⟩,⟨some 22, .mv (.t 78), none, []⟩] [4, 6, 7, 17, 18, 19, 21, 22]
theorem r7_24 : type_of% (@rr _ _ c7_24.eq_1) := rr rfl
def c7_25 : ACode := .seq c7_23 c7_24
theorem r7_25 : type_of% (@rr _ _ c7_25.eq_1) := rr rfl
def c7_26 : ACode := .seq c7_19 c7_25
theorem r7_26 : type_of% (@rr _ _ c7_26.eq_1) := rr rfl
def c7_27 : ACode := .keep [4, 6, 7, 17, 18, 19, 21, 22] [17, 18, 21, 64, 110] c7_26
theorem r7_27 : type_of% (@rr _ _ c7_27.eq_1) := rr rfl
def c7_28 : ACode := .loop c7_27
theorem r7_28 : type_of% (@rr _ _ c7_28.eq_1) := rr rfl
def c7_29 : ACode := .block 1 c7_28
theorem r7_29 : type_of% (@rr _ _ c7_29.eq_1) := rr rfl
def c7_30 : ACode := .seq c7_16 c7_29
theorem r7_30 : type_of% (@rr _ _ c7_30.eq_1) := rr rfl
def c7_31 : ACode := .seq c7_15 c7_30
theorem r7_31 : type_of% (@rr _ _ c7_31.eq_1) := rr rfl
def c7_32 : ACode := .ops [⟨some 107, .bin .eql (.t 49) (.c (.int .i64 2)), none, []⟩,⟨some 106, .mv (.t 107), none, []⟩] [4, 6, 7, 17, 18, 19, 21, 106]
theorem r7_32 : type_of% (@rr _ _ c7_32.eq_1) := rr rfl
def c7_33 : ACode := .ops [⟨some 108, .load 6 true (.t 17), none, [17]⟩,⟨some 109, .load 17 true (.t 18), none, [18]⟩,⟨some 110, .gcall 34 [.t 108, .t 109] [] 110, none, []⟩,⟨some 111, .fld (.t 110) 1 1 false, none, []⟩,⟨some 112, .fad (.t 21) 1, none, [21]⟩,⟨none, .store (.t 112) 1 (.t 111), none, [21]⟩] [4, 6, 7, 17, 18, 19, 21]
theorem r7_33 : type_of% (@rr _ _ c7_33.eq_1) := rr rfl
def c7_34 : ACode := .ops [⟨some 113, .fad (.t 21) 1, none, [21]⟩,⟨some 114, .load 1 false (.t 113), none, [21]⟩,⟨some 115, .len (.t 114), none, [64, 110]⟩,⟨some 24, .mv (.t 115), none, []⟩] [4, 6, 7, 17, 18, 19, 21, 24]
theorem r7_34 : type_of% (@rr _ _ c7_34.eq_1) := rr rfl
def c7_35 : ACode := .ops [⟨some 116, .mv (.t 24), none, []⟩,⟨some 117, .bin .gtr (.t 116) (.c (.int .i64 0)), none, []⟩] [4, 6, 7, 17, 18, 19, 21, 24, 117]
theorem r7_35 : type_of% (@rr _ _ c7_35.eq_1) := rr rfl
def c7_36 : ACode := .ops [⟨some 118, .fad (.t 21) 1, none, [21]⟩,⟨some 119, .load 1 false (.t 118), none, [21]⟩,⟨some 120, .mv (.t 4), none, []⟩,⟨some 121, .len (.t 120), none, []⟩,⟨some 122, .mv (.t 24), none, []⟩,⟨some 123, .call 24 [.t 121, .c (.int .i64 0), .t 122], none, []⟩,⟨some 124, .sl (.t 119) none (some (.t 123)) 3, none, [64, 110]⟩,⟨some 125, .fad (.t 21) 1, none, [21]⟩,⟨none, .store (.t 125) 1 (.t 124), none, [21]⟩] [6, 7, 17, 18, 19, 21]
theorem r7_36 : type_of% (@rr _ _ c7_36.eq_1) := rr rfl
def c7_37 : ACode := .cond (.t 117) c7_36 .skip
theorem r7_37 : type_of% (@rr _ _ c7_37.eq_1) := rr rfl
def c7_38 : ACode := .seq c7_35 c7_37
theorem r7_38 : type_of% (@rr _ _ c7_38.eq_1) := rr rfl
def c7_39 : ACode := .seq c7_34 c7_38
theorem r7_39 : type_of% (@rr _ _ c7_39.eq_1) := rr rfl
def c7_40 : ACode := .seq c7_33 c7_39
theorem r7_40 : type_of% (@rr _ _ c7_40.eq_1) := rr rfl
def c7_41 : ACode := .cond (.t 106) c7_40 .skip
theorem r7_41 : type_of% (@rr _ _ c7_41.eq_1) := rr rfl
def c7_42 : ACode := .seq c7_32 c7_41
theorem r7_42 : type_of% (@rr _ _ c7_42.eq_1) := rr rfl
def c7_43 : ACode := .cond (.t 60) c7_31 c7_42
theorem r7_43 : type_of% (@rr _ _ c7_43.eq_1) := rr rfl
def c7_44 : ACode := .seq c7_14 c7_43
theorem r7_44 : type_of% (@rr _ _ c7_44.eq_1) := rr rfl
def c7_45 : ACode := .cond (.t 50) c7_13 c7_44
theorem r7_45 : type_of% (@rr _ _ c7_45.eq_1) := rr rfl
def c7_46 : ACode := .seq c7_12 c7_45
theorem r7_46 : type_of% (@rr _ _ c7_46.eq_1) := rr rfl
def c7_47 : ACode := .block 0 c7_46
theorem r7_47 : type_of% (@rr _ _ c7_47.eq_1) := rr rfl
def c7_48 : ACode := .seq c7_11 c7_47
theorem r7_48 : type_of% (@rr _ _ c7_48.eq_1) := rr rfl
def c7_49 : ACode := .ops [⟨some 126, .load 6 true (.t 17), none, [17]⟩,⟨some 127, .load 17 true (.t 18), none, [18]⟩,⟨some 128, .load 8 true (.t 21), none, [21]⟩,⟨some 129, .call 40 [.t 126, .t 127, .t 128], none, [64, 110]⟩,⟨some 130, .mv (.t 129), none, []⟩,⟨some 131, .mv (.t 19), some (130, true), []⟩,⟨some 132, .un .not (.t 131), some (130, true), []⟩,⟨some 133, .pick (.t 130) (.t 132) (.c (.bool false)), none, []⟩] [6, 7, 17, 18, 19, 21, 133]
theorem r7_49 : type_of% (@rr _ _ c7_49.eq_1) := rr rfl
def c7_50 : ACode := .ops [⟨some 16, .mv (.c (.bool false)), none, []⟩] [16]
theorem r7_50 : type_of% (@rr _ _ c7_50.eq_1) := rr rfl
def c7_51 : ACode := .seq c7_50 .ret
theorem r7_51 : type_of% (@rr _ _ c7_51.eq_1) := rr rfl
def c7_52 : ACode := .cond (.t 133) c7_51 .skip
theorem r7_52 : type_of% (@rr _ _ c7_52.eq_1) := rr rfl
def c7_53 : ACode := .seq c7_49 c7_52
theorem r7_53 : type_of% (@rr _ _ c7_53.eq_1) := rr rfl
def c7_54 : ACode := .ops [⟨some 134, .load 17 true (.t 18), none, [18]⟩,⟨some 135, .call 33 [.t 134], none, []⟩,⟨some 25, .alloc [.int .i64 0, .int .i64 0, .int .i64 0, .int .i64 0, .int .i64 0, .int .i64 0, .int .i64 0, .int .i64 0, .int .i64 0, .int .i64 0], none, []⟩,⟨none, .store (.t 25) 10 (.t 135), none, [25]⟩] [6, 7, 17, 18, 19, 21, 25]
theorem r7_54 : type_of% (@rr _ _ c7_54.eq_1) := rr rfl
def c7_55 : ACode := .ops [⟨some 136, .load 10 true (.t 25), none, [25]⟩,⟨some 137, .mv (.t 6), none, []⟩,⟨some 138, .call 26 [.t 136, .t 137], none, []⟩,⟨some 139, .mv (.t 7), none, []⟩,⟨some 140, .iad (.t 25) (.c (.int .i64 4)) 2 5, none, [25]⟩,⟨some 141, .fad (.t 140) 0, none, [25]⟩,⟨some 142, .load 1 false (.t 141), none, [25]⟩,⟨some 143, .iad (.t 25) (.c (.int .i64 4)) 2 5, none, [25]⟩,⟨some 144, .fad (.t 143) 1, none, [25]⟩,⟨some 145, .load 1 false (.t 144), none, [25]⟩,⟨some 146, .call 24 [.t 139, .t 142, .t 145], none, []⟩,⟨some 147, .build [.int .i64 0, .nils, .int .i64 0, .int .i64 0, .int .i64 0, .int .i64 0, .int .i64 0, .int .i64 0] [(0, 1, .c (.int .i64 2)), (2, 4, .t 138), (6, 1, .t 146)], none, []⟩,⟨some 26, .alloc [.int .i64 0, .nils, .int .i64 0, .int .i64 0, .int .i64 0, .int .i64 0, .int .i64 0, .int .i64 0], none, []⟩,⟨none, .store (.t 26) 8 (.t 147), none, [26]⟩] [17, 18, 19, 21, 26]
theorem r7_55 : type_of% (@rr _ _ c7_55.eq_1) := rr rfl
def c7_56 : ACode := .ops [⟨some 148, .load 6 true (.t 17), none, [17]⟩,⟨some 149, .load 17 true (.t 18), none, [18]⟩,⟨some 150, .load 8 true (.t 26), none, [26]⟩,⟨some 151, .call 40 [.t 148, .t 149, .t 150], none, []⟩,⟨some 152, .mv (.t 151), none, []⟩,⟨some 153, .mv (.t 19), some (152, true), []⟩,⟨some 154, .pick (.t 152) (.t 153) (.c (.bool false)), none, []⟩] [17, 18, 21, 26, 154]
theorem r7_56 : type_of% (@rr _ _ c7_56.eq_1) := rr rfl
def c7_57 : ACode := .ops [⟨some 16, .mv (.c (.bool false)), none, []⟩] [16]
theorem r7_57 : type_of% (@rr _ _ c7_57.eq_1) := rr rfl
def c7_58 : ACode := .seq c7_57 .ret
theorem r7_58 : type_of% (@rr _ _ c7_58.eq_1) := rr rfl
def c7_59 : ACode := .cond (.t 154) c7_58 .skip
theorem r7_59 : type_of% (@rr _ _ c7_59.eq_1) := rr rfl
def c7_60 : ACode := .seq c7_56 c7_59
theorem r7_60 : type_of% (@rr _ _ c7_60.eq_1) := rr rfl
def c7_61 : ACode := .ops [⟨some 155, .fad (.t 18) 2, none, [18]⟩,⟨some 156, .iad (.t 155) (.c (.int .i64 0)) 2 5, none, [18]⟩,⟨some 157, .fad (.t 156) 1, none, [18]⟩,⟨some 158, .load 1 false (.t 157), none, [18]⟩,⟨some 159, .bin .add (.t 158) (.c (.int .i64 1)), none, []⟩,⟨some 160, .fad (.t 26) 2, none, [26]⟩,⟨some 161, .iad (.t 160) (.c (.int .i64 0)) 1 4, none, [26]⟩,⟨none, .store (.t 161) 1 (.t 159), none, [26]⟩] [17, 18, 21, 26]
theorem r7_61 : type_of% (@rr _ _ c7_61.eq_1) := rr rfl
def c7_62 : ACode := .ops [⟨some 162, .load 6 true (.t 17), none, [17]⟩,⟨some 163, .load 17 true (.t 18), none, [18]⟩,⟨some 164, .load 8 true (.t 26), none, [26]⟩,⟨some 165, .call 40 [.t 162, .t 163, .t 164], none, []⟩,⟨some 166, .un .not (.t 165), none, []⟩,⟨some 167, .mv (.t 166), none, []⟩,⟨some 168, .load 6 true (.t 17), some (167, true), [17]⟩,⟨some 169, .load 17 true (.t 18), some (167, true), [18]⟩,⟨some 170, .build [.int .i64 0, .nils, .int .i64 0, .int .i64 0, .int .i64 0, .int .i64 0, .int .i64 0, .int .i64 0] [(0, 1, .c (.int .i64 3))], some (167, true), []⟩,⟨some 171, .call 40 [.t 168, .t 169, .t 170], some (167, true), []⟩,⟨some 172, .un .not (.t 171), some (167, true), []⟩,⟨some 173, .pick (.t 167) (.t 172) (.c (.bool false)), none, []⟩,⟨some 174, .mv (.t 173), none, []⟩,⟨some 175, .build [.int .i64 0, .int .i64 0, .int .i64 0, .int .i64 0, .int .i64 0, .nils] [], some (174, true), []⟩,⟨some 176, .load 17 true (.t 18), some (174, true), [18]⟩,⟨some 177, .load 8 true (.t 21), some (174, true), [21]⟩,⟨some 178, .call 40 [.t 175, .t 176, .t 177], some (174, true), [64, 110]⟩,⟨some 179, .un .not (.t 178), some (174, true), []⟩,⟨some 180, .pick (.t 174) (.t 179) (.c (.bool false)), none, []⟩,⟨some 181, .mv (.t 180), none, []⟩,⟨some 182, .call 41 [], some (181, true), []⟩,⟨some 183, .pick (.t 181) (.t 182) (.c (.bool false)), none, []⟩,⟨some 16, .mv (.t 183), none, []⟩] [16]
theorem r7_62 : type_of% (@rr _ _ c7_62.eq_1) := rr rfl
def c7_63 : ACode := .seq c7_62 .ret
theorem r7_63 : type_of% (@rr _ _ c7_63.eq_1) := rr rfl
def c7_64 : ACode := .seq c7_61 c7_63
theorem r7_64 : type_of% (@rr _ _ c7_64.eq_1) := rr rfl
def c7_65 : ACode := .seq c7_60 c7_64
theorem r7_65 : type_of% (@rr _ _ c7_65.eq_1) := rr rfl
def c7_66 : ACode := .seq c7_55 c7_65
theorem r7_66 : type_of% (@rr _ _ c7_66.eq_1) := rr rfl
def c7_67 : ACode := .seq c7_54 c7_66
theorem r7_67 : type_of% (@rr _ _ c7_67.eq_1) := rr rfl
def c7_68 : ACode := .seq c7_53 c7_67
theorem r7_68 : type_of% (@rr _ _ c7_68.eq_1) := rr rfl
def c7_69 : ACode := .seq c7_48 c7_68
theorem r7_69 : type_of% (@rr _ _ c7_69.eq_1) := rr rfl
def c7_70 : ACode := .seq c7_10 c7_69
theorem r7_70 : type_of% (@rr _ _ c7_70.eq_1) := rr rfl
def c7_71 : ACode := .seq c7_9 c7_70
theorem r7_71 : type_of% (@rr _ _ c7_71.eq_1) := rr rfl
def c7_72 : ACode := .seq c7_8 c7_71
theorem r7_72 : type_of% (@rr _ _ c7_72.eq_1) := rr rfl
def c7_73 : ACode := .seq c7_3 c7_72
theorem r7_73 : type_of% (@rr _ _ c7_73.eq_1) := rr rfl
def c7_74 : ACode := .seq c7_2 c7_73
theorem r7_74 : type_of% (@rr _ _ c7_74.eq_1) := rr rfl
def c7_75 : ACode := .seq c7_1 c7_74
theorem r7_75 : type_of% (@rr _ _ c7_75.eq_1) := rr rfl
def c7_76 : ACode := .seq c7_0 c7_75
theorem r7_76 : type_of% (@rr _ _ c7_76.eq_1) := rr rfl
def a7 : AFun := ⟨8, 184, c7_76, [.t 16]⟩
attribute [simp] r7_0 r7_1 r7_2 r7_3 r7_4 r7_5 r7_6 r7_7 r7_8 r7_9 r7_10 r7_11 r7_12 r7_13 r7_14 r7_15 r7_16 r7_17 r7_18 r7_19 r7_20 r7_21 r7_22 r7_23 r7_24 r7_25 r7_26 r7_27 r7_28 r7_29 r7_30 r7_31 r7_32 r7_33 r7_34 r7_35 r7_36 r7_37 r7_38 r7_39 r7_40 r7_41 r7_42 r7_43 r7_44 r7_45 r7_46 r7_47 r7_48 r7_49 r7_50 r7_51 r7_52 r7_53 r7_54 r7_55 r7_56 r7_57 r7_58 r7_59 r7_60 r7_61 r7_62 r7_63 r7_64 r7_65 r7_66 r7_67 r7_68 r7_69 r7_70 r7_71 r7_72 r7_73 r7_74 r7_75 r7_76
theorem m7 : mFun Try.prog Try.f7 a7 = true := by decide +kernel
def c41_0 : ACode := .ops [⟨some 0, .mv (.c (.bool false)), none, []⟩] []
def c41_1 : ACode := .ops [⟨some 9, .call 74 [], none, []⟩,⟨some 1, .alloc [.int .i64 0, .int .i64 0, .int .i64 0, .int .i64 0, .int .i64 0, .nils], none, []⟩,⟨none, .store (.t 1) 6 (.t 9), none, [1]⟩] [1]
def c41_2 : ACode := .ops [⟨some 10, .build [.int .i64 0, .int .i64 0] [(0, 1, .c (.int .i64 0)), (1, 1, .c (.int .i64 9))], none, []⟩,⟨some 11, .build [.int .i64 0, .int .i64 0, .int .i64 0, .int .i64 0, .int .i64 0, .int .i64 0, .int .i64 0, .int .i64 0, .int .i64 0, .int .i64 0] [(0, 2, .t 10)], none, []⟩,⟨some 12, .build [.int .i64 0, .int .i64 0, .int .i64 0, .int .i64 0, .int .i64 0, .int .i64 0, .int .i64 0, .int .i64 0, .int .i64 0, .int .i64 0, .int .i64 0, .int .i64 0, .int .i64 0, .int .i64 0, .int .i64 0, .bool false, .int .i64 0] [(0, 1, .c (.int .i64 3)), (2, 10, .t 11)], none, []⟩,⟨some 2, .alloc [.int .i64 0, .int .i64 0, .int .i64 0, .int .i64 0, .int .i64 0, .int .i64 0, .int .i64 0, .int .i64 0, .int .i64 0, .int .i64 0, .int .i64 0, .int .i64 0, .int .i64 0, .int .i64 0, .int .i64 0, .bool false, .int .i64 0], none, []⟩,⟨none, .store (.t 2) 17 (.t 12), none, [2]⟩] [1, 2]
def c41_3 : ACode := .ops [⟨some 13, .build [.bool false, .int .i64 0, .int .i64 0] [(2, 1, .c (.int .i64 5))], none, []⟩,⟨some 14, .build [.bool false, .int .i64 0, .int .i64 0] [(0, 1, .c (.bool true))], none, []⟩,⟨some 15, .build [.bool false, .int .i64 0, .int .i64 0] [(1, 1, .c (.int .i64 4)), (2, 1, .c (.int .i64 5))], none, []⟩,⟨some 16, .build [.bool false, .int .i64 0, .int .i64 0] [(0, 1, .c (.bool true))], none, []⟩,⟨some 17, .build [.bool false, .int .i64 0, .int .i64 0] [(0, 1, .c (.bool true))], none, []⟩,⟨some 18, .mkrow 18 5 3 [.bool false, .int .i64 0, .int .i64 0] [(0, 3, .t 13), (3, 3, .t 14), (6, 3, .t 15), (9, 3, .t 16), (12, 3, .t 17)], none, []⟩,⟨some 19, .build [.int .i64 0, .nils, .int .i64 0, .int .i64 0, .int .i64 0, .int .i64 0, .int .i64 0, .int .i64 0] [(0, 1, .c (.int .i64 1)), (1, 1, .t 18)], none, []⟩,⟨some 3, .alloc [.int .i64 0, .nils, .int .i64 0, .int .i64 0, .int .i64 0, .int .i64 0, .int .i64 0, .int .i64 0], none, []⟩,⟨none, .store (.t 3) 8 (.t 19), none, [3]⟩] [1, 2, 3]
def c41_4 : ACode := .ops [⟨some 20, .build [.bool false, .int .i64 0, .int .i64 0] [(0, 1, .c (.bool true))], none, []⟩,⟨some 21, .mkrow 21 1 3 [.bool false, .int .i64 0, .int .i64 0] [(0, 3, .t 20)], none, []⟩,⟨some 22, .build [.int .i64 0, .nils, .int .i64 0, .int .i64 0, .int .i64 0, .int .i64 0, .int .i64 0, .int .i64 0] [(0, 1, .c (.int .i64 1)), (1, 1, .t 21)], none, []⟩,⟨some 4, .alloc [.int .i64 0, .nils, .int .i64 0, .int .i64 0, .int .i64 0, .int .i64 0, .int .i64 0, .int .i64 0], none, []⟩,⟨none, .store (.t 4) 8 (.t 22), none, [4]⟩] [1, 2, 3, 4]
def c41_5 : ACode := .ops [⟨some 23, .build [.int .i64 0, .nils, .int .i64 0, .int .i64 0, .int .i64 0, .int .i64 0, .int .i64 0, .int .i64 0] [(0, 1, .c (.int .i64 2)), (6, 1, .c (.int .i64 9))], none, []⟩,⟨some 5, .alloc [.int .i64 0, .nils, .int .i64 0, .int .i64 0, .int .i64 0, .int .i64 0, .int .i64 0, .int .i64 0], none, []⟩,⟨none, .store (.t 5) 8 (.t 23), none, [5]⟩] [1, 2, 3, 4, 5]
def c41_6 : ACode := .ops [⟨some 24, .load 6 true (.t 1), none, [1]⟩,⟨some 25, .load 17 true (.t 2), none, [2]⟩,⟨some 26, .load 8 true (.t 3), none, [3]⟩,⟨some 27, .call 40 [.t 24, .t 25, .t 26], none, [18]⟩,⟨some 28, .load 6 true (.t 1), none, [1]⟩,⟨some 29, .load 17 true (.t 2), none, [2]⟩,⟨some 30, .load 8 true (.t 4), none, [4]⟩,⟨some 31, .call 40 [.t 28, .t 29, .t 30], none, [21]⟩,⟨some 32, .load 6 true (.t 1), none, [1]⟩,⟨some 33, .load 17 true (.t 2), none, [2]⟩,⟨some 34, .load 8 true (.t 5), none, [5]⟩,⟨some 35, .call 40 [.t 32, .t 33, .t 34], none, []⟩,⟨some 6, .mv (.t 27), none, []⟩,⟨some 7, .mv (.t 31), none, []⟩,⟨some 8, .mv (.t 35), none, []⟩] [1, 2, 3, 5, 6, 7, 8]
def c41_7 : ACode := .ops [⟨some 36, .fad (.t 2) 15, none, [2]⟩,⟨none, .store (.t 36) 1 (.c (.bool true)), none, [2]⟩] [1, 2, 3, 5, 6, 7, 8]
def c41_8 : ACode := .ops [⟨some 37, .mv (.t 6), none, []⟩,⟨some 38, .mv (.t 37), none, []⟩,⟨some 39, .mv (.t 7), some (38, true), []⟩,⟨some 40, .un .not (.t 39), some (38, true), []⟩,⟨some 41, .pick (.t 38) (.t 40) (.c (.bool false)), none, []⟩,⟨some 42, .mv (.t 41), none, []⟩,⟨some 43, .mv (.t 8), some (42, true), []⟩,⟨some 44, .un .not (.t 43), some (42, true), []⟩,⟨some 45, .pick (.t 42) (.t 44) (.c (.bool false)), none, []⟩,⟨some 46, .mv (.t 45), none, []⟩,⟨some 47, .load 6 true (.t 1), some (46, true), [1]⟩,⟨some 48, .load 17 true (.t 2), some (46, true), [2]⟩,⟨some 49, .load 8 true (.t 5), some (46, true), [5]⟩,⟨some 50, .call 40 [.t 47, .t 48, .t 49], some (46, true), []⟩,⟨some 51, .pick (.t 46) (.t 50) (.c (.bool false)), none, []⟩,⟨some 52, .mv (.t 51), none, []⟩,⟨some 53, .load 6 true (.t 1), some (52, true), [1]⟩,⟨some 54, .load 17 true (.t 2), some (52, true), [2]⟩,⟨some 55, .load 8 true (.t 3), some (52, true), [3]⟩,⟨some 56, .call 40 [.t 53, .t 54, .t 55], some (52, true), [18]⟩,⟨some 57, .un .not (.t 56), some (52, true), []⟩,⟨some 58, .pick (.t 52) (.t 57) (.c (.bool false)), none, []⟩,⟨some 0, .mv (.t 58), none, []⟩] [0]
def c41_9 : ACode := .seq c41_8 .ret
def c41_10 : ACode := .seq c41_7 c41_9
def c41_11 : ACode := .seq c41_6 c41_10
def c41_12 : ACode := .seq c41_5 c41_11
def c41_13 : ACode := .seq c41_4 c41_12
def c41_14 : ACode := .seq c41_3 c41_13
def c41_15 : ACode := .seq c41_2 c41_14
def c41_16 : ACode := .seq c41_1 c41_15
def c41_17 : ACode := .seq c41_0 c41_16
def a41 : AFun := ⟨0, 59, c41_17, [.t 0]⟩
theorem m41 : mFun Try.prog Try.f41 a41 = true := by decide +kernel
def c74_0 : ACode := .ops [⟨some 0, .alloc [.int .i64 0, .int .i64 0, .int .i64 0, .int .i64 0, .int .i64 0, .nils], none, []⟩] [0]
def c74_1 : ACode := .ops [⟨some 2, .build [.bool false, .int .i64 0, .int .i64 0, .int .i64 0, .int .i64 0, .int .i64 0] [(3, 1, .c (.int .i64 5)), (4, 1, .c (.int .i64 1)), (5, 1, .c (.int .i64 2))], none, []⟩,⟨some 3, .call 68 [.t 2], none, []⟩,⟨some 4, .build [.bool false, .int .i64 0, .int .i64 0, .int .i64 0, .int .i64 0, .int .i64 0] [(0, 1, .c (.bool true)), (1, 1, .c (.int .i64 10))], none, []⟩,⟨some 5, .call 68 [.t 4], none, []⟩,⟨some 6, .build [.bool false, .int .i64 0, .int .i64 0, .int .i64 0, .int .i64 0, .int .i64 0] [(0, 1, .c (.bool true)), (1, 1, .c (.int .i64 20))], none, []⟩,⟨some 7, .call 68 [.t 6], none, []⟩,⟨some 8, .mkrow 1 3 1 [.int .u64 0] [(0, 1, .t 3), (1, 1, .t 5), (2, 1, .t 7)], none, []⟩,⟨some 1, .mv (.t 8), none, []⟩] [0, 1]
def c74_2 : ACode := .ops [⟨some 9, .build [.int .i64 0, .int .i64 0, .int .i64 0] [(0, 1, .c (.int .i64 3))], none, []⟩,⟨some 10, .mv (.t 1), none, []⟩,⟨some 11, .build [.int .i64 0, .nils] [(1, 1, .t 10)], none, []⟩,⟨some 12, .mkrow 12 1 2 [.int .i64 0, .nils] [(0, 2, .t 11)], none, []⟩,⟨some 13, .build [.int .i64 0, .int .i64 0, .int .i64 0, .int .i64 0, .int .i64 0, .nils] [(0, 1, .c (.int .i64 1)), (1, 1, .c (.int .i64 1)), (2, 3, .t 9), (5, 1, .t 12)], none, []⟩,⟨none, .store (.t 0) 6 (.t 13), none, [0]⟩] [0]
def c74_3 : ACode := .seq c74_2 .ret
def c74_4 : ACode := .seq c74_1 c74_3
def c74_5 : ACode := .seq c74_0 c74_4
def a74 : AFun := ⟨0, 14, c74_5, [.cell 0 6 true]⟩
theorem m74 : mFun Try.prog Try.f74 a74 = true := by decide +kernel
def texts41 : List (Nat × AFun) := [(19, a19), (20, a20), (27, a27), (28, a28), (38, a38), (40, a40), (41, a41), (45, a45), (57, a57), (58, a58), (66, a66), (68, a68), (69, a69), (70, a70), (71, a71), (72, a72), (74, a74), (75, a75), (76, a76), (77, a77), (78, a78), (85, a85), (89, a89), (90, a90), (91, a91), (92, a92), (97, a97), (108, a108), (109, a109), (110, a110), (117, a117), (118, a118), (119, a119), (120, a120), (121, a121), (122, a122), (123, a123), (124, a124), (125, a125), (126, a126), (132, a132), (133, a133), (134, a134), (143, a143), (144, a144), (146, a146), (147, a147), (149, a149), (162, a162)]
theorem texts41_good : Go.Am.Good Try.prog texts41 :=
  good_cons Try.func19 m19 <| good_cons Try.func20 m20 <| good_cons Try.func27 m27 <| good_cons Try.func28 m28 <| good_cons Try.func38 m38 <| good_cons Try.func40 m40 <| good_cons Try.func41 m41 <| good_cons Try.func45 m45 <| good_cons Try.func57 m57 <| good_cons Try.func58 m58 <| good_cons Try.func66 m66 <| good_cons Try.func68 m68 <| good_cons Try.func69 m69 <| good_cons Try.func70 m70 <| good_cons Try.func71 m71 <| good_cons Try.func72 m72 <| good_cons Try.func74 m74 <| good_cons Try.func75 m75 <| good_cons Try.func76 m76 <| good_cons Try.func77 m77 <| good_cons Try.func78 m78 <| good_cons Try.func85 m85 <| good_cons Try.func89 m89 <| good_cons Try.func90 m90 <| good_cons Try.func91 m91 <| good_cons Try.func92 m92 <| good_cons Try.func97 m97 <| good_cons Try.func108 m108 <| good_cons Try.func109 m109 <| good_cons Try.func110 m110 <| good_cons Try.func117 m117 <| good_cons Try.func118 m118 <| good_cons Try.func119 m119 <| good_cons Try.func120 m120 <| good_cons Try.func121 m121 <| good_cons Try.func122 m122 <| good_cons Try.func123 m123 <| good_cons Try.func124 m124 <| good_cons Try.func125 m125 <| good_cons Try.func126 m126 <| good_cons Try.func132 m132 <| good_cons Try.func133 m133 <| good_cons Try.func134 m134 <| good_cons Try.func143 m143 <| good_cons Try.func144 m144 <| good_cons Try.func146 m146 <| good_cons Try.func147 m147 <| good_cons Try.func149 m149 <| good_cons Try.func162 m162 <| good_nil
theorem c_closed41 : Contract Try.prog 41 (sp0 (some true)) := contract_closed mixed texts41_good (m := 2000) (n := 80) (by decide +kernel)
def sp8 {α0 α1 α2 α3 α4 α5 α6 α7 γ : Type} [Arg α0] [Arg α1] [Arg α2] [Arg α3] [Arg α4] [Arg α5] [Arg α6] [Arg α7] [Arg γ] (F : α0 → α1 → α2 → α3 → α4 → α5 → α6 → α7 → Option γ) : List AV → Option AV
  | [x0, x1, x2, x3, x4, x5, x6, x7] => (Arg.dec x0).bind fun a0 => (Arg.dec x1).bind fun a1 => (Arg.dec x2).bind fun a2 => (Arg.dec x3).bind fun a3 => (Arg.dec x4).bind fun a4 => (Arg.dec x5).bind fun a5 => (Arg.dec x6).bind fun a6 => (Arg.dec x7).bind fun a7 => (F a0 a1 a2 a3 a4 a5 a6 a7).map Arg.enc
  | _ => none
theorem sp8_runs {α0 α1 α2 α3 α4 α5 α6 α7 γ : Type} [Arg α0] [Arg α1] [Arg α2] [Arg α3] [Arg α4] [Arg α5] [Arg α6] [Arg α7] [Arg γ] {F : α0 → α1 → α2 → α3 → α4 → α5 → α6 → α7 → Option γ} {C : Cs} {A : AFun} (h : ∀ a0 a1 a2 a3 a4 a5 a6 a7 c, F a0 a1 a2 a3 a4 a5 a6 a7 = some c → Runs C A [Arg.enc a0, Arg.enc a1, Arg.enc a2, Arg.enc a3, Arg.enc a4, Arg.enc a5, Arg.enc a6, Arg.enc a7] (Arg.enc c)) : ∀ args r, sp8 F args = some r → Runs C A args r := by
  intro args r hr
  unfold sp8 at hr
  split at hr
  · simp only [Option.bind_eq_some_iff, Option.map_eq_some_iff] at hr
    obtain ⟨a0, h0, a1, h1, a2, h2, a3, h3, a4, h4, a5, h5, a6, h6, a7, h7, c, hc, rfl⟩ := hr
    rw [Arg.enc_dec _ _ h0, Arg.enc_dec _ _ h1, Arg.enc_dec _ _ h2, Arg.enc_dec _ _ h3, Arg.enc_dec _ _ h4, Arg.enc_dec _ _ h5, Arg.enc_dec _ _ h6, Arg.enc_dec _ _ h7]
    exact h a0 a1 a2 a3 a4 a5 a6 a7 c hc
  · cases hr
theorem holds_start {m : Model} (hm : RM m) {q : Query} (hq : okQuery m q = true) : holdsM m q = true ↔ ∀ p t, InB (startOf q) p t → breaks m q p t = false := holds_iff hm (okQuery_start hq).2.2
noncomputable abbrev csT : Cs := tbl [(15, sp1 ModelC), (31, sp2 QueryC), (42, sp3 RTruthC), (24, sp3 Within), (33, sp1 fun q => some (startOf q)), (32, sp2 StepsC), (1000000 + 34, gspec rSearchG), (40, sp3 ProvesC), (26, sp2 InsideC), (41, sp0 (some true))]
inductive PV (pf : List Step) (g : Nat → Nat) : AV → Hp → Prop
  | lst (n : Nat) : n = pf.length → PV pf g (.lst n (encL pf)) []
  | nil : pf = [] → PV pf g .nils []
  | own (b n : Nat) (G : List AV) : (b = 64 ∨ b = 110) → n = pf.length → PV pf g (.own b (g b) 0 n) [(b, ⟨encL pf ++ G, false, 3⟩)]
theorem run_csEnd (m : Model) (hm : RM m) (q : Query) (hq : okQuery m q = true) (hqb : q.budget = 3000) (p : List Int) (twin : Int) (pf : List Step) (V : AV) (hx : Hp) (h : Hp) (g : Nat → Nat) (hV : PV pf g V hx) (b9 : pf.length ≤ 65536)
    (h17 : hlook h 17 = some ⟨Row.enc m, false, 0⟩) (h18 : hlook h 18 = some ⟨Row.enc q, false, 0⟩) (h21 : hlook h 21 = some ⟨[.int .i64 1, V, .int .i64 0, .int .i64 0, .int .i64 0, .int .i64 0, .int .i64 0, .int .i64 0], false, 0⟩)
    (hxx : hlook h 64 = hlook hx 64 ∧ hlook h 110 = hlook hx 110) (t : Env) (ht : Go.Am.look t 6 = .lst p.length (encL p) ∧ Go.Am.look t 7 = .int .i64 twin ∧ Go.Am.look t 17 = .ptr 17 (g 17) 0 ∧ Go.Am.look t 18 = .ptr 18 (g 18) 0 ∧ Go.Am.look t 19 = .bool (holdsM m q) ∧ Go.Am.look t 21 = .ptr 21 (g 21) 0) :
    run csT c7_68 [] ⟨t, h, g⟩ (fin a7.res (.bool true)) := by
  unfold a7
  have hst := okQuery_start hq
  have hd := hm.dim
  have hdm : ¬ m.dim < 1 := by omega
  have hP : ∀ v, ProvesC m q v = some (provesM m q v) := fun v => by unfold ProvesC; rw [if_neg hdm, part_of hm]
  have hN : ∀ v, ProvesC ⟨0, 0, ⟨0, 0, 0⟩, []⟩ q v = some false := fun v => by unfold ProvesC; rw [if_pos (by decide)]
  have hP1 := hP ⟨1, pf, zeroP, 0, 0⟩
  have hI : InsideC (startOf q) p = some (insideOf (startOf q) p) := part_of ⟨hst.1.1, hst.1.2.1, hst.1.2.2.1, hst.1.2.2.2.1⟩ _
  have hin := inside_in hst.2.2 p
  have hes := (empty_spec hst.2.2).2.2.2.2
  unfold Span.empty at hes
  rw [decide_eq_false_iff_not] at hes
  have hs4 := hst.1.2.2.2.2
  unfold small at hs4
  have hWt := within_of twin (startOf q).s4.lo (startOf q).s4.hi (by omega)
  have hwt := within_le twin (startOf q).s4.lo (startOf q).s4.hi (by omega)
  have hiff := holds_start hm hq
  have hsound : provesM m q ⟨1, pf, zeroP, 0, 0⟩ = true → holdsM m q = true := fun h => hiff.2 (proven_sound hm (v := ⟨1, pf, zeroP, 0, 0⟩) rfl h).2
  have hP2 := hP ⟨2, [], insideOf (startOf q) p, within twin (startOf q).s4.lo (startOf q).s4.hi, 0⟩
  have hwit : provesM m q ⟨2, [], insideOf (startOf q) p, within twin (startOf q).s4.lo (startOf q).s4.hi, 0⟩ = true → holdsM m q = false := fun h => by
    unfold provesM at h
    simp only [Bool.and_eq_true] at h
    rw [if_neg (by decide)] at h
    simp only [if_true, Bool.and_eq_true] at h
    cases hh : holdsM m q
    · rfl
    · have := hiff.1 hh _ _ (hasB_iff.1 h.2.1)
      rw [h.2.2] at this
      cases this
  have hP3 : ∀ y z w u, ProvesC m q ⟨2, [], ⟨q.region.s0.hi + 1, y, z, w⟩, u, 0⟩ = some false := fun y z w u => by
    rw [hP]
    unfold provesM
    simp only [if_true, Int.reduceEq, if_false]
    have : hasB (startOf q) ⟨q.region.s0.hi + 1, y, z, w⟩ u = false := by
      cases hh : hasB (startOf q) ⟨q.region.s0.hi + 1, y, z, w⟩ u
      · rfl
      · have h0 := (hasB_iff.1 hh).1
        unfold InS at h0
        have e : (startOf q).s0 = q.region.s0 := rfl
        rw [e] at h0
        simp only at h0
        omega
    rw [this]
    simp
  have hP4 : ProvesC m q ⟨3, [], zeroP, 0, 0⟩ = some false := by
    rw [hP]
    unfold provesM
    simp
  have hr0 : small q.region.s0 := hst.1.1
  have hr1 : q.region.s0.lo ≤ q.region.s0.hi := by
    have := (empty_spec hst.2.2).1
    unfold Span.empty at this
    rw [decide_eq_false_iff_not] at this
    have e : (startOf q).s0 = q.region.s0 := rfl
    rw [e] at this
    omega
  unfold small at hr0
  have w1 : IntKind.i64.wrap (q.region.s0.hi + 1) = q.region.s0.hi + 1 := wrap64 (by omega) (by omega)
  generalize insideOf (startOf q) p = wp at *
  generalize within twin (startOf q).s4.lo (startOf q).s4.hi = wt at *
  generalize provesM m q ⟨1, pf, zeroP, 0, 0⟩ = d1 at *
  generalize provesM m q ⟨2, [], wp, wt, 0⟩ = d2 at *
  generalize holdsM m q = hd0 at *
  obtain ⟨t6, t7, t17, t18, t19, t21⟩ := ht
  have hDn : (Arg.dec (.agg [.int .i64 2, .lst 0 [], .int .i64 wp.p0, .int .i64 wp.p1, .int .i64 wp.p2, .int .i64 wp.p3, .int .i64 wt, .int .i64 0]) : Option Verdict) = some ⟨2, [], wp, wt, 0⟩ := rfl
  have hDn2 : ∀ x y z w u : Int, (Arg.dec (.agg [.int .i64 2, .lst 0 [], .int .i64 x, .int .i64 y, .int .i64 z, .int .i64 w, .int .i64 u, .int .i64 0]) : Option Verdict) = some ⟨2, [], ⟨x, y, z, w⟩, u, 0⟩ := fun _ _ _ _ _ => rfl
  have hDn3 : (Arg.dec (.agg [.int .i64 3, .lst 0 [], .int .i64 0, .int .i64 0, .int .i64 0, .int .i64 0, .int .i64 0, .int .i64 0]) : Option Verdict) = some ⟨3, [], zeroP, 0, 0⟩ := rfl
  have hDm : (Arg.dec (.agg [.int .i64 0, .int .i64 0, .int .i64 0, .int .i64 0, .int .i64 0, .lst 0 []]) : Option Model) = some ⟨0, 0, ⟨0, 0, 0⟩, []⟩ := rfl
  have hDv : (Arg.dec (.agg [.int .i64 1, .lst pf.length (encL pf), .int .i64 0, .int .i64 0, .int .i64 0, .int .i64 0, .int .i64 0, .int .i64 0]) : Option Verdict) = some ⟨1, pf, zeroP, 0, 0⟩ := Arg.dec_enc (⟨1, pf, zeroP, 0, 0⟩ : Verdict)
  obtain ⟨x64, x110⟩ := hxx
  cases hV with
  | lst n hn =>
    subst hn
    cases d1 <;> cases d2 <;> cases hd0 <;> first | exact absurd (hsound rfl) Bool.false_ne_true | exact absurd (hwit rfl).symm Bool.false_ne_true | skip
    all_goals simp -implicitDefEqProofs [hlook_hput, hlook_frzAll, h17, h18, h21, t6, t7, t17, t18, t19, t21, hI, hWt, hP1, hP2, hP3, hP4, hN, w1, hDn, hDn2, hDn3, hDm, hDv]
  | nil hp =>
    subst hp
    have hDv0 : (Arg.dec (.agg [.int .i64 1, .lst 0 [], .int .i64 0, .int .i64 0, .int .i64 0, .int .i64 0, .int .i64 0, .int .i64 0]) : Option Verdict) = some ⟨1, [], zeroP, 0, 0⟩ := rfl
    cases d1 <;> cases d2 <;> cases hd0 <;> first | exact absurd (hsound rfl) Bool.false_ne_true | exact absurd (hwit rfl).symm Bool.false_ne_true | skip
    all_goals simp -implicitDefEqProofs [hlook_hput, hlook_frzAll, h17, h18, h21, t6, t7, t17, t18, t19, t21, hI, hWt, hP1, hP2, hP3, hP4, hN, w1, hDn, hDn2, hDn3, hDm, hDv0]
  | own b n G hb hn =>
    subst hn
    have hsk : List.take (pf.length * 3) (encL pf ++ G) = encL pf := by
      have : (encL pf).length = pf.length * 3 := encL_length pf
      rw [← this, List.take_left]
    have hsl : pf.length * 3 ≤ (encL pf).length + G.length := by
      have : (encL pf).length = pf.length * 3 := encL_length pf
      omega
    have hb2 : hlook h b = some ⟨encL pf ++ G, false, 3⟩ := by
      rcases hb with rfl | rfl
      · rw [x64]; rfl
      · rw [x110]; rfl
    rcases hb with rfl | rfl <;> cases d1 <;> cases d2 <;> cases hd0 <;> first | exact absurd (hsound rfl) Bool.false_ne_true | exact absurd (hwit rfl).symm Bool.false_ne_true | skip
    all_goals simp -implicitDefEqProofs [hlook_hput, hlook_frzAll, h17, h18, h21, hb2, t6, t7, t17, t18, t19, t21, hI, hWt, hP1, hP2, hP3, hP4, hN, w1, hDn, hDn2, hDn3, hDm, hDv, hsk, hsl]
theorem search_le {m : Model} {q : Query} : ∀ (n : Nat) (sp : Int) (bs : List Box) (pf : List Step), (searchN m q n sp bs pf).proof.length ≤ pf.length + n
  | n, sp, [], pf => by rw [searchN_nil]; simp
  | 0, sp, b :: bs, pf => by show 0 ≤ _; omega
  | n + 1, sp, b :: bs, pf => by
    rw [searchN_cons]
    split
    · have := search_le (m := m) (q := q) n (sp + 1) bs (pf ++ [sumS])
      simp only [List.length_append, List.length_cons, List.length_nil] at this
      omega
    · split
      · show 0 ≤ _; omega
      · split
        · have := search_le (m := m) (q := q) n (sp + 1) ((cutB b (splitM m q b).a (splitM m q b).b).1 :: (cutB b (splitM m q b).a (splitM m q b).b).2 :: bs) (pf ++ [⟨false, (splitM m q b).a, (splitM m q b).b⟩])
          simp only [List.length_append, List.length_cons, List.length_nil] at this
          omega
        · show 0 ≤ _; omega
theorem holds_budget {m : Model} (hm : RM m) {q : Query} {n : Int} (h : okQuery m q = true) (h' : okQuery m (withBudget q n) = true) : holdsM m (withBudget q n) = holdsM m q := by
  rw [Bool.eq_iff_iff, holds_start hm h, holds_start hm h']
  have e : startOf (withBudget q n) = startOf q := rfl
  rw [e]
  constructor
  · intro g p t hp
    rw [← breaks_budget h h']
    exact g p t hp
  · intro g p t hp
    rw [breaks_budget h h']
    exact g p t hp
def cutAt (s : Step) (n : Int) : Step := ⟨s.sum, s.place, n⟩
theorem rd_cutAt (l : List Step) (i : Nat) (h : i < l.length) : rd (encL l) (i * 3 + 2) 1 false = some (.int .i64 l[i].cut) := by
  have := rd_cell l i 2 h (by simp)
  simpa using this
theorem wr_cutAt (l : List Step) (i : Nat) (h : i < l.length) (n : Int) : wr (encL l) (i * 3 + 2) [.int .i64 n] = encL (l.set i (cutAt l[i] n)) := by
  have h0 := wr_row l i h (cutAt l[i] n)
  rw [← h0]
  have hl : (encL l).length = l.length * 3 := encL_length l
  have hg := encL_get l i h
  have hlt : i * 3 + 3 ≤ (encL l).length := by rw [hl]; omega
  have e3 : (encL l).drop (i * 3) = Row.enc l[i] ++ (encL l).drop (i * 3 + 3) := by
    rw [← List.take_append_drop 3 ((encL l).drop (i * 3)), List.drop_drop]
    congr 1
  unfold wr
  show List.take (i * 3 + 2) (encL l) ++ [AV.int .i64 n] ++ List.drop (i * 3 + 2 + 1) (encL l) = List.take (i * 3) (encL l) ++ Row.enc (cutAt l[i] n) ++ List.drop (i * 3 + 3) (encL l)
  have e4 : List.take (i * 3 + 2) (encL l) = List.take (i * 3) (encL l) ++ [.bool l[i].sum, .int .i64 l[i].place] := by
    rw [List.take_add, e3]
    rfl
  rw [e4]
  simp [cutAt]
theorem runs_law (f : Forest) (a : Ask) (s : Cutting) (l : List Step) (turn : List Int) (how : Int) (p : List Int) (twin : Int) (c : Bool) (h : some true = some c) : Runs csT a7 [Arg.enc f, Arg.enc a, Arg.enc s, Arg.enc l, Arg.enc turn, Arg.enc how, Arg.enc p, Arg.enc twin] (Arg.enc c) := by
  cases h
  refine ⟨rfl, fun g => run_def ?_⟩
  have hm := rm_modelOf f
  have hM : ModelC f = some (modelOf f) := rfl
  generalize modelOf f = m at *
  have hQ : QueryC a m = some (queryOf m a) := part_of ⟨hm.dim.1, hm.dim.2, hm.classes.1, hm.classes.2⟩ _
  have hq0 := ok_queryOf m a hm
  generalize queryOf m a = q0 at *
  have hst0 := okQuery_start hq0
  have hT : RTruthC m q0 1500 = some (if countM m q0 (startOf q0) ≤ 1500 then (holdsM m q0, true) else (false, false)) := part_of ⟨hm, hst0.2.1, hst0.2.2, by omega⟩ _
  have hq := okQuery_budget hq0 (n := 3000) (by omega) (by omega)
  have hend := run_csEnd m hm (withBudget q0 3000) hq rfl p twin
  rw [holds_budget hm hq0 hq] at hend
  have hSt : StepsC s (startOf q0) = some (stepsOf s (startOf q0)) := part_of ⟨hst0.1, hst0.2.2⟩ _
  have hStl := (steps_len (c := s) 41 [startOf q0] 0 [] []).1
  have hStd : stepsN s 41 [startOf q0] 0 [] [] = stepsOf s (startOf q0) := rfl
  rw [hStd] at hStl
  have hSe : rSearchG [Arg.enc m, Arg.enc (withBudget q0 3000)] [] = some (vgV (searchM m (withBudget q0 3000)), vgH (searchM m (withBudget q0 3000))) := by
    unfold rSearchG
    simp only [Arg.dec_enc, Option.bind_some]
    rw [if_pos hm]
  have hSl : (searchM m (withBudget q0 3000)).proof.length ≤ 3000 := by
    rw [searchM_eq hq]
    have := search_le (m := m) (q := withBudget q0 3000) (withBudget q0 3000).budget.toNat 0 [startOf (withBudget q0 3000)] []
    have e : (withBudget q0 3000).budget.toNat = 3000 := rfl
    rw [e] at this ⊢
    simpa using this
  generalize stepsOf s (startOf q0) = so at *
  obtain ⟨so1, so2⟩ := so
  generalize searchM m (withBudget q0 3000) = v at *
  have hWk := within_of how 0 3 (by omega)
  have hwk := within_le how 0 3 (by omega)
  generalize within how 0 3 = k at *
  unfold a7 at hend ⊢
  by_cases hc : countM m q0 (startOf q0) ≤ 1500
  case neg =>
    rw [if_neg hc] at hT
    simp -implicitDefEqProofs [hM, hQ, hT]
  rw [if_pos hc] at hT
  generalize holdsM m q0 = hd at *
  by_cases b1 : l.length ≤ maxN
  case neg => simp -implicitDefEqProofs [hM, hQ, hT, b1]
  have hcl : (60 : Int) < l.length ∨ ¬ (60 : Int) < l.length := by omega
  have ht60 : List.take 180 (encL l) = encL (l.take 60) := encL_take l 60
  have htal : List.take (l.length * 3) (encL l) = encL l := take_stepsE l
  have hk : k = 0 ∨ k = 1 ∨ k = 2 ∨ k = 3 := by omega
  have hSl9 : v.proof.length ≤ 65536 := by omega
  have fin3 : ∀ (pf : List Step) (n : Nat), n = pf.length → pf.length ≤ 65536 → ∀ (t : Env) (h : Hp) (g : Nat → Nat), hlook h 17 = some ⟨Row.enc m, false, 0⟩ → hlook h 18 = some ⟨Row.enc (withBudget q0 3000), false, 0⟩ → hlook h 21 = some ⟨[.int .i64 1, .lst n (encL pf), .int .i64 0, .int .i64 0, .int .i64 0, .int .i64 0, .int .i64 0, .int .i64 0], false, 0⟩ → hlook h 64 = none → hlook h 110 = none →
      Go.Am.look t 6 = .lst p.length (encL p) ∧ Go.Am.look t 7 = .int .i64 twin ∧ Go.Am.look t 17 = .ptr 17 (g 17) 0 ∧ Go.Am.look t 18 = .ptr 18 (g 18) 0 ∧ Go.Am.look t 19 = .bool hd ∧ Go.Am.look t 21 = .ptr 21 (g 21) 0 → run csT c7_68 [] ⟨t, h, g⟩ (fin [.t 16] (.bool true)) :=
    fun pf n hn h9 t h g e17 e18 e21 e64 e110 ht => hend pf _ [] h g (.lst n hn) h9 e17 e18 e21 ⟨e64, e110⟩ t ht
  have finN : ∀ (t : Env) (h : Hp) (g : Nat → Nat), hlook h 17 = some ⟨Row.enc m, false, 0⟩ → hlook h 18 = some ⟨Row.enc (withBudget q0 3000), false, 0⟩ → hlook h 21 = some ⟨[.int .i64 1, .nils, .int .i64 0, .int .i64 0, .int .i64 0, .int .i64 0, .int .i64 0, .int .i64 0], false, 0⟩ → hlook h 64 = none → hlook h 110 = none →
      Go.Am.look t 6 = .lst p.length (encL p) ∧ Go.Am.look t 7 = .int .i64 twin ∧ Go.Am.look t 17 = .ptr 17 (g 17) 0 ∧ Go.Am.look t 18 = .ptr 18 (g 18) 0 ∧ Go.Am.look t 19 = .bool hd ∧ Go.Am.look t 21 = .ptr 21 (g 21) 0 → run csT c7_68 [] ⟨t, h, g⟩ (fin [.t 16] (.bool true)) :=
    fun t h g e17 e18 e21 e64 e110 ht => hend [] _ [] h g (.nil rfl) (by simp) e17 e18 e21 ⟨e64, e110⟩ t ht
  have finO : ∀ (b : Nat) (G : List AV) (pf : List Step) (n : Nat), (b = 64 ∨ b = 110) → n = pf.length → pf.length ≤ 65536 → ∀ (t : Env) (h : Hp) (g : Nat → Nat), hlook h 17 = some ⟨Row.enc m, false, 0⟩ → hlook h 18 = some ⟨Row.enc (withBudget q0 3000), false, 0⟩ → hlook h 21 = some ⟨[.int .i64 1, .own b (g b) 0 n, .int .i64 0, .int .i64 0, .int .i64 0, .int .i64 0, .int .i64 0, .int .i64 0], false, 0⟩ → (hlook h 64 = hlook [(b, ⟨encL pf ++ G, false, 3⟩)] 64 ∧ hlook h 110 = hlook [(b, ⟨encL pf ++ G, false, 3⟩)] 110) →
      Go.Am.look t 6 = .lst p.length (encL p) ∧ Go.Am.look t 7 = .int .i64 twin ∧ Go.Am.look t 17 = .ptr 17 (g 17) 0 ∧ Go.Am.look t 18 = .ptr 18 (g 18) 0 ∧ Go.Am.look t 19 = .bool hd ∧ Go.Am.look t 21 = .ptr 21 (g 21) 0 → run csT c7_68 [] ⟨t, h, g⟩ (fin [.t 16] (.bool true)) :=
    fun b G pf n hb hn h9 t h g e17 e18 e21 exx ht => hend pf _ _ h g (.own b n G hb hn) h9 e17 e18 e21 exx t ht
  clear hend
  simp only [enc_Model, enc_Query, withBudget] at hSe
  have hSt : StepsC s (startOf ⟨q0.kind, q0.cls, q0.region, q0.lo, q0.hi, q0.feature, q0.falls, 3000⟩) = some (so1, so2) := hSt
  have c60 : (60 : Int) < l.length → (60 : Int) ≤ l.length := fun h => by omega
  rcases hk with rfl | rfl | rfl | rfl
  · -- steps that numbers make
    rcases hcl with h60 | h60
    all_goals
      first
      | (have c60 := c60 h60
         simp -implicitDefEqProofs [hM, hQ, hT, b1, hWk, h60, c60, ht60, hSt, -r7_68]
         exact fin3 so2 _ rfl (by simp at hStl; omega) _ _ _ rfl rfl rfl rfl rfl ⟨rfl, rfl, rfl, rfl, rfl, rfl⟩)
      | (simp -implicitDefEqProofs [hM, hQ, hT, b1, hWk, h60, htal, hSt, -r7_68]
         exact fin3 so2 _ rfl (by simp at hStl; omega) _ _ _ rfl rfl rfl rfl rfl ⟨rfl, rfl, rfl, rfl, rfl, rfl⟩)
  · -- a search's own, some turned
    by_cases b2 : turn.length ≤ maxN
    case neg =>
      by_cases hv : v.proof = []
      · have e1 : vgV v = .agg (vCells v .nils) := by unfold vgV; rw [if_pos hv]
        have e2 : vgH v = [] := by unfold vgH; rw [if_pos hv]
        rw [e1, e2] at hSe
        unfold vCells at hSe
        rcases hcl with h60 | h60
        · have c60 := c60 h60
          simp -implicitDefEqProofs [hM, hQ, hT, b1, b2, hWk, h60, c60, ht60, hSe, run_round, -r7_68]
        · simp -implicitDefEqProofs [hM, hQ, hT, b1, b2, hWk, h60, htal, hSe, run_round, -r7_68]
      · have e1 : vgV v = .agg (vCells v (.own 2 0 0 v.proof.length)) := by unfold vgV; rw [if_neg hv]
        have e2 : vgH v = [(2, ⟨encL v.proof, false, 3⟩)] := by unfold vgH; rw [if_neg hv]
        rw [e1, e2] at hSe
        unfold vCells at hSe
        have hmu : ∀ gm, mapM1 (up1 gm) (encL v.proof) = some (encL v.proof) := fun gm => mapM1_up (encL_plain v.proof)
        rcases hcl with h60 | h60
        · have c60 := c60 h60
          simp -implicitDefEqProofs [hM, hQ, hT, b1, b2, hWk, h60, c60, ht60, hSe, hmu, run_round, -r7_68]
        · simp -implicitDefEqProofs [hM, hQ, hT, b1, b2, hWk, h60, htal, hSe, hmu, run_round, -r7_68]
    have hmx : turn.length ≤ 9223372036854775807 := b2
    by_cases hv : v.proof = []
    · have e1 : vgV v = .agg (vCells v .nils) := by unfold vgV; rw [if_pos hv]
      have e2 : vgH v = [] := by unfold vgH; rw [if_pos hv]
      rw [e1, e2] at hSe
      unfold vCells at hSe
      by_cases z : turn.length = 0
      · have z' : ¬ (0 : Int) < turn.length := by omega
        have z'' : ¬ 0 < turn.length := by omega
        rcases hcl with h60 | h60
        · have c60 := c60 h60
          simp -implicitDefEqProofs [hM, hQ, hT, b1, b2, hWk, h60, c60, ht60, hSe, run_round, z'', -r7_68]
          exact finN _ _ _ rfl rfl rfl rfl rfl ⟨rfl, rfl, rfl, rfl, rfl, rfl⟩
        · simp -implicitDefEqProofs [hM, hQ, hT, b1, b2, hWk, h60, htal, hSe, run_round, z'', -r7_68]
          exact finN _ _ _ rfl rfl rfl rfl rfl ⟨rfl, rfl, rfl, rfl, rfl, rfl⟩
      · have z'' : 0 < turn.length := by omega
        rcases hcl with h60 | h60
        · have c60 := c60 h60
          simp -implicitDefEqProofs [hM, hQ, hT, b1, b2, hWk, h60, c60, ht60, hSe, run_round, z'', -r7_68]
          exact finN _ _ _ rfl rfl rfl rfl rfl ⟨rfl, rfl, rfl, rfl, rfl, rfl⟩
        · simp -implicitDefEqProofs [hM, hQ, hT, b1, b2, hWk, h60, htal, hSe, run_round, z'', -r7_68]
          exact finN _ _ _ rfl rfl rfl rfl rfl ⟨rfl, rfl, rfl, rfl, rfl, rfl⟩
    · have e1 : vgV v = .agg (vCells v (.own 2 0 0 v.proof.length)) := by unfold vgV; rw [if_neg hv]
      have e2 : vgH v = [(2, ⟨encL v.proof, false, 3⟩)] := by unfold vgH; rw [if_neg hv]
      rw [e1, e2] at hSe
      unfold vCells at hSe
      have hmu : ∀ gm, mapM1 (up1 gm) (encL v.proof) = some (encL v.proof) := fun gm => mapM1_up (encL_plain v.proof)
      have hn0 : 0 < v.proof.length := List.length_pos_iff.2 hv
      have m9 : v.proof.length ≤ maxN := by unfold maxN; omega
      have loop : ∀ (h : Hp) (g : Nat → Nat), keepH h [17, 18, 21, 64, 110] = [(17, ⟨Row.enc m, false, 0⟩), (18, ⟨Row.enc (withBudget q0 3000), false, 0⟩), (21, ⟨[.int .i64 1, .own 64 (g 64) 0 v.proof.length, .int .i64 0, .int .i64 0, .int .i64 0, .int .i64 0, .int .i64 0, .int .i64 0], false, 0⟩), (64, ⟨encL v.proof, false, 3⟩)] →
          run csT (.loop c7_27) [Fr.blk 1, Fr.blk 0, Fr.c c7_68] ⟨[(4, .lst turn.length (encL turn)), (6, .lst p.length (encL p)), (7, .int .i64 twin), (17, .ptr 17 (g 17) 0), (18, .ptr 18 (g 18) 0), (19, .bool hd), (21, .ptr 21 (g 21) 0), (22, .int .i64 0)], h, g⟩ (fin [.t 16] (.bool true)) := by
        intro h g hh
        rw [show c7_27 = _ from c7_27.eq_1]
        refine run_while (c := c7_26) (fun n s => ∃ (i : Nat) (pf : List Step) (g : Nat → Nat), i + n = turn.length ∧ pf.length = v.proof.length ∧ s = ⟨[(4, .lst turn.length (encL turn)), (6, .lst p.length (encL p)), (7, .int .i64 twin), (17, .ptr 17 (g 17) 0), (18, .ptr 18 (g 18) 0), (19, .bool hd), (21, .ptr 21 (g 21) 0), (22, .int .i64 i)],
          [(17, ⟨Row.enc m, false, 0⟩), (18, ⟨Row.enc (withBudget q0 3000), false, 0⟩), (21, ⟨[.int .i64 1, .own 64 (g 64) 0 v.proof.length, .int .i64 0, .int .i64 0, .int .i64 0, .int .i64 0, .int .i64 0, .int .i64 0], false, 0⟩), (64, ⟨encL pf, false, 3⟩)], g⟩) turn.length ⟨0, v.proof, g, by omega, rfl, by simp only [hh]; simp⟩ ?_
        rintro n s ⟨i, pf, g, hi, hpf, rfl⟩
        generalize v.proof.length = nn at *
        by_cases h1 : i < turn.length
        case pos =>
          have w1 : IntKind.i64.wrap ((i : Int) + 1) = (i : Int) + 1 := wrap64 (by omega) (by omega)
          have w2 : IntKind.i64.wrap ((nn : Int) - 1) = (nn : Int) - 1 := wrap64 (by omega) (by omega)
          have hrd := rd_ints turn i h1
          have hW := within_of turn[i] 0 ((nn : Int) - 1) (by omega)
          have hw := within_le turn[i] 0 ((nn : Int) - 1) (by omega)
          generalize within turn[i] 0 ((nn : Int) - 1) = kk at *
          obtain ⟨kn, rfl⟩ : ∃ kn : Nat, kk = kn := ⟨kk.toNat, by omega⟩
          have hkn : kn < pf.length := by omega
          have hkn2 : kn < nn := by omega
          have hrc := rd_cutAt pf kn hkn
          have hwc := fun x => wr_cutAt pf kn hkn x
          have hnn : 0 < nn := hn0
          have hel : (encL pf).length = nn * 3 := by rw [encL_length, hpf]; rfl
          have hle1 : kn * 3 + 2 + 1 ≤ (encL pf).length := by rw [hel]; omega
          generalize turn[i] = ti at *
          simp -implicitDefEqProofs [h1, b2, m9, hnn, hrd, w2, hW, hkn2, hrc, hwc, hle1, hel, w1]
          refine ⟨fun _ => ⟨n - 1, by omega, i + 1, by omega, _, ?_, by omega, rfl⟩, by omega⟩
          simp [hpf]
        case neg =>
          have hil : i = turn.length := by omega
          subst hil
          simp -implicitDefEqProofs [h1, b2, -r7_68]
          exact finO 64 [] pf nn (.inl rfl) hpf.symm (by omega) _ _ _ rfl rfl rfl ⟨by simp, rfl⟩ ⟨rfl, rfl, rfl, rfl, rfl, rfl⟩
      rcases hcl with h60 | h60
      · have c60 := c60 h60
        simp -implicitDefEqProofs [hM, hQ, hT, b1, hWk, h60, c60, ht60, hSe, hmu, -r7_68, -r7_27]
        refine loop _ (bump 64 (bump 21 (bump 18 (bump 17 (bump 10 (bump 9 (bump 8 g))))))) ?_
        rfl
      · simp -implicitDefEqProofs [hM, hQ, hT, b1, hWk, h60, htal, hSe, hmu, -r7_68, -r7_27]
        refine loop _ (bump 64 (bump 21 (bump 18 (bump 17 (bump 10 (bump 9 (bump 8 g))))))) ?_
        rfl
  · by_cases hv : v.proof = []
    · have e1 : vgV v = .agg (vCells v .nils) := by unfold vgV; rw [if_pos hv]
      have e2 : vgH v = [] := by unfold vgH; rw [if_pos hv]
      rw [e1, e2] at hSe
      unfold vCells at hSe
      rcases hcl with h60 | h60
      · have c60 := c60 h60
        simp -implicitDefEqProofs [hM, hQ, hT, b1, hWk, h60, c60, ht60, hSe, -r7_68]
        exact finN _ _ _ rfl rfl rfl rfl rfl ⟨rfl, rfl, rfl, rfl, rfl, rfl⟩
      · simp -implicitDefEqProofs [hM, hQ, hT, b1, hWk, h60, htal, hSe, -r7_68]
        exact finN _ _ _ rfl rfl rfl rfl rfl ⟨rfl, rfl, rfl, rfl, rfl, rfl⟩
    · have e1 : vgV v = .agg (vCells v (.own 2 0 0 v.proof.length)) := by unfold vgV; rw [if_neg hv]
      have e2 : vgH v = [(2, ⟨encL v.proof, false, 3⟩)] := by unfold vgH; rw [if_neg hv]
      rw [e1, e2] at hSe
      unfold vCells at hSe
      have hmu : ∀ gm, mapM1 (up1 gm) (encL v.proof) = some (encL v.proof) := fun gm => mapM1_up (encL_plain v.proof)
      have hn0 : 0 < v.proof.length := List.length_pos_iff.2 hv
      have m9 : v.proof.length ≤ maxN := by unfold maxN; omega
      have hW := within_of (turn.length : Int) 0 (v.proof.length : Int) (by omega)
      have hw := within_le (turn.length : Int) 0 (v.proof.length : Int) (by omega)
      generalize within (turn.length : Int) 0 (v.proof.length : Int) = kk at *
      obtain ⟨kn, rfl⟩ : ∃ kn : Nat, kk = kn := ⟨kk.toNat, by omega⟩
      have hkn : kn ≤ v.proof.length := by omega
      have hsplit : encL v.proof = encL (v.proof.take kn) ++ encL (v.proof.drop kn) := by rw [← encL_append, List.take_append_drop]
      by_cases b2 : turn.length ≤ maxN
      case neg =>
        rcases hcl with h60 | h60
        · have c60 := c60 h60
          simp -implicitDefEqProofs [hM, hQ, hT, b1, b2, hWk, h60, c60, ht60, hSe, hmu, m9, hn0, -r7_68]
        · simp -implicitDefEqProofs [hM, hQ, hT, b1, b2, hWk, h60, htal, hSe, hmu, m9, hn0, -r7_68]
      rcases hcl with h60 | h60
      · have c60 := c60 h60
        simp -implicitDefEqProofs [hM, hQ, hT, b1, b2, hWk, h60, c60, ht60, hSe, hmu, m9, hn0, hW, hkn, -r7_68]
        exact finO 110 (encL (v.proof.drop kn)) (v.proof.take kn) kn (.inr rfl) (by simp; omega) (by simp; omega) _ _ _ rfl rfl rfl ⟨rfl, by rw [← hsplit]; rfl⟩ ⟨rfl, rfl, rfl, rfl, rfl, rfl⟩
      · simp -implicitDefEqProofs [hM, hQ, hT, b1, b2, hWk, h60, htal, hSe, hmu, m9, hn0, hW, hkn, -r7_68]
        exact finO 110 (encL (v.proof.drop kn)) (v.proof.take kn) kn (.inr rfl) (by simp; omega) (by simp; omega) _ _ _ rfl rfl rfl ⟨rfl, by rw [← hsplit]; rfl⟩ ⟨rfl, rfl, rfl, rfl, rfl, rfl⟩
  · rcases hcl with h60 | h60
    · have c60 := c60 h60
      simp -implicitDefEqProofs [hM, hQ, hT, b1, hWk, h60, c60, ht60, -r7_68]
      exact fin3 (l.take 60) 60 (by simp; omega) (by simp; omega) _ _ _ rfl rfl rfl rfl rfl ⟨rfl, rfl, rfl, rfl, rfl, rfl⟩
    · simp -implicitDefEqProofs [hM, hQ, hT, b1, hWk, h60, htal, -r7_68]
      exact fin3 l _ rfl (by omega) _ _ _ rfl rfl rfl rfl rfl ⟨rfl, rfl, rfl, rfl, rfl, rfl⟩
noncomputable def law_sp : List AV → Option AV := sp8 fun (_ : Forest) (_ : Ask) (_ : Cutting) (_ : List Step) (_ : List Int) (_ : Int) (_ : List Int) (_ : Int) => some true
theorem cs_holds : ∀ f, Contract Try.prog f (csT f) := tbl_cons c_Model (tbl_cons c_Query (tbl_cons c_rTruth (tbl_cons c_Within (tbl_cons c_rStart (tbl_cons c_Steps (tbl_cons c_rSearchG (tbl_cons c_Proves (tbl_cons c_Inside (tbl_cons c_closed41 tbl_nil)))))))))
theorem law_holds : Contract Try.prog 7 law_sp :=
  contract_of_runs mixed cs_holds Try.func7 m7 (sp8_runs runs_law)
theorem law_says (f : Forest) (a : Ask) (s : Cutting) (l : List Step) (l1 : List Int) (x : Int) (l2 : List Int) (y : Int) : law_sp [Arg.enc f, Arg.enc a, Arg.enc s, Arg.enc l, Arg.enc l1, Arg.enc x, Arg.enc l2, Arg.enc y] = some (.bool true) := by
  simp only [law_sp, sp8, Arg.dec_enc, Option.bind_some]
  rfl
end Go.Co
