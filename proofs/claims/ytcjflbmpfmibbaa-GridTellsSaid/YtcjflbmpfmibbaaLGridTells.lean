/- The law GridTells: what its text computes. -/
import Derived.Test.YtcjflbmpfmibbaaCz14
import Derived.Test.YtcjflbmpfmibbaaCz11
namespace Go.Co
open Go.Am Go.Proofs
set_option linter.unusedSimpArgs false
set_option linter.unusedVariables false
attribute [-simp] Go.Am.eff_gcall
def c11_0 : ACode := .ops [⟨some 5, .box (.t 0) 4, none, []⟩,
  ⟨some 6, .box (.t 1) 8, none, []⟩,
  ⟨some 10, .mv (.c (.bool false)), none, []⟩] [2, 3, 4, 5, 6]
theorem r11_0 : type_of% (@rr _ _ c11_0.eq_1) := rr c11_0.eq_1
def c11_1 : ACode := .ops [⟨some 26, .load 4 true (.t 5), none, [5]⟩,
  ⟨some 27, .call 15 [.t 26], none, []⟩,
  ⟨some 11, .alloc [.int .i64 0, .int .i64 0, .int .i64 0, .int .i64 0, .int .i64 0, .nils], none, []⟩,
  ⟨none, .store (.t 11) 6 (.t 27), none, [11]⟩] [2, 3, 4, 6, 11]
theorem r11_1 : type_of% (@rr _ _ c11_1.eq_1) := rr c11_1.eq_1
def c11_2 : ACode := .ops [⟨some 28, .load 8 true (.t 6), none, [6]⟩,
  ⟨some 29, .load 6 true (.t 11), none, [11]⟩,
  ⟨some 30, .call 31 [.t 28, .t 29], none, []⟩,
  ⟨some 12, .alloc [.int .i64 0, .int .i64 0, .int .i64 0, .int .i64 0, .int .i64 0, .int .i64 0, .int .i64 0, .int .i64 0, .int .i64 0, .int .i64 0, .int .i64 0, .int .i64 0, .int .i64 0, .int .i64 0, .int .i64 0, .bool false, .int .i64 0], none, []⟩,
  ⟨none, .store (.t 12) 17 (.t 30), none, [12]⟩] [2, 3, 4, 11, 12]
theorem r11_2 : type_of% (@rr _ _ c11_2.eq_1) := rr c11_2.eq_1
def c11_3 : ACode := .ops [⟨some 31, .load 17 true (.t 12), none, [12]⟩,
  ⟨some 32, .call 45 [.t 31], none, []⟩,
  ⟨some 13, .alloc [.int .i64 0, .int .i64 0, .int .i64 0, .int .i64 0, .int .i64 0, .int .i64 0, .int .i64 0, .int .i64 0, .int .i64 0, .int .i64 0], none, []⟩,
  ⟨none, .store (.t 13) 10 (.t 32), none, [13]⟩] [2, 3, 4, 11, 12, 13]
theorem r11_3 : type_of% (@rr _ _ c11_3.eq_1) := rr c11_3.eq_1
def c11_4 : ACode := .ops [⟨some 14, .mv (.c (.int .i64 0)), none, []⟩] [2, 3, 4, 11, 12, 13, 14]
theorem r11_4 : type_of% (@rr _ _ c11_4.eq_1) := rr c11_4.eq_1
def c11_5 : ACode := .ops [⟨some 33, .mv (.t 14), none, []⟩,
  ⟨some 34, .mv (.t 2), none, []⟩,
  ⟨some 35, .len (.t 34), none, []⟩,
  ⟨some 36, .bin .lss (.t 33) (.t 35), none, []⟩,
  ⟨some 37, .mv (.t 36), none, []⟩,
  ⟨some 38, .mv (.t 14), some (37, true), []⟩,
  ⟨some 39, .bin .lss (.t 38) (.c (.int .i64 5)), some (37, true), []⟩,
  ⟨some 40, .pick (.t 37) (.t 39) (.c (.bool false)), none, []⟩] [2, 3, 4, 11, 12, 13, 14, 40]
theorem r11_5 : type_of% (@rr _ _ c11_5.eq_1) := rr c11_5.eq_1
def c11_6 : ACode := .cond (.t 40) .skip (.exit 0)
theorem r11_6 : type_of% (@rr _ _ c11_6.eq_1) := rr c11_6.eq_1
def c11_7 : ACode := .seq c11_5 c11_6
theorem r11_7 : type_of% (@rr _ _ c11_7.eq_1) := rr c11_7.eq_1
def c11_8 : ACode := .ops [⟨some 43, .mv (.t 14), none, []⟩,
  ⟨some 44, .iad (.t 13) (.t 43) 2 5, none, [13]⟩,
  ⟨some 45, .fad (.t 44) 1, none, [13]⟩,
  ⟨some 46, .load 1 false (.t 45), none, [13]⟩,
  ⟨some 47, .mv (.t 14), none, []⟩,
  ⟨some 48, .iad (.t 13) (.t 47) 2 5, none, [13]⟩,
  ⟨some 49, .fad (.t 48) 0, none, [13]⟩,
  ⟨some 50, .load 1 false (.t 49), none, [13]⟩,
  ⟨some 51, .bin .gtr (.t 46) (.t 50), none, []⟩] [2, 3, 4, 11, 12, 13, 14, 51]
theorem r11_8 : type_of% (@rr _ _ c11_8.eq_1) := rr c11_8.eq_1
def c11_9 : ACode := .ops [⟨some 52, .mv (.t 14), none, []⟩,
  ⟨some 53, .mv (.t 2), none, []⟩,
  ⟨some 54, .mv (.t 14), none, []⟩,
  ⟨some 55, .ias (.t 53) (.t 54) 1, none, []⟩,
  ⟨some 56, .load 1 false (.t 55), none, []⟩,
  ⟨some 57, .mv (.t 14), none, []⟩,
  ⟨some 58, .iad (.t 13) (.t 57) 2 5, none, [13]⟩,
  ⟨some 59, .fad (.t 58) 0, none, [13]⟩,
  ⟨some 60, .load 1 false (.t 59), none, [13]⟩,
  ⟨some 61, .mv (.t 14), none, []⟩,
  ⟨some 62, .iad (.t 13) (.t 61) 2 5, none, [13]⟩,
  ⟨some 63, .fad (.t 62) 1, none, [13]⟩,
  ⟨some 64, .load 1 false (.t 63), none, [13]⟩,
  ⟨some 65, .call 24 [.t 56, .t 60, .t 64], none, []⟩,
  ⟨some 66, .iad (.t 13) (.t 52) 2 5, none, [13]⟩,
  ⟨some 67, .fad (.t 66) 0, none, [13]⟩,
  ⟨none, .store (.t 67) 1 (.t 65), none, [13]⟩] [2, 3, 4, 11, 12, 13, 14]
theorem r11_9 : type_of% (@rr _ _ c11_9.eq_1) := rr c11_9.eq_1
def c11_10 : ACode := .cond (.t 51) c11_9 .skip
theorem r11_10 : type_of% (@rr _ _ c11_10.eq_1) := rr c11_10.eq_1
def c11_11 : ACode := .seq c11_8 c11_10
theorem r11_11 : type_of% (@rr _ _ c11_11.eq_1) := rr c11_11.eq_1
def c11_12 : ACode := .block 1 c11_11
theorem r11_12 : type_of% (@rr _ _ c11_12.eq_1) := rr c11_12.eq_1
def c11_13 : ACode := .ops [⟨some 41, .mv (.t 14), none, []⟩,
  ⟨some 42, .bin .add (.t 41) (.c (.int .i64 1)), none, []⟩,
  ⟨some 14, .mv (.t 42), none, []⟩] [2, 3, 4, 11, 12, 13, 14]
theorem r11_13 : type_of% (@rr _ _ c11_13.eq_1) := rr c11_13.eq_1
def c11_14 : ACode := .seq c11_12 c11_13
theorem r11_14 : type_of% (@rr _ _ c11_14.eq_1) := rr c11_14.eq_1
def c11_15 : ACode := .seq c11_7 c11_14
theorem r11_15 : type_of% (@rr _ _ c11_15.eq_1) := rr c11_15.eq_1
def c11_16 : ACode := .keep [2, 3, 4, 11, 12, 13, 14] [11, 12, 13] c11_15
theorem r11_16 : type_of% (@rr _ _ c11_16.eq_1) := rr c11_16.eq_1
def c11_17 : ACode := .loop c11_16
theorem r11_17 : type_of% (@rr _ _ c11_17.eq_1) := rr c11_17.eq_1
def c11_18 : ACode := .block 0 c11_17
theorem r11_18 : type_of% (@rr _ _ c11_18.eq_1) := rr c11_18.eq_1
def c11_19 : ACode := .seq c11_4 c11_18
theorem r11_19 : type_of% (@rr _ _ c11_19.eq_1) := rr c11_19.eq_1
def c11_20 : ACode := .ops [⟨some 68, .mv (.t 3), none, []⟩,
  ⟨some 69, .call 24 [.t 68, .c (.int .i64 0), .c (.int .i64 400)], none, []⟩,
  ⟨some 15, .mv (.t 69), none, []⟩] [4, 11, 12, 13, 15]
theorem r11_20 : type_of% (@rr _ _ c11_20.eq_1) := rr c11_20.eq_1
def c11_21 : ACode := .ops [⟨some 71, .load 6 true (.t 11), none, [11]⟩,
  ⟨some 72, .load 17 true (.t 12), none, [12]⟩,
  ⟨some 73, .load 10 true (.t 13), none, [13]⟩,
  ⟨some 74, .mv (.t 15), none, []⟩,
  ⟨some 75, .call 46 [.t 71, .t 72, .t 73, .t 74], none, []⟩,
  ⟨some 70, .mv (.t 75), none, []⟩,
  ⟨some 76, .ext (.t 70) 0, none, []⟩,
  ⟨some 77, .ext (.t 70) 1, none, []⟩,
  ⟨some 16, .mv (.t 76), none, []⟩,
  ⟨some 17, .mv (.t 77), none, []⟩] [4, 11, 12, 13, 15, 16, 17]
theorem r11_21 : type_of% (@rr _ _ c11_21.eq_1) := rr c11_21.eq_1
def c11_22 : ACode := .ops [⟨some 79, .load 6 true (.t 11), none, [11]⟩,
  ⟨some 80, .load 17 true (.t 12), none, [12]⟩,
  ⟨some 81, .load 10 true (.t 13), none, [13]⟩,
  ⟨some 82, .mv (.t 15), none, []⟩,
  ⟨some 83, .call 47 [.t 79, .t 80, .t 81, .t 82], none, []⟩,
  ⟨some 78, .mv (.t 83), none, []⟩,
  ⟨some 84, .ext (.t 78) 0, none, []⟩,
  ⟨some 85, .ext (.t 78) 1, none, []⟩,
  ⟨some 18, .mv (.t 84), none, []⟩,
  ⟨some 19, .mv (.t 85), none, []⟩] [4, 11, 12, 13, 15, 16, 17, 18, 19]
theorem r11_22 : type_of% (@rr _ _ c11_22.eq_1) := rr c11_22.eq_1
def c11_23 : ACode := .ops [⟨some 87, .load 6 true (.t 11), none, [11]⟩,
  ⟨some 88, .load 17 true (.t 12), none, [12]⟩,
  ⟨some 89, .load 10 true (.t 13), none, [13]⟩,
  ⟨some 90, .mv (.t 15), none, []⟩,
  ⟨some 91, .call 48 [.t 87, .t 88, .t 89, .t 90], none, []⟩,
  ⟨some 86, .mv (.t 91), none, []⟩,
  ⟨some 92, .ext (.t 86) 0, none, []⟩,
  ⟨some 93, .ext (.t 86) 1, none, []⟩,
  ⟨some 20, .mv (.t 92), none, []⟩,
  ⟨some 21, .mv (.t 93), none, []⟩] [4, 11, 12, 13, 15, 16, 17, 18, 19, 20, 21]
theorem r11_23 : type_of% (@rr _ _ c11_23.eq_1) := rr c11_23.eq_1
def c11_24 : ACode := .ops [⟨some 95, .load 6 true (.t 11), none, [11]⟩,
  ⟨some 96, .load 17 true (.t 12), none, [12]⟩,
  ⟨some 97, .mv (.t 15), none, []⟩,
  ⟨some 98, .call 49 [.t 95, .t 96, .t 97], none, []⟩,
  ⟨some 94, .mv (.t 98), none, []⟩,
  ⟨some 99, .ext (.t 94) 0, none, []⟩,
  ⟨some 100, .ext (.t 94) 1, none, []⟩,
  ⟨some 22, .mv (.t 99), none, []⟩,
  ⟨some 23, .mv (.t 100), none, []⟩] [4, 11, 12, 13, 15, 16, 17, 18, 19, 20, 21, 22, 23]
theorem r11_24 : type_of% (@rr _ _ c11_24.eq_1) := rr c11_24.eq_1
def c11_25 : ACode := .ops [⟨some 102, .load 6 true (.t 11), none, [11]⟩,
  ⟨some 103, .load 17 true (.t 12), none, [12]⟩,
  ⟨some 104, .mv (.t 15), none, []⟩,
  ⟨some 105, .call 42 [.t 102, .t 103, .t 104], none, []⟩,
  ⟨some 101, .mv (.t 105), none, []⟩,
  ⟨some 106, .ext (.t 101) 0, none, []⟩,
  ⟨some 107, .ext (.t 101) 1, none, []⟩,
  ⟨some 24, .mv (.t 106), none, []⟩,
  ⟨some 25, .mv (.t 107), none, []⟩] [4, 11, 12, 13, 16, 17, 18, 19, 20, 21, 22, 23, 24, 25]
theorem r11_25 : type_of% (@rr _ _ c11_25.eq_1) := rr c11_25.eq_1
def c11_26 : ACode := .ops [⟨some 108, .load 6 true (.t 11), none, [11]⟩,
  ⟨some 109, .load 17 true (.t 12), none, [12]⟩,
  ⟨some 110, .load 10 true (.t 13), none, [13]⟩,
  ⟨some 111, .mv (.t 4), none, []⟩,
  ⟨some 112, .call 51 [.t 108, .t 109, .t 110, .t 111], none, []⟩,
  ⟨some 113, .load 6 true (.t 11), none, [11]⟩,
  ⟨some 114, .load 17 true (.t 12), none, [12]⟩,
  ⟨some 115, .load 10 true (.t 13), none, [13]⟩,
  ⟨some 116, .mv (.t 4), none, []⟩,
  ⟨some 117, .call 52 [.t 113, .t 114, .t 115, .t 116], none, []⟩,
  ⟨some 118, .call 50 [.t 112, .t 117], none, []⟩,
  ⟨some 119, .mv (.t 118), none, []⟩,
  ⟨some 120, .mv (.t 16), some (119, true), []⟩,
  ⟨some 121, .mv (.t 18), some (119, true), []⟩,
  ⟨some 122, .call 53 [.t 120, .t 121], some (119, true), []⟩,
  ⟨some 123, .pick (.t 119) (.t 122) (.c (.bool false)), none, []⟩,
  ⟨some 124, .mv (.t 123), none, []⟩,
  ⟨some 125, .mv (.t 17), some (124, true), []⟩,
  ⟨some 126, .mv (.t 19), some (124, true), []⟩,
  ⟨some 127, .eqb false (.t 125) (.t 126), some (124, true), []⟩,
  ⟨some 128, .pick (.t 124) (.t 127) (.c (.bool false)), none, []⟩,
  ⟨some 129, .mv (.t 128), none, []⟩,
  ⟨some 130, .mv (.t 21), some (129, true), []⟩,
  ⟨some 131, .mv (.t 19), some (129, true), []⟩,
  ⟨some 132, .eqb false (.t 130) (.t 131), some (129, true), []⟩,
  ⟨some 133, .pick (.t 129) (.t 132) (.c (.bool false)), none, []⟩,
  ⟨some 134, .mv (.t 133), none, []⟩,
  ⟨some 135, .mv (.t 21), some (134, true), []⟩,
  ⟨some 136, .un .not (.t 135), some (134, true), []⟩,
  ⟨some 137, .mv (.t 136), some (134, true), []⟩,
  ⟨some 138, .mv (.t 20), some (137, false), []⟩,
  ⟨some 139, .mv (.t 18), some (137, false), []⟩,
  ⟨some 140, .len (.t 139), some (137, false), []⟩,
  ⟨some 141, .bin .eql (.t 138) (.t 140), some (137, false), []⟩,
  ⟨some 142, .pick (.t 137) (.c (.bool true)) (.t 141), some (134, true), []⟩,
  ⟨some 143, .pick (.t 134) (.t 142) (.c (.bool false)), none, []⟩,
  ⟨some 144, .mv (.t 143), none, []⟩,
  ⟨some 145, .mv (.t 21), some (144, true), []⟩,
  ⟨some 146, .mv (.t 145), some (144, true), []⟩,
  ⟨some 147, .mv (.t 20), some (146, false), []⟩,
  ⟨some 148, .bin .eql (.t 147) (.c (.int .i64 0)), some (146, false), []⟩,
  ⟨some 149, .pick (.t 146) (.c (.bool true)) (.t 148), some (144, true), []⟩,
  ⟨some 150, .pick (.t 144) (.t 149) (.c (.bool false)), none, []⟩,
  ⟨some 151, .mv (.t 150), none, []⟩,
  ⟨some 152, .mv (.t 22), some (151, true), []⟩,
  ⟨some 153, .mv (.t 24), some (151, true), []⟩,
  ⟨some 154, .eqb false (.t 152) (.t 153), some (151, true), []⟩,
  ⟨some 155, .pick (.t 151) (.t 154) (.c (.bool false)), none, []⟩,
  ⟨some 156, .mv (.t 155), none, []⟩,
  ⟨some 157, .mv (.t 23), some (156, true), []⟩,
  ⟨some 158, .mv (.t 25), some (156, true), []⟩,
  ⟨some 159, .eqb false (.t 157) (.t 158), some (156, true), []⟩,
  ⟨some 160, .pick (.t 156) (.t 159) (.c (.bool false)), none, []⟩,
  ⟨some 161, .mv (.t 160), none, []⟩,
  ⟨some 162, .call 54 [], some (161, true), []⟩,
  ⟨some 163, .pick (.t 161) (.t 162) (.c (.bool false)), none, []⟩,
  ⟨some 10, .mv (.t 163), none, []⟩] [10]
theorem r11_26 : type_of% (@rr _ _ c11_26.eq_1) := rr c11_26.eq_1
def c11_27 : ACode := .seq c11_26 .ret
theorem r11_27 : type_of% (@rr _ _ c11_27.eq_1) := rr c11_27.eq_1
def c11_28 : ACode := .seq c11_25 c11_27
theorem r11_28 : type_of% (@rr _ _ c11_28.eq_1) := rr c11_28.eq_1
def c11_29 : ACode := .seq c11_24 c11_28
theorem r11_29 : type_of% (@rr _ _ c11_29.eq_1) := rr c11_29.eq_1
def c11_30 : ACode := .seq c11_23 c11_29
theorem r11_30 : type_of% (@rr _ _ c11_30.eq_1) := rr c11_30.eq_1
def c11_31 : ACode := .seq c11_22 c11_30
theorem r11_31 : type_of% (@rr _ _ c11_31.eq_1) := rr c11_31.eq_1
def c11_32 : ACode := .seq c11_21 c11_31
theorem r11_32 : type_of% (@rr _ _ c11_32.eq_1) := rr c11_32.eq_1
def c11_33 : ACode := .seq c11_20 c11_32
theorem r11_33 : type_of% (@rr _ _ c11_33.eq_1) := rr c11_33.eq_1
def c11_34 : ACode := .seq c11_19 c11_33
theorem r11_34 : type_of% (@rr _ _ c11_34.eq_1) := rr c11_34.eq_1
def c11_35 : ACode := .seq c11_3 c11_34
theorem r11_35 : type_of% (@rr _ _ c11_35.eq_1) := rr c11_35.eq_1
def c11_36 : ACode := .seq c11_2 c11_35
theorem r11_36 : type_of% (@rr _ _ c11_36.eq_1) := rr c11_36.eq_1
def c11_37 : ACode := .seq c11_1 c11_36
theorem r11_37 : type_of% (@rr _ _ c11_37.eq_1) := rr c11_37.eq_1
def c11_38 : ACode := .seq c11_0 c11_37
theorem r11_38 : type_of% (@rr _ _ c11_38.eq_1) := rr c11_38.eq_1
def a11 : AFun := ⟨5, 164, c11_38, [.t 10]⟩
attribute [simp] r11_0 r11_1 r11_2 r11_3 r11_4 r11_5 r11_6 r11_7 r11_8 r11_9 r11_10 r11_11 r11_12 r11_13 r11_14 r11_15 r11_16 r11_17 r11_18 r11_19 r11_20 r11_21 r11_22 r11_23 r11_24 r11_25 r11_26 r11_27 r11_28 r11_29 r11_30 r11_31 r11_32 r11_33 r11_34 r11_35 r11_36 r11_37 r11_38
theorem m11 : mFun Try.prog Try.f11 a11 = true := by decide +kernel
def c54_0 : ACode := .ops [⟨some 0, .mv (.c (.bool false)), none, []⟩] []
def c54_1 : ACode := .ops [⟨some 12, .call 74 [], none, []⟩,
  ⟨some 1, .alloc [.int .i64 0, .int .i64 0, .int .i64 0, .int .i64 0, .int .i64 0, .nils], none, []⟩,
  ⟨none, .store (.t 1) 6 (.t 12), none, [1]⟩] [1]
def c54_2 : ACode := .ops [⟨some 13, .build [.int .i64 0, .int .i64 0] [(0, 1, .c (.int .i64 0)), (1, 1, .c (.int .i64 9))], none, []⟩,
  ⟨some 14, .build [.int .i64 0, .int .i64 0, .int .i64 0, .int .i64 0, .int .i64 0, .int .i64 0, .int .i64 0, .int .i64 0, .int .i64 0, .int .i64 0] [(0, 2, .t 13)], none, []⟩,
  ⟨some 15, .build [.int .i64 0, .int .i64 0, .int .i64 0, .int .i64 0, .int .i64 0, .int .i64 0, .int .i64 0, .int .i64 0, .int .i64 0, .int .i64 0, .int .i64 0, .int .i64 0, .int .i64 0, .int .i64 0, .int .i64 0, .bool false, .int .i64 0] [(0, 1, .c (.int .i64 3)), (2, 10, .t 14)], none, []⟩,
  ⟨some 2, .alloc [.int .i64 0, .int .i64 0, .int .i64 0, .int .i64 0, .int .i64 0, .int .i64 0, .int .i64 0, .int .i64 0, .int .i64 0, .int .i64 0, .int .i64 0, .int .i64 0, .int .i64 0, .int .i64 0, .int .i64 0, .bool false, .int .i64 0], none, []⟩,
  ⟨none, .store (.t 2) 17 (.t 15), none, [2]⟩] [1, 2]
def c54_3 : ACode := .ops [⟨some 16, .load 17 true (.t 2), none, [2]⟩,
  ⟨some 17, .call 45 [.t 16], none, []⟩,
  ⟨some 3, .alloc [.int .i64 0, .int .i64 0, .int .i64 0, .int .i64 0, .int .i64 0, .int .i64 0, .int .i64 0, .int .i64 0, .int .i64 0, .int .i64 0], none, []⟩,
  ⟨none, .store (.t 3) 10 (.t 17), none, [3]⟩] [1, 2, 3]
def c54_4 : ACode := .ops [⟨some 19, .load 6 true (.t 1), none, [1]⟩,
  ⟨some 20, .load 17 true (.t 2), none, [2]⟩,
  ⟨some 21, .load 10 true (.t 3), none, [3]⟩,
  ⟨some 22, .call 48 [.t 19, .t 20, .t 21, .c (.int .i64 10)], none, []⟩,
  ⟨some 18, .mv (.t 22), none, []⟩,
  ⟨some 23, .ext (.t 18) 0, none, []⟩,
  ⟨some 24, .ext (.t 18) 1, none, []⟩,
  ⟨some 4, .mv (.t 23), none, []⟩,
  ⟨some 5, .mv (.t 24), none, []⟩] [1, 2, 3, 4, 5]
def c54_5 : ACode := .ops [⟨some 26, .load 6 true (.t 1), none, [1]⟩,
  ⟨some 27, .load 17 true (.t 2), none, [2]⟩,
  ⟨some 28, .call 49 [.t 26, .t 27, .c (.int .i64 10)], none, []⟩,
  ⟨some 25, .mv (.t 28), none, []⟩,
  ⟨some 29, .ext (.t 25) 0, none, []⟩,
  ⟨some 30, .ext (.t 25) 1, none, []⟩,
  ⟨some 6, .mv (.t 29), none, []⟩,
  ⟨some 7, .mv (.t 30), none, []⟩] [1, 2, 3, 4, 5, 6, 7]
def c54_6 : ACode := .ops [⟨some 31, .fad (.t 2) 15, none, [2]⟩,
  ⟨none, .store (.t 31) 1 (.c (.bool true)), none, [2]⟩] [1, 2, 3, 4, 5, 6, 7]
def c54_7 : ACode := .ops [⟨some 33, .load 6 true (.t 1), none, [1]⟩,
  ⟨some 34, .load 17 true (.t 2), none, [2]⟩,
  ⟨some 35, .call 49 [.t 33, .t 34, .c (.int .i64 10)], none, []⟩,
  ⟨some 32, .mv (.t 35), none, []⟩,
  ⟨some 36, .ext (.t 32) 0, none, []⟩,
  ⟨some 37, .ext (.t 32) 1, none, []⟩,
  ⟨some 8, .mv (.t 36), none, []⟩,
  ⟨some 9, .mv (.t 37), none, []⟩] [1, 2, 3, 4, 5, 6, 7, 8, 9]
def c54_8 : ACode := .ops [⟨some 39, .load 6 true (.t 1), none, [1]⟩,
  ⟨some 40, .load 17 true (.t 2), none, [2]⟩,
  ⟨some 41, .load 10 true (.t 3), none, [3]⟩,
  ⟨some 42, .call 48 [.t 39, .t 40, .t 41, .c (.int .i64 3)], none, []⟩,
  ⟨some 38, .mv (.t 42), none, []⟩,
  ⟨some 43, .ext (.t 38) 0, none, []⟩,
  ⟨some 44, .ext (.t 38) 1, none, []⟩,
  ⟨some 10, .mv (.t 43), none, []⟩,
  ⟨some 11, .mv (.t 44), none, []⟩] [1, 2, 3, 4, 5, 6, 7, 8, 9, 11]
def c54_9 : ACode := .ops [⟨some 45, .load 6 true (.t 1), none, [1]⟩,
  ⟨some 46, .load 17 true (.t 2), none, [2]⟩,
  ⟨some 47, .load 10 true (.t 3), none, [3]⟩,
  ⟨some 48, .call 51 [.t 45, .t 46, .t 47, .c (.int .i64 0)], none, []⟩,
  ⟨some 49, .mkrow 49 1 1 [.int .i64 0] [(0, 1, .c (.int .i64 5))], none, []⟩,
  ⟨some 50, .call 50 [.t 48, .t 49], none, [49]⟩,
  ⟨some 51, .mv (.t 50), none, []⟩,
  ⟨some 52, .mv (.t 4), some (51, true), []⟩,
  ⟨some 53, .bin .eql (.t 52) (.c (.int .i64 4)), some (51, true), []⟩,
  ⟨some 54, .pick (.t 51) (.t 53) (.c (.bool false)), none, []⟩,
  ⟨some 55, .mv (.t 54), none, []⟩,
  ⟨some 56, .mv (.t 5), some (55, true), []⟩,
  ⟨some 57, .pick (.t 55) (.t 56) (.c (.bool false)), none, []⟩,
  ⟨some 58, .mv (.t 57), none, []⟩,
  ⟨some 59, .mv (.t 6), some (58, true), []⟩,
  ⟨some 60, .pick (.t 58) (.t 59) (.c (.bool false)), none, []⟩,
  ⟨some 61, .mv (.t 60), none, []⟩,
  ⟨some 62, .mv (.t 7), some (61, true), []⟩,
  ⟨some 63, .pick (.t 61) (.t 62) (.c (.bool false)), none, []⟩,
  ⟨some 64, .mv (.t 63), none, []⟩,
  ⟨some 65, .mv (.t 8), some (64, true), []⟩,
  ⟨some 66, .un .not (.t 65), some (64, true), []⟩,
  ⟨some 67, .pick (.t 64) (.t 66) (.c (.bool false)), none, []⟩,
  ⟨some 68, .mv (.t 67), none, []⟩,
  ⟨some 69, .mv (.t 9), some (68, true), []⟩,
  ⟨some 70, .pick (.t 68) (.t 69) (.c (.bool false)), none, []⟩,
  ⟨some 71, .mv (.t 70), none, []⟩,
  ⟨some 72, .mv (.t 11), some (71, true), []⟩,
  ⟨some 73, .un .not (.t 72), some (71, true), []⟩,
  ⟨some 74, .pick (.t 71) (.t 73) (.c (.bool false)), none, []⟩,
  ⟨some 0, .mv (.t 74), none, []⟩] [0]
def c54_10 : ACode := .seq c54_9 .ret
def c54_11 : ACode := .seq c54_8 c54_10
def c54_12 : ACode := .seq c54_7 c54_11
def c54_13 : ACode := .seq c54_6 c54_12
def c54_14 : ACode := .seq c54_5 c54_13
def c54_15 : ACode := .seq c54_4 c54_14
def c54_16 : ACode := .seq c54_3 c54_15
def c54_17 : ACode := .seq c54_2 c54_16
def c54_18 : ACode := .seq c54_1 c54_17
def c54_19 : ACode := .seq c54_0 c54_18
def a54 : AFun := ⟨0, 75, c54_19, [.t 0]⟩
theorem m54 : mFun Try.prog Try.f54 a54 = true := by decide +kernel
def c74_0 : ACode := .ops [⟨some 0, .alloc [.int .i64 0, .int .i64 0, .int .i64 0, .int .i64 0, .int .i64 0, .nils], none, []⟩] [0]
def c74_1 : ACode := .ops [⟨some 2, .build [.bool false, .int .i64 0, .int .i64 0, .int .i64 0, .int .i64 0, .int .i64 0] [(3, 1, .c (.int .i64 5)), (4, 1, .c (.int .i64 1)), (5, 1, .c (.int .i64 2))], none, []⟩,
  ⟨some 3, .call 68 [.t 2], none, []⟩,
  ⟨some 4, .build [.bool false, .int .i64 0, .int .i64 0, .int .i64 0, .int .i64 0, .int .i64 0] [(0, 1, .c (.bool true)), (1, 1, .c (.int .i64 10))], none, []⟩,
  ⟨some 5, .call 68 [.t 4], none, []⟩,
  ⟨some 6, .build [.bool false, .int .i64 0, .int .i64 0, .int .i64 0, .int .i64 0, .int .i64 0] [(0, 1, .c (.bool true)), (1, 1, .c (.int .i64 20))], none, []⟩,
  ⟨some 7, .call 68 [.t 6], none, []⟩,
  ⟨some 8, .mkrow 1 3 1 [.int .u64 0] [(0, 1, .t 3), (1, 1, .t 5), (2, 1, .t 7)], none, []⟩,
  ⟨some 1, .mv (.t 8), none, []⟩] [0, 1]
def c74_2 : ACode := .ops [⟨some 9, .build [.int .i64 0, .int .i64 0, .int .i64 0] [(0, 1, .c (.int .i64 3))], none, []⟩,
  ⟨some 10, .mv (.t 1), none, []⟩,
  ⟨some 11, .build [.int .i64 0, .nils] [(1, 1, .t 10)], none, []⟩,
  ⟨some 12, .mkrow 12 1 2 [.int .i64 0, .nils] [(0, 2, .t 11)], none, []⟩,
  ⟨some 13, .build [.int .i64 0, .int .i64 0, .int .i64 0, .int .i64 0, .int .i64 0, .nils] [(0, 1, .c (.int .i64 1)), (1, 1, .c (.int .i64 1)), (2, 3, .t 9), (5, 1, .t 12)], none, []⟩,
  ⟨none, .store (.t 0) 6 (.t 13), none, [0]⟩] [0]
def c74_3 : ACode := .seq c74_2 .ret
def c74_4 : ACode := .seq c74_1 c74_3
def c74_5 : ACode := .seq c74_0 c74_4
def a74 : AFun := ⟨0, 14, c74_5, [.cell 0 6 true]⟩
theorem m74 : mFun Try.prog Try.f74 a74 = true := by decide +kernel
def texts54 : List (Nat × AFun) := [(19, a19), (20, a20), (27, a27), (28, a28), (43, a43), (45, a45), (46, a46), (48, a48), (49, a49), (50, a50), (51, a51), (54, a54), (57, a57), (58, a58), (68, a68), (69, a69), (70, a70), (71, a71), (72, a72), (74, a74), (75, a75), (76, a76), (77, a77), (78, a78), (89, a89), (97, a97), (98, a98), (99, a99), (100, a100), (101, a101), (102, a102), (103, a103), (108, a108), (109, a109), (110, a110), (117, a117), (118, a118), (119, a119), (120, a120), (121, a121), (122, a122), (123, a123), (124, a124), (125, a125), (126, a126), (132, a132), (133, a133), (137, a137), (138, a138), (143, a143), (144, a144), (146, a146), (147, a147)]
theorem texts54_good : Go.Am.Good Try.prog texts54 :=
  good_cons Try.func19 m19 <| good_cons Try.func20 m20 <| good_cons Try.func27 m27 <| good_cons Try.func28 m28 <| good_cons Try.func43 m43 <| good_cons Try.func45 m45 <| good_cons Try.func46 m46 <| good_cons Try.func48 m48 <| good_cons Try.func49 m49 <| good_cons Try.func50 m50 <| good_cons Try.func51 m51 <| good_cons Try.func54 m54 <| good_cons Try.func57 m57 <| good_cons Try.func58 m58 <| good_cons Try.func68 m68 <| good_cons Try.func69 m69 <| good_cons Try.func70 m70 <| good_cons Try.func71 m71 <| good_cons Try.func72 m72 <| good_cons Try.func74 m74 <| good_cons Try.func75 m75 <| good_cons Try.func76 m76 <| good_cons Try.func77 m77 <| good_cons Try.func78 m78 <| good_cons Try.func89 m89 <| good_cons Try.func97 m97 <| good_cons Try.func98 m98 <| good_cons Try.func99 m99 <| good_cons Try.func100 m100 <| good_cons Try.func101 m101 <| good_cons Try.func102 m102 <| good_cons Try.func103 m103 <| good_cons Try.func108 m108 <| good_cons Try.func109 m109 <| good_cons Try.func110 m110 <| good_cons Try.func117 m117 <| good_cons Try.func118 m118 <| good_cons Try.func119 m119 <| good_cons Try.func120 m120 <| good_cons Try.func121 m121 <| good_cons Try.func122 m122 <| good_cons Try.func123 m123 <| good_cons Try.func124 m124 <| good_cons Try.func125 m125 <| good_cons Try.func126 m126 <| good_cons Try.func132 m132 <| good_cons Try.func133 m133 <| good_cons Try.func137 m137 <| good_cons Try.func138 m138 <| good_cons Try.func143 m143 <| good_cons Try.func144 m144 <| good_cons Try.func146 m146 <| good_cons Try.func147 m147 <| good_nil
theorem c_closed54 : Contract Try.prog 54 (sp0 (some true)) := contract_closedG mixed texts54_good lib (NW := fun f => if f = 43 then some 5 else if f = 67 then some 10001 else none) (m := 2000) (n := 80) (by decide +kernel)
def gpStep (b : Box) (i : Nat) (x : Int) : Box := if (b.get i).lo < (b.get i).hi then b.set i ⟨within x (b.get i).lo (b.get i).hi, (b.get i).hi⟩ else b
def gpTo (b : Box) (l : List Int) : Nat → Box
  | 0 => b
  | i + 1 => if h : i < l.length then gpStep (gpTo b l i) i l[i] else gpTo b l i
theorem PartOk.refl {b : Box} (hb : b.empty = false) : PartOk b b := by
  have := partTo_ok hb [] (j := 0) (by omega)
  exact this
theorem gpStep_ok {b x : Box} (h : PartOk b x) {i : Nat} (hi : i < 5) (n : Int) : PartOk b (gpStep x i n) := by
  unfold gpStep
  split
  · rename_i hl
    have := within_le n (x.get i).lo (x.get i).hi (by omega)
    exact h.set hi (by simp only; omega) (by simp only; omega) (by simp only; omega)
  · exact h
theorem gpTo_ok {b : Box} (hb : b.empty = false) (l : List Int) : ∀ {j : Nat}, j ≤ 5 → PartOk b (gpTo b l j)
  | 0, _ => PartOk.refl hb
  | j + 1, hj => by
    have := gpTo_ok hb l (j := j) (by omega)
    rw [gpTo]
    split
    · exact gpStep_ok this (by omega) _
    · exact this
theorem gpTo_end (b : Box) (l : List Int) : ∀ {j : Nat}, l.length ≤ j → gpTo b l j = gpTo b l l.length
  | 0, h => by have : l.length = 0 := by omega
               rw [this]
  | j + 1, h => by
    by_cases e : l.length = j + 1
    · rw [e]
    · rw [gpTo, dif_neg (by omega), gpTo_end b l (by omega)]
set_option maxHeartbeats 8000000 in
set_option maxRecDepth 100000 in
theorem runs_law (f : Forest) (a : Ask) (spans : List Int) (most place : Int) (c : Bool) (h : some true = some c) : Runs (tbl [(15, sp1 ModelC), (31, sp2 QueryC), (45, sp1 fun q => some (startOf q)), (24, sp3 Within), (46, sp4 CellsC), (47, sp4 RCellsC), (48, sp4 CountC), (49, sp3 HoldsC), (42, sp3 RTruthC), (51, sp4 CutsC), (52, sp4 RCutsC), (50, sp2 SameI), (53, sp2 SameB), (54, sp0 (some true))]) a11 [Arg.enc f, Arg.enc a, Arg.enc spans, Arg.enc most, Arg.enc place] (Arg.enc c) := by
  cases h
  refine ⟨rfl, fun g => run_def ?_⟩
  unfold a11
  have hm := rm_modelOf f
  have hM : ModelC f = some (modelOf f) := rfl
  generalize modelOf f = m at *
  have hQ : QueryC a m = some (queryOf m a) := part_of ⟨hm.dim.1, hm.dim.2, hm.classes.1, hm.classes.2⟩ _
  obtain ⟨hsm0, hok0, hne0⟩ := start_facts m a
  generalize queryOf m a = q at *
  simp -implicitDefEqProofs [hM, hQ]
  have hB0 : gpTo (startOf q) spans 0 = startOf q := rfl
  have hpos := fun (j : Nat) (hj : j ≤ 5) => gpTo_ok hne0 spans hj
  have hend := fun (j : Nat) (hj : spans.length ≤ j) => gpTo_end (startOf q) spans hj
  have hsucc : ∀ j (hj : j < spans.length), gpTo (startOf q) spans (j + 1) = gpStep (gpTo (startOf q) spans j) j spans[j] := fun j hj => by rw [gpTo, dif_pos hj]
  by_cases b0 : spans.length ≤ maxN
  case neg =>
    rw [run_round]
    simp -implicitDefEqProofs [b0]
  have hmx : spans.length ≤ 9223372036854775807 := b0
  refine run_while (c := c11_15) (fun n s => ∃ (i : Nat) (g : Nat → Nat), i + n = 5 ∧ i ≤ spans.length ∧ s = ⟨[(2, .lst spans.length (encL spans)), (3, .int .i64 most), (4, .int .i64 place), (11, .ptr 11 (g 11) 0), (12, .ptr 12 (g 12) 0), (13, .ptr 13 (g 13) 0), (14, .int .i64 i)],
    [(11, ⟨Row.enc m, false, 0⟩), (12, ⟨Row.enc q, false, 0⟩), (13, ⟨Row.enc (gpTo (startOf q) spans i), false, 0⟩)], g⟩) 5 ⟨0, bump 13 (bump 12 (bump 11 (bump 6 (bump 5 g)))), by omega, by omega, by simp [hB0]⟩ ?_
  rintro n s ⟨i, g, hi, hil, rfl⟩
  by_cases h1 : i < spans.length ∧ i < 5
  case pos =>
    obtain ⟨h1, h2⟩ := h1
    have h2i : (i : Int) < 5 := by omega
    have w1 : IntKind.i64.wrap ((i : Int) + 1) = (i : Int) + 1 := wrap64 (by omega) (by omega)
    have hrd := rd_ints spans i h1
    have hpo := hpos i (by omega)
    have hsm := hpo.small hsm0
    have hgs := get_small hsm i
    unfold small at hgs
    have hlo : rd (Row.enc (gpTo (startOf q) spans i)) (i * 2) 1 false = some (.int .i64 ((gpTo (startOf q) spans i).get i).lo) := rd_nlo _ i h2
    have hhi : rd (Row.enc (gpTo (startOf q) spans i)) (i * 2 + 1) 1 false = some (.int .i64 ((gpTo (startOf q) spans i).get i).hi) := rd_nhi _ i h2
    have hwl : ∀ x, wr (Row.enc (gpTo (startOf q) spans i)) (i * 2) [.int .i64 x] = Row.enc ((gpTo (startOf q) spans i).set i ⟨x, ((gpTo (startOf q) spans i).get i).hi⟩) := fun x => wr_nlo _ i h2 x
    have hl10 := len_all (gpTo (startOf q) spans i)
    have hs := hsucc i h1
    unfold gpStep at hs
    have hW := fun h => within_of spans[i] ((gpTo (startOf q) spans i).get i).lo ((gpTo (startOf q) spans i).get i).hi h
    have e8 : i * 2 ≤ 9 := by omega
    have e8' : i * 2 + 1 ≤ 10 := by omega
    generalize hZ : gpTo (startOf q) spans i = Z at *
    generalize Z.get (i : Int) = sp at *
    obtain ⟨slo, shi⟩ := sp
    simp only at hgs hs hW hwl hlo hhi
    by_cases hlt : slo < shi
    case pos =>
      rw [if_pos hlt] at hs
      have hW := hW (by omega)
      have hwl := hwl (within spans[i] slo shi)
      rw [← hs] at hwl
      generalize hEZ : Row.enc Z = EZ at *
      simp -implicitDefEqProofs [b0, h1, h2i, w1, hrd, hlo, hhi, hlt, hW, hwl, hl10, e8, e8']
      exact ⟨n - 1, by omega, i + 1, by omega, by omega, by omega⟩
    case neg =>
      rw [if_neg hlt] at hs
      generalize hEZ : Row.enc Z = EZ at *
      simp -implicitDefEqProofs [b0, h1, h2i, w1, hrd, hlo, hhi, hlt, hl10, e8, e8']
      exact ⟨n - 1, by omega, i + 1, by omega, by omega, by first | omega | (rw [w1]; omega) | (rw [hs]; exact ⟨rfl, by omega⟩) | (simp [hs, w1]; exact hEZ.symm)⟩
  case neg =>
    have hE : gpTo (startOf q) spans i = gpTo (startOf q) spans i := rfl
    have hpo := hpos i (by omega)
    have hsm := hpo.small hsm0
    have hne := hpo.some
    have hok := small_ok hsm hne
    have hcond : (i < spans.length → False) ∨ (¬ (i : Int) < 5) := by
      by_cases e : i < spans.length
      · exact .inr (by omega)
      · exact .inl e
    generalize gpTo (startOf q) spans i = b at *
    have hWk := within_of most 0 400 (by omega)
    have hwk := within_le most 0 400 (by omega)
    generalize within most 0 400 = k at *
    have hCe : CellsC m q b k = some (if countM m q b ≤ k then (stageC m q b 5, true) else ([], false)) := part_of ⟨hm, hok, by omega⟩ _
    have hRe : RCellsC m q b k = some (if countM m q b ≤ k then (stageC m q b 5, true) else ([], false)) := part_of ⟨hm, hok, hne, by omega⟩ _
    have hCo : CountC m q b k = some (if countM m q b ≤ k then (countM m q b, true) else (0, false)) := part_of hm _
    have hHo : HoldsC m q k = some (if countM m q (startOf q) ≤ k then (holdsM m q, true) else (false, false)) := part_of ⟨hm, hok0, by omega⟩ _
    have hTr : RTruthC m q k = some (if countM m q (startOf q) ≤ k then (holdsM m q, true) else (false, false)) := part_of ⟨hm, hok0, hne0, by omega⟩ _
    have hKu : CutsC m q b place = some (cutsL m q b place) := part_of ⟨hm, by
      by_cases e : 0 ≤ place ∧ place ≤ 4
      · exact .inr e
      · refine .inl ?_
        unfold featOf
        rw [if_neg (by omega), if_neg (by omega)]
        omega⟩ _
    have hRu : RCutsC m q b place = some (cutsL m q b place) := part_of hm _
    have hSI : SameI (cutsL m q b place) (cutsL m q b place) = some true := part_of rfl _
    have hSB : ∀ l, SameB l l = some true := fun l => part_of rfl _
    have hlen := stage_five m q b
    generalize stageC m q b 5 = L at *
    generalize cutsL m q b place = K at *
    by_cases g1 : countM m q b ≤ k
    · rw [if_pos g1] at hCe hRe hCo
      have b1 : L.length ≤ maxN := by unfold maxN; omega
      rw [← hlen] at hCo
      by_cases g2 : countM m q (startOf q) ≤ k
      · rw [if_pos g2] at hHo hTr
        generalize holdsM m q = hv at *
        rcases hcond with e | e <;> by_cases e2 : i < spans.length <;> first | exact absurd e2 e | (cases hv <;> simp -implicitDefEqProofs [b0, e, e2, hWk, hCe, hRe, hCo, hHo, hTr, hKu, hRu, hSI, hSB, b1])
      · rw [if_neg g2] at hHo hTr
        rcases hcond with e | e <;> by_cases e2 : i < spans.length <;> first | exact absurd e2 e | simp -implicitDefEqProofs [b0, e, e2, hWk, hCe, hRe, hCo, hHo, hTr, hKu, hRu, hSI, hSB, b1]
    · rw [if_neg g1] at hCe hRe hCo
      have hSB := hSB []
      have hD0 : (Arg.dec (.lst 0 (encL ([] : List Box))) : Option (List Box)) = some [] := rfl
      by_cases g2 : countM m q (startOf q) ≤ k
      · rw [if_pos g2] at hHo hTr
        generalize holdsM m q = hv at *
        rcases hcond with e | e <;> by_cases e2 : i < spans.length <;> first | exact absurd e2 e | (cases hv <;> simp -implicitDefEqProofs [b0, e, e2, hWk, hCe, hRe, hCo, hHo, hTr, hKu, hRu, hSI, hSB, hD0])
      · rw [if_neg g2] at hHo hTr
        rcases hcond with e | e <;> by_cases e2 : i < spans.length <;> first | exact absurd e2 e | simp -implicitDefEqProofs [b0, e, e2, hWk, hCe, hRe, hCo, hHo, hTr, hKu, hRu, hSI, hSB, hD0]
noncomputable def law_sp : List AV → Option AV := sp5 fun (_ : Forest) (_ : Ask) (_ : List Int) (_ _ : Int) => some true
theorem law_holds : Contract Try.prog 11 law_sp :=
  contract_of_runs mixed (tbl_cons c_Model (tbl_cons c_Query (tbl_cons c_Start (tbl_cons c_Within (tbl_cons c_Cells (tbl_cons c_rCells (tbl_cons c_Count (tbl_cons c_Holds (tbl_cons c_rTruth (tbl_cons c_Cuts (tbl_cons c_rCuts (tbl_cons c_SameI (tbl_cons c_SameB (tbl_cons c_closed54 tbl_nil)))))))))))))) Try.func11 m11 (sp5_runs runs_law)
theorem law_says (f : Forest) (a : Ask) (l : List Int) (x y : Int) : law_sp [Arg.enc f, Arg.enc a, Arg.enc l, Arg.enc x, Arg.enc y] = some (.bool true) := by
  simp only [law_sp, sp5, Arg.dec_enc, Option.bind_some]
  rfl
end Go.Co
