/- The law GridLess: what its text computes. -/
import Derived.Test.YtbjnmbbhlaghaaaCoGq
import Derived.Test.YtbjnmbbhlaghaaaCoH
import Derived.Test.YtbjnmbbhlaghaaaCoLib
import Derived.Test.YtbjnmbbhlaghaaaCoSh
namespace Go.Co
open Go.Am Go.Proofs
set_option linter.unusedSimpArgs false
set_option linter.unusedVariables false
attribute [-simp] Go.Am.eff_gcall
def c40_0 : ACode := .ops [⟨some 5, .box (.t 0) 4, none, []⟩,
  ⟨some 6, .box (.t 1) 8, none, []⟩,
  ⟨some 10, .mv (.c (.bool false)), none, []⟩] [2, 3, 4, 5, 6]
theorem r40_0 : type_of% (@rr _ _ c40_0.eq_1) := rr c40_0.eq_1
def c40_1 : ACode := .ops [⟨some 29, .load 4 true (.t 5), none, [5]⟩,
  ⟨some 30, .call 45 [.t 29], none, []⟩,
  ⟨some 11, .alloc [.int .i64 0, .int .i64 0, .int .i64 0, .int .i64 0, .int .i64 0, .nils], none, []⟩,
  ⟨none, .store (.t 11) 6 (.t 30), none, [11]⟩] [2, 3, 4, 6, 11]
theorem r40_1 : type_of% (@rr _ _ c40_1.eq_1) := rr c40_1.eq_1
def c40_2 : ACode := .ops [⟨some 31, .load 8 true (.t 6), none, [6]⟩,
  ⟨some 32, .load 6 true (.t 11), none, [11]⟩,
  ⟨some 33, .call 59 [.t 31, .t 32], none, []⟩,
  ⟨some 12, .alloc [.int .i64 0, .int .i64 0, .int .i64 0, .int .i64 0, .int .i64 0, .int .i64 0, .int .i64 0, .int .i64 0, .int .i64 0, .int .i64 0, .int .i64 0, .int .i64 0, .int .i64 0, .int .i64 0, .int .i64 0, .bool false, .int .i64 0], none, []⟩,
  ⟨none, .store (.t 12) 17 (.t 33), none, [12]⟩] [2, 3, 4, 11, 12]
theorem r40_2 : type_of% (@rr _ _ c40_2.eq_1) := rr c40_2.eq_1
def c40_3 : ACode := .ops [⟨some 34, .load 17 true (.t 12), none, [12]⟩,
  ⟨some 35, .call 58 [.t 34], none, []⟩,
  ⟨some 13, .alloc [.int .i64 0, .int .i64 0, .int .i64 0, .int .i64 0, .int .i64 0, .int .i64 0, .int .i64 0, .int .i64 0, .int .i64 0, .int .i64 0], none, []⟩,
  ⟨none, .store (.t 13) 10 (.t 35), none, [13]⟩] [2, 3, 4, 11, 12, 13]
theorem r40_3 : type_of% (@rr _ _ c40_3.eq_1) := rr c40_3.eq_1
def c40_4 : ACode := .ops [⟨some 37, .load 6 true (.t 11), none, [11]⟩,
  ⟨some 38, .load 17 true (.t 12), none, [12]⟩,
  ⟨some 39, .load 10 true (.t 13), none, [13]⟩,
  ⟨some 40, .call 100 [.t 37, .t 38, .t 39, .c (.int .i64 600)], none, []⟩,
  ⟨some 36, .mv (.t 40), none, []⟩,
  ⟨some 41, .ext (.t 36) 0, none, []⟩,
  ⟨some 42, .ext (.t 36) 1, none, []⟩,
  ⟨some 14, .mv (.t 41), none, []⟩,
  ⟨some 15, .mv (.t 42), none, []⟩] [2, 3, 4, 11, 12, 13, 14, 15]
theorem r40_4 : type_of% (@rr _ _ c40_4.eq_1) := rr c40_4.eq_1
def c40_5 : ACode := .ops [⟨some 43, .mv (.t 15), none, []⟩,
  ⟨some 44, .un .not (.t 43), none, []⟩] [2, 3, 4, 11, 12, 13, 14, 44]
theorem r40_5 : type_of% (@rr _ _ c40_5.eq_1) := rr c40_5.eq_1
def c40_6 : ACode := .ops [⟨some 45, .call 37 [], none, []⟩,
  ⟨some 10, .mv (.t 45), none, []⟩] [10]
theorem r40_6 : type_of% (@rr _ _ c40_6.eq_1) := rr c40_6.eq_1
def c40_7 : ACode := .seq c40_6 .ret
theorem r40_7 : type_of% (@rr _ _ c40_7.eq_1) := rr c40_7.eq_1
def c40_8 : ACode := .cond (.t 44) c40_7 .skip
theorem r40_8 : type_of% (@rr _ _ c40_8.eq_1) := rr c40_8.eq_1
def c40_9 : ACode := .seq c40_5 c40_8
theorem r40_9 : type_of% (@rr _ _ c40_9.eq_1) := rr c40_9.eq_1
def c40_10 : ACode := .ops [⟨some 46, .mv (.t 2), none, []⟩,
  ⟨some 47, .fad (.t 11) 0, none, [11]⟩,
  ⟨some 48, .load 1 false (.t 47), none, [11]⟩,
  ⟨some 49, .bin .sub (.t 48) (.c (.int .i64 1)), none, []⟩,
  ⟨some 50, .call 63 [.t 46, .c (.int .i64 0), .t 49], none, []⟩,
  ⟨some 16, .mv (.t 50), none, []⟩] [3, 4, 11, 12, 13, 14, 16]
theorem r40_10 : type_of% (@rr _ _ c40_10.eq_1) := rr c40_10.eq_1
def c40_11 : ACode := .ops [⟨some 52, .load 10 true (.t 13), none, [13]⟩,
  ⟨some 53, .mv (.t 16), none, []⟩,
  ⟨some 54, .mv (.t 3), none, []⟩,
  ⟨some 55, .mv (.t 16), none, []⟩,
  ⟨some 56, .iad (.t 13) (.t 55) 2 5, none, [13]⟩,
  ⟨some 57, .fad (.t 56) 0, none, [13]⟩,
  ⟨some 58, .load 1 false (.t 57), none, [13]⟩,
  ⟨some 59, .mv (.t 16), none, []⟩,
  ⟨some 60, .iad (.t 13) (.t 59) 2 5, none, [13]⟩,
  ⟨some 61, .fad (.t 60) 1, none, [13]⟩,
  ⟨some 62, .load 1 false (.t 61), none, [13]⟩,
  ⟨some 63, .call 63 [.t 54, .t 58, .t 62], none, []⟩,
  ⟨some 64, .call 67 [.t 52, .t 53, .t 63], none, []⟩,
  ⟨some 51, .mv (.t 64), none, []⟩,
  ⟨some 65, .ext (.t 51) 0, none, []⟩,
  ⟨some 66, .ext (.t 51) 1, none, []⟩,
  ⟨some 17, .alloc [.int .i64 0, .int .i64 0, .int .i64 0, .int .i64 0, .int .i64 0, .int .i64 0, .int .i64 0, .int .i64 0, .int .i64 0, .int .i64 0], none, []⟩,
  ⟨some 18, .alloc [.int .i64 0, .int .i64 0, .int .i64 0, .int .i64 0, .int .i64 0, .int .i64 0, .int .i64 0, .int .i64 0, .int .i64 0, .int .i64 0], none, []⟩,
  ⟨none, .store (.t 17) 10 (.t 65), none, [17]⟩,
  ⟨none, .store (.t 18) 10 (.t 66), none, [18]⟩] [4, 11, 12, 13, 14, 17, 18]
theorem r40_11 : type_of% (@rr _ _ c40_11.eq_1) := rr c40_11.eq_1
def c40_12 : ACode := .ops [⟨some 68, .load 6 true (.t 11), none, [11]⟩,
  ⟨some 69, .load 17 true (.t 12), none, [12]⟩,
  ⟨some 70, .load 10 true (.t 17), none, [17]⟩,
  ⟨some 71, .call 100 [.t 68, .t 69, .t 70, .c (.int .i64 600)], none, []⟩,
  ⟨some 67, .mv (.t 71), none, []⟩,
  ⟨some 72, .ext (.t 67) 0, none, []⟩,
  ⟨some 73, .ext (.t 67) 1, none, []⟩,
  ⟨some 19, .mv (.t 72), none, []⟩,
  ⟨some 20, .mv (.t 73), none, []⟩] [4, 11, 12, 13, 14, 18, 19, 20]
theorem r40_12 : type_of% (@rr _ _ c40_12.eq_1) := rr c40_12.eq_1
def c40_13 : ACode := .ops [⟨some 21, .mv (.c (.int .i64 0)), none, []⟩] [4, 11, 12, 13, 14, 18, 19, 20, 21]
theorem r40_13 : type_of% (@rr _ _ c40_13.eq_1) := rr c40_13.eq_1
def c40_14 : ACode := .ops [⟨some 74, .load 10 true (.t 18), none, [18]⟩,
  ⟨some 75, .call 68 [.t 74], none, []⟩,
  ⟨some 76, .un .not (.t 75), none, []⟩] [4, 11, 12, 13, 14, 18, 19, 20, 21, 76]
theorem r40_14 : type_of% (@rr _ _ c40_14.eq_1) := rr c40_14.eq_1
def c40_15 : ACode := .ops [⟨some 78, .load 6 true (.t 11), none, [11]⟩,
  ⟨some 79, .load 17 true (.t 12), none, [12]⟩,
  ⟨some 80, .load 10 true (.t 18), none, [18]⟩,
  ⟨some 81, .call 100 [.t 78, .t 79, .t 80, .c (.int .i64 600)], none, []⟩,
  ⟨some 77, .mv (.t 81), none, []⟩,
  ⟨some 82, .ext (.t 77) 0, none, []⟩,
  ⟨some 83, .ext (.t 77) 1, none, []⟩,
  ⟨some 21, .mv (.t 82), none, []⟩] [4, 11, 12, 13, 14, 19, 20, 21]
theorem r40_15 : type_of% (@rr _ _ c40_15.eq_1) := rr c40_15.eq_1
def c40_16 : ACode := .cond (.t 76) c40_15 .skip
theorem r40_16 : type_of% (@rr _ _ c40_16.eq_1) := rr c40_16.eq_1
def c40_17 : ACode := .seq c40_14 c40_16
theorem r40_17 : type_of% (@rr _ _ c40_17.eq_1) := rr c40_17.eq_1
def c40_18 : ACode := .ops [⟨some 84, .mv (.t 20), none, []⟩,
  ⟨some 85, .un .not (.t 84), none, []⟩,
  ⟨some 86, .mv (.t 85), none, []⟩,
  ⟨some 87, .mv (.t 19), some (86, false), []⟩,
  ⟨some 88, .mv (.t 14), some (86, false), []⟩,
  ⟨some 89, .bin .gtr (.t 87) (.t 88), some (86, false), []⟩,
  ⟨some 90, .pick (.t 86) (.c (.bool true)) (.t 89), none, []⟩,
  ⟨some 91, .mv (.t 90), none, []⟩,
  ⟨some 92, .mv (.t 21), some (91, false), []⟩,
  ⟨some 93, .mv (.t 14), some (91, false), []⟩,
  ⟨some 94, .bin .gtr (.t 92) (.t 93), some (91, false), []⟩,
  ⟨some 95, .pick (.t 91) (.c (.bool true)) (.t 94), none, []⟩,
  ⟨some 96, .mv (.t 95), none, []⟩,
  ⟨some 97, .mv (.t 19), some (96, false), []⟩,
  ⟨some 98, .mv (.t 21), some (96, false), []⟩,
  ⟨some 99, .bin .add (.t 97) (.t 98), some (96, false), []⟩,
  ⟨some 100, .mv (.t 14), some (96, false), []⟩,
  ⟨some 101, .bin .lss (.t 99) (.t 100), some (96, false), []⟩,
  ⟨some 102, .pick (.t 96) (.c (.bool true)) (.t 101), none, []⟩] [4, 11, 12, 13, 102]
theorem r40_18 : type_of% (@rr _ _ c40_18.eq_1) := rr c40_18.eq_1
def c40_19 : ACode := .ops [⟨some 10, .mv (.c (.bool false)), none, []⟩] [10]
theorem r40_19 : type_of% (@rr _ _ c40_19.eq_1) := rr c40_19.eq_1
def c40_20 : ACode := .seq c40_19 .ret
theorem r40_20 : type_of% (@rr _ _ c40_20.eq_1) := rr c40_20.eq_1
def c40_21 : ACode := .cond (.t 102) c40_20 .skip
theorem r40_21 : type_of% (@rr _ _ c40_21.eq_1) := rr c40_21.eq_1
def c40_22 : ACode := .seq c40_18 c40_21
theorem r40_22 : type_of% (@rr _ _ c40_22.eq_1) := rr c40_22.eq_1
def c40_23 : ACode := .ops [⟨some 22, .alloc [.int .i64 0, .int .i64 0, .int .i64 0, .int .i64 0, .int .i64 0, .int .i64 0, .int .i64 0, .int .i64 0, .int .i64 0, .int .i64 0], none, []⟩] [4, 11, 12, 13, 22]
theorem r40_23 : type_of% (@rr _ _ c40_23.eq_1) := rr c40_23.eq_1
def c40_24 : ACode := .ops [⟨some 103, .load 10 true (.t 13), none, [13]⟩,
  ⟨some 104, .mv (.t 4), none, []⟩,
  ⟨some 105, .call 66 [.t 103, .t 104], none, []⟩,
  ⟨some 106, .mv (.c (.int .i64 0)), none, []⟩] [11, 12, 13, 22, 105, 106]
theorem r40_24 : type_of% (@rr _ _ c40_24.eq_1) := rr c40_24.eq_1
def c40_25 : ACode := .ops [⟨some 107, .bin .lss (.t 106) (.c (.int .i64 4)), none, []⟩] [11, 12, 13, 22, 105, 106, 107]
theorem r40_25 : type_of% (@rr _ _ c40_25.eq_1) := rr c40_25.eq_1
def c40_26 : ACode := .cond (.t 107) .skip (.exit 0)
theorem r40_26 : type_of% (@rr _ _ c40_26.eq_1) := rr c40_26.eq_1
def c40_27 : ACode := .ops [⟨some 108, .mv (.t 106), none, []⟩,
  ⟨some 109, .idx (.t 105) (.t 106) 1 4 false, none, []⟩,
  ⟨some 23, .mv (.t 108), none, []⟩,
  ⟨some 24, .mv (.t 109), none, []⟩] [11, 12, 13, 22, 23, 24, 105, 106]
theorem r40_27 : type_of% (@rr _ _ c40_27.eq_1) := rr c40_27.eq_1
def c40_28 : ACode := .ops [⟨some 110, .mv (.t 23), none, []⟩,
  ⟨some 111, .mv (.t 24), none, []⟩,
  ⟨some 112, .mv (.t 24), none, []⟩,
  ⟨some 113, .build [.int .i64 0, .int .i64 0] [(0, 1, .t 111), (1, 1, .t 112)], none, []⟩,
  ⟨some 114, .iad (.t 22) (.t 110) 2 5, none, [22]⟩,
  ⟨none, .store (.t 114) 2 (.t 113), none, [22]⟩] [11, 12, 13, 22, 105, 106]
theorem r40_28 : type_of% (@rr _ _ c40_28.eq_1) := rr c40_28.eq_1
def c40_29 : ACode := .seq c40_27 c40_28
theorem r40_29 : type_of% (@rr _ _ c40_29.eq_1) := rr c40_29.eq_1
def c40_30 : ACode := .block 1 c40_29
theorem r40_30 : type_of% (@rr _ _ c40_30.eq_1) := rr c40_30.eq_1
def c40_31 : ACode := .ops [⟨some 115, .bin .add (.t 106) (.c (.int .i64 1)), none, []⟩,
  ⟨some 106, .mv (.t 115), none, []⟩] [11, 12, 13, 22, 105, 106]
theorem r40_31 : type_of% (@rr _ _ c40_31.eq_1) := rr c40_31.eq_1
def c40_32 : ACode := .seq c40_30 c40_31
theorem r40_32 : type_of% (@rr _ _ c40_32.eq_1) := rr c40_32.eq_1
def c40_33 : ACode := .seq c40_26 c40_32
theorem r40_33 : type_of% (@rr _ _ c40_33.eq_1) := rr c40_33.eq_1
def c40_34 : ACode := .seq c40_25 c40_33
theorem r40_34 : type_of% (@rr _ _ c40_34.eq_1) := rr c40_34.eq_1
def c40_35 : ACode := .keep [11, 12, 13, 22, 105, 106] [11, 12, 13, 22] c40_34
theorem r40_35 : type_of% (@rr _ _ c40_35.eq_1) := rr c40_35.eq_1
def c40_36 : ACode := .loop c40_35
theorem r40_36 : type_of% (@rr _ _ c40_36.eq_1) := rr c40_36.eq_1
def c40_37 : ACode := .block 0 c40_36
theorem r40_37 : type_of% (@rr _ _ c40_37.eq_1) := rr c40_37.eq_1
def c40_38 : ACode := .seq c40_24 c40_37
theorem r40_38 : type_of% (@rr _ _ c40_38.eq_1) := rr c40_38.eq_1
def c40_39 : ACode := .ops [⟨some 116, .iad (.t 13) (.c (.int .i64 4)) 2 5, none, [13]⟩,
  ⟨some 117, .fad (.t 116) 0, none, [13]⟩,
  ⟨some 118, .load 1 false (.t 117), none, [13]⟩,
  ⟨some 119, .iad (.t 13) (.c (.int .i64 4)) 2 5, none, [13]⟩,
  ⟨some 120, .fad (.t 119) 0, none, [13]⟩,
  ⟨some 121, .load 1 false (.t 120), none, [13]⟩,
  ⟨some 122, .build [.int .i64 0, .int .i64 0] [(0, 1, .t 118), (1, 1, .t 121)], none, []⟩,
  ⟨some 123, .iad (.t 22) (.c (.int .i64 4)) 2 5, none, [22]⟩,
  ⟨none, .store (.t 123) 2 (.t 122), none, [22]⟩] [11, 12, 13, 22]
theorem r40_39 : type_of% (@rr _ _ c40_39.eq_1) := rr c40_39.eq_1
def c40_40 : ACode := .ops [⟨some 125, .load 6 true (.t 11), none, [11]⟩,
  ⟨some 126, .load 17 true (.t 12), none, [12]⟩,
  ⟨some 127, .load 10 true (.t 22), none, [22]⟩,
  ⟨some 128, .call 100 [.t 125, .t 126, .t 127, .c (.int .i64 1)], none, []⟩,
  ⟨some 124, .mv (.t 128), none, []⟩,
  ⟨some 129, .ext (.t 124) 0, none, []⟩,
  ⟨some 130, .ext (.t 124) 1, none, []⟩,
  ⟨some 25, .mv (.t 129), none, []⟩,
  ⟨some 26, .mv (.t 130), none, []⟩] [11, 12, 13, 25, 26]
theorem r40_40 : type_of% (@rr _ _ c40_40.eq_1) := rr c40_40.eq_1
def c40_41 : ACode := .ops [⟨some 132, .load 6 true (.t 11), none, [11]⟩,
  ⟨some 133, .load 17 true (.t 12), none, [12]⟩,
  ⟨some 134, .load 10 true (.t 13), none, [13]⟩,
  ⟨some 135, .call 100 [.t 132, .t 133, .t 134, .c (.int .i64 0)], none, []⟩,
  ⟨some 131, .mv (.t 135), none, []⟩,
  ⟨some 136, .ext (.t 131) 0, none, []⟩,
  ⟨some 137, .ext (.t 131) 1, none, []⟩,
  ⟨some 27, .mv (.t 136), none, []⟩,
  ⟨some 28, .mv (.t 137), none, []⟩] [25, 26, 28]
theorem r40_41 : type_of% (@rr _ _ c40_41.eq_1) := rr c40_41.eq_1
def c40_42 : ACode := .ops [⟨some 138, .mv (.t 25), none, []⟩,
  ⟨some 139, .bin .eql (.t 138) (.c (.int .i64 1)), none, []⟩,
  ⟨some 140, .mv (.t 139), none, []⟩,
  ⟨some 141, .mv (.t 26), some (140, true), []⟩,
  ⟨some 142, .pick (.t 140) (.t 141) (.c (.bool false)), none, []⟩,
  ⟨some 143, .mv (.t 142), none, []⟩,
  ⟨some 144, .mv (.t 28), some (143, true), []⟩,
  ⟨some 145, .un .not (.t 144), some (143, true), []⟩,
  ⟨some 146, .pick (.t 143) (.t 145) (.c (.bool false)), none, []⟩,
  ⟨some 147, .mv (.t 146), none, []⟩,
  ⟨some 148, .call 37 [], some (147, true), []⟩,
  ⟨some 149, .pick (.t 147) (.t 148) (.c (.bool false)), none, []⟩,
  ⟨some 10, .mv (.t 149), none, []⟩] [10]
theorem r40_42 : type_of% (@rr _ _ c40_42.eq_1) := rr c40_42.eq_1
def c40_43 : ACode := .seq c40_42 .ret
theorem r40_43 : type_of% (@rr _ _ c40_43.eq_1) := rr c40_43.eq_1
def c40_44 : ACode := .seq c40_41 c40_43
theorem r40_44 : type_of% (@rr _ _ c40_44.eq_1) := rr c40_44.eq_1
def c40_45 : ACode := .seq c40_40 c40_44
theorem r40_45 : type_of% (@rr _ _ c40_45.eq_1) := rr c40_45.eq_1
def c40_46 : ACode := .seq c40_39 c40_45
theorem r40_46 : type_of% (@rr _ _ c40_46.eq_1) := rr c40_46.eq_1
def c40_47 : ACode := .seq c40_38 c40_46
theorem r40_47 : type_of% (@rr _ _ c40_47.eq_1) := rr c40_47.eq_1
def c40_48 : ACode := .seq c40_23 c40_47
theorem r40_48 : type_of% (@rr _ _ c40_48.eq_1) := rr c40_48.eq_1
def c40_49 : ACode := .seq c40_22 c40_48
theorem r40_49 : type_of% (@rr _ _ c40_49.eq_1) := rr c40_49.eq_1
def c40_50 : ACode := .seq c40_17 c40_49
theorem r40_50 : type_of% (@rr _ _ c40_50.eq_1) := rr c40_50.eq_1
def c40_51 : ACode := .seq c40_13 c40_50
theorem r40_51 : type_of% (@rr _ _ c40_51.eq_1) := rr c40_51.eq_1
def c40_52 : ACode := .seq c40_12 c40_51
theorem r40_52 : type_of% (@rr _ _ c40_52.eq_1) := rr c40_52.eq_1
def c40_53 : ACode := .seq c40_11 c40_52
theorem r40_53 : type_of% (@rr _ _ c40_53.eq_1) := rr c40_53.eq_1
def c40_54 : ACode := .seq c40_10 c40_53
theorem r40_54 : type_of% (@rr _ _ c40_54.eq_1) := rr c40_54.eq_1
def c40_55 : ACode := .seq c40_9 c40_54
theorem r40_55 : type_of% (@rr _ _ c40_55.eq_1) := rr c40_55.eq_1
def c40_56 : ACode := .seq c40_4 c40_55
theorem r40_56 : type_of% (@rr _ _ c40_56.eq_1) := rr c40_56.eq_1
def c40_57 : ACode := .seq c40_3 c40_56
theorem r40_57 : type_of% (@rr _ _ c40_57.eq_1) := rr c40_57.eq_1
def c40_58 : ACode := .seq c40_2 c40_57
theorem r40_58 : type_of% (@rr _ _ c40_58.eq_1) := rr c40_58.eq_1
def c40_59 : ACode := .seq c40_1 c40_58
theorem r40_59 : type_of% (@rr _ _ c40_59.eq_1) := rr c40_59.eq_1
def c40_60 : ACode := .seq c40_0 c40_59
theorem r40_60 : type_of% (@rr _ _ c40_60.eq_1) := rr c40_60.eq_1
def a40 : AFun := ⟨5, 150, c40_60, [.t 10]⟩
attribute [simp] r40_0 r40_1 r40_2 r40_3 r40_4 r40_5 r40_6 r40_7 r40_8 r40_9 r40_10 r40_11 r40_12 r40_13 r40_14 r40_15 r40_16 r40_17 r40_18 r40_19 r40_20 r40_21 r40_22 r40_23 r40_24 r40_25 r40_26 r40_27 r40_28 r40_29 r40_30 r40_31 r40_32 r40_33 r40_34 r40_35 r40_36 r40_37 r40_38 r40_39 r40_40 r40_41 r40_42 r40_43 r40_44 r40_45 r40_46 r40_47 r40_48 r40_49 r40_50 r40_51 r40_52 r40_53 r40_54 r40_55 r40_56 r40_57 r40_58 r40_59 r40_60
theorem m40 : mFun Try.prog Try.f40 a40 = true := by decide +kernel
def c37_0 : ACode := .ops [⟨some 0, .mv (.c (.bool false)), none, []⟩] []
def c37_1 : ACode := .ops [⟨some 12, .call 43 [], none, []⟩,
  ⟨some 1, .alloc [.int .i64 0, .int .i64 0, .int .i64 0, .int .i64 0, .int .i64 0, .nils], none, []⟩,
  ⟨none, .store (.t 1) 6 (.t 12), none, [1]⟩] [1]
def c37_2 : ACode := .ops [⟨some 13, .build [.int .i64 0, .int .i64 0] [(0, 1, .c (.int .i64 0)), (1, 1, .c (.int .i64 9))], none, []⟩,
  ⟨some 14, .build [.int .i64 0, .int .i64 0, .int .i64 0, .int .i64 0, .int .i64 0, .int .i64 0, .int .i64 0, .int .i64 0, .int .i64 0, .int .i64 0] [(0, 2, .t 13)], none, []⟩,
  ⟨some 15, .build [.int .i64 0, .int .i64 0, .int .i64 0, .int .i64 0, .int .i64 0, .int .i64 0, .int .i64 0, .int .i64 0, .int .i64 0, .int .i64 0, .int .i64 0, .int .i64 0, .int .i64 0, .int .i64 0, .int .i64 0, .bool false, .int .i64 0] [(0, 1, .c (.int .i64 3)), (2, 10, .t 14)], none, []⟩,
  ⟨some 2, .alloc [.int .i64 0, .int .i64 0, .int .i64 0, .int .i64 0, .int .i64 0, .int .i64 0, .int .i64 0, .int .i64 0, .int .i64 0, .int .i64 0, .int .i64 0, .int .i64 0, .int .i64 0, .int .i64 0, .int .i64 0, .bool false, .int .i64 0], none, []⟩,
  ⟨none, .store (.t 2) 17 (.t 15), none, [2]⟩] [1, 2]
def c37_3 : ACode := .ops [⟨some 16, .load 17 true (.t 2), none, [2]⟩,
  ⟨some 17, .call 58 [.t 16], none, []⟩,
  ⟨some 3, .alloc [.int .i64 0, .int .i64 0, .int .i64 0, .int .i64 0, .int .i64 0, .int .i64 0, .int .i64 0, .int .i64 0, .int .i64 0, .int .i64 0], none, []⟩,
  ⟨none, .store (.t 3) 10 (.t 17), none, [3]⟩] [1, 2, 3]
def c37_4 : ACode := .ops [⟨some 19, .load 6 true (.t 1), none, [1]⟩,
  ⟨some 20, .load 17 true (.t 2), none, [2]⟩,
  ⟨some 21, .load 10 true (.t 3), none, [3]⟩,
  ⟨some 22, .call 100 [.t 19, .t 20, .t 21, .c (.int .i64 10)], none, []⟩,
  ⟨some 18, .mv (.t 22), none, []⟩,
  ⟨some 23, .ext (.t 18) 0, none, []⟩,
  ⟨some 24, .ext (.t 18) 1, none, []⟩,
  ⟨some 4, .mv (.t 23), none, []⟩,
  ⟨some 5, .mv (.t 24), none, []⟩] [1, 2, 3, 4, 5]
def c37_5 : ACode := .ops [⟨some 26, .load 6 true (.t 1), none, [1]⟩,
  ⟨some 27, .load 17 true (.t 2), none, [2]⟩,
  ⟨some 28, .call 101 [.t 26, .t 27, .c (.int .i64 10)], none, []⟩,
  ⟨some 25, .mv (.t 28), none, []⟩,
  ⟨some 29, .ext (.t 25) 0, none, []⟩,
  ⟨some 30, .ext (.t 25) 1, none, []⟩,
  ⟨some 6, .mv (.t 29), none, []⟩,
  ⟨some 7, .mv (.t 30), none, []⟩] [1, 2, 3, 4, 5, 6, 7]
def c37_6 : ACode := .ops [⟨some 31, .fad (.t 2) 15, none, [2]⟩,
  ⟨none, .store (.t 31) 1 (.c (.bool true)), none, [2]⟩] [1, 2, 3, 4, 5, 6, 7]
def c37_7 : ACode := .ops [⟨some 33, .load 6 true (.t 1), none, [1]⟩,
  ⟨some 34, .load 17 true (.t 2), none, [2]⟩,
  ⟨some 35, .call 101 [.t 33, .t 34, .c (.int .i64 10)], none, []⟩,
  ⟨some 32, .mv (.t 35), none, []⟩,
  ⟨some 36, .ext (.t 32) 0, none, []⟩,
  ⟨some 37, .ext (.t 32) 1, none, []⟩,
  ⟨some 8, .mv (.t 36), none, []⟩,
  ⟨some 9, .mv (.t 37), none, []⟩] [1, 2, 3, 4, 5, 6, 7, 8, 9]
def c37_8 : ACode := .ops [⟨some 39, .load 6 true (.t 1), none, [1]⟩,
  ⟨some 40, .load 17 true (.t 2), none, [2]⟩,
  ⟨some 41, .load 10 true (.t 3), none, [3]⟩,
  ⟨some 42, .call 100 [.t 39, .t 40, .t 41, .c (.int .i64 3)], none, []⟩,
  ⟨some 38, .mv (.t 42), none, []⟩,
  ⟨some 43, .ext (.t 38) 0, none, []⟩,
  ⟨some 44, .ext (.t 38) 1, none, []⟩,
  ⟨some 10, .mv (.t 43), none, []⟩,
  ⟨some 11, .mv (.t 44), none, []⟩] [1, 2, 3, 4, 5, 6, 7, 8, 9, 11]
def c37_9 : ACode := .ops [⟨some 45, .load 6 true (.t 1), none, [1]⟩,
  ⟨some 46, .load 17 true (.t 2), none, [2]⟩,
  ⟨some 47, .load 10 true (.t 3), none, [3]⟩,
  ⟨some 48, .call 102 [.t 45, .t 46, .t 47, .c (.int .i64 0)], none, []⟩,
  ⟨some 49, .mkrow 49 1 1 [.int .i64 0] [(0, 1, .c (.int .i64 5))], none, []⟩,
  ⟨some 50, .call 83 [.t 48, .t 49], none, [49]⟩,
  ⟨some 51, .mv (.t 50), none, []⟩,
  ⟨some 52, .mv (.t 4), some (51, true), []⟩,
  ⟨some 53, .bin .eql (.t 52) (.c (.int .i64 4)), some (51, true), []⟩,
  ⟨some 54, .pick (.t 51) (.t 53) (.c (.bool false)), none, []⟩,
  ⟨some 55, .mv (.t 54), none, []⟩,
  ⟨some 56, .mv (.t 5), some (55, true), []⟩,
  ⟨some 57, .pick (.t 55) (.t 56) (.c (.bool false)), none, []⟩,
  ⟨some 58, .mv (.t 57), none, []⟩,
  ⟨some 59, .mv (.t 6), some (58, true), []⟩,
  ⟨some 60, .pick (.t 58) (.t 59) (.c (.bool false)), none, []⟩,
  ⟨some 61, .mv (.t 60), none, []⟩,
  ⟨some 62, .mv (.t 7), some (61, true), []⟩,
  ⟨some 63, .pick (.t 61) (.t 62) (.c (.bool false)), none, []⟩,
  ⟨some 64, .mv (.t 63), none, []⟩,
  ⟨some 65, .mv (.t 8), some (64, true), []⟩,
  ⟨some 66, .un .not (.t 65), some (64, true), []⟩,
  ⟨some 67, .pick (.t 64) (.t 66) (.c (.bool false)), none, []⟩,
  ⟨some 68, .mv (.t 67), none, []⟩,
  ⟨some 69, .mv (.t 9), some (68, true), []⟩,
  ⟨some 70, .pick (.t 68) (.t 69) (.c (.bool false)), none, []⟩,
  ⟨some 71, .mv (.t 70), none, []⟩,
  ⟨some 72, .mv (.t 11), some (71, true), []⟩,
  ⟨some 73, .un .not (.t 72), some (71, true), []⟩,
  ⟨some 74, .pick (.t 71) (.t 73) (.c (.bool false)), none, []⟩,
  ⟨some 0, .mv (.t 74), none, []⟩] [0]
def c37_10 : ACode := .seq c37_9 .ret
def c37_11 : ACode := .seq c37_8 c37_10
def c37_12 : ACode := .seq c37_7 c37_11
def c37_13 : ACode := .seq c37_6 c37_12
def c37_14 : ACode := .seq c37_5 c37_13
def c37_15 : ACode := .seq c37_4 c37_14
def c37_16 : ACode := .seq c37_3 c37_15
def c37_17 : ACode := .seq c37_2 c37_16
def c37_18 : ACode := .seq c37_1 c37_17
def c37_19 : ACode := .seq c37_0 c37_18
def a37 : AFun := ⟨0, 75, c37_19, [.t 0]⟩
theorem m37 : mFun Try.prog Try.f37 a37 = true := by decide +kernel
def c43_0 : ACode := .ops [⟨some 0, .alloc [.int .i64 0, .int .i64 0, .int .i64 0, .int .i64 0, .int .i64 0, .nils], none, []⟩] [0]
def c43_1 : ACode := .ops [⟨some 2, .build [.bool false, .int .i64 0, .int .i64 0, .int .i64 0, .int .i64 0, .int .i64 0] [(3, 1, .c (.int .i64 5)), (4, 1, .c (.int .i64 1)), (5, 1, .c (.int .i64 2))], none, []⟩,
  ⟨some 3, .call 111 [.t 2], none, []⟩,
  ⟨some 4, .build [.bool false, .int .i64 0, .int .i64 0, .int .i64 0, .int .i64 0, .int .i64 0] [(0, 1, .c (.bool true)), (1, 1, .c (.int .i64 10))], none, []⟩,
  ⟨some 5, .call 111 [.t 4], none, []⟩,
  ⟨some 6, .build [.bool false, .int .i64 0, .int .i64 0, .int .i64 0, .int .i64 0, .int .i64 0] [(0, 1, .c (.bool true)), (1, 1, .c (.int .i64 20))], none, []⟩,
  ⟨some 7, .call 111 [.t 6], none, []⟩,
  ⟨some 8, .mkrow 1 3 1 [.int .u64 0] [(0, 1, .t 3), (1, 1, .t 5), (2, 1, .t 7)], none, []⟩,
  ⟨some 1, .mv (.t 8), none, []⟩] [0, 1]
def c43_2 : ACode := .ops [⟨some 9, .build [.int .i64 0, .int .i64 0, .int .i64 0] [(0, 1, .c (.int .i64 3))], none, []⟩,
  ⟨some 10, .mv (.t 1), none, []⟩,
  ⟨some 11, .build [.int .i64 0, .nils] [(1, 1, .t 10)], none, []⟩,
  ⟨some 12, .mkrow 12 1 2 [.int .i64 0, .nils] [(0, 2, .t 11)], none, []⟩,
  ⟨some 13, .build [.int .i64 0, .int .i64 0, .int .i64 0, .int .i64 0, .int .i64 0, .nils] [(0, 1, .c (.int .i64 1)), (1, 1, .c (.int .i64 1)), (2, 3, .t 9), (5, 1, .t 12)], none, []⟩,
  ⟨none, .store (.t 0) 6 (.t 13), none, [0]⟩] [0]
def c43_3 : ACode := .seq c43_2 .ret
def c43_4 : ACode := .seq c43_1 c43_3
def c43_5 : ACode := .seq c43_0 c43_4
def a43 : AFun := ⟨0, 14, c43_5, [.cell 0 6 true]⟩
theorem m43 : mFun Try.prog Try.f43 a43 = true := by decide +kernel
def c57_0 : ACode := .ops [⟨some 4, .box (.t 0) 6, none, []⟩,
  ⟨some 5, .box (.t 1) 17, none, []⟩,
  ⟨some 6, .box (.t 2) 4, none, []⟩,
  ⟨some 8, .mv (.c (.bool false)), none, []⟩] [3, 4, 5, 6]
def c57_1 : ACode := .ops [⟨some 12, .load 6 true (.t 4), none, [4]⟩,
  ⟨some 13, .load 17 true (.t 5), none, [5]⟩,
  ⟨some 14, .call 56 [.t 12, .t 13], none, []⟩,
  ⟨some 15, .un .not (.t 14), none, []⟩] [3, 4, 5, 6, 15]
def c57_2 : ACode := .ops [⟨some 8, .mv (.c (.bool false)), none, []⟩] [8]
def c57_3 : ACode := .seq c57_2 .ret
def c57_4 : ACode := .cond (.t 15) c57_3 .skip
def c57_5 : ACode := .seq c57_1 c57_4
def c57_6 : ACode := .ops [⟨some 16, .load 6 true (.t 4), none, [4]⟩,
  ⟨some 17, .fad (.t 5) 1, none, [5]⟩,
  ⟨some 18, .load 1 false (.t 17), none, [5]⟩,
  ⟨some 19, .load 4 true (.t 6), none, [6]⟩,
  ⟨some 20, .call 69 [.t 16, .t 18, .t 19], none, []⟩,
  ⟨some 9, .mv (.t 20), none, []⟩] [3, 4, 5, 6, 9]
def c57_7 : ACode := .ops [⟨some 21, .fad (.t 5) 0, none, [5]⟩,
  ⟨some 22, .load 1 false (.t 21), none, [5]⟩] [3, 4, 5, 6, 9, 22]
def c57_8 : ACode := .ops [⟨some 24, .bin .eql (.t 22) (.c (.int .i64 1)), none, []⟩,
  ⟨some 23, .mv (.t 24), none, []⟩] [3, 4, 5, 6, 9, 22, 23]
def c57_9 : ACode := .ops [⟨some 25, .fad (.t 5) 12, none, [5]⟩,
  ⟨some 26, .load 1 false (.t 25), none, [5]⟩,
  ⟨some 27, .fad (.t 5) 13, none, [5]⟩,
  ⟨some 28, .load 1 false (.t 27), none, [5]⟩,
  ⟨some 29, .build [.int .i64 0, .int .i64 0] [(0, 1, .t 26), (1, 1, .t 28)], none, []⟩,
  ⟨some 30, .mv (.t 9), none, []⟩,
  ⟨some 31, .call 117 [.t 29, .t 30], none, []⟩,
  ⟨some 32, .un .not (.t 31), none, []⟩,
  ⟨some 8, .mv (.t 32), none, []⟩] [8]
def c57_10 : ACode := .seq c57_9 .ret
def c57_11 : ACode := .ops [⟨some 34, .bin .eql (.t 22) (.c (.int .i64 2)), none, []⟩,
  ⟨some 33, .mv (.t 34), none, []⟩] [3, 4, 5, 6, 9, 33]
def c57_12 : ACode := .ops [⟨some 35, .fad (.t 4) 1, none, [4]⟩,
  ⟨some 36, .load 1 false (.t 35), none, [4]⟩,
  ⟨some 37, .mv (.c (.int .i64 0)), none, []⟩] [4, 5, 6, 9, 36, 37]
def c57_13 : ACode := .ops [⟨some 38, .bin .lss (.t 37) (.t 36), none, []⟩] [4, 5, 6, 9, 36, 37, 38]
def c57_14 : ACode := .cond (.t 38) .skip (.exit 1)
def c57_15 : ACode := .ops [⟨some 39, .mv (.t 37), none, []⟩,
  ⟨some 10, .mv (.t 39), none, []⟩] [4, 5, 6, 9, 10, 36, 37]
def c57_16 : ACode := .ops [⟨some 40, .mv (.t 10), none, []⟩,
  ⟨some 41, .fad (.t 5) 1, none, [5]⟩,
  ⟨some 42, .load 1 false (.t 41), none, [5]⟩,
  ⟨some 43, .bin .neq (.t 40) (.t 42), none, []⟩,
  ⟨some 44, .mv (.t 43), none, []⟩,
  ⟨some 45, .load 6 true (.t 4), some (44, true), [4]⟩,
  ⟨some 46, .mv (.t 10), some (44, true), []⟩,
  ⟨some 47, .load 4 true (.t 6), some (44, true), [6]⟩,
  ⟨some 48, .call 69 [.t 45, .t 46, .t 47], some (44, true), []⟩,
  ⟨some 49, .mv (.t 9), some (44, true), []⟩,
  ⟨some 50, .bin .geq (.t 48) (.t 49), some (44, true), []⟩,
  ⟨some 51, .pick (.t 44) (.t 50) (.c (.bool false)), none, []⟩] [4, 5, 6, 9, 36, 37, 51]
def c57_17 : ACode := .ops [⟨some 8, .mv (.c (.bool true)), none, []⟩] [8]
def c57_18 : ACode := .seq c57_17 .ret
def c57_19 : ACode := .cond (.t 51) c57_18 .skip
def c57_20 : ACode := .seq c57_16 c57_19
def c57_21 : ACode := .seq c57_15 c57_20
def c57_22 : ACode := .block 2 c57_21
def c57_23 : ACode := .ops [⟨some 52, .bin .add (.t 37) (.c (.int .i64 1)), none, []⟩,
  ⟨some 37, .mv (.t 52), none, []⟩] [4, 5, 6, 9, 36, 37]
def c57_24 : ACode := .seq c57_22 c57_23
def c57_25 : ACode := .seq c57_14 c57_24
def c57_26 : ACode := .seq c57_13 c57_25
def c57_27 : ACode := .keep [4, 5, 6, 9, 36, 37] [4, 5, 6] c57_26
def c57_28 : ACode := .loop c57_27
def c57_29 : ACode := .block 1 c57_28
def c57_30 : ACode := .seq c57_12 c57_29
def c57_31 : ACode := .ops [⟨some 8, .mv (.c (.bool false)), none, []⟩] [8]
def c57_32 : ACode := .seq c57_31 .ret
def c57_33 : ACode := .seq c57_30 c57_32
def c57_34 : ACode := .cond (.t 33) c57_33 .skip
def c57_35 : ACode := .seq c57_11 c57_34
def c57_36 : ACode := .cond (.t 23) c57_10 c57_35
def c57_37 : ACode := .seq c57_8 c57_36
def c57_38 : ACode := .block 0 c57_37
def c57_39 : ACode := .seq c57_7 c57_38
def c57_40 : ACode := .ops [⟨some 53, .fad (.t 5) 14, none, [5]⟩,
  ⟨some 54, .load 1 false (.t 53), none, [5]⟩,
  ⟨some 55, .iad (.t 6) (.t 54) 1 4, none, [6]⟩,
  ⟨some 56, .load 1 false (.t 55), none, [6]⟩,
  ⟨some 57, .mv (.t 3), none, []⟩,
  ⟨some 58, .bin .geq (.t 56) (.t 57), none, []⟩] [3, 4, 5, 6, 9, 58]
def c57_41 : ACode := .ops [⟨some 8, .mv (.c (.bool false)), none, []⟩] [8]
def c57_42 : ACode := .seq c57_41 .ret
def c57_43 : ACode := .cond (.t 58) c57_42 .skip
def c57_44 : ACode := .seq c57_40 c57_43
def c57_45 : ACode := .ops [⟨some 59, .load 6 true (.t 4), none, [4]⟩,
  ⟨some 60, .fad (.t 5) 1, none, [5]⟩,
  ⟨some 61, .load 1 false (.t 60), none, [5]⟩,
  ⟨some 62, .load 17 true (.t 5), none, [5]⟩,
  ⟨some 63, .load 4 true (.t 6), none, [6]⟩,
  ⟨some 64, .mv (.t 3), none, []⟩,
  ⟨some 65, .call 64 [.t 62, .t 63, .t 64], none, []⟩,
  ⟨some 66, .call 69 [.t 59, .t 61, .t 65], none, []⟩,
  ⟨some 11, .mv (.t 66), none, []⟩] [5, 9, 11]
def c57_46 : ACode := .ops [⟨some 67, .fad (.t 5) 15, none, [5]⟩,
  ⟨some 68, .load 1 false (.t 67), none, [5]⟩] [9, 11, 68]
def c57_47 : ACode := .ops [⟨some 69, .mv (.t 11), none, []⟩,
  ⟨some 70, .mv (.t 9), none, []⟩,
  ⟨some 71, .bin .gtr (.t 69) (.t 70), none, []⟩,
  ⟨some 8, .mv (.t 71), none, []⟩] [8]
def c57_48 : ACode := .seq c57_47 .ret
def c57_49 : ACode := .cond (.t 68) c57_48 .skip
def c57_50 : ACode := .seq c57_46 c57_49
def c57_51 : ACode := .ops [⟨some 72, .mv (.t 11), none, []⟩,
  ⟨some 73, .mv (.t 9), none, []⟩,
  ⟨some 74, .bin .lss (.t 72) (.t 73), none, []⟩,
  ⟨some 8, .mv (.t 74), none, []⟩] [8]
def c57_52 : ACode := .seq c57_51 .ret
def c57_53 : ACode := .seq c57_50 c57_52
def c57_54 : ACode := .seq c57_45 c57_53
def c57_55 : ACode := .seq c57_44 c57_54
def c57_56 : ACode := .seq c57_39 c57_55
def c57_57 : ACode := .seq c57_6 c57_56
def c57_58 : ACode := .seq c57_5 c57_57
def c57_59 : ACode := .seq c57_0 c57_58
def a57 : AFun := ⟨4, 75, c57_59, [.t 8]⟩
theorem m57 : mFun Try.prog Try.f57 a57 = true := by decide +kernel
def c83_0 : ACode := .ops [⟨some 4, .mv (.c (.bool false)), none, []⟩] [0, 1]
def c83_1 : ACode := .ops [⟨some 6, .mv (.t 0), none, []⟩,
  ⟨some 7, .len (.t 6), none, []⟩,
  ⟨some 8, .mv (.t 1), none, []⟩,
  ⟨some 9, .len (.t 8), none, []⟩,
  ⟨some 10, .bin .neq (.t 7) (.t 9), none, []⟩] [0, 1, 10]
def c83_2 : ACode := .ops [⟨some 4, .mv (.c (.bool false)), none, []⟩] [4]
def c83_3 : ACode := .seq c83_2 .ret
def c83_4 : ACode := .cond (.t 10) c83_3 .skip
def c83_5 : ACode := .seq c83_1 c83_4
def c83_6 : ACode := .ops [⟨some 5, .mv (.c (.int .i64 0)), none, []⟩] [0, 1, 5]
def c83_7 : ACode := .ops [⟨some 11, .mv (.t 5), none, []⟩,
  ⟨some 12, .mv (.t 0), none, []⟩,
  ⟨some 13, .len (.t 12), none, []⟩,
  ⟨some 14, .bin .lss (.t 11) (.t 13), none, []⟩] [0, 1, 5, 14]
def c83_8 : ACode := .cond (.t 14) .skip (.exit 0)
def c83_9 : ACode := .seq c83_7 c83_8
def c83_10 : ACode := .ops [⟨some 17, .mv (.t 0), none, []⟩,
  ⟨some 18, .mv (.t 5), none, []⟩,
  ⟨some 19, .ias (.t 17) (.t 18) 1, none, []⟩,
  ⟨some 20, .load 1 false (.t 19), none, []⟩,
  ⟨some 21, .mv (.t 1), none, []⟩,
  ⟨some 22, .mv (.t 5), none, []⟩,
  ⟨some 23, .ias (.t 21) (.t 22) 1, none, []⟩,
  ⟨some 24, .load 1 false (.t 23), none, []⟩,
  ⟨some 25, .bin .neq (.t 20) (.t 24), none, []⟩] [0, 1, 5, 25]
def c83_11 : ACode := .ops [⟨some 4, .mv (.c (.bool false)), none, []⟩] [4]
def c83_12 : ACode := .seq c83_11 .ret
def c83_13 : ACode := .cond (.t 25) c83_12 .skip
def c83_14 : ACode := .seq c83_10 c83_13
def c83_15 : ACode := .block 1 c83_14
def c83_16 : ACode := .ops [⟨some 15, .mv (.t 5), none, []⟩,
  ⟨some 16, .bin .add (.t 15) (.c (.int .i64 1)), none, []⟩,
  ⟨some 5, .mv (.t 16), none, []⟩] [0, 1, 5]
def c83_17 : ACode := .seq c83_15 c83_16
def c83_18 : ACode := .seq c83_9 c83_17
def c83_19 : ACode := .keep [0, 1, 5] [] c83_18
def c83_20 : ACode := .loop c83_19
def c83_21 : ACode := .block 0 c83_20
def c83_22 : ACode := .seq c83_6 c83_21
def c83_23 : ACode := .ops [⟨some 4, .mv (.c (.bool true)), none, []⟩] [4]
def c83_24 : ACode := .seq c83_23 .ret
def c83_25 : ACode := .seq c83_22 c83_24
def c83_26 : ACode := .seq c83_5 c83_25
def c83_27 : ACode := .seq c83_0 c83_26
def a83 : AFun := ⟨2, 26, c83_27, [.t 4]⟩
theorem m83 : mFun Try.prog Try.f83 a83 = true := by decide +kernel
def c101_0 : ACode := .ops [⟨some 3, .box (.t 0) 6, none, []⟩,
  ⟨some 4, .box (.t 1) 17, none, []⟩,
  ⟨some 6, .mv (.c (.bool false)), none, []⟩,
  ⟨some 7, .mv (.c (.bool false)), none, []⟩] [2, 3, 4]
def c101_1 : ACode := .ops [⟨some 11, .load 6 true (.t 3), none, [3]⟩,
  ⟨some 12, .load 17 true (.t 4), none, [4]⟩,
  ⟨some 13, .load 17 true (.t 4), none, [4]⟩,
  ⟨some 14, .call 58 [.t 13], none, []⟩,
  ⟨some 15, .mv (.t 2), none, []⟩,
  ⟨some 16, .call 103 [.t 11, .t 12, .t 14, .t 15], none, []⟩,
  ⟨some 10, .mv (.t 16), none, []⟩,
  ⟨some 17, .ext (.t 10) 0, none, []⟩,
  ⟨some 18, .ext (.t 10) 1, none, []⟩,
  ⟨some 8, .mv (.t 17), none, []⟩,
  ⟨some 9, .mv (.t 18), none, []⟩] [3, 4, 8, 9]
def c101_2 : ACode := .ops [⟨some 19, .mv (.t 9), none, []⟩,
  ⟨some 20, .un .not (.t 19), none, []⟩] [3, 4, 8, 20]
def c101_3 : ACode := .ops [⟨some 6, .mv (.c (.bool false)), none, []⟩,
  ⟨some 7, .mv (.c (.bool false)), none, []⟩] [6, 7]
def c101_4 : ACode := .seq c101_3 .ret
def c101_5 : ACode := .cond (.t 20) c101_4 .skip
def c101_6 : ACode := .seq c101_2 c101_5
def c101_7 : ACode := .ops [⟨some 21, .mv (.t 8), none, []⟩,
  ⟨some 22, .clo 150 [.t 3, .t 4], none, [3, 4]⟩,
  ⟨some 23, .call 149 [.t 21, .t 22], none, []⟩,
  ⟨some 24, .un .not (.t 23), none, []⟩,
  ⟨some 6, .mv (.t 24), none, []⟩,
  ⟨some 7, .mv (.c (.bool true)), none, []⟩] [6, 7]
def c101_8 : ACode := .seq c101_7 .ret
def c101_9 : ACode := .seq c101_6 c101_8
def c101_10 : ACode := .seq c101_1 c101_9
def c101_11 : ACode := .seq c101_0 c101_10
def a101 : AFun := ⟨3, 25, c101_11, [.t 6, .t 7]⟩
theorem m101 : mFun Try.prog Try.f101 a101 = true := by decide +kernel
def c103_0 : ACode := .ops [⟨some 4, .box (.t 0) 6, none, []⟩,
  ⟨some 5, .box (.t 1) 17, none, []⟩,
  ⟨some 6, .box (.t 2) 10, none, []⟩,
  ⟨some 8, .mv (.c (.nils)), none, []⟩,
  ⟨some 9, .mv (.c (.bool false)), none, []⟩] [3, 4, 5, 6]
def c103_1 : ACode := .ops [⟨some 22, .load 6 true (.t 4), none, [4]⟩,
  ⟨some 23, .load 17 true (.t 5), none, [5]⟩,
  ⟨some 24, .load 10 true (.t 6), none, [6]⟩,
  ⟨some 25, .mv (.t 3), none, []⟩,
  ⟨some 26, .call 100 [.t 22, .t 23, .t 24, .t 25], none, []⟩,
  ⟨some 21, .mv (.t 26), none, []⟩,
  ⟨some 27, .ext (.t 21) 0, none, []⟩,
  ⟨some 28, .ext (.t 21) 1, none, []⟩,
  ⟨some 10, .mv (.t 27), none, []⟩,
  ⟨some 11, .mv (.t 28), none, []⟩] [4, 5, 6, 11]
def c103_2 : ACode := .ops [⟨some 29, .mv (.t 11), none, []⟩,
  ⟨some 30, .un .not (.t 29), none, []⟩] [4, 5, 6, 30]
def c103_3 : ACode := .ops [⟨some 8, .mv (.c (.nils)), none, []⟩,
  ⟨some 9, .mv (.c (.bool false)), none, []⟩] [8, 9]
def c103_4 : ACode := .seq c103_3 .ret
def c103_5 : ACode := .cond (.t 30) c103_4 .skip
def c103_6 : ACode := .seq c103_2 c103_5
def c103_7 : ACode := .seq c103_1 c103_6
def c103_8 : ACode := .ops [⟨some 31, .load 10 true (.t 6), none, [6]⟩,
  ⟨some 32, .mkrow 12 1 10 [.int .i64 0, .int .i64 0, .int .i64 0, .int .i64 0, .int .i64 0, .int .i64 0, .int .i64 0, .int .i64 0, .int .i64 0, .int .i64 0] [(0, 10, .t 31)], none, []⟩,
  ⟨some 12, .mv (.t 32), none, []⟩] [4, 5, 6, 12]
def c103_9 : ACode := .ops [⟨some 33, .mv (.c (.int .i64 0)), none, []⟩] [4, 5, 6, 12, 33]
def c103_10 : ACode := .ops [⟨some 34, .bin .lss (.t 33) (.c (.int .i64 5)), none, []⟩] [4, 5, 6, 12, 33, 34]
def c103_11 : ACode := .cond (.t 34) .skip (.exit 0)
def c103_12 : ACode := .ops [⟨some 35, .mv (.t 33), none, []⟩,
  ⟨some 13, .mv (.t 35), none, []⟩] [4, 5, 6, 12, 13, 33]
def c103_13 : ACode := .ops [⟨some 36, .load 6 true (.t 4), none, [4]⟩,
  ⟨some 37, .load 17 true (.t 5), none, [5]⟩,
  ⟨some 38, .load 10 true (.t 6), none, [6]⟩,
  ⟨some 39, .mv (.t 13), none, []⟩,
  ⟨some 40, .call 102 [.t 36, .t 37, .t 38, .t 39], none, []⟩,
  ⟨some 14, .mv (.t 40), none, []⟩] [4, 5, 6, 12, 13, 14, 33]
def c103_14 : ACode := .ops [⟨some 15, .nil0 15 10, none, []⟩] [4, 5, 6, 12, 13, 14, 15, 33]
def c103_15 : ACode := .ops [⟨some 41, .mv (.t 12), none, []⟩,
  ⟨some 42, .len (.t 41), none, [12]⟩,
  ⟨some 43, .mv (.c (.int .i64 0)), none, []⟩] [4, 5, 6, 13, 14, 15, 33, 41, 42, 43]
def c103_16 : ACode := .ops [⟨some 44, .bin .lss (.t 43) (.t 42), none, []⟩] [4, 5, 6, 13, 14, 15, 33, 41, 42, 43, 44]
def c103_17 : ACode := .cond (.t 44) .skip (.exit 2)
def c103_18 : ACode := .ops [⟨some 45, .ias (.t 41) (.t 43) 10, none, [12]⟩,
  ⟨some 46, .load 10 true (.t 45), none, [12]⟩,
  ⟨some 17, .alloc [.int .i64 0, .int .i64 0, .int .i64 0, .int .i64 0, .int .i64 0, .int .i64 0, .int .i64 0, .int .i64 0, .int .i64 0, .int .i64 0], none, []⟩,
  ⟨none, .store (.t 17) 10 (.t 46), none, [17]⟩] [4, 5, 6, 13, 14, 15, 17, 33, 41, 42, 43]
def c103_19 : ACode := .ops [⟨some 47, .mv (.t 14), none, []⟩,
  ⟨some 48, .len (.t 47), none, []⟩,
  ⟨some 49, .mv (.c (.int .i64 0)), none, []⟩] [4, 5, 6, 13, 14, 15, 17, 33, 41, 42, 43, 47, 48, 49]
def c103_20 : ACode := .ops [⟨some 50, .bin .lss (.t 49) (.t 48), none, []⟩] [4, 5, 6, 13, 14, 15, 17, 33, 41, 42, 43, 47, 48, 49, 50]
def c103_21 : ACode := .cond (.t 50) .skip (.exit 4)
def c103_22 : ACode := .ops [⟨some 51, .ias (.t 47) (.t 49) 1, none, []⟩,
  ⟨some 52, .load 1 false (.t 51), none, []⟩,
  ⟨some 19, .mv (.t 52), none, []⟩] [4, 5, 6, 13, 14, 15, 17, 19, 33, 41, 42, 43, 47, 48, 49]
def c103_23 : ACode := .ops [⟨some 20, .alloc [.int .i64 0, .int .i64 0, .int .i64 0, .int .i64 0, .int .i64 0, .int .i64 0, .int .i64 0, .int .i64 0, .int .i64 0, .int .i64 0], none, []⟩] [4, 5, 6, 13, 14, 15, 17, 19, 20, 33, 41, 42, 43, 47, 48, 49]
def c103_24 : ACode := .ops [⟨some 54, .load 10 true (.t 17), none, [17]⟩,
  ⟨some 55, .mv (.t 13), none, []⟩,
  ⟨some 56, .mv (.t 19), none, []⟩,
  ⟨some 57, .call 67 [.t 54, .t 55, .t 56], none, []⟩,
  ⟨some 53, .mv (.t 57), none, []⟩,
  ⟨some 58, .ext (.t 53) 0, none, []⟩,
  ⟨some 59, .ext (.t 53) 1, none, []⟩,
  ⟨none, .store (.t 20) 10 (.t 58), none, [20]⟩,
  ⟨none, .store (.t 17) 10 (.t 59), none, [17]⟩] [4, 5, 6, 13, 14, 15, 17, 20, 33, 41, 42, 43, 47, 48, 49]
def c103_25 : ACode := .ops [⟨some 60, .mv (.t 15), none, []⟩,
  ⟨some 61, .load 10 true (.t 20), none, [20]⟩,
  ⟨some 62, .mkrow 62 1 10 [.int .i64 0, .int .i64 0, .int .i64 0, .int .i64 0, .int .i64 0, .int .i64 0, .int .i64 0, .int .i64 0, .int .i64 0, .int .i64 0] [(0, 10, .t 61)], none, []⟩,
  ⟨some 63, .app 15 [15] (.t 60) (.t 62) 10, none, [15, 62]⟩,
  ⟨some 15, .mv (.t 63), none, []⟩] [4, 5, 6, 13, 14, 15, 17, 33, 41, 42, 43, 47, 48, 49]
def c103_26 : ACode := .seq c103_24 c103_25
def c103_27 : ACode := .seq c103_23 c103_26
def c103_28 : ACode := .seq c103_22 c103_27
def c103_29 : ACode := .block 5 c103_28
def c103_30 : ACode := .ops [⟨some 64, .bin .add (.t 49) (.c (.int .i64 1)), none, []⟩,
  ⟨some 49, .mv (.t 64), none, []⟩] [4, 5, 6, 13, 14, 15, 17, 33, 41, 42, 43, 47, 48, 49]
def c103_31 : ACode := .seq c103_29 c103_30
def c103_32 : ACode := .seq c103_21 c103_31
def c103_33 : ACode := .seq c103_20 c103_32
def c103_34 : ACode := .keep [4, 5, 6, 13, 14, 15, 17, 33, 41, 42, 43, 47, 48, 49] [4, 5, 6, 12, 15, 17] c103_33
def c103_35 : ACode := .loop c103_34
def c103_36 : ACode := .block 4 c103_35
def c103_37 : ACode := .seq c103_19 c103_36
def c103_38 : ACode := .ops [⟨some 65, .mv (.t 15), none, []⟩,
  ⟨some 66, .load 10 true (.t 17), none, [17]⟩,
  ⟨some 67, .mkrow 67 1 10 [.int .i64 0, .int .i64 0, .int .i64 0, .int .i64 0, .int .i64 0, .int .i64 0, .int .i64 0, .int .i64 0, .int .i64 0, .int .i64 0] [(0, 10, .t 66)], none, []⟩,
  ⟨some 68, .app 15 [15] (.t 65) (.t 67) 10, none, [15, 67]⟩,
  ⟨some 15, .mv (.t 68), none, []⟩] [4, 5, 6, 13, 14, 15, 33, 41, 42, 43]
def c103_39 : ACode := .seq c103_37 c103_38
def c103_40 : ACode := .seq c103_18 c103_39
def c103_41 : ACode := .block 3 c103_40
def c103_42 : ACode := .ops [⟨some 69, .bin .add (.t 43) (.c (.int .i64 1)), none, []⟩,
  ⟨some 43, .mv (.t 69), none, []⟩] [4, 5, 6, 13, 14, 15, 33, 41, 42, 43]
def c103_43 : ACode := .seq c103_41 c103_42
def c103_44 : ACode := .seq c103_17 c103_43
def c103_45 : ACode := .seq c103_16 c103_44
def c103_46 : ACode := .keep [4, 5, 6, 13, 14, 15, 33, 41, 42, 43] [4, 5, 6, 12, 15] c103_45
def c103_47 : ACode := .loop c103_46
def c103_48 : ACode := .block 2 c103_47
def c103_49 : ACode := .seq c103_15 c103_48
def c103_50 : ACode := .ops [⟨some 70, .mv (.t 15), none, []⟩,
  ⟨some 12, .frz (.t 70), none, [15]⟩] [4, 5, 6, 12, 33]
def c103_51 : ACode := .seq c103_49 c103_50
def c103_52 : ACode := .seq c103_14 c103_51
def c103_53 : ACode := .seq c103_13 c103_52
def c103_54 : ACode := .seq c103_12 c103_53
def c103_55 : ACode := .block 1 c103_54
def c103_56 : ACode := .ops [⟨some 71, .bin .add (.t 33) (.c (.int .i64 1)), none, []⟩,
  ⟨some 33, .mv (.t 71), none, []⟩] [4, 5, 6, 12, 33]
def c103_57 : ACode := .seq c103_55 c103_56
def c103_58 : ACode := .seq c103_11 c103_57
def c103_59 : ACode := .seq c103_10 c103_58
def c103_60 : ACode := .keep [4, 5, 6, 12, 33] [4, 5, 6, 12] c103_59
def c103_61 : ACode := .loop c103_60
def c103_62 : ACode := .block 0 c103_61
def c103_63 : ACode := .seq c103_9 c103_62
def c103_64 : ACode := .ops [⟨some 72, .mv (.t 12), none, []⟩,
  ⟨some 8, .mv (.t 72), none, []⟩,
  ⟨some 9, .mv (.c (.bool true)), none, []⟩] [8, 9]
def c103_65 : ACode := .seq c103_64 .ret
def c103_66 : ACode := .seq c103_63 c103_65
def c103_67 : ACode := .seq c103_8 c103_66
def c103_68 : ACode := .seq c103_7 c103_67
def c103_69 : ACode := .seq c103_0 c103_68
def a103 : AFun := ⟨4, 73, c103_69, [.t 8, .t 9]⟩
theorem m103 : mFun Try.prog Try.f103 a103 = true := by decide +kernel
def c149_0 : ACode := .ops [⟨some 4, .mv (.c (.bool false)), none, []⟩] [0, 1]
def c149_1 : ACode := .ops [⟨some 5, .mv (.t 0), none, []⟩,
  ⟨some 6, .mv (.t 1), none, []⟩,
  ⟨some 7, .call 174 [.t 5, .t 6], none, []⟩,
  ⟨some 8, .bin .geq (.t 7) (.c (.int .i64 0)), none, []⟩,
  ⟨some 4, .mv (.t 8), none, []⟩] [4]
def c149_2 : ACode := .seq c149_1 .ret
def c149_3 : ACode := .seq c149_0 c149_2
def a149 : AFun := ⟨2, 9, c149_3, [.t 4]⟩
theorem m149 : mFun Try.prog Try.f149 a149 = true := by decide +kernel
def c150_0 : ACode := .ops [⟨some 3, .box (.t 0) 10, none, []⟩,
  ⟨some 4, .mv (.c (.bool false)), none, []⟩] [1, 2, 3]
def c150_1 : ACode := .ops [⟨some 5, .load 6 true (.t 1), none, []⟩,
  ⟨some 6, .load 17 true (.t 2), none, []⟩,
  ⟨some 7, .load 10 true (.t 3), none, [3]⟩,
  ⟨some 8, .call 151 [.t 7], none, []⟩,
  ⟨some 9, .iad (.t 3) (.c (.int .i64 4)) 2 5, none, [3]⟩,
  ⟨some 10, .fad (.t 9) 1, none, [3]⟩,
  ⟨some 11, .load 1 false (.t 10), none, [3]⟩,
  ⟨some 12, .call 57 [.t 5, .t 6, .t 8, .t 11], none, []⟩,
  ⟨some 4, .mv (.t 12), none, []⟩] [4]
def c150_2 : ACode := .seq c150_1 .ret
def c150_3 : ACode := .seq c150_0 c150_2
def a150 : AFun := ⟨3, 13, c150_3, [.t 4]⟩
theorem m150 : mFun Try.prog Try.f150 a150 = true := by decide +kernel
def c151_0 : ACode := .ops [⟨some 1, .box (.t 0) 10, none, []⟩,
  ⟨some 2, .alloc [.int .i64 0, .int .i64 0, .int .i64 0, .int .i64 0], none, []⟩] [1, 2]
def c151_1 : ACode := .ops [⟨some 3, .alloc [.int .i64 0, .int .i64 0, .int .i64 0, .int .i64 0], none, []⟩] [1, 2, 3]
def c151_2 : ACode := .ops [⟨some 5, .mv (.c (.int .i64 0)), none, []⟩] [1, 2, 3, 5]
def c151_3 : ACode := .ops [⟨some 6, .bin .lss (.t 5) (.c (.int .i64 4)), none, []⟩] [1, 2, 3, 5, 6]
def c151_4 : ACode := .cond (.t 6) .skip (.exit 0)
def c151_5 : ACode := .ops [⟨some 7, .mv (.t 5), none, []⟩,
  ⟨some 4, .mv (.t 7), none, []⟩] [1, 2, 3, 4, 5]
def c151_6 : ACode := .ops [⟨some 8, .mv (.t 4), none, []⟩,
  ⟨some 9, .mv (.t 4), none, []⟩,
  ⟨some 10, .iad (.t 1) (.t 9) 2 5, none, [1]⟩,
  ⟨some 11, .fad (.t 10) 0, none, [1]⟩,
  ⟨some 12, .load 1 false (.t 11), none, [1]⟩,
  ⟨some 13, .iad (.t 3) (.t 8) 1 4, none, [3]⟩,
  ⟨none, .store (.t 13) 1 (.t 12), none, [3]⟩] [1, 2, 3, 5]
def c151_7 : ACode := .seq c151_5 c151_6
def c151_8 : ACode := .block 1 c151_7
def c151_9 : ACode := .ops [⟨some 14, .bin .add (.t 5) (.c (.int .i64 1)), none, []⟩,
  ⟨some 5, .mv (.t 14), none, []⟩] [1, 2, 3, 5]
def c151_10 : ACode := .seq c151_8 c151_9
def c151_11 : ACode := .seq c151_4 c151_10
def c151_12 : ACode := .seq c151_3 c151_11
def c151_13 : ACode := .keep [1, 2, 3, 5] [1, 2, 3] c151_12
def c151_14 : ACode := .loop c151_13
def c151_15 : ACode := .block 0 c151_14
def c151_16 : ACode := .seq c151_2 c151_15
def c151_17 : ACode := .ops [⟨some 15, .load 4 true (.t 3), none, [3]⟩,
  ⟨none, .store (.t 2) 4 (.t 15), none, [2]⟩] [2]
def c151_18 : ACode := .seq c151_17 .ret
def c151_19 : ACode := .seq c151_16 c151_18
def c151_20 : ACode := .seq c151_1 c151_19
def c151_21 : ACode := .seq c151_0 c151_20
def a151 : AFun := ⟨1, 16, c151_21, [.cell 2 4 true]⟩
theorem m151 : mFun Try.prog Try.f151 a151 = true := by decide +kernel
def c174_0 : ACode := .ops [⟨some 4, .mv (.c (.int .i64 0)), none, []⟩] [0, 1]
def c174_1 : ACode := .ops [⟨some 6, .mv (.t 0), none, []⟩,
  ⟨some 7, .len (.t 6), none, []⟩,
  ⟨some 8, .mv (.c (.int .i64 0)), none, []⟩] [0, 1, 7, 8]
def c174_2 : ACode := .ops [⟨some 9, .bin .lss (.t 8) (.t 7), none, []⟩] [0, 1, 7, 8, 9]
def c174_3 : ACode := .cond (.t 9) .skip (.exit 0)
def c174_4 : ACode := .ops [⟨some 10, .mv (.t 8), none, []⟩,
  ⟨some 5, .mv (.t 10), none, []⟩] [0, 1, 5, 7, 8]
def c174_5 : ACode := .ops [⟨some 11, .mv (.t 1), none, []⟩,
  ⟨some 12, .mv (.t 0), none, []⟩,
  ⟨some 13, .mv (.t 5), none, []⟩,
  ⟨some 14, .ias (.t 12) (.t 13) 10, none, []⟩,
  ⟨some 15, .load 10 true (.t 14), none, []⟩,
  ⟨some 16, .dyn (.t 11) [.t 15], none, []⟩] [0, 1, 5, 7, 8, 16]
def c174_6 : ACode := .ops [⟨some 17, .mv (.t 5), none, []⟩,
  ⟨some 4, .mv (.t 17), none, []⟩] [4]
def c174_7 : ACode := .seq c174_6 .ret
def c174_8 : ACode := .cond (.t 16) c174_7 .skip
def c174_9 : ACode := .seq c174_5 c174_8
def c174_10 : ACode := .seq c174_4 c174_9
def c174_11 : ACode := .block 1 c174_10
def c174_12 : ACode := .ops [⟨some 18, .bin .add (.t 8) (.c (.int .i64 1)), none, []⟩,
  ⟨some 8, .mv (.t 18), none, []⟩] [0, 1, 7, 8]
def c174_13 : ACode := .seq c174_11 c174_12
def c174_14 : ACode := .seq c174_3 c174_13
def c174_15 : ACode := .seq c174_2 c174_14
def c174_16 : ACode := .keep [0, 1, 7, 8] [] c174_15
def c174_17 : ACode := .loop c174_16
def c174_18 : ACode := .block 0 c174_17
def c174_19 : ACode := .seq c174_1 c174_18
def c174_20 : ACode := .ops [⟨some 4, .mv (.c (.int .i64 (-1))), none, []⟩] [4]
def c174_21 : ACode := .seq c174_20 .ret
def c174_22 : ACode := .seq c174_19 c174_21
def c174_23 : ACode := .seq c174_0 c174_22
def a174 : AFun := ⟨2, 19, c174_23, [.t 4]⟩
theorem m174 : mFun Try.prog Try.f174 a174 = true := by decide +kernel
def texts37 : List (Nat × AFun) := [(37, a37), (43, a43), (56, a56), (57, a57), (58, a58), (64, a64), (67, a67), (69, a69), (71, a71), (76, a76), (77, a77), (83, a83), (96, a96), (99, a99), (100, a100), (101, a101), (102, a102), (103, a103), (111, a111), (115, a115), (116, a116), (117, a117), (118, a118), (119, a119), (120, a120), (121, a121), (122, a122), (123, a123), (124, a124), (125, a125), (128, a128), (129, a129), (130, a130), (131, a131), (148, a148), (149, a149), (150, a150), (151, a151), (152, a152), (153, a153), (154, a154), (156, a156), (158, a158), (159, a159), (160, a160), (161, a161), (162, a162), (163, a163), (164, a164), (165, a165), (174, a174), (175, a175), (176, a176)]
theorem texts37_good : Go.Am.Good Try.prog texts37 :=
  good_cons Try.func37 m37 <| good_cons Try.func43 m43 <| good_cons Try.func56 m56 <| good_cons Try.func57 m57 <| good_cons Try.func58 m58 <| good_cons Try.func64 m64 <| good_cons Try.func67 m67 <| good_cons Try.func69 m69 <| good_cons Try.func71 m71 <| good_cons Try.func76 m76 <| good_cons Try.func77 m77 <| good_cons Try.func83 m83 <| good_cons Try.func96 m96 <| good_cons Try.func99 m99 <| good_cons Try.func100 m100 <| good_cons Try.func101 m101 <| good_cons Try.func102 m102 <| good_cons Try.func103 m103 <| good_cons Try.func111 m111 <| good_cons Try.func115 m115 <| good_cons Try.func116 m116 <| good_cons Try.func117 m117 <| good_cons Try.func118 m118 <| good_cons Try.func119 m119 <| good_cons Try.func120 m120 <| good_cons Try.func121 m121 <| good_cons Try.func122 m122 <| good_cons Try.func123 m123 <| good_cons Try.func124 m124 <| good_cons Try.func125 m125 <| good_cons Try.func128 m128 <| good_cons Try.func129 m129 <| good_cons Try.func130 m130 <| good_cons Try.func131 m131 <| good_cons Try.func148 m148 <| good_cons Try.func149 m149 <| good_cons Try.func150 m150 <| good_cons Try.func151 m151 <| good_cons Try.func152 m152 <| good_cons Try.func153 m153 <| good_cons Try.func154 m154 <| good_cons Try.func156 m156 <| good_cons Try.func158 m158 <| good_cons Try.func159 m159 <| good_cons Try.func160 m160 <| good_cons Try.func161 m161 <| good_cons Try.func162 m162 <| good_cons Try.func163 m163 <| good_cons Try.func164 m164 <| good_cons Try.func165 m165 <| good_cons Try.func174 m174 <| good_cons Try.func175 m175 <| good_cons Try.func176 m176 <| good_nil
theorem c_closed37 : Contract Try.prog 37 (sp0 (some true)) := contract_closedG mixed texts37_good lib (NW := fun f => if f = 96 then some 5 else if f = 127 then some 10001 else none) (m := 2000) (n := 80) (by decide +kernel)
@[simp high] theorem rd_spanlo (b : Box) (k : Int) (h0 : 0 ≤ k) (h : k < 5) : rd [.int .i64 b.s0.lo, .int .i64 b.s0.hi, .int .i64 b.s1.lo, .int .i64 b.s1.hi, .int .i64 b.s2.lo, .int .i64 b.s2.hi, .int .i64 b.s3.lo, .int .i64 b.s3.hi, .int .i64 b.s4.lo, .int .i64 b.s4.hi] (k.toNat * 2) 1 false = some (.int .i64 (b.get k).lo) := by
  have hf : k = 0 ∨ k = 1 ∨ k = 2 ∨ k = 3 ∨ k = 4 := by omega
  rcases hf with rfl | rfl | rfl | rfl | rfl <;> rfl
@[simp high] theorem rd_spanhi (b : Box) (k : Int) (h0 : 0 ≤ k) (h : k < 5) : rd [.int .i64 b.s0.lo, .int .i64 b.s0.hi, .int .i64 b.s1.lo, .int .i64 b.s1.hi, .int .i64 b.s2.lo, .int .i64 b.s2.hi, .int .i64 b.s3.lo, .int .i64 b.s3.hi, .int .i64 b.s4.lo, .int .i64 b.s4.hi] (k.toNat * 2 + 1) 1 false = some (.int .i64 (b.get k).hi) := by
  have hf : k = 0 ∨ k = 1 ∨ k = 2 ∨ k = 3 ∨ k = 4 := by omega
  rcases hf with rfl | rfl | rfl | rfl | rfl <;> rfl
set_option maxHeartbeats 4000000 in
set_option maxRecDepth 100000 in
theorem runs_law (f : Forest) (a : Ask) (place at_ : Int) (l : List Int) (c : Bool) (h : some true = some c) : Runs (tbl [(45, sp1 ModelC), (59, sp2 QueryC), (63, sp3 Within), (58, sp1 fun q => some (startOf q)), (100, sp4 CountC), (67, sp3 CutB), (68, sp1 fun (b : Box) => some b.empty), (66, sp2 InsideC), (37, sp0 (some true))]) a40 [Arg.enc f, Arg.enc a, Arg.enc place, Arg.enc at_, Arg.enc l] (Arg.enc c) := by
  cases h
  refine ⟨rfl, fun g => run_def ?_⟩
  unfold a40
  have hm := rm_modelOf f
  have hM : ModelC f = some (modelOf f) := rfl
  generalize modelOf f = m at *
  have hQ : QueryC a m = some (queryOf m a) := part_of ⟨hm.dim.1, hm.dim.2, hm.classes.1, hm.classes.2⟩ _
  have hd := hm.dim
  have wd : IntKind.i64.wrap (m.dim - 1) = m.dim - 1 := wrap64 (by omega) (by omega)
  have hW := within_of place 0 (m.dim - 1) (by omega)
  have hw := within_le place 0 (m.dim - 1) (by omega)
  generalize within place 0 (m.dim - 1) = k at *
  obtain ⟨hsm, hok, hne⟩ := start_facts m a
  have hSt : startOf (queryOf m a) = startOf (queryOf m a) := rfl
  generalize hbq : startOf (queryOf m a) = b at hSt hsm hok hne
  have hSt : startOf (queryOf m a) = b := hbq
  generalize queryOf m a = q at *
  have hC : ∀ (x : Box) (n : Int), CountC m q x n = some (if countM m q x ≤ n then (countM m q x, true) else (0, false)) := fun x n => part_of hm _
  have hC0 := hC b 600
  by_cases h6 : countM m q b ≤ 600
  case neg =>
    rw [if_neg h6] at hC0
    simp -implicitDefEqProofs [hM, hQ, hSt, hC0]
  rw [if_pos h6] at hC0
  have k0 : 0 ≤ k := hw.1
  have k5 : k < 5 := by omega
  have sg := get_small hsm k
  have hl := get_spans hne k
  unfold small at sg
  have hWa := within_of at_ (b.get k).lo (b.get k).hi (by omega)
  have hwa := within_le at_ (b.get k).lo (b.get k).hi (by omega)
  generalize within at_ (b.get k).lo (b.get k).hi = n at *
  have hCu := cutB_of hok k (n := n) (by unfold ok64; omega)
  obtain ⟨d1, d2, d3⟩ := count_cut hm q hne k0 k5 hwa.1 hwa.2
  generalize cutB b k n = z at *
  obtain ⟨x, y⟩ := z
  simp only at d1 d2 d3
  have hCx := hC x 600
  rw [if_pos (by omega)] at hCx
  have hCy := hC y 600
  have hI : InsideC b l = some (insideOf b l) := part_of ⟨hsm.1, hsm.2.1, hsm.2.2.1, hsm.2.2.2.1⟩ _
  generalize insideOf b l = p at *
  have hC1 := hC ⟨⟨p.p0, p.p0⟩, ⟨p.p1, p.p1⟩, ⟨p.p2, p.p2⟩, ⟨p.p3, p.p3⟩, ⟨b.s4.lo, b.s4.lo⟩⟩ 1
  rw [count_one, if_pos (by omega)] at hC1
  have hCn := hC b 0
  have px := count_pos hm q x
  have pb := count_pos hm q b
  rw [if_neg (by omega)] at hCn
  cases hy : y.empty
  case true =>
    have d2 := d2 hy
    have e1 : ¬ countM m q b < countM m q x := by omega
    have e2 : ¬ countM m q b < 0 := by omega
    have e3 : ¬ countM m q x < countM m q b := by omega
    have w1 : IntKind.i64.wrap (countM m q x) = countM m q x := wrap64 (by omega) (by omega)
    simp -implicitDefEqProofs [hM, hQ, hSt, hC0, wd, hW, k0, k5, hWa, hCu, hCx, hy, e1, e2, e3, w1, hI, run_round, hC1, hCn]
  case false =>
    have d3 := d3 hy
    have py := count_pos hm q y
    rw [if_pos (by omega)] at hCy
    have e1 : ¬ countM m q b < countM m q x := by omega
    have e2 : ¬ countM m q b < countM m q y := by omega
    have e3 : ¬ countM m q x + countM m q y < countM m q b := by omega
    have w1 : IntKind.i64.wrap (countM m q x + countM m q y) = countM m q x + countM m q y := wrap64 (by omega) (by omega)
    simp -implicitDefEqProofs [hM, hQ, hSt, hC0, wd, hW, k0, k5, hWa, hCu, hCx, hCy, hy, e1, e2, e3, w1, hI, run_round, hC1, hCn]
noncomputable def law_sp : List AV → Option AV := sp5 fun (_ : Forest) (_ : Ask) (_ _ : Int) (_ : List Int) => some true
theorem law_holds : Contract Try.prog 40 law_sp :=
  contract_of_runs mixed (tbl_cons c_Model (tbl_cons c_Query (tbl_cons c_Within (tbl_cons c_Start (tbl_cons c_Count (tbl_cons c_bCut (tbl_cons c_bEmpty (tbl_cons c_Inside (tbl_cons c_closed37 tbl_nil))))))))) Try.func40 m40 (sp5_runs runs_law)
theorem law_says (f : Forest) (a : Ask) (x y : Int) (l : List Int) : law_sp [Arg.enc f, Arg.enc a, Arg.enc x, Arg.enc y, Arg.enc l] = some (.bool true) := by
  simp only [law_sp, sp5, Arg.dec_enc, Option.bind_some]
  rfl
end Go.Co
