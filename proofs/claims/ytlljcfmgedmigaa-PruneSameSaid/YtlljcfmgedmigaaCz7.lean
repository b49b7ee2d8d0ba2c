/- CO: texts of this claim, one behind the other. -/
import Derived.Test.YtlljcfmgedmigaaCz6
import Derived.Test.YtlljcfmgedmigaaCz5
/- CO: what of a tree a box needs. -/
set_option maxHeartbeats 16000000
set_option maxRecDepth 100000
namespace Go.Co
open Go.Am Go.Proofs
set_option linter.unusedSimpArgs false
set_option linter.unusedVariables false
attribute [-simp] Go.Am.eff_gcall
def c50_0 : ACode := .ops [⟨some 5, .box (.t 2) 10, none, []⟩,⟨some 6, .mv (.c (.int .i64 0)), none, []⟩] [0, 1, 5]
theorem r50_0 : type_of% (@rr _ _ c50_0.eq_1) := rr rfl
def c50_1 : ACode := .ops [⟨some 13, .mv (.t 0), none, []⟩,⟨some 14, .chk (.t 13), none, [0]⟩,⟨some 15, .fad (.t 14) 0, none, [0]⟩,⟨some 16, .load 1 false (.t 15), none, [0]⟩,⟨some 17, .mv (.t 1), none, []⟩,⟨some 18, .ias (.t 16) (.t 17) 1, none, [1, 10001]⟩,⟨some 19, .load 1 false (.t 18), none, [1, 10001]⟩,⟨some 20, .call 15 [.t 19], none, []⟩,⟨some 12, .mv (.t 20), none, []⟩,⟨some 21, .ext (.t 12) 0, none, []⟩,⟨some 22, .ext (.t 12) 1, none, []⟩,⟨some 7, .alloc [.bool false, .int .i64 0, .int .i64 0, .int .i64 0, .int .i64 0, .int .i64 0], none, []⟩,⟨none, .store (.t 7) 6 (.t 21), none, [7]⟩,⟨some 8, .mv (.t 22), none, []⟩] [0, 1, 5, 7]
theorem r50_1 : type_of% (@rr _ _ c50_1.eq_1) := rr rfl
def c50_2 : ACode := .ops [⟨some 23, .fad (.t 7) 0, none, [7]⟩,⟨some 24, .load 1 false (.t 23), none, [7]⟩] [0, 1, 5, 7, 24]
theorem r50_2 : type_of% (@rr _ _ c50_2.eq_1) := rr rfl
def c50_3 : ACode := .ops [⟨some 25, .mv (.t 0), none, []⟩,⟨some 26, .mv (.t 0), none, []⟩,⟨some 27, .chk (.t 26), none, [0]⟩,⟨some 28, .fad (.t 27) 1, none, [0]⟩,⟨some 29, .load 1 false (.t 28), none, [0]⟩,⟨some 30, .mv (.t 0), none, []⟩,⟨some 31, .chk (.t 30), none, [0]⟩,⟨some 32, .fad (.t 31) 0, none, [0]⟩,⟨some 33, .load 1 false (.t 32), none, [0]⟩,⟨some 34, .mv (.t 1), none, []⟩,⟨some 35, .ias (.t 33) (.t 34) 1, none, [1, 10001]⟩,⟨some 36, .load 1 false (.t 35), none, [1, 10001]⟩,⟨some 37, .mkrow 37 1 1 [.int .u64 0] [(0, 1, .t 36)], none, []⟩,⟨some 38, .app 10001 [1, 10001] (.t 29) (.t 37) 1, none, [1, 37, 10001]⟩,⟨some 39, .chk (.t 25), none, [0]⟩,⟨some 40, .fad (.t 39) 1, none, [0]⟩,⟨none, .store (.t 40) 1 (.t 38), none, [0]⟩] [0]
theorem r50_3 : type_of% (@rr _ _ c50_3.eq_1) := rr rfl
def c50_4 : ACode := .ops [⟨some 41, .mv (.t 0), none, []⟩,⟨some 42, .chk (.t 41), none, [0]⟩,⟨some 43, .fad (.t 42) 1, none, [0]⟩,⟨some 44, .load 1 false (.t 43), none, [0]⟩,⟨some 45, .len (.t 44), none, [1, 10001]⟩,⟨some 46, .bin .sub (.t 45) (.c (.int .i64 1)), none, []⟩,⟨some 6, .mv (.t 46), none, []⟩] [6]
theorem r50_4 : type_of% (@rr _ _ c50_4.eq_1) := rr rfl
def c50_5 : ACode := .seq c50_4 .ret
theorem r50_5 : type_of% (@rr _ _ c50_5.eq_1) := rr rfl
def c50_6 : ACode := .seq c50_3 c50_5
theorem r50_6 : type_of% (@rr _ _ c50_6.eq_1) := rr rfl
def c50_7 : ACode := .cond (.t 24) c50_6 .skip
theorem r50_7 : type_of% (@rr _ _ c50_7.eq_1) := rr rfl
def c50_8 : ACode := .seq c50_2 c50_7
theorem r50_8 : type_of% (@rr _ _ c50_8.eq_1) := rr rfl
def c50_9 : ACode := .ops [⟨some 48, .load 10 true (.t 5), none, [5]⟩,⟨some 49, .fad (.t 7) 2, none, [7]⟩,⟨some 50, .load 1 false (.t 49), none, [7]⟩,⟨some 51, .fad (.t 7) 3, none, [7]⟩,⟨some 52, .load 1 false (.t 51), none, [7]⟩,⟨some 53, .call 63 [.t 48, .t 50, .t 52], none, []⟩,⟨some 47, .mv (.t 53), none, []⟩,⟨some 54, .ext (.t 47) 0, none, []⟩,⟨some 55, .ext (.t 47) 1, none, []⟩,⟨some 9, .alloc [.int .i64 0, .int .i64 0, .int .i64 0, .int .i64 0, .int .i64 0, .int .i64 0, .int .i64 0, .int .i64 0, .int .i64 0, .int .i64 0], none, []⟩,⟨some 10, .alloc [.int .i64 0, .int .i64 0, .int .i64 0, .int .i64 0, .int .i64 0, .int .i64 0, .int .i64 0, .int .i64 0, .int .i64 0, .int .i64 0], none, []⟩,⟨none, .store (.t 9) 10 (.t 54), none, [9]⟩,⟨none, .store (.t 10) 10 (.t 55), none, [10]⟩] [0, 7, 9, 10]
theorem r50_9 : type_of% (@rr _ _ c50_9.eq_1) := rr rfl
def c50_10 : ACode := .ops [⟨some 57, .load 10 true (.t 9), none, [9]⟩,⟨some 58, .call 49 [.t 57], none, []⟩,⟨some 56, .mv (.t 58), none, []⟩] [0, 7, 9, 10, 56]
theorem r50_10 : type_of% (@rr _ _ c50_10.eq_1) := rr rfl
def c50_11 : ACode := .ops [⟨some 59, .mv (.t 0), none, []⟩,⟨some 60, .fad (.t 7) 5, none, [7]⟩,⟨some 61, .load 1 false (.t 60), none, [7]⟩,⟨some 62, .load 10 true (.t 10), none, [10]⟩,⟨some 63, .gcall 50 [.t 59, .t 61, .t 62] [0, 1] 10001, none, [0, 1, 10001]⟩,⟨some 6, .mv (.t 63), none, []⟩] [6]
theorem r50_11 : type_of% (@rr _ _ c50_11.eq_1) := rr rfl
def c50_12 : ACode := .seq c50_11 .ret
theorem r50_12 : type_of% (@rr _ _ c50_12.eq_1) := rr rfl
def c50_13 : ACode := .ops [⟨some 65, .load 10 true (.t 10), none, [10]⟩,⟨some 66, .call 49 [.t 65], none, []⟩,⟨some 64, .mv (.t 66), none, []⟩] [0, 7, 9, 10, 64]
theorem r50_13 : type_of% (@rr _ _ c50_13.eq_1) := rr rfl
def c50_14 : ACode := .ops [⟨some 67, .mv (.t 0), none, []⟩,⟨some 68, .fad (.t 7) 4, none, [7]⟩,⟨some 69, .load 1 false (.t 68), none, [7]⟩,⟨some 70, .load 10 true (.t 9), none, [9]⟩,⟨some 71, .gcall 50 [.t 67, .t 69, .t 70] [0, 1] 10001, none, [0, 1, 10001]⟩,⟨some 6, .mv (.t 71), none, []⟩] [6]
theorem r50_14 : type_of% (@rr _ _ c50_14.eq_1) := rr rfl
def c50_15 : ACode := .seq c50_14 .ret
theorem r50_15 : type_of% (@rr _ _ c50_15.eq_1) := rr rfl
def c50_16 : ACode := .cond (.t 64) c50_15 .skip
theorem r50_16 : type_of% (@rr _ _ c50_16.eq_1) := rr rfl
def c50_17 : ACode := .seq c50_13 c50_16
theorem r50_17 : type_of% (@rr _ _ c50_17.eq_1) := rr rfl
def c50_18 : ACode := .cond (.t 56) c50_12 c50_17
theorem r50_18 : type_of% (@rr _ _ c50_18.eq_1) := rr rfl
def c50_19 : ACode := .seq c50_10 c50_18
theorem r50_19 : type_of% (@rr _ _ c50_19.eq_1) := rr rfl
def c50_20 : ACode := .block 0 c50_19
theorem r50_20 : type_of% (@rr _ _ c50_20.eq_1) := rr rfl
def c50_21 : ACode := .ops [⟨some 72, .mv (.t 0), none, []⟩,⟨some 73, .chk (.t 72), none, [0]⟩,⟨some 74, .fad (.t 73) 1, none, [0]⟩,⟨some 75, .load 1 false (.t 74), none, [0]⟩,⟨some 76, .len (.t 75), none, [1, 10001]⟩,⟨some 11, .mv (.t 76), none, []⟩] [0, 7, 9, 10, 11]
theorem r50_21 : type_of% (@rr _ _ c50_21.eq_1) := rr rfl
def c50_22 : ACode := .ops [⟨some 77, .mv (.t 0), none, []⟩,⟨some 78, .mv (.t 0), none, []⟩,⟨some 79, .chk (.t 78), none, [0]⟩,⟨some 80, .fad (.t 79) 1, none, [0]⟩,⟨some 81, .load 1 false (.t 80), none, [0]⟩,⟨some 82, .mkrow 82 1 1 [.int .u64 0] [(0, 1, .c (.int .u64 0))], none, []⟩,⟨some 83, .app 10001 [1, 10001] (.t 81) (.t 82) 1, none, [1, 82, 10001]⟩,⟨some 84, .chk (.t 77), none, [0]⟩,⟨some 85, .fad (.t 84) 1, none, [0]⟩,⟨none, .store (.t 85) 1 (.t 83), none, [0]⟩] [0, 7, 9, 10, 11]
theorem r50_22 : type_of% (@rr _ _ c50_22.eq_1) := rr rfl
def c50_23 : ACode := .ops [⟨some 86, .mv (.t 0), none, []⟩,⟨some 87, .fad (.t 7) 4, none, [7]⟩,⟨some 88, .load 1 false (.t 87), none, [7]⟩,⟨some 89, .load 10 true (.t 9), none, [9]⟩,⟨some 90, .gcall 50 [.t 86, .t 88, .t 89] [0, 10001] 10001, none, [0, 1, 10001]⟩,⟨some 91, .fad (.t 7) 4, none, [7]⟩,⟨none, .store (.t 91) 1 (.t 90), none, [7]⟩] [0, 7, 10, 11]
theorem r50_23 : type_of% (@rr _ _ c50_23.eq_1) := rr rfl
def c50_24 : ACode := .ops [⟨some 92, .mv (.t 0), none, []⟩,⟨some 93, .fad (.t 7) 5, none, [7]⟩,⟨some 94, .load 1 false (.t 93), none, [7]⟩,⟨some 95, .load 10 true (.t 10), none, [10]⟩,⟨some 96, .gcall 50 [.t 92, .t 94, .t 95] [0, 10001] 10001, none, [0, 1, 10001]⟩,⟨some 97, .fad (.t 7) 5, none, [7]⟩,⟨none, .store (.t 97) 1 (.t 96), none, [7]⟩] [0, 7, 11]
theorem r50_24 : type_of% (@rr _ _ c50_24.eq_1) := rr rfl
def c50_25 : ACode := .ops [⟨some 98, .mv (.t 0), none, []⟩,⟨some 99, .chk (.t 98), none, [0]⟩,⟨some 100, .fad (.t 99) 1, none, [0]⟩,⟨some 101, .load 1 false (.t 100), none, [0]⟩,⟨some 102, .mv (.t 11), none, []⟩,⟨some 103, .load 6 true (.t 7), none, [7]⟩,⟨some 104, .call 55 [.t 103], none, []⟩,⟨some 105, .ias (.t 101) (.t 102) 1, none, [1, 10001]⟩,⟨none, .store (.t 105) 1 (.t 104), none, [1, 10001]⟩] [11]
theorem r50_25 : type_of% (@rr _ _ c50_25.eq_1) := rr rfl
def c50_26 : ACode := .ops [⟨some 106, .mv (.t 11), none, []⟩,⟨some 6, .mv (.t 106), none, []⟩] [6]
theorem r50_26 : type_of% (@rr _ _ c50_26.eq_1) := rr rfl
def c50_27 : ACode := .seq c50_26 .ret
theorem r50_27 : type_of% (@rr _ _ c50_27.eq_1) := rr rfl
def c50_28 : ACode := .seq c50_25 c50_27
theorem r50_28 : type_of% (@rr _ _ c50_28.eq_1) := rr rfl
def c50_29 : ACode := .seq c50_24 c50_28
theorem r50_29 : type_of% (@rr _ _ c50_29.eq_1) := rr rfl
def c50_30 : ACode := .seq c50_23 c50_29
theorem r50_30 : type_of% (@rr _ _ c50_30.eq_1) := rr rfl
def c50_31 : ACode := .seq c50_22 c50_30
theorem r50_31 : type_of% (@rr _ _ c50_31.eq_1) := rr rfl
def c50_32 : ACode := .seq c50_21 c50_31
theorem r50_32 : type_of% (@rr _ _ c50_32.eq_1) := rr rfl
def c50_33 : ACode := .seq c50_20 c50_32
theorem r50_33 : type_of% (@rr _ _ c50_33.eq_1) := rr rfl
def c50_34 : ACode := .seq c50_9 c50_33
theorem r50_34 : type_of% (@rr _ _ c50_34.eq_1) := rr rfl
def c50_35 : ACode := .seq c50_8 c50_34
theorem r50_35 : type_of% (@rr _ _ c50_35.eq_1) := rr rfl
def c50_36 : ACode := .seq c50_1 c50_35
theorem r50_36 : type_of% (@rr _ _ c50_36.eq_1) := rr rfl
def c50_37 : ACode := .seq c50_0 c50_36
theorem r50_37 : type_of% (@rr _ _ c50_37.eq_1) := rr rfl
def a50 : AFun := ⟨3, 107, c50_37, [.t 6]⟩
attribute [simp] r50_0 r50_1 r50_2 r50_3 r50_4 r50_5 r50_6 r50_7 r50_8 r50_9 r50_10 r50_11 r50_12 r50_13 r50_14 r50_15 r50_16 r50_17 r50_18 r50_19 r50_20 r50_21 r50_22 r50_23 r50_24 r50_25 r50_26 r50_27 r50_28 r50_29 r50_30 r50_31 r50_32 r50_33 r50_34 r50_35 r50_36 r50_37
theorem m50 : mFun Try.prog Try.f50 a50 = true := by decide +kernel
def c12_0 : ACode := .ops [⟨some 3, .box (.t 1) 10, none, []⟩,⟨some 4, .mv (.c (.nils)), none, []⟩] [0, 3]
theorem r12_0 : type_of% (@rr _ _ c12_0.eq_1) := rr rfl
def c12_1 : ACode := .ops [⟨some 6, .mv (.t 0), none, []⟩,⟨some 7, .call 14 [.t 6, .c (.int .i64 4)], none, []⟩,⟨some 8, .un .not (.t 7), none, []⟩,⟨some 9, .mv (.t 8), none, []⟩,⟨some 10, .load 10 true (.t 3), some (9, false), [3]⟩,⟨some 11, .call 49 [.t 10], some (9, false), []⟩,⟨some 12, .pick (.t 9) (.c (.bool true)) (.t 11), none, []⟩] [0, 3, 12]
theorem r12_1 : type_of% (@rr _ _ c12_1.eq_1) := rr rfl
def c12_2 : ACode := .ops [⟨some 4, .mv (.c (.nils)), none, []⟩] [4]
theorem r12_2 : type_of% (@rr _ _ c12_2.eq_1) := rr rfl
def c12_3 : ACode := .seq c12_2 .ret
theorem r12_3 : type_of% (@rr _ _ c12_3.eq_1) := rr rfl
def c12_4 : ACode := .cond (.t 12) c12_3 .skip
theorem r12_4 : type_of% (@rr _ _ c12_4.eq_1) := rr rfl
def c12_5 : ACode := .seq c12_1 c12_4
theorem r12_5 : type_of% (@rr _ _ c12_5.eq_1) := rr rfl
def c12_6 : ACode := .ops [⟨some 13, .mv (.t 0), none, []⟩,⟨some 14, .build [.nils, .nils] [(0, 1, .t 13)], none, []⟩,⟨some 15, .box (.t 14) 2, none, []⟩,⟨some 5, .mv (.t 15), none, []⟩] [3, 5]
theorem r12_6 : type_of% (@rr _ _ c12_6.eq_1) := rr rfl
def c12_7 : ACode := .ops [⟨some 16, .mv (.t 5), none, []⟩,⟨some 17, .load 10 true (.t 3), none, [3]⟩,⟨some 18, .gcall 50 [.t 16, .c (.int .i64 0), .t 17] [15, 18] 18, none, [15, 18]⟩] [5]
theorem r12_7 : type_of% (@rr _ _ c12_7.eq_1) := rr rfl
def c12_8 : ACode := .ops [⟨some 19, .mv (.t 5), none, []⟩,⟨some 20, .chk (.t 19), none, [15]⟩,⟨some 21, .fad (.t 20) 1, none, [15]⟩,⟨some 22, .load 1 false (.t 21), none, [15]⟩,⟨some 4, .mv (.t 22), none, []⟩] [4]
theorem r12_8 : type_of% (@rr _ _ c12_8.eq_1) := rr rfl
def c12_9 : ACode := .seq c12_8 .ret
theorem r12_9 : type_of% (@rr _ _ c12_9.eq_1) := rr rfl
def c12_10 : ACode := .seq c12_7 c12_9
theorem r12_10 : type_of% (@rr _ _ c12_10.eq_1) := rr rfl
def c12_11 : ACode := .seq c12_6 c12_10
theorem r12_11 : type_of% (@rr _ _ c12_11.eq_1) := rr rfl
def c12_12 : ACode := .seq c12_5 c12_11
theorem r12_12 : type_of% (@rr _ _ c12_12.eq_1) := rr rfl
def c12_13 : ACode := .seq c12_0 c12_12
theorem r12_13 : type_of% (@rr _ _ c12_13.eq_1) := rr rfl
def a12 : AFun := ⟨2, 23, c12_13, [.t 4]⟩
attribute [simp] r12_0 r12_1 r12_2 r12_3 r12_4 r12_5 r12_6 r12_7 r12_8 r12_9 r12_10 r12_11 r12_12 r12_13
theorem m12 : mFun Try.prog Try.f12 a12 = true := by decide +kernel
def c17_0 : ACode := .ops [⟨some 2, .box (.t 0) 6, none, []⟩,⟨some 3, .box (.t 1) 10, none, []⟩,⟨some 4, .alloc [.int .i64 0, .int .i64 0, .int .i64 0, .int .i64 0, .int .i64 0, .nils], none, []⟩] [2, 3, 4]
theorem r17_0 : type_of% (@rr _ _ c17_0.eq_1) := rr rfl
def c17_1 : ACode := .ops [⟨some 8, .load 6 true (.t 2), none, [2]⟩,⟨some 9, .call 26 [.t 8], none, [10205]⟩,⟨some 10, .un .not (.t 9), none, []⟩,⟨some 11, .mv (.t 10), none, []⟩,⟨some 12, .load 10 true (.t 3), some (11, false), [3]⟩,⟨some 13, .call 49 [.t 12], some (11, false), []⟩,⟨some 14, .pick (.t 11) (.c (.bool true)) (.t 13), none, []⟩] [2, 3, 4, 14]
theorem r17_1 : type_of% (@rr _ _ c17_1.eq_1) := rr rfl
def c17_2 : ACode := .ops [⟨some 15, .build [.int .i64 0, .int .i64 0, .int .i64 0, .int .i64 0, .int .i64 0, .nils] [], none, []⟩,⟨none, .store (.t 4) 6 (.t 15), none, [4]⟩] [4]
theorem r17_2 : type_of% (@rr _ _ c17_2.eq_1) := rr rfl
def c17_3 : ACode := .seq c17_2 .ret
theorem r17_3 : type_of% (@rr _ _ c17_3.eq_1) := rr rfl
def c17_4 : ACode := .cond (.t 14) c17_3 .skip
theorem r17_4 : type_of% (@rr _ _ c17_4.eq_1) := rr rfl
def c17_5 : ACode := .seq c17_1 c17_4
theorem r17_5 : type_of% (@rr _ _ c17_5.eq_1) := rr rfl
def c17_6 : ACode := .ops [⟨some 16, .fad (.t 2) 5, none, [2]⟩,⟨some 17, .load 1 false (.t 16), none, [2]⟩,⟨some 5, .mv (.t 17), none, []⟩] [2, 3, 4, 5]
theorem r17_6 : type_of% (@rr _ _ c17_6.eq_1) := rr rfl
def c17_7 : ACode := .ops [⟨some 18, .fad (.t 2) 5, none, [2]⟩,⟨none, .store (.t 18) 1 (.c (.nils)), none, [2]⟩] [2, 3, 4, 5]
theorem r17_7 : type_of% (@rr _ _ c17_7.eq_1) := rr rfl
def c17_8 : ACode := .ops [⟨some 19, .mv (.t 5), none, []⟩,⟨some 20, .len (.t 19), none, [10205]⟩,⟨some 21, .mv (.c (.int .i64 0)), none, []⟩] [2, 3, 4, 19, 20, 21]
theorem r17_8 : type_of% (@rr _ _ c17_8.eq_1) := rr rfl
def c17_9 : ACode := .ops [⟨some 22, .bin .lss (.t 21) (.t 20), none, []⟩] [2, 3, 4, 19, 20, 21, 22]
theorem r17_9 : type_of% (@rr _ _ c17_9.eq_1) := rr rfl
def c17_10 : ACode := .cond (.t 22) .skip (.exit 0)
theorem r17_10 : type_of% (@rr _ _ c17_10.eq_1) := rr rfl
def c17_11 : ACode := .ops [⟨some 23, .ias (.t 19) (.t 21) 2, none, [10205]⟩,⟨some 24, .load 2 true (.t 23), none, [10205]⟩,⟨some 7, .alloc [.int .i64 0, .nils], none, []⟩,⟨none, .store (.t 7) 2 (.t 24), none, [7]⟩] [2, 3, 4, 7, 19, 20, 21]
theorem r17_11 : type_of% (@rr _ _ c17_11.eq_1) := rr rfl
def c17_12 : ACode := .ops [⟨some 25, .fad (.t 2) 5, none, [2]⟩,⟨some 26, .load 1 false (.t 25), none, [2]⟩,⟨some 27, .fad (.t 7) 0, none, [7]⟩,⟨some 28, .load 1 false (.t 27), none, [7]⟩,⟨some 29, .fad (.t 7) 1, none, [7]⟩,⟨some 30, .load 1 false (.t 29), none, [7]⟩,⟨some 31, .load 10 true (.t 3), none, [3]⟩,⟨some 32, .call 12 [.t 30, .t 31], none, []⟩,⟨some 33, .build [.int .i64 0, .nils] [(0, 1, .t 28), (1, 1, .t 32)], none, []⟩,⟨some 34, .mkrow 34 1 2 [.int .i64 0, .nils] [(0, 2, .t 33)], none, []⟩,⟨some 35, .app 10205 [10205] (.t 26) (.t 34) 2, none, [34, 10205]⟩,⟨some 36, .fad (.t 2) 5, none, [2]⟩,⟨none, .store (.t 36) 1 (.t 35), none, [2]⟩] [2, 3, 4, 19, 20, 21]
theorem r17_12 : type_of% (@rr _ _ c17_12.eq_1) := rr rfl
def c17_13 : ACode := .seq c17_11 c17_12
theorem r17_13 : type_of% (@rr _ _ c17_13.eq_1) := rr rfl
def c17_14 : ACode := .block 1 c17_13
theorem r17_14 : type_of% (@rr _ _ c17_14.eq_1) := rr rfl
def c17_15 : ACode := .ops [⟨some 37, .bin .add (.t 21) (.c (.int .i64 1)), none, []⟩,⟨some 21, .mv (.t 37), none, []⟩] [2, 3, 4, 19, 20, 21]
theorem r17_15 : type_of% (@rr _ _ c17_15.eq_1) := rr rfl
def c17_16 : ACode := .seq c17_14 c17_15
theorem r17_16 : type_of% (@rr _ _ c17_16.eq_1) := rr rfl
def c17_17 : ACode := .seq c17_10 c17_16
theorem r17_17 : type_of% (@rr _ _ c17_17.eq_1) := rr rfl
def c17_18 : ACode := .seq c17_9 c17_17
theorem r17_18 : type_of% (@rr _ _ c17_18.eq_1) := rr rfl
def c17_19 : ACode := .keep [2, 3, 4, 19, 20, 21] [2, 3, 4, 10205] c17_18
theorem r17_19 : type_of% (@rr _ _ c17_19.eq_1) := rr rfl
def c17_20 : ACode := .loop c17_19
theorem r17_20 : type_of% (@rr _ _ c17_20.eq_1) := rr rfl
def c17_21 : ACode := .block 0 c17_20
theorem r17_21 : type_of% (@rr _ _ c17_21.eq_1) := rr rfl
def c17_22 : ACode := .seq c17_8 c17_21
theorem r17_22 : type_of% (@rr _ _ c17_22.eq_1) := rr rfl
def c17_23 : ACode := .ops [⟨some 38, .load 6 true (.t 2), none, [2]⟩,⟨none, .store (.t 4) 6 (.t 38), none, [4]⟩] [4]
theorem r17_23 : type_of% (@rr _ _ c17_23.eq_1) := rr rfl
def c17_24 : ACode := .seq c17_23 .ret
theorem r17_24 : type_of% (@rr _ _ c17_24.eq_1) := rr rfl
def c17_25 : ACode := .seq c17_22 c17_24
theorem r17_25 : type_of% (@rr _ _ c17_25.eq_1) := rr rfl
def c17_26 : ACode := .seq c17_7 c17_25
theorem r17_26 : type_of% (@rr _ _ c17_26.eq_1) := rr rfl
def c17_27 : ACode := .seq c17_6 c17_26
theorem r17_27 : type_of% (@rr _ _ c17_27.eq_1) := rr rfl
def c17_28 : ACode := .seq c17_5 c17_27
theorem r17_28 : type_of% (@rr _ _ c17_28.eq_1) := rr rfl
def c17_29 : ACode := .seq c17_0 c17_28
theorem r17_29 : type_of% (@rr _ _ c17_29.eq_1) := rr rfl
def a17 : AFun := ⟨2, 39, c17_29, [.cell 4 6 true]⟩
attribute [simp] r17_0 r17_1 r17_2 r17_3 r17_4 r17_5 r17_6 r17_7 r17_8 r17_9 r17_10 r17_11 r17_12 r17_13 r17_14 r17_15 r17_16 r17_17 r17_18 r17_19 r17_20 r17_21 r17_22 r17_23 r17_24 r17_25 r17_26 r17_27 r17_28 r17_29
theorem m17 : mFun Try.prog Try.f17 a17 = true := by decide +kernel
def wdAt (l : List Word) (i : Nat) : Word := l.getD i default
theorem wdAt_lt {l : List Word} {i : Nat} (h : i < l.length) : wdAt l i = l[i] := by unfold wdAt; simp [h]
def stayN (old : List Word) : Nat → Int → Box → List Word → Option (Int × List Word)
  | 0, _, _, _ => none
  | n + 1, at_, b, out =>
    if 0 ≤ at_ ∧ at_ < old.length then
      if (ndAt old at_.toNat).leaf then some ((out.length : Int), out ++ [wdAt old at_.toNat]) else
      if (cutB b (ndAt old at_.toNat).feature (ndAt old at_.toNat).cut).1.empty then stayN old n (ndAt old at_.toNat).right (cutB b (ndAt old at_.toNat).feature (ndAt old at_.toNat).cut).2 out else
      if (cutB b (ndAt old at_.toNat).feature (ndAt old at_.toNat).cut).2.empty then stayN old n (ndAt old at_.toNat).left (cutB b (ndAt old at_.toNat).feature (ndAt old at_.toNat).cut).1 out else
      (stayN old n (ndAt old at_.toNat).left (cutB b (ndAt old at_.toNat).feature (ndAt old at_.toNat).cut).1 (out ++ [⟨0⟩])).bind fun p =>
      (stayN old n (ndAt old at_.toNat).right (cutB b (ndAt old at_.toNat).feature (ndAt old at_.toNat).cut).2 p.2).bind fun r =>
      some ((out.length : Int), r.2.set out.length (pack { ndAt old at_.toNat with left := p.1, right := r.1 }))
    else none
theorem stayN_len {old : List Word} : ∀ (n : Nat) (at_ : Int) (b : Box) (out : List Word) (k : Int) (out' : List Word), stayN old n at_ b out = some (k, out') → k = out.length ∧ out.length < out'.length
  | 0, at_, b, out, k, out', h => by cases h
  | n + 1, at_, b, out, k, out', h => by
    unfold stayN at h
    split at h
    · split at h
      · cases h; simp
      · split at h
        · exact stayN_len n _ _ _ _ _ h
        · split at h
          · exact stayN_len n _ _ _ _ _ h
          · rw [Option.bind_eq_some_iff] at h
            obtain ⟨⟨k1, o1⟩, h1, h⟩ := h
            rw [Option.bind_eq_some_iff] at h
            obtain ⟨⟨k2, o2⟩, h2, h⟩ := h
            have g1 := stayN_len n _ _ _ _ _ h1
            have g2 := stayN_len n _ _ _ _ _ h2
            cases h
            simp at g1 ⊢
            simp only at g2
            omega
    · cases h
def outOf : AV → Hp → Option (List Word)
  | .nils, [] => some []
  | .own 1 0 0 n, [(1, ⟨cs, false, 1⟩)] => (Arg.dec (.lst n cs) : Option (List Word))
  | _, _ => none
open Classical in
noncomputable def stayG (n : Nat) : GSp := fun args h => match args, h with
  | [.ptr 0 0 0, .int .i64 at_, x], (0, ⟨[y, o], false, 0⟩) :: hx => (Arg.dec x : Option Box).bind fun b => (Arg.dec y : Option (List Word)).bind fun old => (outOf o hx).bind fun out => (stayN old n at_ b out).bind fun p =>
    if RT old 4 ∧ okB b ∧ p.2.length ≤ 1099511627776 then some (.int .i64 p.1, [(0, ⟨[.lst old.length (encL old), .own 2 0 0 p.2.length], false, 0⟩), (2, ⟨encL p.2, false, 1⟩)]) else none
  | _, _ => none
noncomputable abbrev prT (n : Nat) : Cs := tbl [(15, sp1 Unpack), (63, sp3 CutB), (49, sp1 fun (b : Box) => some b.empty), (55, sp1 fun n => some (pack n)), (1000000 + 50, gspec (stayG n))]
inductive OutV (out : List Word) : AV → Hp → Prop
  | nil : out = [] → OutV out .nils []
  | own : OutV out (.own 1 0 0 out.length) [(1, ⟨encL out, false, 1⟩)]
theorem stayG_of {old : List Word} (hr : RT old 4) {n : Nat} {at_ : Int} {b : Box} (hb : okB b) {out : List Word} {k : Int} {out' : List Word} (hs : stayN old n at_ b out = some (k, out')) (hl : out'.length ≤ 1099511627776) {o : AV} {hx : Hp} (ho : OutV out o hx) :
    stayG n [.ptr 0 0 0, .int .i64 at_, Arg.enc b] ((0, ⟨[.lst old.length (encL old), o], false, 0⟩) :: hx) = some (.int .i64 k, [(0, ⟨[.lst old.length (encL old), .own 2 0 0 out'.length], false, 0⟩), (2, ⟨encL out', false, 1⟩)]) := by
  have h1 : (Arg.dec (.lst old.length (encL old)) : Option (List Word)) = some old := dec_lst old
  have h2 : outOf o hx = some out := by
    cases ho with
    | nil h => subst h; rfl
    | own => exact dec_lst out
  unfold stayG
  simp only [Arg.dec_enc, h1, h2, Option.bind_some, hs]
  rw [if_pos ⟨hr, hb, hl⟩]
theorem run_stay (old : List Word) (hr : RT old 4) (n : Nat) (at_ : Int) (b : Box) (hb : okB b) (out : List Word) (k : Int) (out' : List Word) (hs : stayN old (n + 1) at_ b out = some (k, out')) (hl : out'.length ≤ 1099511627776) (o : AV) (hx : Hp) (ho : OutV out o hx) :
    run (prT n) a50.code [] ⟨argEnv 0 [.ptr 0 0 0, .int .i64 at_, Arg.enc b], (0, ⟨[.lst old.length (encL old), o], false, 0⟩) :: hx, fun _ => 0⟩ (gfinN a50.res true (some 10001) (.int .i64 k) [(0, ⟨[.lst old.length (encL old), .own 2 0 0 out'.length], false, 0⟩), (2, ⟨encL out', false, 1⟩)]) := by
  have hlen := stayN_len _ _ _ _ _ _ hs
  unfold a50
  unfold stayN at hs
  split at hs
  case isFalse => cases hs
  rename_i hat
  obtain ⟨i, rfl⟩ : ∃ i : Nat, at_ = i := ⟨at_.toNat, by omega⟩
  have hi : i < old.length := by omega
  have ei : ((i : Nat) : Int).toNat = i := by omega
  rw [ei] at hs
  have hU := unpack_at hr hi
  rw [wdAt_lt hi] at hs
  have b1 : old.length ≤ maxN := by have := hr.le; unfold maxN; omega
  have hp1 : (encL old).all AV.plain = true := encL_plain old
  cases hlf : (ndAt old i).leaf
  case true =>
    rw [hlf] at hs
    simp only [if_true, Option.some.injEq, Prod.mk.injEq] at hs
    obtain ⟨rfl, rfl⟩ := hs
    have e1 : encL (out ++ [old[i]]) = encL out ++ [.int .u64 old[i].v] := by rw [encL_append]; rfl
    have c1 : out.length ≤ 1099511627775 := by simp at hl; omega
    have c2 : out.length ≤ 9223372036854775806 := by omega
    have hl2 : (encL out).length = out.length := by have : (encL out).length = out.length * 1 := encL_length out; omega
    have htk : List.take out.length (encL out) = encL out := by rw [← hl2, List.take_length]
    have w0 : IntKind.i64.wrap (out.length : Int) = out.length := wrap64 (by omega) (by omega)
    rw [e1]
    have hp2 : (encL out).all AV.plain = true := encL_plain out
    cases ho with
    | nil h0 =>
      subst h0
      simp -implicitDefEqProofs [hi, rd_words, hU, hlf, encL_nil]
    | own =>
      have hp3 : (encL out ++ [AV.int .u64 old[i].v]).all AV.plain = true := by rw [List.all_append, hp2]; rfl
      have c3 : out.length + 1 ≤ maxN := by unfold maxN; omega
      generalize hX : encL out ++ [AV.int .u64 old[i].v] = X at *
      simp -implicitDefEqProofs [hi, rd_words, hU, hlf, c1, c2, c3, hl2, htk, w0, hX, mapM1_nrm hp3]
  case false =>
    have hf := hr.feature hi hlf
    have hct := ok64_fits (hr.cutOk hi)
    have hok2 := okB_cut hb (ndAt old i).feature hct
    have hCu := cutB_of hb (ndAt old i).feature hct
    rw [hlf] at hs
    simp only [Bool.false_eq_true, if_false] at hs
    generalize cutB b (ndAt old i).feature (ndAt old i).cut = xy at *
    obtain ⟨x, y⟩ := xy
    simp only at hs hok2
    generalize ndAt old i = d at *
    obtain ⟨lf, val, ft, ct, lt, rt⟩ := d
    simp only at hlf hs hCu
    subst hlf
    have hpo : (encL out).all AV.plain = true := encL_plain out
    have hpo' : (encL out').all AV.plain = true := encL_plain out'
    have hmu : ∀ gm, mapM1 (up1 gm) (encL out') = some (encL out') := fun gm => mapM1_up hpo'
    cases he1 : x.empty
    case true =>
      rw [he1, if_pos rfl] at hs
      have hG := stayG_of hr hok2.2 hs hl ho
      simp only [enc_Box] at hG
      cases ho with
      | nil h0 =>
        subst h0
        simp -implicitDefEqProofs [hi, rd_words, hU, hCu, he1, hG, hmu, mapM1_nrm hpo']
      | own =>
        simp -implicitDefEqProofs [hi, rd_words, hU, hCu, he1, hG, hmu, mapM1_nrm hpo', mapM1_nrm hpo]
    case false =>
      rw [he1] at hs
      simp only [Bool.false_eq_true, if_false] at hs
      cases he2 : y.empty
      case true =>
        rw [he2, if_pos rfl] at hs
        have hG := stayG_of hr hok2.1 hs hl ho
        simp only [enc_Box] at hG
        cases ho with
        | nil h0 =>
          subst h0
          simp -implicitDefEqProofs [hi, rd_words, hU, hCu, he1, he2, hG, hmu, mapM1_nrm hpo']
        | own =>
          simp -implicitDefEqProofs [hi, rd_words, hU, hCu, he1, he2, hG, hmu, mapM1_nrm hpo', mapM1_nrm hpo]
      case false =>
        rw [he2] at hs
        simp only [Bool.false_eq_true, if_false] at hs
        rw [Option.bind_eq_some_iff] at hs
        obtain ⟨⟨k1, o1⟩, hs1, hs⟩ := hs
        rw [Option.bind_eq_some_iff] at hs
        obtain ⟨⟨k2, o2⟩, hs2, hs⟩ := hs
        simp only [Option.some.injEq, Prod.mk.injEq] at hs hs2
        obtain ⟨rfl, rfl⟩ := hs
        have g1 := stayN_len _ _ _ _ _ _ hs1
        have g2 := stayN_len _ _ _ _ _ _ hs2
        rw [List.length_set] at hl
        rw [List.length_append, List.length_singleton] at g1
        have ho1 : OutV (out ++ [⟨0⟩]) (.own 1 0 0 (out ++ [(⟨0⟩ : Word)]).length) [(1, ⟨encL (out ++ [(⟨0⟩ : Word)]), false, 1⟩)] := .own
        have hG1 := stayG_of hr hok2.1 hs1 (by omega) ho1
        have hG2 := stayG_of hr hok2.2 hs2 hl .own
        have e1 : encL (out ++ [(⟨0⟩ : Word)]) = encL out ++ [.int .u64 0] := by rw [encL_append]; rfl
        rw [e1, List.length_append, List.length_singleton] at hG1
        simp only [enc_Box] at hG1 hG2
        have hp1 : (encL out ++ [AV.int .u64 0]).all AV.plain = true := by rw [List.all_append, hpo]; rfl
        have hq1 : (encL o1).all AV.plain = true := encL_plain o1
        have hq2 : (encL o2).all AV.plain = true := encL_plain o2
        have hm1 : ∀ gm, mapM1 (up1 gm) (encL o1) = some (encL o1) := fun gm => mapM1_up hq1
        have hm2 : ∀ gm, mapM1 (up1 gm) (encL o2) = some (encL o2) := fun gm => mapM1_up hq2
        have c1 : out.length ≤ 1099511627775 := by omega
        have c2 : out.length ≤ maxN := by unfold maxN; omega
        have c3 : out.length < o2.length := by omega
        have hl2 : (encL out).length = out.length := by have : (encL out).length = out.length * 1 := encL_length out; omega
        have hl3 : (encL o2).length = o2.length := by have : (encL o2).length = o2.length * 1 := encL_length o2; omega
        have htk : List.take out.length (encL out) = encL out := by rw [← hl2, List.take_length]
        have hwr : wr (encL o2) out.length [.int .u64 (pack ⟨false, val, ft, ct, k1, k2⟩).v] = encL (o2.set out.length (pack ⟨false, val, ft, ct, k1, k2⟩)) := by
          have := wr_row o2 out.length c3 (pack ⟨false, val, ft, ct, k1, k2⟩)
          simpa using this
        have hDn : (Arg.dec (.agg [.bool false, .int .i64 val, .int .i64 ft, .int .i64 ct, .int .i64 k1, .int .i64 k2]) : Option Node) = some ⟨false, val, ft, ct, k1, k2⟩ := Arg.dec_enc (⟨false, val, ft, ct, k1, k2⟩ : Node)
        have hpk : ∀ w : Word, (Arg.enc w) = .int .u64 w.v := fun w => rfl
        have hq3 : (encL (o2.set out.length (pack ⟨false, val, ft, ct, k1, k2⟩))).all AV.plain = true := encL_plain _
        have c5 : out.length + 1 ≤ o2.length := c3
        generalize hX : encL out ++ [AV.int .u64 0] = X at *
        have c4 : X.length = out.length + 1 := by rw [← hX]; simp [hl2]
        cases ho with
        | nil h0 =>
          subst h0
          have hX' : X = [.int .u64 0] := by rw [← hX]; rfl
          rw [hX'] at hG1 hp1
          simp only [List.length_nil, Nat.zero_add] at hG1 hwr hq3 c3 c5
          simp -implicitDefEqProofs [hi, rd_words, hU, hCu, he1, he2, hG1, hG2, hm1, hm2, mapM1_nrm hp1, mapM1_nrm hq1, mapM1_nrm hq2, mapM1_nrm hq3, hDn, hl3, c3, c5, hwr]
        | own =>
          simp -implicitDefEqProofs [hi, rd_words, hU, hCu, he1, he2, hG1, hG2, hm1, hm2, mapM1_nrm hp1, mapM1_nrm hq1, mapM1_nrm hq2, hDn, c1, c2, c3, c5, hl2, hl3, htk, hX, hwr, mapM1_nrm hq3]
theorem outV_of {o : AV} {hx : Hp} {out : List Word} (h : outOf o hx = some out) : OutV out o hx := by
  unfold outOf at h
  split at h
  · cases h; exact .nil rfl
  · have := Arg.enc_dec _ _ h
    have e : Arg.enc out = .lst out.length (encL out) := rfl
    rw [e] at this
    injection this with h1 h2
    subst h1
    subst h2
    exact .own
  · cases h
theorem c_stay : ∀ n, Contract Try.prog (gBase + 50) (gspec (stayG n))
  | 0 => gcontractN (C := tbl [(15, sp1 Unpack), (63, sp3 CutB), (49, sp1 fun (b : Box) => some b.empty), (55, sp1 fun n => some (pack n))]) mixed (tbl_cons c_Unpack (tbl_cons c_bCut (tbl_cons c_bEmpty (tbl_cons c_Pack tbl_nil)))) Try.func50 m50 fun args h r h' hs => by
      unfold stayG at hs
      split at hs
      · rw [Option.bind_eq_some_iff] at hs
        obtain ⟨b, hb, hs⟩ := hs
        rw [Option.bind_eq_some_iff] at hs
        obtain ⟨old, ho, hs⟩ := hs
        rw [Option.bind_eq_some_iff] at hs
        obtain ⟨out, hu, hs⟩ := hs
        cases hs
      · cases hs
  | n + 1 => gcontractN (C := prT n) mixed (tbl_cons c_Unpack (tbl_cons c_bCut (tbl_cons c_bEmpty (tbl_cons c_Pack (tbl_cons (c_stay n) tbl_nil))))) Try.func50 m50 fun args h r h' hs => by
      unfold stayG at hs
      split at hs
      · rw [Option.bind_eq_some_iff] at hs
        obtain ⟨b, hb, hs⟩ := hs
        rw [Option.bind_eq_some_iff] at hs
        obtain ⟨old, ho, hs⟩ := hs
        rw [Option.bind_eq_some_iff] at hs
        obtain ⟨out, hu, hs⟩ := hs
        rw [Option.bind_eq_some_iff] at hs
        obtain ⟨⟨k, out'⟩, hst, hs⟩ := hs
        split at hs
        · rename_i hc
          simp only [Option.some.injEq, Prod.mk.injEq] at hs
          obtain ⟨rfl, rfl⟩ := hs
          obtain rfl := Arg.enc_dec _ _ hb
          obtain rfl := Arg.enc_dec _ _ ho
          exact ⟨rfl, true, _, run_stay old hc.1 n _ b hc.2.1 out k out' hst hc.2.2 _ _ (outV_of hu)⟩
        · cases hs
      · cases hs
theorem stayN_some {old : List Word} {d : Int} (hr : RT old d) : ∀ (n i : Nat) (b : Box) (out : List Word), i < old.length → old.length ≤ i + n → ∃ k out', stayN old n i b out = some (k, out') ∧ out'.length + 1 ≤ out.length + 2 ^ n
  | 0, i, b, out, hi, hn => by omega
  | n + 1, i, b, out, hi, hn => by
    unfold stayN
    have ei : ((i : Nat) : Int).toNat = i := by omega
    rw [if_pos ⟨by omega, by omega⟩, ei]
    have hp : 1 ≤ 2 ^ n := Nat.one_le_two_pow
    have hp2 : 2 ^ (n + 1) = 2 ^ n + 2 ^ n := by rw [Nat.pow_succ]; omega
    cases hl : (ndAt old i).leaf
    case true => exact ⟨_, _, rfl, by simp; omega⟩
    case false =>
      simp only [Bool.false_eq_true, if_false]
      have hin := hr.inner i hi (by rw [← ndAt_lt hi]; exact hl)
      rw [← ndAt_lt hi] at hin
      obtain ⟨_, _, l1, l2, r1, r2⟩ := hin
      obtain ⟨lt, hlt⟩ : ∃ lt : Nat, (ndAt old i).left = lt := ⟨(ndAt old i).left.toNat, by omega⟩
      obtain ⟨rt, hrt⟩ : ∃ rt : Nat, (ndAt old i).right = rt := ⟨(ndAt old i).right.toNat, by omega⟩
      rw [hlt] at l1 l2 ⊢
      rw [hrt] at r1 r2 ⊢
      split
      · obtain ⟨k, o, h1, h2⟩ := stayN_some hr n rt (cutB b (ndAt old i).feature (ndAt old i).cut).2 out (by omega) (by omega)
        exact ⟨k, o, h1, by omega⟩
      · split
        · obtain ⟨k, o, h1, h2⟩ := stayN_some hr n lt (cutB b (ndAt old i).feature (ndAt old i).cut).1 out (by omega) (by omega)
          exact ⟨k, o, h1, by omega⟩
        · obtain ⟨k, o, h1, h2⟩ := stayN_some hr n lt (cutB b (ndAt old i).feature (ndAt old i).cut).1 (out ++ [⟨0⟩]) (by omega) (by omega)
          obtain ⟨k', o', h3, h4⟩ := stayN_some hr n rt (cutB b (ndAt old i).feature (ndAt old i).cut).2 o (by omega) (by omega)
          rw [h1]
          simp only [Option.bind_some]
          rw [h3]
          simp only [Option.bind_some]
          have hg := stayN_len _ _ _ _ _ _ h1
          refine ⟨_, _, rfl, ?_⟩
          rw [List.length_set]
          simp at h2 hg
          omega
def pruneT (l : List Word) (b : Box) : List Word := match stayN l 31 0 b [] with
  | some p => p.2
  | none => []
noncomputable def PruneC (l : List Word) (b : Box) : Option (List Word) := Part ((okL l ∧ l.length ≤ maxN) ∧ (RT l 4 → okB b)) (if rightT l 4 && !b.empty then pruneT l b else [])
theorem runs_prTree (l : List Word) (b : Box) (r : List Word) (h : PruneC l b = some r) : Runs (tbl [(14, sp2 TreeRightT), (49, sp1 fun (b : Box) => some b.empty), (1000000 + 50, gspec (stayG 31))]) a12 [Arg.enc l, Arg.enc b] (Arg.enc r) := by
  obtain ⟨⟨hw, hb⟩, rfl⟩ := part_some h
  clear h
  refine ⟨rfl, fun g => run_def ?_⟩
  unfold a12
  have hT : TreeRightT l 4 = some (rightT l 4) := part_of hw _
  cases ht : rightT l 4
  case false =>
    rw [ht] at hT
    simp -implicitDefEqProofs [hT, encL_nil]
  case true =>
    rw [ht] at hT
    have hr := rightT_true.1 ht
    cases he : b.empty
    case true => simp -implicitDefEqProofs [hT, he, encL_nil]
    case false =>
      obtain ⟨k, out, h1, h2⟩ := stayN_some hr 31 0 b [] hr.pos (by have := hr.le; omega)
      have h1 : stayN l 31 0 b [] = some (k, out) := h1
      have hG := stayG_of hr (hb hr) h1 (by simp at h2; omega) (.nil rfl)
      have hp : pruneT l b = out := by unfold pruneT; rw [h1]
      have hpo : (encL out).all AV.plain = true := encL_plain out
      have hm : ∀ gm, mapM1 (up1 gm) (encL out) = some (encL out) := fun gm => mapM1_up hpo
      have hl2 : (encL out).length = out.length := by have : (encL out).length = out.length * 1 := encL_length out; omega
      have htk : List.take out.length (encL out) = encL out := by rw [← hl2, List.take_length]
      simp only [enc_Box] at hG
      simp -implicitDefEqProofs [hT, he, hG, hp, hm, hl2, htk]
theorem c_prTree : Contract Try.prog 12 (sp2 PruneC) :=
  contract_of_runs mixed (tbl_cons c_tRightT (tbl_cons c_bEmpty (tbl_cons (c_stay 31) tbl_nil))) Try.func12 m12 (sp2_runs runs_prTree)
end Go.Co
/- CO: what of a model a box needs. -/
set_option maxHeartbeats 16000000
set_option maxRecDepth 100000
namespace Go.Co
open Go.Am Go.Proofs
set_option linter.unusedSimpArgs false
set_option linter.unusedVariables false
attribute [-simp] Go.Am.eff_gcall
def prF (b : Box) (t : Tree) : Tree := ⟨t.cls, pruneT t.nodes b⟩
def pruneM (m : Model) (b : Box) : Model := { m with trees := m.trees.map (prF b) }
noncomputable def PrModelC (m : Model) (b : Box) : Option Model := Part (RM m ∧ okB b) (if b.empty then ⟨0, 0, ⟨0, 0, 0⟩, []⟩ else pruneM m b)
theorem map_take {α β : Type} (f : α → β) (l : List α) (i : Nat) (h : i < l.length) : (l.take (i + 1)).map f = (l.take i).map f ++ [f l[i]] := by
  rw [List.take_succ_eq_append_getElem h, List.map_append]
  rfl
theorem okL_of {l : List Word} {d : Int} (h : RT l d) : okL l ∧ l.length ≤ maxN := by
  refine ⟨fun w hw => ?_, by have := h.le; unfold maxN; omega⟩
  obtain ⟨i, hi, rfl⟩ := List.getElem_of_mem hw
  exact (h.ok i hi).1
theorem runs_prModel (m : Model) (b : Box) (r : Model) (h : PrModelC m b = some r) : Runs (tbl [(26, sp1 MRight), (49, sp1 fun (b : Box) => some b.empty), (12, sp2 PruneC)]) a17 [Arg.enc m, Arg.enc b] (Arg.enc r) := by
  obtain ⟨⟨hm, hb⟩, rfl⟩ := part_some h
  clear h
  refine ⟨rfl, fun g => run_def ?_⟩
  unfold a17
  have hR : MRight m = some true := by unfold MRight; rw [if_neg (by have := hm.dim; omega)]; exact part_of hm _
  cases he : b.empty
  case true => simp -implicitDefEqProofs [hR, he, encL_nil]
  case false =>
    have hle := hm.trees
    have b3 : m.trees.length ≤ maxN := by unfold maxN; omega
    have hP : ∀ (i : Nat) (h : i < m.trees.length), PruneC m.trees[i].nodes b = some (pruneT m.trees[i].nodes b) := fun i h => by
      have hr := hm.rt (List.getElem_mem h)
      have h4 := hr.four
      unfold PruneC
      rw [part_of ⟨okL_of hr, fun _ => hb⟩, rightT_true.2 h4, he]
      rfl
    have hpm : Arg.enc (pruneM m b) = .agg [.int .i64 m.dim, .int .i64 m.classes, .int .i64 m.bias.b0, .int .i64 m.bias.b1, .int .i64 m.bias.b2, .lst (m.trees.map (prF b)).length (encL (m.trees.map (prF b)))] := rfl
    simp only [Bool.false_eq_true, if_false, hpm]
    simp -implicitDefEqProofs [hR, he, b3]
    refine run_while (c := c17_18) (fun n s => ∃ (i : Nat) (V : AV) (hx : Hp) (g : Nat → Nat), i + n = m.trees.length ∧ ((i = 0 ∧ V = .nils ∧ hx = []) ∨ (i ≠ 0 ∧ V = .own 10205 (g 10205) 0 i ∧ hx = [(10205, ⟨encL ((m.trees.map (prF b)).take i), false, 2⟩)])) ∧
      s = ⟨[(2, .ptr 2 (g 2) 0), (3, .ptr 3 (g 3) 0), (4, .ptr 4 (g 4) 0), (19, .lst m.trees.length (encL m.trees)), (20, .int .i64 m.trees.length), (21, .int .i64 i)], (2, ⟨[.int .i64 m.dim, .int .i64 m.classes, .int .i64 m.bias.b0, .int .i64 m.bias.b1, .int .i64 m.bias.b2, V], false, 0⟩) :: (3, ⟨Row.enc b, false, 0⟩) :: (4, ⟨[.int .i64 0, .int .i64 0, .int .i64 0, .int .i64 0, .int .i64 0, .nils], false, 0⟩) :: hx, g⟩) m.trees.length ⟨0, .nils, [], bump 4 (bump 3 (bump 2 g)), by omega, .inl ⟨rfl, rfl, rfl⟩, by simp⟩ ?_
    rintro n s ⟨i, V, hx, g, hi, hV, rfl⟩
    have hL : ((m.trees.map (prF b)).take i).length = i := by simp; omega
    have c5 : i * 2 ≤ (encL ((m.trees.map (prF b)).take i)).length := by rw [encL_length, hL]; exact Nat.le_refl _
    have htk : List.take (i * 2) (encL ((m.trees.map (prF b)).take i)) = encL ((m.trees.map (prF b)).take i) := take_rows _ _ (by rw [hL]; exact Nat.le_refl _)
    by_cases h1 : i < m.trees.length
    case pos =>
      have w1 : IntKind.i64.wrap ((i : Int) + 1) = (i : Int) + 1 := wrap64 (by omega) (by omega)
      have hrow := rd_tree m.trees i h1
      have hPi := hP i h1
      have c3 : i ≤ 1099511627775 := by omega
      have hE : encL ((m.trees.map (prF b)).take (i + 1)) = encL ((m.trees.map (prF b)).take i) ++ [.int .i64 m.trees[i].cls, .lst (pruneT m.trees[i].nodes b).length (encL (pruneT m.trees[i].nodes b))] := by
        rw [List.take_succ_eq_append_getElem (show i < (m.trees.map (prF b)).length by simpa using h1), encL_append, List.getElem_map]
        rfl
      rcases hV with ⟨rfl, rfl, rfl⟩ | ⟨hi0, rfl, rfl⟩
      · simp -implicitDefEqProofs [h1, hrow, hPi, w1]
        refine ⟨n - 1, by omega, 1, by omega, _, _, _, .inr ⟨by omega, ?_, ?_⟩, ⟨?_, ?_, ?_, by omega⟩, ⟨rfl, rfl⟩, rfl⟩
        · simp
        · rw [hE]; rfl
        all_goals simp
      · simp -implicitDefEqProofs [h1, hrow, hPi, w1, c3, c5, htk]
        refine ⟨n - 1, by omega, i + 1, by omega, _, _, _, .inr ⟨by omega, ?_, ?_⟩, ⟨?_, ?_, ?_, by omega⟩, ⟨rfl, rfl⟩, rfl⟩
        · simp
        · rw [hE]
        all_goals simp
    case neg =>
      have hil : i = m.trees.length := by omega
      have hT : (m.trees.map (prF b)).take i = m.trees.map (prF b) := List.take_of_length_le (by simp; omega)
      rw [hT] at c5 htk hV
      have hLm : (m.trees.map (prF b)).length = i := by simp; omega
      rcases hV with ⟨rfl, rfl, rfl⟩ | ⟨hi0, rfl, rfl⟩
      · have h0 : m.trees = [] := List.length_eq_zero_iff.1 (by omega)
        simp -implicitDefEqProofs [h1, h0, encL_nil]
      · simp -implicitDefEqProofs [h1, c5, htk, hLm]
        exact hil
theorem c_prModel : Contract Try.prog 17 (sp2 PrModelC) :=
  contract_of_runs mixed (tbl_cons c_mRight (tbl_cons c_bEmpty (tbl_cons c_prTree tbl_nil))) Try.func17 m17 (sp2_runs runs_prModel)
end Go.Co
/- CO: a pruned tree's nodes stand in the order in which they are gone through. -/
namespace Go.Co
open Go.Am Go.Proofs
set_option linter.unusedSimpArgs false
set_option linter.unusedVariables false
inductive PT
  | leaf (n : Node)
  | node (f c : Int) (l r : PT)
def PT.size : PT → Nat
  | .leaf _ => 1
  | .node _ _ l r => 1 + l.size + r.size
def PT.ser : PT → Nat → List Node
  | .leaf n, _ => [n]
  | .node f c l r, o => ⟨false, 0, f, c, ((o + 1 : Nat) : Int), ((o + 1 + l.size : Nat) : Int)⟩ :: (l.ser (o + 1) ++ r.ser (o + 1 + l.size))
def PT.ok (dim : Int) : PT → Prop
  | .leaf n => n.leaf = true ∧ rightNode n = true
  | .node f c l r => 0 ≤ f ∧ f < dim ∧ f < 4 ∧ fits c = true ∧ l.ok dim ∧ r.ok dim
theorem PT.pos : ∀ p : PT, 1 ≤ p.size
  | .leaf _ => by simp [PT.size]
  | .node _ _ l r => by simp only [PT.size]; omega
theorem ser_len : ∀ (p : PT) (o : Nat), (p.ser o).length = p.size
  | .leaf _, _ => rfl
  | .node _ _ l r, o => by
    simp only [PT.ser, PT.size, List.length_cons, List.length_append, ser_len l, ser_len r]
    omega
theorem ser_right {dim : Int} : ∀ (p : PT) (o : Nat), p.ok dim → o + p.size ≤ 31 → ∀ n ∈ p.ser o, rightNode n = true
  | .leaf n, o, h, _, x, hx => by
    simp only [PT.ser, List.mem_singleton] at hx
    subst hx
    exact h.2
  | .node f c l r, o, h, hs, x, hx => by
    obtain ⟨h1, h2, h3, h4, h5, h6⟩ := h
    have pl := l.pos
    have pr := r.pos
    simp only [PT.size] at hs
    simp only [PT.ser, List.mem_cons, List.mem_append] at hx
    rcases hx with rfl | hx | hx
    · unfold rightNode
      simp only [Bool.false_eq_true, if_false, Bool.and_eq_true, decide_eq_true_eq]
      refine ⟨⟨⟨⟨⟨⟨⟨trivial, h1⟩, h3⟩, h4⟩, ?_⟩, ?_⟩, ?_⟩, ?_⟩ <;> omega
    · exact ser_right l (o + 1) h5 (by omega) x hx
    · exact ser_right r (o + 1 + l.size) h6 (by omega) x hx
theorem ser_inner {dim : Int} : ∀ (p : PT) (o : Nat), p.ok dim → ∀ (i : Nat) (hi : i < (p.ser o).length), (p.ser o)[i].leaf = false →
    (p.ser o)[i].feature < dim ∧ (p.ser o)[i].left = ((o + i + 1 : Nat) : Int) ∧ (p.ser o)[i].left < (p.ser o)[i].right ∧ (p.ser o)[i].right < ((o + p.size : Nat) : Int)
  | .leaf n, o, h, i, hi, hl => by
    simp only [PT.ser, List.length_singleton] at hi
    have : i = 0 := by omega
    subst this
    simp only [PT.ser, List.getElem_cons_zero] at hl
    rw [h.1] at hl
    cases hl
  | .node f c l r, o, h, i, hi, hl => by
    obtain ⟨h1, h2, h3, h4, h5, h6⟩ := h
    have pl := l.pos
    have pr := r.pos
    have ll := ser_len l (o + 1)
    have lr := ser_len r (o + 1 + l.size)
    simp only [PT.ser] at hi hl ⊢
    simp only [PT.size]
    cases i with
    | zero =>
      simp only [List.getElem_cons_zero]
      refine ⟨h2, ?_, ?_, ?_⟩ <;> (try dsimp only) <;> omega
    | succ i =>
      simp only [List.length_cons, List.length_append] at hi
      simp only [List.getElem_cons_succ] at hl ⊢
      by_cases hi2 : i < (l.ser (o + 1)).length
      · rw [List.getElem_append_left hi2] at hl ⊢
        have := ser_inner l (o + 1) h5 i hi2 hl
        refine ⟨this.1, by omega, this.2.2.1, by omega⟩
      · rw [List.getElem_append_right (by omega)] at hl ⊢
        have hi3 : i - (l.ser (o + 1)).length < (r.ser (o + 1 + l.size)).length := by omega
        have := ser_inner r (o + 1 + l.size) h6 (i - (l.ser (o + 1)).length) hi3 hl
        refine ⟨this.1, by omega, this.2.2.1, by omega⟩
theorem ser_once {dim : Int} : ∀ (p : PT) (o : Nat), p.ok dim → ∀ j : Nat, (p.ser o).countP (fun n => names n j) = if o < j ∧ j < o + p.size then 1 else 0
  | .leaf n, o, h, j => by
    have hz : (PT.leaf n).size = 1 := rfl
    have hs : (PT.leaf n).ser o = [n] := rfl
    rw [hz, hs, if_neg (by omega)]
    simp [names, h.1]
  | .node f c l r, o, h, j => by
    obtain ⟨h1, h2, h3, h4, h5, h6⟩ := h
    have pl := l.pos
    have pr := r.pos
    have hz : (PT.node f c l r).size = 1 + l.size + r.size := rfl
    have hs : (PT.node f c l r).ser o = ⟨false, 0, f, c, ((o + 1 : Nat) : Int), ((o + 1 + l.size : Nat) : Int)⟩ :: (l.ser (o + 1) ++ r.ser (o + 1 + l.size)) := rfl
    have e : names ⟨false, 0, f, c, ((o + 1 : Nat) : Int), ((o + 1 + l.size : Nat) : Int)⟩ j = (decide (j = o + 1) || decide (j = o + 1 + l.size)) := by
      unfold names
      simp only [Bool.not_false, Bool.true_and]
      congr 1 <;> (apply decide_eq_decide.2; omega)
    rw [hz, hs, List.countP_cons, List.countP_append, ser_once l (o + 1) h5 j, ser_once r (o + 1 + l.size) h6 j, e]
    simp only [Bool.or_eq_true, decide_eq_true_eq]
    repeat' split
    all_goals omega
theorem ser_nt {dim : Int} {p : PT} (h : p.ok dim) (hs : p.size ≤ 31) : NT (p.ser 0) dim where
  ok := ser_right p 0 h (by omega)
  pos := by rw [ser_len]; exact p.pos
  le := by rw [ser_len]; exact hs
  inner i hi hl := by
    have := ser_inner p 0 h i hi hl
    rw [ser_len]
    refine ⟨this.1, by omega, by omega, by omega, by omega, by omega⟩
  once j h1 h2 := by
    rw [ser_len] at h2
    rw [ser_once p 0 h j, if_pos (by omega)]
def prPT (old : List Word) : Nat → Nat → Box → PT
  | 0, i, _ => .leaf (ndAt old i)
  | n + 1, i, b =>
    if (ndAt old i).leaf then .leaf (ndAt old i) else
    if (cutB b (ndAt old i).feature (ndAt old i).cut).1.empty then prPT old n (ndAt old i).right.toNat (cutB b (ndAt old i).feature (ndAt old i).cut).2 else
    if (cutB b (ndAt old i).feature (ndAt old i).cut).2.empty then prPT old n (ndAt old i).left.toNat (cutB b (ndAt old i).feature (ndAt old i).cut).1 else
    .node (ndAt old i).feature (ndAt old i).cut (prPT old n (ndAt old i).left.toNat (cutB b (ndAt old i).feature (ndAt old i).cut).1) (prPT old n (ndAt old i).right.toNat (cutB b (ndAt old i).feature (ndAt old i).cut).2)
theorem pack_ndAt {l : List Word} {d : Int} (h : RT l d) {i : Nat} (hi : i < l.length) : pack (ndAt l i) = l[i] := by
  have h1 := (h.ok i hi).2
  rw [ndAt_lt hi]
  unfold nd
  unfold unpack at h1 ⊢
  split at h1
  · rename_i hc
    rw [if_pos hc]
    simp only [Bool.and_eq_true, decide_eq_true_eq] at hc
    exact hc.2
  · cases h1
theorem set_mid (a : List Word) (x y : Word) (l : List Word) : (a ++ x :: l).set a.length y = a ++ y :: l := by
  rw [List.set_append_right _ _ (Nat.le_refl _), Nat.sub_self]
  rfl
theorem stay_ser {old : List Word} {d : Int} (hr : RT old d) : ∀ (n i : Nat) (b : Box) (out : List Word) (k : Int) (out' : List Word), i < old.length → stayN old n i b out = some (k, out') → out' = out ++ ((prPT old n i b).ser out.length).map pack
  | 0, i, b, out, k, out', hi, h => by cases h
  | n + 1, i, b, out, k, out', hi, h => by
    unfold stayN at h
    have ei : ((i : Nat) : Int).toNat = i := by omega
    rw [if_pos ⟨by omega, by omega⟩, ei] at h
    unfold prPT
    cases hl : (ndAt old i).leaf
    case true =>
      rw [hl, if_pos rfl] at h
      rw [if_pos rfl]
      cases h
      rw [wdAt_lt hi, ← pack_ndAt hr hi]
      rfl
    case false =>
      rw [hl, if_neg Bool.false_ne_true] at h
      rw [if_neg Bool.false_ne_true]
      have hin := hr.at hi hl
      obtain ⟨_, _, l1, l2, r1, r2⟩ := hin
      have hv : (ndAt old i).value = 0 := by
        have := hr.node hi
        unfold rightNode at this
        rw [hl] at this
        simp only [Bool.false_eq_true, if_false, Bool.and_eq_true, decide_eq_true_eq] at this
        exact this.1.1.1.1.1.1.1
      generalize ndAt old i = nn at *
      obtain ⟨lf, val, ft, ct, lt, rt⟩ := nn
      simp only at hl hv l1 l2 r1 r2 h ⊢
      subst hl
      subst hv
      obtain ⟨ltn, rfl⟩ : ∃ t : Nat, lt = t := ⟨lt.toNat, by omega⟩
      obtain ⟨rtn, rfl⟩ : ∃ t : Nat, rt = t := ⟨rt.toNat, by omega⟩
      have e1 : ((ltn : Nat) : Int).toNat = ltn := by omega
      have e2 : ((rtn : Nat) : Int).toNat = rtn := by omega
      rw [e1, e2]
      generalize cutB b ft ct = xy at *
      obtain ⟨x, y⟩ := xy
      simp only at h ⊢
      split at h
      · rename_i hx
        rw [if_pos hx]
        exact stay_ser hr n rtn y out k out' (by omega) h
      · rename_i hx
        rw [if_neg hx]
        split at h
        · rename_i hy
          rw [if_pos hy]
          exact stay_ser hr n ltn x out k out' (by omega) h
        · rename_i hy
          rw [if_neg hy]
          rw [Option.bind_eq_some_iff] at h
          obtain ⟨⟨k1, o1⟩, h1, h⟩ := h
          rw [Option.bind_eq_some_iff] at h
          obtain ⟨⟨k2, o2⟩, h2, h⟩ := h
          have g1 := stayN_len _ _ _ _ _ _ h1
          have g2 := stayN_len _ _ _ _ _ _ h2
          have s1 := stay_ser hr n ltn x _ _ _ (by omega) h1
          have s2 := stay_ser hr n rtn y _ _ _ (by omega) h2
          simp only [Option.some.injEq, Prod.mk.injEq] at h
          obtain ⟨-, rfl⟩ := h
          have hz : (out ++ [(⟨0⟩ : Word)]).length = out.length + 1 := by simp
          rw [hz] at s1 g1
          have hlo : o1.length = out.length + 1 + (prPT old n ltn x).size := by
            rw [s1]
            simp [ser_len]
            omega
          simp only at s2 g2
          rw [hlo] at s2
          rw [s2, s1, List.append_assoc, List.append_assoc, List.singleton_append, set_mid]
          rw [g1.1, g2.1, hlo]
          simp [PT.ser]
def visN (old : List Word) : Nat → Nat → List Nat
  | 0, _ => []
  | n + 1, i => if (ndAt old i).leaf then [i] else i :: (visN old n (ndAt old i).left.toNat ++ visN old n (ndAt old i).right.toNat)
def nmN (old : List Word) (j p : Nat) : Nat := if names (ndAt old p) j then 1 else 0
theorem child_nat {old : List Word} {d : Int} (hr : RT old d) {i : Nat} (hi : i < old.length) (hl : (ndAt old i).leaf = false) :
    ∃ a b : Nat, (ndAt old i).left = a ∧ (ndAt old i).right = b ∧ i < a ∧ a < old.length ∧ i < b ∧ b < old.length ∧ a ≠ b := by
  have := hr.at hi hl
  exact ⟨(ndAt old i).left.toNat, (ndAt old i).right.toNat, by omega, by omega, by omega, by omega, by omega, by omega, by omega⟩
theorem vis_lt {old : List Word} {d : Int} (hr : RT old d) : ∀ (n i : Nat), i < old.length → ∀ x ∈ visN old n i, x < old.length
  | 0, i, hi, x, hx => by cases hx
  | n + 1, i, hi, x, hx => by
    unfold visN at hx
    cases hl : (ndAt old i).leaf
    · rw [hl, if_neg Bool.false_ne_true] at hx
      obtain ⟨a, b, ha, hb, g1, g2, g3, g4, g5⟩ := child_nat hr hi hl
      rw [ha, hb] at hx
      simp only [List.mem_cons, List.mem_append] at hx
      rcases hx with rfl | hx | hx
      · exact hi
      · exact vis_lt hr n _ (by omega) x hx
      · exact vis_lt hr n _ (by omega) x hx
    · rw [hl, if_pos rfl] at hx
      simp at hx
      omega
theorem vis_count {old : List Word} {d : Int} (hr : RT old d) (j : Nat) : ∀ (n i : Nat), i < old.length → old.length ≤ i + n → (visN old n i).count j = (if i = j then 1 else 0) + ((visN old n i).map (nmN old j)).sum
  | 0, i, hi, hn => by omega
  | n + 1, i, hi, hn => by
    unfold visN
    cases hl : (ndAt old i).leaf
    · rw [if_neg Bool.false_ne_true]
      obtain ⟨a, b, ha, hb, g1, g2, g3, g4, g5⟩ := child_nat hr hi hl
      rw [ha, hb]
      have ea : ((a : Nat) : Int).toNat = a := by omega
      have eb : ((b : Nat) : Int).toNat = b := by omega
      rw [ea, eb]
      have h1 := vis_count hr j n a (by omega) (by omega)
      have h2 := vis_count hr j n b (by omega) (by omega)
      have hnm : nmN old j i = (if a = j then 1 else 0) + (if b = j then 1 else 0) := by
        unfold nmN names
        rw [hl, ha, hb]
        by_cases x : a = j
        · subst x
          rw [if_pos rfl, if_neg (Ne.symm g5)]
          simp
        · by_cases y : b = j
          · subst y
            rw [if_neg x, if_pos rfl]
            simp
          · rw [if_neg x, if_neg y]
            have x' : ¬ (a : Int) = j := by omega
            have y' : ¬ (b : Int) = j := by omega
            simp [x', y']
      rw [List.count_cons, List.count_append, h1, h2, List.map_cons, List.map_append, List.sum_cons, List.sum_append, hnm]
      have e : (if (i == j) = true then 1 else 0) = if i = j then 1 else 0 := by simp
      rw [e]
      omega
    · rw [if_pos rfl]
      have h0 : nmN old j i = 0 := by unfold nmN names; rw [hl]; rfl
      simp [h0, List.count_cons]
theorem sum_one {p0 : Nat} : ∀ (l : List Nat) (f : Nat → Nat), (∀ p ∈ l, f p = if p = p0 then 1 else 0) → (l.map f).sum = l.count p0
  | [], f, _ => rfl
  | a :: l, f, h => by
    rw [List.map_cons, List.sum_cons, List.count_cons, sum_one l f (fun p hp => h p (by simp [hp])), h a (by simp)]
    by_cases e : a = p0
    · subst e; simp; omega
    · simp [e]
theorem sum_none : ∀ (l : List Nat), (∀ x ∈ l, x = 0) → l.sum = 0
  | [], _ => rfl
  | a :: l, h => by rw [List.sum_cons, h a (by simp), sum_none l (fun x hx => h x (by simp [hx]))]
theorem nodup_len : ∀ (N : Nat) (l : List Nat), l.Nodup → (∀ x ∈ l, x < N) → l.length ≤ N
  | 0, l, _, h => by
    have : l = [] := List.eq_nil_iff_forall_not_mem.2 fun x hx => by have := h x hx; omega
    simp [this]
  | N + 1, l, hn, h => by
    by_cases hm : N ∈ l
    · have h1 := nodup_len N (l.erase N) (hn.erase N) fun x hx => by
        have h2 := hn.mem_erase_iff.1 hx
        have := h x h2.2
        omega
      rw [List.length_erase_of_mem hm] at h1
      omega
    · have := nodup_len N l hn fun x hx => by
        have h2 := h x hx
        have : x ≠ N := fun e => hm (e ▸ hx)
        omega
      omega
theorem vis_once {old : List Word} {d : Int} (hr : RT old d) {n : Nat} (hn : old.length ≤ n) : ∀ (m j : Nat), j ≤ m → j < old.length → (visN old n 0).count j ≤ 1 := by
  intro m
  induction m with
  | zero =>
    intro j h0 hj
    have : j = 0 := by omega
    subst this
    rw [vis_count hr 0 n 0 hr.pos (by omega)]
    have hz : ((visN old n 0).map (nmN old 0)).sum = 0 := by
      have : ∀ x ∈ (visN old n 0).map (nmN old 0), x = 0 := by
        intro x hx
        obtain ⟨p, hp, rfl⟩ := List.mem_map.1 hx
        have hpl := vis_lt hr n 0 hr.pos p hp
        unfold nmN names
        cases hl : (ndAt old p).leaf
        · obtain ⟨a, b, ha, hb, g1, g2, g3, g4, g5⟩ := child_nat hr hpl hl
          rw [ha, hb]
          have x' : ¬ (a : Int) = (0 : Nat) := by omega
          have y' : ¬ (b : Int) = (0 : Nat) := by omega
          simp [x', y']
          omega
        · rfl
      exact sum_none _ this
    rw [hz]
    simp
  | succ m ih =>
    intro j hm hj
    by_cases e : j ≤ m
    · exact ih j e hj
    · have hj1 : 1 ≤ j := by omega
      obtain ⟨p0, hp0, hl0, hc0⟩ := hr.parent hj1 hj
      have hn0 : names (ndAt old p0) j = true := by
        unfold names
        rw [hl0]
        simpa using hc0
      rw [vis_count hr j n 0 hr.pos (by omega), if_neg (by omega), Nat.zero_add, sum_one (p0 := p0) _ _ (fun p hp => ?_)]
      · exact ih p0 (by omega) (by omega)
      · have hpl := vis_lt hr n 0 hr.pos p hp
        unfold nmN
        by_cases e2 : p = p0
        · subst e2
          rw [hn0]
          simp
        · rw [if_neg e2, if_neg (fun h => e2 (hr.unique hpl (by omega) hj1 hj h hn0))]
theorem vis_len {old : List Word} {d : Int} (hr : RT old d) {n : Nat} (hn : old.length ≤ n) : (visN old n 0).length ≤ old.length := by
  have hnd : (visN old n 0).Nodup := List.nodup_iff_count.2 fun a => by
    by_cases ha : a < old.length
    · exact vis_once hr hn a a (Nat.le_refl _) ha
    · rw [List.count_eq_zero_of_not_mem (fun h => ha (vis_lt hr n 0 hr.pos a h))]
      omega
  exact nodup_len _ _ hnd (vis_lt hr n 0 hr.pos)
theorem prPT_size {old : List Word} {d : Int} (hr : RT old d) : ∀ (n i : Nat) (b : Box), i < old.length → old.length ≤ i + n → (prPT old n i b).size ≤ (visN old n i).length
  | 0, i, b, hi, hn => by omega
  | n + 1, i, b, hi, hn => by
    unfold prPT visN
    cases hl : (ndAt old i).leaf
    · rw [if_neg Bool.false_ne_true, if_neg Bool.false_ne_true]
      obtain ⟨x, y, ha, hb, g1, g2, g3, g4, g5⟩ := child_nat hr hi hl
      rw [ha, hb]
      have ea : ((x : Nat) : Int).toNat = x := by omega
      have eb : ((y : Nat) : Int).toNat = y := by omega
      rw [ea, eb]
      have h1 := fun b => prPT_size hr n x b (by omega) (by omega)
      have h2 := fun b => prPT_size hr n y b (by omega) (by omega)
      rw [List.length_cons, List.length_append]
      split
      · have := h2 (cutB b (ndAt old i).feature (ndAt old i).cut).2; omega
      · split
        · have := h1 (cutB b (ndAt old i).feature (ndAt old i).cut).1; omega
        · have := h2 (cutB b (ndAt old i).feature (ndAt old i).cut).2
          have := h1 (cutB b (ndAt old i).feature (ndAt old i).cut).1
          simp only [PT.size]
          omega
    · rw [if_pos rfl, if_pos rfl]
      simp [PT.size]
theorem prPT_ok {old : List Word} {d : Int} (hr : RT old d) : ∀ (n i : Nat) (b : Box), i < old.length → old.length ≤ i + n → (prPT old n i b).ok d
  | 0, i, b, hi, hn => by omega
  | n + 1, i, b, hi, hn => by
    unfold prPT
    cases hl : (ndAt old i).leaf
    · rw [if_neg Bool.false_ne_true]
      obtain ⟨x, y, ha, hb, g1, g2, g3, g4, g5⟩ := child_nat hr hi hl
      have hat := hr.at hi hl
      have hf := hr.feature hi hl
      have hc := hr.cutOk hi
      rw [ha, hb]
      have ea : ((x : Nat) : Int).toNat = x := by omega
      have eb : ((y : Nat) : Int).toNat = y := by omega
      rw [ea, eb]
      split
      · exact prPT_ok hr n y _ (by omega) (by omega)
      · split
        · exact prPT_ok hr n x _ (by omega) (by omega)
        · exact ⟨hf.1, hat.1, hf.2, hc, prPT_ok hr n x _ (by omega) (by omega), prPT_ok hr n y _ (by omega) (by omega)⟩
    · rw [if_pos rfl]
      exact ⟨hl, hr.node hi⟩
def prT' (l : List Word) (b : Box) : PT := prPT l 31 0 b
theorem pruneT_eq {l : List Word} {d : Int} (hr : RT l d) (b : Box) : pruneT l b = ((prT' l b).ser 0).map pack := by
  obtain ⟨k, out, h1, h2⟩ := stayN_some hr 31 0 b [] hr.pos (by have := hr.le; omega)
  have h3 := stay_ser hr 31 0 b [] k out hr.pos h1
  have h1 : stayN l 31 0 b [] = some (k, out) := h1
  unfold pruneT
  rw [h1, h3]
  rfl
theorem prT_size {l : List Word} {d : Int} (hr : RT l d) (b : Box) : (prT' l b).size ≤ l.length := by
  have h1 := prPT_size hr 31 0 b hr.pos (by have := hr.le; omega)
  have h2 := vis_len hr (n := 31) hr.le
  exact Nat.le_trans h1 h2
theorem pruneT_right {l : List Word} {d : Int} (hr : RT l d) (b : Box) : RT (pruneT l b) d := by
  rw [pruneT_eq hr b]
  exact (ser_nt (prPT_ok hr 31 0 b hr.pos (by have := hr.le; omega)) (Nat.le_trans (prT_size hr b) hr.le)).words
end Go.Co
/- CO: models held against each other: told of the same model twice. -/
set_option maxHeartbeats 16000000
set_option maxRecDepth 100000
namespace Go.Co
open Go.Am Go.Proofs
set_option linter.unusedSimpArgs false
set_option linter.unusedVariables false
attribute [-simp] Go.Am.eff_gcall
def c16_0 : ACode := .ops [⟨some 2, .box (.t 0) 6, none, []⟩,⟨some 3, .box (.t 1) 6, none, []⟩,⟨some 4, .mv (.c (.bool false)), none, []⟩] [2, 3]
theorem r16_0 : type_of% (@rr _ _ c16_0.eq_1) := rr rfl
def c16_1 : ACode := .ops [⟨some 6, .fad (.t 2) 0, none, [2]⟩,⟨some 7, .load 1 false (.t 6), none, [2]⟩,⟨some 8, .fad (.t 3) 0, none, [3]⟩,⟨some 9, .load 1 false (.t 8), none, [3]⟩,⟨some 10, .bin .neq (.t 7) (.t 9), none, []⟩,⟨some 11, .mv (.t 10), none, []⟩,⟨some 12, .fad (.t 2) 1, some (11, false), [2]⟩,⟨some 13, .load 1 false (.t 12), some (11, false), [2]⟩,⟨some 14, .fad (.t 3) 1, some (11, false), [3]⟩,⟨some 15, .load 1 false (.t 14), some (11, false), [3]⟩,⟨some 16, .bin .neq (.t 13) (.t 15), some (11, false), []⟩,⟨some 17, .pick (.t 11) (.c (.bool true)) (.t 16), none, []⟩,⟨some 18, .mv (.t 17), none, []⟩,⟨some 19, .fad (.t 2) 2, some (18, false), [2]⟩,⟨some 20, .load 3 true (.t 19), some (18, false), [2]⟩,⟨some 21, .fad (.t 3) 2, some (18, false), [3]⟩,⟨some 22, .load 3 true (.t 21), some (18, false), [3]⟩,⟨some 23, .eqa true [false, false, false] (.t 20) (.t 22), some (18, false), []⟩,⟨some 24, .pick (.t 18) (.c (.bool true)) (.t 23), none, []⟩,⟨some 25, .mv (.t 24), none, []⟩,⟨some 26, .fad (.t 2) 5, some (25, false), [2]⟩,⟨some 27, .load 1 false (.t 26), some (25, false), [2]⟩,⟨some 28, .len (.t 27), some (25, false), []⟩,⟨some 29, .fad (.t 3) 5, some (25, false), [3]⟩,⟨some 30, .load 1 false (.t 29), some (25, false), [3]⟩,⟨some 31, .len (.t 30), some (25, false), []⟩,⟨some 32, .bin .neq (.t 28) (.t 31), some (25, false), []⟩,⟨some 33, .pick (.t 25) (.c (.bool true)) (.t 32), none, []⟩] [2, 3, 33]
theorem r16_1 : type_of% (@rr _ _ c16_1.eq_1) := rr rfl
def c16_2 : ACode := .ops [⟨some 4, .mv (.c (.bool false)), none, []⟩] [4]
theorem r16_2 : type_of% (@rr _ _ c16_2.eq_1) := rr rfl
def c16_3 : ACode := .seq c16_2 .ret
theorem r16_3 : type_of% (@rr _ _ c16_3.eq_1) := rr rfl
def c16_4 : ACode := .cond (.t 33) c16_3 .skip
theorem r16_4 : type_of% (@rr _ _ c16_4.eq_1) := rr rfl
def c16_5 : ACode := .seq c16_1 c16_4
theorem r16_5 : type_of% (@rr _ _ c16_5.eq_1) := rr rfl
def c16_6 : ACode := .ops [⟨some 34, .fad (.t 2) 5, none, [2]⟩,⟨some 35, .load 1 false (.t 34), none, [2]⟩,⟨some 36, .len (.t 35), none, []⟩,⟨some 37, .mv (.c (.int .i64 0)), none, []⟩] [2, 3, 36, 37]
theorem r16_6 : type_of% (@rr _ _ c16_6.eq_1) := rr rfl
def c16_7 : ACode := .ops [⟨some 38, .bin .lss (.t 37) (.t 36), none, []⟩] [2, 3, 36, 37, 38]
theorem r16_7 : type_of% (@rr _ _ c16_7.eq_1) := rr rfl
def c16_8 : ACode := .cond (.t 38) .skip (.exit 0)
theorem r16_8 : type_of% (@rr _ _ c16_8.eq_1) := rr rfl
def c16_9 : ACode := .ops [⟨some 39, .mv (.t 37), none, []⟩,⟨some 5, .mv (.t 39), none, []⟩] [2, 3, 5, 36, 37]
theorem r16_9 : type_of% (@rr _ _ c16_9.eq_1) := rr rfl
def c16_10 : ACode := .ops [⟨some 40, .fad (.t 2) 5, none, [2]⟩,⟨some 41, .load 1 false (.t 40), none, [2]⟩,⟨some 42, .mv (.t 5), none, []⟩,⟨some 43, .ias (.t 41) (.t 42) 2, none, []⟩,⟨some 44, .fad (.t 43) 0, none, []⟩,⟨some 45, .load 1 false (.t 44), none, []⟩,⟨some 46, .fad (.t 3) 5, none, [3]⟩,⟨some 47, .load 1 false (.t 46), none, [3]⟩,⟨some 48, .mv (.t 5), none, []⟩,⟨some 49, .ias (.t 47) (.t 48) 2, none, []⟩,⟨some 50, .fad (.t 49) 0, none, []⟩,⟨some 51, .load 1 false (.t 50), none, []⟩,⟨some 52, .bin .neq (.t 45) (.t 51), none, []⟩,⟨some 53, .mv (.t 52), none, []⟩,⟨some 54, .fad (.t 2) 5, some (53, false), [2]⟩,⟨some 55, .load 1 false (.t 54), some (53, false), [2]⟩,⟨some 56, .mv (.t 5), some (53, false), []⟩,⟨some 57, .ias (.t 55) (.t 56) 2, some (53, false), []⟩,⟨some 58, .fad (.t 57) 1, some (53, false), []⟩,⟨some 59, .load 1 false (.t 58), some (53, false), []⟩,⟨some 60, .fad (.t 3) 5, some (53, false), [3]⟩,⟨some 61, .load 1 false (.t 60), some (53, false), [3]⟩,⟨some 62, .mv (.t 5), some (53, false), []⟩,⟨some 63, .ias (.t 61) (.t 62) 2, some (53, false), []⟩,⟨some 64, .fad (.t 63) 1, some (53, false), []⟩,⟨some 65, .load 1 false (.t 64), some (53, false), []⟩,⟨some 66, .call 56 [.t 59, .t 65], some (53, false), []⟩,⟨some 67, .un .not (.t 66), some (53, false), []⟩,⟨some 68, .pick (.t 53) (.c (.bool true)) (.t 67), none, []⟩] [2, 3, 36, 37, 68]
theorem r16_10 : type_of% (@rr _ _ c16_10.eq_1) := rr rfl
def c16_11 : ACode := .ops [⟨some 4, .mv (.c (.bool false)), none, []⟩] [4]
theorem r16_11 : type_of% (@rr _ _ c16_11.eq_1) := rr rfl
def c16_12 : ACode := .seq c16_11 .ret
theorem r16_12 : type_of% (@rr _ _ c16_12.eq_1) := rr rfl
def c16_13 : ACode := .cond (.t 68) c16_12 .skip
theorem r16_13 : type_of% (@rr _ _ c16_13.eq_1) := rr rfl
def c16_14 : ACode := .seq c16_10 c16_13
theorem r16_14 : type_of% (@rr _ _ c16_14.eq_1) := rr rfl
def c16_15 : ACode := .seq c16_9 c16_14
theorem r16_15 : type_of% (@rr _ _ c16_15.eq_1) := rr rfl
def c16_16 : ACode := .block 1 c16_15
theorem r16_16 : type_of% (@rr _ _ c16_16.eq_1) := rr rfl
def c16_17 : ACode := .ops [⟨some 69, .bin .add (.t 37) (.c (.int .i64 1)), none, []⟩,⟨some 37, .mv (.t 69), none, []⟩] [2, 3, 36, 37]
theorem r16_17 : type_of% (@rr _ _ c16_17.eq_1) := rr rfl
def c16_18 : ACode := .seq c16_16 c16_17
theorem r16_18 : type_of% (@rr _ _ c16_18.eq_1) := rr rfl
def c16_19 : ACode := .seq c16_8 c16_18
theorem r16_19 : type_of% (@rr _ _ c16_19.eq_1) := rr rfl
def c16_20 : ACode := .seq c16_7 c16_19
theorem r16_20 : type_of% (@rr _ _ c16_20.eq_1) := rr rfl
def c16_21 : ACode := .keep [2, 3, 36, 37] [2, 3] c16_20
theorem r16_21 : type_of% (@rr _ _ c16_21.eq_1) := rr rfl
def c16_22 : ACode := .loop c16_21
theorem r16_22 : type_of% (@rr _ _ c16_22.eq_1) := rr rfl
def c16_23 : ACode := .block 0 c16_22
theorem r16_23 : type_of% (@rr _ _ c16_23.eq_1) := rr rfl
def c16_24 : ACode := .seq c16_6 c16_23
theorem r16_24 : type_of% (@rr _ _ c16_24.eq_1) := rr rfl
def c16_25 : ACode := .ops [⟨some 4, .mv (.c (.bool true)), none, []⟩] [4]
theorem r16_25 : type_of% (@rr _ _ c16_25.eq_1) := rr rfl
def c16_26 : ACode := .seq c16_25 .ret
theorem r16_26 : type_of% (@rr _ _ c16_26.eq_1) := rr rfl
def c16_27 : ACode := .seq c16_24 c16_26
theorem r16_27 : type_of% (@rr _ _ c16_27.eq_1) := rr rfl
def c16_28 : ACode := .seq c16_5 c16_27
theorem r16_28 : type_of% (@rr _ _ c16_28.eq_1) := rr rfl
def c16_29 : ACode := .seq c16_0 c16_28
theorem r16_29 : type_of% (@rr _ _ c16_29.eq_1) := rr rfl
def a16 : AFun := ⟨2, 70, c16_29, [.t 4]⟩
attribute [simp] r16_0 r16_1 r16_2 r16_3 r16_4 r16_5 r16_6 r16_7 r16_8 r16_9 r16_10 r16_11 r16_12 r16_13 r16_14 r16_15 r16_16 r16_17 r16_18 r16_19 r16_20 r16_21 r16_22 r16_23 r16_24 r16_25 r16_26 r16_27 r16_28 r16_29
theorem m16 : mFun Try.prog Try.f16 a16 = true := by decide +kernel
noncomputable def ModelsC (a b : Model) : Option Bool := Part (a = b ∧ a.trees.length ≤ 8) true
theorem runs_Models (a b : Model) (r : Bool) (h : ModelsC a b = some r) : Runs (tbl [(56, sp2 SameW)]) a16 [Arg.enc a, Arg.enc b] (Arg.enc r) := by
  obtain ⟨⟨rfl, hl⟩, rfl⟩ := part_some h
  clear h
  refine ⟨rfl, fun g => run_def ?_⟩
  unfold a16
  have b1 : a.trees.length ≤ maxN := by unfold maxN; omega
  simp -implicitDefEqProofs [b1]
  refine run_while (c := c16_20) (fun n s => ∃ (i : Nat) (g : Nat → Nat), i + n = a.trees.length ∧ s = ⟨[(2, .ptr 2 (g 2) 0), (3, .ptr 3 (g 3) 0), (36, .int .i64 a.trees.length), (37, .int .i64 i)], [(2, ⟨Row.enc a, false, 0⟩), (3, ⟨Row.enc a, false, 0⟩)], g⟩) a.trees.length ⟨0, bump 3 (bump 2 g), by omega, by simp⟩ ?_
  rintro n s ⟨i, g, hi, rfl⟩
  by_cases h1 : i < a.trees.length
  case pos =>
    have w1 : IntKind.i64.wrap ((i : Int) + 1) = (i : Int) + 1 := wrap64 (by omega) (by omega)
    have r0 : rd (encL a.trees) (i * 2) 1 false = some (.int .i64 a.trees[i].cls) := by
      have := rd_cell a.trees i 0 h1 (by simp)
      simpa using this
    have r1 : rd (encL a.trees) (i * 2 + 1) 1 false = some (.lst a.trees[i].nodes.length (encL a.trees[i].nodes)) := by
      have := rd_cell a.trees i 1 h1 (by simp)
      simpa using this
    have hS : SameW a.trees[i].nodes a.trees[i].nodes = some true := part_of rfl _
    simp -implicitDefEqProofs [h1, r0, r1, hS, w1]
    exact ⟨n - 1, by omega, i + 1, by omega, by omega⟩
  case neg => simp -implicitDefEqProofs [h1]
theorem c_Models : Contract Try.prog 16 (sp2 ModelsC) :=
  contract_of_runs mixed (tbl_cons c_SameW tbl_nil) Try.func16 m16 (sp2_runs runs_Models)
end Go.Co
