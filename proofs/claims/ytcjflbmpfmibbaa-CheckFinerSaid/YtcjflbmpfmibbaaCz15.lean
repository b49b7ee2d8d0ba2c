/- CO: texts of this claim, one behind the other. -/
import Derived.Test.YtcjflbmpfmibbaaCz14
import Derived.Test.YtcjflbmpfmibbaaCz9
/- CO: proofs' steps: how deep they go, the boxes that are closed by sums; what is shown. -/
set_option maxHeartbeats 16000000
set_option maxRecDepth 100000
namespace Go.Co
open Go.Am Go.Proofs
set_option linter.unusedSimpArgs false
set_option linter.unusedVariables false
attribute [-simp] Go.Am.eff_gcall
def c162_0 : ACode := .ops [⟨some 1, .box (.t 0) 3, none, []⟩,⟨some 2, .mv (.c (.bool false)), none, []⟩] [1]
theorem r162_0 : type_of% (@rr _ _ c162_0.eq_1) := rr rfl
def c162_1 : ACode := .ops [⟨some 3, .fad (.t 1) 0, none, [1]⟩,⟨some 4, .load 1 false (.t 3), none, [1]⟩] [1, 4]
theorem r162_1 : type_of% (@rr _ _ c162_1.eq_1) := rr rfl
def c162_2 : ACode := .ops [⟨some 5, .load 3 true (.t 1), none, [1]⟩,⟨some 6, .build [.bool false, .int .i64 0, .int .i64 0] [(0, 1, .c (.bool true))], none, []⟩,⟨some 7, .eqa false [true, false, false] (.t 5) (.t 6), none, []⟩,⟨some 2, .mv (.t 7), none, []⟩] [2]
theorem r162_2 : type_of% (@rr _ _ c162_2.eq_1) := rr rfl
def c162_3 : ACode := .seq c162_2 .ret
theorem r162_3 : type_of% (@rr _ _ c162_3.eq_1) := rr rfl
def c162_4 : ACode := .cond (.t 4) c162_3 .skip
theorem r162_4 : type_of% (@rr _ _ c162_4.eq_1) := rr rfl
def c162_5 : ACode := .seq c162_1 c162_4
theorem r162_5 : type_of% (@rr _ _ c162_5.eq_1) := rr rfl
def c162_6 : ACode := .ops [⟨some 8, .fad (.t 1) 1, none, [1]⟩,⟨some 9, .load 1 false (.t 8), none, [1]⟩,⟨some 10, .bin .geq (.t 9) (.c (.int .i64 0)), none, []⟩,⟨some 11, .mv (.t 10), none, []⟩,⟨some 12, .fad (.t 1) 1, some (11, true), [1]⟩,⟨some 13, .load 1 false (.t 12), some (11, true), [1]⟩,⟨some 14, .bin .leq (.t 13) (.c (.int .i64 4)), some (11, true), []⟩,⟨some 15, .pick (.t 11) (.t 14) (.c (.bool false)), none, []⟩,⟨some 2, .mv (.t 15), none, []⟩] [2]
theorem r162_6 : type_of% (@rr _ _ c162_6.eq_1) := rr rfl
def c162_7 : ACode := .seq c162_6 .ret
theorem r162_7 : type_of% (@rr _ _ c162_7.eq_1) := rr rfl
def c162_8 : ACode := .seq c162_5 c162_7
theorem r162_8 : type_of% (@rr _ _ c162_8.eq_1) := rr rfl
def c162_9 : ACode := .seq c162_0 c162_8
theorem r162_9 : type_of% (@rr _ _ c162_9.eq_1) := rr rfl
def a162 : AFun := ⟨1, 16, c162_9, [.t 2]⟩
attribute [simp] r162_0 r162_1 r162_2 r162_3 r162_4 r162_5 r162_6 r162_7 r162_8 r162_9
theorem m162 : mFun Try.prog Try.f162 a162 = true := by decide +kernel
def c149_0 : ACode := .ops [⟨some 2, .mv (.c (.int .i64 0)), none, []⟩] [0]
theorem r149_0 : type_of% (@rr _ _ c149_0.eq_1) := rr rfl
def c149_1 : ACode := .ops [⟨some 7, .mv (.t 0), none, []⟩,⟨some 8, .len (.t 7), none, []⟩,⟨some 9, .bin .gtr (.t 8) (.c (.int .i64 65536)), none, []⟩] [0, 9]
theorem r149_1 : type_of% (@rr _ _ c149_1.eq_1) := rr rfl
def c149_2 : ACode := .ops [⟨some 2, .mv (.c (.int .i64 0)), none, []⟩] [2]
theorem r149_2 : type_of% (@rr _ _ c149_2.eq_1) := rr rfl
def c149_3 : ACode := .seq c149_2 .ret
theorem r149_3 : type_of% (@rr _ _ c149_3.eq_1) := rr rfl
def c149_4 : ACode := .cond (.t 9) c149_3 .skip
theorem r149_4 : type_of% (@rr _ _ c149_4.eq_1) := rr rfl
def c149_5 : ACode := .seq c149_1 c149_4
theorem r149_5 : type_of% (@rr _ _ c149_5.eq_1) := rr rfl
def c149_6 : ACode := .ops [⟨some 3, .mv (.c (.int .i64 1)), none, []⟩,⟨some 4, .mv (.c (.int .i64 1)), none, []⟩] [0, 3, 4]
theorem r149_6 : type_of% (@rr _ _ c149_6.eq_1) := rr rfl
def c149_7 : ACode := .ops [⟨some 10, .mv (.t 0), none, []⟩,⟨some 11, .len (.t 10), none, []⟩,⟨some 12, .mv (.c (.int .i64 0)), none, []⟩] [3, 4, 10, 11, 12]
theorem r149_7 : type_of% (@rr _ _ c149_7.eq_1) := rr rfl
def c149_8 : ACode := .ops [⟨some 13, .bin .lss (.t 12) (.t 11), none, []⟩] [3, 4, 10, 11, 12, 13]
theorem r149_8 : type_of% (@rr _ _ c149_8.eq_1) := rr rfl
def c149_9 : ACode := .cond (.t 13) .skip (.exit 0)
theorem r149_9 : type_of% (@rr _ _ c149_9.eq_1) := rr rfl
def c149_10 : ACode := .ops [⟨some 14, .ias (.t 10) (.t 12) 3, none, []⟩,⟨some 15, .load 3 true (.t 14), none, []⟩,⟨some 6, .alloc [.bool false, .int .i64 0, .int .i64 0], none, []⟩,⟨none, .store (.t 6) 3 (.t 15), none, [6]⟩] [3, 4, 6, 10, 11, 12]
theorem r149_10 : type_of% (@rr _ _ c149_10.eq_1) := rr rfl
def c149_11 : ACode := .ops [⟨some 16, .mv (.t 3), none, []⟩,⟨some 17, .bin .eql (.t 16) (.c (.int .i64 0)), none, []⟩,⟨some 18, .mv (.t 17), none, []⟩,⟨some 19, .load 3 true (.t 6), some (18, false), [6]⟩,⟨some 20, .call 162 [.t 19], some (18, false), []⟩,⟨some 21, .un .not (.t 20), some (18, false), []⟩,⟨some 22, .pick (.t 18) (.c (.bool true)) (.t 21), none, []⟩] [3, 4, 6, 10, 11, 12, 22]
theorem r149_11 : type_of% (@rr _ _ c149_11.eq_1) := rr rfl
def c149_12 : ACode := .ops [⟨some 2, .mv (.c (.int .i64 0)), none, []⟩] [2]
theorem r149_12 : type_of% (@rr _ _ c149_12.eq_1) := rr rfl
def c149_13 : ACode := .seq c149_12 .ret
theorem r149_13 : type_of% (@rr _ _ c149_13.eq_1) := rr rfl
def c149_14 : ACode := .cond (.t 22) c149_13 .skip
theorem r149_14 : type_of% (@rr _ _ c149_14.eq_1) := rr rfl
def c149_15 : ACode := .seq c149_11 c149_14
theorem r149_15 : type_of% (@rr _ _ c149_15.eq_1) := rr rfl
def c149_16 : ACode := .ops [⟨some 23, .fad (.t 6) 0, none, [6]⟩,⟨some 24, .load 1 false (.t 23), none, [6]⟩] [3, 4, 10, 11, 12, 24]
theorem r149_16 : type_of% (@rr _ _ c149_16.eq_1) := rr rfl
def c149_17 : ACode := .ops [⟨some 25, .mv (.t 3), none, []⟩,⟨some 26, .bin .sub (.t 25) (.c (.int .i64 1)), none, []⟩,⟨some 3, .mv (.t 26), none, []⟩] [3, 4, 10, 11, 12]
theorem r149_17 : type_of% (@rr _ _ c149_17.eq_1) := rr rfl
def c149_18 : ACode := .seq c149_17 (.exit 1)
theorem r149_18 : type_of% (@rr _ _ c149_18.eq_1) := rr rfl
def c149_19 : ACode := .cond (.t 24) c149_18 .skip
theorem r149_19 : type_of% (@rr _ _ c149_19.eq_1) := rr rfl
def c149_20 : ACode := .seq c149_16 c149_19
theorem r149_20 : type_of% (@rr _ _ c149_20.eq_1) := rr rfl
def c149_21 : ACode := .ops [⟨some 27, .mv (.t 3), none, []⟩,⟨some 28, .bin .add (.t 27) (.c (.int .i64 1)), none, []⟩,⟨some 3, .mv (.t 28), none, []⟩] [3, 4, 10, 11, 12]
theorem r149_21 : type_of% (@rr _ _ c149_21.eq_1) := rr rfl
def c149_22 : ACode := .ops [⟨some 29, .mv (.t 4), none, []⟩,⟨some 30, .mv (.t 3), none, []⟩,⟨some 31, .mnmx true (.t 29) (.t 30), none, []⟩,⟨some 4, .mv (.t 31), none, []⟩] [3, 4, 10, 11, 12]
theorem r149_22 : type_of% (@rr _ _ c149_22.eq_1) := rr rfl
def c149_23 : ACode := .seq c149_21 c149_22
theorem r149_23 : type_of% (@rr _ _ c149_23.eq_1) := rr rfl
def c149_24 : ACode := .seq c149_20 c149_23
theorem r149_24 : type_of% (@rr _ _ c149_24.eq_1) := rr rfl
def c149_25 : ACode := .seq c149_15 c149_24
theorem r149_25 : type_of% (@rr _ _ c149_25.eq_1) := rr rfl
def c149_26 : ACode := .seq c149_10 c149_25
theorem r149_26 : type_of% (@rr _ _ c149_26.eq_1) := rr rfl
def c149_27 : ACode := .block 1 c149_26
theorem r149_27 : type_of% (@rr _ _ c149_27.eq_1) := rr rfl
def c149_28 : ACode := .ops [⟨some 32, .bin .add (.t 12) (.c (.int .i64 1)), none, []⟩,⟨some 12, .mv (.t 32), none, []⟩] [3, 4, 10, 11, 12]
theorem r149_28 : type_of% (@rr _ _ c149_28.eq_1) := rr rfl
def c149_29 : ACode := .seq c149_27 c149_28
theorem r149_29 : type_of% (@rr _ _ c149_29.eq_1) := rr rfl
def c149_30 : ACode := .seq c149_9 c149_29
theorem r149_30 : type_of% (@rr _ _ c149_30.eq_1) := rr rfl
def c149_31 : ACode := .seq c149_8 c149_30
theorem r149_31 : type_of% (@rr _ _ c149_31.eq_1) := rr rfl
def c149_32 : ACode := .keep [3, 4, 10, 11, 12] [] c149_31
theorem r149_32 : type_of% (@rr _ _ c149_32.eq_1) := rr rfl
def c149_33 : ACode := .loop c149_32
theorem r149_33 : type_of% (@rr _ _ c149_33.eq_1) := rr rfl
def c149_34 : ACode := .block 0 c149_33
theorem r149_34 : type_of% (@rr _ _ c149_34.eq_1) := rr rfl
def c149_35 : ACode := .seq c149_7 c149_34
theorem r149_35 : type_of% (@rr _ _ c149_35.eq_1) := rr rfl
def c149_36 : ACode := .ops [⟨some 33, .mv (.t 3), none, []⟩,⟨some 34, .bin .neq (.t 33) (.c (.int .i64 0)), none, []⟩,⟨some 35, .mv (.t 34), none, []⟩,⟨some 36, .mv (.t 4), some (35, false), []⟩,⟨some 37, .bin .gtr (.t 36) (.c (.int .i64 200)), some (35, false), []⟩,⟨some 38, .pick (.t 35) (.c (.bool true)) (.t 37), none, []⟩] [4, 38]
theorem r149_36 : type_of% (@rr _ _ c149_36.eq_1) := rr rfl
def c149_37 : ACode := .ops [⟨some 2, .mv (.c (.int .i64 0)), none, []⟩] [2]
theorem r149_37 : type_of% (@rr _ _ c149_37.eq_1) := rr rfl
def c149_38 : ACode := .seq c149_37 .ret
theorem r149_38 : type_of% (@rr _ _ c149_38.eq_1) := rr rfl
def c149_39 : ACode := .cond (.t 38) c149_38 .skip
theorem r149_39 : type_of% (@rr _ _ c149_39.eq_1) := rr rfl
def c149_40 : ACode := .seq c149_36 c149_39
theorem r149_40 : type_of% (@rr _ _ c149_40.eq_1) := rr rfl
def c149_41 : ACode := .ops [⟨some 39, .mv (.t 4), none, []⟩,⟨some 2, .mv (.t 39), none, []⟩] [2]
theorem r149_41 : type_of% (@rr _ _ c149_41.eq_1) := rr rfl
def c149_42 : ACode := .seq c149_41 .ret
theorem r149_42 : type_of% (@rr _ _ c149_42.eq_1) := rr rfl
def c149_43 : ACode := .seq c149_40 c149_42
theorem r149_43 : type_of% (@rr _ _ c149_43.eq_1) := rr rfl
def c149_44 : ACode := .seq c149_35 c149_43
theorem r149_44 : type_of% (@rr _ _ c149_44.eq_1) := rr rfl
def c149_45 : ACode := .seq c149_6 c149_44
theorem r149_45 : type_of% (@rr _ _ c149_45.eq_1) := rr rfl
def c149_46 : ACode := .seq c149_5 c149_45
theorem r149_46 : type_of% (@rr _ _ c149_46.eq_1) := rr rfl
def c149_47 : ACode := .seq c149_0 c149_46
theorem r149_47 : type_of% (@rr _ _ c149_47.eq_1) := rr rfl
def a149 : AFun := ⟨1, 40, c149_47, [.t 2]⟩
attribute [simp] r149_0 r149_1 r149_2 r149_3 r149_4 r149_5 r149_6 r149_7 r149_8 r149_9 r149_10 r149_11 r149_12 r149_13 r149_14 r149_15 r149_16 r149_17 r149_18 r149_19 r149_20 r149_21 r149_22 r149_23 r149_24 r149_25 r149_26 r149_27 r149_28 r149_29 r149_30 r149_31 r149_32 r149_33 r149_34 r149_35 r149_36 r149_37 r149_38 r149_39 r149_40 r149_41 r149_42 r149_43 r149_44 r149_45 r149_46 r149_47
theorem m149 : mFun Try.prog Try.f149 a149 = true := by decide +kernel
def c134_0 : ACode := .ops [⟨some 2, .mv (.c (.bool false)), none, []⟩] [0]
theorem r134_0 : type_of% (@rr _ _ c134_0.eq_1) := rr rfl
def c134_1 : ACode := .ops [⟨some 3, .mv (.t 0), none, []⟩,⟨some 4, .call 149 [.t 3], none, []⟩,⟨some 5, .bin .gtr (.t 4) (.c (.int .i64 0)), none, []⟩,⟨some 2, .mv (.t 5), none, []⟩] [2]
theorem r134_1 : type_of% (@rr _ _ c134_1.eq_1) := rr rfl
def c134_2 : ACode := .seq c134_1 .ret
theorem r134_2 : type_of% (@rr _ _ c134_2.eq_1) := rr rfl
def c134_3 : ACode := .seq c134_0 c134_2
theorem r134_3 : type_of% (@rr _ _ c134_3.eq_1) := rr rfl
def a134 : AFun := ⟨1, 6, c134_3, [.t 2]⟩
attribute [simp] r134_0 r134_1 r134_2 r134_3
theorem m134 : mFun Try.prog Try.f134 a134 = true := by decide +kernel
def c90_0 : ACode := .ops [⟨some 2, .box (.t 0) 10, none, []⟩,⟨some 4, .mv (.c (.nils)), none, []⟩,⟨some 5, .mv (.c (.bool false)), none, []⟩] [1, 2]
theorem r90_0 : type_of% (@rr _ _ c90_0.eq_1) := rr rfl
def c90_1 : ACode := .ops [⟨some 14, .mv (.t 1), none, []⟩,⟨some 15, .call 134 [.t 14], none, []⟩,⟨some 16, .un .not (.t 15), none, []⟩] [1, 2, 16]
theorem r90_1 : type_of% (@rr _ _ c90_1.eq_1) := rr rfl
def c90_2 : ACode := .ops [⟨some 4, .mv (.c (.nils)), none, []⟩,⟨some 5, .mv (.c (.bool false)), none, []⟩] [4, 5]
theorem r90_2 : type_of% (@rr _ _ c90_2.eq_1) := rr rfl
def c90_3 : ACode := .seq c90_2 .ret
theorem r90_3 : type_of% (@rr _ _ c90_3.eq_1) := rr rfl
def c90_4 : ACode := .cond (.t 16) c90_3 .skip
theorem r90_4 : type_of% (@rr _ _ c90_4.eq_1) := rr rfl
def c90_5 : ACode := .seq c90_1 c90_4
theorem r90_5 : type_of% (@rr _ _ c90_5.eq_1) := rr rfl
def c90_6 : ACode := .ops [⟨some 17, .load 10 true (.t 2), none, [2]⟩,⟨some 18, .mkrow 6 1 10 [.int .i64 0, .int .i64 0, .int .i64 0, .int .i64 0, .int .i64 0, .int .i64 0, .int .i64 0, .int .i64 0, .int .i64 0, .int .i64 0] [(0, 10, .t 17)], none, []⟩,⟨some 6, .mv (.t 18), none, []⟩] [1, 6]
theorem r90_6 : type_of% (@rr _ _ c90_6.eq_1) := rr rfl
def c90_7 : ACode := .ops [⟨some 7, .nil0 7 10, none, []⟩] [1, 6, 7]
theorem r90_7 : type_of% (@rr _ _ c90_7.eq_1) := rr rfl
def c90_8 : ACode := .ops [⟨some 19, .mv (.t 1), none, []⟩,⟨some 20, .len (.t 19), none, []⟩,⟨some 21, .mv (.c (.int .i64 0)), none, []⟩] [6, 7, 19, 20, 21]
theorem r90_8 : type_of% (@rr _ _ c90_8.eq_1) := rr rfl
def c90_9 : ACode := .ops [⟨some 22, .bin .lss (.t 21) (.t 20), none, []⟩] [6, 7, 19, 20, 21, 22]
theorem r90_9 : type_of% (@rr _ _ c90_9.eq_1) := rr rfl
def c90_10 : ACode := .cond (.t 22) .skip (.exit 0)
theorem r90_10 : type_of% (@rr _ _ c90_10.eq_1) := rr rfl
def c90_11 : ACode := .ops [⟨some 23, .ias (.t 19) (.t 21) 3, none, []⟩,⟨some 24, .load 3 true (.t 23), none, []⟩,⟨some 9, .alloc [.bool false, .int .i64 0, .int .i64 0], none, []⟩,⟨none, .store (.t 9) 3 (.t 24), none, [9]⟩] [6, 7, 9, 19, 20, 21]
theorem r90_11 : type_of% (@rr _ _ c90_11.eq_1) := rr rfl
def c90_12 : ACode := .ops [⟨some 25, .mv (.t 6), none, []⟩,⟨some 26, .len (.t 25), none, [6]⟩,⟨some 27, .bin .sub (.t 26) (.c (.int .i64 1)), none, []⟩,⟨some 10, .mv (.t 27), none, []⟩] [6, 7, 9, 10, 19, 20, 21]
theorem r90_12 : type_of% (@rr _ _ c90_12.eq_1) := rr rfl
def c90_13 : ACode := .ops [⟨some 28, .mv (.t 6), none, []⟩,⟨some 29, .mv (.t 10), none, []⟩,⟨some 30, .ias (.t 28) (.t 29) 10, none, [6]⟩,⟨some 31, .load 10 true (.t 30), none, [6]⟩,⟨some 11, .alloc [.int .i64 0, .int .i64 0, .int .i64 0, .int .i64 0, .int .i64 0, .int .i64 0, .int .i64 0, .int .i64 0, .int .i64 0, .int .i64 0], none, []⟩,⟨none, .store (.t 11) 10 (.t 31), none, [11]⟩] [6, 7, 9, 10, 11, 19, 20, 21]
theorem r90_13 : type_of% (@rr _ _ c90_13.eq_1) := rr rfl
def c90_14 : ACode := .ops [⟨some 32, .mv (.t 6), none, []⟩,⟨some 33, .mv (.t 10), none, []⟩,⟨some 34, .sl (.t 32) none (some (.t 33)) 10, none, [6]⟩,⟨some 6, .mv (.t 34), none, []⟩] [6, 7, 9, 11, 19, 20, 21]
theorem r90_14 : type_of% (@rr _ _ c90_14.eq_1) := rr rfl
def c90_15 : ACode := .ops [⟨some 35, .fad (.t 9) 0, none, [9]⟩,⟨some 36, .load 1 false (.t 35), none, [9]⟩] [6, 7, 9, 11, 19, 20, 21, 36]
theorem r90_15 : type_of% (@rr _ _ c90_15.eq_1) := rr rfl
def c90_16 : ACode := .ops [⟨some 37, .mv (.t 7), none, []⟩,⟨some 38, .load 10 true (.t 11), none, [11]⟩,⟨some 39, .mkrow 39 1 10 [.int .i64 0, .int .i64 0, .int .i64 0, .int .i64 0, .int .i64 0, .int .i64 0, .int .i64 0, .int .i64 0, .int .i64 0, .int .i64 0] [(0, 10, .t 38)], none, []⟩,⟨some 40, .app 7 [7] (.t 37) (.t 39) 10, none, [7, 39]⟩,⟨some 7, .mv (.t 40), none, []⟩] [6, 7, 19, 20, 21]
theorem r90_16 : type_of% (@rr _ _ c90_16.eq_1) := rr rfl
def c90_17 : ACode := .seq c90_16 (.exit 1)
theorem r90_17 : type_of% (@rr _ _ c90_17.eq_1) := rr rfl
def c90_18 : ACode := .cond (.t 36) c90_17 .skip
theorem r90_18 : type_of% (@rr _ _ c90_18.eq_1) := rr rfl
def c90_19 : ACode := .seq c90_15 c90_18
theorem r90_19 : type_of% (@rr _ _ c90_19.eq_1) := rr rfl
def c90_20 : ACode := .ops [⟨some 41, .fad (.t 9) 2, none, [9]⟩,⟨some 42, .load 1 false (.t 41), none, [9]⟩,⟨some 43, .fad (.t 9) 1, none, [9]⟩,⟨some 44, .load 1 false (.t 43), none, [9]⟩,⟨some 45, .iad (.t 11) (.t 44) 2 5, none, [11]⟩,⟨some 46, .fad (.t 45) 0, none, [11]⟩,⟨some 47, .load 1 false (.t 46), none, [11]⟩,⟨some 48, .bin .lss (.t 42) (.t 47), none, []⟩,⟨some 49, .mv (.t 48), none, []⟩,⟨some 50, .fad (.t 9) 2, some (49, false), [9]⟩,⟨some 51, .load 1 false (.t 50), some (49, false), [9]⟩,⟨some 52, .fad (.t 9) 1, some (49, false), [9]⟩,⟨some 53, .load 1 false (.t 52), some (49, false), [9]⟩,⟨some 54, .iad (.t 11) (.t 53) 2 5, some (49, false), [11]⟩,⟨some 55, .fad (.t 54) 1, some (49, false), [11]⟩,⟨some 56, .load 1 false (.t 55), some (49, false), [11]⟩,⟨some 57, .bin .geq (.t 51) (.t 56), some (49, false), []⟩,⟨some 58, .pick (.t 49) (.c (.bool true)) (.t 57), none, []⟩] [6, 7, 9, 11, 19, 20, 21, 58]
theorem r90_20 : type_of% (@rr _ _ c90_20.eq_1) := rr rfl
def c90_21 : ACode := .ops [⟨some 4, .mv (.c (.nils)), none, []⟩,⟨some 5, .mv (.c (.bool false)), none, []⟩] [4, 5]
theorem r90_21 : type_of% (@rr _ _ c90_21.eq_1) := rr rfl
def c90_22 : ACode := .seq c90_21 .ret
theorem r90_22 : type_of% (@rr _ _ c90_22.eq_1) := rr rfl
def c90_23 : ACode := .cond (.t 58) c90_22 .skip
theorem r90_23 : type_of% (@rr _ _ c90_23.eq_1) := rr rfl
def c90_24 : ACode := .seq c90_20 c90_23
theorem r90_24 : type_of% (@rr _ _ c90_24.eq_1) := rr rfl
def c90_25 : ACode := .ops [⟨some 60, .load 10 true (.t 11), none, [11]⟩,⟨some 61, .fad (.t 9) 1, none, [9]⟩,⟨some 62, .load 1 false (.t 61), none, [9]⟩,⟨some 63, .fad (.t 9) 2, none, [9]⟩,⟨some 64, .load 1 false (.t 63), none, [9]⟩,⟨some 65, .call 58 [.t 60, .t 62, .t 64], none, []⟩,⟨some 59, .mv (.t 65), none, []⟩,⟨some 66, .ext (.t 59) 0, none, []⟩,⟨some 67, .ext (.t 59) 1, none, []⟩,⟨some 12, .alloc [.int .i64 0, .int .i64 0, .int .i64 0, .int .i64 0, .int .i64 0, .int .i64 0, .int .i64 0, .int .i64 0, .int .i64 0, .int .i64 0], none, []⟩,⟨some 13, .alloc [.int .i64 0, .int .i64 0, .int .i64 0, .int .i64 0, .int .i64 0, .int .i64 0, .int .i64 0, .int .i64 0, .int .i64 0, .int .i64 0], none, []⟩,⟨none, .store (.t 12) 10 (.t 66), none, [12]⟩,⟨none, .store (.t 13) 10 (.t 67), none, [13]⟩] [6, 7, 12, 13, 19, 20, 21]
theorem r90_25 : type_of% (@rr _ _ c90_25.eq_1) := rr rfl
def c90_26 : ACode := .ops [⟨some 68, .mv (.t 6), none, []⟩,⟨some 69, .load 10 true (.t 13), none, [13]⟩,⟨some 70, .load 10 true (.t 12), none, [12]⟩,⟨some 71, .mkrow 71 2 10 [.int .i64 0, .int .i64 0, .int .i64 0, .int .i64 0, .int .i64 0, .int .i64 0, .int .i64 0, .int .i64 0, .int .i64 0, .int .i64 0] [(0, 10, .t 69), (10, 10, .t 70)], none, []⟩,⟨some 72, .app 6 [6] (.t 68) (.t 71) 10, none, [6, 71]⟩,⟨some 6, .mv (.t 72), none, []⟩] [6, 7, 19, 20, 21]
theorem r90_26 : type_of% (@rr _ _ c90_26.eq_1) := rr rfl
def c90_27 : ACode := .seq c90_25 c90_26
theorem r90_27 : type_of% (@rr _ _ c90_27.eq_1) := rr rfl
def c90_28 : ACode := .seq c90_24 c90_27
theorem r90_28 : type_of% (@rr _ _ c90_28.eq_1) := rr rfl
def c90_29 : ACode := .seq c90_19 c90_28
theorem r90_29 : type_of% (@rr _ _ c90_29.eq_1) := rr rfl
def c90_30 : ACode := .seq c90_14 c90_29
theorem r90_30 : type_of% (@rr _ _ c90_30.eq_1) := rr rfl
def c90_31 : ACode := .seq c90_13 c90_30
theorem r90_31 : type_of% (@rr _ _ c90_31.eq_1) := rr rfl
def c90_32 : ACode := .seq c90_12 c90_31
theorem r90_32 : type_of% (@rr _ _ c90_32.eq_1) := rr rfl
def c90_33 : ACode := .seq c90_11 c90_32
theorem r90_33 : type_of% (@rr _ _ c90_33.eq_1) := rr rfl
def c90_34 : ACode := .block 1 c90_33
theorem r90_34 : type_of% (@rr _ _ c90_34.eq_1) := rr rfl
def c90_35 : ACode := .ops [⟨some 73, .bin .add (.t 21) (.c (.int .i64 1)), none, []⟩,⟨some 21, .mv (.t 73), none, []⟩] [6, 7, 19, 20, 21]
theorem r90_35 : type_of% (@rr _ _ c90_35.eq_1) := rr rfl
def c90_36 : ACode := .seq c90_34 c90_35
theorem r90_36 : type_of% (@rr _ _ c90_36.eq_1) := rr rfl
def c90_37 : ACode := .seq c90_10 c90_36
theorem r90_37 : type_of% (@rr _ _ c90_37.eq_1) := rr rfl
def c90_38 : ACode := .seq c90_9 c90_37
theorem r90_38 : type_of% (@rr _ _ c90_38.eq_1) := rr rfl
def c90_39 : ACode := .keep [6, 7, 19, 20, 21] [6, 7] c90_38
theorem r90_39 : type_of% (@rr _ _ c90_39.eq_1) := rr rfl
def c90_40 : ACode := .loop c90_39
theorem r90_40 : type_of% (@rr _ _ c90_40.eq_1) := rr rfl
def c90_41 : ACode := .block 0 c90_40
theorem r90_41 : type_of% (@rr _ _ c90_41.eq_1) := rr rfl
def c90_42 : ACode := .seq c90_8 c90_41
theorem r90_42 : type_of% (@rr _ _ c90_42.eq_1) := rr rfl
def c90_43 : ACode := .ops [⟨some 74, .mv (.t 7), none, []⟩,⟨some 4, .mv (.t 74), none, []⟩,⟨some 5, .mv (.c (.bool true)), none, []⟩] [4, 5]
theorem r90_43 : type_of% (@rr _ _ c90_43.eq_1) := rr rfl
def c90_44 : ACode := .seq c90_43 .ret
theorem r90_44 : type_of% (@rr _ _ c90_44.eq_1) := rr rfl
def c90_45 : ACode := .seq c90_42 c90_44
theorem r90_45 : type_of% (@rr _ _ c90_45.eq_1) := rr rfl
def c90_46 : ACode := .seq c90_7 c90_45
theorem r90_46 : type_of% (@rr _ _ c90_46.eq_1) := rr rfl
def c90_47 : ACode := .seq c90_6 c90_46
theorem r90_47 : type_of% (@rr _ _ c90_47.eq_1) := rr rfl
def c90_48 : ACode := .seq c90_5 c90_47
theorem r90_48 : type_of% (@rr _ _ c90_48.eq_1) := rr rfl
def c90_49 : ACode := .seq c90_0 c90_48
theorem r90_49 : type_of% (@rr _ _ c90_49.eq_1) := rr rfl
def a90 : AFun := ⟨2, 75, c90_49, [.t 4, .t 5]⟩
attribute [simp] r90_0 r90_1 r90_2 r90_3 r90_4 r90_5 r90_6 r90_7 r90_8 r90_9 r90_10 r90_11 r90_12 r90_13 r90_14 r90_15 r90_16 r90_17 r90_18 r90_19 r90_20 r90_21 r90_22 r90_23 r90_24 r90_25 r90_26 r90_27 r90_28 r90_29 r90_30 r90_31 r90_32 r90_33 r90_34 r90_35 r90_36 r90_37 r90_38 r90_39 r90_40 r90_41 r90_42 r90_43 r90_44 r90_45 r90_46 r90_47 r90_48 r90_49
theorem m90 : mFun Try.prog Try.f90 a90 = true := by decide +kernel
def c91_0 : ACode := .ops [⟨some 3, .box (.t 0) 6, none, []⟩,⟨some 4, .box (.t 1) 17, none, []⟩,⟨some 5, .box (.t 2) 10, none, []⟩,⟨some 6, .mv (.c (.bool false)), none, []⟩] [3, 4, 5]
theorem r91_0 : type_of% (@rr _ _ c91_0.eq_1) := rr rfl
def c91_1 : ACode := .ops [⟨some 15, .load 10 true (.t 5), none, [5]⟩,⟨some 16, .call 66 [.t 15], none, []⟩] [3, 4, 5, 16]
theorem r91_1 : type_of% (@rr _ _ c91_1.eq_1) := rr rfl
def c91_2 : ACode := .ops [⟨some 6, .mv (.c (.bool true)), none, []⟩] [6]
theorem r91_2 : type_of% (@rr _ _ c91_2.eq_1) := rr rfl
def c91_3 : ACode := .seq c91_2 .ret
theorem r91_3 : type_of% (@rr _ _ c91_3.eq_1) := rr rfl
def c91_4 : ACode := .cond (.t 16) c91_3 .skip
theorem r91_4 : type_of% (@rr _ _ c91_4.eq_1) := rr rfl
def c91_5 : ACode := .seq c91_1 c91_4
theorem r91_5 : type_of% (@rr _ _ c91_5.eq_1) := rr rfl
def c91_6 : ACode := .ops [⟨some 18, .load 6 true (.t 3), none, [3]⟩,⟨some 19, .fad (.t 4) 1, none, [4]⟩,⟨some 20, .load 1 false (.t 19), none, [4]⟩,⟨some 21, .load 10 true (.t 5), none, [5]⟩,⟨some 22, .call 38 [.t 18, .t 20, .t 21], none, []⟩,⟨some 17, .mv (.t 22), none, []⟩,⟨some 23, .ext (.t 17) 0, none, []⟩,⟨some 24, .ext (.t 17) 1, none, []⟩,⟨some 7, .mv (.t 23), none, []⟩,⟨some 8, .mv (.t 24), none, []⟩] [3, 4, 5, 7, 8]
theorem r91_6 : type_of% (@rr _ _ c91_6.eq_1) := rr rfl
def c91_7 : ACode := .ops [⟨some 25, .fad (.t 4) 0, none, [4]⟩,⟨some 26, .load 1 false (.t 25), none, [4]⟩] [3, 4, 5, 7, 8, 26]
theorem r91_7 : type_of% (@rr _ _ c91_7.eq_1) := rr rfl
def c91_8 : ACode := .ops [⟨some 28, .bin .eql (.t 26) (.c (.int .i64 1)), none, []⟩,⟨some 27, .mv (.t 28), none, []⟩] [3, 4, 5, 7, 8, 26, 27]
theorem r91_8 : type_of% (@rr _ _ c91_8.eq_1) := rr rfl
def c91_9 : ACode := .ops [⟨some 29, .fad (.t 4) 12, none, [4]⟩,⟨some 30, .load 1 false (.t 29), none, [4]⟩,⟨some 31, .mv (.t 7), none, []⟩,⟨some 32, .bin .leq (.t 30) (.t 31), none, []⟩,⟨some 33, .mv (.t 32), none, []⟩,⟨some 34, .mv (.t 8), some (33, true), []⟩,⟨some 35, .fad (.t 4) 13, some (33, true), [4]⟩,⟨some 36, .load 1 false (.t 35), some (33, true), [4]⟩,⟨some 37, .bin .leq (.t 34) (.t 36), some (33, true), []⟩,⟨some 38, .pick (.t 33) (.t 37) (.c (.bool false)), none, []⟩,⟨some 6, .mv (.t 38), none, []⟩] [6]
theorem r91_9 : type_of% (@rr _ _ c91_9.eq_1) := rr rfl
def c91_10 : ACode := .seq c91_9 .ret
theorem r91_10 : type_of% (@rr _ _ c91_10.eq_1) := rr rfl
def c91_11 : ACode := .ops [⟨some 40, .bin .eql (.t 26) (.c (.int .i64 2)), none, []⟩,⟨some 39, .mv (.t 40), none, []⟩] [3, 4, 5, 7, 8, 39]
theorem r91_11 : type_of% (@rr _ _ c91_11.eq_1) := rr rfl
def c91_12 : ACode := .ops [⟨some 41, .fad (.t 3) 1, none, [3]⟩,⟨some 42, .load 1 false (.t 41), none, [3]⟩,⟨some 43, .mv (.c (.int .i64 0)), none, []⟩] [3, 4, 5, 7, 42, 43]
theorem r91_12 : type_of% (@rr _ _ c91_12.eq_1) := rr rfl
def c91_13 : ACode := .ops [⟨some 44, .bin .lss (.t 43) (.t 42), none, []⟩] [3, 4, 5, 7, 42, 43, 44]
theorem r91_13 : type_of% (@rr _ _ c91_13.eq_1) := rr rfl
def c91_14 : ACode := .cond (.t 44) .skip (.exit 1)
theorem r91_14 : type_of% (@rr _ _ c91_14.eq_1) := rr rfl
def c91_15 : ACode := .ops [⟨some 45, .mv (.t 43), none, []⟩,⟨some 9, .mv (.t 45), none, []⟩] [3, 4, 5, 7, 9, 42, 43]
theorem r91_15 : type_of% (@rr _ _ c91_15.eq_1) := rr rfl
def c91_16 : ACode := .ops [⟨some 47, .load 6 true (.t 3), none, [3]⟩,⟨some 48, .mv (.t 9), none, []⟩,⟨some 49, .load 10 true (.t 5), none, [5]⟩,⟨some 50, .call 38 [.t 47, .t 48, .t 49], none, []⟩,⟨some 46, .mv (.t 50), none, []⟩,⟨some 51, .ext (.t 46) 0, none, []⟩,⟨some 52, .ext (.t 46) 1, none, []⟩,⟨some 10, .mv (.t 51), none, []⟩,⟨some 11, .mv (.t 52), none, []⟩] [3, 4, 5, 7, 9, 11, 42, 43]
theorem r91_16 : type_of% (@rr _ _ c91_16.eq_1) := rr rfl
def c91_17 : ACode := .ops [⟨some 53, .mv (.t 9), none, []⟩,⟨some 54, .fad (.t 4) 1, none, [4]⟩,⟨some 55, .load 1 false (.t 54), none, [4]⟩,⟨some 56, .bin .neq (.t 53) (.t 55), none, []⟩,⟨some 57, .mv (.t 56), none, []⟩,⟨some 58, .mv (.t 11), some (57, true), []⟩,⟨some 59, .mv (.t 7), some (57, true), []⟩,⟨some 60, .bin .geq (.t 58) (.t 59), some (57, true), []⟩,⟨some 61, .pick (.t 57) (.t 60) (.c (.bool false)), none, []⟩] [3, 4, 5, 7, 42, 43, 61]
theorem r91_17 : type_of% (@rr _ _ c91_17.eq_1) := rr rfl
def c91_18 : ACode := .ops [⟨some 6, .mv (.c (.bool false)), none, []⟩] [6]
theorem r91_18 : type_of% (@rr _ _ c91_18.eq_1) := rr rfl
def c91_19 : ACode := .seq c91_18 .ret
theorem r91_19 : type_of% (@rr _ _ c91_19.eq_1) := rr rfl
def c91_20 : ACode := .cond (.t 61) c91_19 .skip
theorem r91_20 : type_of% (@rr _ _ c91_20.eq_1) := rr rfl
def c91_21 : ACode := .seq c91_17 c91_20
theorem r91_21 : type_of% (@rr _ _ c91_21.eq_1) := rr rfl
def c91_22 : ACode := .seq c91_16 c91_21
theorem r91_22 : type_of% (@rr _ _ c91_22.eq_1) := rr rfl
def c91_23 : ACode := .seq c91_15 c91_22
theorem r91_23 : type_of% (@rr _ _ c91_23.eq_1) := rr rfl
def c91_24 : ACode := .block 2 c91_23
theorem r91_24 : type_of% (@rr _ _ c91_24.eq_1) := rr rfl
def c91_25 : ACode := .ops [⟨some 62, .bin .add (.t 43) (.c (.int .i64 1)), none, []⟩,⟨some 43, .mv (.t 62), none, []⟩] [3, 4, 5, 7, 42, 43]
theorem r91_25 : type_of% (@rr _ _ c91_25.eq_1) := rr rfl
def c91_26 : ACode := .seq c91_24 c91_25
theorem r91_26 : type_of% (@rr _ _ c91_26.eq_1) := rr rfl
def c91_27 : ACode := .seq c91_14 c91_26
theorem r91_27 : type_of% (@rr _ _ c91_27.eq_1) := rr rfl
def c91_28 : ACode := .seq c91_13 c91_27
theorem r91_28 : type_of% (@rr _ _ c91_28.eq_1) := rr rfl
def c91_29 : ACode := .keep [3, 4, 5, 7, 42, 43] [3, 4, 5] c91_28
theorem r91_29 : type_of% (@rr _ _ c91_29.eq_1) := rr rfl
def c91_30 : ACode := .loop c91_29
theorem r91_30 : type_of% (@rr _ _ c91_30.eq_1) := rr rfl
def c91_31 : ACode := .block 1 c91_30
theorem r91_31 : type_of% (@rr _ _ c91_31.eq_1) := rr rfl
def c91_32 : ACode := .seq c91_12 c91_31
theorem r91_32 : type_of% (@rr _ _ c91_32.eq_1) := rr rfl
def c91_33 : ACode := .ops [⟨some 6, .mv (.c (.bool true)), none, []⟩] [6]
theorem r91_33 : type_of% (@rr _ _ c91_33.eq_1) := rr rfl
def c91_34 : ACode := .seq c91_33 .ret
theorem r91_34 : type_of% (@rr _ _ c91_34.eq_1) := rr rfl
def c91_35 : ACode := .seq c91_32 c91_34
theorem r91_35 : type_of% (@rr _ _ c91_35.eq_1) := rr rfl
def c91_36 : ACode := .cond (.t 39) c91_35 .skip
theorem r91_36 : type_of% (@rr _ _ c91_36.eq_1) := rr rfl
def c91_37 : ACode := .seq c91_11 c91_36
theorem r91_37 : type_of% (@rr _ _ c91_37.eq_1) := rr rfl
def c91_38 : ACode := .cond (.t 27) c91_10 c91_37
theorem r91_38 : type_of% (@rr _ _ c91_38.eq_1) := rr rfl
def c91_39 : ACode := .seq c91_8 c91_38
theorem r91_39 : type_of% (@rr _ _ c91_39.eq_1) := rr rfl
def c91_40 : ACode := .block 0 c91_39
theorem r91_40 : type_of% (@rr _ _ c91_40.eq_1) := rr rfl
def c91_41 : ACode := .seq c91_7 c91_40
theorem r91_41 : type_of% (@rr _ _ c91_41.eq_1) := rr rfl
def c91_42 : ACode := .ops [⟨some 63, .fad (.t 4) 14, none, [4]⟩,⟨some 64, .load 1 false (.t 63), none, [4]⟩,⟨some 65, .iad (.t 5) (.t 64) 2 5, none, [5]⟩,⟨some 66, .fad (.t 65) 0, none, [5]⟩,⟨some 67, .load 1 false (.t 66), none, [5]⟩,⟨some 68, .iad (.t 5) (.c (.int .i64 4)) 2 5, none, [5]⟩,⟨some 69, .fad (.t 68) 1, none, [5]⟩,⟨some 70, .load 1 false (.t 69), none, [5]⟩,⟨some 71, .bin .geq (.t 67) (.t 70), none, []⟩] [3, 4, 5, 7, 8, 71]
theorem r91_42 : type_of% (@rr _ _ c91_42.eq_1) := rr rfl
def c91_43 : ACode := .ops [⟨some 6, .mv (.c (.bool true)), none, []⟩] [6]
theorem r91_43 : type_of% (@rr _ _ c91_43.eq_1) := rr rfl
def c91_44 : ACode := .seq c91_43 .ret
theorem r91_44 : type_of% (@rr _ _ c91_44.eq_1) := rr rfl
def c91_45 : ACode := .cond (.t 71) c91_44 .skip
theorem r91_45 : type_of% (@rr _ _ c91_45.eq_1) := rr rfl
def c91_46 : ACode := .seq c91_42 c91_45
theorem r91_46 : type_of% (@rr _ _ c91_46.eq_1) := rr rfl
def c91_47 : ACode := .ops [⟨some 72, .load 10 true (.t 5), none, [5]⟩,⟨some 12, .alloc [.int .i64 0, .int .i64 0, .int .i64 0, .int .i64 0, .int .i64 0, .int .i64 0, .int .i64 0, .int .i64 0, .int .i64 0, .int .i64 0], none, []⟩,⟨none, .store (.t 12) 10 (.t 72), none, [12]⟩] [3, 4, 5, 7, 8, 12]
theorem r91_47 : type_of% (@rr _ _ c91_47.eq_1) := rr rfl
def c91_48 : ACode := .ops [⟨some 73, .fad (.t 4) 14, none, [4]⟩,⟨some 74, .load 1 false (.t 73), none, [4]⟩,⟨some 75, .iad (.t 5) (.c (.int .i64 4)) 2 5, none, [5]⟩,⟨some 76, .load 2 true (.t 75), none, [5]⟩,⟨some 77, .iad (.t 12) (.t 74) 2 5, none, [12]⟩,⟨none, .store (.t 77) 2 (.t 76), none, [12]⟩] [3, 4, 7, 8, 12]
theorem r91_48 : type_of% (@rr _ _ c91_48.eq_1) := rr rfl
def c91_49 : ACode := .ops [⟨some 79, .load 6 true (.t 3), none, [3]⟩,⟨some 80, .fad (.t 4) 1, none, [4]⟩,⟨some 81, .load 1 false (.t 80), none, [4]⟩,⟨some 82, .load 10 true (.t 12), none, [12]⟩,⟨some 83, .call 38 [.t 79, .t 81, .t 82], none, []⟩,⟨some 78, .mv (.t 83), none, []⟩,⟨some 84, .ext (.t 78) 0, none, []⟩,⟨some 85, .ext (.t 78) 1, none, []⟩,⟨some 13, .mv (.t 84), none, []⟩,⟨some 14, .mv (.t 85), none, []⟩] [4, 7, 8, 13, 14]
theorem r91_49 : type_of% (@rr _ _ c91_49.eq_1) := rr rfl
def c91_50 : ACode := .ops [⟨some 86, .fad (.t 4) 15, none, [4]⟩,⟨some 87, .load 1 false (.t 86), none, [4]⟩] [7, 8, 13, 14, 87]
theorem r91_50 : type_of% (@rr _ _ c91_50.eq_1) := rr rfl
def c91_51 : ACode := .ops [⟨some 88, .mv (.t 14), none, []⟩,⟨some 89, .mv (.t 7), none, []⟩,⟨some 90, .bin .leq (.t 88) (.t 89), none, []⟩,⟨some 6, .mv (.t 90), none, []⟩] [6]
theorem r91_51 : type_of% (@rr _ _ c91_51.eq_1) := rr rfl
def c91_52 : ACode := .seq c91_51 .ret
theorem r91_52 : type_of% (@rr _ _ c91_52.eq_1) := rr rfl
def c91_53 : ACode := .cond (.t 87) c91_52 .skip
theorem r91_53 : type_of% (@rr _ _ c91_53.eq_1) := rr rfl
def c91_54 : ACode := .seq c91_50 c91_53
theorem r91_54 : type_of% (@rr _ _ c91_54.eq_1) := rr rfl
def c91_55 : ACode := .ops [⟨some 91, .mv (.t 13), none, []⟩,⟨some 92, .mv (.t 8), none, []⟩,⟨some 93, .bin .geq (.t 91) (.t 92), none, []⟩,⟨some 6, .mv (.t 93), none, []⟩] [6]
theorem r91_55 : type_of% (@rr _ _ c91_55.eq_1) := rr rfl
def c91_56 : ACode := .seq c91_55 .ret
theorem r91_56 : type_of% (@rr _ _ c91_56.eq_1) := rr rfl
def c91_57 : ACode := .seq c91_54 c91_56
theorem r91_57 : type_of% (@rr _ _ c91_57.eq_1) := rr rfl
def c91_58 : ACode := .seq c91_49 c91_57
theorem r91_58 : type_of% (@rr _ _ c91_58.eq_1) := rr rfl
def c91_59 : ACode := .seq c91_48 c91_58
theorem r91_59 : type_of% (@rr _ _ c91_59.eq_1) := rr rfl
def c91_60 : ACode := .seq c91_47 c91_59
theorem r91_60 : type_of% (@rr _ _ c91_60.eq_1) := rr rfl
def c91_61 : ACode := .seq c91_46 c91_60
theorem r91_61 : type_of% (@rr _ _ c91_61.eq_1) := rr rfl
def c91_62 : ACode := .seq c91_41 c91_61
theorem r91_62 : type_of% (@rr _ _ c91_62.eq_1) := rr rfl
def c91_63 : ACode := .seq c91_6 c91_62
theorem r91_63 : type_of% (@rr _ _ c91_63.eq_1) := rr rfl
def c91_64 : ACode := .seq c91_5 c91_63
theorem r91_64 : type_of% (@rr _ _ c91_64.eq_1) := rr rfl
def c91_65 : ACode := .seq c91_0 c91_64
theorem r91_65 : type_of% (@rr _ _ c91_65.eq_1) := rr rfl
def a91 : AFun := ⟨3, 94, c91_65, [.t 6]⟩
attribute [simp] r91_0 r91_1 r91_2 r91_3 r91_4 r91_5 r91_6 r91_7 r91_8 r91_9 r91_10 r91_11 r91_12 r91_13 r91_14 r91_15 r91_16 r91_17 r91_18 r91_19 r91_20 r91_21 r91_22 r91_23 r91_24 r91_25 r91_26 r91_27 r91_28 r91_29 r91_30 r91_31 r91_32 r91_33 r91_34 r91_35 r91_36 r91_37 r91_38 r91_39 r91_40 r91_41 r91_42 r91_43 r91_44 r91_45 r91_46 r91_47 r91_48 r91_49 r91_50 r91_51 r91_52 r91_53 r91_54 r91_55 r91_56 r91_57 r91_58 r91_59 r91_60 r91_61 r91_62 r91_63 r91_64 r91_65
theorem m91 : mFun Try.prog Try.f91 a91 = true := by decide +kernel
def rightS (s : Step) : Bool := if s.sum then decide (s.place = 0) && decide (s.cut = 0) else decide (0 ≤ s.place) && decide (s.place ≤ 4)
theorem runs_pright (s : Step) (r : Bool) (h : some (rightS s) = some r) : Runs (tbl []) a162 [Arg.enc s] (Arg.enc r) := by
  cases h
  refine ⟨rfl, fun g => run_def ?_⟩
  unfold a162 rightS
  obtain ⟨sum, place, cut⟩ := s
  cases sum
  · by_cases h0 : 0 ≤ place <;> simp -implicitDefEqProofs [h0]
  · by_cases h0 : place = 0 <;> by_cases h1 : cut = 0 <;> simp -implicitDefEqProofs [h0, h1]
theorem c_pright : Contract Try.prog 162 (sp1 fun s => some (rightS s)) :=
  contract_of_runs mixed tbl_nil Try.func162 m162 (sp1_runs runs_pright)
def deepN : Nat → Nat → List Step → Nat
  | left, most, [] => if left = 0 ∧ most ≤ 200 then most else 0
  | left, most, s :: l => if left = 0 then 0 else if rightS s = true then (if s.sum then deepN (left - 1) most l else deepN (left + 1) (if most < left + 1 then left + 1 else most) l) else 0
def deepV (l : List Step) : Int := if l.length ≤ 65536 then (deepN 1 1 l : Nat) else 0
theorem rd_step (l : List Step) (i : Nat) (h : i < l.length) : rd (encL l) (i * 3) 3 true = some (Arg.enc l[i]) := rd_row l i h
theorem runs_deep (l : List Step) (r : Int) (h : some (deepV l) = some r) : Runs (tbl [(162, sp1 fun s => some (rightS s))]) a149 [Arg.enc l] (Arg.enc r) := by
  cases h
  refine ⟨rfl, fun g => run_def ?_⟩
  unfold a149 deepV
  by_cases b1 : l.length ≤ maxN
  case neg => simp -implicitDefEqProofs [b1]
  by_cases h6 : l.length ≤ 65536
  case neg =>
    have h6' : (65536 : Int) < l.length := by omega
    simp -implicitDefEqProofs [b1, h6, h6']
  have h6' : ¬ (65536 : Int) < l.length := by omega
  rw [if_pos h6]
  generalize hD : deepN 1 1 l = D at *
  simp -implicitDefEqProofs [b1, h6']
  refine run_while (c := c149_31) (fun n s => ∃ (i left most : Nat) (g : Nat → Nat), i + n = l.length ∧ left ≤ i + 1 ∧ most ≤ i + 1 ∧ deepN left most (l.drop i) = D ∧ s = ⟨[(3, .int .i64 left), (4, .int .i64 most), (10, .lst l.length (encL l)), (11, .int .i64 l.length), (12, .int .i64 i)], [], g⟩) l.length ⟨0, 1, 1, g, by omega, by omega, by omega, by simpa using hD, by simp⟩ ?_
  rintro n s ⟨i, left, most, g, hi, hl, hmo, hE, rfl⟩
  by_cases h1 : i < l.length
  case pos =>
    have w1 : IntKind.i64.wrap ((i : Int) + 1) = (i : Int) + 1 := wrap64 (by omega) (by omega)
    have hrow := rd_step l i h1
    rw [List.drop_eq_getElem_cons h1, deepN] at hE
    generalize l[i] = s at *
    obtain ⟨sm, pl, ct⟩ := s
    by_cases h0 : left = 0
    case pos =>
      subst h0
      rw [if_pos rfl] at hE
      subst hE
      simp -implicitDefEqProofs [h1, hrow]
    rw [if_neg h0] at hE
    have h0' : ¬ (left : Int) = 0 := by omega
    cases hr : rightS ⟨sm, pl, ct⟩
    case false =>
      rw [hr, if_neg (by simp)] at hE
      subst hE
      simp -implicitDefEqProofs [h1, hrow, h0, h0', hr]
    rw [hr, if_pos rfl] at hE
    simp only at hE
    cases sm
    case true =>
      rw [if_pos rfl] at hE
      have w2 : IntKind.i64.wrap ((left : Int) - 1) = ((left - 1 : Nat) : Int) := by rw [wrap64 (by omega) (by omega)]; omega
      simp -implicitDefEqProofs [h1, hrow, h0, h0', hr, w1, w2]
      exact ⟨n - 1, by omega, i + 1, by omega, left - 1, by omega, most, by omega, hE, rfl, rfl, by omega⟩
    case false =>
      rw [if_neg (by simp)] at hE
      have w2 : IntKind.i64.wrap ((left : Int) + 1) = (left : Int) + 1 := wrap64 (by omega) (by omega)
      by_cases hm : most < left + 1
      · rw [if_pos hm] at hE
        have hm' : (most : Int) < (left : Int) + 1 := by omega
        simp -implicitDefEqProofs [h1, hrow, h0, h0', hr, w1, w2, hm']
        exact ⟨n - 1, by omega, i + 1, by omega, left + 1, by omega, left + 1, by omega, hE, by omega, by omega, by omega⟩
      · rw [if_neg hm] at hE
        have hm' : ¬ (most : Int) < (left : Int) + 1 := by omega
        simp -implicitDefEqProofs [h1, hrow, h0, h0', hr, w1, w2, hm']
        exact ⟨n - 1, by omega, i + 1, by omega, left + 1, by omega, most, by omega, hE, by omega, by omega, by omega⟩
  case neg =>
    have hil : i = l.length := by omega
    subst hil
    rw [List.drop_length, deepN] at hE
    by_cases h0 : left = 0
    case neg =>
      rw [if_neg (fun h => h0 h.1)] at hE
      subst hE
      have h0' : ¬ (left : Int) = 0 := by omega
      simp -implicitDefEqProofs [h1, h0, h0']
    subst h0
    by_cases hm : most ≤ 200
    · rw [if_pos ⟨rfl, hm⟩] at hE
      subst hE
      have hm' : ¬ (200 : Int) < most := by omega
      simp -implicitDefEqProofs [h1, hm']
    · rw [if_neg (fun h => hm h.2)] at hE
      subst hE
      have hm' : (200 : Int) < most := by omega
      simp -implicitDefEqProofs [h1, hm']
theorem c_deep : Contract Try.prog 149 (sp1 fun l => some (deepV l)) :=
  contract_of_runs mixed (tbl_cons c_pright tbl_nil) Try.func149 m149 (sp1_runs runs_deep)
theorem runs_pRight (l : List Step) (r : Bool) (h : some (decide (0 < deepV l)) = some r) : Runs (tbl [(149, sp1 fun l => some (deepV l))]) a134 [Arg.enc l] (Arg.enc r) := by
  cases h
  refine ⟨rfl, fun g => run_def ?_⟩
  unfold a134
  simp -implicitDefEqProofs []
theorem c_pRight : Contract Try.prog 134 (sp1 fun l => some (decide (0 < deepV l))) :=
  contract_of_runs mixed (tbl_cons c_deep tbl_nil) Try.func134 m134 (sp1_runs runs_pRight)
def walkS : List Box → List Step → Option (List Box)
  | [], [] => some []
  | _ :: _, [] => none
  | [], _ :: _ => none
  | b :: bs, s :: l => if s.sum then (walkS bs l).map (b :: ·) else if (b.get s.place).lo ≤ s.cut ∧ s.cut < (b.get s.place).hi then walkS ((cutB b s.place s.cut).1 :: (cutB b s.place s.cut).2 :: bs) l else none
noncomputable def PSumsC (b : Box) (l : List Step) : Option (List Box × Bool) := Part (okB b) (if 0 < deepV l then (match walkS [b] l with
  | some out => (out, true)
  | none => ([], false)) else ([], false))
theorem box_cells (b : Box) {k : Int} (h0 : 0 ≤ k) (h4 : k ≤ 4) : rd (Row.enc b) (k.toNat * 2) 1 false = some (.int .i64 (b.get k).lo) ∧ rd (Row.enc b) (k.toNat * 2 + 1) 1 false = some (.int .i64 (b.get k).hi) := by
  have h1 := rd_nlo b k.toNat (by omega)
  have h2 := rd_nhi b k.toNat (by omega)
  rw [show ((k.toNat : Nat) : Int) = k by omega] at h1 h2
  exact ⟨h1, h2⟩
theorem runs_pSums (b : Box) (l : List Step) (r : List Box × Bool) (h : PSumsC b l = some r) : Runs (tbl [(134, sp1 fun l => some (decide (0 < deepV l))), (58, sp3 CutB)]) a90 [Arg.enc b, Arg.enc l] (Arg.enc r) := by
  obtain ⟨hb, rfl⟩ := part_some h
  clear h
  refine ⟨rfl, fun g => run_def ?_⟩
  unfold a90
  by_cases hd : 0 < deepV l
  case neg => simp -implicitDefEqProofs [hd, encL_nil]
  rw [if_pos hd]
  have h6 : l.length ≤ 65536 := by
    unfold deepV at hd
    split at hd
    · assumption
    · omega
  have b1 : l.length ≤ maxN := by unfold maxN; omega
  have hd1 : 0 < deepN 1 1 l := by
    unfold deepV at hd
    rw [if_pos h6] at hd
    omega
  generalize hres : walkS [b] l = res at *
  simp -implicitDefEqProofs [hd, b1]
  refine run_while (c := c90_38) (fun n s => ∃ (i most : Nat) (R O : List Box) (G : List AV) (g : Nat → Nat), i + n = l.length ∧ R.length ≤ i + 1 ∧ O.length ≤ i ∧ 0 < deepN R.length most (l.drop i) ∧ (∀ x ∈ R, okB x) ∧ (walkS R.reverse (l.drop i)).map (O ++ ·) = res ∧
    s = ⟨[(6, .own 6 (g 6) 0 R.length), (7, .own 7 (g 7) 0 O.length), (19, .lst l.length (encL l)), (20, .int .i64 l.length), (21, .int .i64 i)], [(6, ⟨encL R ++ G, false, 10⟩), (7, ⟨encL O, false, 10⟩)], g⟩) l.length ⟨0, 1, [b], [], [], bump 7 (bump 6 (bump 2 g)), by omega, by simp, by simp, by simpa using hd1, by simpa using hb, by simpa using hres, by simp [encL_cons, encL_nil]⟩ ?_
  rintro n s ⟨i, most, R, O, G, g, hi, hRl, hOl, hdn, hRok, hW, rfl⟩
  by_cases h1 : i < l.length
  case pos =>
    have w1 : IntKind.i64.wrap ((i : Int) + 1) = (i : Int) + 1 := wrap64 (by omega) (by omega)
    have hrow := rd_step l i h1
    rw [List.drop_eq_getElem_cons h1] at hdn hW
    generalize l[i] = s at *
    rcases List.eq_nil_or_concat R with rfl | ⟨R, x, rfl⟩
    · rw [List.length_nil, deepN, if_pos rfl] at hdn
      omega
    rw [List.concat_eq_append] at *
    rw [List.reverse_append, List.reverse_singleton, List.singleton_append, walkS] at hW
    have e2 : (R ++ [x]).length = R.length + 1 := by simp
    rw [e2] at hdn hRl
    rw [deepN, if_neg (by omega)] at hdn
    have hrs : rightS s = true := by
      cases hr : rightS s
      · rw [hr, if_neg (by simp)] at hdn; omega
      · rfl
    rw [if_pos hrs] at hdn
    have hxok : okB x := hRok x (by simp)
    have hRok' : ∀ z ∈ R, okB z := fun z hz => hRok z (by simp [hz])
    have wL : IntKind.i64.wrap ((R.length : Nat) : Int) = R.length := wrap64 (by omega) (by omega)
    have c0 : R.length + 1 ≤ maxN := by unfold maxN; omega
    have c9 : (R.length : Int) < (R.length : Int) + 1 := by omega
    have c10 : (R.length : Int) ≤ (R.length : Int) + 1 := by omega
    have c11 : R.length ≤ 1099511627774 := by omega
    have c12 : O.length ≤ 1099511627775 := by omega
    have htop : rd (encL R ++ (Row.enc x ++ G)) (R.length * 10) 10 true = some (.agg (Row.enc x)) := by
      have := rd_top R x G
      rw [encL_append, List.append_assoc] at this
      simpa [encL_cons, encL_nil] using this
    have e1 : encL (R ++ [x]) ++ G = encL R ++ (Row.enc x ++ G) := by simp [encL_append, encL_cons, encL_nil]
    rw [e1, e2]
    have htk := take_boxG R (Row.enc x ++ G)
    have hlen := len_boxG R (Row.enc x ++ G)
    generalize (Row.enc x ++ G) = G2 at *
    have hlen2 : R.length * 10 ≤ (encL R).length + G2.length := by simpa using hlen
    have hOk := takeB O
    have hOl2 := lenB O
    cases hs : s.sum
    case true =>
      rw [hs, if_pos rfl] at hdn hW
      rw [Nat.add_sub_cancel] at hdn
      have hsn := encL_snocB O x
      have hW2 : (walkS R.reverse (l.drop (i + 1))).map ((O ++ [x]) ++ ·) = res := by
        rw [← hW, Option.map_map]
        congr 1
        funext y
        simp
      have htop : rd (encL R ++ G2) (R.length * 10) 10 true = some (.agg [.int .i64 x.s0.lo, .int .i64 x.s0.hi, .int .i64 x.s1.lo, .int .i64 x.s1.hi, .int .i64 x.s2.lo, .int .i64 x.s2.hi, .int .i64 x.s3.lo, .int .i64 x.s3.hi, .int .i64 x.s4.lo, .int .i64 x.s4.hi]) := htop
      simp -implicitDefEqProofs [h1, hrow, hs, c0, c9, c10, c12, wL, w1, htop, hlen2, hOk, hOl2]
      exact ⟨n - 1, by omega, i + 1, by omega, most, R, by omega, O ++ [x], by simp; omega, hdn, hRok', hW2, ⟨rfl, by simp, by omega⟩, ⟨G2, rfl⟩, hsn.symm⟩
    case false =>
      rw [hs, if_neg (by simp)] at hdn hW
      unfold rightS at hrs
      rw [hs, if_neg (by simp)] at hrs
      simp only [Bool.and_eq_true, decide_eq_true_eq] at hrs
      obtain ⟨k0, k4⟩ := hrs
      obtain ⟨sum, k, at_⟩ := s
      simp only at hs k0 k4 hW
      subst hs
      have k5 : k < 5 := by omega
      obtain ⟨hlo, hhi⟩ := box_cells x k0 k4
      by_cases hin : (x.get k).lo ≤ at_ ∧ at_ < (x.get k).hi
      case neg =>
        rw [if_neg hin] at hW
        have hW' : res = none := by rw [← hW]; rfl
        subst hW'
        have htop : rd (encL R ++ G2) (R.length * 10) 10 true = some (.agg [.int .i64 x.s0.lo, .int .i64 x.s0.hi, .int .i64 x.s1.lo, .int .i64 x.s1.hi, .int .i64 x.s2.lo, .int .i64 x.s2.hi, .int .i64 x.s3.lo, .int .i64 x.s3.hi, .int .i64 x.s4.lo, .int .i64 x.s4.hi]) := htop
        have hk5 : k = 0 ∨ k = 1 ∨ k = 2 ∨ k = 3 ∨ k = 4 := by omega
        by_cases hlt : at_ < (x.get k).lo
        · rcases hk5 with rfl | rfl | rfl | rfl | rfl <;> simp only [Box.get, reduceIte, Int.reduceEq] at hlt <;> simp -implicitDefEqProofs [h1, hrow, c0, c9, c10, wL, htop, hlen2, hlt, encL_nil]
        · have hge : (x.get k).hi ≤ at_ := by omega
          rcases hk5 with rfl | rfl | rfl | rfl | rfl <;> simp only [Box.get, reduceIte, Int.reduceEq] at hlt hge <;> simp -implicitDefEqProofs [h1, hrow, c0, c9, c10, wL, htop, hlen2, hlt, hge, encL_nil]
      case pos =>
        rw [if_pos hin] at hW
        obtain ⟨l1, l2⟩ := hin
        have hg64 := okB_get hxok k
        have hat : ok64 at_ := by unfold okS64 ok64 at hg64; unfold ok64; omega
        have hCu := cutB_of hxok k hat
        have hok2 := okB_cut hxok k hat
        generalize cutB x k at_ = yz at *
        obtain ⟨y, z⟩ := yz
        simp only at hW hok2
        have htop : rd (encL R ++ G2) (R.length * 10) 10 true = some (.agg [.int .i64 x.s0.lo, .int .i64 x.s0.hi, .int .i64 x.s1.lo, .int .i64 x.s1.hi, .int .i64 x.s2.lo, .int .i64 x.s2.hi, .int .i64 x.s3.lo, .int .i64 x.s3.hi, .int .i64 x.s4.lo, .int .i64 x.s4.hi]) := htop
        have hk5 : k = 0 ∨ k = 1 ∨ k = 2 ∨ k = 3 ∨ k = 4 := by omega
        have hlt : ¬ at_ < (x.get k).lo := by omega
        have hge : ¬ (x.get k).hi ≤ at_ := by omega
        have hok3 : ∀ b' ∈ R ++ [z, y], okB b' := fun b' hb' => by
          rcases List.mem_append.1 hb' with hb' | hb'
          · exact hRok' b' hb'
          · simp at hb'
            rcases hb' with rfl | rfl
            · exact hok2.2
            · exact hok2.1
        have hrow2 : encL (R ++ [z, y]) ++ [] = encL R ++ (Row.enc z ++ Row.enc y) := by simp [encL_append, encL_cons, encL_nil]
        have hl2 : (R ++ [z, y]).length = R.length + 1 + 1 := by simp
        have hdn2 := hdn
        rw [← hl2] at hdn2
        have hW3 : (walkS (R ++ [z, y]).reverse (l.drop (i + 1))).map (O ++ ·) = res := by simpa using hW
        rcases hk5 with rfl | rfl | rfl | rfl | rfl <;> simp only [Box.get, reduceIte, Int.reduceEq] at hlt hge <;> simp -implicitDefEqProofs [h1, hrow, c0, c9, c10, c11, wL, w1, htop, hlen2, hlt, hge, hCu, htk]
        all_goals exact ⟨n - 1, by omega, i + 1, by omega, _, R ++ [z, y], by simp; omega, O, by omega, hdn2, hok3, hW3, ⟨by simp, rfl, by omega⟩, ⟨[], hrow2.symm⟩, rfl⟩
  case neg =>
    have hil : i = l.length := by omega
    subst hil
    rw [List.drop_length] at hdn hW
    have hR0 : R = [] := by
      rw [deepN] at hdn
      split at hdn
      · rename_i h; exact List.length_eq_zero_iff.1 h.1
      · omega
    subst hR0
    have hW' : res = some O := by rw [← hW]; simp [walkS]
    subst hW'
    have hOk := takeB O
    have hOl2 := lenB O
    simp -implicitDefEqProofs [h1, hOk, hOl2]
theorem c_pSums : Contract Try.prog 90 (sp2 PSumsC) :=
  contract_of_runs mixed (tbl_cons c_pRight (tbl_cons c_bCut tbl_nil)) Try.func90 m90 (sp2_runs runs_pSums)
end Go.Co
/- CO: is a verdict proven? by the checker, and by the document. -/
set_option maxHeartbeats 16000000
set_option maxRecDepth 100000
namespace Go.Co
open Go.Am Go.Proofs
set_option linter.unusedSimpArgs false
set_option linter.unusedVariables false
attribute [-simp] Go.Am.eff_gcall
def shownB (m : Model) (q : Query) (b : Box) : Bool := if b.empty then true else shownM m q b
theorem closed_shownB {m : Model} (hm : RM m) {q : Query} (hq : okQuery m q = true) (b : Box) : closedM m q b = shownB m q b := by
  unfold shownB
  cases he : b.empty
  · rw [if_neg (by simp)]; exact closed_shown hm hq he
  · unfold closedM
    rw [if_neg (by simp [hq]), if_pos he]
    rfl
noncomputable def ShownC (m : Model) (q : Query) (b : Box) : Option Bool := Part (RM m ∧ okQuery m q = true ∧ okB b) (shownB m q b)
theorem sums_in {m : Model} {b : Box} (hm : RM m) (hb : okB b) (he : b.empty = false) {c : Int} (h0 : 0 ≤ c) (h1 : c < m.classes) : SumsC m c b = some ((boundP m c b).1, (boundP m c b).2) := by
  unfold SumsC
  rw [part_of ⟨hm, hb⟩]
  unfold sumsP
  rw [if_neg (by simp [he]; omega)]
theorem runs_shown (m : Model) (q : Query) (b : Box) (r : Bool) (h : ShownC m q b = some r) : Runs (tbl [(66, sp1 fun (b : Box) => some b.empty), (38, sp3 SumsC)]) a91 [Arg.enc m, Arg.enc q, Arg.enc b] (Arg.enc r) := by
  obtain ⟨⟨hm, hq, hb⟩, rfl⟩ := part_some h
  clear h
  refine ⟨rfl, fun g => run_def ?_⟩
  unfold a91
  unfold shownB
  cases he : b.empty
  case true => simp -implicitDefEqProofs [he]
  rw [if_neg (by simp)]
  have hs := okQuery_spec hq
  have hk := okKind_spec hs.2.2.2.2.2
  have hcl := hm.classes
  have hS := sums_in hm hb he hs.1 hs.2.1
  have s0 := sums_in hm hb he (c := 0) (by omega) (by omega)
  have s1 : 2 ≤ m.classes → _ := fun h => sums_in hm hb he (c := 1) (by omega) (by omega)
  have s2 : m.classes = 3 → _ := fun h => sums_in hm hb he (c := 2) (by omega) (by omega)
  have hokp : okB (pairB q b) := by
    unfold pairB
    split
    · exact okB_set hb _ hb.2.2.2.2
    · exact hb
  have hP := sums_in hm hokp (pair_some he) hs.1 hs.2.1
  rcases hk with ⟨k, _⟩ | ⟨k, k2, _⟩ | ⟨k, f0, f1, _⟩
  · unfold shownM
    rw [if_pos k]
    generalize boundP m q.cls b = z at *
    obtain ⟨z1, z2⟩ := z
    obtain ⟨kind, cls, region, lo, hi, feature, falls, budget⟩ := q
    simp only at *
    subst k
    by_cases c1 : lo ≤ z1
    · simp -implicitDefEqProofs [he, hS, c1]
    · simp -implicitDefEqProofs [he, hS, c1]
  · unfold shownM
    rw [if_neg (by omega), if_pos k]
    have s1 := s1 k2
    have hx : 0 ≤ q.cls := hs.1
    have hx1 := hs.2.1
    obtain ⟨kind, cls, region, lo, hi, feature, falls, budget⟩ := q
    obtain ⟨dim, classes, bias, trees⟩ := m
    simp only at *
    subst k
    have hcs : (classes = 2 ∧ cls = 0) ∨ (classes = 2 ∧ cls = 1) ∨ (classes = 3 ∧ cls = 0) ∨ (classes = 3 ∧ cls = 1) ∨ (classes = 3 ∧ cls = 2) := by omega
    rcases hcs with ⟨rfl, rfl⟩ | ⟨rfl, rfl⟩ | ⟨rfl, rfl⟩ | ⟨rfl, rfl⟩ | ⟨rfl, rfl⟩
    · rcases Int.lt_or_le (boundP ⟨dim, 2, bias, trees⟩ 1 b).2 (boundP ⟨dim, 2, bias, trees⟩ 0 b).1 with g1 | g1 <;> simp -implicitDefEqProofs [he, hS, s0, s1, run_round, g1]
    · rcases Int.lt_or_le (boundP ⟨dim, 2, bias, trees⟩ 0 b).2 (boundP ⟨dim, 2, bias, trees⟩ 1 b).1 with g1 | g1 <;> simp -implicitDefEqProofs [he, hS, s0, s1, run_round, g1]
    · have s2 := s2 rfl
      rcases Int.lt_or_le (boundP ⟨dim, 3, bias, trees⟩ 1 b).2 (boundP ⟨dim, 3, bias, trees⟩ 0 b).1 with g1 | g1 <;> rcases Int.lt_or_le (boundP ⟨dim, 3, bias, trees⟩ 2 b).2 (boundP ⟨dim, 3, bias, trees⟩ 0 b).1 with g2 | g2 <;> simp -implicitDefEqProofs [he, hS, s0, s1, s2, run_round, g1, g2]
    · have s2 := s2 rfl
      rcases Int.lt_or_le (boundP ⟨dim, 3, bias, trees⟩ 0 b).2 (boundP ⟨dim, 3, bias, trees⟩ 1 b).1 with g1 | g1 <;> rcases Int.lt_or_le (boundP ⟨dim, 3, bias, trees⟩ 2 b).2 (boundP ⟨dim, 3, bias, trees⟩ 1 b).1 with g2 | g2 <;> simp -implicitDefEqProofs [he, hS, s0, s1, s2, run_round, g1, g2]
    · have s2 := s2 rfl
      rcases Int.lt_or_le (boundP ⟨dim, 3, bias, trees⟩ 0 b).2 (boundP ⟨dim, 3, bias, trees⟩ 2 b).1 with g1 | g1 <;> rcases Int.lt_or_le (boundP ⟨dim, 3, bias, trees⟩ 1 b).2 (boundP ⟨dim, 3, bias, trees⟩ 2 b).1 with g2 | g2 <;> simp -implicitDefEqProofs [he, hS, s0, s1, s2, run_round, g1, g2]
  · have hd := hm.dim
    have hpb : pairB q b = b.set q.feature b.s4 := by unfold pairB; rw [if_pos (by unfold paired; simp; omega)]
    rw [hpb] at hP
    unfold shownM
    rw [if_neg (by omega), if_neg (by omega), hpb]
    generalize boundP m q.cls b = z at *
    generalize boundP m q.cls (b.set q.feature b.s4) = y at *
    obtain ⟨z1, z2⟩ := z
    obtain ⟨y1, y2⟩ := y
    obtain ⟨kind, cls, region, lo, hi, feature, falls, budget⟩ := q
    simp only at *
    subst k
    have hc : feature = 0 ∨ feature = 1 ∨ feature = 2 ∨ feature = 3 := by omega
    by_cases hle : b.s4.hi ≤ (b.get feature).lo
    · rcases hc with rfl | rfl | rfl | rfl <;> simp only [Box.get, reduceIte, Int.reduceEq] at hle <;> simp -implicitDefEqProofs [Box.get, he, hS, hle]
    · cases falls
      · by_cases g1 : z2 ≤ y1 <;> (rcases hc with rfl | rfl | rfl | rfl) <;> simp only [Box.get, Box.set, reduceIte, Int.reduceEq] at hle hP <;> simp -implicitDefEqProofs [Box.get, he, hS, hP, hle, g1]
      · by_cases g1 : y2 ≤ z1 <;> (rcases hc with rfl | rfl | rfl | rfl) <;> simp only [Box.get, Box.set, reduceIte, Int.reduceEq] at hle hP <;> simp -implicitDefEqProofs [Box.get, he, hS, hP, hle, g1]
theorem c_shown : Contract Try.prog 91 (sp3 ShownC) :=
  contract_of_runs mixed (tbl_cons c_bEmpty (tbl_cons c_sums tbl_nil)) Try.func91 m91 (sp3_runs runs_shown)
end Go.Co
/- CO: is a verdict proven? by the checker, and by the document. -/
set_option maxHeartbeats 16000000
set_option maxRecDepth 100000
namespace Go.Co
open Go.Am Go.Proofs
set_option linter.unusedSimpArgs false
set_option linter.unusedVariables false
attribute [-simp] Go.Am.eff_gcall
theorem walkS_ok : ∀ (R : List Box) (l : List Step), (∀ x ∈ R, okB x) → ∀ L, walkS R l = some L → ∀ x ∈ L, okB x
  | [], [], _, L, h, x, hx => by
    unfold walkS at h; cases h; simp at hx
  | _ :: _, [], _, L, h, x, hx => by unfold walkS at h; cases h
  | [], _ :: _, _, L, h, x, hx => by unfold walkS at h; cases h
  | b :: bs, s :: l, hR, L, h, x, hx => by
    unfold walkS at h
    split at h
    · rw [Option.map_eq_some_iff] at h
      obtain ⟨L', h', rfl⟩ := h
      rcases List.mem_cons.1 hx with rfl | hx
      · exact hR _ (by simp)
      · exact walkS_ok bs l (fun y hy => hR y (by simp [hy])) L' h' x hx
    · split at h
      · rename_i hin
        have hbok := hR b (by simp)
        have hg64 := okB_get hbok s.place
        have hat : ok64 s.cut := by unfold okS64 ok64 at hg64; unfold ok64; omega
        have hok2 := okB_cut hbok s.place hat
        refine walkS_ok _ l (fun y hy => ?_) L h x hx
        simp only [List.mem_cons] at hy
        rcases hy with rfl | rfl | hy
        · exact hok2.1
        · exact hok2.2
        · exact hR y (by simp [hy])
      · cases h
theorem walkS_len : ∀ (R : List Box) (l : List Step), ∀ L, walkS R l = some L → L.length ≤ l.length
  | [], [], L, h => by unfold walkS at h; cases h; simp
  | _ :: _, [], L, h => by unfold walkS at h; cases h
  | [], _ :: _, L, h => by unfold walkS at h; cases h
  | b :: bs, s :: l, L, h => by
    unfold walkS at h
    split at h
    · rw [Option.map_eq_some_iff] at h
      obtain ⟨L', h', rfl⟩ := h
      have := walkS_len bs l L' h'
      simp; omega
    · split at h
      · have := walkS_len _ l L h
        simp; omega
      · cases h
def c40_0 : ACode := .ops [⟨some 3, .box (.t 0) 6, none, []⟩,⟨some 4, .box (.t 1) 17, none, []⟩,⟨some 5, .box (.t 2) 8, none, []⟩,⟨some 6, .mv (.c (.bool false)), none, []⟩] [3, 4, 5]
theorem r40_0 : type_of% (@rr _ _ c40_0.eq_1) := rr rfl
def c40_1 : ACode := .ops [⟨some 12, .load 6 true (.t 3), none, [3]⟩,⟨some 13, .load 17 true (.t 4), none, [4]⟩,⟨some 14, .call 89 [.t 12, .t 13], none, []⟩,⟨some 15, .un .not (.t 14), none, []⟩] [3, 4, 5, 15]
theorem r40_1 : type_of% (@rr _ _ c40_1.eq_1) := rr rfl
def c40_2 : ACode := .ops [⟨some 6, .mv (.c (.bool false)), none, []⟩] [6]
theorem r40_2 : type_of% (@rr _ _ c40_2.eq_1) := rr rfl
def c40_3 : ACode := .seq c40_2 .ret
theorem r40_3 : type_of% (@rr _ _ c40_3.eq_1) := rr rfl
def c40_4 : ACode := .cond (.t 15) c40_3 .skip
theorem r40_4 : type_of% (@rr _ _ c40_4.eq_1) := rr rfl
def c40_5 : ACode := .seq c40_1 c40_4
theorem r40_5 : type_of% (@rr _ _ c40_5.eq_1) := rr rfl
def c40_6 : ACode := .ops [⟨some 16, .load 17 true (.t 4), none, [4]⟩,⟨some 17, .call 45 [.t 16], none, []⟩,⟨some 7, .alloc [.int .i64 0, .int .i64 0, .int .i64 0, .int .i64 0, .int .i64 0, .int .i64 0, .int .i64 0, .int .i64 0, .int .i64 0, .int .i64 0], none, []⟩,⟨none, .store (.t 7) 10 (.t 17), none, [7]⟩] [3, 4, 5, 7]
theorem r40_6 : type_of% (@rr _ _ c40_6.eq_1) := rr rfl
def c40_7 : ACode := .ops [⟨some 18, .fad (.t 5) 0, none, [5]⟩,⟨some 19, .load 1 false (.t 18), none, [5]⟩] [3, 4, 5, 7, 19]
theorem r40_7 : type_of% (@rr _ _ c40_7.eq_1) := rr rfl
def c40_8 : ACode := .ops [⟨some 21, .bin .eql (.t 19) (.c (.int .i64 1)), none, []⟩,⟨some 20, .mv (.t 21), none, []⟩] [3, 4, 5, 7, 19, 20]
theorem r40_8 : type_of% (@rr _ _ c40_8.eq_1) := rr rfl
def c40_9 : ACode := .ops [⟨some 23, .load 10 true (.t 7), none, [7]⟩,⟨some 24, .fad (.t 5) 1, none, [5]⟩,⟨some 25, .load 1 false (.t 24), none, [5]⟩,⟨some 26, .call 90 [.t 23, .t 25], none, []⟩,⟨some 22, .mv (.t 26), none, []⟩,⟨some 27, .ext (.t 22) 0, none, []⟩,⟨some 28, .ext (.t 22) 1, none, []⟩,⟨some 8, .mv (.t 27), none, []⟩,⟨some 9, .mv (.t 28), none, []⟩] [3, 4, 8, 9]
theorem r40_9 : type_of% (@rr _ _ c40_9.eq_1) := rr rfl
def c40_10 : ACode := .ops [⟨some 29, .mv (.t 8), none, []⟩,⟨some 30, .len (.t 29), none, []⟩,⟨some 31, .mv (.c (.int .i64 0)), none, []⟩] [3, 4, 9, 29, 30, 31]
theorem r40_10 : type_of% (@rr _ _ c40_10.eq_1) := rr rfl
def c40_11 : ACode := .ops [⟨some 32, .bin .lss (.t 31) (.t 30), none, []⟩] [3, 4, 9, 29, 30, 31, 32]
theorem r40_11 : type_of% (@rr _ _ c40_11.eq_1) := rr rfl
def c40_12 : ACode := .cond (.t 32) .skip (.exit 1)
theorem r40_12 : type_of% (@rr _ _ c40_12.eq_1) := rr rfl
def c40_13 : ACode := .ops [⟨some 33, .ias (.t 29) (.t 31) 10, none, []⟩,⟨some 34, .load 10 true (.t 33), none, []⟩,⟨some 11, .alloc [.int .i64 0, .int .i64 0, .int .i64 0, .int .i64 0, .int .i64 0, .int .i64 0, .int .i64 0, .int .i64 0, .int .i64 0, .int .i64 0], none, []⟩,⟨none, .store (.t 11) 10 (.t 34), none, [11]⟩] [3, 4, 9, 11, 29, 30, 31]
theorem r40_13 : type_of% (@rr _ _ c40_13.eq_1) := rr rfl
def c40_14 : ACode := .ops [⟨some 35, .load 6 true (.t 3), none, [3]⟩,⟨some 36, .load 17 true (.t 4), none, [4]⟩,⟨some 37, .load 10 true (.t 11), none, [11]⟩,⟨some 38, .call 91 [.t 35, .t 36, .t 37], none, []⟩,⟨some 39, .un .not (.t 38), none, []⟩] [3, 4, 9, 29, 30, 31, 39]
theorem r40_14 : type_of% (@rr _ _ c40_14.eq_1) := rr rfl
def c40_15 : ACode := .ops [⟨some 6, .mv (.c (.bool false)), none, []⟩] [6]
theorem r40_15 : type_of% (@rr _ _ c40_15.eq_1) := rr rfl
def c40_16 : ACode := .seq c40_15 .ret
theorem r40_16 : type_of% (@rr _ _ c40_16.eq_1) := rr rfl
def c40_17 : ACode := .cond (.t 39) c40_16 .skip
theorem r40_17 : type_of% (@rr _ _ c40_17.eq_1) := rr rfl
def c40_18 : ACode := .seq c40_14 c40_17
theorem r40_18 : type_of% (@rr _ _ c40_18.eq_1) := rr rfl
def c40_19 : ACode := .seq c40_13 c40_18
theorem r40_19 : type_of% (@rr _ _ c40_19.eq_1) := rr rfl
def c40_20 : ACode := .block 2 c40_19
theorem r40_20 : type_of% (@rr _ _ c40_20.eq_1) := rr rfl
def c40_21 : ACode := .ops [⟨some 40, .bin .add (.t 31) (.c (.int .i64 1)), none, []⟩,⟨some 31, .mv (.t 40), none, []⟩] [3, 4, 9, 29, 30, 31]
theorem r40_21 : type_of% (@rr _ _ c40_21.eq_1) := rr rfl
def c40_22 : ACode := .seq c40_20 c40_21
theorem r40_22 : type_of% (@rr _ _ c40_22.eq_1) := rr rfl
def c40_23 : ACode := .seq c40_12 c40_22
theorem r40_23 : type_of% (@rr _ _ c40_23.eq_1) := rr rfl
def c40_24 : ACode := .seq c40_11 c40_23
theorem r40_24 : type_of% (@rr _ _ c40_24.eq_1) := rr rfl
def c40_25 : ACode := .keep [3, 4, 9, 29, 30, 31] [3, 4] c40_24
theorem r40_25 : type_of% (@rr _ _ c40_25.eq_1) := rr rfl
def c40_26 : ACode := .loop c40_25
theorem r40_26 : type_of% (@rr _ _ c40_26.eq_1) := rr rfl
def c40_27 : ACode := .block 1 c40_26
theorem r40_27 : type_of% (@rr _ _ c40_27.eq_1) := rr rfl
def c40_28 : ACode := .seq c40_10 c40_27
theorem r40_28 : type_of% (@rr _ _ c40_28.eq_1) := rr rfl
def c40_29 : ACode := .ops [⟨some 41, .mv (.t 9), none, []⟩,⟨some 6, .mv (.t 41), none, []⟩] [6]
theorem r40_29 : type_of% (@rr _ _ c40_29.eq_1) := rr rfl
def c40_30 : ACode := .seq c40_29 .ret
theorem r40_30 : type_of% (@rr _ _ c40_30.eq_1) := rr rfl
def c40_31 : ACode := .seq c40_28 c40_30
theorem r40_31 : type_of% (@rr _ _ c40_31.eq_1) := rr rfl
def c40_32 : ACode := .seq c40_9 c40_31
theorem r40_32 : type_of% (@rr _ _ c40_32.eq_1) := rr rfl
def c40_33 : ACode := .ops [⟨some 43, .bin .eql (.t 19) (.c (.int .i64 2)), none, []⟩,⟨some 42, .mv (.t 43), none, []⟩] [3, 4, 5, 7, 42]
theorem r40_33 : type_of% (@rr _ _ c40_33.eq_1) := rr rfl
def c40_34 : ACode := .ops [⟨some 44, .load 10 true (.t 7), none, [7]⟩,⟨some 45, .fad (.t 5) 2, none, [5]⟩,⟨some 46, .load 4 true (.t 45), none, [5]⟩,⟨some 47, .fad (.t 5) 6, none, [5]⟩,⟨some 48, .load 1 false (.t 47), none, [5]⟩,⟨some 49, .call 92 [.t 44, .t 46, .t 48], none, []⟩,⟨some 50, .mv (.t 49), none, []⟩,⟨some 51, .load 6 true (.t 3), some (50, true), [3]⟩,⟨some 52, .load 17 true (.t 4), some (50, true), [4]⟩,⟨some 53, .fad (.t 5) 2, some (50, true), [5]⟩,⟨some 54, .load 4 true (.t 53), some (50, true), [5]⟩,⟨some 55, .fad (.t 5) 6, some (50, true), [5]⟩,⟨some 56, .load 1 false (.t 55), some (50, true), [5]⟩,⟨some 57, .call 57 [.t 51, .t 52, .t 54, .t 56], some (50, true), []⟩,⟨some 58, .pick (.t 50) (.t 57) (.c (.bool false)), none, []⟩,⟨some 6, .mv (.t 58), none, []⟩] [6]
theorem r40_34 : type_of% (@rr _ _ c40_34.eq_1) := rr rfl
def c40_35 : ACode := .seq c40_34 .ret
theorem r40_35 : type_of% (@rr _ _ c40_35.eq_1) := rr rfl
def c40_36 : ACode := .cond (.t 42) c40_35 .skip
theorem r40_36 : type_of% (@rr _ _ c40_36.eq_1) := rr rfl
def c40_37 : ACode := .seq c40_33 c40_36
theorem r40_37 : type_of% (@rr _ _ c40_37.eq_1) := rr rfl
def c40_38 : ACode := .cond (.t 20) c40_32 c40_37
theorem r40_38 : type_of% (@rr _ _ c40_38.eq_1) := rr rfl
def c40_39 : ACode := .seq c40_8 c40_38
theorem r40_39 : type_of% (@rr _ _ c40_39.eq_1) := rr rfl
def c40_40 : ACode := .block 0 c40_39
theorem r40_40 : type_of% (@rr _ _ c40_40.eq_1) := rr rfl
def c40_41 : ACode := .seq c40_7 c40_40
theorem r40_41 : type_of% (@rr _ _ c40_41.eq_1) := rr rfl
def c40_42 : ACode := .ops [⟨some 6, .mv (.c (.bool false)), none, []⟩] [6]
theorem r40_42 : type_of% (@rr _ _ c40_42.eq_1) := rr rfl
def c40_43 : ACode := .seq c40_42 .ret
theorem r40_43 : type_of% (@rr _ _ c40_43.eq_1) := rr rfl
def c40_44 : ACode := .seq c40_41 c40_43
theorem r40_44 : type_of% (@rr _ _ c40_44.eq_1) := rr rfl
def c40_45 : ACode := .seq c40_6 c40_44
theorem r40_45 : type_of% (@rr _ _ c40_45.eq_1) := rr rfl
def c40_46 : ACode := .seq c40_5 c40_45
theorem r40_46 : type_of% (@rr _ _ c40_46.eq_1) := rr rfl
def c40_47 : ACode := .seq c40_0 c40_46
theorem r40_47 : type_of% (@rr _ _ c40_47.eq_1) := rr rfl
def a40 : AFun := ⟨3, 59, c40_47, [.t 6]⟩
attribute [simp] r40_0 r40_1 r40_2 r40_3 r40_4 r40_5 r40_6 r40_7 r40_8 r40_9 r40_10 r40_11 r40_12 r40_13 r40_14 r40_15 r40_16 r40_17 r40_18 r40_19 r40_20 r40_21 r40_22 r40_23 r40_24 r40_25 r40_26 r40_27 r40_28 r40_29 r40_30 r40_31 r40_32 r40_33 r40_34 r40_35 r40_36 r40_37 r40_38 r40_39 r40_40 r40_41 r40_42 r40_43 r40_44 r40_45 r40_46 r40_47
theorem m40 : mFun Try.prog Try.f40 a40 = true := by decide +kernel
def allShown (m : Model) (q : Query) (l : Option (List Box)) : Bool := match l with
  | some bs => bs.all (shownB m q)
  | none => false
def holdsV (m : Model) (q : Query) (l : List Step) : Bool := decide (0 < deepV l) && allShown m q (walkS [startOf q] l)
def provesM (m : Model) (q : Query) (v : Verdict) : Bool := okQuery m q && (if v.kind = 1 then holdsV m q v.proof else if v.kind = 2 then hasB (startOf q) v.witness v.twin && breaks m q v.witness v.twin else false)
noncomputable def ProvesC (m : Model) (q : Query) (v : Verdict) : Option Bool := if m.dim < 1 then some false else Part (RM m) (provesM m q v)
theorem runs_Proves (m : Model) (q : Query) (v : Verdict) (r : Bool) (h : ProvesC m q v = some r) : Runs (tbl [(89, sp2 QRight), (45, sp1 fun q => some (startOf q)), (90, sp2 PSumsC), (91, sp3 ShownC), (92, sp3 fun b p t => some (hasB b p t)), (57, sp4 BreaksC)]) a40 [Arg.enc m, Arg.enc q, Arg.enc v] (Arg.enc r) := by
  unfold ProvesC at h
  refine ⟨rfl, fun g => run_def ?_⟩
  unfold a40
  by_cases hd : m.dim < 1
  case pos =>
    rw [if_pos hd] at h
    cases h
    have hQ : QRight m q = some false := by unfold QRight; rw [if_pos (by omega)]
    simp -implicitDefEqProofs [hQ]
  rw [if_neg hd] at h
  obtain ⟨hm, rfl⟩ := part_some h
  clear h
  have hQ : QRight m q = some (okQuery m q) := by unfold QRight; rw [if_neg (by have := hm.dim; omega)]; exact part_of hm _
  unfold provesM
  cases hq : okQuery m q
  case false =>
    rw [hq] at hQ
    simp -implicitDefEqProofs [hQ]
  rw [hq] at hQ
  have hst := okQuery_start hq
  obtain ⟨kind, pf, w, tw, sp⟩ := v
  simp only [Bool.true_and]
  by_cases k1 : kind = 1
  case neg =>
    rw [if_neg k1]
    by_cases k2 : kind = 2
    case neg => simp -implicitDefEqProofs [hQ, k1, k2]
    subst k2
    have hB : BreaksC m q w tw = some (breaks m q w tw) := part_of hm _
    cases hh : hasB (startOf q) w tw
    case false => simp -implicitDefEqProofs [hQ, hh]
    simp -implicitDefEqProofs [hQ, hh, hB]
  subst k1
  rw [if_pos rfl]
  unfold holdsV
  have hPS : PSumsC (startOf q) pf = some (if 0 < deepV pf then (match walkS [startOf q] pf with
    | some out => (out, true)
    | none => ([], false)) else ([], false)) := part_of hst.2.1 _
  by_cases hdp : 0 < deepV pf
  case neg =>
    rw [if_neg hdp] at hPS
    simp -implicitDefEqProofs [hQ, hPS, hdp, encL_nil, run_round]
  rw [if_pos hdp] at hPS
  have hok := walkS_ok [startOf q] pf
  have hlen := walkS_len [startOf q] pf
  have h6 : pf.length ≤ 65536 := by
    unfold deepV at hdp
    split at hdp
    · assumption
    · omega
  cases hwk : walkS [startOf q] pf with
  | none =>
    rw [hwk] at hPS
    simp -implicitDefEqProofs [hQ, hPS, hdp, allShown, encL_nil, run_round]
  | some L =>
    rw [hwk] at hPS
    have hLok := hok (by simpa using hst.2.1) L hwk
    have hLl := hlen L hwk
    have b1 : L.length ≤ maxN := by unfold maxN; omega
    have hSh : ∀ x ∈ L, ShownC m q x = some (shownB m q x) := fun x hx => part_of ⟨hm, hq, hLok x hx⟩ _
    simp -implicitDefEqProofs [hQ, hPS, hdp, allShown, b1]
    refine run_while (c := c40_24) (fun n s => ∃ (i : Nat) (g : Nat → Nat), i + n = L.length ∧ (∀ x ∈ L.take i, shownB m q x = true) ∧ s = ⟨[(3, .ptr 3 (g 3) 0), (4, .ptr 4 (g 4) 0), (9, .bool true), (29, .lst L.length (encL L)), (30, .int .i64 L.length), (31, .int .i64 i)],
      [(3, ⟨Row.enc m, false, 0⟩), (4, ⟨Row.enc q, false, 0⟩)], g⟩) L.length ⟨0, bump 7 (bump 5 (bump 4 (bump 3 g))), by omega, by simp, by simp⟩ ?_
    rintro n s ⟨i, g, hi, hal, rfl⟩
    by_cases h1 : i < L.length
    case pos =>
      have w1 : IntKind.i64.wrap ((i : Int) + 1) = (i : Int) + 1 := wrap64 (by omega) (by omega)
      have hrow := rd_box L i h1
      have hB := hSh L[i] (List.getElem_mem h1)
      have hmem : L[i] ∈ L := List.getElem_mem h1
      have htk : L.take (i + 1) = L.take i ++ [L[i]] := List.take_succ_eq_append_getElem h1
      generalize L[i] = x at *
      cases hx : shownB m q x
      case false =>
        have : L.all (shownB m q) = false := by
          rw [List.all_eq_false]
          exact ⟨x, hmem, by simp [hx]⟩
        rw [hx] at hB
        simp -implicitDefEqProofs [h1, hrow, hB, this]
      case true =>
        rw [hx] at hB
        simp -implicitDefEqProofs [h1, hrow, hB, w1]
        refine ⟨n - 1, by omega, i + 1, by omega, fun y hy => ?_, by omega⟩
        rw [htk, List.mem_append, List.mem_singleton] at hy
        rcases hy with hy | rfl
        · exact hal y hy
        · exact hx
    case neg =>
      have hil : i = L.length := by omega
      subst hil
      rw [List.take_length] at hal
      have : L.all (shownB m q) = true := List.all_eq_true.2 hal
      simp -implicitDefEqProofs [h1, this]
theorem c_Proves : Contract Try.prog 40 (sp3 ProvesC) :=
  contract_of_runs mixed (tbl_cons c_qRight (tbl_cons c_Start (tbl_cons c_pSums (tbl_cons c_shown (tbl_cons c_Has (tbl_cons c_Breaks tbl_nil)))))) Try.func40 m40 (sp3_runs runs_Proves)
def checkN (m : Model) (q : Query) : List Box → List Step → Bool
  | [], [] => true
  | _ :: _, [] => false
  | [], _ :: _ => false
  | b :: bs, s :: l => if 200 ≤ bs.length then false else if s.sum then (if s.place = 0 ∧ s.cut = 0 then (if closedM m q b then checkN m q bs l else false) else false) else
    if 0 ≤ s.place ∧ s.place ≤ 4 then (if (b.get s.place).lo ≤ s.cut ∧ s.cut < (b.get s.place).hi then checkN m q ((cutB b s.place s.cut).1 :: (cutB b s.place s.cut).2 :: bs) l else false) else false
def checkM (m : Model) (q : Query) (l : List Step) : Bool := okQuery m q && decide (l.length ≤ 65536) && checkN m q [startOf q] l
end Go.Co
