/- CO: texts of this claim, one behind the other. -/
import Derived.Test.YtlbfmeijjgphfaaGreatCz12
import Derived.Test.YtlbfmeijjgphfaaGreatCz10
set_option linter.unusedVariables false
set_option linter.unusedSimpArgs false
/- CO: proofs' steps: how deep they go, the boxes that are closed by sums; what is shown. -/
set_option maxHeartbeats 16000000
set_option maxRecDepth 100000
namespace Go.Co
open Go.Am Go.Proofs
attribute [-simp] Go.Am.eff_gcall
def c106_0 : ACode := .ops [⟨some 1, .box (.t 0) 3, none, []⟩,⟨some 2, .mv (.c (.bool false)), none, []⟩] [1]
theorem r106_0 : type_of% (rr c106_0.eq_1) := rr rfl
def c106_1 : ACode := .ops [⟨some 3, .fad (.t 1) 0, none, [1]⟩,⟨some 4, .load 1 false (.t 3), none, [1]⟩] [1, 4]
theorem r106_1 : type_of% (rr c106_1.eq_1) := rr rfl
def c106_2 : ACode := .ops [⟨some 5, .load 3 true (.t 1), none, [1]⟩,⟨some 6, .build [.bool false, .int .i64 0, .int .i64 0] [(0, 1, .c (.bool true))], none, []⟩,⟨some 7, .eqa false [true, false, false] (.t 5) (.t 6), none, []⟩,⟨some 2, .mv (.t 7), none, []⟩] [2]
theorem r106_2 : type_of% (rr c106_2.eq_1) := rr rfl
def c106_3 : ACode := .seq c106_2 .ret
theorem r106_3 : type_of% (rr c106_3.eq_1) := rr rfl
def c106_4 : ACode := .cond (.t 4) c106_3 .skip
theorem r106_4 : type_of% (rr c106_4.eq_1) := rr rfl
def c106_5 : ACode := .seq c106_1 c106_4
theorem r106_5 : type_of% (rr c106_5.eq_1) := rr rfl
def c106_6 : ACode := .ops [⟨some 8, .fad (.t 1) 1, none, [1]⟩,⟨some 9, .load 1 false (.t 8), none, [1]⟩,⟨some 10, .bin .geq (.t 9) (.c (.int .i64 0)), none, []⟩,⟨some 11, .mv (.t 10), none, []⟩,⟨some 12, .fad (.t 1) 1, some (11, true), [1]⟩,⟨some 13, .load 1 false (.t 12), some (11, true), [1]⟩,⟨some 14, .bin .leq (.t 13) (.c (.int .i64 4)), some (11, true), []⟩,⟨some 15, .pick (.t 11) (.t 14) (.c (.bool false)), none, []⟩,⟨some 2, .mv (.t 15), none, []⟩] [2]
theorem r106_6 : type_of% (rr c106_6.eq_1) := rr rfl
def c106_7 : ACode := .seq c106_6 .ret
theorem r106_7 : type_of% (rr c106_7.eq_1) := rr rfl
def c106_8 : ACode := .seq c106_5 c106_7
theorem r106_8 : type_of% (rr c106_8.eq_1) := rr rfl
def c106_9 : ACode := .seq c106_0 c106_8
theorem r106_9 : type_of% (rr c106_9.eq_1) := rr rfl
def a106 : AFun := ⟨1, 16, c106_9, [.t 2]⟩
attribute [simp] r106_0 r106_1 r106_2 r106_3 r106_4 r106_5 r106_6 r106_7 r106_8 r106_9
theorem m106 : mFun Tryz.prog Tryz.f106 a106 = true := by decide +kernel
def c93_0 : ACode := .ops [⟨some 2, .mv (.c (.int .i64 0)), none, []⟩] [0]
theorem r93_0 : type_of% (rr c93_0.eq_1) := rr rfl
def c93_1 : ACode := .ops [⟨some 7, .mv (.t 0), none, []⟩,⟨some 8, .len (.t 7), none, []⟩,⟨some 9, .bin .gtr (.t 8) (.c (.int .i64 65536)), none, []⟩] [0, 9]
theorem r93_1 : type_of% (rr c93_1.eq_1) := rr rfl
def c93_2 : ACode := .ops [⟨some 2, .mv (.c (.int .i64 0)), none, []⟩] [2]
theorem r93_2 : type_of% (rr c93_2.eq_1) := rr rfl
def c93_3 : ACode := .seq c93_2 .ret
theorem r93_3 : type_of% (rr c93_3.eq_1) := rr rfl
def c93_4 : ACode := .cond (.t 9) c93_3 .skip
theorem r93_4 : type_of% (rr c93_4.eq_1) := rr rfl
def c93_5 : ACode := .seq c93_1 c93_4
theorem r93_5 : type_of% (rr c93_5.eq_1) := rr rfl
def c93_6 : ACode := .ops [⟨some 3, .mv (.c (.int .i64 1)), none, []⟩,⟨some 4, .mv (.c (.int .i64 1)), none, []⟩] [0, 3, 4]
theorem r93_6 : type_of% (rr c93_6.eq_1) := rr rfl
def c93_7 : ACode := .ops [⟨some 10, .mv (.t 0), none, []⟩,⟨some 11, .len (.t 10), none, []⟩,⟨some 12, .mv (.c (.int .i64 0)), none, []⟩] [3, 4, 10, 11, 12]
theorem r93_7 : type_of% (rr c93_7.eq_1) := rr rfl
def c93_8 : ACode := .ops [⟨some 13, .bin .lss (.t 12) (.t 11), none, []⟩] [3, 4, 10, 11, 12, 13]
theorem r93_8 : type_of% (rr c93_8.eq_1) := rr rfl
def c93_9 : ACode := .cond (.t 13) .skip (.exit 0)
theorem r93_9 : type_of% (rr c93_9.eq_1) := rr rfl
def c93_10 : ACode := .ops [⟨some 14, .ias (.t 10) (.t 12) 3, none, []⟩,⟨some 15, .load 3 true (.t 14), none, []⟩,⟨some 6, .alloc [.bool false, .int .i64 0, .int .i64 0], none, []⟩,⟨none, .store (.t 6) 3 (.t 15), none, [6]⟩] [3, 4, 6, 10, 11, 12]
theorem r93_10 : type_of% (rr c93_10.eq_1) := rr rfl
def c93_11 : ACode := .ops [⟨some 16, .mv (.t 3), none, []⟩,⟨some 17, .bin .eql (.t 16) (.c (.int .i64 0)), none, []⟩,⟨some 18, .mv (.t 17), none, []⟩,⟨some 19, .load 3 true (.t 6), some (18, false), [6]⟩,⟨some 20, .call 106 [.t 19], some (18, false), []⟩,⟨some 21, .un .not (.t 20), some (18, false), []⟩,⟨some 22, .pick (.t 18) (.c (.bool true)) (.t 21), none, []⟩] [3, 4, 6, 10, 11, 12, 22]
theorem r93_11 : type_of% (rr c93_11.eq_1) := rr rfl
def c93_12 : ACode := .ops [⟨some 2, .mv (.c (.int .i64 0)), none, []⟩] [2]
theorem r93_12 : type_of% (rr c93_12.eq_1) := rr rfl
def c93_13 : ACode := .seq c93_12 .ret
theorem r93_13 : type_of% (rr c93_13.eq_1) := rr rfl
def c93_14 : ACode := .cond (.t 22) c93_13 .skip
theorem r93_14 : type_of% (rr c93_14.eq_1) := rr rfl
def c93_15 : ACode := .seq c93_11 c93_14
theorem r93_15 : type_of% (rr c93_15.eq_1) := rr rfl
def c93_16 : ACode := .ops [⟨some 23, .fad (.t 6) 0, none, [6]⟩,⟨some 24, .load 1 false (.t 23), none, [6]⟩] [3, 4, 10, 11, 12, 24]
theorem r93_16 : type_of% (rr c93_16.eq_1) := rr rfl
def c93_17 : ACode := .ops [⟨some 25, .mv (.t 3), none, []⟩,⟨some 26, .bin .sub (.t 25) (.c (.int .i64 1)), none, []⟩,⟨some 3, .mv (.t 26), none, []⟩] [3, 4, 10, 11, 12]
theorem r93_17 : type_of% (rr c93_17.eq_1) := rr rfl
def c93_18 : ACode := .seq c93_17 (.exit 1)
theorem r93_18 : type_of% (rr c93_18.eq_1) := rr rfl
def c93_19 : ACode := .cond (.t 24) c93_18 .skip
theorem r93_19 : type_of% (rr c93_19.eq_1) := rr rfl
def c93_20 : ACode := .seq c93_16 c93_19
theorem r93_20 : type_of% (rr c93_20.eq_1) := rr rfl
def c93_21 : ACode := .ops [⟨some 27, .mv (.t 3), none, []⟩,⟨some 28, .bin .add (.t 27) (.c (.int .i64 1)), none, []⟩,⟨some 3, .mv (.t 28), none, []⟩] [3, 4, 10, 11, 12]
theorem r93_21 : type_of% (rr c93_21.eq_1) := rr rfl
def c93_22 : ACode := .ops [⟨some 29, .mv (.t 4), none, []⟩,⟨some 30, .mv (.t 3), none, []⟩,⟨some 31, .mnmx true (.t 29) (.t 30), none, []⟩,⟨some 4, .mv (.t 31), none, []⟩] [3, 4, 10, 11, 12]
theorem r93_22 : type_of% (rr c93_22.eq_1) := rr rfl
def c93_23 : ACode := .seq c93_21 c93_22
theorem r93_23 : type_of% (rr c93_23.eq_1) := rr rfl
def c93_24 : ACode := .seq c93_20 c93_23
theorem r93_24 : type_of% (rr c93_24.eq_1) := rr rfl
def c93_25 : ACode := .seq c93_15 c93_24
theorem r93_25 : type_of% (rr c93_25.eq_1) := rr rfl
def c93_26 : ACode := .seq c93_10 c93_25
theorem r93_26 : type_of% (rr c93_26.eq_1) := rr rfl
def c93_27 : ACode := .block 1 c93_26
theorem r93_27 : type_of% (rr c93_27.eq_1) := rr rfl
def c93_28 : ACode := .ops [⟨some 32, .bin .add (.t 12) (.c (.int .i64 1)), none, []⟩,⟨some 12, .mv (.t 32), none, []⟩] [3, 4, 10, 11, 12]
theorem r93_28 : type_of% (rr c93_28.eq_1) := rr rfl
def c93_29 : ACode := .seq c93_27 c93_28
theorem r93_29 : type_of% (rr c93_29.eq_1) := rr rfl
def c93_30 : ACode := .seq c93_9 c93_29
theorem r93_30 : type_of% (rr c93_30.eq_1) := rr rfl
def c93_31 : ACode := .seq c93_8 c93_30
theorem r93_31 : type_of% (rr c93_31.eq_1) := rr rfl
def c93_32 : ACode := .keep [3, 4, 10, 11, 12] [] c93_31
theorem r93_32 : type_of% (rr c93_32.eq_1) := rr rfl
def c93_33 : ACode := .loop c93_32
theorem r93_33 : type_of% (rr c93_33.eq_1) := rr rfl
def c93_34 : ACode := .block 0 c93_33
theorem r93_34 : type_of% (rr c93_34.eq_1) := rr rfl
def c93_35 : ACode := .seq c93_7 c93_34
theorem r93_35 : type_of% (rr c93_35.eq_1) := rr rfl
def c93_36 : ACode := .ops [⟨some 33, .mv (.t 3), none, []⟩,⟨some 34, .bin .neq (.t 33) (.c (.int .i64 0)), none, []⟩,⟨some 35, .mv (.t 34), none, []⟩,⟨some 36, .mv (.t 4), some (35, false), []⟩,⟨some 37, .bin .gtr (.t 36) (.c (.int .i64 200)), some (35, false), []⟩,⟨some 38, .pick (.t 35) (.c (.bool true)) (.t 37), none, []⟩] [4, 38]
theorem r93_36 : type_of% (rr c93_36.eq_1) := rr rfl
def c93_37 : ACode := .ops [⟨some 2, .mv (.c (.int .i64 0)), none, []⟩] [2]
theorem r93_37 : type_of% (rr c93_37.eq_1) := rr rfl
def c93_38 : ACode := .seq c93_37 .ret
theorem r93_38 : type_of% (rr c93_38.eq_1) := rr rfl
def c93_39 : ACode := .cond (.t 38) c93_38 .skip
theorem r93_39 : type_of% (rr c93_39.eq_1) := rr rfl
def c93_40 : ACode := .seq c93_36 c93_39
theorem r93_40 : type_of% (rr c93_40.eq_1) := rr rfl
def c93_41 : ACode := .ops [⟨some 39, .mv (.t 4), none, []⟩,⟨some 2, .mv (.t 39), none, []⟩] [2]
theorem r93_41 : type_of% (rr c93_41.eq_1) := rr rfl
def c93_42 : ACode := .seq c93_41 .ret
theorem r93_42 : type_of% (rr c93_42.eq_1) := rr rfl
def c93_43 : ACode := .seq c93_40 c93_42
theorem r93_43 : type_of% (rr c93_43.eq_1) := rr rfl
def c93_44 : ACode := .seq c93_35 c93_43
theorem r93_44 : type_of% (rr c93_44.eq_1) := rr rfl
def c93_45 : ACode := .seq c93_6 c93_44
theorem r93_45 : type_of% (rr c93_45.eq_1) := rr rfl
def c93_46 : ACode := .seq c93_5 c93_45
theorem r93_46 : type_of% (rr c93_46.eq_1) := rr rfl
def c93_47 : ACode := .seq c93_0 c93_46
theorem r93_47 : type_of% (rr c93_47.eq_1) := rr rfl
def a93 : AFun := ⟨1, 40, c93_47, [.t 2]⟩
attribute [simp] r93_0 r93_1 r93_2 r93_3 r93_4 r93_5 r93_6 r93_7 r93_8 r93_9 r93_10 r93_11 r93_12 r93_13 r93_14 r93_15 r93_16 r93_17 r93_18 r93_19 r93_20 r93_21 r93_22 r93_23 r93_24 r93_25 r93_26 r93_27 r93_28 r93_29 r93_30 r93_31 r93_32 r93_33 r93_34 r93_35 r93_36 r93_37 r93_38 r93_39 r93_40 r93_41 r93_42 r93_43 r93_44 r93_45 r93_46 r93_47
theorem m93 : mFun Tryz.prog Tryz.f93 a93 = true := by decide +kernel
def c78_0 : ACode := .ops [⟨some 2, .mv (.c (.bool false)), none, []⟩] [0]
theorem r78_0 : type_of% (rr c78_0.eq_1) := rr rfl
def c78_1 : ACode := .ops [⟨some 3, .mv (.t 0), none, []⟩,⟨some 4, .call 93 [.t 3], none, []⟩,⟨some 5, .bin .gtr (.t 4) (.c (.int .i64 0)), none, []⟩,⟨some 2, .mv (.t 5), none, []⟩] [2]
theorem r78_1 : type_of% (rr c78_1.eq_1) := rr rfl
def c78_2 : ACode := .seq c78_1 .ret
theorem r78_2 : type_of% (rr c78_2.eq_1) := rr rfl
def c78_3 : ACode := .seq c78_0 c78_2
theorem r78_3 : type_of% (rr c78_3.eq_1) := rr rfl
def a78 : AFun := ⟨1, 6, c78_3, [.t 2]⟩
attribute [simp] r78_0 r78_1 r78_2 r78_3
theorem m78 : mFun Tryz.prog Tryz.f78 a78 = true := by decide +kernel
def c48_0 : ACode := .ops [⟨some 2, .box (.t 0) 10, none, []⟩,⟨some 4, .mv (.c (.nils)), none, []⟩,⟨some 5, .mv (.c (.bool false)), none, []⟩] [1, 2]
theorem r48_0 : type_of% (rr c48_0.eq_1) := rr rfl
def c48_1 : ACode := .ops [⟨some 14, .mv (.t 1), none, []⟩,⟨some 15, .call 78 [.t 14], none, []⟩,⟨some 16, .un .not (.t 15), none, []⟩] [1, 2, 16]
theorem r48_1 : type_of% (rr c48_1.eq_1) := rr rfl
def c48_2 : ACode := .ops [⟨some 4, .mv (.c (.nils)), none, []⟩,⟨some 5, .mv (.c (.bool false)), none, []⟩] [4, 5]
theorem r48_2 : type_of% (rr c48_2.eq_1) := rr rfl
def c48_3 : ACode := .seq c48_2 .ret
theorem r48_3 : type_of% (rr c48_3.eq_1) := rr rfl
def c48_4 : ACode := .cond (.t 16) c48_3 .skip
theorem r48_4 : type_of% (rr c48_4.eq_1) := rr rfl
def c48_5 : ACode := .seq c48_1 c48_4
theorem r48_5 : type_of% (rr c48_5.eq_1) := rr rfl
def c48_6 : ACode := .ops [⟨some 17, .load 10 true (.t 2), none, [2]⟩,⟨some 18, .mkrow 6 1 10 [.int .i64 0, .int .i64 0, .int .i64 0, .int .i64 0, .int .i64 0, .int .i64 0, .int .i64 0, .int .i64 0, .int .i64 0, .int .i64 0] [(0, 10, .t 17)], none, []⟩,⟨some 6, .mv (.t 18), none, []⟩] [1, 6]
theorem r48_6 : type_of% (rr c48_6.eq_1) := rr rfl
def c48_7 : ACode := .ops [⟨some 7, .nil0 7 10, none, []⟩] [1, 6, 7]
theorem r48_7 : type_of% (rr c48_7.eq_1) := rr rfl
def c48_8 : ACode := .ops [⟨some 19, .mv (.t 1), none, []⟩,⟨some 20, .len (.t 19), none, []⟩,⟨some 21, .mv (.c (.int .i64 0)), none, []⟩] [6, 7, 19, 20, 21]
theorem r48_8 : type_of% (rr c48_8.eq_1) := rr rfl
def c48_9 : ACode := .ops [⟨some 22, .bin .lss (.t 21) (.t 20), none, []⟩] [6, 7, 19, 20, 21, 22]
theorem r48_9 : type_of% (rr c48_9.eq_1) := rr rfl
def c48_10 : ACode := .cond (.t 22) .skip (.exit 0)
theorem r48_10 : type_of% (rr c48_10.eq_1) := rr rfl
def c48_11 : ACode := .ops [⟨some 23, .ias (.t 19) (.t 21) 3, none, []⟩,⟨some 24, .load 3 true (.t 23), none, []⟩,⟨some 9, .alloc [.bool false, .int .i64 0, .int .i64 0], none, []⟩,⟨none, .store (.t 9) 3 (.t 24), none, [9]⟩] [6, 7, 9, 19, 20, 21]
theorem r48_11 : type_of% (rr c48_11.eq_1) := rr rfl
def c48_12 : ACode := .ops [⟨some 25, .mv (.t 6), none, []⟩,⟨some 26, .len (.t 25), none, [6]⟩,⟨some 27, .bin .sub (.t 26) (.c (.int .i64 1)), none, []⟩,⟨some 10, .mv (.t 27), none, []⟩] [6, 7, 9, 10, 19, 20, 21]
theorem r48_12 : type_of% (rr c48_12.eq_1) := rr rfl
def c48_13 : ACode := .ops [⟨some 28, .mv (.t 6), none, []⟩,⟨some 29, .mv (.t 10), none, []⟩,⟨some 30, .ias (.t 28) (.t 29) 10, none, [6]⟩,⟨some 31, .load 10 true (.t 30), none, [6]⟩,⟨some 11, .alloc [.int .i64 0, .int .i64 0, .int .i64 0, .int .i64 0, .int .i64 0, .int .i64 0, .int .i64 0, .int .i64 0, .int .i64 0, .int .i64 0], none, []⟩,⟨none, .store (.t 11) 10 (.t 31), none, [11]⟩] [6, 7, 9, 10, 11, 19, 20, 21]
theorem r48_13 : type_of% (rr c48_13.eq_1) := rr rfl
def c48_14 : ACode := .ops [⟨some 32, .mv (.t 6), none, []⟩,⟨some 33, .mv (.t 10), none, []⟩,⟨some 34, .sl (.t 32) none (some (.t 33)) 10, none, [6]⟩,⟨some 6, .mv (.t 34), none, []⟩] [6, 7, 9, 11, 19, 20, 21]
theorem r48_14 : type_of% (rr c48_14.eq_1) := rr rfl
def c48_15 : ACode := .ops [⟨some 35, .fad (.t 9) 0, none, [9]⟩,⟨some 36, .load 1 false (.t 35), none, [9]⟩] [6, 7, 9, 11, 19, 20, 21, 36]
theorem r48_15 : type_of% (rr c48_15.eq_1) := rr rfl
def c48_16 : ACode := .ops [⟨some 37, .mv (.t 7), none, []⟩,⟨some 38, .load 10 true (.t 11), none, [11]⟩,⟨some 39, .mkrow 39 1 10 [.int .i64 0, .int .i64 0, .int .i64 0, .int .i64 0, .int .i64 0, .int .i64 0, .int .i64 0, .int .i64 0, .int .i64 0, .int .i64 0] [(0, 10, .t 38)], none, []⟩,⟨some 40, .app 7 [7] (.t 37) (.t 39) 10, none, [7, 39]⟩,⟨some 7, .mv (.t 40), none, []⟩] [6, 7, 19, 20, 21]
theorem r48_16 : type_of% (rr c48_16.eq_1) := rr rfl
def c48_17 : ACode := .seq c48_16 (.exit 1)
theorem r48_17 : type_of% (rr c48_17.eq_1) := rr rfl
def c48_18 : ACode := .cond (.t 36) c48_17 .skip
theorem r48_18 : type_of% (rr c48_18.eq_1) := rr rfl
def c48_19 : ACode := .seq c48_15 c48_18
theorem r48_19 : type_of% (rr c48_19.eq_1) := rr rfl
def c48_20 : ACode := .ops [⟨some 41, .fad (.t 9) 2, none, [9]⟩,⟨some 42, .load 1 false (.t 41), none, [9]⟩,⟨some 43, .fad (.t 9) 1, none, [9]⟩,⟨some 44, .load 1 false (.t 43), none, [9]⟩,⟨some 45, .iad (.t 11) (.t 44) 2 5, none, [11]⟩,⟨some 46, .fad (.t 45) 0, none, [11]⟩,⟨some 47, .load 1 false (.t 46), none, [11]⟩,⟨some 48, .bin .lss (.t 42) (.t 47), none, []⟩,⟨some 49, .mv (.t 48), none, []⟩,⟨some 50, .fad (.t 9) 2, some (49, false), [9]⟩,⟨some 51, .load 1 false (.t 50), some (49, false), [9]⟩,⟨some 52, .fad (.t 9) 1, some (49, false), [9]⟩,⟨some 53, .load 1 false (.t 52), some (49, false), [9]⟩,⟨some 54, .iad (.t 11) (.t 53) 2 5, some (49, false), [11]⟩,⟨some 55, .fad (.t 54) 1, some (49, false), [11]⟩,⟨some 56, .load 1 false (.t 55), some (49, false), [11]⟩,⟨some 57, .bin .geq (.t 51) (.t 56), some (49, false), []⟩,⟨some 58, .pick (.t 49) (.c (.bool true)) (.t 57), none, []⟩] [6, 7, 9, 11, 19, 20, 21, 58]
theorem r48_20 : type_of% (rr c48_20.eq_1) := rr rfl
def c48_21 : ACode := .ops [⟨some 4, .mv (.c (.nils)), none, []⟩,⟨some 5, .mv (.c (.bool false)), none, []⟩] [4, 5]
theorem r48_21 : type_of% (rr c48_21.eq_1) := rr rfl
def c48_22 : ACode := .seq c48_21 .ret
theorem r48_22 : type_of% (rr c48_22.eq_1) := rr rfl
def c48_23 : ACode := .cond (.t 58) c48_22 .skip
theorem r48_23 : type_of% (rr c48_23.eq_1) := rr rfl
def c48_24 : ACode := .seq c48_20 c48_23
theorem r48_24 : type_of% (rr c48_24.eq_1) := rr rfl
def c48_25 : ACode := .ops [⟨some 60, .load 10 true (.t 11), none, [11]⟩,⟨some 61, .fad (.t 9) 1, none, [9]⟩,⟨some 62, .load 1 false (.t 61), none, [9]⟩,⟨some 63, .fad (.t 9) 2, none, [9]⟩,⟨some 64, .load 1 false (.t 63), none, [9]⟩,⟨some 65, .call 69 [.t 60, .t 62, .t 64], none, []⟩,⟨some 59, .mv (.t 65), none, []⟩,⟨some 66, .ext (.t 59) 0, none, []⟩,⟨some 67, .ext (.t 59) 1, none, []⟩,⟨some 12, .alloc [.int .i64 0, .int .i64 0, .int .i64 0, .int .i64 0, .int .i64 0, .int .i64 0, .int .i64 0, .int .i64 0, .int .i64 0, .int .i64 0], none, []⟩,⟨some 13, .alloc [.int .i64 0, .int .i64 0, .int .i64 0, .int .i64 0, .int .i64 0, .int .i64 0, .int .i64 0, .int .i64 0, .int .i64 0, .int .i64 0], none, []⟩,⟨none, .store (.t 12) 10 (.t 66), none, [12]⟩,⟨none, .store (.t 13) 10 (.t 67), none, [13]⟩] [6, 7, 12, 13, 19, 20, 21]
theorem r48_25 : type_of% (rr c48_25.eq_1) := rr rfl
def c48_26 : ACode := .ops [⟨some 68, .mv (.t 6), none, []⟩,⟨some 69, .load 10 true (.t 13), none, [13]⟩,⟨some 70, .load 10 true (.t 12), none, [12]⟩,⟨some 71, .mkrow 71 2 10 [.int .i64 0, .int .i64 0, .int .i64 0, .int .i64 0, .int .i64 0, .int .i64 0, .int .i64 0, .int .i64 0, .int .i64 0, .int .i64 0] [(0, 10, .t 69), (10, 10, .t 70)], none, []⟩,⟨some 72, .app 6 [6] (.t 68) (.t 71) 10, none, [6, 71]⟩,⟨some 6, .mv (.t 72), none, []⟩] [6, 7, 19, 20, 21]
theorem r48_26 : type_of% (rr c48_26.eq_1) := rr rfl
def c48_27 : ACode := .seq c48_25 c48_26
theorem r48_27 : type_of% (rr c48_27.eq_1) := rr rfl
def c48_28 : ACode := .seq c48_24 c48_27
theorem r48_28 : type_of% (rr c48_28.eq_1) := rr rfl
def c48_29 : ACode := .seq c48_19 c48_28
theorem r48_29 : type_of% (rr c48_29.eq_1) := rr rfl
def c48_30 : ACode := .seq c48_14 c48_29
theorem r48_30 : type_of% (rr c48_30.eq_1) := rr rfl
def c48_31 : ACode := .seq c48_13 c48_30
theorem r48_31 : type_of% (rr c48_31.eq_1) := rr rfl
def c48_32 : ACode := .seq c48_12 c48_31
theorem r48_32 : type_of% (rr c48_32.eq_1) := rr rfl
def c48_33 : ACode := .seq c48_11 c48_32
theorem r48_33 : type_of% (rr c48_33.eq_1) := rr rfl
def c48_34 : ACode := .block 1 c48_33
theorem r48_34 : type_of% (rr c48_34.eq_1) := rr rfl
def c48_35 : ACode := .ops [⟨some 73, .bin .add (.t 21) (.c (.int .i64 1)), none, []⟩,⟨some 21, .mv (.t 73), none, []⟩] [6, 7, 19, 20, 21]
theorem r48_35 : type_of% (rr c48_35.eq_1) := rr rfl
def c48_36 : ACode := .seq c48_34 c48_35
theorem r48_36 : type_of% (rr c48_36.eq_1) := rr rfl
def c48_37 : ACode := .seq c48_10 c48_36
theorem r48_37 : type_of% (rr c48_37.eq_1) := rr rfl
def c48_38 : ACode := .seq c48_9 c48_37
theorem r48_38 : type_of% (rr c48_38.eq_1) := rr rfl
def c48_39 : ACode := .keep [6, 7, 19, 20, 21] [6, 7] c48_38
theorem r48_39 : type_of% (rr c48_39.eq_1) := rr rfl
def c48_40 : ACode := .loop c48_39
theorem r48_40 : type_of% (rr c48_40.eq_1) := rr rfl
def c48_41 : ACode := .block 0 c48_40
theorem r48_41 : type_of% (rr c48_41.eq_1) := rr rfl
def c48_42 : ACode := .seq c48_8 c48_41
theorem r48_42 : type_of% (rr c48_42.eq_1) := rr rfl
def c48_43 : ACode := .ops [⟨some 74, .mv (.t 7), none, []⟩,⟨some 4, .mv (.t 74), none, []⟩,⟨some 5, .mv (.c (.bool true)), none, []⟩] [4, 5]
theorem r48_43 : type_of% (rr c48_43.eq_1) := rr rfl
def c48_44 : ACode := .seq c48_43 .ret
theorem r48_44 : type_of% (rr c48_44.eq_1) := rr rfl
def c48_45 : ACode := .seq c48_42 c48_44
theorem r48_45 : type_of% (rr c48_45.eq_1) := rr rfl
def c48_46 : ACode := .seq c48_7 c48_45
theorem r48_46 : type_of% (rr c48_46.eq_1) := rr rfl
def c48_47 : ACode := .seq c48_6 c48_46
theorem r48_47 : type_of% (rr c48_47.eq_1) := rr rfl
def c48_48 : ACode := .seq c48_5 c48_47
theorem r48_48 : type_of% (rr c48_48.eq_1) := rr rfl
def c48_49 : ACode := .seq c48_0 c48_48
theorem r48_49 : type_of% (rr c48_49.eq_1) := rr rfl
def a48 : AFun := ⟨2, 75, c48_49, [.t 4, .t 5]⟩
attribute [simp] r48_0 r48_1 r48_2 r48_3 r48_4 r48_5 r48_6 r48_7 r48_8 r48_9 r48_10 r48_11 r48_12 r48_13 r48_14 r48_15 r48_16 r48_17 r48_18 r48_19 r48_20 r48_21 r48_22 r48_23 r48_24 r48_25 r48_26 r48_27 r48_28 r48_29 r48_30 r48_31 r48_32 r48_33 r48_34 r48_35 r48_36 r48_37 r48_38 r48_39 r48_40 r48_41 r48_42 r48_43 r48_44 r48_45 r48_46 r48_47 r48_48 r48_49
theorem m48 : mFun Tryz.prog Tryz.f48 a48 = true := by decide +kernel
def c49_0 : ACode := .ops [⟨some 3, .box (.t 0) 6, none, []⟩,⟨some 4, .box (.t 1) 17, none, []⟩,⟨some 5, .box (.t 2) 10, none, []⟩,⟨some 6, .mv (.c (.bool false)), none, []⟩] [3, 4, 5]
theorem r49_0 : type_of% (rr c49_0.eq_1) := rr rfl
def c49_1 : ACode := .ops [⟨some 15, .load 10 true (.t 5), none, [5]⟩,⟨some 16, .call 26 [.t 15], none, []⟩] [3, 4, 5, 16]
theorem r49_1 : type_of% (rr c49_1.eq_1) := rr rfl
def c49_2 : ACode := .ops [⟨some 6, .mv (.c (.bool true)), none, []⟩] [6]
theorem r49_2 : type_of% (rr c49_2.eq_1) := rr rfl
def c49_3 : ACode := .seq c49_2 .ret
theorem r49_3 : type_of% (rr c49_3.eq_1) := rr rfl
def c49_4 : ACode := .cond (.t 16) c49_3 .skip
theorem r49_4 : type_of% (rr c49_4.eq_1) := rr rfl
def c49_5 : ACode := .seq c49_1 c49_4
theorem r49_5 : type_of% (rr c49_5.eq_1) := rr rfl
def c49_6 : ACode := .ops [⟨some 18, .load 6 true (.t 3), none, [3]⟩,⟨some 19, .fad (.t 4) 1, none, [4]⟩,⟨some 20, .load 1 false (.t 19), none, [4]⟩,⟨some 21, .load 10 true (.t 5), none, [5]⟩,⟨some 22, .call 79 [.t 18, .t 20, .t 21], none, []⟩,⟨some 17, .mv (.t 22), none, []⟩,⟨some 23, .ext (.t 17) 0, none, []⟩,⟨some 24, .ext (.t 17) 1, none, []⟩,⟨some 7, .mv (.t 23), none, []⟩,⟨some 8, .mv (.t 24), none, []⟩] [3, 4, 5, 7, 8]
theorem r49_6 : type_of% (rr c49_6.eq_1) := rr rfl
def c49_7 : ACode := .ops [⟨some 25, .fad (.t 4) 0, none, [4]⟩,⟨some 26, .load 1 false (.t 25), none, [4]⟩] [3, 4, 5, 7, 8, 26]
theorem r49_7 : type_of% (rr c49_7.eq_1) := rr rfl
def c49_8 : ACode := .ops [⟨some 28, .bin .eql (.t 26) (.c (.int .i64 1)), none, []⟩,⟨some 27, .mv (.t 28), none, []⟩] [3, 4, 5, 7, 8, 26, 27]
theorem r49_8 : type_of% (rr c49_8.eq_1) := rr rfl
def c49_9 : ACode := .ops [⟨some 29, .fad (.t 4) 12, none, [4]⟩,⟨some 30, .load 1 false (.t 29), none, [4]⟩,⟨some 31, .mv (.t 7), none, []⟩,⟨some 32, .bin .leq (.t 30) (.t 31), none, []⟩,⟨some 33, .mv (.t 32), none, []⟩,⟨some 34, .mv (.t 8), some (33, true), []⟩,⟨some 35, .fad (.t 4) 13, some (33, true), [4]⟩,⟨some 36, .load 1 false (.t 35), some (33, true), [4]⟩,⟨some 37, .bin .leq (.t 34) (.t 36), some (33, true), []⟩,⟨some 38, .pick (.t 33) (.t 37) (.c (.bool false)), none, []⟩,⟨some 6, .mv (.t 38), none, []⟩] [6]
theorem r49_9 : type_of% (rr c49_9.eq_1) := rr rfl
def c49_10 : ACode := .seq c49_9 .ret
theorem r49_10 : type_of% (rr c49_10.eq_1) := rr rfl
def c49_11 : ACode := .ops [⟨some 40, .bin .eql (.t 26) (.c (.int .i64 2)), none, []⟩,⟨some 39, .mv (.t 40), none, []⟩] [3, 4, 5, 7, 8, 39]
theorem r49_11 : type_of% (rr c49_11.eq_1) := rr rfl
def c49_12 : ACode := .ops [⟨some 41, .fad (.t 3) 1, none, [3]⟩,⟨some 42, .load 1 false (.t 41), none, [3]⟩,⟨some 43, .mv (.c (.int .i64 0)), none, []⟩] [3, 4, 5, 7, 42, 43]
theorem r49_12 : type_of% (rr c49_12.eq_1) := rr rfl
def c49_13 : ACode := .ops [⟨some 44, .bin .lss (.t 43) (.t 42), none, []⟩] [3, 4, 5, 7, 42, 43, 44]
theorem r49_13 : type_of% (rr c49_13.eq_1) := rr rfl
def c49_14 : ACode := .cond (.t 44) .skip (.exit 1)
theorem r49_14 : type_of% (rr c49_14.eq_1) := rr rfl
def c49_15 : ACode := .ops [⟨some 45, .mv (.t 43), none, []⟩,⟨some 9, .mv (.t 45), none, []⟩] [3, 4, 5, 7, 9, 42, 43]
theorem r49_15 : type_of% (rr c49_15.eq_1) := rr rfl
def c49_16 : ACode := .ops [⟨some 47, .load 6 true (.t 3), none, [3]⟩,⟨some 48, .mv (.t 9), none, []⟩,⟨some 49, .load 10 true (.t 5), none, [5]⟩,⟨some 50, .call 79 [.t 47, .t 48, .t 49], none, []⟩,⟨some 46, .mv (.t 50), none, []⟩,⟨some 51, .ext (.t 46) 0, none, []⟩,⟨some 52, .ext (.t 46) 1, none, []⟩,⟨some 10, .mv (.t 51), none, []⟩,⟨some 11, .mv (.t 52), none, []⟩] [3, 4, 5, 7, 9, 11, 42, 43]
theorem r49_16 : type_of% (rr c49_16.eq_1) := rr rfl
def c49_17 : ACode := .ops [⟨some 53, .mv (.t 9), none, []⟩,⟨some 54, .fad (.t 4) 1, none, [4]⟩,⟨some 55, .load 1 false (.t 54), none, [4]⟩,⟨some 56, .bin .neq (.t 53) (.t 55), none, []⟩,⟨some 57, .mv (.t 56), none, []⟩,⟨some 58, .mv (.t 11), some (57, true), []⟩,⟨some 59, .mv (.t 7), some (57, true), []⟩,⟨some 60, .bin .geq (.t 58) (.t 59), some (57, true), []⟩,⟨some 61, .pick (.t 57) (.t 60) (.c (.bool false)), none, []⟩] [3, 4, 5, 7, 42, 43, 61]
theorem r49_17 : type_of% (rr c49_17.eq_1) := rr rfl
def c49_18 : ACode := .ops [⟨some 6, .mv (.c (.bool false)), none, []⟩] [6]
theorem r49_18 : type_of% (rr c49_18.eq_1) := rr rfl
def c49_19 : ACode := .seq c49_18 .ret
theorem r49_19 : type_of% (rr c49_19.eq_1) := rr rfl
def c49_20 : ACode := .cond (.t 61) c49_19 .skip
theorem r49_20 : type_of% (rr c49_20.eq_1) := rr rfl
def c49_21 : ACode := .seq c49_17 c49_20
theorem r49_21 : type_of% (rr c49_21.eq_1) := rr rfl
def c49_22 : ACode := .seq c49_16 c49_21
theorem r49_22 : type_of% (rr c49_22.eq_1) := rr rfl
def c49_23 : ACode := .seq c49_15 c49_22
theorem r49_23 : type_of% (rr c49_23.eq_1) := rr rfl
def c49_24 : ACode := .block 2 c49_23
theorem r49_24 : type_of% (rr c49_24.eq_1) := rr rfl
def c49_25 : ACode := .ops [⟨some 62, .bin .add (.t 43) (.c (.int .i64 1)), none, []⟩,⟨some 43, .mv (.t 62), none, []⟩] [3, 4, 5, 7, 42, 43]
theorem r49_25 : type_of% (rr c49_25.eq_1) := rr rfl
def c49_26 : ACode := .seq c49_24 c49_25
theorem r49_26 : type_of% (rr c49_26.eq_1) := rr rfl
def c49_27 : ACode := .seq c49_14 c49_26
theorem r49_27 : type_of% (rr c49_27.eq_1) := rr rfl
def c49_28 : ACode := .seq c49_13 c49_27
theorem r49_28 : type_of% (rr c49_28.eq_1) := rr rfl
def c49_29 : ACode := .keep [3, 4, 5, 7, 42, 43] [3, 4, 5] c49_28
theorem r49_29 : type_of% (rr c49_29.eq_1) := rr rfl
def c49_30 : ACode := .loop c49_29
theorem r49_30 : type_of% (rr c49_30.eq_1) := rr rfl
def c49_31 : ACode := .block 1 c49_30
theorem r49_31 : type_of% (rr c49_31.eq_1) := rr rfl
def c49_32 : ACode := .seq c49_12 c49_31
theorem r49_32 : type_of% (rr c49_32.eq_1) := rr rfl
def c49_33 : ACode := .ops [⟨some 6, .mv (.c (.bool true)), none, []⟩] [6]
theorem r49_33 : type_of% (rr c49_33.eq_1) := rr rfl
def c49_34 : ACode := .seq c49_33 .ret
theorem r49_34 : type_of% (rr c49_34.eq_1) := rr rfl
def c49_35 : ACode := .seq c49_32 c49_34
theorem r49_35 : type_of% (rr c49_35.eq_1) := rr rfl
def c49_36 : ACode := .cond (.t 39) c49_35 .skip
theorem r49_36 : type_of% (rr c49_36.eq_1) := rr rfl
def c49_37 : ACode := .seq c49_11 c49_36
theorem r49_37 : type_of% (rr c49_37.eq_1) := rr rfl
def c49_38 : ACode := .cond (.t 27) c49_10 c49_37
theorem r49_38 : type_of% (rr c49_38.eq_1) := rr rfl
def c49_39 : ACode := .seq c49_8 c49_38
theorem r49_39 : type_of% (rr c49_39.eq_1) := rr rfl
def c49_40 : ACode := .block 0 c49_39
theorem r49_40 : type_of% (rr c49_40.eq_1) := rr rfl
def c49_41 : ACode := .seq c49_7 c49_40
theorem r49_41 : type_of% (rr c49_41.eq_1) := rr rfl
def c49_42 : ACode := .ops [⟨some 63, .fad (.t 4) 14, none, [4]⟩,⟨some 64, .load 1 false (.t 63), none, [4]⟩,⟨some 65, .iad (.t 5) (.t 64) 2 5, none, [5]⟩,⟨some 66, .fad (.t 65) 0, none, [5]⟩,⟨some 67, .load 1 false (.t 66), none, [5]⟩,⟨some 68, .iad (.t 5) (.c (.int .i64 4)) 2 5, none, [5]⟩,⟨some 69, .fad (.t 68) 1, none, [5]⟩,⟨some 70, .load 1 false (.t 69), none, [5]⟩,⟨some 71, .bin .geq (.t 67) (.t 70), none, []⟩] [3, 4, 5, 7, 8, 71]
theorem r49_42 : type_of% (rr c49_42.eq_1) := rr rfl
def c49_43 : ACode := .ops [⟨some 6, .mv (.c (.bool true)), none, []⟩] [6]
theorem r49_43 : type_of% (rr c49_43.eq_1) := rr rfl
def c49_44 : ACode := .seq c49_43 .ret
theorem r49_44 : type_of% (rr c49_44.eq_1) := rr rfl
def c49_45 : ACode := .cond (.t 71) c49_44 .skip
theorem r49_45 : type_of% (rr c49_45.eq_1) := rr rfl
def c49_46 : ACode := .seq c49_42 c49_45
theorem r49_46 : type_of% (rr c49_46.eq_1) := rr rfl
def c49_47 : ACode := .ops [⟨some 72, .load 10 true (.t 5), none, [5]⟩,⟨some 12, .alloc [.int .i64 0, .int .i64 0, .int .i64 0, .int .i64 0, .int .i64 0, .int .i64 0, .int .i64 0, .int .i64 0, .int .i64 0, .int .i64 0], none, []⟩,⟨none, .store (.t 12) 10 (.t 72), none, [12]⟩] [3, 4, 5, 7, 8, 12]
theorem r49_47 : type_of% (rr c49_47.eq_1) := rr rfl
def c49_48 : ACode := .ops [⟨some 73, .fad (.t 4) 14, none, [4]⟩,⟨some 74, .load 1 false (.t 73), none, [4]⟩,⟨some 75, .iad (.t 5) (.c (.int .i64 4)) 2 5, none, [5]⟩,⟨some 76, .load 2 true (.t 75), none, [5]⟩,⟨some 77, .iad (.t 12) (.t 74) 2 5, none, [12]⟩,⟨none, .store (.t 77) 2 (.t 76), none, [12]⟩] [3, 4, 7, 8, 12]
theorem r49_48 : type_of% (rr c49_48.eq_1) := rr rfl
def c49_49 : ACode := .ops [⟨some 79, .load 6 true (.t 3), none, [3]⟩,⟨some 80, .fad (.t 4) 1, none, [4]⟩,⟨some 81, .load 1 false (.t 80), none, [4]⟩,⟨some 82, .load 10 true (.t 12), none, [12]⟩,⟨some 83, .call 79 [.t 79, .t 81, .t 82], none, []⟩,⟨some 78, .mv (.t 83), none, []⟩,⟨some 84, .ext (.t 78) 0, none, []⟩,⟨some 85, .ext (.t 78) 1, none, []⟩,⟨some 13, .mv (.t 84), none, []⟩,⟨some 14, .mv (.t 85), none, []⟩] [4, 7, 8, 13, 14]
theorem r49_49 : type_of% (rr c49_49.eq_1) := rr rfl
def c49_50 : ACode := .ops [⟨some 86, .fad (.t 4) 15, none, [4]⟩,⟨some 87, .load 1 false (.t 86), none, [4]⟩] [7, 8, 13, 14, 87]
theorem r49_50 : type_of% (rr c49_50.eq_1) := rr rfl
def c49_51 : ACode := .ops [⟨some 88, .mv (.t 14), none, []⟩,⟨some 89, .mv (.t 7), none, []⟩,⟨some 90, .bin .leq (.t 88) (.t 89), none, []⟩,⟨some 6, .mv (.t 90), none, []⟩] [6]
theorem r49_51 : type_of% (rr c49_51.eq_1) := rr rfl
def c49_52 : ACode := .seq c49_51 .ret
theorem r49_52 : type_of% (rr c49_52.eq_1) := rr rfl
def c49_53 : ACode := .cond (.t 87) c49_52 .skip
theorem r49_53 : type_of% (rr c49_53.eq_1) := rr rfl
def c49_54 : ACode := .seq c49_50 c49_53
theorem r49_54 : type_of% (rr c49_54.eq_1) := rr rfl
def c49_55 : ACode := .ops [⟨some 91, .mv (.t 13), none, []⟩,⟨some 92, .mv (.t 8), none, []⟩,⟨some 93, .bin .geq (.t 91) (.t 92), none, []⟩,⟨some 6, .mv (.t 93), none, []⟩] [6]
theorem r49_55 : type_of% (rr c49_55.eq_1) := rr rfl
def c49_56 : ACode := .seq c49_55 .ret
theorem r49_56 : type_of% (rr c49_56.eq_1) := rr rfl
def c49_57 : ACode := .seq c49_54 c49_56
theorem r49_57 : type_of% (rr c49_57.eq_1) := rr rfl
def c49_58 : ACode := .seq c49_49 c49_57
theorem r49_58 : type_of% (rr c49_58.eq_1) := rr rfl
def c49_59 : ACode := .seq c49_48 c49_58
theorem r49_59 : type_of% (rr c49_59.eq_1) := rr rfl
def c49_60 : ACode := .seq c49_47 c49_59
theorem r49_60 : type_of% (rr c49_60.eq_1) := rr rfl
def c49_61 : ACode := .seq c49_46 c49_60
theorem r49_61 : type_of% (rr c49_61.eq_1) := rr rfl
def c49_62 : ACode := .seq c49_41 c49_61
theorem r49_62 : type_of% (rr c49_62.eq_1) := rr rfl
def c49_63 : ACode := .seq c49_6 c49_62
theorem r49_63 : type_of% (rr c49_63.eq_1) := rr rfl
def c49_64 : ACode := .seq c49_5 c49_63
theorem r49_64 : type_of% (rr c49_64.eq_1) := rr rfl
def c49_65 : ACode := .seq c49_0 c49_64
theorem r49_65 : type_of% (rr c49_65.eq_1) := rr rfl
def a49 : AFun := ⟨3, 94, c49_65, [.t 6]⟩
attribute [simp] r49_0 r49_1 r49_2 r49_3 r49_4 r49_5 r49_6 r49_7 r49_8 r49_9 r49_10 r49_11 r49_12 r49_13 r49_14 r49_15 r49_16 r49_17 r49_18 r49_19 r49_20 r49_21 r49_22 r49_23 r49_24 r49_25 r49_26 r49_27 r49_28 r49_29 r49_30 r49_31 r49_32 r49_33 r49_34 r49_35 r49_36 r49_37 r49_38 r49_39 r49_40 r49_41 r49_42 r49_43 r49_44 r49_45 r49_46 r49_47 r49_48 r49_49 r49_50 r49_51 r49_52 r49_53 r49_54 r49_55 r49_56 r49_57 r49_58 r49_59 r49_60 r49_61 r49_62 r49_63 r49_64 r49_65
theorem m49 : mFun Tryz.prog Tryz.f49 a49 = true := by decide +kernel
def rightS (s : Step) : Bool := if s.sum then decide (s.place = 0) && decide (s.cut = 0) else decide (0 ≤ s.place) && decide (s.place ≤ 4)
theorem runs_pright (s : Step) (r : Bool) (h : some (rightS s) = some r) : Runs (tbl []) a106 [Arg.enc s] (Arg.enc r) := by
  cases h
  refine ⟨rfl, fun g => run_def ?_⟩
  unfold a106 rightS
  obtain ⟨sum, place, cut⟩ := s
  cases sum
  · by_cases h0 : 0 ≤ place <;> simp -implicitDefEqProofs [h0]
  · by_cases h0 : place = 0 <;> by_cases h1 : cut = 0 <;> simp -implicitDefEqProofs [h0, h1]
theorem c_pright : Contract Tryz.prog 106 (sp1 fun s => some (rightS s)) :=
  contract_of_runs mixed tbl_nil Tryz.func106 m106 (sp1_runs runs_pright)
def deepN : Nat → Nat → List Step → Nat
  | left, most, [] => if left = 0 ∧ most ≤ 200 then most else 0
  | left, most, s :: l => if left = 0 then 0 else if rightS s = true then (if s.sum then deepN (left - 1) most l else deepN (left + 1) (if most < left + 1 then left + 1 else most) l) else 0
def deepV (l : List Step) : Int := if l.length ≤ 65536 then (deepN 1 1 l : Nat) else 0
theorem rd_step (l : List Step) (i : Nat) (h : i < l.length) : rd (encL l) (i * 3) 3 true = some (Arg.enc l[i]) := rd_row l i h
theorem runs_deep (l : List Step) (r : Int) (h : some (deepV l) = some r) : Runs (tbl [(106, sp1 fun s => some (rightS s))]) a93 [Arg.enc l] (Arg.enc r) := by
  cases h
  refine ⟨rfl, fun g => run_def ?_⟩
  unfold a93 deepV
  by_cases b1 : l.length ≤ maxN
  case neg => simp -implicitDefEqProofs [b1]
  by_cases h6 : l.length ≤ 65536
  case neg =>
    have h6' : (65536 : Int) < l.length := by omega
    simp -implicitDefEqProofs [b1, h6, h6']
  have h6' : ¬ (65536 : Int) < l.length := by omega
  rw [if_pos h6]
  generalize hD : deepN 1 1 l = D at *
  simp -implicitDefEqProofs [b1, h6']
  refine run_while (c := c93_31) (fun n s => ∃ (i left most : Nat) (g : Nat → Nat), i + n = l.length ∧ left ≤ i + 1 ∧ most ≤ i + 1 ∧ deepN left most (l.drop i) = D ∧ s = ⟨[(3, .int .i64 left), (4, .int .i64 most), (10, .lst l.length (encL l)), (11, .int .i64 l.length), (12, .int .i64 i)], [], g⟩) l.length ⟨0, 1, 1, g, by omega, by omega, by omega, by simpa using hD, by simp⟩ ?_
  rintro n s ⟨i, left, most, g, hi, hl, hmo, hE, rfl⟩
  by_cases h1 : i < l.length
  case pos =>
    have w1 : IntKind.i64.wrap ((i : Int) + 1) = (i : Int) + 1 := wrap64 (by omega) (by omega)
    have hrow := rd_step l i h1
    rw [List.drop_eq_getElem_cons h1, deepN] at hE
    generalize l[i] = s at *
    obtain ⟨sm, pl, ct⟩ := s
    by_cases h0 : left = 0
    case pos =>
      subst h0
      rw [if_pos rfl] at hE
      subst hE
      simp -implicitDefEqProofs [h1, hrow]
    rw [if_neg h0] at hE
    have h0' : ¬ (left : Int) = 0 := by omega
    cases hr : rightS ⟨sm, pl, ct⟩
    case false =>
      rw [hr, if_neg (by simp)] at hE
      subst hE
      simp -implicitDefEqProofs [h1, hrow, h0, h0', hr]
    rw [hr, if_pos rfl] at hE
    simp only at hE
    cases sm
    case true =>
      rw [if_pos rfl] at hE
      have w2 : IntKind.i64.wrap ((left : Int) - 1) = ((left - 1 : Nat) : Int) := by rw [wrap64 (by omega) (by omega)]; omega
      simp -implicitDefEqProofs [h1, hrow, h0, h0', hr, w1, w2]
      exact ⟨n - 1, by omega, i + 1, by omega, left - 1, by omega, most, by omega, hE, rfl, rfl, by omega⟩
    case false =>
      rw [if_neg (by simp)] at hE
      have w2 : IntKind.i64.wrap ((left : Int) + 1) = (left : Int) + 1 := wrap64 (by omega) (by omega)
      by_cases hm : most < left + 1
      · rw [if_pos hm] at hE
        have hm' : (most : Int) < (left : Int) + 1 := by omega
        simp -implicitDefEqProofs [h1, hrow, h0, h0', hr, w1, w2, hm']
        exact ⟨n - 1, by omega, i + 1, by omega, left + 1, by omega, left + 1, by omega, hE, by omega, by omega, by omega⟩
      · rw [if_neg hm] at hE
        have hm' : ¬ (most : Int) < (left : Int) + 1 := by omega
        simp -implicitDefEqProofs [h1, hrow, h0, h0', hr, w1, w2, hm']
        exact ⟨n - 1, by omega, i + 1, by omega, left + 1, by omega, most, by omega, hE, by omega, by omega, by omega⟩
  case neg =>
    have hil : i = l.length := by omega
    subst hil
    rw [List.drop_length, deepN] at hE
    by_cases h0 : left = 0
    case neg =>
      rw [if_neg (fun h => h0 h.1)] at hE
      subst hE
      have h0' : ¬ (left : Int) = 0 := by omega
      simp -implicitDefEqProofs [h1, h0, h0']
    subst h0
    by_cases hm : most ≤ 200
    · rw [if_pos ⟨rfl, hm⟩] at hE
      subst hE
      have hm' : ¬ (200 : Int) < most := by omega
      simp -implicitDefEqProofs [h1, hm']
    · rw [if_neg (fun h => hm h.2)] at hE
      subst hE
      have hm' : (200 : Int) < most := by omega
      simp -implicitDefEqProofs [h1, hm']
theorem c_deep : Contract Tryz.prog 93 (sp1 fun l => some (deepV l)) :=
  contract_of_runs mixed (tbl_cons c_pright tbl_nil) Tryz.func93 m93 (sp1_runs runs_deep)
theorem runs_pRight (l : List Step) (r : Bool) (h : some (decide (0 < deepV l)) = some r) : Runs (tbl [(93, sp1 fun l => some (deepV l))]) a78 [Arg.enc l] (Arg.enc r) := by
  cases h
  refine ⟨rfl, fun g => run_def ?_⟩
  unfold a78
  simp -implicitDefEqProofs []
theorem c_pRight : Contract Tryz.prog 78 (sp1 fun l => some (decide (0 < deepV l))) :=
  contract_of_runs mixed (tbl_cons c_deep tbl_nil) Tryz.func78 m78 (sp1_runs runs_pRight)
def walkS : List Box → List Step → Option (List Box)
  | [], [] => some []
  | _ :: _, [] => none
  | [], _ :: _ => none
  | b :: bs, s :: l => if s.sum then (walkS bs l).map (b :: ·) else if (b.get s.place).lo ≤ s.cut ∧ s.cut < (b.get s.place).hi then walkS ((cutB b s.place s.cut).1 :: (cutB b s.place s.cut).2 :: bs) l else none
noncomputable def PSumsC (b : Box) (l : List Step) : Option (List Box × Bool) := Part (okB b) (if 0 < deepV l then (match walkS [b] l with
  | some out => (out, true)
  | none => ([], false)) else ([], false))
theorem box_cells (b : Box) {k : Int} (h0 : 0 ≤ k) (h4 : k ≤ 4) : rd (Row.enc b) (k.toNat * 2) 1 false = some (.int .i64 (b.get k).lo) ∧ rd (Row.enc b) (k.toNat * 2 + 1) 1 false = some (.int .i64 (b.get k).hi) := by
  have h1 := rd_nlo b k.toNat (by omega)
  have h2 := rd_nhi b k.toNat (by omega)
  rw [show ((k.toNat : Nat) : Int) = k by omega] at h1 h2
  exact ⟨h1, h2⟩
theorem runs_pSums (b : Box) (l : List Step) (r : List Box × Bool) (h : PSumsC b l = some r) : Runs (tbl [(78, sp1 fun l => some (decide (0 < deepV l))), (69, sp3 CutB)]) a48 [Arg.enc b, Arg.enc l] (Arg.enc r) := by
  obtain ⟨hb, rfl⟩ := part_some h
  clear h
  refine ⟨rfl, fun g => run_def ?_⟩
  unfold a48
  by_cases hd : 0 < deepV l
  case neg => simp -implicitDefEqProofs [hd, encL_nil]
  rw [if_pos hd]
  have h6 : l.length ≤ 65536 := by
    unfold deepV at hd
    split at hd
    · assumption
    · omega
  have b1 : l.length ≤ maxN := by unfold maxN; omega
  have hd1 : 0 < deepN 1 1 l := by
    unfold deepV at hd
    rw [if_pos h6] at hd
    omega
  generalize hres : walkS [b] l = res at *
  simp -implicitDefEqProofs [hd, b1]
  refine run_while (c := c48_38) (fun n s => ∃ (i most : Nat) (R O : List Box) (G : List AV) (g : Nat → Nat), i + n = l.length ∧ R.length ≤ i + 1 ∧ O.length ≤ i ∧ 0 < deepN R.length most (l.drop i) ∧ (∀ x ∈ R, okB x) ∧ (walkS R.reverse (l.drop i)).map (O ++ ·) = res ∧
    s = ⟨[(6, .own 6 (g 6) 0 R.length), (7, .own 7 (g 7) 0 O.length), (19, .lst l.length (encL l)), (20, .int .i64 l.length), (21, .int .i64 i)], [(6, ⟨encL R ++ G, false, 10⟩), (7, ⟨encL O, false, 10⟩)], g⟩) l.length ⟨0, 1, [b], [], [], bump 7 (bump 6 (bump 2 g)), by omega, by simp, by simp, by simpa using hd1, by simpa using hb, by simpa using hres, by simp [encL_cons, encL_nil]⟩ ?_
  rintro n s ⟨i, most, R, O, G, g, hi, hRl, hOl, hdn, hRok, hW, rfl⟩
  by_cases h1 : i < l.length
  case pos =>
    have w1 : IntKind.i64.wrap ((i : Int) + 1) = (i : Int) + 1 := wrap64 (by omega) (by omega)
    have hrow := rd_step l i h1
    rw [List.drop_eq_getElem_cons h1] at hdn hW
    generalize l[i] = s at *
    rcases List.eq_nil_or_concat R with rfl | ⟨R, x, rfl⟩
    · rw [List.length_nil, deepN, if_pos rfl] at hdn
      omega
    rw [List.concat_eq_append] at *
    rw [List.reverse_append, List.reverse_singleton, List.singleton_append, walkS] at hW
    have e2 : (R ++ [x]).length = R.length + 1 := by simp
    rw [e2] at hdn hRl
    rw [deepN, if_neg (by omega)] at hdn
    have hrs : rightS s = true := by
      cases hr : rightS s
      · rw [hr, if_neg (by simp)] at hdn; omega
      · rfl
    rw [if_pos hrs] at hdn
    have hxok : okB x := hRok x (by simp)
    have hRok' : ∀ z ∈ R, okB z := fun z hz => hRok z (by simp [hz])
    have wL : IntKind.i64.wrap ((R.length : Nat) : Int) = R.length := wrap64 (by omega) (by omega)
    have c0 : R.length + 1 ≤ maxN := by unfold maxN; omega
    have c9 : (R.length : Int) < (R.length : Int) + 1 := by omega
    have c10 : (R.length : Int) ≤ (R.length : Int) + 1 := by omega
    have c11 : R.length ≤ 1099511627774 := by omega
    have c12 : O.length ≤ 1099511627775 := by omega
    have htop : rd (encL R ++ (Row.enc x ++ G)) (R.length * 10) 10 true = some (.agg (Row.enc x)) := by
      have := rd_top R x G
      rw [encL_append, List.append_assoc] at this
      simpa [encL_cons, encL_nil] using this
    have e1 : encL (R ++ [x]) ++ G = encL R ++ (Row.enc x ++ G) := by simp [encL_append, encL_cons, encL_nil]
    rw [e1, e2]
    have htk := take_boxG R (Row.enc x ++ G)
    have hlen := len_boxG R (Row.enc x ++ G)
    generalize (Row.enc x ++ G) = G2 at *
    have hlen2 : R.length * 10 ≤ (encL R).length + G2.length := by simpa using hlen
    have hOk := takeB O
    have hOl2 := lenB O
    cases hs : s.sum
    case true =>
      rw [hs, if_pos rfl] at hdn hW
      rw [Nat.add_sub_cancel] at hdn
      have hsn := encL_snocB O x
      have hW2 : (walkS R.reverse (l.drop (i + 1))).map ((O ++ [x]) ++ ·) = res := by
        rw [← hW, Option.map_map]
        congr 1
        funext y
        simp
      have htop : rd (encL R ++ G2) (R.length * 10) 10 true = some (.agg [.int .i64 x.s0.lo, .int .i64 x.s0.hi, .int .i64 x.s1.lo, .int .i64 x.s1.hi, .int .i64 x.s2.lo, .int .i64 x.s2.hi, .int .i64 x.s3.lo, .int .i64 x.s3.hi, .int .i64 x.s4.lo, .int .i64 x.s4.hi]) := htop
      simp -implicitDefEqProofs [h1, hrow, hs, c0, c9, c10, c12, wL, w1, htop, hlen2, hOk, hOl2]
      exact ⟨n - 1, by omega, i + 1, by omega, most, R, by omega, O ++ [x], by simp; omega, hdn, hRok', hW2, ⟨rfl, by simp, by omega⟩, ⟨G2, rfl⟩, hsn.symm⟩
    case false =>
      rw [hs, if_neg (by simp)] at hdn hW
      unfold rightS at hrs
      rw [hs, if_neg (by simp)] at hrs
      simp only [Bool.and_eq_true, decide_eq_true_eq] at hrs
      obtain ⟨k0, k4⟩ := hrs
      obtain ⟨sum, k, at_⟩ := s
      simp only at hs k0 k4 hW
      subst hs
      have k5 : k < 5 := by omega
      obtain ⟨hlo, hhi⟩ := box_cells x k0 k4
      by_cases hin : (x.get k).lo ≤ at_ ∧ at_ < (x.get k).hi
      case neg =>
        rw [if_neg hin] at hW
        have hW' : res = none := by rw [← hW]; rfl
        subst hW'
        have htop : rd (encL R ++ G2) (R.length * 10) 10 true = some (.agg [.int .i64 x.s0.lo, .int .i64 x.s0.hi, .int .i64 x.s1.lo, .int .i64 x.s1.hi, .int .i64 x.s2.lo, .int .i64 x.s2.hi, .int .i64 x.s3.lo, .int .i64 x.s3.hi, .int .i64 x.s4.lo, .int .i64 x.s4.hi]) := htop
        have hk5 : k = 0 ∨ k = 1 ∨ k = 2 ∨ k = 3 ∨ k = 4 := by omega
        by_cases hlt : at_ < (x.get k).lo
        · rcases hk5 with rfl | rfl | rfl | rfl | rfl <;> simp only [Box.get, reduceIte, Int.reduceEq] at hlt <;> simp -implicitDefEqProofs [h1, hrow, c0, c9, c10, wL, htop, hlen2, hlt, encL_nil]
        · have hge : (x.get k).hi ≤ at_ := by omega
          rcases hk5 with rfl | rfl | rfl | rfl | rfl <;> simp only [Box.get, reduceIte, Int.reduceEq] at hlt hge <;> simp -implicitDefEqProofs [h1, hrow, c0, c9, c10, wL, htop, hlen2, hlt, hge, encL_nil]
      case pos =>
        rw [if_pos hin] at hW
        obtain ⟨l1, l2⟩ := hin
        have hg64 := okB_get hxok k
        have hat : ok64 at_ := by unfold okS64 ok64 at hg64; unfold ok64; omega
        have hCu := cutB_of hxok k hat
        have hok2 := okB_cut hxok k hat
        generalize cutB x k at_ = yz at *
        obtain ⟨y, z⟩ := yz
        simp only at hW hok2
        have htop : rd (encL R ++ G2) (R.length * 10) 10 true = some (.agg [.int .i64 x.s0.lo, .int .i64 x.s0.hi, .int .i64 x.s1.lo, .int .i64 x.s1.hi, .int .i64 x.s2.lo, .int .i64 x.s2.hi, .int .i64 x.s3.lo, .int .i64 x.s3.hi, .int .i64 x.s4.lo, .int .i64 x.s4.hi]) := htop
        have hk5 : k = 0 ∨ k = 1 ∨ k = 2 ∨ k = 3 ∨ k = 4 := by omega
        have hlt : ¬ at_ < (x.get k).lo := by omega
        have hge : ¬ (x.get k).hi ≤ at_ := by omega
        have hok3 : ∀ b' ∈ R ++ [z, y], okB b' := fun b' hb' => by
          rcases List.mem_append.1 hb' with hb' | hb'
          · exact hRok' b' hb'
          · simp at hb'
            rcases hb' with rfl | rfl
            · exact hok2.2
            · exact hok2.1
        have hrow2 : encL (R ++ [z, y]) ++ [] = encL R ++ (Row.enc z ++ Row.enc y) := by simp [encL_append, encL_cons, encL_nil]
        have hl2 : (R ++ [z, y]).length = R.length + 1 + 1 := by simp
        have hdn2 := hdn
        rw [← hl2] at hdn2
        have hW3 : (walkS (R ++ [z, y]).reverse (l.drop (i + 1))).map (O ++ ·) = res := by simpa using hW
        rcases hk5 with rfl | rfl | rfl | rfl | rfl <;> simp only [Box.get, reduceIte, Int.reduceEq] at hlt hge <;> simp -implicitDefEqProofs [h1, hrow, c0, c9, c10, c11, wL, w1, htop, hlen2, hlt, hge, hCu, htk]
        all_goals exact ⟨n - 1, by omega, i + 1, by omega, _, R ++ [z, y], by simp; omega, O, by omega, hdn2, hok3, hW3, ⟨by simp, rfl, by omega⟩, ⟨[], hrow2.symm⟩, rfl⟩
  case neg =>
    have hil : i = l.length := by omega
    subst hil
    rw [List.drop_length] at hdn hW
    have hR0 : R = [] := by
      rw [deepN] at hdn
      split at hdn
      · rename_i h; exact List.length_eq_zero_iff.1 h.1
      · omega
    subst hR0
    have hW' : res = some O := by rw [← hW]; simp [walkS]
    subst hW'
    have hOk := takeB O
    have hOl2 := lenB O
    simp -implicitDefEqProofs [h1, hOk, hOl2]
theorem c_pSums : Contract Tryz.prog 48 (sp2 PSumsC) :=
  contract_of_runs mixed (tbl_cons c_pRight (tbl_cons c_bCut tbl_nil)) Tryz.func48 m48 (sp2_runs runs_pSums)
end Go.Co
/- CO: is a verdict proven? by the checker, and by the document. -/
set_option maxHeartbeats 16000000
set_option maxRecDepth 100000
namespace Go.Co
open Go.Am Go.Proofs
attribute [-simp] Go.Am.eff_gcall
def shownB (m : Model) (q : Query) (b : Box) : Bool := if b.empty then true else shownM m q b
theorem closed_shownB {m : Model} (hm : RM m) {q : Query} (hq : okQuery m q = true) (b : Box) : closedM m q b = shownB m q b := by
  unfold shownB
  cases he : b.empty
  · rw [if_neg (by simp)]; exact closed_shown hm hq he
  · unfold closedM
    rw [if_neg (by simp [hq]), if_pos he]
    rfl
noncomputable def ShownC (m : Model) (q : Query) (b : Box) : Option Bool := Part (RM m ∧ okQuery m q = true ∧ okB b) (shownB m q b)
theorem sums_in {m : Model} {b : Box} (hm : RM m) (hb : okB b) (he : b.empty = false) {c : Int} (h0 : 0 ≤ c) (h1 : c < m.classes) : SumsC m c b = some ((boundP m c b).1, (boundP m c b).2) := by
  unfold SumsC
  rw [part_of ⟨hm, hb⟩]
  unfold sumsP
  rw [if_neg (by simp [he]; omega)]
theorem runs_shown (m : Model) (q : Query) (b : Box) (r : Bool) (h : ShownC m q b = some r) : Runs (tbl [(26, sp1 fun (b : Box) => some b.empty), (79, sp3 SumsC)]) a49 [Arg.enc m, Arg.enc q, Arg.enc b] (Arg.enc r) := by
  obtain ⟨⟨hm, hq, hb⟩, rfl⟩ := part_some h
  clear h
  refine ⟨rfl, fun g => run_def ?_⟩
  unfold a49
  unfold shownB
  cases he : b.empty
  case true => simp -implicitDefEqProofs [he]
  rw [if_neg (by simp)]
  have hs := okQuery_spec hq
  have hk := okKind_spec hs.2.2.2.2.2
  have hcl := hm.classes
  have hS := sums_in hm hb he hs.1 hs.2.1
  have s0 := sums_in hm hb he (c := 0) (by omega) (by omega)
  have s1 : 2 ≤ m.classes → _ := fun h => sums_in hm hb he (c := 1) (by omega) (by omega)
  have s2 : m.classes = 3 → _ := fun h => sums_in hm hb he (c := 2) (by omega) (by omega)
  have hokp : okB (pairB q b) := by
    unfold pairB
    split
    · exact okB_set hb _ hb.2.2.2.2
    · exact hb
  have hP := sums_in hm hokp (pair_some he) hs.1 hs.2.1
  rcases hk with ⟨k, _⟩ | ⟨k, k2, _⟩ | ⟨k, f0, f1, _⟩
  · unfold shownM
    rw [if_pos k]
    generalize boundP m q.cls b = z at *
    obtain ⟨z1, z2⟩ := z
    obtain ⟨kind, cls, region, lo, hi, feature, falls, budget⟩ := q
    simp only at *
    subst k
    by_cases c1 : lo ≤ z1
    · simp -implicitDefEqProofs [he, hS, c1]
    · simp -implicitDefEqProofs [he, hS, c1]
  · unfold shownM
    rw [if_neg (by omega), if_pos k]
    have s1 := s1 k2
    have hx : 0 ≤ q.cls := hs.1
    have hx1 := hs.2.1
    obtain ⟨kind, cls, region, lo, hi, feature, falls, budget⟩ := q
    obtain ⟨dim, classes, bias, trees⟩ := m
    simp only at *
    subst k
    have hcs : (classes = 2 ∧ cls = 0) ∨ (classes = 2 ∧ cls = 1) ∨ (classes = 3 ∧ cls = 0) ∨ (classes = 3 ∧ cls = 1) ∨ (classes = 3 ∧ cls = 2) := by omega
    rcases hcs with ⟨rfl, rfl⟩ | ⟨rfl, rfl⟩ | ⟨rfl, rfl⟩ | ⟨rfl, rfl⟩ | ⟨rfl, rfl⟩
    · rcases Int.lt_or_le (boundP ⟨dim, 2, bias, trees⟩ 1 b).2 (boundP ⟨dim, 2, bias, trees⟩ 0 b).1 with g1 | g1 <;> simp -implicitDefEqProofs [he, hS, s0, s1, run_round, g1]
    · rcases Int.lt_or_le (boundP ⟨dim, 2, bias, trees⟩ 0 b).2 (boundP ⟨dim, 2, bias, trees⟩ 1 b).1 with g1 | g1 <;> simp -implicitDefEqProofs [he, hS, s0, s1, run_round, g1]
    · have s2 := s2 rfl
      rcases Int.lt_or_le (boundP ⟨dim, 3, bias, trees⟩ 1 b).2 (boundP ⟨dim, 3, bias, trees⟩ 0 b).1 with g1 | g1 <;> rcases Int.lt_or_le (boundP ⟨dim, 3, bias, trees⟩ 2 b).2 (boundP ⟨dim, 3, bias, trees⟩ 0 b).1 with g2 | g2 <;> simp -implicitDefEqProofs [he, hS, s0, s1, s2, run_round, g1, g2]
    · have s2 := s2 rfl
      rcases Int.lt_or_le (boundP ⟨dim, 3, bias, trees⟩ 0 b).2 (boundP ⟨dim, 3, bias, trees⟩ 1 b).1 with g1 | g1 <;> rcases Int.lt_or_le (boundP ⟨dim, 3, bias, trees⟩ 2 b).2 (boundP ⟨dim, 3, bias, trees⟩ 1 b).1 with g2 | g2 <;> simp -implicitDefEqProofs [he, hS, s0, s1, s2, run_round, g1, g2]
    · have s2 := s2 rfl
      rcases Int.lt_or_le (boundP ⟨dim, 3, bias, trees⟩ 0 b).2 (boundP ⟨dim, 3, bias, trees⟩ 2 b).1 with g1 | g1 <;> rcases Int.lt_or_le (boundP ⟨dim, 3, bias, trees⟩ 1 b).2 (boundP ⟨dim, 3, bias, trees⟩ 2 b).1 with g2 | g2 <;> simp -implicitDefEqProofs [he, hS, s0, s1, s2, run_round, g1, g2]
  · have hd := hm.dim
    have hpb : pairB q b = b.set q.feature b.s4 := by unfold pairB; rw [if_pos (by unfold paired; simp; omega)]
    rw [hpb] at hP
    unfold shownM
    rw [if_neg (by omega), if_neg (by omega), hpb]
    generalize boundP m q.cls b = z at *
    generalize boundP m q.cls (b.set q.feature b.s4) = y at *
    obtain ⟨z1, z2⟩ := z
    obtain ⟨y1, y2⟩ := y
    obtain ⟨kind, cls, region, lo, hi, feature, falls, budget⟩ := q
    simp only at *
    subst k
    have hc : feature = 0 ∨ feature = 1 ∨ feature = 2 ∨ feature = 3 := by omega
    by_cases hle : b.s4.hi ≤ (b.get feature).lo
    · rcases hc with rfl | rfl | rfl | rfl <;> simp only [Box.get, reduceIte, Int.reduceEq] at hle <;> simp -implicitDefEqProofs [Box.get, he, hS, hle]
    · cases falls
      · by_cases g1 : z2 ≤ y1 <;> (rcases hc with rfl | rfl | rfl | rfl) <;> simp only [Box.get, Box.set, reduceIte, Int.reduceEq] at hle hP <;> simp -implicitDefEqProofs [Box.get, he, hS, hP, hle, g1]
      · by_cases g1 : y2 ≤ z1 <;> (rcases hc with rfl | rfl | rfl | rfl) <;> simp only [Box.get, Box.set, reduceIte, Int.reduceEq] at hle hP <;> simp -implicitDefEqProofs [Box.get, he, hS, hP, hle, g1]
theorem c_shown : Contract Tryz.prog 49 (sp3 ShownC) :=
  contract_of_runs mixed (tbl_cons c_bEmpty (tbl_cons c_sums tbl_nil)) Tryz.func49 m49 (sp3_runs runs_shown)
end Go.Co
/- CO: is a verdict proven? by the checker, and by the document. -/
set_option maxHeartbeats 16000000
set_option maxRecDepth 100000
namespace Go.Co
open Go.Am Go.Proofs
attribute [-simp] Go.Am.eff_gcall
theorem walkS_ok : ∀ (R : List Box) (l : List Step), (∀ x ∈ R, okB x) → ∀ L, walkS R l = some L → ∀ x ∈ L, okB x
  | [], [], _, L, h, x, hx => by
    unfold walkS at h; cases h; simp at hx
  | _ :: _, [], _, L, h, x, hx => by unfold walkS at h; cases h
  | [], _ :: _, _, L, h, x, hx => by unfold walkS at h; cases h
  | b :: bs, s :: l, hR, L, h, x, hx => by
    unfold walkS at h
    split at h
    · rw [Option.map_eq_some_iff] at h
      obtain ⟨L', h', rfl⟩ := h
      rcases List.mem_cons.1 hx with rfl | hx
      · exact hR _ (by simp)
      · exact walkS_ok bs l (fun y hy => hR y (by simp [hy])) L' h' x hx
    · split at h
      · rename_i hin
        have hbok := hR b (by simp)
        have hg64 := okB_get hbok s.place
        have hat : ok64 s.cut := by unfold okS64 ok64 at hg64; unfold ok64; omega
        have hok2 := okB_cut hbok s.place hat
        refine walkS_ok _ l (fun y hy => ?_) L h x hx
        simp only [List.mem_cons] at hy
        rcases hy with rfl | rfl | hy
        · exact hok2.1
        · exact hok2.2
        · exact hR y (by simp [hy])
      · cases h
theorem walkS_len : ∀ (R : List Box) (l : List Step), ∀ L, walkS R l = some L → L.length ≤ l.length
  | [], [], L, h => by unfold walkS at h; cases h; simp
  | _ :: _, [], L, h => by unfold walkS at h; cases h
  | [], _ :: _, L, h => by unfold walkS at h; cases h
  | b :: bs, s :: l, L, h => by
    unfold walkS at h
    split at h
    · rw [Option.map_eq_some_iff] at h
      obtain ⟨L', h', rfl⟩ := h
      have := walkS_len bs l L' h'
      simp; omega
    · split at h
      · have := walkS_len _ l L h
        simp; omega
      · cases h
def c20_0 : ACode := .ops [⟨some 3, .box (.t 0) 6, none, []⟩,⟨some 4, .box (.t 1) 17, none, []⟩,⟨some 5, .box (.t 2) 8, none, []⟩,⟨some 6, .mv (.c (.bool false)), none, []⟩] [3, 4, 5]
theorem r20_0 : type_of% (rr c20_0.eq_1) := rr rfl
def c20_1 : ACode := .ops [⟨some 12, .load 6 true (.t 3), none, [3]⟩,⟨some 13, .load 17 true (.t 4), none, [4]⟩,⟨some 14, .call 25 [.t 12, .t 13], none, []⟩,⟨some 15, .un .not (.t 14), none, []⟩] [3, 4, 5, 15]
theorem r20_1 : type_of% (rr c20_1.eq_1) := rr rfl
def c20_2 : ACode := .ops [⟨some 6, .mv (.c (.bool false)), none, []⟩] [6]
theorem r20_2 : type_of% (rr c20_2.eq_1) := rr rfl
def c20_3 : ACode := .seq c20_2 .ret
theorem r20_3 : type_of% (rr c20_3.eq_1) := rr rfl
def c20_4 : ACode := .cond (.t 15) c20_3 .skip
theorem r20_4 : type_of% (rr c20_4.eq_1) := rr rfl
def c20_5 : ACode := .seq c20_1 c20_4
theorem r20_5 : type_of% (rr c20_5.eq_1) := rr rfl
def c20_6 : ACode := .ops [⟨some 16, .load 17 true (.t 4), none, [4]⟩,⟨some 17, .call 8 [.t 16], none, []⟩,⟨some 7, .alloc [.int .i64 0, .int .i64 0, .int .i64 0, .int .i64 0, .int .i64 0, .int .i64 0, .int .i64 0, .int .i64 0, .int .i64 0, .int .i64 0], none, []⟩,⟨none, .store (.t 7) 10 (.t 17), none, [7]⟩] [3, 4, 5, 7]
theorem r20_6 : type_of% (rr c20_6.eq_1) := rr rfl
def c20_7 : ACode := .ops [⟨some 18, .fad (.t 5) 0, none, [5]⟩,⟨some 19, .load 1 false (.t 18), none, [5]⟩] [3, 4, 5, 7, 19]
theorem r20_7 : type_of% (rr c20_7.eq_1) := rr rfl
def c20_8 : ACode := .ops [⟨some 21, .bin .eql (.t 19) (.c (.int .i64 1)), none, []⟩,⟨some 20, .mv (.t 21), none, []⟩] [3, 4, 5, 7, 19, 20]
theorem r20_8 : type_of% (rr c20_8.eq_1) := rr rfl
def c20_9 : ACode := .ops [⟨some 23, .load 10 true (.t 7), none, [7]⟩,⟨some 24, .fad (.t 5) 1, none, [5]⟩,⟨some 25, .load 1 false (.t 24), none, [5]⟩,⟨some 26, .call 48 [.t 23, .t 25], none, []⟩,⟨some 22, .mv (.t 26), none, []⟩,⟨some 27, .ext (.t 22) 0, none, []⟩,⟨some 28, .ext (.t 22) 1, none, []⟩,⟨some 8, .mv (.t 27), none, []⟩,⟨some 9, .mv (.t 28), none, []⟩] [3, 4, 8, 9]
theorem r20_9 : type_of% (rr c20_9.eq_1) := rr rfl
def c20_10 : ACode := .ops [⟨some 29, .mv (.t 8), none, []⟩,⟨some 30, .len (.t 29), none, []⟩,⟨some 31, .mv (.c (.int .i64 0)), none, []⟩] [3, 4, 9, 29, 30, 31]
theorem r20_10 : type_of% (rr c20_10.eq_1) := rr rfl
def c20_11 : ACode := .ops [⟨some 32, .bin .lss (.t 31) (.t 30), none, []⟩] [3, 4, 9, 29, 30, 31, 32]
theorem r20_11 : type_of% (rr c20_11.eq_1) := rr rfl
def c20_12 : ACode := .cond (.t 32) .skip (.exit 1)
theorem r20_12 : type_of% (rr c20_12.eq_1) := rr rfl
def c20_13 : ACode := .ops [⟨some 33, .ias (.t 29) (.t 31) 10, none, []⟩,⟨some 34, .load 10 true (.t 33), none, []⟩,⟨some 11, .alloc [.int .i64 0, .int .i64 0, .int .i64 0, .int .i64 0, .int .i64 0, .int .i64 0, .int .i64 0, .int .i64 0, .int .i64 0, .int .i64 0], none, []⟩,⟨none, .store (.t 11) 10 (.t 34), none, [11]⟩] [3, 4, 9, 11, 29, 30, 31]
theorem r20_13 : type_of% (rr c20_13.eq_1) := rr rfl
def c20_14 : ACode := .ops [⟨some 35, .load 6 true (.t 3), none, [3]⟩,⟨some 36, .load 17 true (.t 4), none, [4]⟩,⟨some 37, .load 10 true (.t 11), none, [11]⟩,⟨some 38, .call 49 [.t 35, .t 36, .t 37], none, []⟩,⟨some 39, .un .not (.t 38), none, []⟩] [3, 4, 9, 29, 30, 31, 39]
theorem r20_14 : type_of% (rr c20_14.eq_1) := rr rfl
def c20_15 : ACode := .ops [⟨some 6, .mv (.c (.bool false)), none, []⟩] [6]
theorem r20_15 : type_of% (rr c20_15.eq_1) := rr rfl
def c20_16 : ACode := .seq c20_15 .ret
theorem r20_16 : type_of% (rr c20_16.eq_1) := rr rfl
def c20_17 : ACode := .cond (.t 39) c20_16 .skip
theorem r20_17 : type_of% (rr c20_17.eq_1) := rr rfl
def c20_18 : ACode := .seq c20_14 c20_17
theorem r20_18 : type_of% (rr c20_18.eq_1) := rr rfl
def c20_19 : ACode := .seq c20_13 c20_18
theorem r20_19 : type_of% (rr c20_19.eq_1) := rr rfl
def c20_20 : ACode := .block 2 c20_19
theorem r20_20 : type_of% (rr c20_20.eq_1) := rr rfl
def c20_21 : ACode := .ops [⟨some 40, .bin .add (.t 31) (.c (.int .i64 1)), none, []⟩,⟨some 31, .mv (.t 40), none, []⟩] [3, 4, 9, 29, 30, 31]
theorem r20_21 : type_of% (rr c20_21.eq_1) := rr rfl
def c20_22 : ACode := .seq c20_20 c20_21
theorem r20_22 : type_of% (rr c20_22.eq_1) := rr rfl
def c20_23 : ACode := .seq c20_12 c20_22
theorem r20_23 : type_of% (rr c20_23.eq_1) := rr rfl
def c20_24 : ACode := .seq c20_11 c20_23
theorem r20_24 : type_of% (rr c20_24.eq_1) := rr rfl
def c20_25 : ACode := .keep [3, 4, 9, 29, 30, 31] [3, 4] c20_24
theorem r20_25 : type_of% (rr c20_25.eq_1) := rr rfl
def c20_26 : ACode := .loop c20_25
theorem r20_26 : type_of% (rr c20_26.eq_1) := rr rfl
def c20_27 : ACode := .block 1 c20_26
theorem r20_27 : type_of% (rr c20_27.eq_1) := rr rfl
def c20_28 : ACode := .seq c20_10 c20_27
theorem r20_28 : type_of% (rr c20_28.eq_1) := rr rfl
def c20_29 : ACode := .ops [⟨some 41, .mv (.t 9), none, []⟩,⟨some 6, .mv (.t 41), none, []⟩] [6]
theorem r20_29 : type_of% (rr c20_29.eq_1) := rr rfl
def c20_30 : ACode := .seq c20_29 .ret
theorem r20_30 : type_of% (rr c20_30.eq_1) := rr rfl
def c20_31 : ACode := .seq c20_28 c20_30
theorem r20_31 : type_of% (rr c20_31.eq_1) := rr rfl
def c20_32 : ACode := .seq c20_9 c20_31
theorem r20_32 : type_of% (rr c20_32.eq_1) := rr rfl
def c20_33 : ACode := .ops [⟨some 43, .bin .eql (.t 19) (.c (.int .i64 2)), none, []⟩,⟨some 42, .mv (.t 43), none, []⟩] [3, 4, 5, 7, 42]
theorem r20_33 : type_of% (rr c20_33.eq_1) := rr rfl
def c20_34 : ACode := .ops [⟨some 44, .load 10 true (.t 7), none, [7]⟩,⟨some 45, .fad (.t 5) 2, none, [5]⟩,⟨some 46, .load 4 true (.t 45), none, [5]⟩,⟨some 47, .fad (.t 5) 6, none, [5]⟩,⟨some 48, .load 1 false (.t 47), none, [5]⟩,⟨some 49, .call 50 [.t 44, .t 46, .t 48], none, []⟩,⟨some 50, .mv (.t 49), none, []⟩,⟨some 51, .load 6 true (.t 3), some (50, true), [3]⟩,⟨some 52, .load 17 true (.t 4), some (50, true), [4]⟩,⟨some 53, .fad (.t 5) 2, some (50, true), [5]⟩,⟨some 54, .load 4 true (.t 53), some (50, true), [5]⟩,⟨some 55, .fad (.t 5) 6, some (50, true), [5]⟩,⟨some 56, .load 1 false (.t 55), some (50, true), [5]⟩,⟨some 57, .call 36 [.t 51, .t 52, .t 54, .t 56], some (50, true), []⟩,⟨some 58, .pick (.t 50) (.t 57) (.c (.bool false)), none, []⟩,⟨some 6, .mv (.t 58), none, []⟩] [6]
theorem r20_34 : type_of% (rr c20_34.eq_1) := rr rfl
def c20_35 : ACode := .seq c20_34 .ret
theorem r20_35 : type_of% (rr c20_35.eq_1) := rr rfl
def c20_36 : ACode := .cond (.t 42) c20_35 .skip
theorem r20_36 : type_of% (rr c20_36.eq_1) := rr rfl
def c20_37 : ACode := .seq c20_33 c20_36
theorem r20_37 : type_of% (rr c20_37.eq_1) := rr rfl
def c20_38 : ACode := .cond (.t 20) c20_32 c20_37
theorem r20_38 : type_of% (rr c20_38.eq_1) := rr rfl
def c20_39 : ACode := .seq c20_8 c20_38
theorem r20_39 : type_of% (rr c20_39.eq_1) := rr rfl
def c20_40 : ACode := .block 0 c20_39
theorem r20_40 : type_of% (rr c20_40.eq_1) := rr rfl
def c20_41 : ACode := .seq c20_7 c20_40
theorem r20_41 : type_of% (rr c20_41.eq_1) := rr rfl
def c20_42 : ACode := .ops [⟨some 6, .mv (.c (.bool false)), none, []⟩] [6]
theorem r20_42 : type_of% (rr c20_42.eq_1) := rr rfl
def c20_43 : ACode := .seq c20_42 .ret
theorem r20_43 : type_of% (rr c20_43.eq_1) := rr rfl
def c20_44 : ACode := .seq c20_41 c20_43
theorem r20_44 : type_of% (rr c20_44.eq_1) := rr rfl
def c20_45 : ACode := .seq c20_6 c20_44
theorem r20_45 : type_of% (rr c20_45.eq_1) := rr rfl
def c20_46 : ACode := .seq c20_5 c20_45
theorem r20_46 : type_of% (rr c20_46.eq_1) := rr rfl
def c20_47 : ACode := .seq c20_0 c20_46
theorem r20_47 : type_of% (rr c20_47.eq_1) := rr rfl
def a20 : AFun := ⟨3, 59, c20_47, [.t 6]⟩
attribute [simp] r20_0 r20_1 r20_2 r20_3 r20_4 r20_5 r20_6 r20_7 r20_8 r20_9 r20_10 r20_11 r20_12 r20_13 r20_14 r20_15 r20_16 r20_17 r20_18 r20_19 r20_20 r20_21 r20_22 r20_23 r20_24 r20_25 r20_26 r20_27 r20_28 r20_29 r20_30 r20_31 r20_32 r20_33 r20_34 r20_35 r20_36 r20_37 r20_38 r20_39 r20_40 r20_41 r20_42 r20_43 r20_44 r20_45 r20_46 r20_47
theorem m20 : mFun Tryz.prog Tryz.f20 a20 = true := by decide +kernel
def allShown (m : Model) (q : Query) (l : Option (List Box)) : Bool := match l with
  | some bs => bs.all (shownB m q)
  | none => false
def holdsV (m : Model) (q : Query) (l : List Step) : Bool := decide (0 < deepV l) && allShown m q (walkS [startOf q] l)
def provesM (m : Model) (q : Query) (v : Verdict) : Bool := okQuery m q && (if v.kind = 1 then holdsV m q v.proof else if v.kind = 2 then hasB (startOf q) v.witness v.twin && breaks m q v.witness v.twin else false)
noncomputable def ProvesC (m : Model) (q : Query) (v : Verdict) : Option Bool := if m.dim < 1 then some false else Part (RM m) (provesM m q v)
theorem runs_Proves (m : Model) (q : Query) (v : Verdict) (r : Bool) (h : ProvesC m q v = some r) : Runs (tbl [(25, sp2 QRight), (8, sp1 fun q => some (startOf q)), (48, sp2 PSumsC), (49, sp3 ShownC), (50, sp3 fun b p t => some (hasB b p t)), (36, sp4 BreaksC)]) a20 [Arg.enc m, Arg.enc q, Arg.enc v] (Arg.enc r) := by
  unfold ProvesC at h
  refine ⟨rfl, fun g => run_def ?_⟩
  unfold a20
  by_cases hd : m.dim < 1
  case pos =>
    rw [if_pos hd] at h
    cases h
    have hQ : QRight m q = some false := by unfold QRight; rw [if_pos (by omega)]
    simp -implicitDefEqProofs [hQ]
  rw [if_neg hd] at h
  obtain ⟨hm, rfl⟩ := part_some h
  clear h
  have hQ : QRight m q = some (okQuery m q) := by unfold QRight; rw [if_neg (by have := hm.dim; omega)]; exact part_of hm _
  unfold provesM
  cases hq : okQuery m q
  case false =>
    rw [hq] at hQ
    simp -implicitDefEqProofs [hQ]
  rw [hq] at hQ
  have hst := okQuery_start hq
  obtain ⟨kind, pf, w, tw, sp⟩ := v
  simp only [Bool.true_and]
  by_cases k1 : kind = 1
  case neg =>
    rw [if_neg k1]
    by_cases k2 : kind = 2
    case neg => simp -implicitDefEqProofs [hQ, k1, k2]
    subst k2
    have hB : BreaksC m q w tw = some (breaks m q w tw) := part_of hm _
    cases hh : hasB (startOf q) w tw
    case false => simp -implicitDefEqProofs [hQ, hh]
    simp -implicitDefEqProofs [hQ, hh, hB]
  subst k1
  rw [if_pos rfl]
  unfold holdsV
  have hPS : PSumsC (startOf q) pf = some (if 0 < deepV pf then (match walkS [startOf q] pf with
    | some out => (out, true)
    | none => ([], false)) else ([], false)) := part_of hst.2.1 _
  by_cases hdp : 0 < deepV pf
  case neg =>
    rw [if_neg hdp] at hPS
    simp -implicitDefEqProofs [hQ, hPS, hdp, encL_nil, run_round]
  rw [if_pos hdp] at hPS
  have hok := walkS_ok [startOf q] pf
  have hlen := walkS_len [startOf q] pf
  have h6 : pf.length ≤ 65536 := by
    unfold deepV at hdp
    split at hdp
    · assumption
    · omega
  cases hwk : walkS [startOf q] pf with
  | none =>
    rw [hwk] at hPS
    simp -implicitDefEqProofs [hQ, hPS, hdp, allShown, encL_nil, run_round]
  | some L =>
    rw [hwk] at hPS
    have hLok := hok (by simpa using hst.2.1) L hwk
    have hLl := hlen L hwk
    have b1 : L.length ≤ maxN := by unfold maxN; omega
    have hSh : ∀ x ∈ L, ShownC m q x = some (shownB m q x) := fun x hx => part_of ⟨hm, hq, hLok x hx⟩ _
    simp -implicitDefEqProofs [hQ, hPS, hdp, allShown, b1]
    refine run_while (c := c20_24) (fun n s => ∃ (i : Nat) (g : Nat → Nat), i + n = L.length ∧ (∀ x ∈ L.take i, shownB m q x = true) ∧ s = ⟨[(3, .ptr 3 (g 3) 0), (4, .ptr 4 (g 4) 0), (9, .bool true), (29, .lst L.length (encL L)), (30, .int .i64 L.length), (31, .int .i64 i)],
      [(3, ⟨Row.enc m, false, 0⟩), (4, ⟨Row.enc q, false, 0⟩)], g⟩) L.length ⟨0, bump 7 (bump 5 (bump 4 (bump 3 g))), by omega, by simp, by simp⟩ ?_
    rintro n s ⟨i, g, hi, hal, rfl⟩
    by_cases h1 : i < L.length
    case pos =>
      have w1 : IntKind.i64.wrap ((i : Int) + 1) = (i : Int) + 1 := wrap64 (by omega) (by omega)
      have hrow := rd_box L i h1
      have hB := hSh L[i] (List.getElem_mem h1)
      have hmem : L[i] ∈ L := List.getElem_mem h1
      have htk : L.take (i + 1) = L.take i ++ [L[i]] := List.take_succ_eq_append_getElem h1
      generalize L[i] = x at *
      cases hx : shownB m q x
      case false =>
        have : L.all (shownB m q) = false := by
          rw [List.all_eq_false]
          exact ⟨x, hmem, by simp [hx]⟩
        rw [hx] at hB
        simp -implicitDefEqProofs [h1, hrow, hB, this]
      case true =>
        rw [hx] at hB
        simp -implicitDefEqProofs [h1, hrow, hB, w1]
        refine ⟨n - 1, by omega, i + 1, by omega, fun y hy => ?_, by omega⟩
        rw [htk, List.mem_append, List.mem_singleton] at hy
        rcases hy with hy | rfl
        · exact hal y hy
        · exact hx
    case neg =>
      have hil : i = L.length := by omega
      subst hil
      rw [List.take_length] at hal
      have : L.all (shownB m q) = true := List.all_eq_true.2 hal
      simp -implicitDefEqProofs [h1, this]
theorem c_Proves : Contract Tryz.prog 20 (sp3 ProvesC) :=
  contract_of_runs mixed (tbl_cons c_qRight (tbl_cons c_Start (tbl_cons c_pSums (tbl_cons c_shown (tbl_cons c_Has (tbl_cons c_Breaks tbl_nil)))))) Tryz.func20 m20 (sp3_runs runs_Proves)
def checkN (m : Model) (q : Query) : List Box → List Step → Bool
  | [], [] => true
  | _ :: _, [] => false
  | [], _ :: _ => false
  | b :: bs, s :: l => if 200 ≤ bs.length then false else if s.sum then (if s.place = 0 ∧ s.cut = 0 then (if closedM m q b then checkN m q bs l else false) else false) else
    if 0 ≤ s.place ∧ s.place ≤ 4 then (if (b.get s.place).lo ≤ s.cut ∧ s.cut < (b.get s.place).hi then checkN m q ((cutB b s.place s.cut).1 :: (cutB b s.place s.cut).2 :: bs) l else false) else false
def checkM (m : Model) (q : Query) (l : List Step) : Bool := okQuery m q && decide (l.length ≤ 65536) && checkN m q [startOf q] l
end Go.Co
