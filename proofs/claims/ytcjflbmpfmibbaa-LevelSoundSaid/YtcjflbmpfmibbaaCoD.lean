/- CO: spans and boxes. -/
import Derived.Test.YtcjflbmpfmibbaaCoC
namespace Go.Co
open Go.Am Go.Proofs
set_option linter.unusedSimpArgs false
set_option linter.unusedVariables false
def c144_0 : ACode := .ops [⟨some 0, .alloc [.int .i64 0, .int .i64 0], none, []⟩] [0]
theorem r144_0 : type_of% (@rr _ _ c144_0.eq_1) := rr c144_0.eq_1
def c144_1 : ACode := .ops [⟨some 1, .build [.int .i64 0, .int .i64 0] [(0, 1, .c (.int .i64 1))], none, []⟩,
  ⟨none, .store (.t 0) 2 (.t 1), none, [0]⟩] [0]
theorem r144_1 : type_of% (@rr _ _ c144_1.eq_1) := rr c144_1.eq_1
def c144_2 : ACode := .seq c144_1 .ret
theorem r144_2 : type_of% (@rr _ _ c144_2.eq_1) := rr c144_2.eq_1
def c144_3 : ACode := .seq c144_0 c144_2
theorem r144_3 : type_of% (@rr _ _ c144_3.eq_1) := rr c144_3.eq_1
def a144 : AFun := ⟨0, 2, c144_3, [.cell 0 2 true]⟩
attribute [simp] r144_0 r144_1 r144_2 r144_3
theorem m144 : mFun Try.prog Try.f144 a144 = true := by decide +kernel
def c143_0 : ACode := .ops [⟨some 4, .alloc [.int .i64 0, .int .i64 0], none, []⟩] [0, 1, 4]
theorem r143_0 : type_of% (@rr _ _ c143_0.eq_1) := rr c143_0.eq_1
def c143_1 : ACode := .ops [⟨some 5, .mv (.t 0), none, []⟩,
  ⟨some 6, .mv (.t 1), none, []⟩,
  ⟨some 7, .bin .gtr (.t 5) (.t 6), none, []⟩] [0, 1, 4, 7]
theorem r143_1 : type_of% (@rr _ _ c143_1.eq_1) := rr c143_1.eq_1
def c143_2 : ACode := .ops [⟨some 8, .call 144 [], none, []⟩,
  ⟨none, .store (.t 4) 2 (.t 8), none, [4]⟩] [4]
theorem r143_2 : type_of% (@rr _ _ c143_2.eq_1) := rr c143_2.eq_1
def c143_3 : ACode := .seq c143_2 .ret
theorem r143_3 : type_of% (@rr _ _ c143_3.eq_1) := rr c143_3.eq_1
def c143_4 : ACode := .cond (.t 7) c143_3 .skip
theorem r143_4 : type_of% (@rr _ _ c143_4.eq_1) := rr c143_4.eq_1
def c143_5 : ACode := .seq c143_1 c143_4
theorem r143_5 : type_of% (@rr _ _ c143_5.eq_1) := rr c143_5.eq_1
def c143_6 : ACode := .ops [⟨some 9, .mv (.t 0), none, []⟩,
  ⟨some 10, .mv (.t 1), none, []⟩,
  ⟨some 11, .build [.int .i64 0, .int .i64 0] [(0, 1, .t 9), (1, 1, .t 10)], none, []⟩,
  ⟨none, .store (.t 4) 2 (.t 11), none, [4]⟩] [4]
theorem r143_6 : type_of% (@rr _ _ c143_6.eq_1) := rr c143_6.eq_1
def c143_7 : ACode := .seq c143_6 .ret
theorem r143_7 : type_of% (@rr _ _ c143_7.eq_1) := rr c143_7.eq_1
def c143_8 : ACode := .seq c143_5 c143_7
theorem r143_8 : type_of% (@rr _ _ c143_8.eq_1) := rr c143_8.eq_1
def c143_9 : ACode := .seq c143_0 c143_8
theorem r143_9 : type_of% (@rr _ _ c143_9.eq_1) := rr c143_9.eq_1
def a143 : AFun := ⟨2, 12, c143_9, [.cell 4 2 true]⟩
attribute [simp] r143_0 r143_1 r143_2 r143_3 r143_4 r143_5 r143_6 r143_7 r143_8 r143_9
theorem m143 : mFun Try.prog Try.f143 a143 = true := by decide +kernel
def c117_0 : ACode := .ops [⟨some 1, .box (.t 0) 2, none, []⟩,
  ⟨some 2, .mv (.c (.bool false)), none, []⟩] [1]
theorem r117_0 : type_of% (@rr _ _ c117_0.eq_1) := rr c117_0.eq_1
def c117_1 : ACode := .ops [⟨some 3, .fad (.t 1) 0, none, [1]⟩,
  ⟨some 4, .load 1 false (.t 3), none, [1]⟩,
  ⟨some 5, .fad (.t 1) 1, none, [1]⟩,
  ⟨some 6, .load 1 false (.t 5), none, [1]⟩,
  ⟨some 7, .bin .gtr (.t 4) (.t 6), none, []⟩,
  ⟨some 2, .mv (.t 7), none, []⟩] [2]
theorem r117_1 : type_of% (@rr _ _ c117_1.eq_1) := rr c117_1.eq_1
def c117_2 : ACode := .seq c117_1 .ret
theorem r117_2 : type_of% (@rr _ _ c117_2.eq_1) := rr c117_2.eq_1
def c117_3 : ACode := .seq c117_0 c117_2
theorem r117_3 : type_of% (@rr _ _ c117_3.eq_1) := rr c117_3.eq_1
def a117 : AFun := ⟨1, 8, c117_3, [.t 2]⟩
attribute [simp] r117_0 r117_1 r117_2 r117_3
theorem m117 : mFun Try.prog Try.f117 a117 = true := by decide +kernel
def c110_0 : ACode := .ops [⟨some 2, .box (.t 0) 2, none, []⟩,
  ⟨some 4, .alloc [.int .i64 0, .int .i64 0], none, []⟩,
  ⟨some 5, .alloc [.int .i64 0, .int .i64 0], none, []⟩] [1, 2, 4, 5]
theorem r110_0 : type_of% (@rr _ _ c110_0.eq_1) := rr c110_0.eq_1
def c110_1 : ACode := .ops [⟨some 7, .fad (.t 2) 0, none, [2]⟩,
  ⟨some 8, .load 1 false (.t 7), none, [2]⟩,
  ⟨some 9, .fad (.t 2) 1, none, [2]⟩,
  ⟨some 10, .load 1 false (.t 9), none, [2]⟩,
  ⟨some 11, .mv (.t 1), none, []⟩,
  ⟨some 12, .mnmx false (.t 10) (.t 11), none, []⟩,
  ⟨some 13, .call 143 [.t 8, .t 12], none, []⟩,
  ⟨some 6, .alloc [.int .i64 0, .int .i64 0], none, []⟩,
  ⟨none, .store (.t 6) 2 (.t 13), none, [6]⟩] [1, 2, 4, 5, 6]
theorem r110_1 : type_of% (@rr _ _ c110_1.eq_1) := rr c110_1.eq_1
def c110_2 : ACode := .ops [⟨some 14, .mv (.t 1), none, []⟩,
  ⟨some 15, .fad (.t 2) 1, none, [2]⟩,
  ⟨some 16, .load 1 false (.t 15), none, [2]⟩,
  ⟨some 17, .bin .geq (.t 14) (.t 16), none, []⟩] [1, 2, 4, 5, 6, 17]
theorem r110_2 : type_of% (@rr _ _ c110_2.eq_1) := rr c110_2.eq_1
def c110_3 : ACode := .ops [⟨some 18, .load 2 true (.t 6), none, [6]⟩,
  ⟨some 19, .call 144 [], none, []⟩,
  ⟨none, .store (.t 4) 2 (.t 18), none, [4]⟩,
  ⟨none, .store (.t 5) 2 (.t 19), none, [5]⟩] [4, 5]
theorem r110_3 : type_of% (@rr _ _ c110_3.eq_1) := rr c110_3.eq_1
def c110_4 : ACode := .seq c110_3 .ret
theorem r110_4 : type_of% (@rr _ _ c110_4.eq_1) := rr c110_4.eq_1
def c110_5 : ACode := .cond (.t 17) c110_4 .skip
theorem r110_5 : type_of% (@rr _ _ c110_5.eq_1) := rr c110_5.eq_1
def c110_6 : ACode := .seq c110_2 c110_5
theorem r110_6 : type_of% (@rr _ _ c110_6.eq_1) := rr c110_6.eq_1
def c110_7 : ACode := .ops [⟨some 20, .load 2 true (.t 6), none, [6]⟩,
  ⟨some 21, .fad (.t 2) 0, none, [2]⟩,
  ⟨some 22, .load 1 false (.t 21), none, [2]⟩,
  ⟨some 23, .mv (.t 1), none, []⟩,
  ⟨some 24, .bin .add (.t 23) (.c (.int .i64 1)), none, []⟩,
  ⟨some 25, .mnmx true (.t 22) (.t 24), none, []⟩,
  ⟨some 26, .fad (.t 2) 1, none, [2]⟩,
  ⟨some 27, .load 1 false (.t 26), none, [2]⟩,
  ⟨some 28, .call 143 [.t 25, .t 27], none, []⟩,
  ⟨none, .store (.t 4) 2 (.t 20), none, [4]⟩,
  ⟨none, .store (.t 5) 2 (.t 28), none, [5]⟩] [4, 5]
theorem r110_7 : type_of% (@rr _ _ c110_7.eq_1) := rr c110_7.eq_1
def c110_8 : ACode := .seq c110_7 .ret
theorem r110_8 : type_of% (@rr _ _ c110_8.eq_1) := rr c110_8.eq_1
def c110_9 : ACode := .seq c110_6 c110_8
theorem r110_9 : type_of% (@rr _ _ c110_9.eq_1) := rr c110_9.eq_1
def c110_10 : ACode := .seq c110_1 c110_9
theorem r110_10 : type_of% (@rr _ _ c110_10.eq_1) := rr c110_10.eq_1
def c110_11 : ACode := .seq c110_0 c110_10
theorem r110_11 : type_of% (@rr _ _ c110_11.eq_1) := rr c110_11.eq_1
def a110 : AFun := ⟨2, 29, c110_11, [.cell 4 2 true, .cell 5 2 true]⟩
attribute [simp] r110_0 r110_1 r110_2 r110_3 r110_4 r110_5 r110_6 r110_7 r110_8 r110_9 r110_10 r110_11
theorem m110 : mFun Try.prog Try.f110 a110 = true := by decide +kernel
def c66_0 : ACode := .ops [⟨some 1, .box (.t 0) 10, none, []⟩,
  ⟨some 2, .mv (.c (.bool false)), none, []⟩] [1]
theorem r66_0 : type_of% (@rr _ _ c66_0.eq_1) := rr c66_0.eq_1
def c66_1 : ACode := .ops [⟨some 5, .load 10 true (.t 1), none, [1]⟩,
  ⟨some 6, .mv (.c (.int .i64 0)), none, []⟩] [5, 6]
theorem r66_1 : type_of% (@rr _ _ c66_1.eq_1) := rr c66_1.eq_1
def c66_2 : ACode := .ops [⟨some 7, .bin .lss (.t 6) (.c (.int .i64 5)), none, []⟩] [5, 6, 7]
theorem r66_2 : type_of% (@rr _ _ c66_2.eq_1) := rr c66_2.eq_1
def c66_3 : ACode := .cond (.t 7) .skip (.exit 0)
theorem r66_3 : type_of% (@rr _ _ c66_3.eq_1) := rr c66_3.eq_1
def c66_4 : ACode := .ops [⟨some 8, .idx (.t 5) (.t 6) 2 5 true, none, []⟩,
  ⟨some 4, .alloc [.int .i64 0, .int .i64 0], none, []⟩,
  ⟨none, .store (.t 4) 2 (.t 8), none, [4]⟩] [4, 5, 6]
theorem r66_4 : type_of% (@rr _ _ c66_4.eq_1) := rr c66_4.eq_1
def c66_5 : ACode := .ops [⟨some 9, .load 2 true (.t 4), none, [4]⟩,
  ⟨some 10, .call 117 [.t 9], none, []⟩] [5, 6, 10]
theorem r66_5 : type_of% (@rr _ _ c66_5.eq_1) := rr c66_5.eq_1
def c66_6 : ACode := .ops [⟨some 2, .mv (.c (.bool true)), none, []⟩] [2]
theorem r66_6 : type_of% (@rr _ _ c66_6.eq_1) := rr c66_6.eq_1
def c66_7 : ACode := .seq c66_6 .ret
theorem r66_7 : type_of% (@rr _ _ c66_7.eq_1) := rr c66_7.eq_1
def c66_8 : ACode := .cond (.t 10) c66_7 .skip
theorem r66_8 : type_of% (@rr _ _ c66_8.eq_1) := rr c66_8.eq_1
def c66_9 : ACode := .seq c66_5 c66_8
theorem r66_9 : type_of% (@rr _ _ c66_9.eq_1) := rr c66_9.eq_1
def c66_10 : ACode := .seq c66_4 c66_9
theorem r66_10 : type_of% (@rr _ _ c66_10.eq_1) := rr c66_10.eq_1
def c66_11 : ACode := .block 1 c66_10
theorem r66_11 : type_of% (@rr _ _ c66_11.eq_1) := rr c66_11.eq_1
def c66_12 : ACode := .ops [⟨some 11, .bin .add (.t 6) (.c (.int .i64 1)), none, []⟩,
  ⟨some 6, .mv (.t 11), none, []⟩] [5, 6]
theorem r66_12 : type_of% (@rr _ _ c66_12.eq_1) := rr c66_12.eq_1
def c66_13 : ACode := .seq c66_11 c66_12
theorem r66_13 : type_of% (@rr _ _ c66_13.eq_1) := rr c66_13.eq_1
def c66_14 : ACode := .seq c66_3 c66_13
theorem r66_14 : type_of% (@rr _ _ c66_14.eq_1) := rr c66_14.eq_1
def c66_15 : ACode := .seq c66_2 c66_14
theorem r66_15 : type_of% (@rr _ _ c66_15.eq_1) := rr c66_15.eq_1
def c66_16 : ACode := .keep [5, 6] [] c66_15
theorem r66_16 : type_of% (@rr _ _ c66_16.eq_1) := rr c66_16.eq_1
def c66_17 : ACode := .loop c66_16
theorem r66_17 : type_of% (@rr _ _ c66_17.eq_1) := rr c66_17.eq_1
def c66_18 : ACode := .block 0 c66_17
theorem r66_18 : type_of% (@rr _ _ c66_18.eq_1) := rr c66_18.eq_1
def c66_19 : ACode := .seq c66_1 c66_18
theorem r66_19 : type_of% (@rr _ _ c66_19.eq_1) := rr c66_19.eq_1
def c66_20 : ACode := .ops [⟨some 2, .mv (.c (.bool false)), none, []⟩] [2]
theorem r66_20 : type_of% (@rr _ _ c66_20.eq_1) := rr c66_20.eq_1
def c66_21 : ACode := .seq c66_20 .ret
theorem r66_21 : type_of% (@rr _ _ c66_21.eq_1) := rr c66_21.eq_1
def c66_22 : ACode := .seq c66_19 c66_21
theorem r66_22 : type_of% (@rr _ _ c66_22.eq_1) := rr c66_22.eq_1
def c66_23 : ACode := .seq c66_0 c66_22
theorem r66_23 : type_of% (@rr _ _ c66_23.eq_1) := rr c66_23.eq_1
def a66 : AFun := ⟨1, 12, c66_23, [.t 2]⟩
attribute [simp] r66_0 r66_1 r66_2 r66_3 r66_4 r66_5 r66_6 r66_7 r66_8 r66_9 r66_10 r66_11 r66_12 r66_13 r66_14 r66_15 r66_16 r66_17 r66_18 r66_19 r66_20 r66_21 r66_22 r66_23
theorem m66 : mFun Try.prog Try.f66 a66 = true := by decide +kernel
def c58_0 : ACode := .ops [⟨some 3, .box (.t 0) 10, none, []⟩,
  ⟨some 6, .alloc [.int .i64 0, .int .i64 0, .int .i64 0, .int .i64 0, .int .i64 0, .int .i64 0, .int .i64 0, .int .i64 0, .int .i64 0, .int .i64 0], none, []⟩,
  ⟨some 7, .alloc [.int .i64 0, .int .i64 0, .int .i64 0, .int .i64 0, .int .i64 0, .int .i64 0, .int .i64 0, .int .i64 0, .int .i64 0, .int .i64 0], none, []⟩] [1, 2, 3, 6, 7]
theorem r58_0 : type_of% (@rr _ _ c58_0.eq_1) := rr c58_0.eq_1
def c58_1 : ACode := .ops [⟨some 10, .load 10 true (.t 3), none, [3]⟩,
  ⟨some 11, .load 10 true (.t 3), none, [3]⟩,
  ⟨some 8, .alloc [.int .i64 0, .int .i64 0, .int .i64 0, .int .i64 0, .int .i64 0, .int .i64 0, .int .i64 0, .int .i64 0, .int .i64 0, .int .i64 0], none, []⟩,
  ⟨some 9, .alloc [.int .i64 0, .int .i64 0, .int .i64 0, .int .i64 0, .int .i64 0, .int .i64 0, .int .i64 0, .int .i64 0, .int .i64 0, .int .i64 0], none, []⟩,
  ⟨none, .store (.t 8) 10 (.t 10), none, [8]⟩,
  ⟨none, .store (.t 9) 10 (.t 11), none, [9]⟩] [1, 2, 3, 6, 7, 8, 9]
theorem r58_1 : type_of% (@rr _ _ c58_1.eq_1) := rr c58_1.eq_1
def c58_2 : ACode := .ops [⟨some 12, .mv (.t 1), none, []⟩,
  ⟨some 13, .bin .geq (.t 12) (.c (.int .i64 0)), none, []⟩,
  ⟨some 14, .mv (.t 13), none, []⟩,
  ⟨some 15, .mv (.t 1), some (14, true), []⟩,
  ⟨some 16, .bin .lss (.t 15) (.c (.int .i64 5)), some (14, true), []⟩,
  ⟨some 17, .pick (.t 14) (.t 16) (.c (.bool false)), none, []⟩] [1, 2, 3, 6, 7, 8, 9, 17]
theorem r58_2 : type_of% (@rr _ _ c58_2.eq_1) := rr c58_2.eq_1
def c58_3 : ACode := .ops [⟨some 19, .mv (.t 1), none, []⟩,
  ⟨some 20, .mv (.t 1), none, []⟩,
  ⟨some 21, .mv (.t 1), none, []⟩,
  ⟨some 22, .iad (.t 3) (.t 21) 2 5, none, [3]⟩,
  ⟨some 23, .load 2 true (.t 22), none, [3]⟩,
  ⟨some 24, .mv (.t 2), none, []⟩,
  ⟨some 25, .call 110 [.t 23, .t 24], none, []⟩,
  ⟨some 18, .mv (.t 25), none, []⟩,
  ⟨some 26, .ext (.t 18) 0, none, []⟩,
  ⟨some 27, .ext (.t 18) 1, none, []⟩,
  ⟨some 28, .iad (.t 8) (.t 19) 2 5, none, [8]⟩,
  ⟨none, .store (.t 28) 2 (.t 26), none, [8]⟩,
  ⟨some 29, .iad (.t 9) (.t 20) 2 5, none, [9]⟩,
  ⟨none, .store (.t 29) 2 (.t 27), none, [9]⟩] [6, 7, 8, 9]
theorem r58_3 : type_of% (@rr _ _ c58_3.eq_1) := rr c58_3.eq_1
def c58_4 : ACode := .cond (.t 17) c58_3 .skip
theorem r58_4 : type_of% (@rr _ _ c58_4.eq_1) := rr c58_4.eq_1
def c58_5 : ACode := .seq c58_2 c58_4
theorem r58_5 : type_of% (@rr _ _ c58_5.eq_1) := rr c58_5.eq_1
def c58_6 : ACode := .ops [⟨some 30, .load 10 true (.t 8), none, [8]⟩,
  ⟨some 31, .load 10 true (.t 9), none, [9]⟩,
  ⟨none, .store (.t 6) 10 (.t 30), none, [6]⟩,
  ⟨none, .store (.t 7) 10 (.t 31), none, [7]⟩] [6, 7]
theorem r58_6 : type_of% (@rr _ _ c58_6.eq_1) := rr c58_6.eq_1
def c58_7 : ACode := .seq c58_6 .ret
theorem r58_7 : type_of% (@rr _ _ c58_7.eq_1) := rr c58_7.eq_1
def c58_8 : ACode := .seq c58_5 c58_7
theorem r58_8 : type_of% (@rr _ _ c58_8.eq_1) := rr c58_8.eq_1
def c58_9 : ACode := .seq c58_1 c58_8
theorem r58_9 : type_of% (@rr _ _ c58_9.eq_1) := rr c58_9.eq_1
def c58_10 : ACode := .seq c58_0 c58_9
theorem r58_10 : type_of% (@rr _ _ c58_10.eq_1) := rr c58_10.eq_1
def a58 : AFun := ⟨3, 32, c58_10, [.cell 6 10 true, .cell 7 10 true]⟩
attribute [simp] r58_0 r58_1 r58_2 r58_3 r58_4 r58_5 r58_6 r58_7 r58_8 r58_9 r58_10
theorem m58 : mFun Try.prog Try.f58 a58 = true := by decide +kernel
theorem runs_none (c : Span) (h : some noneS = some c) : Runs (tbl []) a144 [] (Arg.enc c) := by
  cases h
  refine ⟨rfl, fun g => run_def ?_⟩
  unfold a144
  simp -implicitDefEqProofs [noneS]
theorem c_none : Contract Try.prog 144 (sp0 (some noneS)) := contract_of_runs mixed tbl_nil Try.func144 m144 (sp0_runs runs_none)
theorem runs_of (lo hi : Int) (c : Span) (h : some (ofS lo hi) = some c) : Runs (tbl [(144, sp0 (some noneS))]) a143 [Arg.enc lo, Arg.enc hi] (Arg.enc c) := by
  cases h
  refine ⟨rfl, fun g => run_def ?_⟩
  unfold a143
  by_cases h1 : hi < lo <;> simp -implicitDefEqProofs [ofS, noneS, h1]
theorem c_of : Contract Try.prog 143 (sp2 fun lo hi => some (ofS lo hi)) :=
  contract_of_runs mixed (tbl_cons c_none tbl_nil) Try.func143 m143 (sp2_runs runs_of)
theorem runs_sEmpty (s : Span) (c : Bool) (h : some s.empty = some c) : Runs (tbl []) a117 [Arg.enc s] (Arg.enc c) := by
  cases h
  refine ⟨rfl, fun g => run_def ?_⟩
  unfold a117
  simp -implicitDefEqProofs [Span.empty]
theorem c_sEmpty : Contract Try.prog 117 (sp1 fun (s : Span) => some s.empty) := contract_of_runs mixed tbl_nil Try.func117 m117 (sp1_runs runs_sEmpty)
def CutS (s : Span) (n : Int) : Option (Span × Span) := if ok64 n ∧ ok64 s.hi then some (cutS s n) else none
theorem runs_sCut (s : Span) (n : Int) (c : Span × Span) (h : CutS s n = some c) : Runs (tbl [(143, sp2 fun lo hi => some (ofS lo hi)), (144, sp0 (some noneS))]) a110 [Arg.enc s, Arg.enc n] (Arg.enc c) := by
  unfold CutS at h
  split at h
  · rename_i hb
    cases h
    obtain ⟨⟨b1, b2⟩, b3, b4⟩ := hb
    refine ⟨rfl, fun g => run_def ?_⟩
    unfold a110
    by_cases h1 : s.hi ≤ n
    · by_cases h2 : n < s.hi
      · omega
      · simp -implicitDefEqProofs [cutS, noneS, h1, h2]
    · have e : IntKind.i64.wrap (n + 1) = n + 1 := wrap64 (by omega) (by omega)
      have h2 : n < s.hi := by omega
      simp -implicitDefEqProofs [cutS, h1, h2, e]
  · cases h
theorem c_sCut : Contract Try.prog 110 (sp2 CutS) :=
  contract_of_runs mixed (tbl_cons c_of (tbl_cons c_none tbl_nil)) Try.func110 m110 (sp2_runs runs_sCut)
theorem runs_bEmpty (b : Box) (c : Bool) (h : some b.empty = some c) : Runs (tbl [(117, sp1 fun (s : Span) => some s.empty)]) a66 [Arg.enc b] (Arg.enc c) := by
  cases h
  refine ⟨rfl, fun g => run_def ?_⟩
  unfold a66
  cases h0 : b.s0.empty
  case true => simp -implicitDefEqProofs [Box.empty, run_round, h0]
  cases h1 : b.s1.empty
  case true => simp -implicitDefEqProofs [Box.empty, run_round, h0, h1]
  cases h2 : b.s2.empty
  case true => simp -implicitDefEqProofs [Box.empty, run_round, h0, h1, h2]
  cases h3 : b.s3.empty
  case true => simp -implicitDefEqProofs [Box.empty, run_round, h0, h1, h2, h3]
  cases h4 : b.s4.empty <;> simp -implicitDefEqProofs [Box.empty, run_round, h0, h1, h2, h3, h4]
theorem c_bEmpty : Contract Try.prog 66 (sp1 fun (b : Box) => some b.empty) :=
  contract_of_runs mixed (tbl_cons c_sEmpty tbl_nil) Try.func66 m66 (sp1_runs runs_bEmpty)
def CutB (b : Box) (p n : Int) : Option (Box × Box) := if ok64 n ∧ ok64 (b.get p).hi then some (cutB b p n) else none
theorem runs_bCut (b : Box) (p n : Int) (c : Box × Box) (h : CutB b p n = some c) : Runs (tbl [(110, sp2 CutS)]) a58 [Arg.enc b, Arg.enc p, Arg.enc n] (Arg.enc c) := by
  unfold CutB at h
  split at h
  · rename_i hb
    cases h
    obtain ⟨b1, b2⟩ := hb
    refine ⟨rfl, fun g => run_def ?_⟩
    unfold a58
    by_cases h1 : 0 ≤ p
    case neg => simp -implicitDefEqProofs [cutB, h1]
    by_cases h2 : p < 5
    case neg => simp -implicitDefEqProofs [cutB, h1, h2]
    have hp : p = 0 ∨ p = 1 ∨ p = 2 ∨ p = 3 ∨ p = 4 := by omega
    rcases hp with rfl | rfl | rfl | rfl | rfl <;> simp [Box.get] at b2 <;> simp -implicitDefEqProofs [cutB, Box.get, Box.set, CutS, b1, b2]
  · cases h
theorem c_bCut : Contract Try.prog 58 (sp3 CutB) :=
  contract_of_runs mixed (tbl_cons c_sCut tbl_nil) Try.func58 m58 (sp3_runs runs_bCut)
def c169_0 : ACode := .ops [⟨some 2, .box (.t 0) 10, none, []⟩,
  ⟨some 3, .box (.t 1) 10, none, []⟩,
  ⟨some 4, .alloc [.int .i64 0, .int .i64 0, .int .i64 0, .int .i64 0, .int .i64 0, .int .i64 0, .int .i64 0, .int .i64 0, .int .i64 0, .int .i64 0], none, []⟩] [2, 3, 4]
theorem r169_0 : type_of% (@rr _ _ c169_0.eq_1) := rr c169_0.eq_1
def c169_1 : ACode := .ops [⟨some 6, .mv (.c (.int .i64 0)), none, []⟩] [2, 3, 4, 6]
theorem r169_1 : type_of% (@rr _ _ c169_1.eq_1) := rr c169_1.eq_1
def c169_2 : ACode := .ops [⟨some 7, .bin .lss (.t 6) (.c (.int .i64 5)), none, []⟩] [2, 3, 4, 6, 7]
theorem r169_2 : type_of% (@rr _ _ c169_2.eq_1) := rr c169_2.eq_1
def c169_3 : ACode := .cond (.t 7) .skip (.exit 0)
theorem r169_3 : type_of% (@rr _ _ c169_3.eq_1) := rr c169_3.eq_1
def c169_4 : ACode := .ops [⟨some 8, .mv (.t 6), none, []⟩,
  ⟨some 5, .mv (.t 8), none, []⟩] [2, 3, 4, 5, 6]
theorem r169_4 : type_of% (@rr _ _ c169_4.eq_1) := rr c169_4.eq_1
def c169_5 : ACode := .ops [⟨some 9, .mv (.t 5), none, []⟩,
  ⟨some 10, .mv (.t 5), none, []⟩,
  ⟨some 11, .iad (.t 2) (.t 10) 2 5, none, [2]⟩,
  ⟨some 12, .load 2 true (.t 11), none, [2]⟩,
  ⟨some 13, .mv (.t 5), none, []⟩,
  ⟨some 14, .iad (.t 3) (.t 13) 2 5, none, [3]⟩,
  ⟨some 15, .load 2 true (.t 14), none, [3]⟩,
  ⟨some 16, .call 171 [.t 12, .t 15], none, []⟩,
  ⟨some 17, .iad (.t 2) (.t 9) 2 5, none, [2]⟩,
  ⟨none, .store (.t 17) 2 (.t 16), none, [2]⟩] [2, 3, 4, 6]
theorem r169_5 : type_of% (@rr _ _ c169_5.eq_1) := rr c169_5.eq_1
def c169_6 : ACode := .seq c169_4 c169_5
theorem r169_6 : type_of% (@rr _ _ c169_6.eq_1) := rr c169_6.eq_1
def c169_7 : ACode := .block 1 c169_6
theorem r169_7 : type_of% (@rr _ _ c169_7.eq_1) := rr c169_7.eq_1
def c169_8 : ACode := .ops [⟨some 18, .bin .add (.t 6) (.c (.int .i64 1)), none, []⟩,
  ⟨some 6, .mv (.t 18), none, []⟩] [2, 3, 4, 6]
theorem r169_8 : type_of% (@rr _ _ c169_8.eq_1) := rr c169_8.eq_1
def c169_9 : ACode := .seq c169_7 c169_8
theorem r169_9 : type_of% (@rr _ _ c169_9.eq_1) := rr c169_9.eq_1
def c169_10 : ACode := .seq c169_3 c169_9
theorem r169_10 : type_of% (@rr _ _ c169_10.eq_1) := rr c169_10.eq_1
def c169_11 : ACode := .seq c169_2 c169_10
theorem r169_11 : type_of% (@rr _ _ c169_11.eq_1) := rr c169_11.eq_1
def c169_12 : ACode := .keep [2, 3, 4, 6] [2, 3, 4] c169_11
theorem r169_12 : type_of% (@rr _ _ c169_12.eq_1) := rr c169_12.eq_1
def c169_13 : ACode := .loop c169_12
theorem r169_13 : type_of% (@rr _ _ c169_13.eq_1) := rr c169_13.eq_1
def c169_14 : ACode := .block 0 c169_13
theorem r169_14 : type_of% (@rr _ _ c169_14.eq_1) := rr c169_14.eq_1
def c169_15 : ACode := .seq c169_1 c169_14
theorem r169_15 : type_of% (@rr _ _ c169_15.eq_1) := rr c169_15.eq_1
def c169_16 : ACode := .ops [⟨some 19, .load 10 true (.t 2), none, [2]⟩,
  ⟨none, .store (.t 4) 10 (.t 19), none, [4]⟩] [4]
theorem r169_16 : type_of% (@rr _ _ c169_16.eq_1) := rr c169_16.eq_1
def c169_17 : ACode := .seq c169_16 .ret
theorem r169_17 : type_of% (@rr _ _ c169_17.eq_1) := rr c169_17.eq_1
def c169_18 : ACode := .seq c169_15 c169_17
theorem r169_18 : type_of% (@rr _ _ c169_18.eq_1) := rr c169_18.eq_1
def c169_19 : ACode := .seq c169_0 c169_18
theorem r169_19 : type_of% (@rr _ _ c169_19.eq_1) := rr c169_19.eq_1
def a169 : AFun := ⟨2, 20, c169_19, [.cell 4 10 true]⟩
attribute [simp] r169_0 r169_1 r169_2 r169_3 r169_4 r169_5 r169_6 r169_7 r169_8 r169_9 r169_10 r169_11 r169_12 r169_13 r169_14 r169_15 r169_16 r169_17 r169_18 r169_19
theorem m169 : mFun Try.prog Try.f169 a169 = true := by decide +kernel
def c171_0 : ACode := .ops [⟨some 2, .box (.t 0) 2, none, []⟩,
  ⟨some 3, .box (.t 1) 2, none, []⟩,
  ⟨some 4, .alloc [.int .i64 0, .int .i64 0], none, []⟩] [2, 3, 4]
theorem r171_0 : type_of% (@rr _ _ c171_0.eq_1) := rr c171_0.eq_1
def c171_1 : ACode := .ops [⟨some 5, .fad (.t 2) 0, none, [2]⟩,
  ⟨some 6, .load 1 false (.t 5), none, [2]⟩,
  ⟨some 7, .fad (.t 3) 0, none, [3]⟩,
  ⟨some 8, .load 1 false (.t 7), none, [3]⟩,
  ⟨some 9, .mnmx true (.t 6) (.t 8), none, []⟩,
  ⟨some 10, .fad (.t 2) 1, none, [2]⟩,
  ⟨some 11, .load 1 false (.t 10), none, [2]⟩,
  ⟨some 12, .fad (.t 3) 1, none, [3]⟩,
  ⟨some 13, .load 1 false (.t 12), none, [3]⟩,
  ⟨some 14, .mnmx false (.t 11) (.t 13), none, []⟩,
  ⟨some 15, .call 143 [.t 9, .t 14], none, []⟩,
  ⟨none, .store (.t 4) 2 (.t 15), none, [4]⟩] [4]
theorem r171_1 : type_of% (@rr _ _ c171_1.eq_1) := rr c171_1.eq_1
def c171_2 : ACode := .seq c171_1 .ret
theorem r171_2 : type_of% (@rr _ _ c171_2.eq_1) := rr c171_2.eq_1
def c171_3 : ACode := .seq c171_0 c171_2
theorem r171_3 : type_of% (@rr _ _ c171_3.eq_1) := rr c171_3.eq_1
def a171 : AFun := ⟨2, 16, c171_3, [.cell 4 2 true]⟩
attribute [simp] r171_0 r171_1 r171_2 r171_3
theorem m171 : mFun Try.prog Try.f171 a171 = true := by decide +kernel
theorem runs_sMeet (a b c : Span) (h : some (meetS a b) = some c) : Runs (tbl [(143, sp2 fun lo hi => some (ofS lo hi))]) a171 [Arg.enc a, Arg.enc b] (Arg.enc c) := by
  cases h
  refine ⟨rfl, fun g => run_def ?_⟩
  unfold a171
  simp -implicitDefEqProofs [meetS, min2, max2]
theorem c_sMeet : Contract Try.prog 171 (sp2 fun (a b : Span) => some (meetS a b)) :=
  contract_of_runs mixed (tbl_cons c_of tbl_nil) Try.func171 m171 (sp2_runs runs_sMeet)
end Go.Co
