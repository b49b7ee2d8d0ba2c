/- CO: spans and boxes. -/
import Derived.Test.YtbjnmbbhlaghaaaCoC
namespace Go.Co
open Go.Am Go.Proofs
set_option linter.unusedSimpArgs false
set_option linter.unusedVariables false
def c159_0 : ACode := .ops [⟨some 0, .alloc [.int .i64 0, .int .i64 0], none, []⟩] [0]
theorem r159_0 : type_of% (@rr _ _ c159_0.eq_1) := rr c159_0.eq_1
def c159_1 : ACode := .ops [⟨some 1, .build [.int .i64 0, .int .i64 0] [(0, 1, .c (.int .i64 1))], none, []⟩,
  ⟨none, .store (.t 0) 2 (.t 1), none, [0]⟩] [0]
theorem r159_1 : type_of% (@rr _ _ c159_1.eq_1) := rr c159_1.eq_1
def c159_2 : ACode := .seq c159_1 .ret
theorem r159_2 : type_of% (@rr _ _ c159_2.eq_1) := rr c159_2.eq_1
def c159_3 : ACode := .seq c159_0 c159_2
theorem r159_3 : type_of% (@rr _ _ c159_3.eq_1) := rr c159_3.eq_1
def a159 : AFun := ⟨0, 2, c159_3, [.cell 0 2 true]⟩
attribute [simp] r159_0 r159_1 r159_2 r159_3
theorem m159 : mFun Try.prog Try.f159 a159 = true := by decide +kernel
def c158_0 : ACode := .ops [⟨some 4, .alloc [.int .i64 0, .int .i64 0], none, []⟩] [0, 1, 4]
theorem r158_0 : type_of% (@rr _ _ c158_0.eq_1) := rr c158_0.eq_1
def c158_1 : ACode := .ops [⟨some 5, .mv (.t 0), none, []⟩,
  ⟨some 6, .mv (.t 1), none, []⟩,
  ⟨some 7, .bin .gtr (.t 5) (.t 6), none, []⟩] [0, 1, 4, 7]
theorem r158_1 : type_of% (@rr _ _ c158_1.eq_1) := rr c158_1.eq_1
def c158_2 : ACode := .ops [⟨some 8, .call 159 [], none, []⟩,
  ⟨none, .store (.t 4) 2 (.t 8), none, [4]⟩] [4]
theorem r158_2 : type_of% (@rr _ _ c158_2.eq_1) := rr c158_2.eq_1
def c158_3 : ACode := .seq c158_2 .ret
theorem r158_3 : type_of% (@rr _ _ c158_3.eq_1) := rr c158_3.eq_1
def c158_4 : ACode := .cond (.t 7) c158_3 .skip
theorem r158_4 : type_of% (@rr _ _ c158_4.eq_1) := rr c158_4.eq_1
def c158_5 : ACode := .seq c158_1 c158_4
theorem r158_5 : type_of% (@rr _ _ c158_5.eq_1) := rr c158_5.eq_1
def c158_6 : ACode := .ops [⟨some 9, .mv (.t 0), none, []⟩,
  ⟨some 10, .mv (.t 1), none, []⟩,
  ⟨some 11, .build [.int .i64 0, .int .i64 0] [(0, 1, .t 9), (1, 1, .t 10)], none, []⟩,
  ⟨none, .store (.t 4) 2 (.t 11), none, [4]⟩] [4]
theorem r158_6 : type_of% (@rr _ _ c158_6.eq_1) := rr c158_6.eq_1
def c158_7 : ACode := .seq c158_6 .ret
theorem r158_7 : type_of% (@rr _ _ c158_7.eq_1) := rr c158_7.eq_1
def c158_8 : ACode := .seq c158_5 c158_7
theorem r158_8 : type_of% (@rr _ _ c158_8.eq_1) := rr c158_8.eq_1
def c158_9 : ACode := .seq c158_0 c158_8
theorem r158_9 : type_of% (@rr _ _ c158_9.eq_1) := rr c158_9.eq_1
def a158 : AFun := ⟨2, 12, c158_9, [.cell 4 2 true]⟩
attribute [simp] r158_0 r158_1 r158_2 r158_3 r158_4 r158_5 r158_6 r158_7 r158_8 r158_9
theorem m158 : mFun Try.prog Try.f158 a158 = true := by decide +kernel
def c121_0 : ACode := .ops [⟨some 1, .box (.t 0) 2, none, []⟩,
  ⟨some 2, .mv (.c (.bool false)), none, []⟩] [1]
theorem r121_0 : type_of% (@rr _ _ c121_0.eq_1) := rr c121_0.eq_1
def c121_1 : ACode := .ops [⟨some 3, .fad (.t 1) 0, none, [1]⟩,
  ⟨some 4, .load 1 false (.t 3), none, [1]⟩,
  ⟨some 5, .fad (.t 1) 1, none, [1]⟩,
  ⟨some 6, .load 1 false (.t 5), none, [1]⟩,
  ⟨some 7, .bin .gtr (.t 4) (.t 6), none, []⟩,
  ⟨some 2, .mv (.t 7), none, []⟩] [2]
theorem r121_1 : type_of% (@rr _ _ c121_1.eq_1) := rr c121_1.eq_1
def c121_2 : ACode := .seq c121_1 .ret
theorem r121_2 : type_of% (@rr _ _ c121_2.eq_1) := rr c121_2.eq_1
def c121_3 : ACode := .seq c121_0 c121_2
theorem r121_3 : type_of% (@rr _ _ c121_3.eq_1) := rr c121_3.eq_1
def a121 : AFun := ⟨1, 8, c121_3, [.t 2]⟩
attribute [simp] r121_0 r121_1 r121_2 r121_3
theorem m121 : mFun Try.prog Try.f121 a121 = true := by decide +kernel
def c120_0 : ACode := .ops [⟨some 2, .box (.t 0) 2, none, []⟩,
  ⟨some 4, .alloc [.int .i64 0, .int .i64 0], none, []⟩,
  ⟨some 5, .alloc [.int .i64 0, .int .i64 0], none, []⟩] [1, 2, 4, 5]
theorem r120_0 : type_of% (@rr _ _ c120_0.eq_1) := rr c120_0.eq_1
def c120_1 : ACode := .ops [⟨some 7, .fad (.t 2) 0, none, [2]⟩,
  ⟨some 8, .load 1 false (.t 7), none, [2]⟩,
  ⟨some 9, .fad (.t 2) 1, none, [2]⟩,
  ⟨some 10, .load 1 false (.t 9), none, [2]⟩,
  ⟨some 11, .mv (.t 1), none, []⟩,
  ⟨some 12, .mnmx false (.t 10) (.t 11), none, []⟩,
  ⟨some 13, .call 158 [.t 8, .t 12], none, []⟩,
  ⟨some 6, .alloc [.int .i64 0, .int .i64 0], none, []⟩,
  ⟨none, .store (.t 6) 2 (.t 13), none, [6]⟩] [1, 2, 4, 5, 6]
theorem r120_1 : type_of% (@rr _ _ c120_1.eq_1) := rr c120_1.eq_1
def c120_2 : ACode := .ops [⟨some 14, .mv (.t 1), none, []⟩,
  ⟨some 15, .fad (.t 2) 1, none, [2]⟩,
  ⟨some 16, .load 1 false (.t 15), none, [2]⟩,
  ⟨some 17, .bin .geq (.t 14) (.t 16), none, []⟩] [1, 2, 4, 5, 6, 17]
theorem r120_2 : type_of% (@rr _ _ c120_2.eq_1) := rr c120_2.eq_1
def c120_3 : ACode := .ops [⟨some 18, .load 2 true (.t 6), none, [6]⟩,
  ⟨some 19, .call 159 [], none, []⟩,
  ⟨none, .store (.t 4) 2 (.t 18), none, [4]⟩,
  ⟨none, .store (.t 5) 2 (.t 19), none, [5]⟩] [4, 5]
theorem r120_3 : type_of% (@rr _ _ c120_3.eq_1) := rr c120_3.eq_1
def c120_4 : ACode := .seq c120_3 .ret
theorem r120_4 : type_of% (@rr _ _ c120_4.eq_1) := rr c120_4.eq_1
def c120_5 : ACode := .cond (.t 17) c120_4 .skip
theorem r120_5 : type_of% (@rr _ _ c120_5.eq_1) := rr c120_5.eq_1
def c120_6 : ACode := .seq c120_2 c120_5
theorem r120_6 : type_of% (@rr _ _ c120_6.eq_1) := rr c120_6.eq_1
def c120_7 : ACode := .ops [⟨some 20, .load 2 true (.t 6), none, [6]⟩,
  ⟨some 21, .fad (.t 2) 0, none, [2]⟩,
  ⟨some 22, .load 1 false (.t 21), none, [2]⟩,
  ⟨some 23, .mv (.t 1), none, []⟩,
  ⟨some 24, .bin .add (.t 23) (.c (.int .i64 1)), none, []⟩,
  ⟨some 25, .mnmx true (.t 22) (.t 24), none, []⟩,
  ⟨some 26, .fad (.t 2) 1, none, [2]⟩,
  ⟨some 27, .load 1 false (.t 26), none, [2]⟩,
  ⟨some 28, .call 158 [.t 25, .t 27], none, []⟩,
  ⟨none, .store (.t 4) 2 (.t 20), none, [4]⟩,
  ⟨none, .store (.t 5) 2 (.t 28), none, [5]⟩] [4, 5]
theorem r120_7 : type_of% (@rr _ _ c120_7.eq_1) := rr c120_7.eq_1
def c120_8 : ACode := .seq c120_7 .ret
theorem r120_8 : type_of% (@rr _ _ c120_8.eq_1) := rr c120_8.eq_1
def c120_9 : ACode := .seq c120_6 c120_8
theorem r120_9 : type_of% (@rr _ _ c120_9.eq_1) := rr c120_9.eq_1
def c120_10 : ACode := .seq c120_1 c120_9
theorem r120_10 : type_of% (@rr _ _ c120_10.eq_1) := rr c120_10.eq_1
def c120_11 : ACode := .seq c120_0 c120_10
theorem r120_11 : type_of% (@rr _ _ c120_11.eq_1) := rr c120_11.eq_1
def a120 : AFun := ⟨2, 29, c120_11, [.cell 4 2 true, .cell 5 2 true]⟩
attribute [simp] r120_0 r120_1 r120_2 r120_3 r120_4 r120_5 r120_6 r120_7 r120_8 r120_9 r120_10 r120_11
theorem m120 : mFun Try.prog Try.f120 a120 = true := by decide +kernel
def c68_0 : ACode := .ops [⟨some 1, .box (.t 0) 10, none, []⟩,
  ⟨some 2, .mv (.c (.bool false)), none, []⟩] [1]
theorem r68_0 : type_of% (@rr _ _ c68_0.eq_1) := rr c68_0.eq_1
def c68_1 : ACode := .ops [⟨some 5, .load 10 true (.t 1), none, [1]⟩,
  ⟨some 6, .mv (.c (.int .i64 0)), none, []⟩] [5, 6]
theorem r68_1 : type_of% (@rr _ _ c68_1.eq_1) := rr c68_1.eq_1
def c68_2 : ACode := .ops [⟨some 7, .bin .lss (.t 6) (.c (.int .i64 5)), none, []⟩] [5, 6, 7]
theorem r68_2 : type_of% (@rr _ _ c68_2.eq_1) := rr c68_2.eq_1
def c68_3 : ACode := .cond (.t 7) .skip (.exit 0)
theorem r68_3 : type_of% (@rr _ _ c68_3.eq_1) := rr c68_3.eq_1
def c68_4 : ACode := .ops [⟨some 8, .idx (.t 5) (.t 6) 2 5 true, none, []⟩,
  ⟨some 4, .alloc [.int .i64 0, .int .i64 0], none, []⟩,
  ⟨none, .store (.t 4) 2 (.t 8), none, [4]⟩] [4, 5, 6]
theorem r68_4 : type_of% (@rr _ _ c68_4.eq_1) := rr c68_4.eq_1
def c68_5 : ACode := .ops [⟨some 9, .load 2 true (.t 4), none, [4]⟩,
  ⟨some 10, .call 121 [.t 9], none, []⟩] [5, 6, 10]
theorem r68_5 : type_of% (@rr _ _ c68_5.eq_1) := rr c68_5.eq_1
def c68_6 : ACode := .ops [⟨some 2, .mv (.c (.bool true)), none, []⟩] [2]
theorem r68_6 : type_of% (@rr _ _ c68_6.eq_1) := rr c68_6.eq_1
def c68_7 : ACode := .seq c68_6 .ret
theorem r68_7 : type_of% (@rr _ _ c68_7.eq_1) := rr c68_7.eq_1
def c68_8 : ACode := .cond (.t 10) c68_7 .skip
theorem r68_8 : type_of% (@rr _ _ c68_8.eq_1) := rr c68_8.eq_1
def c68_9 : ACode := .seq c68_5 c68_8
theorem r68_9 : type_of% (@rr _ _ c68_9.eq_1) := rr c68_9.eq_1
def c68_10 : ACode := .seq c68_4 c68_9
theorem r68_10 : type_of% (@rr _ _ c68_10.eq_1) := rr c68_10.eq_1
def c68_11 : ACode := .block 1 c68_10
theorem r68_11 : type_of% (@rr _ _ c68_11.eq_1) := rr c68_11.eq_1
def c68_12 : ACode := .ops [⟨some 11, .bin .add (.t 6) (.c (.int .i64 1)), none, []⟩,
  ⟨some 6, .mv (.t 11), none, []⟩] [5, 6]
theorem r68_12 : type_of% (@rr _ _ c68_12.eq_1) := rr c68_12.eq_1
def c68_13 : ACode := .seq c68_11 c68_12
theorem r68_13 : type_of% (@rr _ _ c68_13.eq_1) := rr c68_13.eq_1
def c68_14 : ACode := .seq c68_3 c68_13
theorem r68_14 : type_of% (@rr _ _ c68_14.eq_1) := rr c68_14.eq_1
def c68_15 : ACode := .seq c68_2 c68_14
theorem r68_15 : type_of% (@rr _ _ c68_15.eq_1) := rr c68_15.eq_1
def c68_16 : ACode := .keep [5, 6] [] c68_15
theorem r68_16 : type_of% (@rr _ _ c68_16.eq_1) := rr c68_16.eq_1
def c68_17 : ACode := .loop c68_16
theorem r68_17 : type_of% (@rr _ _ c68_17.eq_1) := rr c68_17.eq_1
def c68_18 : ACode := .block 0 c68_17
theorem r68_18 : type_of% (@rr _ _ c68_18.eq_1) := rr c68_18.eq_1
def c68_19 : ACode := .seq c68_1 c68_18
theorem r68_19 : type_of% (@rr _ _ c68_19.eq_1) := rr c68_19.eq_1
def c68_20 : ACode := .ops [⟨some 2, .mv (.c (.bool false)), none, []⟩] [2]
theorem r68_20 : type_of% (@rr _ _ c68_20.eq_1) := rr c68_20.eq_1
def c68_21 : ACode := .seq c68_20 .ret
theorem r68_21 : type_of% (@rr _ _ c68_21.eq_1) := rr c68_21.eq_1
def c68_22 : ACode := .seq c68_19 c68_21
theorem r68_22 : type_of% (@rr _ _ c68_22.eq_1) := rr c68_22.eq_1
def c68_23 : ACode := .seq c68_0 c68_22
theorem r68_23 : type_of% (@rr _ _ c68_23.eq_1) := rr c68_23.eq_1
def a68 : AFun := ⟨1, 12, c68_23, [.t 2]⟩
attribute [simp] r68_0 r68_1 r68_2 r68_3 r68_4 r68_5 r68_6 r68_7 r68_8 r68_9 r68_10 r68_11 r68_12 r68_13 r68_14 r68_15 r68_16 r68_17 r68_18 r68_19 r68_20 r68_21 r68_22 r68_23
theorem m68 : mFun Try.prog Try.f68 a68 = true := by decide +kernel
def c67_0 : ACode := .ops [⟨some 3, .box (.t 0) 10, none, []⟩,
  ⟨some 6, .alloc [.int .i64 0, .int .i64 0, .int .i64 0, .int .i64 0, .int .i64 0, .int .i64 0, .int .i64 0, .int .i64 0, .int .i64 0, .int .i64 0], none, []⟩,
  ⟨some 7, .alloc [.int .i64 0, .int .i64 0, .int .i64 0, .int .i64 0, .int .i64 0, .int .i64 0, .int .i64 0, .int .i64 0, .int .i64 0, .int .i64 0], none, []⟩] [1, 2, 3, 6, 7]
theorem r67_0 : type_of% (@rr _ _ c67_0.eq_1) := rr c67_0.eq_1
def c67_1 : ACode := .ops [⟨some 10, .load 10 true (.t 3), none, [3]⟩,
  ⟨some 11, .load 10 true (.t 3), none, [3]⟩,
  ⟨some 8, .alloc [.int .i64 0, .int .i64 0, .int .i64 0, .int .i64 0, .int .i64 0, .int .i64 0, .int .i64 0, .int .i64 0, .int .i64 0, .int .i64 0], none, []⟩,
  ⟨some 9, .alloc [.int .i64 0, .int .i64 0, .int .i64 0, .int .i64 0, .int .i64 0, .int .i64 0, .int .i64 0, .int .i64 0, .int .i64 0, .int .i64 0], none, []⟩,
  ⟨none, .store (.t 8) 10 (.t 10), none, [8]⟩,
  ⟨none, .store (.t 9) 10 (.t 11), none, [9]⟩] [1, 2, 3, 6, 7, 8, 9]
theorem r67_1 : type_of% (@rr _ _ c67_1.eq_1) := rr c67_1.eq_1
def c67_2 : ACode := .ops [⟨some 12, .mv (.t 1), none, []⟩,
  ⟨some 13, .bin .geq (.t 12) (.c (.int .i64 0)), none, []⟩,
  ⟨some 14, .mv (.t 13), none, []⟩,
  ⟨some 15, .mv (.t 1), some (14, true), []⟩,
  ⟨some 16, .bin .lss (.t 15) (.c (.int .i64 5)), some (14, true), []⟩,
  ⟨some 17, .pick (.t 14) (.t 16) (.c (.bool false)), none, []⟩] [1, 2, 3, 6, 7, 8, 9, 17]
theorem r67_2 : type_of% (@rr _ _ c67_2.eq_1) := rr c67_2.eq_1
def c67_3 : ACode := .ops [⟨some 19, .mv (.t 1), none, []⟩,
  ⟨some 20, .mv (.t 1), none, []⟩,
  ⟨some 21, .mv (.t 1), none, []⟩,
  ⟨some 22, .iad (.t 3) (.t 21) 2 5, none, [3]⟩,
  ⟨some 23, .load 2 true (.t 22), none, [3]⟩,
  ⟨some 24, .mv (.t 2), none, []⟩,
  ⟨some 25, .call 120 [.t 23, .t 24], none, []⟩,
  ⟨some 18, .mv (.t 25), none, []⟩,
  ⟨some 26, .ext (.t 18) 0, none, []⟩,
  ⟨some 27, .ext (.t 18) 1, none, []⟩,
  ⟨some 28, .iad (.t 8) (.t 19) 2 5, none, [8]⟩,
  ⟨none, .store (.t 28) 2 (.t 26), none, [8]⟩,
  ⟨some 29, .iad (.t 9) (.t 20) 2 5, none, [9]⟩,
  ⟨none, .store (.t 29) 2 (.t 27), none, [9]⟩] [6, 7, 8, 9]
theorem r67_3 : type_of% (@rr _ _ c67_3.eq_1) := rr c67_3.eq_1
def c67_4 : ACode := .cond (.t 17) c67_3 .skip
theorem r67_4 : type_of% (@rr _ _ c67_4.eq_1) := rr c67_4.eq_1
def c67_5 : ACode := .seq c67_2 c67_4
theorem r67_5 : type_of% (@rr _ _ c67_5.eq_1) := rr c67_5.eq_1
def c67_6 : ACode := .ops [⟨some 30, .load 10 true (.t 8), none, [8]⟩,
  ⟨some 31, .load 10 true (.t 9), none, [9]⟩,
  ⟨none, .store (.t 6) 10 (.t 30), none, [6]⟩,
  ⟨none, .store (.t 7) 10 (.t 31), none, [7]⟩] [6, 7]
theorem r67_6 : type_of% (@rr _ _ c67_6.eq_1) := rr c67_6.eq_1
def c67_7 : ACode := .seq c67_6 .ret
theorem r67_7 : type_of% (@rr _ _ c67_7.eq_1) := rr c67_7.eq_1
def c67_8 : ACode := .seq c67_5 c67_7
theorem r67_8 : type_of% (@rr _ _ c67_8.eq_1) := rr c67_8.eq_1
def c67_9 : ACode := .seq c67_1 c67_8
theorem r67_9 : type_of% (@rr _ _ c67_9.eq_1) := rr c67_9.eq_1
def c67_10 : ACode := .seq c67_0 c67_9
theorem r67_10 : type_of% (@rr _ _ c67_10.eq_1) := rr c67_10.eq_1
def a67 : AFun := ⟨3, 32, c67_10, [.cell 6 10 true, .cell 7 10 true]⟩
attribute [simp] r67_0 r67_1 r67_2 r67_3 r67_4 r67_5 r67_6 r67_7 r67_8 r67_9 r67_10
theorem m67 : mFun Try.prog Try.f67 a67 = true := by decide +kernel
theorem runs_none (c : Span) (h : some noneS = some c) : Runs (tbl []) a159 [] (Arg.enc c) := by
  cases h
  refine ⟨rfl, fun g => run_def ?_⟩
  unfold a159
  simp -implicitDefEqProofs [noneS]
theorem c_none : Contract Try.prog 159 (sp0 (some noneS)) := contract_of_runs mixed tbl_nil Try.func159 m159 (sp0_runs runs_none)
theorem runs_of (lo hi : Int) (c : Span) (h : some (ofS lo hi) = some c) : Runs (tbl [(159, sp0 (some noneS))]) a158 [Arg.enc lo, Arg.enc hi] (Arg.enc c) := by
  cases h
  refine ⟨rfl, fun g => run_def ?_⟩
  unfold a158
  by_cases h1 : hi < lo <;> simp -implicitDefEqProofs [ofS, noneS, h1]
theorem c_of : Contract Try.prog 158 (sp2 fun lo hi => some (ofS lo hi)) :=
  contract_of_runs mixed (tbl_cons c_none tbl_nil) Try.func158 m158 (sp2_runs runs_of)
theorem runs_sEmpty (s : Span) (c : Bool) (h : some s.empty = some c) : Runs (tbl []) a121 [Arg.enc s] (Arg.enc c) := by
  cases h
  refine ⟨rfl, fun g => run_def ?_⟩
  unfold a121
  simp -implicitDefEqProofs [Span.empty]
theorem c_sEmpty : Contract Try.prog 121 (sp1 fun (s : Span) => some s.empty) := contract_of_runs mixed tbl_nil Try.func121 m121 (sp1_runs runs_sEmpty)
def CutS (s : Span) (n : Int) : Option (Span × Span) := if ok64 n ∧ ok64 s.hi then some (cutS s n) else none
theorem runs_sCut (s : Span) (n : Int) (c : Span × Span) (h : CutS s n = some c) : Runs (tbl [(158, sp2 fun lo hi => some (ofS lo hi)), (159, sp0 (some noneS))]) a120 [Arg.enc s, Arg.enc n] (Arg.enc c) := by
  unfold CutS at h
  split at h
  · rename_i hb
    cases h
    obtain ⟨⟨b1, b2⟩, b3, b4⟩ := hb
    refine ⟨rfl, fun g => run_def ?_⟩
    unfold a120
    by_cases h1 : s.hi ≤ n
    · by_cases h2 : n < s.hi
      · omega
      · simp -implicitDefEqProofs [cutS, noneS, h1, h2]
    · have e : IntKind.i64.wrap (n + 1) = n + 1 := wrap64 (by omega) (by omega)
      have h2 : n < s.hi := by omega
      simp -implicitDefEqProofs [cutS, h1, h2, e]
  · cases h
theorem c_sCut : Contract Try.prog 120 (sp2 CutS) :=
  contract_of_runs mixed (tbl_cons c_of (tbl_cons c_none tbl_nil)) Try.func120 m120 (sp2_runs runs_sCut)
theorem runs_bEmpty (b : Box) (c : Bool) (h : some b.empty = some c) : Runs (tbl [(121, sp1 fun (s : Span) => some s.empty)]) a68 [Arg.enc b] (Arg.enc c) := by
  cases h
  refine ⟨rfl, fun g => run_def ?_⟩
  unfold a68
  cases h0 : b.s0.empty
  case true => simp -implicitDefEqProofs [Box.empty, run_round, h0]
  cases h1 : b.s1.empty
  case true => simp -implicitDefEqProofs [Box.empty, run_round, h0, h1]
  cases h2 : b.s2.empty
  case true => simp -implicitDefEqProofs [Box.empty, run_round, h0, h1, h2]
  cases h3 : b.s3.empty
  case true => simp -implicitDefEqProofs [Box.empty, run_round, h0, h1, h2, h3]
  cases h4 : b.s4.empty <;> simp -implicitDefEqProofs [Box.empty, run_round, h0, h1, h2, h3, h4]
theorem c_bEmpty : Contract Try.prog 68 (sp1 fun (b : Box) => some b.empty) :=
  contract_of_runs mixed (tbl_cons c_sEmpty tbl_nil) Try.func68 m68 (sp1_runs runs_bEmpty)
def CutB (b : Box) (p n : Int) : Option (Box × Box) := if ok64 n ∧ ok64 (b.get p).hi then some (cutB b p n) else none
theorem runs_bCut (b : Box) (p n : Int) (c : Box × Box) (h : CutB b p n = some c) : Runs (tbl [(120, sp2 CutS)]) a67 [Arg.enc b, Arg.enc p, Arg.enc n] (Arg.enc c) := by
  unfold CutB at h
  split at h
  · rename_i hb
    cases h
    obtain ⟨b1, b2⟩ := hb
    refine ⟨rfl, fun g => run_def ?_⟩
    unfold a67
    by_cases h1 : 0 ≤ p
    case neg => simp -implicitDefEqProofs [cutB, h1]
    by_cases h2 : p < 5
    case neg => simp -implicitDefEqProofs [cutB, h1, h2]
    have hp : p = 0 ∨ p = 1 ∨ p = 2 ∨ p = 3 ∨ p = 4 := by omega
    rcases hp with rfl | rfl | rfl | rfl | rfl <;> simp [Box.get] at b2 <;> simp -implicitDefEqProofs [cutB, Box.get, Box.set, CutS, b1, b2]
  · cases h
theorem c_bCut : Contract Try.prog 67 (sp3 CutB) :=
  contract_of_runs mixed (tbl_cons c_sCut tbl_nil) Try.func67 m67 (sp3_runs runs_bCut)
end Go.Co
