/- CO: spans and boxes. -/
import Derived.Test.YtagfmcachoaacaaCoC
namespace Go.Co
open Go.Am Go.Proofs
set_option linter.unusedSimpArgs false
set_option linter.unusedVariables false
def c63_0 : ACode := .ops [⟨some 0, .alloc [.int .i64 0, .int .i64 0], none, []⟩] [0]
theorem r63_0 : type_of% (@rr _ _ c63_0.eq_1) := rr c63_0.eq_1
def c63_1 : ACode := .ops [⟨some 1, .build [.int .i64 0, .int .i64 0] [(0, 1, .c (.int .i64 1))], none, []⟩,
  ⟨none, .store (.t 0) 2 (.t 1), none, [0]⟩] [0]
theorem r63_1 : type_of% (@rr _ _ c63_1.eq_1) := rr c63_1.eq_1
def c63_2 : ACode := .seq c63_1 .ret
theorem r63_2 : type_of% (@rr _ _ c63_2.eq_1) := rr c63_2.eq_1
def c63_3 : ACode := .seq c63_0 c63_2
theorem r63_3 : type_of% (@rr _ _ c63_3.eq_1) := rr c63_3.eq_1
def a63 : AFun := ⟨0, 2, c63_3, [.cell 0 2 true]⟩
attribute [simp] r63_0 r63_1 r63_2 r63_3
theorem m63 : mFun Try.prog Try.f63 a63 = true := by decide +kernel
def c62_0 : ACode := .ops [⟨some 4, .alloc [.int .i64 0, .int .i64 0], none, []⟩] [0, 1, 4]
theorem r62_0 : type_of% (@rr _ _ c62_0.eq_1) := rr c62_0.eq_1
def c62_1 : ACode := .ops [⟨some 5, .mv (.t 0), none, []⟩,
  ⟨some 6, .mv (.t 1), none, []⟩,
  ⟨some 7, .bin .gtr (.t 5) (.t 6), none, []⟩] [0, 1, 4, 7]
theorem r62_1 : type_of% (@rr _ _ c62_1.eq_1) := rr c62_1.eq_1
def c62_2 : ACode := .ops [⟨some 8, .call 63 [], none, []⟩,
  ⟨none, .store (.t 4) 2 (.t 8), none, [4]⟩] [4]
theorem r62_2 : type_of% (@rr _ _ c62_2.eq_1) := rr c62_2.eq_1
def c62_3 : ACode := .seq c62_2 .ret
theorem r62_3 : type_of% (@rr _ _ c62_3.eq_1) := rr c62_3.eq_1
def c62_4 : ACode := .cond (.t 7) c62_3 .skip
theorem r62_4 : type_of% (@rr _ _ c62_4.eq_1) := rr c62_4.eq_1
def c62_5 : ACode := .seq c62_1 c62_4
theorem r62_5 : type_of% (@rr _ _ c62_5.eq_1) := rr c62_5.eq_1
def c62_6 : ACode := .ops [⟨some 9, .mv (.t 0), none, []⟩,
  ⟨some 10, .mv (.t 1), none, []⟩,
  ⟨some 11, .build [.int .i64 0, .int .i64 0] [(0, 1, .t 9), (1, 1, .t 10)], none, []⟩,
  ⟨none, .store (.t 4) 2 (.t 11), none, [4]⟩] [4]
theorem r62_6 : type_of% (@rr _ _ c62_6.eq_1) := rr c62_6.eq_1
def c62_7 : ACode := .seq c62_6 .ret
theorem r62_7 : type_of% (@rr _ _ c62_7.eq_1) := rr c62_7.eq_1
def c62_8 : ACode := .seq c62_5 c62_7
theorem r62_8 : type_of% (@rr _ _ c62_8.eq_1) := rr c62_8.eq_1
def c62_9 : ACode := .seq c62_0 c62_8
theorem r62_9 : type_of% (@rr _ _ c62_9.eq_1) := rr c62_9.eq_1
def a62 : AFun := ⟨2, 12, c62_9, [.cell 4 2 true]⟩
attribute [simp] r62_0 r62_1 r62_2 r62_3 r62_4 r62_5 r62_6 r62_7 r62_8 r62_9
theorem m62 : mFun Try.prog Try.f62 a62 = true := by decide +kernel
def c43_0 : ACode := .ops [⟨some 1, .box (.t 0) 2, none, []⟩,
  ⟨some 2, .mv (.c (.bool false)), none, []⟩] [1]
theorem r43_0 : type_of% (@rr _ _ c43_0.eq_1) := rr c43_0.eq_1
def c43_1 : ACode := .ops [⟨some 3, .fad (.t 1) 0, none, [1]⟩,
  ⟨some 4, .load 1 false (.t 3), none, [1]⟩,
  ⟨some 5, .fad (.t 1) 1, none, [1]⟩,
  ⟨some 6, .load 1 false (.t 5), none, [1]⟩,
  ⟨some 7, .bin .gtr (.t 4) (.t 6), none, []⟩,
  ⟨some 2, .mv (.t 7), none, []⟩] [2]
theorem r43_1 : type_of% (@rr _ _ c43_1.eq_1) := rr c43_1.eq_1
def c43_2 : ACode := .seq c43_1 .ret
theorem r43_2 : type_of% (@rr _ _ c43_2.eq_1) := rr c43_2.eq_1
def c43_3 : ACode := .seq c43_0 c43_2
theorem r43_3 : type_of% (@rr _ _ c43_3.eq_1) := rr c43_3.eq_1
def a43 : AFun := ⟨1, 8, c43_3, [.t 2]⟩
attribute [simp] r43_0 r43_1 r43_2 r43_3
theorem m43 : mFun Try.prog Try.f43 a43 = true := by decide +kernel
def c36_0 : ACode := .ops [⟨some 2, .box (.t 0) 2, none, []⟩,
  ⟨some 4, .alloc [.int .i64 0, .int .i64 0], none, []⟩,
  ⟨some 5, .alloc [.int .i64 0, .int .i64 0], none, []⟩] [1, 2, 4, 5]
theorem r36_0 : type_of% (@rr _ _ c36_0.eq_1) := rr c36_0.eq_1
def c36_1 : ACode := .ops [⟨some 7, .fad (.t 2) 0, none, [2]⟩,
  ⟨some 8, .load 1 false (.t 7), none, [2]⟩,
  ⟨some 9, .fad (.t 2) 1, none, [2]⟩,
  ⟨some 10, .load 1 false (.t 9), none, [2]⟩,
  ⟨some 11, .mv (.t 1), none, []⟩,
  ⟨some 12, .mnmx false (.t 10) (.t 11), none, []⟩,
  ⟨some 13, .call 62 [.t 8, .t 12], none, []⟩,
  ⟨some 6, .alloc [.int .i64 0, .int .i64 0], none, []⟩,
  ⟨none, .store (.t 6) 2 (.t 13), none, [6]⟩] [1, 2, 4, 5, 6]
theorem r36_1 : type_of% (@rr _ _ c36_1.eq_1) := rr c36_1.eq_1
def c36_2 : ACode := .ops [⟨some 14, .mv (.t 1), none, []⟩,
  ⟨some 15, .fad (.t 2) 1, none, [2]⟩,
  ⟨some 16, .load 1 false (.t 15), none, [2]⟩,
  ⟨some 17, .bin .geq (.t 14) (.t 16), none, []⟩] [1, 2, 4, 5, 6, 17]
theorem r36_2 : type_of% (@rr _ _ c36_2.eq_1) := rr c36_2.eq_1
def c36_3 : ACode := .ops [⟨some 18, .load 2 true (.t 6), none, [6]⟩,
  ⟨some 19, .call 63 [], none, []⟩,
  ⟨none, .store (.t 4) 2 (.t 18), none, [4]⟩,
  ⟨none, .store (.t 5) 2 (.t 19), none, [5]⟩] [4, 5]
theorem r36_3 : type_of% (@rr _ _ c36_3.eq_1) := rr c36_3.eq_1
def c36_4 : ACode := .seq c36_3 .ret
theorem r36_4 : type_of% (@rr _ _ c36_4.eq_1) := rr c36_4.eq_1
def c36_5 : ACode := .cond (.t 17) c36_4 .skip
theorem r36_5 : type_of% (@rr _ _ c36_5.eq_1) := rr c36_5.eq_1
def c36_6 : ACode := .seq c36_2 c36_5
theorem r36_6 : type_of% (@rr _ _ c36_6.eq_1) := rr c36_6.eq_1
def c36_7 : ACode := .ops [⟨some 20, .load 2 true (.t 6), none, [6]⟩,
  ⟨some 21, .fad (.t 2) 0, none, [2]⟩,
  ⟨some 22, .load 1 false (.t 21), none, [2]⟩,
  ⟨some 23, .mv (.t 1), none, []⟩,
  ⟨some 24, .bin .add (.t 23) (.c (.int .i64 1)), none, []⟩,
  ⟨some 25, .mnmx true (.t 22) (.t 24), none, []⟩,
  ⟨some 26, .fad (.t 2) 1, none, [2]⟩,
  ⟨some 27, .load 1 false (.t 26), none, [2]⟩,
  ⟨some 28, .call 62 [.t 25, .t 27], none, []⟩,
  ⟨none, .store (.t 4) 2 (.t 20), none, [4]⟩,
  ⟨none, .store (.t 5) 2 (.t 28), none, [5]⟩] [4, 5]
theorem r36_7 : type_of% (@rr _ _ c36_7.eq_1) := rr c36_7.eq_1
def c36_8 : ACode := .seq c36_7 .ret
theorem r36_8 : type_of% (@rr _ _ c36_8.eq_1) := rr c36_8.eq_1
def c36_9 : ACode := .seq c36_6 c36_8
theorem r36_9 : type_of% (@rr _ _ c36_9.eq_1) := rr c36_9.eq_1
def c36_10 : ACode := .seq c36_1 c36_9
theorem r36_10 : type_of% (@rr _ _ c36_10.eq_1) := rr c36_10.eq_1
def c36_11 : ACode := .seq c36_0 c36_10
theorem r36_11 : type_of% (@rr _ _ c36_11.eq_1) := rr c36_11.eq_1
def a36 : AFun := ⟨2, 29, c36_11, [.cell 4 2 true, .cell 5 2 true]⟩
attribute [simp] r36_0 r36_1 r36_2 r36_3 r36_4 r36_5 r36_6 r36_7 r36_8 r36_9 r36_10 r36_11
theorem m36 : mFun Try.prog Try.f36 a36 = true := by decide +kernel
def c20_0 : ACode := .ops [⟨some 1, .box (.t 0) 10, none, []⟩,
  ⟨some 2, .mv (.c (.bool false)), none, []⟩] [1]
theorem r20_0 : type_of% (@rr _ _ c20_0.eq_1) := rr c20_0.eq_1
def c20_1 : ACode := .ops [⟨some 5, .load 10 true (.t 1), none, [1]⟩,
  ⟨some 6, .mv (.c (.int .i64 0)), none, []⟩] [5, 6]
theorem r20_1 : type_of% (@rr _ _ c20_1.eq_1) := rr c20_1.eq_1
def c20_2 : ACode := .ops [⟨some 7, .bin .lss (.t 6) (.c (.int .i64 5)), none, []⟩] [5, 6, 7]
theorem r20_2 : type_of% (@rr _ _ c20_2.eq_1) := rr c20_2.eq_1
def c20_3 : ACode := .cond (.t 7) .skip (.exit 0)
theorem r20_3 : type_of% (@rr _ _ c20_3.eq_1) := rr c20_3.eq_1
def c20_4 : ACode := .ops [⟨some 8, .idx (.t 5) (.t 6) 2 5 true, none, []⟩,
  ⟨some 4, .alloc [.int .i64 0, .int .i64 0], none, []⟩,
  ⟨none, .store (.t 4) 2 (.t 8), none, [4]⟩] [4, 5, 6]
theorem r20_4 : type_of% (@rr _ _ c20_4.eq_1) := rr c20_4.eq_1
def c20_5 : ACode := .ops [⟨some 9, .load 2 true (.t 4), none, [4]⟩,
  ⟨some 10, .call 43 [.t 9], none, []⟩] [5, 6, 10]
theorem r20_5 : type_of% (@rr _ _ c20_5.eq_1) := rr c20_5.eq_1
def c20_6 : ACode := .ops [⟨some 2, .mv (.c (.bool true)), none, []⟩] [2]
theorem r20_6 : type_of% (@rr _ _ c20_6.eq_1) := rr c20_6.eq_1
def c20_7 : ACode := .seq c20_6 .ret
theorem r20_7 : type_of% (@rr _ _ c20_7.eq_1) := rr c20_7.eq_1
def c20_8 : ACode := .cond (.t 10) c20_7 .skip
theorem r20_8 : type_of% (@rr _ _ c20_8.eq_1) := rr c20_8.eq_1
def c20_9 : ACode := .seq c20_5 c20_8
theorem r20_9 : type_of% (@rr _ _ c20_9.eq_1) := rr c20_9.eq_1
def c20_10 : ACode := .seq c20_4 c20_9
theorem r20_10 : type_of% (@rr _ _ c20_10.eq_1) := rr c20_10.eq_1
def c20_11 : ACode := .block 1 c20_10
theorem r20_11 : type_of% (@rr _ _ c20_11.eq_1) := rr c20_11.eq_1
def c20_12 : ACode := .ops [⟨some 11, .bin .add (.t 6) (.c (.int .i64 1)), none, []⟩,
  ⟨some 6, .mv (.t 11), none, []⟩] [5, 6]
theorem r20_12 : type_of% (@rr _ _ c20_12.eq_1) := rr c20_12.eq_1
def c20_13 : ACode := .seq c20_11 c20_12
theorem r20_13 : type_of% (@rr _ _ c20_13.eq_1) := rr c20_13.eq_1
def c20_14 : ACode := .seq c20_3 c20_13
theorem r20_14 : type_of% (@rr _ _ c20_14.eq_1) := rr c20_14.eq_1
def c20_15 : ACode := .seq c20_2 c20_14
theorem r20_15 : type_of% (@rr _ _ c20_15.eq_1) := rr c20_15.eq_1
def c20_16 : ACode := .keep [5, 6] [] c20_15
theorem r20_16 : type_of% (@rr _ _ c20_16.eq_1) := rr c20_16.eq_1
def c20_17 : ACode := .loop c20_16
theorem r20_17 : type_of% (@rr _ _ c20_17.eq_1) := rr c20_17.eq_1
def c20_18 : ACode := .block 0 c20_17
theorem r20_18 : type_of% (@rr _ _ c20_18.eq_1) := rr c20_18.eq_1
def c20_19 : ACode := .seq c20_1 c20_18
theorem r20_19 : type_of% (@rr _ _ c20_19.eq_1) := rr c20_19.eq_1
def c20_20 : ACode := .ops [⟨some 2, .mv (.c (.bool false)), none, []⟩] [2]
theorem r20_20 : type_of% (@rr _ _ c20_20.eq_1) := rr c20_20.eq_1
def c20_21 : ACode := .seq c20_20 .ret
theorem r20_21 : type_of% (@rr _ _ c20_21.eq_1) := rr c20_21.eq_1
def c20_22 : ACode := .seq c20_19 c20_21
theorem r20_22 : type_of% (@rr _ _ c20_22.eq_1) := rr c20_22.eq_1
def c20_23 : ACode := .seq c20_0 c20_22
theorem r20_23 : type_of% (@rr _ _ c20_23.eq_1) := rr c20_23.eq_1
def a20 : AFun := ⟨1, 12, c20_23, [.t 2]⟩
attribute [simp] r20_0 r20_1 r20_2 r20_3 r20_4 r20_5 r20_6 r20_7 r20_8 r20_9 r20_10 r20_11 r20_12 r20_13 r20_14 r20_15 r20_16 r20_17 r20_18 r20_19 r20_20 r20_21 r20_22 r20_23
theorem m20 : mFun Try.prog Try.f20 a20 = true := by decide +kernel
def c15_0 : ACode := .ops [⟨some 3, .box (.t 0) 10, none, []⟩,
  ⟨some 6, .alloc [.int .i64 0, .int .i64 0, .int .i64 0, .int .i64 0, .int .i64 0, .int .i64 0, .int .i64 0, .int .i64 0, .int .i64 0, .int .i64 0], none, []⟩,
  ⟨some 7, .alloc [.int .i64 0, .int .i64 0, .int .i64 0, .int .i64 0, .int .i64 0, .int .i64 0, .int .i64 0, .int .i64 0, .int .i64 0, .int .i64 0], none, []⟩] [1, 2, 3, 6, 7]
theorem r15_0 : type_of% (@rr _ _ c15_0.eq_1) := rr c15_0.eq_1
def c15_1 : ACode := .ops [⟨some 10, .load 10 true (.t 3), none, [3]⟩,
  ⟨some 11, .load 10 true (.t 3), none, [3]⟩,
  ⟨some 8, .alloc [.int .i64 0, .int .i64 0, .int .i64 0, .int .i64 0, .int .i64 0, .int .i64 0, .int .i64 0, .int .i64 0, .int .i64 0, .int .i64 0], none, []⟩,
  ⟨some 9, .alloc [.int .i64 0, .int .i64 0, .int .i64 0, .int .i64 0, .int .i64 0, .int .i64 0, .int .i64 0, .int .i64 0, .int .i64 0, .int .i64 0], none, []⟩,
  ⟨none, .store (.t 8) 10 (.t 10), none, [8]⟩,
  ⟨none, .store (.t 9) 10 (.t 11), none, [9]⟩] [1, 2, 3, 6, 7, 8, 9]
theorem r15_1 : type_of% (@rr _ _ c15_1.eq_1) := rr c15_1.eq_1
def c15_2 : ACode := .ops [⟨some 12, .mv (.t 1), none, []⟩,
  ⟨some 13, .bin .geq (.t 12) (.c (.int .i64 0)), none, []⟩,
  ⟨some 14, .mv (.t 13), none, []⟩,
  ⟨some 15, .mv (.t 1), some (14, true), []⟩,
  ⟨some 16, .bin .lss (.t 15) (.c (.int .i64 5)), some (14, true), []⟩,
  ⟨some 17, .pick (.t 14) (.t 16) (.c (.bool false)), none, []⟩] [1, 2, 3, 6, 7, 8, 9, 17]
theorem r15_2 : type_of% (@rr _ _ c15_2.eq_1) := rr c15_2.eq_1
def c15_3 : ACode := .ops [⟨some 19, .mv (.t 1), none, []⟩,
  ⟨some 20, .mv (.t 1), none, []⟩,
  ⟨some 21, .mv (.t 1), none, []⟩,
  ⟨some 22, .iad (.t 3) (.t 21) 2 5, none, [3]⟩,
  ⟨some 23, .load 2 true (.t 22), none, [3]⟩,
  ⟨some 24, .mv (.t 2), none, []⟩,
  ⟨some 25, .call 36 [.t 23, .t 24], none, []⟩,
  ⟨some 18, .mv (.t 25), none, []⟩,
  ⟨some 26, .ext (.t 18) 0, none, []⟩,
  ⟨some 27, .ext (.t 18) 1, none, []⟩,
  ⟨some 28, .iad (.t 8) (.t 19) 2 5, none, [8]⟩,
  ⟨none, .store (.t 28) 2 (.t 26), none, [8]⟩,
  ⟨some 29, .iad (.t 9) (.t 20) 2 5, none, [9]⟩,
  ⟨none, .store (.t 29) 2 (.t 27), none, [9]⟩] [6, 7, 8, 9]
theorem r15_3 : type_of% (@rr _ _ c15_3.eq_1) := rr c15_3.eq_1
def c15_4 : ACode := .cond (.t 17) c15_3 .skip
theorem r15_4 : type_of% (@rr _ _ c15_4.eq_1) := rr c15_4.eq_1
def c15_5 : ACode := .seq c15_2 c15_4
theorem r15_5 : type_of% (@rr _ _ c15_5.eq_1) := rr c15_5.eq_1
def c15_6 : ACode := .ops [⟨some 30, .load 10 true (.t 8), none, [8]⟩,
  ⟨some 31, .load 10 true (.t 9), none, [9]⟩,
  ⟨none, .store (.t 6) 10 (.t 30), none, [6]⟩,
  ⟨none, .store (.t 7) 10 (.t 31), none, [7]⟩] [6, 7]
theorem r15_6 : type_of% (@rr _ _ c15_6.eq_1) := rr c15_6.eq_1
def c15_7 : ACode := .seq c15_6 .ret
theorem r15_7 : type_of% (@rr _ _ c15_7.eq_1) := rr c15_7.eq_1
def c15_8 : ACode := .seq c15_5 c15_7
theorem r15_8 : type_of% (@rr _ _ c15_8.eq_1) := rr c15_8.eq_1
def c15_9 : ACode := .seq c15_1 c15_8
theorem r15_9 : type_of% (@rr _ _ c15_9.eq_1) := rr c15_9.eq_1
def c15_10 : ACode := .seq c15_0 c15_9
theorem r15_10 : type_of% (@rr _ _ c15_10.eq_1) := rr c15_10.eq_1
def a15 : AFun := ⟨3, 32, c15_10, [.cell 6 10 true, .cell 7 10 true]⟩
attribute [simp] r15_0 r15_1 r15_2 r15_3 r15_4 r15_5 r15_6 r15_7 r15_8 r15_9 r15_10
theorem m15 : mFun Try.prog Try.f15 a15 = true := by decide +kernel
theorem runs_none (c : Span) (h : some noneS = some c) : Runs (tbl []) a63 [] (Arg.enc c) := by
  cases h
  refine ⟨rfl, fun g => run_def ?_⟩
  unfold a63
  simp -implicitDefEqProofs [noneS]
theorem c_none : Contract Try.prog 63 (sp0 (some noneS)) := contract_of_runs mixed tbl_nil Try.func63 m63 (sp0_runs runs_none)
theorem runs_of (lo hi : Int) (c : Span) (h : some (ofS lo hi) = some c) : Runs (tbl [(63, sp0 (some noneS))]) a62 [Arg.enc lo, Arg.enc hi] (Arg.enc c) := by
  cases h
  refine ⟨rfl, fun g => run_def ?_⟩
  unfold a62
  by_cases h1 : hi < lo <;> simp -implicitDefEqProofs [ofS, noneS, h1]
theorem c_of : Contract Try.prog 62 (sp2 fun lo hi => some (ofS lo hi)) :=
  contract_of_runs mixed (tbl_cons c_none tbl_nil) Try.func62 m62 (sp2_runs runs_of)
theorem runs_sEmpty (s : Span) (c : Bool) (h : some s.empty = some c) : Runs (tbl []) a43 [Arg.enc s] (Arg.enc c) := by
  cases h
  refine ⟨rfl, fun g => run_def ?_⟩
  unfold a43
  simp -implicitDefEqProofs [Span.empty]
theorem c_sEmpty : Contract Try.prog 43 (sp1 fun (s : Span) => some s.empty) := contract_of_runs mixed tbl_nil Try.func43 m43 (sp1_runs runs_sEmpty)
def CutS (s : Span) (n : Int) : Option (Span × Span) := if ok64 n ∧ ok64 s.hi then some (cutS s n) else none
theorem runs_sCut (s : Span) (n : Int) (c : Span × Span) (h : CutS s n = some c) : Runs (tbl [(62, sp2 fun lo hi => some (ofS lo hi)), (63, sp0 (some noneS))]) a36 [Arg.enc s, Arg.enc n] (Arg.enc c) := by
  unfold CutS at h
  split at h
  · rename_i hb
    cases h
    obtain ⟨⟨b1, b2⟩, b3, b4⟩ := hb
    refine ⟨rfl, fun g => run_def ?_⟩
    unfold a36
    by_cases h1 : s.hi ≤ n
    · by_cases h2 : n < s.hi
      · omega
      · simp -implicitDefEqProofs [cutS, noneS, h1, h2]
    · have e : IntKind.i64.wrap (n + 1) = n + 1 := wrap64 (by omega) (by omega)
      have h2 : n < s.hi := by omega
      simp -implicitDefEqProofs [cutS, h1, h2, e]
  · cases h
theorem c_sCut : Contract Try.prog 36 (sp2 CutS) :=
  contract_of_runs mixed (tbl_cons c_of (tbl_cons c_none tbl_nil)) Try.func36 m36 (sp2_runs runs_sCut)
theorem runs_bEmpty (b : Box) (c : Bool) (h : some b.empty = some c) : Runs (tbl [(43, sp1 fun (s : Span) => some s.empty)]) a20 [Arg.enc b] (Arg.enc c) := by
  cases h
  refine ⟨rfl, fun g => run_def ?_⟩
  unfold a20
  cases h0 : b.s0.empty
  case true => simp -implicitDefEqProofs [Box.empty, run_round, h0]
  cases h1 : b.s1.empty
  case true => simp -implicitDefEqProofs [Box.empty, run_round, h0, h1]
  cases h2 : b.s2.empty
  case true => simp -implicitDefEqProofs [Box.empty, run_round, h0, h1, h2]
  cases h3 : b.s3.empty
  case true => simp -implicitDefEqProofs [Box.empty, run_round, h0, h1, h2, h3]
  cases h4 : b.s4.empty <;> simp -implicitDefEqProofs [Box.empty, run_round, h0, h1, h2, h3, h4]
theorem c_bEmpty : Contract Try.prog 20 (sp1 fun (b : Box) => some b.empty) :=
  contract_of_runs mixed (tbl_cons c_sEmpty tbl_nil) Try.func20 m20 (sp1_runs runs_bEmpty)
def CutB (b : Box) (p n : Int) : Option (Box × Box) := if ok64 n ∧ ok64 (b.get p).hi then some (cutB b p n) else none
theorem runs_bCut (b : Box) (p n : Int) (c : Box × Box) (h : CutB b p n = some c) : Runs (tbl [(36, sp2 CutS)]) a15 [Arg.enc b, Arg.enc p, Arg.enc n] (Arg.enc c) := by
  unfold CutB at h
  split at h
  · rename_i hb
    cases h
    obtain ⟨b1, b2⟩ := hb
    refine ⟨rfl, fun g => run_def ?_⟩
    unfold a15
    by_cases h1 : 0 ≤ p
    case neg => simp -implicitDefEqProofs [cutB, h1]
    by_cases h2 : p < 5
    case neg => simp -implicitDefEqProofs [cutB, h1, h2]
    have hp : p = 0 ∨ p = 1 ∨ p = 2 ∨ p = 3 ∨ p = 4 := by omega
    rcases hp with rfl | rfl | rfl | rfl | rfl <;> simp [Box.get] at b2 <;> simp -implicitDefEqProofs [cutB, Box.get, Box.set, CutS, b1, b2]
  · cases h
theorem c_bCut : Contract Try.prog 15 (sp3 CutB) :=
  contract_of_runs mixed (tbl_cons c_sCut tbl_nil) Try.func15 m15 (sp3_runs runs_bCut)
end Go.Co
