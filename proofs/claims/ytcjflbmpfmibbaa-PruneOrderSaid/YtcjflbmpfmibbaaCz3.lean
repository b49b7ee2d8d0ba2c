/- CO: texts of this claim, one behind the other. -/
import Derived.Test.YtcjflbmpfmibbaaCz2
import Derived.Test.YtcjflbmpfmibbaaCz1
/- CO: spans and boxes. -/
namespace Go.Co
open Go.Am Go.Proofs
set_option linter.unusedSimpArgs false
set_option linter.unusedVariables false
def c144_0 : ACode := .ops [⟨some 0, .alloc [.int .i64 0, .int .i64 0], none, []⟩] [0]
theorem r144_0 : type_of% (@rr _ _ c144_0.eq_1) := rr rfl
def c144_1 : ACode := .ops [⟨some 1, .build [.int .i64 0, .int .i64 0] [(0, 1, .c (.int .i64 1))], none, []⟩,⟨none, .store (.t 0) 2 (.t 1), none, [0]⟩] [0]
theorem r144_1 : type_of% (@rr _ _ c144_1.eq_1) := rr rfl
def c144_2 : ACode := .seq c144_1 .ret
theorem r144_2 : type_of% (@rr _ _ c144_2.eq_1) := rr rfl
def c144_3 : ACode := .seq c144_0 c144_2
theorem r144_3 : type_of% (@rr _ _ c144_3.eq_1) := rr rfl
def a144 : AFun := ⟨0, 2, c144_3, [.cell 0 2 true]⟩
attribute [simp] r144_0 r144_1 r144_2 r144_3
theorem m144 : mFun Try.prog Try.f144 a144 = true := by decide +kernel
def c143_0 : ACode := .ops [⟨some 4, .alloc [.int .i64 0, .int .i64 0], none, []⟩] [0, 1, 4]
theorem r143_0 : type_of% (@rr _ _ c143_0.eq_1) := rr rfl
def c143_1 : ACode := .ops [⟨some 5, .mv (.t 0), none, []⟩,⟨some 6, .mv (.t 1), none, []⟩,⟨some 7, .bin .gtr (.t 5) (.t 6), none, []⟩] [0, 1, 4, 7]
theorem r143_1 : type_of% (@rr _ _ c143_1.eq_1) := rr rfl
def c143_2 : ACode := .ops [⟨some 8, .call 144 [], none, []⟩,⟨none, .store (.t 4) 2 (.t 8), none, [4]⟩] [4]
theorem r143_2 : type_of% (@rr _ _ c143_2.eq_1) := rr rfl
def c143_3 : ACode := .seq c143_2 .ret
theorem r143_3 : type_of% (@rr _ _ c143_3.eq_1) := rr rfl
def c143_4 : ACode := .cond (.t 7) c143_3 .skip
theorem r143_4 : type_of% (@rr _ _ c143_4.eq_1) := rr rfl
def c143_5 : ACode := .seq c143_1 c143_4
theorem r143_5 : type_of% (@rr _ _ c143_5.eq_1) := rr rfl
def c143_6 : ACode := .ops [⟨some 9, .mv (.t 0), none, []⟩,⟨some 10, .mv (.t 1), none, []⟩,⟨some 11, .build [.int .i64 0, .int .i64 0] [(0, 1, .t 9), (1, 1, .t 10)], none, []⟩,⟨none, .store (.t 4) 2 (.t 11), none, [4]⟩] [4]
theorem r143_6 : type_of% (@rr _ _ c143_6.eq_1) := rr rfl
def c143_7 : ACode := .seq c143_6 .ret
theorem r143_7 : type_of% (@rr _ _ c143_7.eq_1) := rr rfl
def c143_8 : ACode := .seq c143_5 c143_7
theorem r143_8 : type_of% (@rr _ _ c143_8.eq_1) := rr rfl
def c143_9 : ACode := .seq c143_0 c143_8
theorem r143_9 : type_of% (@rr _ _ c143_9.eq_1) := rr rfl
def a143 : AFun := ⟨2, 12, c143_9, [.cell 4 2 true]⟩
attribute [simp] r143_0 r143_1 r143_2 r143_3 r143_4 r143_5 r143_6 r143_7 r143_8 r143_9
theorem m143 : mFun Try.prog Try.f143 a143 = true := by decide +kernel
def c117_0 : ACode := .ops [⟨some 1, .box (.t 0) 2, none, []⟩,⟨some 2, .mv (.c (.bool false)), none, []⟩] [1]
theorem r117_0 : type_of% (@rr _ _ c117_0.eq_1) := rr rfl
def c117_1 : ACode := .ops [⟨some 3, .fad (.t 1) 0, none, [1]⟩,⟨some 4, .load 1 false (.t 3), none, [1]⟩,⟨some 5, .fad (.t 1) 1, none, [1]⟩,⟨some 6, .load 1 false (.t 5), none, [1]⟩,⟨some 7, .bin .gtr (.t 4) (.t 6), none, []⟩,⟨some 2, .mv (.t 7), none, []⟩] [2]
theorem r117_1 : type_of% (@rr _ _ c117_1.eq_1) := rr rfl
def c117_2 : ACode := .seq c117_1 .ret
theorem r117_2 : type_of% (@rr _ _ c117_2.eq_1) := rr rfl
def c117_3 : ACode := .seq c117_0 c117_2
theorem r117_3 : type_of% (@rr _ _ c117_3.eq_1) := rr rfl
def a117 : AFun := ⟨1, 8, c117_3, [.t 2]⟩
attribute [simp] r117_0 r117_1 r117_2 r117_3
theorem m117 : mFun Try.prog Try.f117 a117 = true := by decide +kernel
def c110_0 : ACode := .ops [⟨some 2, .box (.t 0) 2, none, []⟩,⟨some 4, .alloc [.int .i64 0, .int .i64 0], none, []⟩,⟨some 5, .alloc [.int .i64 0, .int .i64 0], none, []⟩] [1, 2, 4, 5]
theorem r110_0 : type_of% (@rr _ _ c110_0.eq_1) := rr rfl
def c110_1 : ACode := .ops [⟨some 7, .fad (.t 2) 0, none, [2]⟩,⟨some 8, .load 1 false (.t 7), none, [2]⟩,⟨some 9, .fad (.t 2) 1, none, [2]⟩,⟨some 10, .load 1 false (.t 9), none, [2]⟩,⟨some 11, .mv (.t 1), none, []⟩,⟨some 12, .mnmx false (.t 10) (.t 11), none, []⟩,⟨some 13, .call 143 [.t 8, .t 12], none, []⟩,⟨some 6, .alloc [.int .i64 0, .int .i64 0], none, []⟩,⟨none, .store (.t 6) 2 (.t 13), none, [6]⟩] [1, 2, 4, 5, 6]
theorem r110_1 : type_of% (@rr _ _ c110_1.eq_1) := rr rfl
def c110_2 : ACode := .ops [⟨some 14, .mv (.t 1), none, []⟩,⟨some 15, .fad (.t 2) 1, none, [2]⟩,⟨some 16, .load 1 false (.t 15), none, [2]⟩,⟨some 17, .bin .geq (.t 14) (.t 16), none, []⟩] [1, 2, 4, 5, 6, 17]
theorem r110_2 : type_of% (@rr _ _ c110_2.eq_1) := rr rfl
def c110_3 : ACode := .ops [⟨some 18, .load 2 true (.t 6), none, [6]⟩,⟨some 19, .call 144 [], none, []⟩,⟨none, .store (.t 4) 2 (.t 18), none, [4]⟩,⟨none, .store (.t 5) 2 (.t 19), none, [5]⟩] [4, 5]
theorem r110_3 : type_of% (@rr _ _ c110_3.eq_1) := rr rfl
def c110_4 : ACode := .seq c110_3 .ret
theorem r110_4 : type_of% (@rr _ _ c110_4.eq_1) := rr rfl
def c110_5 : ACode := .cond (.t 17) c110_4 .skip
theorem r110_5 : type_of% (@rr _ _ c110_5.eq_1) := rr rfl
def c110_6 : ACode := .seq c110_2 c110_5
theorem r110_6 : type_of% (@rr _ _ c110_6.eq_1) := rr rfl
def c110_7 : ACode := .ops [⟨some 20, .load 2 true (.t 6), none, [6]⟩,⟨some 21, .fad (.t 2) 0, none, [2]⟩,⟨some 22, .load 1 false (.t 21), none, [2]⟩,⟨some 23, .mv (.t 1), none, []⟩,⟨some 24, .bin .add (.t 23) (.c (.int .i64 1)), none, []⟩,⟨some 25, .mnmx true (.t 22) (.t 24), none, []⟩,⟨some 26, .fad (.t 2) 1, none, [2]⟩,⟨some 27, .load 1 false (.t 26), none, [2]⟩,⟨some 28, .call 143 [.t 25, .t 27], none, []⟩,⟨none, .store (.t 4) 2 (.t 20), none, [4]⟩,⟨none, .store (.t 5) 2 (.t 28), none, [5]⟩] [4, 5]
theorem r110_7 : type_of% (@rr _ _ c110_7.eq_1) := rr rfl
def c110_8 : ACode := .seq c110_7 .ret
theorem r110_8 : type_of% (@rr _ _ c110_8.eq_1) := rr rfl
def c110_9 : ACode := .seq c110_6 c110_8
theorem r110_9 : type_of% (@rr _ _ c110_9.eq_1) := rr rfl
def c110_10 : ACode := .seq c110_1 c110_9
theorem r110_10 : type_of% (@rr _ _ c110_10.eq_1) := rr rfl
def c110_11 : ACode := .seq c110_0 c110_10
theorem r110_11 : type_of% (@rr _ _ c110_11.eq_1) := rr rfl
def a110 : AFun := ⟨2, 29, c110_11, [.cell 4 2 true, .cell 5 2 true]⟩
attribute [simp] r110_0 r110_1 r110_2 r110_3 r110_4 r110_5 r110_6 r110_7 r110_8 r110_9 r110_10 r110_11
theorem m110 : mFun Try.prog Try.f110 a110 = true := by decide +kernel
def c66_0 : ACode := .ops [⟨some 1, .box (.t 0) 10, none, []⟩,⟨some 2, .mv (.c (.bool false)), none, []⟩] [1]
theorem r66_0 : type_of% (@rr _ _ c66_0.eq_1) := rr rfl
def c66_1 : ACode := .ops [⟨some 5, .load 10 true (.t 1), none, [1]⟩,⟨some 6, .mv (.c (.int .i64 0)), none, []⟩] [5, 6]
theorem r66_1 : type_of% (@rr _ _ c66_1.eq_1) := rr rfl
def c66_2 : ACode := .ops [⟨some 7, .bin .lss (.t 6) (.c (.int .i64 5)), none, []⟩] [5, 6, 7]
theorem r66_2 : type_of% (@rr _ _ c66_2.eq_1) := rr rfl
def c66_3 : ACode := .cond (.t 7) .skip (.exit 0)
theorem r66_3 : type_of% (@rr _ _ c66_3.eq_1) := rr rfl
def c66_4 : ACode := .ops [⟨some 8, .idx (.t 5) (.t 6) 2 5 true, none, []⟩,⟨some 4, .alloc [.int .i64 0, .int .i64 0], none, []⟩,⟨none, .store (.t 4) 2 (.t 8), none, [4]⟩] [4, 5, 6]
theorem r66_4 : type_of% (@rr _ _ c66_4.eq_1) := rr rfl
def c66_5 : ACode := .ops [⟨some 9, .load 2 true (.t 4), none, [4]⟩,⟨some 10, .call 117 [.t 9], none, []⟩] [5, 6, 10]
theorem r66_5 : type_of% (@rr _ _ c66_5.eq_1) := rr rfl
def c66_6 : ACode := .ops [⟨some 2, .mv (.c (.bool true)), none, []⟩] [2]
theorem r66_6 : type_of% (@rr _ _ c66_6.eq_1) := rr rfl
def c66_7 : ACode := .seq c66_6 .ret
theorem r66_7 : type_of% (@rr _ _ c66_7.eq_1) := rr rfl
def c66_8 : ACode := .cond (.t 10) c66_7 .skip
theorem r66_8 : type_of% (@rr _ _ c66_8.eq_1) := rr rfl
def c66_9 : ACode := .seq c66_5 c66_8
theorem r66_9 : type_of% (@rr _ _ c66_9.eq_1) := rr rfl
def c66_10 : ACode := .seq c66_4 c66_9
theorem r66_10 : type_of% (@rr _ _ c66_10.eq_1) := rr rfl
def c66_11 : ACode := .block 1 c66_10
theorem r66_11 : type_of% (@rr _ _ c66_11.eq_1) := rr rfl
def c66_12 : ACode := .ops [⟨some 11, .bin .add (.t 6) (.c (.int .i64 1)), none, []⟩,⟨some 6, .mv (.t 11), none, []⟩] [5, 6]
theorem r66_12 : type_of% (@rr _ _ c66_12.eq_1) := rr rfl
def c66_13 : ACode := .seq c66_11 c66_12
theorem r66_13 : type_of% (@rr _ _ c66_13.eq_1) := rr rfl
def c66_14 : ACode := .seq c66_3 c66_13
theorem r66_14 : type_of% (@rr _ _ c66_14.eq_1) := rr rfl
def c66_15 : ACode := .seq c66_2 c66_14
theorem r66_15 : type_of% (@rr _ _ c66_15.eq_1) := rr rfl
def c66_16 : ACode := .keep [5, 6] [] c66_15
theorem r66_16 : type_of% (@rr _ _ c66_16.eq_1) := rr rfl
def c66_17 : ACode := .loop c66_16
theorem r66_17 : type_of% (@rr _ _ c66_17.eq_1) := rr rfl
def c66_18 : ACode := .block 0 c66_17
theorem r66_18 : type_of% (@rr _ _ c66_18.eq_1) := rr rfl
def c66_19 : ACode := .seq c66_1 c66_18
theorem r66_19 : type_of% (@rr _ _ c66_19.eq_1) := rr rfl
def c66_20 : ACode := .ops [⟨some 2, .mv (.c (.bool false)), none, []⟩] [2]
theorem r66_20 : type_of% (@rr _ _ c66_20.eq_1) := rr rfl
def c66_21 : ACode := .seq c66_20 .ret
theorem r66_21 : type_of% (@rr _ _ c66_21.eq_1) := rr rfl
def c66_22 : ACode := .seq c66_19 c66_21
theorem r66_22 : type_of% (@rr _ _ c66_22.eq_1) := rr rfl
def c66_23 : ACode := .seq c66_0 c66_22
theorem r66_23 : type_of% (@rr _ _ c66_23.eq_1) := rr rfl
def a66 : AFun := ⟨1, 12, c66_23, [.t 2]⟩
attribute [simp] r66_0 r66_1 r66_2 r66_3 r66_4 r66_5 r66_6 r66_7 r66_8 r66_9 r66_10 r66_11 r66_12 r66_13 r66_14 r66_15 r66_16 r66_17 r66_18 r66_19 r66_20 r66_21 r66_22 r66_23
theorem m66 : mFun Try.prog Try.f66 a66 = true := by decide +kernel
def c58_0 : ACode := .ops [⟨some 3, .box (.t 0) 10, none, []⟩,⟨some 6, .alloc [.int .i64 0, .int .i64 0, .int .i64 0, .int .i64 0, .int .i64 0, .int .i64 0, .int .i64 0, .int .i64 0, .int .i64 0, .int .i64 0], none, []⟩,⟨some 7, .alloc [.int .i64 0, .int .i64 0, .int .i64 0, .int .i64 0, .int .i64 0, .int .i64 0, .int .i64 0, .int .i64 0, .int .i64 0, .int .i64 0], none, []⟩] [1, 2, 3, 6, 7]
theorem r58_0 : type_of% (@rr _ _ c58_0.eq_1) := rr rfl
def c58_1 : ACode := .ops [⟨some 10, .load 10 true (.t 3), none, [3]⟩,⟨some 11, .load 10 true (.t 3), none, [3]⟩,⟨some 8, .alloc [.int .i64 0, .int .i64 0, .int .i64 0, .int .i64 0, .int .i64 0, .int .i64 0, .int .i64 0, .int .i64 0, .int .i64 0, .int .i64 0], none, []⟩,⟨some 9, .alloc [.int .i64 0, .int .i64 0, .int .i64 0, .int .i64 0, .int .i64 0, .int .i64 0, .int .i64 0, .int .i64 0, .int .i64 0, .int .i64 0], none, []⟩,⟨none, .store (.t 8) 10 (.t 10), none, [8]⟩,⟨none, .store (.t 9) 10 (.t 11), none, [9]⟩] [1, 2, 3, 6, 7, 8, 9]
theorem r58_1 : type_of% (@rr _ _ c58_1.eq_1) := rr rfl
def c58_2 : ACode := .ops [⟨some 12, .mv (.t 1), none, []⟩,⟨some 13, .bin .geq (.t 12) (.c (.int .i64 0)), none, []⟩,⟨some 14, .mv (.t 13), none, []⟩,⟨some 15, .mv (.t 1), some (14, true), []⟩,⟨some 16, .bin .lss (.t 15) (.c (.int .i64 5)), some (14, true), []⟩,⟨some 17, .pick (.t 14) (.t 16) (.c (.bool false)), none, []⟩] [1, 2, 3, 6, 7, 8, 9, 17]
theorem r58_2 : type_of% (@rr _ _ c58_2.eq_1) := rr rfl
def c58_3 : ACode := .ops [⟨some 19, .mv (.t 1), none, []⟩,⟨some 20, .mv (.t 1), none, []⟩,⟨some 21, .mv (.t 1), none, []⟩,⟨some 22, .iad (.t 3) (.t 21) 2 5, none, [3]⟩,⟨some 23, .load 2 true (.t 22), none, [3]⟩,⟨some 24, .mv (.t 2), none, []⟩,⟨some 25, .call 110 [.t 23, .t 24], none, []⟩,⟨some 18, .mv (.t 25), none, []⟩,⟨some 26, .ext (.t 18) 0, none, []⟩,⟨some 27, .ext (.t 18) 1, none, []⟩,⟨some 28, .iad (.t 8) (.t 19) 2 5, none, [8]⟩,⟨none, .store (.t 28) 2 (.t 26), none, [8]⟩,⟨some 29, .iad (.t 9) (.t 20) 2 5, none, [9]⟩,⟨none, .store (.t 29) 2 (.t 27), none, [9]⟩] [6, 7, 8, 9]
theorem r58_3 : type_of% (@rr _ _ c58_3.eq_1) := rr rfl
def c58_4 : ACode := .cond (.t 17) c58_3 .skip
theorem r58_4 : type_of% (@rr _ _ c58_4.eq_1) := rr rfl
def c58_5 : ACode := .seq c58_2 c58_4
theorem r58_5 : type_of% (@rr _ _ c58_5.eq_1) := rr rfl
def c58_6 : ACode := .ops [⟨some 30, .load 10 true (.t 8), none, [8]⟩,⟨some 31, .load 10 true (.t 9), none, [9]⟩,⟨none, .store (.t 6) 10 (.t 30), none, [6]⟩,⟨none, .store (.t 7) 10 (.t 31), none, [7]⟩] [6, 7]
theorem r58_6 : type_of% (@rr _ _ c58_6.eq_1) := rr rfl
def c58_7 : ACode := .seq c58_6 .ret
theorem r58_7 : type_of% (@rr _ _ c58_7.eq_1) := rr rfl
def c58_8 : ACode := .seq c58_5 c58_7
theorem r58_8 : type_of% (@rr _ _ c58_8.eq_1) := rr rfl
def c58_9 : ACode := .seq c58_1 c58_8
theorem r58_9 : type_of% (@rr _ _ c58_9.eq_1) := rr rfl
def c58_10 : ACode := .seq c58_0 c58_9
theorem r58_10 : type_of% (@rr _ _ c58_10.eq_1) := rr rfl
def a58 : AFun := ⟨3, 32, c58_10, [.cell 6 10 true, .cell 7 10 true]⟩
attribute [simp] r58_0 r58_1 r58_2 r58_3 r58_4 r58_5 r58_6 r58_7 r58_8 r58_9 r58_10
theorem m58 : mFun Try.prog Try.f58 a58 = true := by decide +kernel
theorem runs_none (c : Span) (h : some noneS = some c) : Runs (tbl []) a144 [] (Arg.enc c) := by
  cases h
  refine ⟨rfl, fun g => run_def ?_⟩
  unfold a144
  simp -implicitDefEqProofs [noneS]
theorem c_none : Contract Try.prog 144 (sp0 (some noneS)) := contract_of_runs mixed tbl_nil Try.func144 m144 (sp0_runs runs_none)
theorem runs_of (lo hi : Int) (c : Span) (h : some (ofS lo hi) = some c) : Runs (tbl [(144, sp0 (some noneS))]) a143 [Arg.enc lo, Arg.enc hi] (Arg.enc c) := by
  cases h
  refine ⟨rfl, fun g => run_def ?_⟩
  unfold a143
  by_cases h1 : hi < lo <;> simp -implicitDefEqProofs [ofS, noneS, h1]
theorem c_of : Contract Try.prog 143 (sp2 fun lo hi => some (ofS lo hi)) :=
  contract_of_runs mixed (tbl_cons c_none tbl_nil) Try.func143 m143 (sp2_runs runs_of)
theorem runs_sEmpty (s : Span) (c : Bool) (h : some s.empty = some c) : Runs (tbl []) a117 [Arg.enc s] (Arg.enc c) := by
  cases h
  refine ⟨rfl, fun g => run_def ?_⟩
  unfold a117
  simp -implicitDefEqProofs [Span.empty]
theorem c_sEmpty : Contract Try.prog 117 (sp1 fun (s : Span) => some s.empty) := contract_of_runs mixed tbl_nil Try.func117 m117 (sp1_runs runs_sEmpty)
def CutS (s : Span) (n : Int) : Option (Span × Span) := if ok64 n ∧ ok64 s.hi then some (cutS s n) else none
theorem runs_sCut (s : Span) (n : Int) (c : Span × Span) (h : CutS s n = some c) : Runs (tbl [(143, sp2 fun lo hi => some (ofS lo hi)), (144, sp0 (some noneS))]) a110 [Arg.enc s, Arg.enc n] (Arg.enc c) := by
  unfold CutS at h
  split at h
  · rename_i hb
    cases h
    obtain ⟨⟨b1, b2⟩, b3, b4⟩ := hb
    refine ⟨rfl, fun g => run_def ?_⟩
    unfold a110
    by_cases h1 : s.hi ≤ n
    · by_cases h2 : n < s.hi
      · omega
      · simp -implicitDefEqProofs [cutS, noneS, h1, h2]
    · have e : IntKind.i64.wrap (n + 1) = n + 1 := wrap64 (by omega) (by omega)
      have h2 : n < s.hi := by omega
      simp -implicitDefEqProofs [cutS, h1, h2, e]
  · cases h
theorem c_sCut : Contract Try.prog 110 (sp2 CutS) :=
  contract_of_runs mixed (tbl_cons c_of (tbl_cons c_none tbl_nil)) Try.func110 m110 (sp2_runs runs_sCut)
theorem runs_bEmpty (b : Box) (c : Bool) (h : some b.empty = some c) : Runs (tbl [(117, sp1 fun (s : Span) => some s.empty)]) a66 [Arg.enc b] (Arg.enc c) := by
  cases h
  refine ⟨rfl, fun g => run_def ?_⟩
  unfold a66
  cases h0 : b.s0.empty
  case true => simp -implicitDefEqProofs [Box.empty, run_round, h0]
  cases h1 : b.s1.empty
  case true => simp -implicitDefEqProofs [Box.empty, run_round, h0, h1]
  cases h2 : b.s2.empty
  case true => simp -implicitDefEqProofs [Box.empty, run_round, h0, h1, h2]
  cases h3 : b.s3.empty
  case true => simp -implicitDefEqProofs [Box.empty, run_round, h0, h1, h2, h3]
  cases h4 : b.s4.empty <;> simp -implicitDefEqProofs [Box.empty, run_round, h0, h1, h2, h3, h4]
theorem c_bEmpty : Contract Try.prog 66 (sp1 fun (b : Box) => some b.empty) :=
  contract_of_runs mixed (tbl_cons c_sEmpty tbl_nil) Try.func66 m66 (sp1_runs runs_bEmpty)
def CutB (b : Box) (p n : Int) : Option (Box × Box) := if ok64 n ∧ ok64 (b.get p).hi then some (cutB b p n) else none
theorem runs_bCut (b : Box) (p n : Int) (c : Box × Box) (h : CutB b p n = some c) : Runs (tbl [(110, sp2 CutS)]) a58 [Arg.enc b, Arg.enc p, Arg.enc n] (Arg.enc c) := by
  unfold CutB at h
  split at h
  · rename_i hb
    cases h
    obtain ⟨b1, b2⟩ := hb
    refine ⟨rfl, fun g => run_def ?_⟩
    unfold a58
    by_cases h1 : 0 ≤ p
    case neg => simp -implicitDefEqProofs [cutB, h1]
    by_cases h2 : p < 5
    case neg => simp -implicitDefEqProofs [cutB, h1, h2]
    have hp : p = 0 ∨ p = 1 ∨ p = 2 ∨ p = 3 ∨ p = 4 := by omega
    rcases hp with rfl | rfl | rfl | rfl | rfl <;> simp [Box.get] at b2 <;> simp -implicitDefEqProofs [cutB, Box.get, Box.set, CutS, b1, b2]
  · cases h
theorem c_bCut : Contract Try.prog 58 (sp3 CutB) :=
  contract_of_runs mixed (tbl_cons c_sCut tbl_nil) Try.func58 m58 (sp3_runs runs_bCut)
end Go.Co
/- CO: right trees of words; a tree that is grown of numbers is right. -/
namespace Go.Co
theorem pack_okW (n : Node) : okW (pack n).v := by
  unfold pack okW
  split
  · rename_i h
    obtain ⟨leaf, value, feature, cut, left, right⟩ := n
    cases leaf <;> simp [rightNode, fits] at h ⊢ <;> omega
  · simp
theorem raw_pack (n : Node) (h : rightNode n = true) : raw (pack n).v = n := by
  obtain ⟨leaf, value, feature, cut, left, right⟩ := n
  have hb := h
  unfold pack raw
  rw [if_pos h]
  cases leaf
  · simp [rightNode, fits] at hb
    obtain ⟨⟨⟨⟨⟨⟨⟨h0, h1⟩, h2⟩, h3, h4⟩, h5⟩, h6⟩, h7⟩, h8⟩ := hb
    have e : (cut % 4294967296 + feature * 4294967296 + left * 1099511627776 + right * 281474976710656) / 9223372036854775808 ≠ 1 := by omega
    simp only [Bool.false_eq_true, if_false, wrap32, if_neg e, Node.mk.injEq, true_and]
    refine ⟨?_, ?_, ?_, ?_, ?_⟩ <;> omega
  · simp [rightNode, fits] at hb
    obtain ⟨⟨⟨⟨⟨h0, h1⟩, h2⟩, h3⟩, h4⟩, h5⟩ := hb
    have e : (9223372036854775808 + value % 4294967296) / 9223372036854775808 = 1 := by omega
    simp only [if_true, wrap32, if_pos e, Node.mk.injEq, true_and, h2, h3, h4, h5, and_true]
    omega
theorem unpack_pack (n : Node) (h : rightNode n = true) : unpack (pack n) = (n, true) := by
  unfold unpack
  rw [raw_pack n h]
  simp [h]
theorem unpack_true {w : Word} (h : (unpack w).2 = true) : rightNode (unpack w).1 = true ∧ pack (unpack w).1 = w := by
  unfold unpack at *
  split at h
  · rename_i hh
    rw [if_pos hh]
    simpa using hh
  · cases h
def nd (w : Word) : Node := (unpack w).1
theorem nd_pack (n : Node) (h : rightNode n = true) : nd (pack n) = n := by unfold nd; rw [unpack_pack n h]
def names (n : Node) (j : Nat) : Bool := !n.leaf && (decide (n.left = j) || decide (n.right = j))
structure RT (l : List Word) (dim : Int) : Prop where
  ok : ∀ (i : Nat) (h : i < l.length), okW l[i].v ∧ (unpack l[i]).2 = true
  pos : 1 ≤ l.length
  le : l.length ≤ 31
  inner : ∀ (i : Nat) (h : i < l.length), (nd l[i]).leaf = false → (nd l[i]).feature < dim ∧ (nd l[i]).left ≠ (nd l[i]).right ∧ (i : Int) < (nd l[i]).left ∧ (nd l[i]).left < l.length ∧ (i : Int) < (nd l[i]).right ∧ (nd l[i]).right < l.length
  once : ∀ j : Nat, 1 ≤ j → j < l.length → l.countP (fun w => names (nd w) j) = 1
structure NT (l : List Node) (dim : Int) : Prop where
  ok : ∀ n ∈ l, rightNode n = true
  pos : 1 ≤ l.length
  le : l.length ≤ 31
  inner : ∀ (i : Nat) (h : i < l.length), l[i].leaf = false → l[i].feature < dim ∧ l[i].left ≠ l[i].right ∧ (i : Int) < l[i].left ∧ l[i].left < l.length ∧ (i : Int) < l[i].right ∧ l[i].right < l.length
  once : ∀ j : Nat, 1 ≤ j → j < l.length → l.countP (fun n => names n j) = 1
theorem NT.words {l : List Node} {dim : Int} (h : NT l dim) : RT (l.map pack) dim := by
  have hp : ∀ (i : Nat) (hi : i < l.length), nd (pack l[i]) = l[i] := fun i hi => nd_pack _ (h.ok _ (List.getElem_mem hi))
  refine ⟨?_, by simpa using h.pos, by simpa using h.le, ?_, ?_⟩
  · intro i hi
    simp only [List.getElem_map]
    have hi2 : i < l.length := by simpa using hi
    exact ⟨pack_okW _, by rw [unpack_pack _ (h.ok _ (List.getElem_mem hi2))]⟩
  · intro i hi
    have hi2 : i < l.length := by simpa using hi
    simp only [List.getElem_map, List.length_map, hp i hi2]
    exact h.inner i hi2
  · intro j h1 h2
    rw [List.countP_map]
    rw [← h.once j h1 (by simpa using h2)]
    refine List.countP_congr fun n hn => ?_
    simp [nd_pack n (h.ok n hn)]
def leafN (v : Int) : Node := ⟨true, v, 0, 0, 0, 0⟩
structure Gr where
  nodes : List Node
  leaves : List Int
def grow0 (t : KTree) : Gr := ⟨[leafN (within (pick t.val 0) (-3000) 3000)], [0]⟩
def growK (t : KTree) (i : Nat) (s : Gr) : Nat := (within (t.part.getD i 0) 0 (s.leaves.length - 1)).toNat
def growN (t : KTree) (dim : Int) (i : Nat) (n : Int) : Node := ⟨false, 0, within (pick t.dir i) 0 (dim - 1), within (pick t.cut i) 0 9, n, n + 1⟩
def growS (t : KTree) (dim : Int) (i : Nat) (s : Gr) : Gr :=
  ⟨s.nodes.set (s.leaves.getD (growK t i s) 0).toNat (growN t dim i s.nodes.length) ++ [leafN (within (pick t.val (2 * i + 1)) (-3000) 3000), leafN (within (pick t.val (2 * i + 2)) (-3000) 3000)],
    s.leaves.take (growK t i s) ++ s.leaves.drop (growK t i s + 1) ++ [(s.nodes.length : Int), s.nodes.length + 1]⟩
def grow (t : KTree) (dim : Int) : Nat → Gr
  | 0 => grow0 t
  | i + 1 => growS t dim i (grow t dim i)
def treeNodes (t : KTree) (dim : Int) : List Word := (grow t dim (min t.part.length 7)).nodes.map pack
theorem within_le (n lo hi : Int) (h : lo ≤ hi) : lo ≤ within n lo hi ∧ within n lo hi ≤ hi := by
  unfold within
  have h1 := Int.emod_nonneg n (show hi - lo + 1 ≠ 0 by omega)
  have h2 := Int.emod_lt_of_pos n (show 0 < hi - lo + 1 by omega)
  omega
theorem right_leafN (n : Int) : rightNode (leafN (within n (-3000) 3000)) = true := by
  have := within_le n (-3000) 3000 (by omega)
  have h1 : fits (within n (-3000) 3000) = true := by
    unfold fits
    rw [Bool.and_eq_true, decide_eq_true_eq, decide_eq_true_eq]
    omega
  simp [rightNode, leafN, h1]
structure GI (dim : Int) (i : Nat) (s : Gr) : Prop where
  len : s.nodes.length = 2 * i + 1
  lvs : s.leaves.length = i + 1
  leaf : ∀ x ∈ s.leaves, 0 ≤ x ∧ ∃ h : x.toNat < s.nodes.length, (s.nodes[x.toNat]).leaf = true
  dis : s.leaves.Nodup
  ok : ∀ n ∈ s.nodes, rightNode n = true
  val : ∀ n ∈ s.nodes, -3000 ≤ n.value ∧ n.value ≤ 3000
  inner : ∀ (i : Nat) (h : i < s.nodes.length), s.nodes[i].leaf = false → s.nodes[i].feature < dim ∧ 0 ≤ s.nodes[i].cut ∧ s.nodes[i].cut ≤ 9 ∧ (i : Int) < s.nodes[i].left ∧ s.nodes[i].right = s.nodes[i].left + 1 ∧ s.nodes[i].right < s.nodes.length
  once : ∀ j : Nat, 1 ≤ j → j < s.nodes.length → s.nodes.countP (fun n => names n j) = 1
theorem gi0 (t : KTree) (dim : Int) : GI dim 0 (grow0 t) := by
  refine ⟨rfl, rfl, ?_, by simp [grow0], ?_, ?_, ?_, ?_⟩
  · intro x hx
    simp [grow0] at hx
    subst hx
    exact ⟨by omega, by simp [grow0], rfl⟩
  · intro n hn
    simp [grow0] at hn
    subst hn
    exact right_leafN _
  · intro n hn
    simp [grow0] at hn
    subst hn
    exact within_le _ _ _ (by omega)
  · intro i h hl
    simp [grow0] at h
    subst h
    simp [grow0, leafN] at hl
  · intro j h1 h2
    simp [grow0] at h2
    omega
theorem nodup_cut {l : List Int} (h : l.Nodup) (k : Nat) : (l.take k ++ l.drop (k + 1)).Nodup := by
  refine List.Nodup.sublist ?_ h
  have : l.take k ++ l.drop (k + 1) = l.eraseIdx k := (List.eraseIdx_eq_take_drop_succ l k).symm
  rw [this]
  exact List.eraseIdx_sublist l k
theorem mem_cut_ne {l : List Int} (h : l.Nodup) (k : Nat) (hk : k < l.length) {x : Int} (hx : x ∈ l.take k ++ l.drop (k + 1)) : x ∈ l ∧ x ≠ l[k] := by
  rw [← List.eraseIdx_eq_take_drop_succ] at hx
  rw [List.mem_eraseIdx_iff_getElem] at hx
  obtain ⟨j, hj, hne, rfl⟩ := hx
  refine ⟨List.getElem_mem _, fun e => ?_⟩
  rw [List.Nodup] at h
  exact hne ((List.getElem_inj (h₀ := hj) (h₁ := hk) h).1 e)
theorem gi_step (t : KTree) (dim : Int) (i : Nat) (s : Gr) (hd : 1 ≤ dim) (hd4 : dim ≤ 4) (hi : i < 7) (h : GI dim i s) : GI dim (i + 1) (growS t dim i s) := by
  obtain ⟨len, lvs, leaf, dis, ok, val, inner, once⟩ := h
  have hk := within_le (t.part.getD i 0) 0 (s.leaves.length - 1) (by omega)
  have hk2 : growK t i s < s.leaves.length := by unfold growK; omega
  unfold growS
  generalize growK t i s = k at *
  have hat : s.leaves.getD k 0 = s.leaves[k] := by simp [hk2]
  obtain ⟨h0, hl1, hl2⟩ := leaf _ (List.getElem_mem hk2)
  rw [hat]
  generalize ha : s.leaves[k].toNat = a at *
  have hw1 := within_le (pick t.dir i) 0 (dim - 1) (by omega)
  have hw2 := within_le (pick t.cut i) 0 9 (by omega)
  generalize hN : growN t dim i s.nodes.length = N at *
  have N1 : N.leaf = false := by rw [← hN]; rfl
  have N2 : N.left = s.nodes.length := by rw [← hN]; rfl
  have N3 : N.right = s.nodes.length + 1 := by rw [← hN]; rfl
  have N4 : 0 ≤ N.feature ∧ N.feature < dim := by rw [← hN]; unfold growN; simp only; omega
  have N5 : 0 ≤ N.cut ∧ N.cut ≤ 9 := by rw [← hN]; unfold growN; simp only; omega
  have N6 : N.value = 0 := by rw [← hN]; rfl
  have hR := right_leafN (pick t.val (2 * i + 1))
  have hR2 := right_leafN (pick t.val (2 * i + 2))
  have hv := within_le (pick t.val (2 * i + 1)) (-3000) 3000 (by omega)
  have hv2 := within_le (pick t.val (2 * i + 2)) (-3000) 3000 (by omega)
  generalize within (pick t.val (2 * i + 1)) (-3000) 3000 = v1 at *
  generalize within (pick t.val (2 * i + 2)) (-3000) 3000 = v2 at *
  have hlen : (s.nodes.set a N ++ [leafN v1, leafN v2]).length = s.nodes.length + 2 := by simp
  have hget : ∀ (j : Nat) (hj : j < (s.nodes.set a N ++ [leafN v1, leafN v2]).length), (s.nodes.set a N ++ [leafN v1, leafN v2])[j] = if j = a then N else if h : j < s.nodes.length then s.nodes[j] else if j = s.nodes.length then leafN v1 else leafN v2 := by
    intro j hj
    rw [List.getElem_append]
    by_cases h1 : j < s.nodes.length
    · simp only [List.length_set, h1, dif_pos, List.getElem_set]
      by_cases h2 : j = a
      · simp [h2]
      · have : ¬ a = j := fun e => h2 e.symm
        simp [h2, this]
    · have h2 : ¬ j = a := by omega
      simp only [List.length_set, h1, dif_neg, not_false_iff, h2, if_false]
      have : j = s.nodes.length ∨ j = s.nodes.length + 1 := by simp at hj; omega
      rcases this with rfl | rfl
      · simp
      · simp
  have hmem : ∀ n ∈ s.nodes.set a N ++ [leafN v1, leafN v2], n = N ∨ n ∈ s.nodes ∨ n = leafN v1 ∨ n = leafN v2 := by
    intro n hn
    rw [List.mem_append] at hn
    rcases hn with hn | hn
    · rcases List.mem_or_eq_of_mem_set hn with h1 | h1
      · exact Or.inr (Or.inl h1)
      · exact Or.inl h1
    · simp at hn
      rcases hn with h1 | h1
      · exact Or.inr (Or.inr (Or.inl h1))
      · exact Or.inr (Or.inr (Or.inr h1))
  refine ⟨by simp only [hlen]; omega, ?_, ?_, ?_, ?_, ?_, ?_, ?_⟩
  · simp
    omega
  · intro x hx
    rw [List.mem_append] at hx
    rcases hx with hx | hx
    · obtain ⟨hx1, hx2⟩ := mem_cut_ne dis k hk2 hx
      obtain ⟨hx0, hx3, hx4⟩ := leaf x hx1
      have hne : ¬ x.toNat = a := by
        intro e
        apply hx2
        omega
      refine ⟨hx0, by rw [hlen]; omega, ?_⟩
      rw [hget, if_neg hne, dif_pos hx3]
      exact hx4
    · simp at hx
      rcases hx with rfl | rfl
      · refine ⟨by omega, by rw [hlen]; omega, ?_⟩
        rw [hget, if_neg (by omega), dif_neg (by omega)]
        simp [leafN]
      · refine ⟨by omega, by rw [hlen]; omega, ?_⟩
        rw [hget, if_neg (by omega), dif_neg (by omega)]
        split <;> rfl
  · rw [List.nodup_append]
    refine ⟨nodup_cut dis k, ?_, ?_⟩
    · simp
      omega
    · intro x hx y hy e
      subst e
      obtain ⟨hx1, hx2⟩ := mem_cut_ne dis k hk2 hx
      obtain ⟨hx0, hx3, hx4⟩ := leaf x hx1
      simp at hy
      omega
  · intro n hn
    rcases hmem n hn with rfl | h1 | rfl | rfl
    · simp [rightNode, N1, N2, N3, N6, fits]
      omega
    · exact ok n h1
    · exact hR
    · exact hR2
  · intro n hn
    rcases hmem n hn with rfl | h1 | rfl | rfl
    · omega
    · exact val n h1
    · exact hv
    · exact hv2
  · intro j hj
    simp only [hlen]
    rw [hget j hj]
    intro hl
    split at hl
    · rename_i e
      subst e
      simp only [if_true]
      omega
    · rename_i e
      rw [if_neg e]
      split at hl
      · rename_i hj2
        rw [dif_pos hj2]
        have := inner j hj2 hl
        omega
      · split at hl <;> cases hl
  · intro j h1 h2
    rw [hlen] at h2
    rw [List.countP_append, List.countP_set hl1]
    have e1 : names s.nodes[a] j = false := by simp [names, hl2]
    have e2 : names (leafN v1) j = false := by simp [names, leafN]
    have e3 : names (leafN v2) j = false := by simp [names, leafN]
    simp only [e1, List.countP_cons, e2, e3, List.countP_nil, Bool.false_eq_true, if_false]
    by_cases hj : j < s.nodes.length
    · have e4 : names N j = false := by simp [names, N1, N2, N3]; omega
      simp [e4, once j h1 hj]
    · have e4 : names N j = true := by simp [names, N1, N2, N3]; omega
      have e5 : s.nodes.countP (fun n => names n j) = 0 := by
        rw [List.countP_eq_zero]
        intro n hn
        obtain ⟨m, hm, rfl⟩ := List.getElem_of_mem hn
        intro hc
        simp [names] at hc
        have := inner m hm hc.1
        omega
      simp [e4, e5]
theorem gi (t : KTree) (dim : Int) (hd : 1 ≤ dim) (hd4 : dim ≤ 4) : ∀ i, i ≤ 7 → GI dim i (grow t dim i)
  | 0, _ => gi0 t dim
  | i + 1, h => gi_step t dim i _ hd hd4 (by omega) (gi t dim hd hd4 i (by omega))
theorem GI.nt {dim : Int} {i : Nat} {s : Gr} (hi : i ≤ 7) (h : GI dim i s) : NT s.nodes dim := by
  refine ⟨h.ok, by have := h.len; omega, by have := h.len; omega, ?_, h.once⟩
  intro j hj hl
  have := h.inner j hj hl
  omega
theorem rt_treeNodes (t : KTree) (dim : Int) (hd : 1 ≤ dim) (hd4 : dim ≤ 4) : RT (treeNodes t dim) dim :=
  ((gi t dim hd hd4 _ (Nat.min_le_right _ _)).nt (Nat.min_le_right _ _)).words
end Go.Co
/- CO: right models, right queries; what numbers make is right. -/
namespace Go.Co
def Bias.get (b : Bias) (c : Int) : Int := if c = 0 then b.b0 else if c = 1 then b.b1 else b.b2
structure RM (m : Model) : Prop where
  dim : 1 ≤ m.dim ∧ m.dim ≤ 4
  classes : 1 ≤ m.classes ∧ m.classes ≤ 3
  bias : fits m.bias.b0 = true ∧ fits m.bias.b1 = true ∧ fits m.bias.b2 = true
  none1 : m.classes ≤ 1 → m.bias.b1 = 0
  none2 : m.classes ≤ 2 → m.bias.b2 = 0
  trees : m.trees.length ≤ 8
  tree : ∀ t ∈ m.trees, 0 ≤ t.cls ∧ t.cls < m.classes ∧ RT t.nodes m.dim
def mDim (f : Forest) : Int := within f.dim 1 3
def mClasses (f : Forest) : Int := within f.classes 1 3
def mBias (f : Forest) (c : Nat) : Int := if (c : Int) < mClasses f then within (pick f.bias c) (-500) 500 else 0
def mTree (f : Forest) (t : KTree) : Tree := ⟨within t.cls 0 (mClasses f - 1), treeNodes t (mDim f)⟩
def modelOf (f : Forest) : Model := ⟨mDim f, mClasses f, ⟨mBias f 0, mBias f 1, mBias f 2⟩, (f.trees.take 4).map (mTree f)⟩
theorem mDim_le (f : Forest) : 1 ≤ mDim f ∧ mDim f ≤ 3 := within_le _ _ _ (by omega)
theorem mClasses_le (f : Forest) : 1 ≤ mClasses f ∧ mClasses f ≤ 3 := within_le _ _ _ (by omega)
theorem mBias_le (f : Forest) (c : Nat) : -500 ≤ mBias f c ∧ mBias f c ≤ 500 := by
  unfold mBias
  split
  · exact within_le _ _ _ (by omega)
  · omega
theorem fits_of {n : Int} (h : -2147483648 ≤ n ∧ n ≤ 2147483647) : fits n = true := by
  unfold fits
  rw [Bool.and_eq_true, decide_eq_true_eq, decide_eq_true_eq]
  exact h
theorem of_fits {n : Int} (h : fits n = true) : -2147483648 ≤ n ∧ n ≤ 2147483647 := by
  unfold fits at h
  rw [Bool.and_eq_true, decide_eq_true_eq, decide_eq_true_eq] at h
  exact h
theorem rm_modelOf (f : Forest) : RM (modelOf f) := by
  have hd := mDim_le f
  have hc := mClasses_le f
  have hb : ∀ c, fits (mBias f c) = true := fun c => fits_of (by have := mBias_le f c; omega)
  refine ⟨⟨hd.1, show mDim f ≤ 4 by omega⟩, hc, ⟨hb 0, hb 1, hb 2⟩, ?_, ?_, ?_, ?_⟩
  · intro h
    show mBias f 1 = 0
    have h : mClasses f ≤ 1 := h
    unfold mBias
    rw [if_neg (by omega)]
  · intro h
    show mBias f 2 = 0
    have h : mClasses f ≤ 2 := h
    unfold mBias
    rw [if_neg (by omega)]
  · simp [modelOf]
    omega
  · intro t ht
    simp only [modelOf, List.mem_map] at ht
    obtain ⟨k, hk, rfl⟩ := ht
    have := within_le k.cls 0 (mClasses f - 1) (by omega)
    refine ⟨this.1, ?_, rt_treeNodes k (mDim f) hd.1 (by omega)⟩
    show within k.cls 0 (mClasses f - 1) < mClasses f
    omega
def rSpan (dim : Int) (l : List Int) (i : Nat) : Span :=
  if (i : Int) < dim then ⟨within (pick l (2 * i)) (-2) 9, within (pick l (2 * i)) (-2) 9 + within (pick l (2 * i + 1)) 0 11⟩ else ⟨0, 0⟩
def regionOf (dim : Int) (l : List Int) : Box := ⟨rSpan dim l 0, rSpan dim l 1, rSpan dim l 2, rSpan dim l 3, ⟨0, 0⟩⟩
theorem rSpan_le (dim : Int) (l : List Int) (i : Nat) : -2 ≤ (rSpan dim l i).lo ∧ (rSpan dim l i).lo ≤ (rSpan dim l i).hi ∧ (rSpan dim l i).hi ≤ 20 := by
  have h1 := within_le (pick l (2 * i)) (-2) 9 (by omega)
  have h2 := within_le (pick l (2 * i + 1)) 0 11 (by omega)
  unfold rSpan
  split
  · simp only
    omega
  · simp only
    omega
end Go.Co
/- CO: walks through right trees; the pieces of a tree within a box. -/
namespace Go.Co
def Point.get (p : Point) (i : Int) : Int := if i = 0 then p.p0 else if i = 1 then p.p1 else if i = 2 then p.p2 else p.p3
def Point.set (p : Point) (i n : Int) : Point := if i = 0 then { p with p0 := n } else if i = 1 then { p with p1 := n } else if i = 2 then { p with p2 := n } else { p with p3 := n }
def ndAt (l : List Word) (i : Nat) : Node := nd (l.getD i default)
theorem ndAt_lt {l : List Word} {i : Nat} (h : i < l.length) : ndAt l i = nd l[i] := by unfold ndAt; simp [h]
def nxt (n : Node) (p : Point) : Nat := if p.get n.feature ≤ n.cut then n.left.toNat else n.right.toNat
def walk (l : List Word) (p : Point) : Nat → Nat → Nat
  | 0, i => i
  | f + 1, i => if (ndAt l i).leaf then i else walk l p f (nxt (ndAt l i) p)
def leafOf (l : List Word) (p : Point) : Nat := walk l p 31 0
theorem RT.at {l : List Word} {dim : Int} (h : RT l dim) {i : Nat} (hi : i < l.length) (hl : (ndAt l i).leaf = false) :
    (ndAt l i).feature < dim ∧ (ndAt l i).left ≠ (ndAt l i).right ∧ (i : Int) < (ndAt l i).left ∧ (ndAt l i).left < l.length ∧ (i : Int) < (ndAt l i).right ∧ (ndAt l i).right < l.length := by
  rw [ndAt_lt hi] at *
  exact h.inner i hi hl
theorem RT.node {l : List Word} {dim : Int} (h : RT l dim) {i : Nat} (hi : i < l.length) : rightNode (ndAt l i) = true := by
  rw [ndAt_lt hi]
  exact (unpack_true (h.ok i hi).2).1
theorem RT.feature {l : List Word} {dim : Int} (h : RT l dim) {i : Nat} (hi : i < l.length) (hl : (ndAt l i).leaf = false) : 0 ≤ (ndAt l i).feature ∧ (ndAt l i).feature < 4 := by
  have := h.node hi
  unfold rightNode at this
  rw [hl] at this
  simp only [Bool.false_eq_true, if_false, Bool.and_eq_true, decide_eq_true_eq] at this
  omega
theorem RT.value {l : List Word} {dim : Int} (h : RT l dim) {i : Nat} (hi : i < l.length) : fits (ndAt l i).value = true := by
  have := h.node hi
  unfold rightNode at this
  cases hl : (ndAt l i).leaf
  · rw [hl] at this
    simp only [Bool.false_eq_true, if_false, Bool.and_eq_true, decide_eq_true_eq] at this
    rw [this.1.1.1.1.1.1.1]
    rfl
  · rw [hl] at this
    simp only [if_true, Bool.and_eq_true, decide_eq_true_eq] at this
    exact this.1.1.1.1
theorem RT.cutOk {l : List Word} {dim : Int} (h : RT l dim) {i : Nat} (hi : i < l.length) : fits (ndAt l i).cut = true := by
  have := h.node hi
  unfold rightNode at this
  cases hl : (ndAt l i).leaf
  · rw [hl] at this
    simp only [Bool.false_eq_true, if_false, Bool.and_eq_true, decide_eq_true_eq] at this
    exact this.1.1.1.1.2
  · rw [hl] at this
    simp only [if_true, Bool.and_eq_true, decide_eq_true_eq] at this
    rw [this.1.1.2]
    rfl
theorem nxt_lt {l : List Word} {dim : Int} (h : RT l dim) {i : Nat} (hi : i < l.length) (hl : (ndAt l i).leaf = false) (p : Point) : i < nxt (ndAt l i) p ∧ nxt (ndAt l i) p < l.length := by
  have := h.at hi hl
  unfold nxt
  split <;> omega
inductive Reach (l : List Word) (p : Point) : Nat → Prop
  | root : Reach l p 0
  | step {i : Nat} : Reach l p i → (ndAt l i).leaf = false → Reach l p (nxt (ndAt l i) p)
theorem Reach.lt {l : List Word} {dim : Int} (h : RT l dim) {p : Point} {j : Nat} (hr : Reach l p j) : j < l.length := by
  induction hr with
  | root => have := h.pos; omega
  | step hr hl ih => exact (nxt_lt h ih hl p).2
theorem Reach.walk {l : List Word} {dim : Int} (h : RT l dim) {p : Point} {j : Nat} (hr : Reach l p j) : ∃ f, 31 ≤ f + j ∧ leafOf l p = walk l p f j := by
  induction hr with
  | root => exact ⟨31, by omega, rfl⟩
  | @step i hr hl ih =>
    obtain ⟨f, hf, hw⟩ := ih
    have hi := hr.lt h
    have hle := h.le
    cases f with
    | zero => omega
    | succ f =>
      refine ⟨f, ?_, ?_⟩
      · have := (nxt_lt h hi hl p).1
        omega
      · rw [hw, Co.walk, hl]
        rfl
theorem Reach.leaf {l : List Word} {dim : Int} (h : RT l dim) {p : Point} {j : Nat} (hr : Reach l p j) (hl : (ndAt l j).leaf = true) : leafOf l p = j := by
  obtain ⟨f, hf, hw⟩ := hr.walk h
  rw [hw]
  cases f with
  | zero => rfl
  | succ f => rw [Co.walk, hl]; rfl
theorem countP_one {α : Type} (f : α → Bool) : ∀ (l : List α) (i k : Nat) (hi : i < l.length) (hk : k < l.length), f l[i] = true → f l[k] = true → l.countP f = 1 → i = k
  | [], i, _, hi, _, _, _, _ => by simp at hi
  | a :: l, i, k, hi, hk, h1, h2, h => by
    rw [List.countP_cons] at h
    by_cases ha : f a = true
    · have h0 : l.countP f = 0 := by simp [ha] at h; simpa using h
      rw [List.countP_eq_zero] at h0
      cases i with
      | zero => cases k with
        | zero => rfl
        | succ k => exact (h0 _ (List.getElem_mem _) h2).elim
      | succ i => exact (h0 _ (List.getElem_mem _) h1).elim
    · cases i with
      | zero => exact (ha h1).elim
      | succ i => cases k with
        | zero => exact (ha h2).elim
        | succ k =>
          have : l.countP f = 1 := by simp [ha] at h; exact h
          rw [countP_one f l i k (by simpa using hi) (by simpa using hk) h1 h2 this]
theorem RT.unique {l : List Word} {dim : Int} (h : RT l dim) {i k j : Nat} (hi : i < l.length) (hk : k < l.length) (hj : 1 ≤ j) (hj2 : j < l.length) (h1 : names (ndAt l i) j = true) (h2 : names (ndAt l k) j = true) : i = k := by
  rw [ndAt_lt hi] at h1
  rw [ndAt_lt hk] at h2
  exact countP_one (fun w => names (nd w) j) l i k hi hk h1 h2 (h.once j hj hj2)
theorem RT.parent {l : List Word} {dim : Int} (h : RT l dim) {j : Nat} (hj : 1 ≤ j) (hj2 : j < l.length) : ∃ i, i < j ∧ (ndAt l i).leaf = false ∧ ((ndAt l i).left = j ∨ (ndAt l i).right = j) := by
  have h1 := h.once j hj hj2
  have h2 : 0 < l.countP (fun w => names (nd w) j) := by omega
  rw [List.countP_pos_iff] at h2
  obtain ⟨w, hw, hn⟩ := h2
  obtain ⟨i, hi, rfl⟩ := List.getElem_of_mem hw
  rw [← ndAt_lt hi] at hn
  unfold names at hn
  simp only [Bool.and_eq_true, Bool.not_eq_true', Bool.or_eq_true, decide_eq_true_eq] at hn
  have := h.at hi hn.1
  exact ⟨i, by omega, hn.1, hn.2⟩
def up (f : Nat → Box) (i : Nat) (b : Box) : Nat → Box := fun j => if j = i then b else f j
def zeroB : Box := ⟨⟨0, 0⟩, ⟨0, 0⟩, ⟨0, 0⟩, ⟨0, 0⟩, ⟨0, 0⟩⟩
def ownF (l : List Word) (b : Box) : Nat → Nat → Box
  | 0 => up (fun _ => zeroB) 0 b
  | i + 1 => if (ndAt l i).leaf then ownF l b i else
      up (up (ownF l b i) (ndAt l i).left.toNat (cutB (ownF l b i i) (ndAt l i).feature (ndAt l i).cut).1) (ndAt l i).right.toNat (cutB (ownF l b i i) (ndAt l i).feature (ndAt l i).cut).2
def own (l : List Word) (b : Box) (j : Nat) : Box := ownF l b j j
def pieceAt (l : List Word) (b : Box) (i : Nat) : Option Piece := if (ndAt l i).leaf && !(own l b i).empty then some ⟨own l b i, (ndAt l i).value⟩ else none
def pieces (l : List Word) (b : Box) : List Piece := (List.range l.length).filterMap (pieceAt l b)
end Go.Co
/- CO: sums, bounds. -/
namespace Go.Co
theorem RM.rt {m : Model} (h : RM m) {t : Tree} (ht : t ∈ m.trees) : RT t.nodes m.dim := (h.tree t ht).2.2
def endF (a : Int × Int) (x : Piece) : Int × Int := (min2 a.1 x.value, max2 a.2 x.value)
def ends (ps : List Piece) : Tri Int Int Bool := match ps with
  | [] => ⟨0, 0, false⟩
  | x :: _ => ⟨(ps.foldl endF (x.value, x.value)).1, (ps.foldl endF (x.value, x.value)).2, true⟩
def Span.has (s : Span) (n : Int) : Bool := decide (s.lo ≤ n) && decide (n ≤ s.hi)
end Go.Co
/- CO: trees of words. -/
namespace Go.Co
open Go.Am Go.Proofs
set_option linter.unusedSimpArgs false
set_option linter.unusedVariables false
def c19_0 : ACode := .ops [⟨some 4, .mv (.c (.bool false)), none, []⟩] [0, 1]
theorem r19_0 : type_of% (@rr _ _ c19_0.eq_1) := rr rfl
def c19_1 : ACode := .ops [⟨some 12, .mv (.t 0), none, []⟩,⟨some 13, .len (.t 12), none, []⟩,⟨some 14, .bin .lss (.t 13) (.c (.int .i64 1)), none, []⟩,⟨some 15, .mv (.t 14), none, []⟩,⟨some 16, .mv (.t 0), some (15, false), []⟩,⟨some 17, .len (.t 16), some (15, false), []⟩,⟨some 18, .bin .gtr (.t 17) (.c (.int .i64 31)), some (15, false), []⟩,⟨some 19, .pick (.t 15) (.c (.bool true)) (.t 18), none, []⟩] [0, 1, 19]
theorem r19_1 : type_of% (@rr _ _ c19_1.eq_1) := rr rfl
def c19_2 : ACode := .ops [⟨some 4, .mv (.c (.bool false)), none, []⟩] [4]
theorem r19_2 : type_of% (@rr _ _ c19_2.eq_1) := rr rfl
def c19_3 : ACode := .seq c19_2 .ret
theorem r19_3 : type_of% (@rr _ _ c19_3.eq_1) := rr rfl
def c19_4 : ACode := .cond (.t 19) c19_3 .skip
theorem r19_4 : type_of% (@rr _ _ c19_4.eq_1) := rr rfl
def c19_5 : ACode := .seq c19_1 c19_4
theorem r19_5 : type_of% (@rr _ _ c19_5.eq_1) := rr rfl
def c19_6 : ACode := .ops [⟨some 20, .mv (.t 0), none, []⟩,⟨some 21, .len (.t 20), none, []⟩,⟨some 22, .mks 5 (.t 21) 1 [.int .i64 0], none, []⟩,⟨some 5, .mv (.t 22), none, []⟩] [0, 1, 5]
theorem r19_6 : type_of% (@rr _ _ c19_6.eq_1) := rr rfl
def c19_7 : ACode := .ops [⟨some 23, .mv (.t 0), none, []⟩,⟨some 24, .len (.t 23), none, []⟩,⟨some 25, .mv (.c (.int .i64 0)), none, []⟩] [0, 1, 5, 23, 24, 25]
theorem r19_7 : type_of% (@rr _ _ c19_7.eq_1) := rr rfl
def c19_8 : ACode := .ops [⟨some 26, .bin .lss (.t 25) (.t 24), none, []⟩] [0, 1, 5, 23, 24, 25, 26]
theorem r19_8 : type_of% (@rr _ _ c19_8.eq_1) := rr rfl
def c19_9 : ACode := .cond (.t 26) .skip (.exit 0)
theorem r19_9 : type_of% (@rr _ _ c19_9.eq_1) := rr rfl
def c19_10 : ACode := .ops [⟨some 27, .mv (.t 25), none, []⟩,⟨some 28, .ias (.t 23) (.t 25) 1, none, []⟩,⟨some 29, .load 1 false (.t 28), none, []⟩,⟨some 6, .mv (.t 27), none, []⟩,⟨some 7, .mv (.t 29), none, []⟩] [0, 1, 5, 6, 7, 23, 24, 25]
theorem r19_10 : type_of% (@rr _ _ c19_10.eq_1) := rr rfl
def c19_11 : ACode := .ops [⟨some 31, .mv (.t 7), none, []⟩,⟨some 32, .call 20 [.t 31], none, []⟩,⟨some 30, .mv (.t 32), none, []⟩,⟨some 33, .ext (.t 30) 0, none, []⟩,⟨some 34, .ext (.t 30) 1, none, []⟩,⟨some 8, .alloc [.bool false, .int .i64 0, .int .i64 0, .int .i64 0, .int .i64 0, .int .i64 0], none, []⟩,⟨none, .store (.t 8) 6 (.t 33), none, [8]⟩,⟨some 9, .mv (.t 34), none, []⟩] [0, 1, 5, 6, 8, 9, 23, 24, 25]
theorem r19_11 : type_of% (@rr _ _ c19_11.eq_1) := rr rfl
def c19_12 : ACode := .ops [⟨some 35, .mv (.t 9), none, []⟩,⟨some 36, .un .not (.t 35), none, []⟩] [0, 1, 5, 6, 8, 23, 24, 25, 36]
theorem r19_12 : type_of% (@rr _ _ c19_12.eq_1) := rr rfl
def c19_13 : ACode := .ops [⟨some 4, .mv (.c (.bool false)), none, []⟩] [4]
theorem r19_13 : type_of% (@rr _ _ c19_13.eq_1) := rr rfl
def c19_14 : ACode := .seq c19_13 .ret
theorem r19_14 : type_of% (@rr _ _ c19_14.eq_1) := rr rfl
def c19_15 : ACode := .cond (.t 36) c19_14 .skip
theorem r19_15 : type_of% (@rr _ _ c19_15.eq_1) := rr rfl
def c19_16 : ACode := .seq c19_12 c19_15
theorem r19_16 : type_of% (@rr _ _ c19_16.eq_1) := rr rfl
def c19_17 : ACode := .ops [⟨some 37, .fad (.t 8) 0, none, [8]⟩,⟨some 38, .load 1 false (.t 37), none, [8]⟩] [0, 1, 5, 6, 8, 23, 24, 25, 38]
theorem r19_17 : type_of% (@rr _ _ c19_17.eq_1) := rr rfl
def c19_18 : ACode := .cond (.t 38) (.exit 1) .skip
theorem r19_18 : type_of% (@rr _ _ c19_18.eq_1) := rr rfl
def c19_19 : ACode := .seq c19_17 c19_18
theorem r19_19 : type_of% (@rr _ _ c19_19.eq_1) := rr rfl
def c19_20 : ACode := .ops [⟨some 39, .fad (.t 8) 2, none, [8]⟩,⟨some 40, .load 1 false (.t 39), none, [8]⟩,⟨some 41, .mv (.t 1), none, []⟩,⟨some 42, .bin .geq (.t 40) (.t 41), none, []⟩,⟨some 43, .mv (.t 42), none, []⟩,⟨some 44, .fad (.t 8) 4, some (43, false), [8]⟩,⟨some 45, .load 1 false (.t 44), some (43, false), [8]⟩,⟨some 46, .fad (.t 8) 5, some (43, false), [8]⟩,⟨some 47, .load 1 false (.t 46), some (43, false), [8]⟩,⟨some 48, .bin .eql (.t 45) (.t 47), some (43, false), []⟩,⟨some 49, .pick (.t 43) (.c (.bool true)) (.t 48), none, []⟩,⟨some 50, .mv (.t 49), none, []⟩,⟨some 51, .fad (.t 8) 4, some (50, false), [8]⟩,⟨some 52, .load 1 false (.t 51), some (50, false), [8]⟩,⟨some 53, .fad (.t 8) 5, some (50, false), [8]⟩,⟨some 54, .load 1 false (.t 53), some (50, false), [8]⟩,⟨some 55, .mnmx false (.t 52) (.t 54), some (50, false), []⟩,⟨some 56, .mv (.t 6), some (50, false), []⟩,⟨some 57, .bin .leq (.t 55) (.t 56), some (50, false), []⟩,⟨some 58, .pick (.t 50) (.c (.bool true)) (.t 57), none, []⟩,⟨some 59, .mv (.t 58), none, []⟩,⟨some 60, .fad (.t 8) 4, some (59, false), [8]⟩,⟨some 61, .load 1 false (.t 60), some (59, false), [8]⟩,⟨some 62, .fad (.t 8) 5, some (59, false), [8]⟩,⟨some 63, .load 1 false (.t 62), some (59, false), [8]⟩,⟨some 64, .mnmx true (.t 61) (.t 63), some (59, false), []⟩,⟨some 65, .mv (.t 0), some (59, false), []⟩,⟨some 66, .len (.t 65), some (59, false), []⟩,⟨some 67, .bin .geq (.t 64) (.t 66), some (59, false), []⟩,⟨some 68, .pick (.t 59) (.c (.bool true)) (.t 67), none, []⟩] [0, 1, 5, 8, 23, 24, 25, 68]
theorem r19_20 : type_of% (@rr _ _ c19_20.eq_1) := rr rfl
def c19_21 : ACode := .ops [⟨some 4, .mv (.c (.bool false)), none, []⟩] [4]
theorem r19_21 : type_of% (@rr _ _ c19_21.eq_1) := rr rfl
def c19_22 : ACode := .seq c19_21 .ret
theorem r19_22 : type_of% (@rr _ _ c19_22.eq_1) := rr rfl
def c19_23 : ACode := .cond (.t 68) c19_22 .skip
theorem r19_23 : type_of% (@rr _ _ c19_23.eq_1) := rr rfl
def c19_24 : ACode := .seq c19_20 c19_23
theorem r19_24 : type_of% (@rr _ _ c19_24.eq_1) := rr rfl
def c19_25 : ACode := .ops [⟨some 69, .mv (.t 5), none, []⟩,⟨some 70, .fad (.t 8) 4, none, [8]⟩,⟨some 71, .load 1 false (.t 70), none, [8]⟩,⟨some 72, .ias (.t 69) (.t 71) 1, none, [5]⟩,⟨some 73, .load 1 false (.t 72), none, [5]⟩,⟨some 74, .bin .add (.t 73) (.c (.int .i64 1)), none, []⟩,⟨some 75, .ias (.t 69) (.t 71) 1, none, [5]⟩,⟨none, .store (.t 75) 1 (.t 74), none, [5]⟩] [0, 1, 5, 8, 23, 24, 25]
theorem r19_25 : type_of% (@rr _ _ c19_25.eq_1) := rr rfl
def c19_26 : ACode := .ops [⟨some 76, .mv (.t 5), none, []⟩,⟨some 77, .fad (.t 8) 5, none, [8]⟩,⟨some 78, .load 1 false (.t 77), none, [8]⟩,⟨some 79, .ias (.t 76) (.t 78) 1, none, [5]⟩,⟨some 80, .load 1 false (.t 79), none, [5]⟩,⟨some 81, .bin .add (.t 80) (.c (.int .i64 1)), none, []⟩,⟨some 82, .ias (.t 76) (.t 78) 1, none, [5]⟩,⟨none, .store (.t 82) 1 (.t 81), none, [5]⟩] [0, 1, 5, 23, 24, 25]
theorem r19_26 : type_of% (@rr _ _ c19_26.eq_1) := rr rfl
def c19_27 : ACode := .seq c19_25 c19_26
theorem r19_27 : type_of% (@rr _ _ c19_27.eq_1) := rr rfl
def c19_28 : ACode := .seq c19_24 c19_27
theorem r19_28 : type_of% (@rr _ _ c19_28.eq_1) := rr rfl
def c19_29 : ACode := .seq c19_19 c19_28
theorem r19_29 : type_of% (@rr _ _ c19_29.eq_1) := rr rfl
def c19_30 : ACode := .seq c19_16 c19_29
theorem r19_30 : type_of% (@rr _ _ c19_30.eq_1) := rr rfl
def c19_31 : ACode := .seq c19_11 c19_30
theorem r19_31 : type_of% (@rr _ _ c19_31.eq_1) := rr rfl
def c19_32 : ACode := .seq c19_10 c19_31
theorem r19_32 : type_of% (@rr _ _ c19_32.eq_1) := rr rfl
def c19_33 : ACode := .block 1 c19_32
theorem r19_33 : type_of% (@rr _ _ c19_33.eq_1) := rr rfl
def c19_34 : ACode := .ops [⟨some 83, .bin .add (.t 25) (.c (.int .i64 1)), none, []⟩,⟨some 25, .mv (.t 83), none, []⟩] [0, 1, 5, 23, 24, 25]
theorem r19_34 : type_of% (@rr _ _ c19_34.eq_1) := rr rfl
def c19_35 : ACode := .seq c19_33 c19_34
theorem r19_35 : type_of% (@rr _ _ c19_35.eq_1) := rr rfl
def c19_36 : ACode := .seq c19_9 c19_35
theorem r19_36 : type_of% (@rr _ _ c19_36.eq_1) := rr rfl
def c19_37 : ACode := .seq c19_8 c19_36
theorem r19_37 : type_of% (@rr _ _ c19_37.eq_1) := rr rfl
def c19_38 : ACode := .keep [0, 1, 5, 23, 24, 25] [5] c19_37
theorem r19_38 : type_of% (@rr _ _ c19_38.eq_1) := rr rfl
def c19_39 : ACode := .loop c19_38
theorem r19_39 : type_of% (@rr _ _ c19_39.eq_1) := rr rfl
def c19_40 : ACode := .block 0 c19_39
theorem r19_40 : type_of% (@rr _ _ c19_40.eq_1) := rr rfl
def c19_41 : ACode := .seq c19_7 c19_40
theorem r19_41 : type_of% (@rr _ _ c19_41.eq_1) := rr rfl
def c19_42 : ACode := .ops [⟨some 84, .mv (.t 5), none, []⟩,⟨some 85, .sl (.t 84) (some (.c (.int .i64 1))) none 1, none, [5]⟩,⟨some 86, .len (.t 85), none, [5]⟩,⟨some 87, .mv (.c (.int .i64 0)), none, []⟩] [85, 86, 87]
theorem r19_42 : type_of% (@rr _ _ c19_42.eq_1) := rr rfl
def c19_43 : ACode := .ops [⟨some 88, .bin .lss (.t 87) (.t 86), none, []⟩] [85, 86, 87, 88]
theorem r19_43 : type_of% (@rr _ _ c19_43.eq_1) := rr rfl
def c19_44 : ACode := .cond (.t 88) .skip (.exit 2)
theorem r19_44 : type_of% (@rr _ _ c19_44.eq_1) := rr rfl
def c19_45 : ACode := .ops [⟨some 89, .ias (.t 85) (.t 87) 1, none, [5]⟩,⟨some 90, .load 1 false (.t 89), none, [5]⟩,⟨some 11, .mv (.t 90), none, []⟩] [11, 85, 86, 87]
theorem r19_45 : type_of% (@rr _ _ c19_45.eq_1) := rr rfl
def c19_46 : ACode := .ops [⟨some 91, .mv (.t 11), none, []⟩,⟨some 92, .bin .neq (.t 91) (.c (.int .i64 1)), none, []⟩] [85, 86, 87, 92]
theorem r19_46 : type_of% (@rr _ _ c19_46.eq_1) := rr rfl
def c19_47 : ACode := .ops [⟨some 4, .mv (.c (.bool false)), none, []⟩] [4]
theorem r19_47 : type_of% (@rr _ _ c19_47.eq_1) := rr rfl
def c19_48 : ACode := .seq c19_47 .ret
theorem r19_48 : type_of% (@rr _ _ c19_48.eq_1) := rr rfl
def c19_49 : ACode := .cond (.t 92) c19_48 .skip
theorem r19_49 : type_of% (@rr _ _ c19_49.eq_1) := rr rfl
def c19_50 : ACode := .seq c19_46 c19_49
theorem r19_50 : type_of% (@rr _ _ c19_50.eq_1) := rr rfl
def c19_51 : ACode := .seq c19_45 c19_50
theorem r19_51 : type_of% (@rr _ _ c19_51.eq_1) := rr rfl
def c19_52 : ACode := .block 3 c19_51
theorem r19_52 : type_of% (@rr _ _ c19_52.eq_1) := rr rfl
def c19_53 : ACode := .ops [⟨some 93, .bin .add (.t 87) (.c (.int .i64 1)), none, []⟩,⟨some 87, .mv (.t 93), none, []⟩] [85, 86, 87]
theorem r19_53 : type_of% (@rr _ _ c19_53.eq_1) := rr rfl
def c19_54 : ACode := .seq c19_52 c19_53
theorem r19_54 : type_of% (@rr _ _ c19_54.eq_1) := rr rfl
def c19_55 : ACode := .seq c19_44 c19_54
theorem r19_55 : type_of% (@rr _ _ c19_55.eq_1) := rr rfl
def c19_56 : ACode := .seq c19_43 c19_55
theorem r19_56 : type_of% (@rr _ _ c19_56.eq_1) := rr rfl
def c19_57 : ACode := .keep [85, 86, 87] [5] c19_56
theorem r19_57 : type_of% (@rr _ _ c19_57.eq_1) := rr rfl
def c19_58 : ACode := .loop c19_57
theorem r19_58 : type_of% (@rr _ _ c19_58.eq_1) := rr rfl
def c19_59 : ACode := .block 2 c19_58
theorem r19_59 : type_of% (@rr _ _ c19_59.eq_1) := rr rfl
def c19_60 : ACode := .seq c19_42 c19_59
theorem r19_60 : type_of% (@rr _ _ c19_60.eq_1) := rr rfl
def c19_61 : ACode := .ops [⟨some 4, .mv (.c (.bool true)), none, []⟩] [4]
theorem r19_61 : type_of% (@rr _ _ c19_61.eq_1) := rr rfl
def c19_62 : ACode := .seq c19_61 .ret
theorem r19_62 : type_of% (@rr _ _ c19_62.eq_1) := rr rfl
def c19_63 : ACode := .seq c19_60 c19_62
theorem r19_63 : type_of% (@rr _ _ c19_63.eq_1) := rr rfl
def c19_64 : ACode := .seq c19_41 c19_63
theorem r19_64 : type_of% (@rr _ _ c19_64.eq_1) := rr rfl
def c19_65 : ACode := .seq c19_6 c19_64
theorem r19_65 : type_of% (@rr _ _ c19_65.eq_1) := rr rfl
def c19_66 : ACode := .seq c19_5 c19_65
theorem r19_66 : type_of% (@rr _ _ c19_66.eq_1) := rr rfl
def c19_67 : ACode := .seq c19_0 c19_66
theorem r19_67 : type_of% (@rr _ _ c19_67.eq_1) := rr rfl
def a19 : AFun := ⟨2, 94, c19_67, [.t 4]⟩
attribute [simp] r19_0 r19_1 r19_2 r19_3 r19_4 r19_5 r19_6 r19_7 r19_8 r19_9 r19_10 r19_11 r19_12 r19_13 r19_14 r19_15 r19_16 r19_17 r19_18 r19_19 r19_20 r19_21 r19_22 r19_23 r19_24 r19_25 r19_26 r19_27 r19_28 r19_29 r19_30 r19_31 r19_32 r19_33 r19_34 r19_35 r19_36 r19_37 r19_38 r19_39 r19_40 r19_41 r19_42 r19_43 r19_44 r19_45 r19_46 r19_47 r19_48 r19_49 r19_50 r19_51 r19_52 r19_53 r19_54 r19_55 r19_56 r19_57 r19_58 r19_59 r19_60 r19_61 r19_62 r19_63 r19_64 r19_65 r19_66 r19_67
theorem m19 : mFun Try.prog Try.f19 a19 = true := by decide +kernel
noncomputable def TreeRight (l : List Word) (dim : Int) : Option Bool := Part (RT l dim) true
def cnt (l : List Word) (i j : Nat) : Int := ((l.take i).countP (fun w => names (nd w) j) : Nat)
def cnts (l : List Word) (i : Nat) : List Int := (List.range l.length).map (cnt l i)
theorem cnts_len (l : List Word) (i : Nat) : (cnts l i).length = l.length := by simp [cnts]
theorem cnts_get (l : List Word) (i j : Nat) (h : j < (cnts l i).length) : (cnts l i)[j] = cnt l i j := by simp [cnts]
theorem cnt_succ {l : List Word} {i : Nat} (h : i < l.length) (j : Nat) : cnt l (i + 1) j = cnt l i j + (if names (ndAt l i) j then 1 else 0) := by
  unfold cnt
  rw [List.take_succ_eq_append_getElem h, List.countP_append, ndAt_lt h]
  simp only [List.countP_cons, List.countP_nil]
  split <;> simp
theorem cnt_le (l : List Word) (i j : Nat) : 0 ≤ cnt l i j ∧ cnt l i j ≤ l.length := by
  unfold cnt
  have := List.countP_le_length (p := fun w => names (nd w) j) (l := l.take i)
  simp at this
  omega
theorem cnts_zero (l : List Word) : cnts l 0 = List.replicate l.length 0 := by
  apply List.ext_getElem
  · simp [cnts]
  · intro j h1 h2
    rw [cnts_get]
    simp [cnt]
theorem cnts_leaf {l : List Word} {i : Nat} (h : i < l.length) (hl : (ndAt l i).leaf = true) : cnts l (i + 1) = cnts l i := by
  apply List.ext_getElem
  · simp [cnts]
  · intro j h1 h2
    rw [cnts_get, cnts_get, cnt_succ h]
    simp [names, hl]
theorem cnts_inner {l : List Word} {dim : Int} (hr : RT l dim) {i : Nat} (h : i < l.length) (hl : (ndAt l i).leaf = false) :
    cnts l (i + 1) = ((cnts l i).set (ndAt l i).left.toNat (cnt l i (ndAt l i).left.toNat + 1)).set (ndAt l i).right.toNat (cnt l i (ndAt l i).right.toNat + 1) := by
  have ha := hr.at h hl
  apply List.ext_getElem
  · simp [cnts]
  · intro j h1 h2
    rw [cnts_get, cnt_succ h, List.getElem_set, List.getElem_set]
    simp only [cnts_get, names, hl, Bool.not_false, Bool.true_and, Bool.or_eq_true, decide_eq_true_eq]
    by_cases e1 : (ndAt l i).right.toNat = j
    · rw [if_pos e1, if_pos (by omega), e1]
    · rw [if_neg e1]
      by_cases e2 : (ndAt l i).left.toNat = j
      · rw [if_pos e2, if_pos (by omega), e2]
      · rw [if_neg e2, if_neg (by omega)]
        omega
theorem unpack_at {l : List Word} {dim : Int} (h : RT l dim) {i : Nat} (hi : i < l.length) : Unpack ⟨l[i].v⟩ = some (ndAt l i, true) := by
  have := h.ok i hi
  unfold Unpack
  have h1 : 0 ≤ (⟨l[i].v⟩ : Word).v ∧ (⟨l[i].v⟩ : Word).v < 18446744073709551616 := this.1
  rw [if_pos h1]
  have e : (⟨l[i].v⟩ : Word) = l[i] := rfl
  rw [e]
  congr 1
  rw [ndAt_lt hi]
  exact Prod.ext rfl this.2
theorem runs_tRight (l : List Word) (dim : Int) (c : Bool) (h : TreeRight l dim = some c) : Runs (tbl [(20, sp1 Unpack)]) a19 [Arg.enc l, Arg.enc dim] (Arg.enc c) := by
  obtain ⟨hr, rfl⟩ := part_some h
  refine ⟨rfl, fun g => run_def ?_⟩
  unfold a19
  have hp := hr.pos
  have hle := hr.le
  have b1 : ¬ (l.length : Int) < 1 := by omega
  have b2 : ¬ (l.length : Int) > 31 := by omega
  have b3 : l.length ≤ maxN := by unfold maxN; omega
  have b4 : (l.length : Int) ≤ 1099511627776 := by omega
  simp -implicitDefEqProofs [b1, b2, b3, b4, rep_ints]
  rw [rep_cells]
  refine run_while (c := c19_37) (fun m s => ∃ (i : Nat) (g : Nat → Nat), i + m = l.length ∧ s = ⟨[(0, .lst l.length (encL l)), (1, .int .i64 dim), (5, .own 5 (g 5) 0 l.length), (23, .lst l.length (encL l)), (24, .int .i64 l.length), (25, .int .i64 i)], [(5, ⟨encL (cnts l i), false, 1⟩)], g⟩) l.length ⟨0, bump 5 g, by omega, by simp [cnts_zero]⟩ ?_
  rintro m s ⟨i, g, hi, rfl⟩
  by_cases h1 : i < l.length
  case pos =>
    have hU := unpack_at hr h1
    have w1 : IntKind.i64.wrap ((i : Int) + 1) = (i : Int) + 1 := wrap64 (by omega) (by omega)
    cases hl : (ndAt l i).leaf
    case true =>
      simp -implicitDefEqProofs [h1, rd_words, hU, hl, w1]
      exact ⟨m - 1, by omega, i + 1, by omega, by omega, by rw [cnts_leaf h1 hl]⟩
    case false =>
      have ha := hr.at h1 hl
      have e1 : ¬ dim ≤ (ndAt l i).feature := by omega
      have e2 : ¬ (ndAt l i).left = (ndAt l i).right := ha.2.1
      have e3 : ¬ (if (ndAt l i).right < (ndAt l i).left then (ndAt l i).right else (ndAt l i).left) ≤ (i : Int) := by split <;> omega
      have e4 : ¬ (l.length : Int) ≤ (if (ndAt l i).left < (ndAt l i).right then (ndAt l i).right else (ndAt l i).left) := by split <;> omega
      have e5 : ¬ (ndAt l i).left.toNat = (ndAt l i).right.toNat := by omega
      have f1 : 0 ≤ (ndAt l i).left := by omega
      have f2 : (ndAt l i).left < l.length := by omega
      have f3 : 0 ≤ (ndAt l i).right := by omega
      have f4 : (ndAt l i).right < l.length := by omega
      have f5 : (ndAt l i).left.toNat < l.length := by omega
      have f6 : (ndAt l i).right.toNat < l.length := by omega
      have n1 := cnt_le l i (ndAt l i).left.toNat
      have n2 := cnt_le l i (ndAt l i).right.toNat
      have w2 : IntKind.i64.wrap (cnt l i (ndAt l i).left.toNat + 1) = cnt l i (ndAt l i).left.toNat + 1 := wrap64 (by omega) (by omega)
      have w3 : IntKind.i64.wrap (cnt l i (ndAt l i).right.toNat + 1) = cnt l i (ndAt l i).right.toNat + 1 := wrap64 (by omega) (by omega)
      simp -implicitDefEqProofs [h1, rd_words, hU, hl, w1, b3, e1, e2, e3, e4, e5, f1, f2, f3, f4, f5, f6, cnts_len, cnts_get, rd_ints, wr_ints, encL_length, w2, w3]
      exact ⟨fun _ => ⟨fun _ => ⟨m - 1, by omega, i + 1, by omega, by omega, by rw [cnts_inner hr h1 hl]⟩, by omega⟩, by omega⟩
  case neg =>
    have hil : i = l.length := by omega
    subst hil
    have p1 : (1 : Int) ≤ l.length := by omega
    have p2 : l.length - 1 ≤ maxN := by omega
    simp -implicitDefEqProofs [p1, p2]
    refine run_while (c := c19_56) (fun m s => ∃ (i : Nat), i + m = l.length - 1 ∧ s = ⟨[(85, .own 5 (g 5) 1 (l.length - 1)), (86, .int .i64 (l.length - 1 : Nat)), (87, .int .i64 i)], [(5, ⟨encL (cnts l l.length), false, 1⟩)], g⟩) (l.length - 1) ⟨0, by omega, by simp⟩ ?_
    rintro m s ⟨i, hi, rfl⟩
    by_cases h1 : (i : Int) < (l.length - 1 : Nat)
    case pos =>
      have w1 : IntKind.i64.wrap ((i : Int) + 1) = (i : Int) + 1 := wrap64 (by omega) (by omega)
      have q1 : 1 + i < l.length := by omega
      have hc : cnt l l.length (1 + i) = 1 := by
        unfold cnt
        rw [List.take_length, hr.once (1 + i) (by omega) q1]
        rfl
      simp -implicitDefEqProofs [h1, rd_ints, cnts_len, cnts_get, w1, q1, hc]
      exact ⟨m - 1, by omega, i + 1, by omega, by omega⟩
    case neg =>
      simp -implicitDefEqProofs [h1]
theorem c_tRight : Contract Try.prog 19 (sp2 TreeRight) :=
  contract_of_runs mixed (tbl_cons c_Unpack tbl_nil) Try.func19 m19 (sp2_runs runs_tRight)
end Go.Co
