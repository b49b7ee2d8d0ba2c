/- CO: texts of this claim, one behind the other. -/
import Derived.Test.YtlljcfmgedmigaaCz2
import Derived.Test.YtlljcfmgedmigaaCz1
/- CO: spans and boxes. -/
namespace Go.Co
open Go.Am Go.Proofs
set_option linter.unusedSimpArgs false
set_option linter.unusedVariables false
def c117_0 : ACode := .ops [⟨some 0, .alloc [.int .i64 0, .int .i64 0], none, []⟩] [0]
theorem r117_0 : type_of% (@rr _ _ c117_0.eq_1) := rr rfl
def c117_1 : ACode := .ops [⟨some 1, .build [.int .i64 0, .int .i64 0] [(0, 1, .c (.int .i64 1))], none, []⟩,⟨none, .store (.t 0) 2 (.t 1), none, [0]⟩] [0]
theorem r117_1 : type_of% (@rr _ _ c117_1.eq_1) := rr rfl
def c117_2 : ACode := .seq c117_1 .ret
theorem r117_2 : type_of% (@rr _ _ c117_2.eq_1) := rr rfl
def c117_3 : ACode := .seq c117_0 c117_2
theorem r117_3 : type_of% (@rr _ _ c117_3.eq_1) := rr rfl
def a117 : AFun := ⟨0, 2, c117_3, [.cell 0 2 true]⟩
attribute [simp] r117_0 r117_1 r117_2 r117_3
theorem m117 : mFun Try.prog Try.f117 a117 = true := by decide +kernel
def c116_0 : ACode := .ops [⟨some 4, .alloc [.int .i64 0, .int .i64 0], none, []⟩] [0, 1, 4]
theorem r116_0 : type_of% (@rr _ _ c116_0.eq_1) := rr rfl
def c116_1 : ACode := .ops [⟨some 5, .mv (.t 0), none, []⟩,⟨some 6, .mv (.t 1), none, []⟩,⟨some 7, .bin .gtr (.t 5) (.t 6), none, []⟩] [0, 1, 4, 7]
theorem r116_1 : type_of% (@rr _ _ c116_1.eq_1) := rr rfl
def c116_2 : ACode := .ops [⟨some 8, .call 117 [], none, []⟩,⟨none, .store (.t 4) 2 (.t 8), none, [4]⟩] [4]
theorem r116_2 : type_of% (@rr _ _ c116_2.eq_1) := rr rfl
def c116_3 : ACode := .seq c116_2 .ret
theorem r116_3 : type_of% (@rr _ _ c116_3.eq_1) := rr rfl
def c116_4 : ACode := .cond (.t 7) c116_3 .skip
theorem r116_4 : type_of% (@rr _ _ c116_4.eq_1) := rr rfl
def c116_5 : ACode := .seq c116_1 c116_4
theorem r116_5 : type_of% (@rr _ _ c116_5.eq_1) := rr rfl
def c116_6 : ACode := .ops [⟨some 9, .mv (.t 0), none, []⟩,⟨some 10, .mv (.t 1), none, []⟩,⟨some 11, .build [.int .i64 0, .int .i64 0] [(0, 1, .t 9), (1, 1, .t 10)], none, []⟩,⟨none, .store (.t 4) 2 (.t 11), none, [4]⟩] [4]
theorem r116_6 : type_of% (@rr _ _ c116_6.eq_1) := rr rfl
def c116_7 : ACode := .seq c116_6 .ret
theorem r116_7 : type_of% (@rr _ _ c116_7.eq_1) := rr rfl
def c116_8 : ACode := .seq c116_5 c116_7
theorem r116_8 : type_of% (@rr _ _ c116_8.eq_1) := rr rfl
def c116_9 : ACode := .seq c116_0 c116_8
theorem r116_9 : type_of% (@rr _ _ c116_9.eq_1) := rr rfl
def a116 : AFun := ⟨2, 12, c116_9, [.cell 4 2 true]⟩
attribute [simp] r116_0 r116_1 r116_2 r116_3 r116_4 r116_5 r116_6 r116_7 r116_8 r116_9
theorem m116 : mFun Try.prog Try.f116 a116 = true := by decide +kernel
def c88_0 : ACode := .ops [⟨some 1, .box (.t 0) 2, none, []⟩,⟨some 2, .mv (.c (.bool false)), none, []⟩] [1]
theorem r88_0 : type_of% (@rr _ _ c88_0.eq_1) := rr rfl
def c88_1 : ACode := .ops [⟨some 3, .fad (.t 1) 0, none, [1]⟩,⟨some 4, .load 1 false (.t 3), none, [1]⟩,⟨some 5, .fad (.t 1) 1, none, [1]⟩,⟨some 6, .load 1 false (.t 5), none, [1]⟩,⟨some 7, .bin .gtr (.t 4) (.t 6), none, []⟩,⟨some 2, .mv (.t 7), none, []⟩] [2]
theorem r88_1 : type_of% (@rr _ _ c88_1.eq_1) := rr rfl
def c88_2 : ACode := .seq c88_1 .ret
theorem r88_2 : type_of% (@rr _ _ c88_2.eq_1) := rr rfl
def c88_3 : ACode := .seq c88_0 c88_2
theorem r88_3 : type_of% (@rr _ _ c88_3.eq_1) := rr rfl
def a88 : AFun := ⟨1, 8, c88_3, [.t 2]⟩
attribute [simp] r88_0 r88_1 r88_2 r88_3
theorem m88 : mFun Try.prog Try.f88 a88 = true := by decide +kernel
def c98_0 : ACode := .ops [⟨some 2, .box (.t 0) 2, none, []⟩,⟨some 4, .alloc [.int .i64 0, .int .i64 0], none, []⟩,⟨some 5, .alloc [.int .i64 0, .int .i64 0], none, []⟩] [1, 2, 4, 5]
theorem r98_0 : type_of% (@rr _ _ c98_0.eq_1) := rr rfl
def c98_1 : ACode := .ops [⟨some 7, .fad (.t 2) 0, none, [2]⟩,⟨some 8, .load 1 false (.t 7), none, [2]⟩,⟨some 9, .fad (.t 2) 1, none, [2]⟩,⟨some 10, .load 1 false (.t 9), none, [2]⟩,⟨some 11, .mv (.t 1), none, []⟩,⟨some 12, .mnmx false (.t 10) (.t 11), none, []⟩,⟨some 13, .call 116 [.t 8, .t 12], none, []⟩,⟨some 6, .alloc [.int .i64 0, .int .i64 0], none, []⟩,⟨none, .store (.t 6) 2 (.t 13), none, [6]⟩] [1, 2, 4, 5, 6]
theorem r98_1 : type_of% (@rr _ _ c98_1.eq_1) := rr rfl
def c98_2 : ACode := .ops [⟨some 14, .mv (.t 1), none, []⟩,⟨some 15, .fad (.t 2) 1, none, [2]⟩,⟨some 16, .load 1 false (.t 15), none, [2]⟩,⟨some 17, .bin .geq (.t 14) (.t 16), none, []⟩] [1, 2, 4, 5, 6, 17]
theorem r98_2 : type_of% (@rr _ _ c98_2.eq_1) := rr rfl
def c98_3 : ACode := .ops [⟨some 18, .load 2 true (.t 6), none, [6]⟩,⟨some 19, .call 117 [], none, []⟩,⟨none, .store (.t 4) 2 (.t 18), none, [4]⟩,⟨none, .store (.t 5) 2 (.t 19), none, [5]⟩] [4, 5]
theorem r98_3 : type_of% (@rr _ _ c98_3.eq_1) := rr rfl
def c98_4 : ACode := .seq c98_3 .ret
theorem r98_4 : type_of% (@rr _ _ c98_4.eq_1) := rr rfl
def c98_5 : ACode := .cond (.t 17) c98_4 .skip
theorem r98_5 : type_of% (@rr _ _ c98_5.eq_1) := rr rfl
def c98_6 : ACode := .seq c98_2 c98_5
theorem r98_6 : type_of% (@rr _ _ c98_6.eq_1) := rr rfl
def c98_7 : ACode := .ops [⟨some 20, .load 2 true (.t 6), none, [6]⟩,⟨some 21, .fad (.t 2) 0, none, [2]⟩,⟨some 22, .load 1 false (.t 21), none, [2]⟩,⟨some 23, .mv (.t 1), none, []⟩,⟨some 24, .bin .add (.t 23) (.c (.int .i64 1)), none, []⟩,⟨some 25, .mnmx true (.t 22) (.t 24), none, []⟩,⟨some 26, .fad (.t 2) 1, none, [2]⟩,⟨some 27, .load 1 false (.t 26), none, [2]⟩,⟨some 28, .call 116 [.t 25, .t 27], none, []⟩,⟨none, .store (.t 4) 2 (.t 20), none, [4]⟩,⟨none, .store (.t 5) 2 (.t 28), none, [5]⟩] [4, 5]
theorem r98_7 : type_of% (@rr _ _ c98_7.eq_1) := rr rfl
def c98_8 : ACode := .seq c98_7 .ret
theorem r98_8 : type_of% (@rr _ _ c98_8.eq_1) := rr rfl
def c98_9 : ACode := .seq c98_6 c98_8
theorem r98_9 : type_of% (@rr _ _ c98_9.eq_1) := rr rfl
def c98_10 : ACode := .seq c98_1 c98_9
theorem r98_10 : type_of% (@rr _ _ c98_10.eq_1) := rr rfl
def c98_11 : ACode := .seq c98_0 c98_10
theorem r98_11 : type_of% (@rr _ _ c98_11.eq_1) := rr rfl
def a98 : AFun := ⟨2, 29, c98_11, [.cell 4 2 true, .cell 5 2 true]⟩
attribute [simp] r98_0 r98_1 r98_2 r98_3 r98_4 r98_5 r98_6 r98_7 r98_8 r98_9 r98_10 r98_11
theorem m98 : mFun Try.prog Try.f98 a98 = true := by decide +kernel
def c49_0 : ACode := .ops [⟨some 1, .box (.t 0) 10, none, []⟩,⟨some 2, .mv (.c (.bool false)), none, []⟩] [1]
theorem r49_0 : type_of% (@rr _ _ c49_0.eq_1) := rr rfl
def c49_1 : ACode := .ops [⟨some 5, .load 10 true (.t 1), none, [1]⟩,⟨some 6, .mv (.c (.int .i64 0)), none, []⟩] [5, 6]
theorem r49_1 : type_of% (@rr _ _ c49_1.eq_1) := rr rfl
def c49_2 : ACode := .ops [⟨some 7, .bin .lss (.t 6) (.c (.int .i64 5)), none, []⟩] [5, 6, 7]
theorem r49_2 : type_of% (@rr _ _ c49_2.eq_1) := rr rfl
def c49_3 : ACode := .cond (.t 7) .skip (.exit 0)
theorem r49_3 : type_of% (@rr _ _ c49_3.eq_1) := rr rfl
def c49_4 : ACode := .ops [⟨some 8, .idx (.t 5) (.t 6) 2 5 true, none, []⟩,⟨some 4, .alloc [.int .i64 0, .int .i64 0], none, []⟩,⟨none, .store (.t 4) 2 (.t 8), none, [4]⟩] [4, 5, 6]
theorem r49_4 : type_of% (@rr _ _ c49_4.eq_1) := rr rfl
def c49_5 : ACode := .ops [⟨some 9, .load 2 true (.t 4), none, [4]⟩,⟨some 10, .call 88 [.t 9], none, []⟩] [5, 6, 10]
theorem r49_5 : type_of% (@rr _ _ c49_5.eq_1) := rr rfl
def c49_6 : ACode := .ops [⟨some 2, .mv (.c (.bool true)), none, []⟩] [2]
theorem r49_6 : type_of% (@rr _ _ c49_6.eq_1) := rr rfl
def c49_7 : ACode := .seq c49_6 .ret
theorem r49_7 : type_of% (@rr _ _ c49_7.eq_1) := rr rfl
def c49_8 : ACode := .cond (.t 10) c49_7 .skip
theorem r49_8 : type_of% (@rr _ _ c49_8.eq_1) := rr rfl
def c49_9 : ACode := .seq c49_5 c49_8
theorem r49_9 : type_of% (@rr _ _ c49_9.eq_1) := rr rfl
def c49_10 : ACode := .seq c49_4 c49_9
theorem r49_10 : type_of% (@rr _ _ c49_10.eq_1) := rr rfl
def c49_11 : ACode := .block 1 c49_10
theorem r49_11 : type_of% (@rr _ _ c49_11.eq_1) := rr rfl
def c49_12 : ACode := .ops [⟨some 11, .bin .add (.t 6) (.c (.int .i64 1)), none, []⟩,⟨some 6, .mv (.t 11), none, []⟩] [5, 6]
theorem r49_12 : type_of% (@rr _ _ c49_12.eq_1) := rr rfl
def c49_13 : ACode := .seq c49_11 c49_12
theorem r49_13 : type_of% (@rr _ _ c49_13.eq_1) := rr rfl
def c49_14 : ACode := .seq c49_3 c49_13
theorem r49_14 : type_of% (@rr _ _ c49_14.eq_1) := rr rfl
def c49_15 : ACode := .seq c49_2 c49_14
theorem r49_15 : type_of% (@rr _ _ c49_15.eq_1) := rr rfl
def c49_16 : ACode := .keep [5, 6] [] c49_15
theorem r49_16 : type_of% (@rr _ _ c49_16.eq_1) := rr rfl
def c49_17 : ACode := .loop c49_16
theorem r49_17 : type_of% (@rr _ _ c49_17.eq_1) := rr rfl
def c49_18 : ACode := .block 0 c49_17
theorem r49_18 : type_of% (@rr _ _ c49_18.eq_1) := rr rfl
def c49_19 : ACode := .seq c49_1 c49_18
theorem r49_19 : type_of% (@rr _ _ c49_19.eq_1) := rr rfl
def c49_20 : ACode := .ops [⟨some 2, .mv (.c (.bool false)), none, []⟩] [2]
theorem r49_20 : type_of% (@rr _ _ c49_20.eq_1) := rr rfl
def c49_21 : ACode := .seq c49_20 .ret
theorem r49_21 : type_of% (@rr _ _ c49_21.eq_1) := rr rfl
def c49_22 : ACode := .seq c49_19 c49_21
theorem r49_22 : type_of% (@rr _ _ c49_22.eq_1) := rr rfl
def c49_23 : ACode := .seq c49_0 c49_22
theorem r49_23 : type_of% (@rr _ _ c49_23.eq_1) := rr rfl
def a49 : AFun := ⟨1, 12, c49_23, [.t 2]⟩
attribute [simp] r49_0 r49_1 r49_2 r49_3 r49_4 r49_5 r49_6 r49_7 r49_8 r49_9 r49_10 r49_11 r49_12 r49_13 r49_14 r49_15 r49_16 r49_17 r49_18 r49_19 r49_20 r49_21 r49_22 r49_23
theorem m49 : mFun Try.prog Try.f49 a49 = true := by decide +kernel
def c63_0 : ACode := .ops [⟨some 3, .box (.t 0) 10, none, []⟩,⟨some 6, .alloc [.int .i64 0, .int .i64 0, .int .i64 0, .int .i64 0, .int .i64 0, .int .i64 0, .int .i64 0, .int .i64 0, .int .i64 0, .int .i64 0], none, []⟩,⟨some 7, .alloc [.int .i64 0, .int .i64 0, .int .i64 0, .int .i64 0, .int .i64 0, .int .i64 0, .int .i64 0, .int .i64 0, .int .i64 0, .int .i64 0], none, []⟩] [1, 2, 3, 6, 7]
theorem r63_0 : type_of% (@rr _ _ c63_0.eq_1) := rr rfl
def c63_1 : ACode := .ops [⟨some 10, .load 10 true (.t 3), none, [3]⟩,⟨some 11, .load 10 true (.t 3), none, [3]⟩,⟨some 8, .alloc [.int .i64 0, .int .i64 0, .int .i64 0, .int .i64 0, .int .i64 0, .int .i64 0, .int .i64 0, .int .i64 0, .int .i64 0, .int .i64 0], none, []⟩,⟨some 9, .alloc [.int .i64 0, .int .i64 0, .int .i64 0, .int .i64 0, .int .i64 0, .int .i64 0, .int .i64 0, .int .i64 0, .int .i64 0, .int .i64 0], none, []⟩,⟨none, .store (.t 8) 10 (.t 10), none, [8]⟩,⟨none, .store (.t 9) 10 (.t 11), none, [9]⟩] [1, 2, 3, 6, 7, 8, 9]
theorem r63_1 : type_of% (@rr _ _ c63_1.eq_1) := rr rfl
def c63_2 : ACode := .ops [⟨some 12, .mv (.t 1), none, []⟩,⟨some 13, .bin .geq (.t 12) (.c (.int .i64 0)), none, []⟩,⟨some 14, .mv (.t 13), none, []⟩,⟨some 15, .mv (.t 1), some (14, true), []⟩,⟨some 16, .bin .lss (.t 15) (.c (.int .i64 5)), some (14, true), []⟩,⟨some 17, .pick (.t 14) (.t 16) (.c (.bool false)), none, []⟩] [1, 2, 3, 6, 7, 8, 9, 17]
theorem r63_2 : type_of% (@rr _ _ c63_2.eq_1) := rr rfl
def c63_3 : ACode := .ops [⟨some 19, .mv (.t 1), none, []⟩,⟨some 20, .mv (.t 1), none, []⟩,⟨some 21, .mv (.t 1), none, []⟩,⟨some 22, .iad (.t 3) (.t 21) 2 5, none, [3]⟩,⟨some 23, .load 2 true (.t 22), none, [3]⟩,⟨some 24, .mv (.t 2), none, []⟩,⟨some 25, .call 98 [.t 23, .t 24], none, []⟩,⟨some 18, .mv (.t 25), none, []⟩,⟨some 26, .ext (.t 18) 0, none, []⟩,⟨some 27, .ext (.t 18) 1, none, []⟩,⟨some 28, .iad (.t 8) (.t 19) 2 5, none, [8]⟩,⟨none, .store (.t 28) 2 (.t 26), none, [8]⟩,⟨some 29, .iad (.t 9) (.t 20) 2 5, none, [9]⟩,⟨none, .store (.t 29) 2 (.t 27), none, [9]⟩] [6, 7, 8, 9]
theorem r63_3 : type_of% (@rr _ _ c63_3.eq_1) := rr rfl
def c63_4 : ACode := .cond (.t 17) c63_3 .skip
theorem r63_4 : type_of% (@rr _ _ c63_4.eq_1) := rr rfl
def c63_5 : ACode := .seq c63_2 c63_4
theorem r63_5 : type_of% (@rr _ _ c63_5.eq_1) := rr rfl
def c63_6 : ACode := .ops [⟨some 30, .load 10 true (.t 8), none, [8]⟩,⟨some 31, .load 10 true (.t 9), none, [9]⟩,⟨none, .store (.t 6) 10 (.t 30), none, [6]⟩,⟨none, .store (.t 7) 10 (.t 31), none, [7]⟩] [6, 7]
theorem r63_6 : type_of% (@rr _ _ c63_6.eq_1) := rr rfl
def c63_7 : ACode := .seq c63_6 .ret
theorem r63_7 : type_of% (@rr _ _ c63_7.eq_1) := rr rfl
def c63_8 : ACode := .seq c63_5 c63_7
theorem r63_8 : type_of% (@rr _ _ c63_8.eq_1) := rr rfl
def c63_9 : ACode := .seq c63_1 c63_8
theorem r63_9 : type_of% (@rr _ _ c63_9.eq_1) := rr rfl
def c63_10 : ACode := .seq c63_0 c63_9
theorem r63_10 : type_of% (@rr _ _ c63_10.eq_1) := rr rfl
def a63 : AFun := ⟨3, 32, c63_10, [.cell 6 10 true, .cell 7 10 true]⟩
attribute [simp] r63_0 r63_1 r63_2 r63_3 r63_4 r63_5 r63_6 r63_7 r63_8 r63_9 r63_10
theorem m63 : mFun Try.prog Try.f63 a63 = true := by decide +kernel
theorem runs_none (c : Span) (h : some noneS = some c) : Runs (tbl []) a117 [] (Arg.enc c) := by
  cases h
  refine ⟨rfl, fun g => run_def ?_⟩
  unfold a117
  simp -implicitDefEqProofs [noneS]
theorem c_none : Contract Try.prog 117 (sp0 (some noneS)) := contract_of_runs mixed tbl_nil Try.func117 m117 (sp0_runs runs_none)
theorem runs_of (lo hi : Int) (c : Span) (h : some (ofS lo hi) = some c) : Runs (tbl [(117, sp0 (some noneS))]) a116 [Arg.enc lo, Arg.enc hi] (Arg.enc c) := by
  cases h
  refine ⟨rfl, fun g => run_def ?_⟩
  unfold a116
  by_cases h1 : hi < lo <;> simp -implicitDefEqProofs [ofS, noneS, h1]
theorem c_of : Contract Try.prog 116 (sp2 fun lo hi => some (ofS lo hi)) :=
  contract_of_runs mixed (tbl_cons c_none tbl_nil) Try.func116 m116 (sp2_runs runs_of)
theorem runs_sEmpty (s : Span) (c : Bool) (h : some s.empty = some c) : Runs (tbl []) a88 [Arg.enc s] (Arg.enc c) := by
  cases h
  refine ⟨rfl, fun g => run_def ?_⟩
  unfold a88
  simp -implicitDefEqProofs [Span.empty]
theorem c_sEmpty : Contract Try.prog 88 (sp1 fun (s : Span) => some s.empty) := contract_of_runs mixed tbl_nil Try.func88 m88 (sp1_runs runs_sEmpty)
def CutS (s : Span) (n : Int) : Option (Span × Span) := if ok64 n ∧ ok64 s.hi then some (cutS s n) else none
theorem runs_sCut (s : Span) (n : Int) (c : Span × Span) (h : CutS s n = some c) : Runs (tbl [(116, sp2 fun lo hi => some (ofS lo hi)), (117, sp0 (some noneS))]) a98 [Arg.enc s, Arg.enc n] (Arg.enc c) := by
  unfold CutS at h
  split at h
  · rename_i hb
    cases h
    obtain ⟨⟨b1, b2⟩, b3, b4⟩ := hb
    refine ⟨rfl, fun g => run_def ?_⟩
    unfold a98
    by_cases h1 : s.hi ≤ n
    · by_cases h2 : n < s.hi
      · omega
      · simp -implicitDefEqProofs [cutS, noneS, h1, h2]
    · have e : IntKind.i64.wrap (n + 1) = n + 1 := wrap64 (by omega) (by omega)
      have h2 : n < s.hi := by omega
      simp -implicitDefEqProofs [cutS, h1, h2, e]
  · cases h
theorem c_sCut : Contract Try.prog 98 (sp2 CutS) :=
  contract_of_runs mixed (tbl_cons c_of (tbl_cons c_none tbl_nil)) Try.func98 m98 (sp2_runs runs_sCut)
theorem runs_bEmpty (b : Box) (c : Bool) (h : some b.empty = some c) : Runs (tbl [(88, sp1 fun (s : Span) => some s.empty)]) a49 [Arg.enc b] (Arg.enc c) := by
  cases h
  refine ⟨rfl, fun g => run_def ?_⟩
  unfold a49
  cases h0 : b.s0.empty
  case true => simp -implicitDefEqProofs [Box.empty, run_round, h0]
  cases h1 : b.s1.empty
  case true => simp -implicitDefEqProofs [Box.empty, run_round, h0, h1]
  cases h2 : b.s2.empty
  case true => simp -implicitDefEqProofs [Box.empty, run_round, h0, h1, h2]
  cases h3 : b.s3.empty
  case true => simp -implicitDefEqProofs [Box.empty, run_round, h0, h1, h2, h3]
  cases h4 : b.s4.empty <;> simp -implicitDefEqProofs [Box.empty, run_round, h0, h1, h2, h3, h4]
theorem c_bEmpty : Contract Try.prog 49 (sp1 fun (b : Box) => some b.empty) :=
  contract_of_runs mixed (tbl_cons c_sEmpty tbl_nil) Try.func49 m49 (sp1_runs runs_bEmpty)
def CutB (b : Box) (p n : Int) : Option (Box × Box) := if ok64 n ∧ ok64 (b.get p).hi then some (cutB b p n) else none
theorem runs_bCut (b : Box) (p n : Int) (c : Box × Box) (h : CutB b p n = some c) : Runs (tbl [(98, sp2 CutS)]) a63 [Arg.enc b, Arg.enc p, Arg.enc n] (Arg.enc c) := by
  unfold CutB at h
  split at h
  · rename_i hb
    cases h
    obtain ⟨b1, b2⟩ := hb
    refine ⟨rfl, fun g => run_def ?_⟩
    unfold a63
    by_cases h1 : 0 ≤ p
    case neg => simp -implicitDefEqProofs [cutB, h1]
    by_cases h2 : p < 5
    case neg => simp -implicitDefEqProofs [cutB, h1, h2]
    have hp : p = 0 ∨ p = 1 ∨ p = 2 ∨ p = 3 ∨ p = 4 := by omega
    rcases hp with rfl | rfl | rfl | rfl | rfl <;> simp [Box.get] at b2 <;> simp -implicitDefEqProofs [cutB, Box.get, Box.set, CutS, b1, b2]
  · cases h
theorem c_bCut : Contract Try.prog 63 (sp3 CutB) :=
  contract_of_runs mixed (tbl_cons c_sCut tbl_nil) Try.func63 m63 (sp3_runs runs_bCut)
end Go.Co
/- CO: right trees of words; a tree that is grown of numbers is right. -/
namespace Go.Co
theorem pack_okW (n : Node) : okW (pack n).v := by
  unfold pack okW
  split
  · rename_i h
    obtain ⟨leaf, value, feature, cut, left, right⟩ := n
    cases leaf <;> simp [rightNode, fits] at h ⊢ <;> omega
  · simp
theorem raw_pack (n : Node) (h : rightNode n = true) : raw (pack n).v = n := by
  obtain ⟨leaf, value, feature, cut, left, right⟩ := n
  have hb := h
  unfold pack raw
  rw [if_pos h]
  cases leaf
  · simp [rightNode, fits] at hb
    obtain ⟨⟨⟨⟨⟨⟨⟨h0, h1⟩, h2⟩, h3, h4⟩, h5⟩, h6⟩, h7⟩, h8⟩ := hb
    have e : (cut % 4294967296 + feature * 4294967296 + left * 1099511627776 + right * 281474976710656) / 9223372036854775808 ≠ 1 := by omega
    simp only [Bool.false_eq_true, if_false, wrap32, if_neg e, Node.mk.injEq, true_and]
    refine ⟨?_, ?_, ?_, ?_, ?_⟩ <;> omega
  · simp [rightNode, fits] at hb
    obtain ⟨⟨⟨⟨⟨h0, h1⟩, h2⟩, h3⟩, h4⟩, h5⟩ := hb
    have e : (9223372036854775808 + value % 4294967296) / 9223372036854775808 = 1 := by omega
    simp only [if_true, wrap32, if_pos e, Node.mk.injEq, true_and, h2, h3, h4, h5, and_true]
    omega
theorem unpack_pack (n : Node) (h : rightNode n = true) : unpack (pack n) = (n, true) := by
  unfold unpack
  rw [raw_pack n h]
  simp [h]
theorem unpack_true {w : Word} (h : (unpack w).2 = true) : rightNode (unpack w).1 = true ∧ pack (unpack w).1 = w := by
  unfold unpack at *
  split at h
  · rename_i hh
    rw [if_pos hh]
    simpa using hh
  · cases h
def nd (w : Word) : Node := (unpack w).1
theorem nd_pack (n : Node) (h : rightNode n = true) : nd (pack n) = n := by unfold nd; rw [unpack_pack n h]
def names (n : Node) (j : Nat) : Bool := !n.leaf && (decide (n.left = j) || decide (n.right = j))
structure RT (l : List Word) (dim : Int) : Prop where
  ok : ∀ (i : Nat) (h : i < l.length), okW l[i].v ∧ (unpack l[i]).2 = true
  pos : 1 ≤ l.length
  le : l.length ≤ 31
  inner : ∀ (i : Nat) (h : i < l.length), (nd l[i]).leaf = false → (nd l[i]).feature < dim ∧ (nd l[i]).left ≠ (nd l[i]).right ∧ (i : Int) < (nd l[i]).left ∧ (nd l[i]).left < l.length ∧ (i : Int) < (nd l[i]).right ∧ (nd l[i]).right < l.length
  once : ∀ j : Nat, 1 ≤ j → j < l.length → l.countP (fun w => names (nd w) j) = 1
structure NT (l : List Node) (dim : Int) : Prop where
  ok : ∀ n ∈ l, rightNode n = true
  pos : 1 ≤ l.length
  le : l.length ≤ 31
  inner : ∀ (i : Nat) (h : i < l.length), l[i].leaf = false → l[i].feature < dim ∧ l[i].left ≠ l[i].right ∧ (i : Int) < l[i].left ∧ l[i].left < l.length ∧ (i : Int) < l[i].right ∧ l[i].right < l.length
  once : ∀ j : Nat, 1 ≤ j → j < l.length → l.countP (fun n => names n j) = 1
theorem NT.words {l : List Node} {dim : Int} (h : NT l dim) : RT (l.map pack) dim := by
  have hp : ∀ (i : Nat) (hi : i < l.length), nd (pack l[i]) = l[i] := fun i hi => nd_pack _ (h.ok _ (List.getElem_mem hi))
  refine ⟨?_, by simpa using h.pos, by simpa using h.le, ?_, ?_⟩
  · intro i hi
    simp only [List.getElem_map]
    have hi2 : i < l.length := by simpa using hi
    exact ⟨pack_okW _, by rw [unpack_pack _ (h.ok _ (List.getElem_mem hi2))]⟩
  · intro i hi
    have hi2 : i < l.length := by simpa using hi
    simp only [List.getElem_map, List.length_map, hp i hi2]
    exact h.inner i hi2
  · intro j h1 h2
    rw [List.countP_map]
    rw [← h.once j h1 (by simpa using h2)]
    refine List.countP_congr fun n hn => ?_
    simp [nd_pack n (h.ok n hn)]
def leafN (v : Int) : Node := ⟨true, v, 0, 0, 0, 0⟩
structure Gr where
  nodes : List Node
  leaves : List Int
def grow0 (t : KTree) : Gr := ⟨[leafN (within (pick t.val 0) (-3000) 3000)], [0]⟩
def growK (t : KTree) (i : Nat) (s : Gr) : Nat := (within (t.part.getD i 0) 0 (s.leaves.length - 1)).toNat
def growN (t : KTree) (dim : Int) (i : Nat) (n : Int) : Node := ⟨false, 0, within (pick t.dir i) 0 (dim - 1), within (pick t.cut i) 0 9, n, n + 1⟩
def growS (t : KTree) (dim : Int) (i : Nat) (s : Gr) : Gr :=
  ⟨s.nodes.set (s.leaves.getD (growK t i s) 0).toNat (growN t dim i s.nodes.length) ++ [leafN (within (pick t.val (2 * i + 1)) (-3000) 3000), leafN (within (pick t.val (2 * i + 2)) (-3000) 3000)],
    s.leaves.take (growK t i s) ++ s.leaves.drop (growK t i s + 1) ++ [(s.nodes.length : Int), s.nodes.length + 1]⟩
def grow (t : KTree) (dim : Int) : Nat → Gr
  | 0 => grow0 t
  | i + 1 => growS t dim i (grow t dim i)
def treeNodes (t : KTree) (dim : Int) : List Word := (grow t dim (min t.part.length 7)).nodes.map pack
theorem within_le (n lo hi : Int) (h : lo ≤ hi) : lo ≤ within n lo hi ∧ within n lo hi ≤ hi := by
  unfold within
  have h1 := Int.emod_nonneg n (show hi - lo + 1 ≠ 0 by omega)
  have h2 := Int.emod_lt_of_pos n (show 0 < hi - lo + 1 by omega)
  omega
theorem right_leafN (n : Int) : rightNode (leafN (within n (-3000) 3000)) = true := by
  have := within_le n (-3000) 3000 (by omega)
  have h1 : fits (within n (-3000) 3000) = true := by
    unfold fits
    rw [Bool.and_eq_true, decide_eq_true_eq, decide_eq_true_eq]
    omega
  simp [rightNode, leafN, h1]
structure GI (dim : Int) (i : Nat) (s : Gr) : Prop where
  len : s.nodes.length = 2 * i + 1
  lvs : s.leaves.length = i + 1
  leaf : ∀ x ∈ s.leaves, 0 ≤ x ∧ ∃ h : x.toNat < s.nodes.length, (s.nodes[x.toNat]).leaf = true
  dis : s.leaves.Nodup
  ok : ∀ n ∈ s.nodes, rightNode n = true
  val : ∀ n ∈ s.nodes, -3000 ≤ n.value ∧ n.value ≤ 3000
  inner : ∀ (i : Nat) (h : i < s.nodes.length), s.nodes[i].leaf = false → s.nodes[i].feature < dim ∧ 0 ≤ s.nodes[i].cut ∧ s.nodes[i].cut ≤ 9 ∧ (i : Int) < s.nodes[i].left ∧ s.nodes[i].right = s.nodes[i].left + 1 ∧ s.nodes[i].right < s.nodes.length
  once : ∀ j : Nat, 1 ≤ j → j < s.nodes.length → s.nodes.countP (fun n => names n j) = 1
theorem gi0 (t : KTree) (dim : Int) : GI dim 0 (grow0 t) := by
  refine ⟨rfl, rfl, ?_, by simp [grow0], ?_, ?_, ?_, ?_⟩
  · intro x hx
    simp [grow0] at hx
    subst hx
    exact ⟨by omega, by simp [grow0], rfl⟩
  · intro n hn
    simp [grow0] at hn
    subst hn
    exact right_leafN _
  · intro n hn
    simp [grow0] at hn
    subst hn
    exact within_le _ _ _ (by omega)
  · intro i h hl
    simp [grow0] at h
    subst h
    simp [grow0, leafN] at hl
  · intro j h1 h2
    simp [grow0] at h2
    omega
theorem nodup_cut {l : List Int} (h : l.Nodup) (k : Nat) : (l.take k ++ l.drop (k + 1)).Nodup := by
  refine List.Nodup.sublist ?_ h
  have : l.take k ++ l.drop (k + 1) = l.eraseIdx k := (List.eraseIdx_eq_take_drop_succ l k).symm
  rw [this]
  exact List.eraseIdx_sublist l k
theorem mem_cut_ne {l : List Int} (h : l.Nodup) (k : Nat) (hk : k < l.length) {x : Int} (hx : x ∈ l.take k ++ l.drop (k + 1)) : x ∈ l ∧ x ≠ l[k] := by
  rw [← List.eraseIdx_eq_take_drop_succ] at hx
  rw [List.mem_eraseIdx_iff_getElem] at hx
  obtain ⟨j, hj, hne, rfl⟩ := hx
  refine ⟨List.getElem_mem _, fun e => ?_⟩
  rw [List.Nodup] at h
  exact hne ((List.getElem_inj (h₀ := hj) (h₁ := hk) h).1 e)
theorem gi_step (t : KTree) (dim : Int) (i : Nat) (s : Gr) (hd : 1 ≤ dim) (hd4 : dim ≤ 4) (hi : i < 7) (h : GI dim i s) : GI dim (i + 1) (growS t dim i s) := by
  obtain ⟨len, lvs, leaf, dis, ok, val, inner, once⟩ := h
  have hk := within_le (t.part.getD i 0) 0 (s.leaves.length - 1) (by omega)
  have hk2 : growK t i s < s.leaves.length := by unfold growK; omega
  unfold growS
  generalize growK t i s = k at *
  have hat : s.leaves.getD k 0 = s.leaves[k] := by simp [hk2]
  obtain ⟨h0, hl1, hl2⟩ := leaf _ (List.getElem_mem hk2)
  rw [hat]
  generalize ha : s.leaves[k].toNat = a at *
  have hw1 := within_le (pick t.dir i) 0 (dim - 1) (by omega)
  have hw2 := within_le (pick t.cut i) 0 9 (by omega)
  generalize hN : growN t dim i s.nodes.length = N at *
  have N1 : N.leaf = false := by rw [← hN]; rfl
  have N2 : N.left = s.nodes.length := by rw [← hN]; rfl
  have N3 : N.right = s.nodes.length + 1 := by rw [← hN]; rfl
  have N4 : 0 ≤ N.feature ∧ N.feature < dim := by rw [← hN]; unfold growN; simp only; omega
  have N5 : 0 ≤ N.cut ∧ N.cut ≤ 9 := by rw [← hN]; unfold growN; simp only; omega
  have N6 : N.value = 0 := by rw [← hN]; rfl
  have hR := right_leafN (pick t.val (2 * i + 1))
  have hR2 := right_leafN (pick t.val (2 * i + 2))
  have hv := within_le (pick t.val (2 * i + 1)) (-3000) 3000 (by omega)
  have hv2 := within_le (pick t.val (2 * i + 2)) (-3000) 3000 (by omega)
  generalize within (pick t.val (2 * i + 1)) (-3000) 3000 = v1 at *
  generalize within (pick t.val (2 * i + 2)) (-3000) 3000 = v2 at *
  have hlen : (s.nodes.set a N ++ [leafN v1, leafN v2]).length = s.nodes.length + 2 := by simp
  have hget : ∀ (j : Nat) (hj : j < (s.nodes.set a N ++ [leafN v1, leafN v2]).length), (s.nodes.set a N ++ [leafN v1, leafN v2])[j] = if j = a then N else if h : j < s.nodes.length then s.nodes[j] else if j = s.nodes.length then leafN v1 else leafN v2 := by
    intro j hj
    rw [List.getElem_append]
    by_cases h1 : j < s.nodes.length
    · simp only [List.length_set, h1, dif_pos, List.getElem_set]
      by_cases h2 : j = a
      · simp [h2]
      · have : ¬ a = j := fun e => h2 e.symm
        simp [h2, this]
    · have h2 : ¬ j = a := by omega
      simp only [List.length_set, h1, dif_neg, not_false_iff, h2, if_false]
      have : j = s.nodes.length ∨ j = s.nodes.length + 1 := by simp at hj; omega
      rcases this with rfl | rfl
      · simp
      · simp
  have hmem : ∀ n ∈ s.nodes.set a N ++ [leafN v1, leafN v2], n = N ∨ n ∈ s.nodes ∨ n = leafN v1 ∨ n = leafN v2 := by
    intro n hn
    rw [List.mem_append] at hn
    rcases hn with hn | hn
    · rcases List.mem_or_eq_of_mem_set hn with h1 | h1
      · exact Or.inr (Or.inl h1)
      · exact Or.inl h1
    · simp at hn
      rcases hn with h1 | h1
      · exact Or.inr (Or.inr (Or.inl h1))
      · exact Or.inr (Or.inr (Or.inr h1))
  refine ⟨by simp only [hlen]; omega, ?_, ?_, ?_, ?_, ?_, ?_, ?_⟩
  · simp
    omega
  · intro x hx
    rw [List.mem_append] at hx
    rcases hx with hx | hx
    · obtain ⟨hx1, hx2⟩ := mem_cut_ne dis k hk2 hx
      obtain ⟨hx0, hx3, hx4⟩ := leaf x hx1
      have hne : ¬ x.toNat = a := by
        intro e
        apply hx2
        omega
      refine ⟨hx0, by rw [hlen]; omega, ?_⟩
      rw [hget, if_neg hne, dif_pos hx3]
      exact hx4
    · simp at hx
      rcases hx with rfl | rfl
      · refine ⟨by omega, by rw [hlen]; omega, ?_⟩
        rw [hget, if_neg (by omega), dif_neg (by omega)]
        simp [leafN]
      · refine ⟨by omega, by rw [hlen]; omega, ?_⟩
        rw [hget, if_neg (by omega), dif_neg (by omega)]
        split <;> rfl
  · rw [List.nodup_append]
    refine ⟨nodup_cut dis k, ?_, ?_⟩
    · simp
      omega
    · intro x hx y hy e
      subst e
      obtain ⟨hx1, hx2⟩ := mem_cut_ne dis k hk2 hx
      obtain ⟨hx0, hx3, hx4⟩ := leaf x hx1
      simp at hy
      omega
  · intro n hn
    rcases hmem n hn with rfl | h1 | rfl | rfl
    · simp [rightNode, N1, N2, N3, N6, fits]
      omega
    · exact ok n h1
    · exact hR
    · exact hR2
  · intro n hn
    rcases hmem n hn with rfl | h1 | rfl | rfl
    · omega
    · exact val n h1
    · exact hv
    · exact hv2
  · intro j hj
    simp only [hlen]
    rw [hget j hj]
    intro hl
    split at hl
    · rename_i e
      subst e
      simp only [if_true]
      omega
    · rename_i e
      rw [if_neg e]
      split at hl
      · rename_i hj2
        rw [dif_pos hj2]
        have := inner j hj2 hl
        omega
      · split at hl <;> cases hl
  · intro j h1 h2
    rw [hlen] at h2
    rw [List.countP_append, List.countP_set hl1]
    have e1 : names s.nodes[a] j = false := by simp [names, hl2]
    have e2 : names (leafN v1) j = false := by simp [names, leafN]
    have e3 : names (leafN v2) j = false := by simp [names, leafN]
    simp only [e1, List.countP_cons, e2, e3, List.countP_nil, Bool.false_eq_true, if_false]
    by_cases hj : j < s.nodes.length
    · have e4 : names N j = false := by simp [names, N1, N2, N3]; omega
      simp [e4, once j h1 hj]
    · have e4 : names N j = true := by simp [names, N1, N2, N3]; omega
      have e5 : s.nodes.countP (fun n => names n j) = 0 := by
        rw [List.countP_eq_zero]
        intro n hn
        obtain ⟨m, hm, rfl⟩ := List.getElem_of_mem hn
        intro hc
        simp [names] at hc
        have := inner m hm hc.1
        omega
      simp [e4, e5]
theorem gi (t : KTree) (dim : Int) (hd : 1 ≤ dim) (hd4 : dim ≤ 4) : ∀ i, i ≤ 7 → GI dim i (grow t dim i)
  | 0, _ => gi0 t dim
  | i + 1, h => gi_step t dim i _ hd hd4 (by omega) (gi t dim hd hd4 i (by omega))
theorem GI.nt {dim : Int} {i : Nat} {s : Gr} (hi : i ≤ 7) (h : GI dim i s) : NT s.nodes dim := by
  refine ⟨h.ok, by have := h.len; omega, by have := h.len; omega, ?_, h.once⟩
  intro j hj hl
  have := h.inner j hj hl
  omega
theorem rt_treeNodes (t : KTree) (dim : Int) (hd : 1 ≤ dim) (hd4 : dim ≤ 4) : RT (treeNodes t dim) dim :=
  ((gi t dim hd hd4 _ (Nat.min_le_right _ _)).nt (Nat.min_le_right _ _)).words
end Go.Co
/- CO: right models, right queries; what numbers make is right. -/
namespace Go.Co
def Bias.get (b : Bias) (c : Int) : Int := if c = 0 then b.b0 else if c = 1 then b.b1 else b.b2
structure RM (m : Model) : Prop where
  dim : 1 ≤ m.dim ∧ m.dim ≤ 4
  classes : 1 ≤ m.classes ∧ m.classes ≤ 3
  bias : fits m.bias.b0 = true ∧ fits m.bias.b1 = true ∧ fits m.bias.b2 = true
  none1 : m.classes ≤ 1 → m.bias.b1 = 0
  none2 : m.classes ≤ 2 → m.bias.b2 = 0
  trees : m.trees.length ≤ 8
  tree : ∀ t ∈ m.trees, 0 ≤ t.cls ∧ t.cls < m.classes ∧ RT t.nodes m.dim
def mDim (f : Forest) : Int := within f.dim 1 3
def mClasses (f : Forest) : Int := within f.classes 1 3
def mBias (f : Forest) (c : Nat) : Int := if (c : Int) < mClasses f then within (pick f.bias c) (-500) 500 else 0
def mTree (f : Forest) (t : KTree) : Tree := ⟨within t.cls 0 (mClasses f - 1), treeNodes t (mDim f)⟩
def modelOf (f : Forest) : Model := ⟨mDim f, mClasses f, ⟨mBias f 0, mBias f 1, mBias f 2⟩, (f.trees.take 4).map (mTree f)⟩
theorem mDim_le (f : Forest) : 1 ≤ mDim f ∧ mDim f ≤ 3 := within_le _ _ _ (by omega)
theorem mClasses_le (f : Forest) : 1 ≤ mClasses f ∧ mClasses f ≤ 3 := within_le _ _ _ (by omega)
theorem mBias_le (f : Forest) (c : Nat) : -500 ≤ mBias f c ∧ mBias f c ≤ 500 := by
  unfold mBias
  split
  · exact within_le _ _ _ (by omega)
  · omega
theorem fits_of {n : Int} (h : -2147483648 ≤ n ∧ n ≤ 2147483647) : fits n = true := by
  unfold fits
  rw [Bool.and_eq_true, decide_eq_true_eq, decide_eq_true_eq]
  exact h
theorem of_fits {n : Int} (h : fits n = true) : -2147483648 ≤ n ∧ n ≤ 2147483647 := by
  unfold fits at h
  rw [Bool.and_eq_true, decide_eq_true_eq, decide_eq_true_eq] at h
  exact h
theorem rm_modelOf (f : Forest) : RM (modelOf f) := by
  have hd := mDim_le f
  have hc := mClasses_le f
  have hb : ∀ c, fits (mBias f c) = true := fun c => fits_of (by have := mBias_le f c; omega)
  refine ⟨⟨hd.1, show mDim f ≤ 4 by omega⟩, hc, ⟨hb 0, hb 1, hb 2⟩, ?_, ?_, ?_, ?_⟩
  · intro h
    show mBias f 1 = 0
    have h : mClasses f ≤ 1 := h
    unfold mBias
    rw [if_neg (by omega)]
  · intro h
    show mBias f 2 = 0
    have h : mClasses f ≤ 2 := h
    unfold mBias
    rw [if_neg (by omega)]
  · simp [modelOf]
    omega
  · intro t ht
    simp only [modelOf, List.mem_map] at ht
    obtain ⟨k, hk, rfl⟩ := ht
    have := within_le k.cls 0 (mClasses f - 1) (by omega)
    refine ⟨this.1, ?_, rt_treeNodes k (mDim f) hd.1 (by omega)⟩
    show within k.cls 0 (mClasses f - 1) < mClasses f
    omega
def rSpan (dim : Int) (l : List Int) (i : Nat) : Span :=
  if (i : Int) < dim then ⟨within (pick l (2 * i)) (-2) 9, within (pick l (2 * i)) (-2) 9 + within (pick l (2 * i + 1)) 0 11⟩ else ⟨0, 0⟩
def regionOf (dim : Int) (l : List Int) : Box := ⟨rSpan dim l 0, rSpan dim l 1, rSpan dim l 2, rSpan dim l 3, ⟨0, 0⟩⟩
theorem rSpan_le (dim : Int) (l : List Int) (i : Nat) : -2 ≤ (rSpan dim l i).lo ∧ (rSpan dim l i).lo ≤ (rSpan dim l i).hi ∧ (rSpan dim l i).hi ≤ 20 := by
  have h1 := within_le (pick l (2 * i)) (-2) 9 (by omega)
  have h2 := within_le (pick l (2 * i + 1)) 0 11 (by omega)
  unfold rSpan
  split
  · simp only
    omega
  · simp only
    omega
end Go.Co
/- CO: walks through right trees; the pieces of a tree within a box. -/
namespace Go.Co
def Point.get (p : Point) (i : Int) : Int := if i = 0 then p.p0 else if i = 1 then p.p1 else if i = 2 then p.p2 else p.p3
def Point.set (p : Point) (i n : Int) : Point := if i = 0 then { p with p0 := n } else if i = 1 then { p with p1 := n } else if i = 2 then { p with p2 := n } else { p with p3 := n }
def InS (s : Span) (n : Int) : Prop := s.lo ≤ n ∧ n ≤ s.hi
def InB (b : Box) (p : Point) (t : Int) : Prop := InS b.s0 p.p0 ∧ InS b.s1 p.p1 ∧ InS b.s2 p.p2 ∧ InS b.s3 p.p3 ∧ InS b.s4 t
theorem cutS_1 (s : Span) (c n : Int) : InS (cutS s c).1 n ↔ InS s n ∧ n ≤ c := by
  unfold cutS
  split
  · unfold ofS InS
    split
    · simp only [noneS]; omega
    · simp only; omega
  · unfold ofS InS
    split
    · simp only [noneS]; omega
    · simp only; omega
theorem cutS_2 (s : Span) (c n : Int) : InS (cutS s c).2 n ↔ InS s n ∧ c < n := by
  unfold cutS
  split
  · unfold InS
    simp only [noneS]
    omega
  · unfold ofS InS
    simp only
    split <;> split <;> simp only [noneS] <;> omega
theorem empty_false {b : Box} : b.empty = false ↔ ∃ p t, InB b p t := by
  constructor
  · intro h
    unfold Box.empty Span.empty at h
    simp only [Bool.or_eq_false_iff, decide_eq_false_iff_not] at h
    exact ⟨⟨b.s0.lo, b.s1.lo, b.s2.lo, b.s3.lo⟩, b.s4.lo, by unfold InB InS; simp only; omega⟩
  · rintro ⟨p, t, h⟩
    unfold Box.empty Span.empty
    simp only [Bool.or_eq_false_iff, decide_eq_false_iff_not]
    unfold InB InS at h
    omega
theorem empty_true {b : Box} : b.empty = true ↔ ∀ p t, ¬ InB b p t := by
  constructor
  · intro h p t hp
    have := empty_false.2 ⟨p, t, hp⟩
    rw [h] at this
    cases this
  · intro h
    cases he : b.empty
    · obtain ⟨p, t, hp⟩ := empty_false.1 he
      exact (h p t hp).elim
    · rfl
theorem get_set {b : Box} {i : Int} {s : Span} (h : 0 ≤ i ∧ i < 4) (p : Point) (t : Int) : InB (b.set i s) p t ↔ InS s (p.get i) ∧ ∀ j, 0 ≤ j → j < 4 → j ≠ i → InS (b.get j) (p.get j) ∧ InS b.s4 t := by
  have hp : i = 0 ∨ i = 1 ∨ i = 2 ∨ i = 3 := by omega
  constructor
  · intro hi
    rcases hp with rfl | rfl | rfl | rfl <;> simp [Box.set, InB, Point.get] at hi ⊢ <;> refine ⟨by simp [hi], ?_⟩ <;> intro j h1 h2 h3 <;>
      (have hj : j = 0 ∨ j = 1 ∨ j = 2 ∨ j = 3 := by omega) <;> rcases hj with rfl | rfl | rfl | rfl <;> simp_all [Box.get, Point.get]
  · rintro ⟨h1, h2⟩
    have k0 := h2 0 (by omega) (by omega)
    have k1 := h2 1 (by omega) (by omega)
    have k2 := h2 2 (by omega) (by omega)
    have k3 := h2 3 (by omega) (by omega)
    rcases hp with rfl | rfl | rfl | rfl <;> simp [Box.set, InB, Point.get, Box.get] at * <;> simp_all
theorem inB_get {b : Box} {p : Point} {t : Int} : InB b p t ↔ ∀ j, 0 ≤ j → j < 4 → InS (b.get j) (p.get j) ∧ InS b.s4 t := by
  constructor
  · intro h j h1 h2
    have hj : j = 0 ∨ j = 1 ∨ j = 2 ∨ j = 3 := by omega
    rcases hj with rfl | rfl | rfl | rfl <;> simp_all [InB, Box.get, Point.get]
  · intro h2
    have k0 := h2 0 (by omega) (by omega)
    have k1 := h2 1 (by omega) (by omega)
    have k2 := h2 2 (by omega) (by omega)
    have k3 := h2 3 (by omega) (by omega)
    simp [InB, Point.get, Box.get] at *
    simp_all
theorem cutB_1 (b : Box) {i : Int} (h : 0 ≤ i ∧ i < 4) (c : Int) (p : Point) (t : Int) : InB (cutB b i c).1 p t ↔ InB b p t ∧ p.get i ≤ c := by
  unfold cutB
  rw [if_pos (by omega)]
  simp only
  rw [get_set h, cutS_1, inB_get]
  constructor
  · rintro ⟨⟨h1, h2⟩, h3⟩
    refine ⟨fun j hj hj2 => ?_, h2⟩
    by_cases e : j = i
    · subst e
      by_cases e0 : j = 0
      · exact ⟨h1, (h3 1 (by omega) (by omega) (by omega)).2⟩
      · exact ⟨h1, (h3 0 (by omega) (by omega) (by omega)).2⟩
    · exact h3 j hj hj2 e
  · rintro ⟨h1, h2⟩
    exact ⟨⟨(h1 i h.1 h.2).1, h2⟩, fun j hj hj2 _ => h1 j hj hj2⟩
theorem cutB_2 (b : Box) {i : Int} (h : 0 ≤ i ∧ i < 4) (c : Int) (p : Point) (t : Int) : InB (cutB b i c).2 p t ↔ InB b p t ∧ c < p.get i := by
  unfold cutB
  rw [if_pos (by omega)]
  simp only
  rw [get_set h, cutS_2, inB_get]
  constructor
  · rintro ⟨⟨h1, h2⟩, h3⟩
    refine ⟨fun j hj hj2 => ?_, h2⟩
    by_cases e : j = i
    · subst e
      by_cases e0 : j = 0
      · exact ⟨h1, (h3 1 (by omega) (by omega) (by omega)).2⟩
      · exact ⟨h1, (h3 0 (by omega) (by omega) (by omega)).2⟩
    · exact h3 j hj hj2 e
  · rintro ⟨h1, h2⟩
    exact ⟨⟨(h1 i h.1 h.2).1, h2⟩, fun j hj hj2 _ => h1 j hj hj2⟩
def ndAt (l : List Word) (i : Nat) : Node := nd (l.getD i default)
theorem ndAt_lt {l : List Word} {i : Nat} (h : i < l.length) : ndAt l i = nd l[i] := by unfold ndAt; simp [h]
def nxt (n : Node) (p : Point) : Nat := if p.get n.feature ≤ n.cut then n.left.toNat else n.right.toNat
def walk (l : List Word) (p : Point) : Nat → Nat → Nat
  | 0, i => i
  | f + 1, i => if (ndAt l i).leaf then i else walk l p f (nxt (ndAt l i) p)
def leafOf (l : List Word) (p : Point) : Nat := walk l p 31 0
def valueAt (l : List Word) (p : Point) : Int := (ndAt l (leafOf l p)).value
theorem RT.at {l : List Word} {dim : Int} (h : RT l dim) {i : Nat} (hi : i < l.length) (hl : (ndAt l i).leaf = false) :
    (ndAt l i).feature < dim ∧ (ndAt l i).left ≠ (ndAt l i).right ∧ (i : Int) < (ndAt l i).left ∧ (ndAt l i).left < l.length ∧ (i : Int) < (ndAt l i).right ∧ (ndAt l i).right < l.length := by
  rw [ndAt_lt hi] at *
  exact h.inner i hi hl
theorem RT.node {l : List Word} {dim : Int} (h : RT l dim) {i : Nat} (hi : i < l.length) : rightNode (ndAt l i) = true := by
  rw [ndAt_lt hi]
  exact (unpack_true (h.ok i hi).2).1
theorem RT.feature {l : List Word} {dim : Int} (h : RT l dim) {i : Nat} (hi : i < l.length) (hl : (ndAt l i).leaf = false) : 0 ≤ (ndAt l i).feature ∧ (ndAt l i).feature < 4 := by
  have := h.node hi
  unfold rightNode at this
  rw [hl] at this
  simp only [Bool.false_eq_true, if_false, Bool.and_eq_true, decide_eq_true_eq] at this
  omega
theorem RT.value {l : List Word} {dim : Int} (h : RT l dim) {i : Nat} (hi : i < l.length) : fits (ndAt l i).value = true := by
  have := h.node hi
  unfold rightNode at this
  cases hl : (ndAt l i).leaf
  · rw [hl] at this
    simp only [Bool.false_eq_true, if_false, Bool.and_eq_true, decide_eq_true_eq] at this
    rw [this.1.1.1.1.1.1.1]
    rfl
  · rw [hl] at this
    simp only [if_true, Bool.and_eq_true, decide_eq_true_eq] at this
    exact this.1.1.1.1
theorem RT.cutOk {l : List Word} {dim : Int} (h : RT l dim) {i : Nat} (hi : i < l.length) : fits (ndAt l i).cut = true := by
  have := h.node hi
  unfold rightNode at this
  cases hl : (ndAt l i).leaf
  · rw [hl] at this
    simp only [Bool.false_eq_true, if_false, Bool.and_eq_true, decide_eq_true_eq] at this
    exact this.1.1.1.1.2
  · rw [hl] at this
    simp only [if_true, Bool.and_eq_true, decide_eq_true_eq] at this
    rw [this.1.1.2]
    rfl
theorem nxt_lt {l : List Word} {dim : Int} (h : RT l dim) {i : Nat} (hi : i < l.length) (hl : (ndAt l i).leaf = false) (p : Point) : i < nxt (ndAt l i) p ∧ nxt (ndAt l i) p < l.length := by
  have := h.at hi hl
  unfold nxt
  split <;> omega
theorem walk_leaf {l : List Word} {dim : Int} (h : RT l dim) (p : Point) : ∀ (f i : Nat), i < l.length → l.length ≤ f + i → walk l p f i < l.length ∧ (ndAt l (walk l p f i)).leaf = true
  | 0, i, h1, h2 => by omega
  | f + 1, i, h1, h2 => by
    unfold walk
    cases hl : (ndAt l i).leaf
    · simp only [Bool.false_eq_true, if_false]
      have := nxt_lt h h1 hl p
      exact walk_leaf h p f _ this.2 (by omega)
    · simp only [if_true]
      exact ⟨h1, hl⟩
theorem leafOf_lt {l : List Word} {dim : Int} (h : RT l dim) (p : Point) : leafOf l p < l.length ∧ (ndAt l (leafOf l p)).leaf = true :=
  walk_leaf h p 31 0 (by have := h.pos; omega) (by have := h.le; omega)
theorem valueAt_fits {l : List Word} {dim : Int} (h : RT l dim) (p : Point) : fits (valueAt l p) = true := h.value (leafOf_lt h p).1
inductive Reach (l : List Word) (p : Point) : Nat → Prop
  | root : Reach l p 0
  | step {i : Nat} : Reach l p i → (ndAt l i).leaf = false → Reach l p (nxt (ndAt l i) p)
theorem Reach.lt {l : List Word} {dim : Int} (h : RT l dim) {p : Point} {j : Nat} (hr : Reach l p j) : j < l.length := by
  induction hr with
  | root => have := h.pos; omega
  | step hr hl ih => exact (nxt_lt h ih hl p).2
theorem Reach.walk {l : List Word} {dim : Int} (h : RT l dim) {p : Point} {j : Nat} (hr : Reach l p j) : ∃ f, 31 ≤ f + j ∧ leafOf l p = walk l p f j := by
  induction hr with
  | root => exact ⟨31, by omega, rfl⟩
  | @step i hr hl ih =>
    obtain ⟨f, hf, hw⟩ := ih
    have hi := hr.lt h
    have hle := h.le
    cases f with
    | zero => omega
    | succ f =>
      refine ⟨f, ?_, ?_⟩
      · have := (nxt_lt h hi hl p).1
        omega
      · rw [hw, Co.walk, hl]
        rfl
theorem Reach.leaf {l : List Word} {dim : Int} (h : RT l dim) {p : Point} {j : Nat} (hr : Reach l p j) (hl : (ndAt l j).leaf = true) : leafOf l p = j := by
  obtain ⟨f, hf, hw⟩ := hr.walk h
  rw [hw]
  cases f with
  | zero => rfl
  | succ f => rw [Co.walk, hl]; rfl
theorem reach_walk {l : List Word} {p : Point} : ∀ (f i : Nat), Reach l p i → Reach l p (walk l p f i)
  | 0, _, h => h
  | f + 1, i, h => by
    unfold walk
    cases hl : (ndAt l i).leaf
    · simp only [Bool.false_eq_true, if_false]
      exact reach_walk f _ (h.step hl)
    · simp only [if_true]
      exact h
theorem reach_leaf (l : List Word) (p : Point) : Reach l p (leafOf l p) := reach_walk 31 0 .root
theorem countP_one {α : Type} (f : α → Bool) : ∀ (l : List α) (i k : Nat) (hi : i < l.length) (hk : k < l.length), f l[i] = true → f l[k] = true → l.countP f = 1 → i = k
  | [], i, _, hi, _, _, _, _ => by simp at hi
  | a :: l, i, k, hi, hk, h1, h2, h => by
    rw [List.countP_cons] at h
    by_cases ha : f a = true
    · have h0 : l.countP f = 0 := by simp [ha] at h; simpa using h
      rw [List.countP_eq_zero] at h0
      cases i with
      | zero => cases k with
        | zero => rfl
        | succ k => exact (h0 _ (List.getElem_mem _) h2).elim
      | succ i => exact (h0 _ (List.getElem_mem _) h1).elim
    · cases i with
      | zero => exact (ha h1).elim
      | succ i => cases k with
        | zero => exact (ha h2).elim
        | succ k =>
          have : l.countP f = 1 := by simp [ha] at h; exact h
          rw [countP_one f l i k (by simpa using hi) (by simpa using hk) h1 h2 this]
theorem RT.unique {l : List Word} {dim : Int} (h : RT l dim) {i k j : Nat} (hi : i < l.length) (hk : k < l.length) (hj : 1 ≤ j) (hj2 : j < l.length) (h1 : names (ndAt l i) j = true) (h2 : names (ndAt l k) j = true) : i = k := by
  rw [ndAt_lt hi] at h1
  rw [ndAt_lt hk] at h2
  exact countP_one (fun w => names (nd w) j) l i k hi hk h1 h2 (h.once j hj hj2)
theorem RT.parent {l : List Word} {dim : Int} (h : RT l dim) {j : Nat} (hj : 1 ≤ j) (hj2 : j < l.length) : ∃ i, i < j ∧ (ndAt l i).leaf = false ∧ ((ndAt l i).left = j ∨ (ndAt l i).right = j) := by
  have h1 := h.once j hj hj2
  have h2 : 0 < l.countP (fun w => names (nd w) j) := by omega
  rw [List.countP_pos_iff] at h2
  obtain ⟨w, hw, hn⟩ := h2
  obtain ⟨i, hi, rfl⟩ := List.getElem_of_mem hw
  rw [← ndAt_lt hi] at hn
  unfold names at hn
  simp only [Bool.and_eq_true, Bool.not_eq_true', Bool.or_eq_true, decide_eq_true_eq] at hn
  have := h.at hi hn.1
  exact ⟨i, by omega, hn.1, hn.2⟩
def up (f : Nat → Box) (i : Nat) (b : Box) : Nat → Box := fun j => if j = i then b else f j
def zeroB : Box := ⟨⟨0, 0⟩, ⟨0, 0⟩, ⟨0, 0⟩, ⟨0, 0⟩, ⟨0, 0⟩⟩
def ownF (l : List Word) (b : Box) : Nat → Nat → Box
  | 0 => up (fun _ => zeroB) 0 b
  | i + 1 => if (ndAt l i).leaf then ownF l b i else
      up (up (ownF l b i) (ndAt l i).left.toNat (cutB (ownF l b i i) (ndAt l i).feature (ndAt l i).cut).1) (ndAt l i).right.toNat (cutB (ownF l b i i) (ndAt l i).feature (ndAt l i).cut).2
def own (l : List Word) (b : Box) (j : Nat) : Box := ownF l b j j
theorem own_root {l : List Word} (b : Box) : own l b 0 = b := rfl
theorem own_child {l : List Word} {dim : Int} (h : RT l dim) (b : Box) {i : Nat} (hi : i < l.length) (hl : (ndAt l i).leaf = false) :
    own l b (ndAt l i).left.toNat = (cutB (own l b i) (ndAt l i).feature (ndAt l i).cut).1 ∧ own l b (ndAt l i).right.toNat = (cutB (own l b i) (ndAt l i).feature (ndAt l i).cut).2 := by
  have ha := h.at hi hl
  have key : ∀ (j : Nat), names (ndAt l i) j = true → i < j → j < l.length → ∀ m, i + 1 + m ≤ l.length → ownF l b (i + 1 + m) j = ownF l b (i + 1) j := by
    intro j hn hj hj2 m hm
    induction m with
    | zero => rfl
    | succ m ih =>
      have h0 := ih (by omega)
      rw [← h0]
      have h1 : names (ndAt l (i + 1 + m)) j = false := by
        cases hc : names (ndAt l (i + 1 + m)) j
        · rfl
        · have := h.unique hi (show i + 1 + m < l.length by omega) (show 1 ≤ j by omega) hj2 hn hc
          omega
      show ownF l b (i + 1 + m + 1) j = _
      rw [ownF]
      cases hl2 : (ndAt l (i + 1 + m)).leaf
      · have h2 := h.at (show i + 1 + m < l.length by omega) hl2
        simp only [names, hl2, Bool.not_false, Bool.true_and, Bool.or_eq_false_iff, decide_eq_false_iff_not] at h1
        simp only [Bool.false_eq_true, if_false, up]
        rw [if_neg (by omega), if_neg (by omega)]
      · simp only [if_true]
  have k1 := key (ndAt l i).left.toNat (by simp [names, hl]; omega) (by omega) (by omega) ((ndAt l i).left.toNat - (i + 1)) (by omega)
  have k2 := key (ndAt l i).right.toNat (by simp [names, hl]; omega) (by omega) (by omega) ((ndAt l i).right.toNat - (i + 1)) (by omega)
  rw [show i + 1 + ((ndAt l i).left.toNat - (i + 1)) = (ndAt l i).left.toNat by omega] at k1
  rw [show i + 1 + ((ndAt l i).right.toNat - (i + 1)) = (ndAt l i).right.toNat by omega] at k2
  unfold own
  rw [k1, k2, ownF, hl]
  simp only [Bool.false_eq_true, if_false, up]
  rw [if_neg (by omega)]
  simp
theorem own_iff {l : List Word} {dim : Int} (h : RT l dim) (b : Box) (p : Point) (t : Int) : ∀ j, j < l.length → (InB (own l b j) p t ↔ InB b p t ∧ Reach l p j) := by
  intro j
  induction j using Nat.strongRecOn with
  | _ j ih =>
    intro hj
    by_cases h0 : j = 0
    · subst h0
      rw [own_root]
      exact ⟨fun hb => ⟨hb, .root⟩, fun hb => hb.1⟩
    · obtain ⟨i, hi, hl, hn⟩ := h.parent (show 1 ≤ j by omega) hj
      have hi2 : i < l.length := by omega
      have hc := own_child h b hi2 hl
      have hf := h.feature hi2 hl
      have ha := h.at hi2 hl
      have hnm : names (ndAt l i) j = true := by
        unfold names
        simp only [hl, Bool.not_false, Bool.true_and, Bool.or_eq_true, decide_eq_true_eq]
        exact hn
      have back : Reach l p j → Reach l p i ∧ nxt (ndAt l i) p = j := by
        intro hr
        cases hr with
        | root => exact (h0 rfl).elim
        | @step i' hr hl' =>
          have hi' := hr.lt h
          have ha' := h.at hi' hl'
          have h3 : names (ndAt l i') (nxt (ndAt l i') p) = true := by
            unfold names nxt
            simp only [hl', Bool.not_false, Bool.true_and, Bool.or_eq_true, decide_eq_true_eq]
            split
            · exact Or.inl (by omega)
            · exact Or.inr (by omega)
          have := h.unique hi2 hi' (by omega) hj hnm h3
          subst this
          exact ⟨hr, rfl⟩
      rcases hn with hn | hn
      · have e : j = (ndAt l i).left.toNat := by omega
        have h4 : own l b j = (cutB (own l b i) (ndAt l i).feature (ndAt l i).cut).1 := by rw [e]; exact hc.1
        rw [h4, cutB_1 _ hf, ih i hi hi2]
        constructor
        · rintro ⟨⟨h5, h6⟩, h7⟩
          refine ⟨h5, ?_⟩
          have := h6.step hl
          unfold nxt at this
          rw [if_pos h7] at this
          rw [e]
          exact this
        · rintro ⟨h5, h6⟩
          obtain ⟨h7, h8⟩ := back h6
          refine ⟨⟨h5, h7⟩, ?_⟩
          unfold nxt at h8
          split at h8
          · assumption
          · omega
      · have e : j = (ndAt l i).right.toNat := by omega
        have h4 : own l b j = (cutB (own l b i) (ndAt l i).feature (ndAt l i).cut).2 := by rw [e]; exact hc.2
        rw [h4, cutB_2 _ hf, ih i hi hi2]
        constructor
        · rintro ⟨⟨h5, h6⟩, h7⟩
          refine ⟨h5, ?_⟩
          have := h6.step hl
          unfold nxt at this
          rw [if_neg (by omega)] at this
          rw [e]
          exact this
        · rintro ⟨h5, h6⟩
          obtain ⟨h7, h8⟩ := back h6
          refine ⟨⟨h5, h7⟩, ?_⟩
          unfold nxt at h8
          split at h8
          · omega
          · omega
def pieceAt (l : List Word) (b : Box) (i : Nat) : Option Piece := if (ndAt l i).leaf && !(own l b i).empty then some ⟨own l b i, (ndAt l i).value⟩ else none
def pieces (l : List Word) (b : Box) : List Piece := (List.range l.length).filterMap (pieceAt l b)
theorem mem_pieces {l : List Word} {b : Box} {x : Piece} : x ∈ pieces l b ↔ ∃ i, i < l.length ∧ (ndAt l i).leaf = true ∧ (own l b i).empty = false ∧ x = ⟨own l b i, (ndAt l i).value⟩ := by
  unfold pieces
  rw [List.mem_filterMap]
  constructor
  · rintro ⟨i, hi, h⟩
    rw [List.mem_range] at hi
    unfold pieceAt at h
    split at h
    · rename_i hc
      simp only [Bool.and_eq_true, Bool.not_eq_true'] at hc
      cases h
      exact ⟨i, hi, hc.1, hc.2, rfl⟩
    · cases h
  · rintro ⟨i, hi, h1, h2, rfl⟩
    refine ⟨i, List.mem_range.2 hi, ?_⟩
    unfold pieceAt
    rw [h1, h2]
    rfl
theorem piece_of {l : List Word} {dim : Int} (h : RT l dim) {b : Box} {p : Point} {t : Int} (hp : InB b p t) : ∃ x ∈ pieces l b, InB x.box p t ∧ x.value = valueAt l p := by
  have h1 := leafOf_lt h p
  have h2 := (own_iff h b p t _ h1.1).2 ⟨hp, reach_leaf l p⟩
  exact ⟨⟨own l b (leafOf l p), valueAt l p⟩, mem_pieces.2 ⟨_, h1.1, h1.2, empty_false.2 ⟨p, t, h2⟩, rfl⟩, h2, rfl⟩
theorem piece_in {l : List Word} {dim : Int} (h : RT l dim) {b : Box} {x : Piece} (hx : x ∈ pieces l b) {p : Point} {t : Int} (hp : InB x.box p t) : InB b p t ∧ valueAt l p = x.value := by
  obtain ⟨i, hi, hl, he, rfl⟩ := mem_pieces.1 hx
  have := (own_iff h b p t i hi).1 hp
  refine ⟨this.1, ?_⟩
  unfold valueAt
  rw [this.2.leaf h hl]
end Go.Co
/- CO: sums, bounds. -/
namespace Go.Co
theorem max2_le {a b : Int} : a ≤ max2 a b ∧ b ≤ max2 a b ∧ (max2 a b = a ∨ max2 a b = b) := by unfold max2; split <;> omega
def evalF (c : Int) (p : Point) (s : Int) (t : Tree) : Int := if t.cls = c then s + valueAt t.nodes p else s
def evalM (m : Model) (c : Int) (p : Point) : Int := m.trees.foldl (evalF c p) (m.bias.get c)
theorem Bias.get_fits {m : Model} (h : RM m) (c : Int) : fits (m.bias.get c) = true := by
  unfold Bias.get
  have := h.bias
  split
  · exact this.1
  · split
    · exact this.2.1
    · exact this.2.2
theorem evalF_le {c : Int} {p : Point} : ∀ (l : List Tree) (s : Int), (∀ t ∈ l, ∃ d, RT t.nodes d) →
    s - 2147483648 * l.length ≤ l.foldl (evalF c p) s ∧ l.foldl (evalF c p) s ≤ s + 2147483647 * l.length
  | [], s, _ => by simp
  | t :: l, s, h => by
    obtain ⟨d, hd⟩ := h t (by simp)
    have h1 := of_fits (valueAt_fits hd p)
    have h2 := evalF_le (c := c) (p := p) l (evalF c p s t) (fun t ht => h t (by simp [ht]))
    have h3 : evalF c p s t = s ∨ evalF c p s t = s + valueAt t.nodes p := by unfold evalF; split <;> simp
    rw [List.foldl_cons, List.length_cons]
    rcases h3 with h3 | h3 <;> rw [h3] at h2 ⊢ <;> omega
theorem RM.rt {m : Model} (h : RM m) {t : Tree} (ht : t ∈ m.trees) : RT t.nodes m.dim := (h.tree t ht).2.2
def endF (a : Int × Int) (x : Piece) : Int × Int := (min2 a.1 x.value, max2 a.2 x.value)
def ends (ps : List Piece) : Tri Int Int Bool := match ps with
  | [] => ⟨0, 0, false⟩
  | x :: _ => ⟨(ps.foldl endF (x.value, x.value)).1, (ps.foldl endF (x.value, x.value)).2, true⟩
def Span.has (s : Span) (n : Int) : Bool := decide (s.lo ≤ n) && decide (n ≤ s.hi)
end Go.Co
