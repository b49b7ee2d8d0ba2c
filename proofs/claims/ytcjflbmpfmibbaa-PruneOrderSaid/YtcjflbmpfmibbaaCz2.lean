/- CO: texts of this claim, one behind the other. -/
import Derived.Test.YtcjflbmpfmibbaaCz1
/- CO: numbers of 32 bits. -/
namespace Go.Co
open Go.Am Go.Proofs
set_option linter.unusedSimpArgs false
set_option linter.unusedVariables false
def c126_0 : ACode := .ops [⟨some 4, .mv (.c (.bool false)), none, []⟩] [0, 1]
theorem r126_0 : type_of% (@rr _ _ c126_0.eq_1) := rr rfl
def c126_1 : ACode := .ops [⟨some 6, .mv (.t 1), none, []⟩,⟨some 7, .bin .lss (.t 6) (.c (.int .i64 1)), none, []⟩,⟨some 8, .mv (.t 7), none, []⟩,⟨some 9, .mv (.t 1), some (8, false), []⟩,⟨some 10, .bin .gtr (.t 9) (.c (.int .i64 64)), some (8, false), []⟩,⟨some 11, .pick (.t 8) (.c (.bool true)) (.t 10), none, []⟩] [0, 1, 11]
theorem r126_1 : type_of% (@rr _ _ c126_1.eq_1) := rr rfl
def c126_2 : ACode := .ops [⟨some 4, .mv (.c (.bool false)), none, []⟩] [4]
theorem r126_2 : type_of% (@rr _ _ c126_2.eq_1) := rr rfl
def c126_3 : ACode := .seq c126_2 .ret
theorem r126_3 : type_of% (@rr _ _ c126_3.eq_1) := rr rfl
def c126_4 : ACode := .cond (.t 11) c126_3 .skip
theorem r126_4 : type_of% (@rr _ _ c126_4.eq_1) := rr rfl
def c126_5 : ACode := .seq c126_1 c126_4
theorem r126_5 : type_of% (@rr _ _ c126_5.eq_1) := rr rfl
def c126_6 : ACode := .ops [⟨some 12, .mv (.t 1), none, []⟩,⟨some 13, .bin .eql (.t 12) (.c (.int .i64 64)), none, []⟩] [0, 1, 13]
theorem r126_6 : type_of% (@rr _ _ c126_6.eq_1) := rr rfl
def c126_7 : ACode := .ops [⟨some 4, .mv (.c (.bool true)), none, []⟩] [4]
theorem r126_7 : type_of% (@rr _ _ c126_7.eq_1) := rr rfl
def c126_8 : ACode := .seq c126_7 .ret
theorem r126_8 : type_of% (@rr _ _ c126_8.eq_1) := rr rfl
def c126_9 : ACode := .cond (.t 13) c126_8 .skip
theorem r126_9 : type_of% (@rr _ _ c126_9.eq_1) := rr rfl
def c126_10 : ACode := .seq c126_6 c126_9
theorem r126_10 : type_of% (@rr _ _ c126_10.eq_1) := rr rfl
def c126_11 : ACode := .ops [⟨some 14, .mv (.t 1), none, []⟩,⟨some 15, .bin .sub (.t 14) (.c (.int .i64 1)), none, []⟩,⟨some 16, .bin .shl (.c (.int .i64 1)) (.t 15), none, []⟩,⟨some 5, .mv (.t 16), none, []⟩] [0, 5]
theorem r126_11 : type_of% (@rr _ _ c126_11.eq_1) := rr rfl
def c126_12 : ACode := .ops [⟨some 17, .mv (.t 0), none, []⟩,⟨some 18, .mv (.t 5), none, []⟩,⟨some 19, .un .neg (.t 18), none, []⟩,⟨some 20, .bin .geq (.t 17) (.t 19), none, []⟩,⟨some 21, .mv (.t 20), none, []⟩,⟨some 22, .mv (.t 0), some (21, true), []⟩,⟨some 23, .mv (.t 5), some (21, true), []⟩,⟨some 24, .bin .sub (.t 23) (.c (.int .i64 1)), some (21, true), []⟩,⟨some 25, .bin .leq (.t 22) (.t 24), some (21, true), []⟩,⟨some 26, .pick (.t 21) (.t 25) (.c (.bool false)), none, []⟩,⟨some 4, .mv (.t 26), none, []⟩] [4]
theorem r126_12 : type_of% (@rr _ _ c126_12.eq_1) := rr rfl
def c126_13 : ACode := .seq c126_12 .ret
theorem r126_13 : type_of% (@rr _ _ c126_13.eq_1) := rr rfl
def c126_14 : ACode := .seq c126_11 c126_13
theorem r126_14 : type_of% (@rr _ _ c126_14.eq_1) := rr rfl
def c126_15 : ACode := .seq c126_10 c126_14
theorem r126_15 : type_of% (@rr _ _ c126_15.eq_1) := rr rfl
def c126_16 : ACode := .seq c126_5 c126_15
theorem r126_16 : type_of% (@rr _ _ c126_16.eq_1) := rr rfl
def c126_17 : ACode := .seq c126_0 c126_16
theorem r126_17 : type_of% (@rr _ _ c126_17.eq_1) := rr rfl
def a126 : AFun := ⟨2, 27, c126_17, [.t 4]⟩
attribute [simp] r126_0 r126_1 r126_2 r126_3 r126_4 r126_5 r126_6 r126_7 r126_8 r126_9 r126_10 r126_11 r126_12 r126_13 r126_14 r126_15 r126_16 r126_17
theorem m126 : mFun Try.prog Try.f126 a126 = true := by decide +kernel
def c75_0 : ACode := .ops [⟨some 4, .mv (.c (.bool false)), none, []⟩] [0, 1]
theorem r75_0 : type_of% (@rr _ _ c75_0.eq_1) := rr rfl
def c75_1 : ACode := .ops [⟨some 5, .mv (.t 1), none, []⟩,⟨some 6, .bin .lss (.t 5) (.c (.int .i64 1)), none, []⟩,⟨some 7, .mv (.t 6), none, []⟩,⟨some 8, .mv (.t 1), some (7, false), []⟩,⟨some 9, .bin .gtr (.t 8) (.c (.int .i64 64)), some (7, false), []⟩,⟨some 10, .pick (.t 7) (.c (.bool true)) (.t 9), none, []⟩] [0, 1, 10]
theorem r75_1 : type_of% (@rr _ _ c75_1.eq_1) := rr rfl
def c75_2 : ACode := .ops [⟨some 4, .mv (.c (.bool false)), none, []⟩] [4]
theorem r75_2 : type_of% (@rr _ _ c75_2.eq_1) := rr rfl
def c75_3 : ACode := .seq c75_2 .ret
theorem r75_3 : type_of% (@rr _ _ c75_3.eq_1) := rr rfl
def c75_4 : ACode := .cond (.t 10) c75_3 .skip
theorem r75_4 : type_of% (@rr _ _ c75_4.eq_1) := rr rfl
def c75_5 : ACode := .seq c75_1 c75_4
theorem r75_5 : type_of% (@rr _ _ c75_5.eq_1) := rr rfl
def c75_6 : ACode := .ops [⟨some 11, .mv (.t 0), none, []⟩,⟨some 12, .mv (.t 1), none, []⟩,⟨some 13, .bin .sub (.t 12) (.c (.int .i64 1)), none, []⟩,⟨some 14, .conv .u64 (.t 13), none, []⟩,⟨some 15, .bin .shr (.t 11) (.t 14), none, []⟩,⟨some 16, .bin .eql (.t 15) (.c (.int .i64 0)), none, []⟩,⟨some 17, .mv (.t 16), none, []⟩,⟨some 18, .mv (.t 0), some (17, false), []⟩,⟨some 19, .mv (.t 1), some (17, false), []⟩,⟨some 20, .bin .sub (.t 19) (.c (.int .i64 1)), some (17, false), []⟩,⟨some 21, .conv .u64 (.t 20), some (17, false), []⟩,⟨some 22, .bin .shr (.t 18) (.t 21), some (17, false), []⟩,⟨some 23, .bin .eql (.t 22) (.c (.int .i64 (-1))), some (17, false), []⟩,⟨some 24, .pick (.t 17) (.c (.bool true)) (.t 23), none, []⟩,⟨some 4, .mv (.t 24), none, []⟩] [4]
theorem r75_6 : type_of% (@rr _ _ c75_6.eq_1) := rr rfl
def c75_7 : ACode := .seq c75_6 .ret
theorem r75_7 : type_of% (@rr _ _ c75_7.eq_1) := rr rfl
def c75_8 : ACode := .seq c75_5 c75_7
theorem r75_8 : type_of% (@rr _ _ c75_8.eq_1) := rr rfl
def c75_9 : ACode := .seq c75_0 c75_8
theorem r75_9 : type_of% (@rr _ _ c75_9.eq_1) := rr rfl
def a75 : AFun := ⟨2, 25, c75_9, [.t 4]⟩
attribute [simp] r75_0 r75_1 r75_2 r75_3 r75_4 r75_5 r75_6 r75_7 r75_8 r75_9
theorem m75 : mFun Try.prog Try.f75 a75 = true := by decide +kernel
def c119_0 : ACode := .ops [⟨some 4, .mv (.c (.int .i64 0)), none, []⟩] [0, 1]
theorem r119_0 : type_of% (@rr _ _ c119_0.eq_1) := rr rfl
def c119_1 : ACode := .ops [⟨some 6, .mv (.t 1), none, []⟩,⟨some 7, .bin .lss (.t 6) (.c (.int .i64 1)), none, []⟩,⟨some 8, .mv (.t 7), none, []⟩,⟨some 9, .mv (.t 1), some (8, false), []⟩,⟨some 10, .bin .geq (.t 9) (.c (.int .i64 64)), some (8, false), []⟩,⟨some 11, .pick (.t 8) (.c (.bool true)) (.t 10), none, []⟩] [0, 1, 11]
theorem r119_1 : type_of% (@rr _ _ c119_1.eq_1) := rr rfl
def c119_2 : ACode := .ops [⟨some 12, .mv (.t 0), none, []⟩,⟨some 4, .mv (.t 12), none, []⟩] [4]
theorem r119_2 : type_of% (@rr _ _ c119_2.eq_1) := rr rfl
def c119_3 : ACode := .seq c119_2 .ret
theorem r119_3 : type_of% (@rr _ _ c119_3.eq_1) := rr rfl
def c119_4 : ACode := .cond (.t 11) c119_3 .skip
theorem r119_4 : type_of% (@rr _ _ c119_4.eq_1) := rr rfl
def c119_5 : ACode := .seq c119_1 c119_4
theorem r119_5 : type_of% (@rr _ _ c119_5.eq_1) := rr rfl
def c119_6 : ACode := .ops [⟨some 13, .mv (.t 1), none, []⟩,⟨some 14, .bin .sub (.c (.int .i64 64)) (.t 13), none, []⟩,⟨some 15, .conv .u64 (.t 14), none, []⟩,⟨some 5, .mv (.t 15), none, []⟩] [0, 5]
theorem r119_6 : type_of% (@rr _ _ c119_6.eq_1) := rr rfl
def c119_7 : ACode := .ops [⟨some 16, .mv (.t 0), none, []⟩,⟨some 17, .mv (.t 5), none, []⟩,⟨some 18, .bin .shl (.t 16) (.t 17), none, []⟩,⟨some 19, .mv (.t 5), none, []⟩,⟨some 20, .bin .shr (.t 18) (.t 19), none, []⟩,⟨some 4, .mv (.t 20), none, []⟩] [4]
theorem r119_7 : type_of% (@rr _ _ c119_7.eq_1) := rr rfl
def c119_8 : ACode := .seq c119_7 .ret
theorem r119_8 : type_of% (@rr _ _ c119_8.eq_1) := rr rfl
def c119_9 : ACode := .seq c119_6 c119_8
theorem r119_9 : type_of% (@rr _ _ c119_9.eq_1) := rr rfl
def c119_10 : ACode := .seq c119_5 c119_9
theorem r119_10 : type_of% (@rr _ _ c119_10.eq_1) := rr rfl
def c119_11 : ACode := .seq c119_0 c119_10
theorem r119_11 : type_of% (@rr _ _ c119_11.eq_1) := rr rfl
def a119 : AFun := ⟨2, 21, c119_11, [.t 4]⟩
attribute [simp] r119_0 r119_1 r119_2 r119_3 r119_4 r119_5 r119_6 r119_7 r119_8 r119_9 r119_10 r119_11
theorem m119 : mFun Try.prog Try.f119 a119 = true := by decide +kernel
def Fits (n w : Int) : Option Bool := if w = 32 then some (fits n) else none
theorem runs_rFits (n w : Int) (c : Bool) (h : Fits n w = some c) : Runs (tbl []) a126 [Arg.enc n, Arg.enc w] (Arg.enc c) := by
  unfold Fits at h
  split at h
  · rename_i hw
    subst hw
    cases h
    refine ⟨rfl, fun g => run_def ?_⟩
    unfold a126
    by_cases h1 : -2147483648 ≤ n <;> simp [fits, IntKind.wrap, IntKind.bits, IntKind.signed, ishl, ishr, h1]
  · cases h
theorem runs_Fits (n w : Int) (c : Bool) (h : Fits n w = some c) : Runs (tbl []) a75 [Arg.enc n, Arg.enc w] (Arg.enc c) := by
  unfold Fits at h
  split at h
  · rename_i hw
    subst hw
    cases h
    refine ⟨rfl, fun g => run_def ?_⟩
    have e : fits n = (decide (n.fdiv 2147483648 = 0) || decide (n.fdiv 2147483648 = -1)) := by
      unfold fits
      have := Int.fdiv_eq_ediv_of_nonneg n (show (0 : Int) ≤ 2147483648 by omega)
      rw [this]
      by_cases h1 : n / 2147483648 = 0
      · simp [h1]; omega
      · by_cases h2 : n / 2147483648 = -1
        · simp [h2]; omega
        · simp [h1, h2]; omega
    unfold a75
    rw [e]
    by_cases h1 : n.fdiv 2147483648 = 0 <;> simp [IntKind.wrap, IntKind.bits, IntKind.signed, ishl, ishr, h1]
  · cases h
def Wrap (n w : Int) : Option Int := if w = 32 ∧ -9223372036854775808 ≤ n ∧ n ≤ 9223372036854775807 then some (wrap32 n) else none
theorem runs_Wrap (n w c : Int) (h : Wrap n w = some c) : Runs (tbl []) a119 [Arg.enc n, Arg.enc w] (Arg.enc c) := by
  unfold Wrap at h
  split at h
  · rename_i hw
    obtain ⟨rfl, h1, h2⟩ := hw
    cases h
    refine ⟨rfl, fun g => run_def ?_⟩
    unfold a119
    simp [wrap32, IntKind.wrap, IntKind.bits, IntKind.signed, ishl, ishr]
    rw [Int.fdiv_eq_ediv_of_nonneg _ (by omega)]
    split <;> omega
  · cases h
theorem c_rFits : Contract Try.prog 126 (sp2 Fits) := contract_of_runs mixed tbl_nil Try.func126 m126 (sp2_runs runs_rFits)
theorem c_Fits : Contract Try.prog 75 (sp2 Fits) := contract_of_runs mixed tbl_nil Try.func75 m75 (sp2_runs runs_Fits)
theorem c_Wrap : Contract Try.prog 119 (sp2 Wrap) := contract_of_runs mixed tbl_nil Try.func119 m119 (sp2_runs runs_Wrap)
def c118_0 : ACode := .ops [⟨some 1, .box (.t 0) 6, none, []⟩,⟨some 2, .mv (.c (.bool false)), none, []⟩] [1]
theorem r118_0 : type_of% (@rr _ _ c118_0.eq_1) := rr rfl
def c118_1 : ACode := .ops [⟨some 3, .fad (.t 1) 0, none, [1]⟩,⟨some 4, .load 1 false (.t 3), none, [1]⟩] [1, 4]
theorem r118_1 : type_of% (@rr _ _ c118_1.eq_1) := rr rfl
def c118_2 : ACode := .ops [⟨some 5, .fad (.t 1) 1, none, [1]⟩,⟨some 6, .load 1 false (.t 5), none, [1]⟩,⟨some 7, .call 126 [.t 6, .c (.int .i64 32)], none, []⟩,⟨some 8, .mv (.t 7), none, []⟩,⟨some 9, .fad (.t 1) 2, some (8, true), [1]⟩,⟨some 10, .load 1 false (.t 9), some (8, true), [1]⟩,⟨some 11, .bin .eql (.t 10) (.c (.int .i64 0)), some (8, true), []⟩,⟨some 12, .pick (.t 8) (.t 11) (.c (.bool false)), none, []⟩,⟨some 13, .mv (.t 12), none, []⟩,⟨some 14, .fad (.t 1) 3, some (13, true), [1]⟩,⟨some 15, .load 1 false (.t 14), some (13, true), [1]⟩,⟨some 16, .bin .eql (.t 15) (.c (.int .i64 0)), some (13, true), []⟩,⟨some 17, .pick (.t 13) (.t 16) (.c (.bool false)), none, []⟩,⟨some 18, .mv (.t 17), none, []⟩,⟨some 19, .fad (.t 1) 4, some (18, true), [1]⟩,⟨some 20, .load 1 false (.t 19), some (18, true), [1]⟩,⟨some 21, .bin .eql (.t 20) (.c (.int .i64 0)), some (18, true), []⟩,⟨some 22, .pick (.t 18) (.t 21) (.c (.bool false)), none, []⟩,⟨some 23, .mv (.t 22), none, []⟩,⟨some 24, .fad (.t 1) 5, some (23, true), [1]⟩,⟨some 25, .load 1 false (.t 24), some (23, true), [1]⟩,⟨some 26, .bin .eql (.t 25) (.c (.int .i64 0)), some (23, true), []⟩,⟨some 27, .pick (.t 23) (.t 26) (.c (.bool false)), none, []⟩,⟨some 2, .mv (.t 27), none, []⟩] [2]
theorem r118_2 : type_of% (@rr _ _ c118_2.eq_1) := rr rfl
def c118_3 : ACode := .seq c118_2 .ret
theorem r118_3 : type_of% (@rr _ _ c118_3.eq_1) := rr rfl
def c118_4 : ACode := .cond (.t 4) c118_3 .skip
theorem r118_4 : type_of% (@rr _ _ c118_4.eq_1) := rr rfl
def c118_5 : ACode := .seq c118_1 c118_4
theorem r118_5 : type_of% (@rr _ _ c118_5.eq_1) := rr rfl
def c118_6 : ACode := .ops [⟨some 28, .fad (.t 1) 1, none, [1]⟩,⟨some 29, .load 1 false (.t 28), none, [1]⟩,⟨some 30, .bin .eql (.t 29) (.c (.int .i64 0)), none, []⟩,⟨some 31, .mv (.t 30), none, []⟩,⟨some 32, .fad (.t 1) 2, some (31, true), [1]⟩,⟨some 33, .load 1 false (.t 32), some (31, true), [1]⟩,⟨some 34, .bin .geq (.t 33) (.c (.int .i64 0)), some (31, true), []⟩,⟨some 35, .pick (.t 31) (.t 34) (.c (.bool false)), none, []⟩,⟨some 36, .mv (.t 35), none, []⟩,⟨some 37, .fad (.t 1) 2, some (36, true), [1]⟩,⟨some 38, .load 1 false (.t 37), some (36, true), [1]⟩,⟨some 39, .bin .lss (.t 38) (.c (.int .i64 4)), some (36, true), []⟩,⟨some 40, .pick (.t 36) (.t 39) (.c (.bool false)), none, []⟩,⟨some 41, .mv (.t 40), none, []⟩,⟨some 42, .fad (.t 1) 3, some (41, true), [1]⟩,⟨some 43, .load 1 false (.t 42), some (41, true), [1]⟩,⟨some 44, .call 126 [.t 43, .c (.int .i64 32)], some (41, true), []⟩,⟨some 45, .pick (.t 41) (.t 44) (.c (.bool false)), none, []⟩,⟨some 46, .mv (.t 45), none, []⟩,⟨some 47, .fad (.t 1) 4, some (46, true), [1]⟩,⟨some 48, .load 1 false (.t 47), some (46, true), [1]⟩,⟨some 49, .bin .geq (.t 48) (.c (.int .i64 1)), some (46, true), []⟩,⟨some 50, .pick (.t 46) (.t 49) (.c (.bool false)), none, []⟩,⟨some 51, .mv (.t 50), none, []⟩,⟨some 52, .fad (.t 1) 4, some (51, true), [1]⟩,⟨some 53, .load 1 false (.t 52), some (51, true), [1]⟩,⟨some 54, .bin .lss (.t 53) (.c (.int .i64 31)), some (51, true), []⟩,⟨some 55, .pick (.t 51) (.t 54) (.c (.bool false)), none, []⟩,⟨some 56, .mv (.t 55), none, []⟩,⟨some 57, .fad (.t 1) 5, some (56, true), [1]⟩,⟨some 58, .load 1 false (.t 57), some (56, true), [1]⟩,⟨some 59, .bin .geq (.t 58) (.c (.int .i64 1)), some (56, true), []⟩,⟨some 60, .pick (.t 56) (.t 59) (.c (.bool false)), none, []⟩,⟨some 61, .mv (.t 60), none, []⟩,⟨some 62, .fad (.t 1) 5, some (61, true), [1]⟩,⟨some 63, .load 1 false (.t 62), some (61, true), [1]⟩,⟨some 64, .bin .lss (.t 63) (.c (.int .i64 31)), some (61, true), []⟩,⟨some 65, .pick (.t 61) (.t 64) (.c (.bool false)), none, []⟩,⟨some 2, .mv (.t 65), none, []⟩] [2]
theorem r118_6 : type_of% (@rr _ _ c118_6.eq_1) := rr rfl
def c118_7 : ACode := .seq c118_6 .ret
theorem r118_7 : type_of% (@rr _ _ c118_7.eq_1) := rr rfl
def c118_8 : ACode := .seq c118_5 c118_7
theorem r118_8 : type_of% (@rr _ _ c118_8.eq_1) := rr rfl
def c118_9 : ACode := .seq c118_0 c118_8
theorem r118_9 : type_of% (@rr _ _ c118_9.eq_1) := rr rfl
def a118 : AFun := ⟨1, 66, c118_9, [.t 2]⟩
attribute [simp] r118_0 r118_1 r118_2 r118_3 r118_4 r118_5 r118_6 r118_7 r118_8 r118_9
theorem m118 : mFun Try.prog Try.f118 a118 = true := by decide +kernel
def c68_0 : ACode := .ops [⟨some 1, .box (.t 0) 6, none, []⟩,⟨some 2, .mv (.c (.int .u64 0)), none, []⟩] [1]
theorem r68_0 : type_of% (@rr _ _ c68_0.eq_1) := rr rfl
def c68_1 : ACode := .ops [⟨some 3, .load 6 true (.t 1), none, [1]⟩,⟨some 4, .call 118 [.t 3], none, []⟩,⟨some 5, .un .not (.t 4), none, []⟩] [1, 5]
theorem r68_1 : type_of% (@rr _ _ c68_1.eq_1) := rr rfl
def c68_2 : ACode := .ops [⟨some 2, .mv (.c (.int .u64 0)), none, []⟩] [2]
theorem r68_2 : type_of% (@rr _ _ c68_2.eq_1) := rr rfl
def c68_3 : ACode := .seq c68_2 .ret
theorem r68_3 : type_of% (@rr _ _ c68_3.eq_1) := rr rfl
def c68_4 : ACode := .cond (.t 5) c68_3 .skip
theorem r68_4 : type_of% (@rr _ _ c68_4.eq_1) := rr rfl
def c68_5 : ACode := .seq c68_1 c68_4
theorem r68_5 : type_of% (@rr _ _ c68_5.eq_1) := rr rfl
def c68_6 : ACode := .ops [⟨some 6, .fad (.t 1) 0, none, [1]⟩,⟨some 7, .load 1 false (.t 6), none, [1]⟩] [1, 7]
theorem r68_6 : type_of% (@rr _ _ c68_6.eq_1) := rr rfl
def c68_7 : ACode := .ops [⟨some 8, .fad (.t 1) 1, none, [1]⟩,⟨some 9, .load 1 false (.t 8), none, [1]⟩,⟨some 10, .conv .u64 (.t 9), none, []⟩,⟨some 11, .bin .and (.t 10) (.c (.int .u64 4294967295)), none, []⟩,⟨some 12, .bin .or (.c (.int .u64 9223372036854775808)) (.t 11), none, []⟩,⟨some 2, .mv (.t 12), none, []⟩] [2]
theorem r68_7 : type_of% (@rr _ _ c68_7.eq_1) := rr rfl
def c68_8 : ACode := .seq c68_7 .ret
theorem r68_8 : type_of% (@rr _ _ c68_8.eq_1) := rr rfl
def c68_9 : ACode := .cond (.t 7) c68_8 .skip
theorem r68_9 : type_of% (@rr _ _ c68_9.eq_1) := rr rfl
def c68_10 : ACode := .seq c68_6 c68_9
theorem r68_10 : type_of% (@rr _ _ c68_10.eq_1) := rr rfl
def c68_11 : ACode := .ops [⟨some 13, .fad (.t 1) 3, none, [1]⟩,⟨some 14, .load 1 false (.t 13), none, [1]⟩,⟨some 15, .conv .u64 (.t 14), none, []⟩,⟨some 16, .bin .and (.t 15) (.c (.int .u64 4294967295)), none, []⟩,⟨some 17, .fad (.t 1) 2, none, [1]⟩,⟨some 18, .load 1 false (.t 17), none, [1]⟩,⟨some 19, .conv .u64 (.t 18), none, []⟩,⟨some 20, .bin .shl (.t 19) (.c (.int .u64 32)), none, []⟩,⟨some 21, .bin .or (.t 16) (.t 20), none, []⟩,⟨some 22, .fad (.t 1) 4, none, [1]⟩,⟨some 23, .load 1 false (.t 22), none, [1]⟩,⟨some 24, .conv .u64 (.t 23), none, []⟩,⟨some 25, .bin .shl (.t 24) (.c (.int .u64 40)), none, []⟩,⟨some 26, .bin .or (.t 21) (.t 25), none, []⟩,⟨some 27, .fad (.t 1) 5, none, [1]⟩,⟨some 28, .load 1 false (.t 27), none, [1]⟩,⟨some 29, .conv .u64 (.t 28), none, []⟩,⟨some 30, .bin .shl (.t 29) (.c (.int .u64 48)), none, []⟩,⟨some 31, .bin .or (.t 26) (.t 30), none, []⟩,⟨some 2, .mv (.t 31), none, []⟩] [2]
theorem r68_11 : type_of% (@rr _ _ c68_11.eq_1) := rr rfl
def c68_12 : ACode := .seq c68_11 .ret
theorem r68_12 : type_of% (@rr _ _ c68_12.eq_1) := rr rfl
def c68_13 : ACode := .seq c68_10 c68_12
theorem r68_13 : type_of% (@rr _ _ c68_13.eq_1) := rr rfl
def c68_14 : ACode := .seq c68_5 c68_13
theorem r68_14 : type_of% (@rr _ _ c68_14.eq_1) := rr rfl
def c68_15 : ACode := .seq c68_0 c68_14
theorem r68_15 : type_of% (@rr _ _ c68_15.eq_1) := rr rfl
def a68 : AFun := ⟨1, 32, c68_15, [.t 2]⟩
attribute [simp] r68_0 r68_1 r68_2 r68_3 r68_4 r68_5 r68_6 r68_7 r68_8 r68_9 r68_10 r68_11 r68_12 r68_13 r68_14 r68_15
theorem m68 : mFun Try.prog Try.f68 a68 = true := by decide +kernel
theorem runs_rRightNode (n : Node) (c : Bool) (h : some (rightNode n) = some c) : Runs (tbl [(126, sp2 Fits)]) a118 [Arg.enc n] (Arg.enc c) := by
  cases h
  refine ⟨rfl, fun g => run_def ?_⟩
  obtain ⟨leaf, value, feature, cut, left, right⟩ := n
  unfold a118
  cases leaf
  case false =>
    by_cases h1 : value = 0
    case neg => simp -implicitDefEqProofs [rightNode, Fits, h1]
    by_cases h2 : 0 ≤ feature
    case neg => simp -implicitDefEqProofs [rightNode, Fits, h1, h2]
    by_cases h3 : feature < 4
    case neg => simp -implicitDefEqProofs [rightNode, Fits, h1, h2, h3]
    cases h4 : fits cut
    case false => simp -implicitDefEqProofs [rightNode, Fits, h1, h2, h3, h4]
    by_cases h5 : 1 ≤ left
    case neg => simp -implicitDefEqProofs [rightNode, Fits, h1, h2, h3, h4, h5]
    by_cases h6 : left < 31
    case neg => simp -implicitDefEqProofs [rightNode, Fits, h1, h2, h3, h4, h5, h6]
    by_cases h7 : 1 ≤ right <;> simp -implicitDefEqProofs [rightNode, Fits, h1, h2, h3, h4, h5, h6, h7]
  case true =>
    cases h1 : fits value
    case false => simp -implicitDefEqProofs [rightNode, Fits, h1]
    by_cases h2 : feature = 0
    case neg => simp -implicitDefEqProofs [rightNode, Fits, h1, h2]
    by_cases h3 : cut = 0
    case neg => simp -implicitDefEqProofs [rightNode, Fits, h1, h2, h3]
    by_cases h4 : left = 0 <;> simp -implicitDefEqProofs [rightNode, Fits, h1, h2, h3, h4]
theorem c_rRightNode : Contract Try.prog 118 (sp1 fun n => some (rightNode n)) :=
  contract_of_runs mixed (tbl_cons c_rFits tbl_nil) Try.func118 m118 (sp1_runs runs_rRightNode)
theorem or_low (a b : Int) (k : Nat) (hk : k < 64) (ha : 0 ≤ a) (h1 : a < 2 ^ k) (hb : 0 ≤ b) (h2 : b * 2 ^ k < 18446744073709551616) : ior .u64 a (b * 2 ^ k) = a + b * 2 ^ k := by
  obtain ⟨a, rfl⟩ : ∃ n : Nat, a = n := ⟨a.toNat, by omega⟩
  obtain ⟨b, rfl⟩ : ∃ n : Nat, b = n := ⟨b.toNat, by omega⟩
  have e : ((b : Int) * 2 ^ k) = ((b * 2 ^ k : Nat) : Int) := by simp
  have h1' : a < 2 ^ k := by
    have e2 : ((2 : Int) ^ k) = ((2 ^ k : Nat) : Int) := by simp
    rw [e2] at h1
    omega
  have h64 : (2 : Nat) ^ k ≤ 2 ^ 63 := Nat.pow_le_pow_right (by omega) (by omega)
  rw [e] at h2 ⊢
  have hb2 : b * 2 ^ k < 18446744073709551616 := by omega
  rw [u_or _ _ ⟨by omega, by omega⟩ ⟨by omega, by omega⟩]
  have e3 : ((a : Int)).toNat = a := by omega
  have e4 : (((b * 2 ^ k : Nat) : Int)).toNat = b * 2 ^ k := by omega
  rw [e3, e4, Nat.or_comm, or_apart b a k h1']
  omega
theorem and_low (a : Int) (h : okW a) : iand .u64 a 4294967295 = a % 4294967296 := by
  rw [u_and _ _ h ⟨by omega, by omega⟩]
  have e : (4294967295 : Int).toNat = 4294967295 := rfl
  have := and_mask a.toNat 0 32
  simp at this
  rw [e, this]
  have := h.1
  omega
theorem runs_rPack (n : Node) (c : Word) (h : some (pack n) = some c) : Runs (tbl [(118, sp1 fun n => some (rightNode n))]) a68 [Arg.enc n] (Arg.enc c) := by
  cases h
  refine ⟨rfl, fun g => run_def ?_⟩
  obtain ⟨leaf, value, feature, cut, left, right⟩ := n
  unfold a68
  cases h1 : rightNode ⟨leaf, value, feature, cut, left, right⟩
  case false => simp -implicitDefEqProofs [pack, h1]
  cases leaf
  case true =>
    have e1 : ior .u64 9223372036854775808 (value % 4294967296) = 9223372036854775808 + value % 4294967296 := by
      rw [u_or _ _ ⟨by omega, by omega⟩ ⟨by omega, by omega⟩]
      have e := or_apart 1 (value % 4294967296).toNat 63 (by omega)
      have e2 : (9223372036854775808 : Int).toNat = 1 * 2 ^ 63 := rfl
      rw [e2, e]
      omega
    simp -implicitDefEqProofs [pack, h1, u_conv, and_low _ (okW_mod _), e1]
  case false =>
    have hb := h1
    simp [rightNode] at hb
    have f1 : feature % 18446744073709551616 * 4294967296 % 18446744073709551616 = feature * 2 ^ 32 := by omega
    have f2 : left % 18446744073709551616 * 1099511627776 % 18446744073709551616 = left * 2 ^ 40 := by omega
    have f3 : right % 18446744073709551616 * 281474976710656 % 18446744073709551616 = right * 2 ^ 48 := by omega
    have e1 := or_low (cut % 4294967296) feature 32 (by omega) (by omega) (by omega) (by omega) (by omega)
    have e2 := or_low (cut % 4294967296 + feature * 2 ^ 32) left 40 (by omega) (by omega) (by omega) (by omega) (by omega)
    have e3 := or_low (cut % 4294967296 + feature * 2 ^ 32 + left * 2 ^ 40) right 48 (by omega) (by omega) (by omega) (by omega) (by omega)
    simp -implicitDefEqProofs [pack, h1, u_conv, and_low _ (okW_mod _), f1, f2, f3]
    simp only [Int.reducePow] at e1 e2 e3
    rw [e1, e2, e3]
theorem c_rPack : Contract Try.prog 68 (sp1 fun n => some (pack n)) :=
  contract_of_runs mixed (tbl_cons c_rRightNode tbl_nil) Try.func68 m68 (sp1_runs runs_rPack)
theorem and_15 (a : Int) (h : okW a) : iand .u64 a 15 = a % 16 := by
  rw [u_and _ _ h ⟨by omega, by omega⟩]
  have e : (15 : Int).toNat = 15 := rfl
  have := and_mask a.toNat 0 4
  simp at this
  rw [e, this]
  have := h.1
  omega
theorem and_255 (a : Int) (h : okW a) : iand .u64 a 255 = a % 256 := by
  rw [u_and _ _ h ⟨by omega, by omega⟩]
  have e : (255 : Int).toNat = 255 := rfl
  have := and_mask a.toNat 0 8
  simp at this
  rw [e, this]
  have := h.1
  omega
def Unpack (w : Word) : Option (Node × Bool) := if 0 ≤ w.v ∧ w.v < 18446744073709551616 then some (unpack w) else none
end Go.Co
/- CO: nodes, by the program. -/
namespace Go.Co
open Go.Am Go.Proofs
set_option linter.unusedSimpArgs false
set_option linter.unusedVariables false
def c146_0 : ACode := .ops [⟨some 2, .mv (.c (.bool false)), none, []⟩] [0]
theorem r146_0 : type_of% (@rr _ _ c146_0.eq_1) := rr rfl
def c146_1 : ACode := .ops [⟨some 3, .mv (.t 0), none, []⟩,⟨some 4, .bin .geq (.t 3) (.c (.int .i64 1)), none, []⟩,⟨some 5, .mv (.t 4), none, []⟩,⟨some 6, .mv (.t 0), some (5, true), []⟩,⟨some 7, .bin .lss (.t 6) (.c (.int .i64 31)), some (5, true), []⟩,⟨some 8, .pick (.t 5) (.t 7) (.c (.bool false)), none, []⟩,⟨some 2, .mv (.t 8), none, []⟩] [2]
theorem r146_1 : type_of% (@rr _ _ c146_1.eq_1) := rr rfl
def c146_2 : ACode := .seq c146_1 .ret
theorem r146_2 : type_of% (@rr _ _ c146_2.eq_1) := rr rfl
def c146_3 : ACode := .seq c146_0 c146_2
theorem r146_3 : type_of% (@rr _ _ c146_3.eq_1) := rr rfl
def a146 : AFun := ⟨1, 9, c146_3, [.t 2]⟩
attribute [simp] r146_0 r146_1 r146_2 r146_3
theorem m146 : mFun Try.prog Try.f146 a146 = true := by decide +kernel
def c122_0 : ACode := .ops [⟨some 1, .box (.t 0) 6, none, []⟩,⟨some 2, .mv (.c (.bool false)), none, []⟩] [1]
theorem r122_0 : type_of% (@rr _ _ c122_0.eq_1) := rr rfl
def c122_1 : ACode := .ops [⟨some 3, .fad (.t 1) 0, none, [1]⟩,⟨some 4, .load 1 false (.t 3), none, [1]⟩] [1, 4]
theorem r122_1 : type_of% (@rr _ _ c122_1.eq_1) := rr rfl
def c122_2 : ACode := .ops [⟨some 5, .load 6 true (.t 1), none, [1]⟩,⟨some 6, .fad (.t 1) 1, none, [1]⟩,⟨some 7, .load 1 false (.t 6), none, [1]⟩,⟨some 8, .build [.bool false, .int .i64 0, .int .i64 0, .int .i64 0, .int .i64 0, .int .i64 0] [(0, 1, .c (.bool true)), (1, 1, .t 7)], none, []⟩,⟨some 9, .eqa false [true, false, false, false, false, false] (.t 5) (.t 8), none, []⟩,⟨some 10, .mv (.t 9), none, []⟩,⟨some 11, .fad (.t 1) 1, some (10, true), [1]⟩,⟨some 12, .load 1 false (.t 11), some (10, true), [1]⟩,⟨some 13, .call 75 [.t 12, .c (.int .i64 32)], some (10, true), []⟩,⟨some 14, .pick (.t 10) (.t 13) (.c (.bool false)), none, []⟩,⟨some 2, .mv (.t 14), none, []⟩] [2]
theorem r122_2 : type_of% (@rr _ _ c122_2.eq_1) := rr rfl
def c122_3 : ACode := .seq c122_2 .ret
theorem r122_3 : type_of% (@rr _ _ c122_3.eq_1) := rr rfl
def c122_4 : ACode := .cond (.t 4) c122_3 .skip
theorem r122_4 : type_of% (@rr _ _ c122_4.eq_1) := rr rfl
def c122_5 : ACode := .seq c122_1 c122_4
theorem r122_5 : type_of% (@rr _ _ c122_5.eq_1) := rr rfl
def c122_6 : ACode := .ops [⟨some 15, .fad (.t 1) 1, none, [1]⟩,⟨some 16, .load 1 false (.t 15), none, [1]⟩,⟨some 17, .bin .eql (.t 16) (.c (.int .i64 0)), none, []⟩,⟨some 18, .mv (.t 17), none, []⟩,⟨some 19, .fad (.t 1) 2, some (18, true), [1]⟩,⟨some 20, .load 1 false (.t 19), some (18, true), [1]⟩,⟨some 21, .bin .geq (.t 20) (.c (.int .i64 0)), some (18, true), []⟩,⟨some 22, .pick (.t 18) (.t 21) (.c (.bool false)), none, []⟩,⟨some 23, .mv (.t 22), none, []⟩,⟨some 24, .fad (.t 1) 2, some (23, true), [1]⟩,⟨some 25, .load 1 false (.t 24), some (23, true), [1]⟩,⟨some 26, .bin .lss (.t 25) (.c (.int .i64 4)), some (23, true), []⟩,⟨some 27, .pick (.t 23) (.t 26) (.c (.bool false)), none, []⟩,⟨some 28, .mv (.t 27), none, []⟩,⟨some 29, .fad (.t 1) 3, some (28, true), [1]⟩,⟨some 30, .load 1 false (.t 29), some (28, true), [1]⟩,⟨some 31, .call 75 [.t 30, .c (.int .i64 32)], some (28, true), []⟩,⟨some 32, .pick (.t 28) (.t 31) (.c (.bool false)), none, []⟩,⟨some 33, .mv (.t 32), none, []⟩,⟨some 34, .fad (.t 1) 4, some (33, true), [1]⟩,⟨some 35, .load 1 false (.t 34), some (33, true), [1]⟩,⟨some 36, .call 146 [.t 35], some (33, true), []⟩,⟨some 37, .pick (.t 33) (.t 36) (.c (.bool false)), none, []⟩,⟨some 38, .mv (.t 37), none, []⟩,⟨some 39, .fad (.t 1) 5, some (38, true), [1]⟩,⟨some 40, .load 1 false (.t 39), some (38, true), [1]⟩,⟨some 41, .call 146 [.t 40], some (38, true), []⟩,⟨some 42, .pick (.t 38) (.t 41) (.c (.bool false)), none, []⟩,⟨some 2, .mv (.t 42), none, []⟩] [2]
theorem r122_6 : type_of% (@rr _ _ c122_6.eq_1) := rr rfl
def c122_7 : ACode := .seq c122_6 .ret
theorem r122_7 : type_of% (@rr _ _ c122_7.eq_1) := rr rfl
def c122_8 : ACode := .seq c122_5 c122_7
theorem r122_8 : type_of% (@rr _ _ c122_8.eq_1) := rr rfl
def c122_9 : ACode := .seq c122_0 c122_8
theorem r122_9 : type_of% (@rr _ _ c122_9.eq_1) := rr rfl
def a122 : AFun := ⟨1, 43, c122_9, [.t 2]⟩
attribute [simp] r122_0 r122_1 r122_2 r122_3 r122_4 r122_5 r122_6 r122_7 r122_8 r122_9
theorem m122 : mFun Try.prog Try.f122 a122 = true := by decide +kernel
def c120_0 : ACode := .ops [⟨some 4, .mv (.c (.bool false)), none, []⟩] [0, 1]
theorem r120_0 : type_of% (@rr _ _ c120_0.eq_1) := rr rfl
def c120_1 : ACode := .ops [⟨some 5, .mv (.t 0), none, []⟩,⟨some 6, .bin .geq (.t 5) (.c (.int .i64 0)), none, []⟩,⟨some 7, .mv (.t 6), none, []⟩,⟨some 8, .mv (.t 0), some (7, true), []⟩,⟨some 9, .bin .lss (.t 8) (.c (.int .i64 64)), some (7, true), []⟩,⟨some 10, .pick (.t 7) (.t 9) (.c (.bool false)), none, []⟩,⟨some 11, .mv (.t 10), none, []⟩,⟨some 12, .mv (.t 1), some (11, true), []⟩,⟨some 13, .bin .geq (.t 12) (.c (.int .i64 1)), some (11, true), []⟩,⟨some 14, .pick (.t 11) (.t 13) (.c (.bool false)), none, []⟩,⟨some 15, .mv (.t 14), none, []⟩,⟨some 16, .mv (.t 1), some (15, true), []⟩,⟨some 17, .mv (.t 0), some (15, true), []⟩,⟨some 18, .bin .sub (.c (.int .i64 64)) (.t 17), some (15, true), []⟩,⟨some 19, .bin .leq (.t 16) (.t 18), some (15, true), []⟩,⟨some 20, .pick (.t 15) (.t 19) (.c (.bool false)), none, []⟩,⟨some 4, .mv (.t 20), none, []⟩] [4]
theorem r120_1 : type_of% (@rr _ _ c120_1.eq_1) := rr rfl
def c120_2 : ACode := .seq c120_1 .ret
theorem r120_2 : type_of% (@rr _ _ c120_2.eq_1) := rr rfl
def c120_3 : ACode := .seq c120_0 c120_2
theorem r120_3 : type_of% (@rr _ _ c120_3.eq_1) := rr rfl
def a120 : AFun := ⟨2, 21, c120_3, [.t 4]⟩
attribute [simp] r120_0 r120_1 r120_2 r120_3
theorem m120 : mFun Try.prog Try.f120 a120 = true := by decide +kernel
def c121_0 : ACode := .ops [⟨some 2, .mv (.c (.int .u64 0)), none, []⟩] [0]
theorem r121_0 : type_of% (@rr _ _ c121_0.eq_1) := rr rfl
def c121_1 : ACode := .ops [⟨some 3, .mv (.t 0), none, []⟩,⟨some 4, .bin .sub (.c (.int .i64 64)) (.t 3), none, []⟩,⟨some 5, .conv .u64 (.t 4), none, []⟩,⟨some 6, .bin .shr (.c (.int .u64 18446744073709551615)) (.t 5), none, []⟩,⟨some 2, .mv (.t 6), none, []⟩] [2]
theorem r121_1 : type_of% (@rr _ _ c121_1.eq_1) := rr rfl
def c121_2 : ACode := .seq c121_1 .ret
theorem r121_2 : type_of% (@rr _ _ c121_2.eq_1) := rr rfl
def c121_3 : ACode := .seq c121_0 c121_2
theorem r121_3 : type_of% (@rr _ _ c121_3.eq_1) := rr rfl
def a121 : AFun := ⟨1, 7, c121_3, [.t 2]⟩
attribute [simp] r121_0 r121_1 r121_2 r121_3
theorem m121 : mFun Try.prog Try.f121 a121 = true := by decide +kernel
def c123_0 : ACode := .ops [⟨some 8, .mv (.c (.int .u64 0)), none, []⟩] [0, 1, 2, 3]
theorem r123_0 : type_of% (@rr _ _ c123_0.eq_1) := rr rfl
def c123_1 : ACode := .ops [⟨some 10, .mv (.t 1), none, []⟩,⟨some 11, .mv (.t 2), none, []⟩,⟨some 12, .call 120 [.t 10, .t 11], none, []⟩,⟨some 13, .un .not (.t 12), none, []⟩] [0, 1, 2, 3, 13]
theorem r123_1 : type_of% (@rr _ _ c123_1.eq_1) := rr rfl
def c123_2 : ACode := .ops [⟨some 14, .mv (.t 0), none, []⟩,⟨some 8, .mv (.t 14), none, []⟩] [8]
theorem r123_2 : type_of% (@rr _ _ c123_2.eq_1) := rr rfl
def c123_3 : ACode := .seq c123_2 .ret
theorem r123_3 : type_of% (@rr _ _ c123_3.eq_1) := rr rfl
def c123_4 : ACode := .cond (.t 13) c123_3 .skip
theorem r123_4 : type_of% (@rr _ _ c123_4.eq_1) := rr rfl
def c123_5 : ACode := .seq c123_1 c123_4
theorem r123_5 : type_of% (@rr _ _ c123_5.eq_1) := rr rfl
def c123_6 : ACode := .ops [⟨some 15, .mv (.t 2), none, []⟩,⟨some 16, .call 121 [.t 15], none, []⟩,⟨some 17, .mv (.t 1), none, []⟩,⟨some 18, .conv .u64 (.t 17), none, []⟩,⟨some 19, .bin .shl (.t 16) (.t 18), none, []⟩,⟨some 9, .mv (.t 19), none, []⟩] [0, 1, 3, 9]
theorem r123_6 : type_of% (@rr _ _ c123_6.eq_1) := rr rfl
def c123_7 : ACode := .ops [⟨some 20, .mv (.t 0), none, []⟩,⟨some 21, .mv (.t 9), none, []⟩,⟨some 22, .bin .andNot (.t 20) (.t 21), none, []⟩,⟨some 23, .mv (.t 3), none, []⟩,⟨some 24, .mv (.t 1), none, []⟩,⟨some 25, .conv .u64 (.t 24), none, []⟩,⟨some 26, .bin .shl (.t 23) (.t 25), none, []⟩,⟨some 27, .mv (.t 9), none, []⟩,⟨some 28, .bin .and (.t 26) (.t 27), none, []⟩,⟨some 29, .bin .or (.t 22) (.t 28), none, []⟩,⟨some 8, .mv (.t 29), none, []⟩] [8]
theorem r123_7 : type_of% (@rr _ _ c123_7.eq_1) := rr rfl
def c123_8 : ACode := .seq c123_7 .ret
theorem r123_8 : type_of% (@rr _ _ c123_8.eq_1) := rr rfl
def c123_9 : ACode := .seq c123_6 c123_8
theorem r123_9 : type_of% (@rr _ _ c123_9.eq_1) := rr rfl
def c123_10 : ACode := .seq c123_5 c123_9
theorem r123_10 : type_of% (@rr _ _ c123_10.eq_1) := rr rfl
def c123_11 : ACode := .seq c123_0 c123_10
theorem r123_11 : type_of% (@rr _ _ c123_11.eq_1) := rr rfl
def a123 : AFun := ⟨4, 30, c123_11, [.t 8]⟩
attribute [simp] r123_0 r123_1 r123_2 r123_3 r123_4 r123_5 r123_6 r123_7 r123_8 r123_9 r123_10 r123_11
theorem m123 : mFun Try.prog Try.f123 a123 = true := by decide +kernel
def c70_0 : ACode := .ops [⟨some 6, .mv (.c (.int .u64 0)), none, []⟩] [0, 1, 2]
theorem r70_0 : type_of% (@rr _ _ c70_0.eq_1) := rr rfl
def c70_1 : ACode := .ops [⟨some 7, .mv (.t 1), none, []⟩,⟨some 8, .mv (.t 2), none, []⟩,⟨some 9, .call 120 [.t 7, .t 8], none, []⟩,⟨some 10, .un .not (.t 9), none, []⟩] [0, 1, 2, 10]
theorem r70_1 : type_of% (@rr _ _ c70_1.eq_1) := rr rfl
def c70_2 : ACode := .ops [⟨some 6, .mv (.c (.int .u64 0)), none, []⟩] [6]
theorem r70_2 : type_of% (@rr _ _ c70_2.eq_1) := rr rfl
def c70_3 : ACode := .seq c70_2 .ret
theorem r70_3 : type_of% (@rr _ _ c70_3.eq_1) := rr rfl
def c70_4 : ACode := .cond (.t 10) c70_3 .skip
theorem r70_4 : type_of% (@rr _ _ c70_4.eq_1) := rr rfl
def c70_5 : ACode := .seq c70_1 c70_4
theorem r70_5 : type_of% (@rr _ _ c70_5.eq_1) := rr rfl
def c70_6 : ACode := .ops [⟨some 11, .mv (.t 0), none, []⟩,⟨some 12, .mv (.t 1), none, []⟩,⟨some 13, .conv .u64 (.t 12), none, []⟩,⟨some 14, .bin .shr (.t 11) (.t 13), none, []⟩,⟨some 15, .mv (.t 2), none, []⟩,⟨some 16, .call 121 [.t 15], none, []⟩,⟨some 17, .bin .and (.t 14) (.t 16), none, []⟩,⟨some 6, .mv (.t 17), none, []⟩] [6]
theorem r70_6 : type_of% (@rr _ _ c70_6.eq_1) := rr rfl
def c70_7 : ACode := .seq c70_6 .ret
theorem r70_7 : type_of% (@rr _ _ c70_7.eq_1) := rr rfl
def c70_8 : ACode := .seq c70_5 c70_7
theorem r70_8 : type_of% (@rr _ _ c70_8.eq_1) := rr rfl
def c70_9 : ACode := .seq c70_0 c70_8
theorem r70_9 : type_of% (@rr _ _ c70_9.eq_1) := rr rfl
def a70 : AFun := ⟨3, 18, c70_9, [.t 6]⟩
attribute [simp] r70_0 r70_1 r70_2 r70_3 r70_4 r70_5 r70_6 r70_7 r70_8 r70_9
theorem m70 : mFun Try.prog Try.f70 a70 = true := by decide +kernel
def c69_0 : ACode := .ops [⟨some 6, .mv (.c (.int .i64 0)), none, []⟩] [0, 1, 2]
theorem r69_0 : type_of% (@rr _ _ c69_0.eq_1) := rr rfl
def c69_1 : ACode := .ops [⟨some 7, .mv (.t 0), none, []⟩,⟨some 8, .mv (.t 1), none, []⟩,⟨some 9, .mv (.t 2), none, []⟩,⟨some 10, .call 70 [.t 7, .t 8, .t 9], none, []⟩,⟨some 11, .conv .i64 (.t 10), none, []⟩,⟨some 12, .mv (.t 2), none, []⟩,⟨some 13, .call 119 [.t 11, .t 12], none, []⟩,⟨some 6, .mv (.t 13), none, []⟩] [6]
theorem r69_1 : type_of% (@rr _ _ c69_1.eq_1) := rr rfl
def c69_2 : ACode := .seq c69_1 .ret
theorem r69_2 : type_of% (@rr _ _ c69_2.eq_1) := rr rfl
def c69_3 : ACode := .seq c69_0 c69_2
theorem r69_3 : type_of% (@rr _ _ c69_3.eq_1) := rr rfl
def a69 : AFun := ⟨3, 14, c69_3, [.t 6]⟩
attribute [simp] r69_0 r69_1 r69_2 r69_3
theorem m69 : mFun Try.prog Try.f69 a69 = true := by decide +kernel
def c72_0 : ACode := .ops [⟨some 1, .box (.t 0) 6, none, []⟩,⟨some 2, .mv (.c (.int .u64 0)), none, []⟩] [1]
theorem r72_0 : type_of% (@rr _ _ c72_0.eq_1) := rr rfl
def c72_1 : ACode := .ops [⟨some 4, .load 6 true (.t 1), none, [1]⟩,⟨some 5, .call 122 [.t 4], none, []⟩,⟨some 6, .un .not (.t 5), none, []⟩] [1, 6]
theorem r72_1 : type_of% (@rr _ _ c72_1.eq_1) := rr rfl
def c72_2 : ACode := .ops [⟨some 2, .mv (.c (.int .u64 0)), none, []⟩] [2]
theorem r72_2 : type_of% (@rr _ _ c72_2.eq_1) := rr rfl
def c72_3 : ACode := .seq c72_2 .ret
theorem r72_3 : type_of% (@rr _ _ c72_3.eq_1) := rr rfl
def c72_4 : ACode := .cond (.t 6) c72_3 .skip
theorem r72_4 : type_of% (@rr _ _ c72_4.eq_1) := rr rfl
def c72_5 : ACode := .seq c72_1 c72_4
theorem r72_5 : type_of% (@rr _ _ c72_5.eq_1) := rr rfl
def c72_6 : ACode := .ops [⟨some 7, .fad (.t 1) 0, none, [1]⟩,⟨some 8, .load 1 false (.t 7), none, [1]⟩] [1, 8]
theorem r72_6 : type_of% (@rr _ _ c72_6.eq_1) := rr rfl
def c72_7 : ACode := .ops [⟨some 9, .fad (.t 1) 1, none, [1]⟩,⟨some 10, .load 1 false (.t 9), none, [1]⟩,⟨some 11, .conv .u64 (.t 10), none, []⟩,⟨some 12, .call 123 [.c (.int .u64 9223372036854775808), .c (.int .i64 0), .c (.int .i64 32), .t 11], none, []⟩,⟨some 2, .mv (.t 12), none, []⟩] [2]
theorem r72_7 : type_of% (@rr _ _ c72_7.eq_1) := rr rfl
def c72_8 : ACode := .seq c72_7 .ret
theorem r72_8 : type_of% (@rr _ _ c72_8.eq_1) := rr rfl
def c72_9 : ACode := .cond (.t 8) c72_8 .skip
theorem r72_9 : type_of% (@rr _ _ c72_9.eq_1) := rr rfl
def c72_10 : ACode := .seq c72_6 c72_9
theorem r72_10 : type_of% (@rr _ _ c72_10.eq_1) := rr rfl
def c72_11 : ACode := .ops [⟨some 13, .fad (.t 1) 3, none, [1]⟩,⟨some 14, .load 1 false (.t 13), none, [1]⟩,⟨some 15, .conv .u64 (.t 14), none, []⟩,⟨some 16, .call 123 [.c (.int .u64 0), .c (.int .i64 0), .c (.int .i64 32), .t 15], none, []⟩,⟨some 3, .mv (.t 16), none, []⟩] [1, 3]
theorem r72_11 : type_of% (@rr _ _ c72_11.eq_1) := rr rfl
def c72_12 : ACode := .ops [⟨some 17, .mv (.t 3), none, []⟩,⟨some 18, .fad (.t 1) 2, none, [1]⟩,⟨some 19, .load 1 false (.t 18), none, [1]⟩,⟨some 20, .conv .u64 (.t 19), none, []⟩,⟨some 21, .call 123 [.t 17, .c (.int .i64 32), .c (.int .i64 4), .t 20], none, []⟩,⟨some 3, .mv (.t 21), none, []⟩] [1, 3]
theorem r72_12 : type_of% (@rr _ _ c72_12.eq_1) := rr rfl
def c72_13 : ACode := .ops [⟨some 22, .mv (.t 3), none, []⟩,⟨some 23, .fad (.t 1) 4, none, [1]⟩,⟨some 24, .load 1 false (.t 23), none, [1]⟩,⟨some 25, .conv .u64 (.t 24), none, []⟩,⟨some 26, .call 123 [.t 22, .c (.int .i64 40), .c (.int .i64 8), .t 25], none, []⟩,⟨some 3, .mv (.t 26), none, []⟩] [1, 3]
theorem r72_13 : type_of% (@rr _ _ c72_13.eq_1) := rr rfl
def c72_14 : ACode := .ops [⟨some 27, .mv (.t 3), none, []⟩,⟨some 28, .fad (.t 1) 5, none, [1]⟩,⟨some 29, .load 1 false (.t 28), none, [1]⟩,⟨some 30, .conv .u64 (.t 29), none, []⟩,⟨some 31, .call 123 [.t 27, .c (.int .i64 48), .c (.int .i64 8), .t 30], none, []⟩,⟨some 2, .mv (.t 31), none, []⟩] [2]
theorem r72_14 : type_of% (@rr _ _ c72_14.eq_1) := rr rfl
def c72_15 : ACode := .seq c72_14 .ret
theorem r72_15 : type_of% (@rr _ _ c72_15.eq_1) := rr rfl
def c72_16 : ACode := .seq c72_13 c72_15
theorem r72_16 : type_of% (@rr _ _ c72_16.eq_1) := rr rfl
def c72_17 : ACode := .seq c72_12 c72_16
theorem r72_17 : type_of% (@rr _ _ c72_17.eq_1) := rr rfl
def c72_18 : ACode := .seq c72_11 c72_17
theorem r72_18 : type_of% (@rr _ _ c72_18.eq_1) := rr rfl
def c72_19 : ACode := .seq c72_10 c72_18
theorem r72_19 : type_of% (@rr _ _ c72_19.eq_1) := rr rfl
def c72_20 : ACode := .seq c72_5 c72_19
theorem r72_20 : type_of% (@rr _ _ c72_20.eq_1) := rr rfl
def c72_21 : ACode := .seq c72_0 c72_20
theorem r72_21 : type_of% (@rr _ _ c72_21.eq_1) := rr rfl
def a72 : AFun := ⟨1, 32, c72_21, [.t 2]⟩
attribute [simp] r72_0 r72_1 r72_2 r72_3 r72_4 r72_5 r72_6 r72_7 r72_8 r72_9 r72_10 r72_11 r72_12 r72_13 r72_14 r72_15 r72_16 r72_17 r72_18 r72_19 r72_20 r72_21
theorem m72 : mFun Try.prog Try.f72 a72 = true := by decide +kernel
def child (n : Int) : Bool := decide (1 ≤ n) && decide (n < 31)
theorem runs_child (n : Int) (c : Bool) (h : some (child n) = some c) : Runs (tbl []) a146 [Arg.enc n] (Arg.enc c) := by
  cases h
  refine ⟨rfl, fun g => run_def ?_⟩
  unfold a146
  by_cases h1 : 1 ≤ n <;> simp -implicitDefEqProofs [child, h1]
theorem c_child : Contract Try.prog 146 (sp1 fun n => some (child n)) := contract_of_runs mixed tbl_nil Try.func146 m146 (sp1_runs runs_child)
theorem runs_Right (n : Node) (c : Bool) (h : some (rightNode n) = some c) : Runs (tbl [(75, sp2 Fits), (146, sp1 fun n => some (child n))]) a122 [Arg.enc n] (Arg.enc c) := by
  cases h
  refine ⟨rfl, fun g => run_def ?_⟩
  obtain ⟨leaf, value, feature, cut, left, right⟩ := n
  unfold a122
  cases leaf
  case false =>
    by_cases h1 : value = 0
    case neg => simp -implicitDefEqProofs [rightNode, Fits, child, h1]
    by_cases h2 : 0 ≤ feature
    case neg => simp -implicitDefEqProofs [rightNode, Fits, child, h1, h2]
    by_cases h3 : feature < 4
    case neg => simp -implicitDefEqProofs [rightNode, Fits, child, h1, h2, h3]
    cases h4 : fits cut
    case false => simp -implicitDefEqProofs [rightNode, Fits, child, h1, h2, h3, h4]
    by_cases h5 : 1 ≤ left
    case neg => simp -implicitDefEqProofs [rightNode, Fits, child, h1, h2, h3, h4, h5]
    by_cases h6 : left < 31
    case neg => simp -implicitDefEqProofs [rightNode, Fits, child, h1, h2, h3, h4, h5, h6]
    simp -implicitDefEqProofs [rightNode, Fits, child, h1, h2, h3, h4, h5, h6]
  case true =>
    by_cases h2 : feature = 0
    case neg => simp -implicitDefEqProofs [rightNode, Fits, h2]
    by_cases h3 : cut = 0
    case neg => simp -implicitDefEqProofs [rightNode, Fits, h2, h3]
    by_cases h4 : left = 0
    case neg => simp -implicitDefEqProofs [rightNode, Fits, h2, h3, h4]
    by_cases h5 : right = 0
    case neg => simp -implicitDefEqProofs [rightNode, Fits, h2, h3, h4, h5]
    cases h1 : fits value <;> simp -implicitDefEqProofs [rightNode, Fits, h1, h2, h3, h4, h5]
theorem c_Right : Contract Try.prog 122 (sp1 fun n => some (rightNode n)) :=
  contract_of_runs mixed (tbl_cons c_Fits (tbl_cons c_child tbl_nil)) Try.func122 m122 (sp1_runs runs_Right)
def field (p w : Int) : Bool := decide (0 ≤ p) && decide (p < 64) && decide (1 ≤ w) && decide (w ≤ 64 - p)
theorem runs_field (p w : Int) (c : Bool) (h : some (field p w) = some c) : Runs (tbl []) a120 [Arg.enc p, Arg.enc w] (Arg.enc c) := by
  cases h
  refine ⟨rfl, fun g => run_def ?_⟩
  unfold a120
  by_cases h1 : 0 ≤ p
  case neg => simp -implicitDefEqProofs [field, h1]
  by_cases h2 : p < 64
  case neg => simp -implicitDefEqProofs [field, h1, h2]
  by_cases h3 : 1 ≤ w
  case neg => simp -implicitDefEqProofs [field, h1, h2, h3]
  have e : IntKind.i64.wrap (64 - p) = 64 - p := wrap64 (by omega) (by omega)
  simp -implicitDefEqProofs [field, h1, h2, h3, e]
theorem c_field : Contract Try.prog 120 (sp2 fun p w => some (field p w)) := contract_of_runs mixed tbl_nil Try.func120 m120 (sp2_runs runs_field)
def ones (w : Int) : Int := if w = 1 then 1 else if w = 4 then 15 else if w = 8 then 255 else 4294967295
def Mask (w : Int) : Option Word := if w = 1 ∨ w = 4 ∨ w = 8 ∨ w = 32 then some ⟨ones w⟩ else none
theorem runs_mask (w : Int) (c : Word) (h : Mask w = some c) : Runs (tbl []) a121 [Arg.enc w] (Arg.enc c) := by
  unfold Mask at h
  split at h
  · rename_i hw
    cases h
    refine ⟨rfl, fun g => run_def ?_⟩
    unfold a121
    rcases hw with rfl | rfl | rfl | rfl <;> simp -implicitDefEqProofs [ones] <;> decide
  · cases h
theorem c_mask : Contract Try.prog 121 (sp1 Mask) := contract_of_runs mixed tbl_nil Try.func121 m121 (sp1_runs runs_mask)
def aField (p w : Int) : Prop := (p = 0 ∧ w = 32) ∨ (p = 63 ∧ w = 1) ∨ (p = 32 ∧ w = 4) ∨ (p = 40 ∧ w = 8) ∨ (p = 48 ∧ w = 8)
instance (p w : Int) : Decidable (aField p w) := by unfold aField; exact inferInstance
def get (x p w : Int) : Int := x / 2 ^ p.toNat % 2 ^ w.toNat
def Get (x : Word) (p w : Int) : Option Word := if okW x.v ∧ aField p w then some ⟨get x.v p w⟩ else none
theorem and_1 (a : Int) (h : okW a) : iand .u64 a 1 = a % 2 := by
  rw [u_and _ _ h ⟨by omega, by omega⟩]
  have e : (1 : Int).toNat = 1 := rfl
  rw [e, Nat.and_one_is_mod]
  have := h.1
  omega
theorem runs_Get (x : Word) (p w : Int) (c : Word) (h : Get x p w = some c) : Runs (tbl [(120, sp2 fun p w => some (field p w)), (121, sp1 Mask)]) a70 [Arg.enc x, Arg.enc p, Arg.enc w] (Arg.enc c) := by
  unfold Get at h
  split at h
  · rename_i hw
    cases h
    obtain ⟨v⟩ := x
    obtain ⟨hv, hf⟩ := hw
    simp only at hv
    have d (k : Int) (hk : 0 ≤ k) : v.fdiv k = v / k := Int.fdiv_eq_ediv_of_nonneg v hk
    have h1 := hv.1
    have h2 := hv.2
    have i1 := and_low v hv
    have i2 := and_15 (v / 4294967296) ⟨by omega, by omega⟩
    have i3 := and_255 (v / 1099511627776) ⟨by omega, by omega⟩
    have i4 := and_255 (v / 281474976710656) ⟨by omega, by omega⟩
    have i5 := and_1 (v / 9223372036854775808) ⟨by omega, by omega⟩
    refine ⟨rfl, fun g => run_def ?_⟩
    unfold a70
    rcases hf with ⟨rfl, rfl⟩ | ⟨rfl, rfl⟩ | ⟨rfl, rfl⟩ | ⟨rfl, rfl⟩ | ⟨rfl, rfl⟩ <;>
      simp -implicitDefEqProofs [get, field, Mask, ones, d, i1, i2, i3, i4, i5]
  · cases h
theorem c_Get : Contract Try.prog 70 (sp3 Get) :=
  contract_of_runs mixed (tbl_cons c_field (tbl_cons c_mask tbl_nil)) Try.func70 m70 (sp3_runs runs_Get)
def Signed (x : Word) (p w : Int) : Option Int := if okW x.v ∧ p = 0 ∧ w = 32 then some (wrap32 (x.v % 4294967296)) else none
theorem runs_Signed (x : Word) (p w c : Int) (h : Signed x p w = some c) : Runs (tbl [(70, sp3 Get), (119, sp2 Wrap)]) a69 [Arg.enc x, Arg.enc p, Arg.enc w] (Arg.enc c) := by
  unfold Signed at h
  split at h
  · rename_i hw
    cases h
    obtain ⟨v⟩ := x
    obtain ⟨hv, rfl, rfl⟩ := hw
    simp only at hv
    have w1 : IntKind.i64.wrap (v % 4294967296) = v % 4294967296 := wrap64 (by omega) (by omega)
    have b1 : -9223372036854775808 ≤ v % 4294967296 ∧ v % 4294967296 ≤ 9223372036854775807 := by omega
    refine ⟨rfl, fun g => run_def ?_⟩
    unfold a69
    simp -implicitDefEqProofs [Get, get, aField, hv, Wrap, w1, b1]
  · cases h
theorem c_Signed : Contract Try.prog 69 (sp3 Signed) :=
  contract_of_runs mixed (tbl_cons c_Get (tbl_cons c_Wrap tbl_nil)) Try.func69 m69 (sp3_runs runs_Signed)
def Put (x : Word) (p w : Int) (y : Word) : Option Word := if okW x.v ∧ aField p w ∧ w ≠ 1 ∧ get x.v p w = 0 then some ⟨x.v + y.v % 2 ^ w.toNat * 2 ^ p.toNat⟩ else none
theorem runs_Put (x : Word) (p w : Int) (y c : Word) (h : Put x p w y = some c) : Runs (tbl [(120, sp2 fun p w => some (field p w)), (121, sp1 Mask)]) a123 [Arg.enc x, Arg.enc p, Arg.enc w, Arg.enc y] (Arg.enc c) := by
  unfold Put at h
  split at h
  · rename_i hw
    cases h
    obtain ⟨v⟩ := x
    obtain ⟨y⟩ := y
    obtain ⟨hv, hf, hw1, hg⟩ := hw
    simp only at hv hg
    have hv1 := hv.1
    refine ⟨rfl, fun g => run_def ?_⟩
    unfold a123
    rcases hf with ⟨rfl, rfl⟩ | ⟨rfl, rfl⟩ | ⟨rfl, rfl⟩ | ⟨rfl, rfl⟩ | ⟨rfl, rfl⟩
    · simp [get] at hg
      have e := put_bits v (y % 18446744073709551616) 4294967295 0 32 hv (okW_mod _) rfl ⟨by omega, by omega⟩ (by simp; omega)
      simp only [Nat.reducePow] at e
      simp -implicitDefEqProofs [field, Mask, ones, u_conv, e]
      omega
    · exact absurd rfl hw1
    · simp [get] at hg
      have e := put_bits v (y * 4294967296 % 18446744073709551616) 64424509440 32 4 hv (okW_mod _) rfl ⟨by omega, by omega⟩ (by simp; omega)
      simp only [Nat.reducePow] at e
      simp -implicitDefEqProofs [field, Mask, ones, u_conv, e]
      omega
    · simp [get] at hg
      have e := put_bits v (y * 1099511627776 % 18446744073709551616) 280375465082880 40 8 hv (okW_mod _) rfl ⟨by omega, by omega⟩ (by simp; omega)
      simp only [Nat.reducePow] at e
      simp -implicitDefEqProofs [field, Mask, ones, u_conv, e]
      omega
    · simp [get] at hg
      have e := put_bits v (y * 281474976710656 % 18446744073709551616) 71776119061217280 48 8 hv (okW_mod _) rfl ⟨by omega, by omega⟩ (by simp; omega)
      simp only [Nat.reducePow] at e
      simp -implicitDefEqProofs [field, Mask, ones, u_conv, e]
      omega
  · cases h
theorem c_Put : Contract Try.prog 123 (sp4 Put) :=
  contract_of_runs mixed (tbl_cons c_field (tbl_cons c_mask tbl_nil)) Try.func123 m123 (sp4_runs runs_Put)
theorem runs_Pack (n : Node) (c : Word) (h : some (pack n) = some c) : Runs (tbl [(122, sp1 fun n => some (rightNode n)), (123, sp4 Put)]) a72 [Arg.enc n] (Arg.enc c) := by
  cases h
  refine ⟨rfl, fun g => run_def ?_⟩
  obtain ⟨leaf, value, feature, cut, left, right⟩ := n
  unfold a72
  cases h1 : rightNode ⟨leaf, value, feature, cut, left, right⟩
  case false => simp -implicitDefEqProofs [pack, h1]
  cases leaf
  case true =>
    have e1 : value % 18446744073709551616 % 4294967296 = value % 4294967296 := by omega
    simp -implicitDefEqProofs [pack, h1, u_conv, Put, get, aField, okW, e1]
  case false =>
    have hb := h1
    simp [rightNode] at hb
    have e1 : cut % 18446744073709551616 % 4294967296 = cut % 4294967296 := by omega
    have o1 : okW (cut % 4294967296) := ⟨by omega, by omega⟩
    have e2 : feature % 18446744073709551616 % 16 = feature := by omega
    have g1 : cut % 4294967296 / 4294967296 % 16 = 0 := by omega
    have o2 : okW (cut % 4294967296 + feature * 4294967296) := ⟨by omega, by omega⟩
    have e3 : left % 18446744073709551616 % 256 = left := by omega
    have g2 : (cut % 4294967296 + feature * 4294967296) / 1099511627776 % 256 = 0 := by omega
    have o3 : okW (cut % 4294967296 + feature * 4294967296 + left * 1099511627776) := ⟨by omega, by omega⟩
    have e4 : right % 18446744073709551616 % 256 = right := by omega
    have g3 : (cut % 4294967296 + feature * 4294967296 + left * 1099511627776) / 281474976710656 % 256 = 0 := by omega
    have o0 : okW 0 := ⟨by omega, by omega⟩
    simp -implicitDefEqProofs [pack, h1, u_conv, Put, get, aField, o0, o1, o2, o3, e1, e2, e3, e4, g1, g2, g3]
theorem c_Pack : Contract Try.prog 72 (sp1 fun n => some (pack n)) :=
  contract_of_runs mixed (tbl_cons c_Right (tbl_cons c_Put tbl_nil)) Try.func72 m72 (sp1_runs runs_Pack)
def c71_0 : ACode := .ops [⟨some 5, .mv (.c (.int .i64 0)), none, []⟩] [0, 1, 2]
theorem r71_0 : type_of% (@rr _ _ c71_0.eq_1) := rr rfl
def c71_1 : ACode := .ops [⟨some 6, .load 1 false (.t 2), none, []⟩,⟨some 7, .mv (.t 0), none, []⟩,⟨some 8, .mv (.t 1), none, []⟩,⟨some 9, .call 70 [.t 6, .t 7, .t 8], none, []⟩,⟨some 10, .conv .i64 (.t 9), none, []⟩,⟨some 5, .mv (.t 10), none, []⟩] [5]
theorem r71_1 : type_of% (@rr _ _ c71_1.eq_1) := rr rfl
def c71_2 : ACode := .seq c71_1 .ret
theorem r71_2 : type_of% (@rr _ _ c71_2.eq_1) := rr rfl
def c71_3 : ACode := .seq c71_0 c71_2
theorem r71_3 : type_of% (@rr _ _ c71_3.eq_1) := rr rfl
def a71 : AFun := ⟨3, 11, c71_3, [.t 5]⟩
attribute [simp] r71_0 r71_1 r71_2 r71_3
theorem m71 : mFun Try.prog Try.f71 a71 = true := by decide +kernel
def c20_0 : ACode := .ops [⟨some 1, .box (.t 0) 1, none, []⟩,⟨some 2, .alloc [.bool false, .int .i64 0, .int .i64 0, .int .i64 0, .int .i64 0, .int .i64 0], none, []⟩,⟨some 3, .mv (.c (.bool false)), none, []⟩] [1, 2]
theorem r20_0 : type_of% (@rr _ _ c20_0.eq_1) := rr rfl
def c20_1 : ACode := .ops [⟨some 7, .load 1 false (.t 1), none, [1]⟩,⟨some 8, .call 69 [.t 7, .c (.int .i64 0), .c (.int .i64 32)], none, []⟩,⟨some 4, .mv (.t 8), none, []⟩] [1, 2, 4]
theorem r20_1 : type_of% (@rr _ _ c20_1.eq_1) := rr rfl
def c20_2 : ACode := .ops [⟨some 9, .mv (.t 4), none, []⟩,⟨some 10, .build [.bool false, .int .i64 0, .int .i64 0, .int .i64 0, .int .i64 0, .int .i64 0] [(0, 1, .c (.bool true)), (1, 1, .t 9)], none, []⟩,⟨some 5, .alloc [.bool false, .int .i64 0, .int .i64 0, .int .i64 0, .int .i64 0, .int .i64 0], none, []⟩,⟨none, .store (.t 5) 6 (.t 10), none, [5]⟩] [1, 2, 4, 5]
theorem r20_2 : type_of% (@rr _ _ c20_2.eq_1) := rr rfl
def c20_3 : ACode := .ops [⟨some 11, .load 1 false (.t 1), none, [1]⟩,⟨some 12, .call 70 [.t 11, .c (.int .i64 63), .c (.int .i64 1)], none, []⟩,⟨some 13, .bin .eql (.t 12) (.c (.int .u64 0)), none, []⟩] [1, 2, 4, 5, 13]
theorem r20_3 : type_of% (@rr _ _ c20_3.eq_1) := rr rfl
def c20_4 : ACode := .ops [⟨some 14, .clo 71 [.t 1], none, [1]⟩,⟨some 6, .mv (.t 14), none, []⟩] [1, 2, 4, 5, 6]
theorem r20_4 : type_of% (@rr _ _ c20_4.eq_1) := rr rfl
def c20_5 : ACode := .ops [⟨some 15, .mv (.t 4), none, []⟩,⟨some 16, .mv (.t 6), none, []⟩,⟨some 17, .dyn (.t 16) [.c (.int .i64 32), .c (.int .i64 4)], none, []⟩,⟨some 18, .mv (.t 6), none, []⟩,⟨some 19, .dyn (.t 18) [.c (.int .i64 40), .c (.int .i64 8)], none, []⟩,⟨some 20, .mv (.t 6), none, []⟩,⟨some 21, .dyn (.t 20) [.c (.int .i64 48), .c (.int .i64 8)], none, []⟩,⟨some 22, .build [.bool false, .int .i64 0, .int .i64 0, .int .i64 0, .int .i64 0, .int .i64 0] [(3, 1, .t 15), (2, 1, .t 17), (4, 1, .t 19), (5, 1, .t 21)], none, []⟩,⟨none, .store (.t 5) 6 (.t 22), none, [5]⟩] [1, 2, 5]
theorem r20_5 : type_of% (@rr _ _ c20_5.eq_1) := rr rfl
def c20_6 : ACode := .seq c20_4 c20_5
theorem r20_6 : type_of% (@rr _ _ c20_6.eq_1) := rr rfl
def c20_7 : ACode := .cond (.t 13) c20_6 .skip
theorem r20_7 : type_of% (@rr _ _ c20_7.eq_1) := rr rfl
def c20_8 : ACode := .seq c20_3 c20_7
theorem r20_8 : type_of% (@rr _ _ c20_8.eq_1) := rr rfl
def c20_9 : ACode := .ops [⟨some 23, .load 1 false (.t 1), none, [1]⟩,⟨some 24, .bin .eql (.t 23) (.c (.int .u64 0)), none, []⟩,⟨some 25, .mv (.t 24), none, []⟩,⟨some 26, .load 6 true (.t 5), some (25, false), [5]⟩,⟨some 27, .call 72 [.t 26], some (25, false), []⟩,⟨some 28, .load 1 false (.t 1), some (25, false), [1]⟩,⟨some 29, .bin .neq (.t 27) (.t 28), some (25, false), []⟩,⟨some 30, .pick (.t 25) (.c (.bool true)) (.t 29), none, []⟩] [2, 5, 30]
theorem r20_9 : type_of% (@rr _ _ c20_9.eq_1) := rr rfl
def c20_10 : ACode := .ops [⟨some 31, .build [.bool false, .int .i64 0, .int .i64 0, .int .i64 0, .int .i64 0, .int .i64 0] [], none, []⟩,⟨none, .store (.t 2) 6 (.t 31), none, [2]⟩,⟨some 3, .mv (.c (.bool false)), none, []⟩] [2, 3]
theorem r20_10 : type_of% (@rr _ _ c20_10.eq_1) := rr rfl
def c20_11 : ACode := .seq c20_10 .ret
theorem r20_11 : type_of% (@rr _ _ c20_11.eq_1) := rr rfl
def c20_12 : ACode := .cond (.t 30) c20_11 .skip
theorem r20_12 : type_of% (@rr _ _ c20_12.eq_1) := rr rfl
def c20_13 : ACode := .seq c20_9 c20_12
theorem r20_13 : type_of% (@rr _ _ c20_13.eq_1) := rr rfl
def c20_14 : ACode := .ops [⟨some 32, .load 6 true (.t 5), none, [5]⟩,⟨none, .store (.t 2) 6 (.t 32), none, [2]⟩,⟨some 3, .mv (.c (.bool true)), none, []⟩] [2, 3]
theorem r20_14 : type_of% (@rr _ _ c20_14.eq_1) := rr rfl
def c20_15 : ACode := .seq c20_14 .ret
theorem r20_15 : type_of% (@rr _ _ c20_15.eq_1) := rr rfl
def c20_16 : ACode := .seq c20_13 c20_15
theorem r20_16 : type_of% (@rr _ _ c20_16.eq_1) := rr rfl
def c20_17 : ACode := .seq c20_8 c20_16
theorem r20_17 : type_of% (@rr _ _ c20_17.eq_1) := rr rfl
def c20_18 : ACode := .seq c20_2 c20_17
theorem r20_18 : type_of% (@rr _ _ c20_18.eq_1) := rr rfl
def c20_19 : ACode := .seq c20_1 c20_18
theorem r20_19 : type_of% (@rr _ _ c20_19.eq_1) := rr rfl
def c20_20 : ACode := .seq c20_0 c20_19
theorem r20_20 : type_of% (@rr _ _ c20_20.eq_1) := rr rfl
def a20 : AFun := ⟨1, 33, c20_20, [.cell 2 6 true, .t 3]⟩
attribute [simp] r20_0 r20_1 r20_2 r20_3 r20_4 r20_5 r20_6 r20_7 r20_8 r20_9 r20_10 r20_11 r20_12 r20_13 r20_14 r20_15 r20_16 r20_17 r20_18 r20_19 r20_20
theorem m20 : mFun Try.prog Try.f20 a20 = true := by decide +kernel
def Unpack1 (p w : Int) (x : Ref Word) : Option Int := if okW x.v.v ∧ aField p w ∧ w ≠ 32 then some (get x.v.v p w) else none
theorem runs_Unpack1 (p w : Int) (x : Ref Word) (c : Int) (h : Unpack1 p w x = some c) : Runs (tbl [(70, sp3 Get)]) a71 [Arg.enc p, Arg.enc w, Arg.enc x] (Arg.enc c) := by
  unfold Unpack1 at h
  split at h
  · rename_i hw
    cases h
    obtain ⟨⟨v⟩⟩ := x
    obtain ⟨hv, hf, hw⟩ := hw
    simp only at hv
    refine ⟨rfl, fun g => run_def ?_⟩
    unfold a71
    have hw2 : w = 1 ∨ w = 4 ∨ w = 8 := by rcases hf with ⟨rfl, rfl⟩ | ⟨rfl, rfl⟩ | ⟨rfl, rfl⟩ | ⟨rfl, rfl⟩ | ⟨rfl, rfl⟩ <;> omega
    have e1 : IntKind.i64.wrap (get v p w) = get v p w := by
      unfold get
      rcases hw2 with rfl | rfl | rfl <;> simp <;> refine wrap64 (by omega) (by omega)
    simp -implicitDefEqProofs [Get, hv, hf, e1]
  · cases h
theorem c_Unpack1 : Contract Try.prog 71 (sp3 Unpack1) :=
  contract_of_runs mixed (tbl_cons c_Get tbl_nil) Try.func71 m71 (sp3_runs runs_Unpack1)
theorem pack_ne (n : Node) (h : rightNode n = true) : (pack n).v ≠ 0 := by
  have hb := h
  unfold pack
  rw [if_pos h]
  obtain ⟨leaf, value, feature, cut, left, right⟩ := n
  cases leaf
  · simp [rightNode] at hb
    simp
    omega
  · simp
    omega
theorem runs_Unpack (w : Word) (c : Node × Bool) (h : Unpack w = some c) : Runs (tbl [(69, sp3 Signed), (70, sp3 Get), (71, sp3 Unpack1), (72, sp1 fun n => some (pack n))]) a20 [Arg.enc w] (Arg.enc c) := by
  unfold Unpack at h
  split at h
  · rename_i hw
    cases h
    obtain ⟨v⟩ := w
    simp only at hw
    have hv : okW v := hw
    refine ⟨rfl, fun g => run_def ?_⟩
    unfold a20
    have w1 : IntKind.i64.wrap (v / 4294967296 % 16) = v / 4294967296 % 16 := wrap64 (by omega) (by omega)
    by_cases hl : v / 9223372036854775808 = 1
    · have hl2 : ¬ v / 9223372036854775808 % 2 = 0 := by omega
      have hr : raw v = ⟨true, wrap32 (v % 4294967296), 0, 0, 0, 0⟩ := by simp [raw, hl]
      have hne : ¬ v = 0 := by omega
      by_cases h2 : (pack ⟨true, wrap32 (v % 4294967296), 0, 0, 0, 0⟩).v = v
      · have h3 : pack ⟨true, wrap32 (v % 4294967296), 0, 0, 0, 0⟩ = ⟨v⟩ := by cases hp : pack ⟨true, wrap32 (v % 4294967296), 0, 0, 0, 0⟩; rw [hp] at h2; simpa using h2
        have h1 : rightNode ⟨true, wrap32 (v % 4294967296), 0, 0, 0, 0⟩ = true := by
          cases h1 : rightNode ⟨true, wrap32 (v % 4294967296), 0, 0, 0, 0⟩
          · simp [pack, h1] at h3; omega
          · rfl
        simp -implicitDefEqProofs [Signed, Get, get, hv, aField, Unpack1, hl2, hne, h2, unpack, hr, h1, h3]
      · have h3 : ¬ pack ⟨true, wrap32 (v % 4294967296), 0, 0, 0, 0⟩ = ⟨v⟩ := fun e => h2 (by rw [e])
        simp -implicitDefEqProofs [Signed, Get, get, hv, aField, Unpack1, hl2, hne, h2, unpack, hr, h3]
    · have hl2 : v / 9223372036854775808 % 2 = 0 := by omega
      generalize hn : (⟨false, 0, v / 4294967296 % 16, wrap32 (v % 4294967296), v / 1099511627776 % 256, v / 281474976710656 % 256⟩ : Node) = n at *
      have hr : raw v = n := by rw [← hn]; simp [raw, hl]
      by_cases hne : v = 0
      · have h3 : ¬ (rightNode n = true ∧ pack n = ⟨v⟩) := fun ⟨a, b⟩ => pack_ne n a (by rw [b]; exact hne)
        rw [← hn] at hr h3
        subst hne
        clear hl2 hl
        have hv0 : okW 0 := hv
        have hr0 : raw 0 = ⟨false, 0, 0, 0, 0, 0⟩ := by rw [hr]; rfl
        have h30 : rightNode ⟨false, 0, 0, 0, 0, 0⟩ = false := rfl
        simp -implicitDefEqProofs [Signed, Get, get, hv0, aField, Unpack1, unpack, hr0, h30]
      · by_cases h2 : (pack n).v = v
        · have h3 : pack n = ⟨v⟩ := by cases hp : pack n; rw [hp] at h2; simpa using h2
          have h1 : rightNode n = true := by
            cases h1 : rightNode n
            · simp [pack, h1] at h3; omega
            · rfl
          rw [← hn] at h1 hr h2 h3
          simp -implicitDefEqProofs [Signed, Get, get, hv, aField, Unpack1, hl2, hne, h2, unpack, hr, h1, h3]
        · have h3 : ¬ pack n = ⟨v⟩ := fun e => h2 (by rw [e])
          rw [← hn] at hr h2 h3
          simp -implicitDefEqProofs [Signed, Get, get, hv, aField, Unpack1, hl2, hne, h2, unpack, hr, h3]
  · cases h
theorem c_Unpack : Contract Try.prog 20 (sp1 Unpack) :=
  contract_of_runs mixed (tbl_cons c_Signed (tbl_cons c_Get (tbl_cons c_Unpack1 (tbl_cons c_Pack tbl_nil)))) Try.func20 m20 (sp1_runs runs_Unpack)
end Go.Co
