/- CO: numbers of 32 bits. -/
import Derived.Test.YtagfmcachoaacaaCoA
import Derived.Test.YtagfmcachoaacaaCoBits
namespace Go.Co
open Go.Am Go.Proofs
set_option linter.unusedSimpArgs false
set_option linter.unusedVariables false
def c87_0 : ACode := .ops [⟨some 4, .mv (.c (.bool false)), none, []⟩] [0, 1]
theorem r87_0 : type_of% (@rr _ _ c87_0.eq_1) := rr c87_0.eq_1
def c87_1 : ACode := .ops [⟨some 6, .mv (.t 1), none, []⟩,
  ⟨some 7, .bin .lss (.t 6) (.c (.int .i64 1)), none, []⟩,
  ⟨some 8, .mv (.t 7), none, []⟩,
  ⟨some 9, .mv (.t 1), some (8, false), []⟩,
  ⟨some 10, .bin .gtr (.t 9) (.c (.int .i64 64)), some (8, false), []⟩,
  ⟨some 11, .pick (.t 8) (.c (.bool true)) (.t 10), none, []⟩] [0, 1, 11]
theorem r87_1 : type_of% (@rr _ _ c87_1.eq_1) := rr c87_1.eq_1
def c87_2 : ACode := .ops [⟨some 4, .mv (.c (.bool false)), none, []⟩] [4]
theorem r87_2 : type_of% (@rr _ _ c87_2.eq_1) := rr c87_2.eq_1
def c87_3 : ACode := .seq c87_2 .ret
theorem r87_3 : type_of% (@rr _ _ c87_3.eq_1) := rr c87_3.eq_1
def c87_4 : ACode := .cond (.t 11) c87_3 .skip
theorem r87_4 : type_of% (@rr _ _ c87_4.eq_1) := rr c87_4.eq_1
def c87_5 : ACode := .seq c87_1 c87_4
theorem r87_5 : type_of% (@rr _ _ c87_5.eq_1) := rr c87_5.eq_1
def c87_6 : ACode := .ops [⟨some 12, .mv (.t 1), none, []⟩,
  ⟨some 13, .bin .eql (.t 12) (.c (.int .i64 64)), none, []⟩] [0, 1, 13]
theorem r87_6 : type_of% (@rr _ _ c87_6.eq_1) := rr c87_6.eq_1
def c87_7 : ACode := .ops [⟨some 4, .mv (.c (.bool true)), none, []⟩] [4]
theorem r87_7 : type_of% (@rr _ _ c87_7.eq_1) := rr c87_7.eq_1
def c87_8 : ACode := .seq c87_7 .ret
theorem r87_8 : type_of% (@rr _ _ c87_8.eq_1) := rr c87_8.eq_1
def c87_9 : ACode := .cond (.t 13) c87_8 .skip
theorem r87_9 : type_of% (@rr _ _ c87_9.eq_1) := rr c87_9.eq_1
def c87_10 : ACode := .seq c87_6 c87_9
theorem r87_10 : type_of% (@rr _ _ c87_10.eq_1) := rr c87_10.eq_1
def c87_11 : ACode := .ops [⟨some 14, .mv (.t 1), none, []⟩,
  ⟨some 15, .bin .sub (.t 14) (.c (.int .i64 1)), none, []⟩,
  ⟨some 16, .bin .shl (.c (.int .i64 1)) (.t 15), none, []⟩,
  ⟨some 5, .mv (.t 16), none, []⟩] [0, 5]
theorem r87_11 : type_of% (@rr _ _ c87_11.eq_1) := rr c87_11.eq_1
def c87_12 : ACode := .ops [⟨some 17, .mv (.t 0), none, []⟩,
  ⟨some 18, .mv (.t 5), none, []⟩,
  ⟨some 19, .un .neg (.t 18), none, []⟩,
  ⟨some 20, .bin .geq (.t 17) (.t 19), none, []⟩,
  ⟨some 21, .mv (.t 20), none, []⟩,
  ⟨some 22, .mv (.t 0), some (21, true), []⟩,
  ⟨some 23, .mv (.t 5), some (21, true), []⟩,
  ⟨some 24, .bin .sub (.t 23) (.c (.int .i64 1)), some (21, true), []⟩,
  ⟨some 25, .bin .leq (.t 22) (.t 24), some (21, true), []⟩,
  ⟨some 26, .pick (.t 21) (.t 25) (.c (.bool false)), none, []⟩,
  ⟨some 4, .mv (.t 26), none, []⟩] [4]
theorem r87_12 : type_of% (@rr _ _ c87_12.eq_1) := rr c87_12.eq_1
def c87_13 : ACode := .seq c87_12 .ret
theorem r87_13 : type_of% (@rr _ _ c87_13.eq_1) := rr c87_13.eq_1
def c87_14 : ACode := .seq c87_11 c87_13
theorem r87_14 : type_of% (@rr _ _ c87_14.eq_1) := rr c87_14.eq_1
def c87_15 : ACode := .seq c87_10 c87_14
theorem r87_15 : type_of% (@rr _ _ c87_15.eq_1) := rr c87_15.eq_1
def c87_16 : ACode := .seq c87_5 c87_15
theorem r87_16 : type_of% (@rr _ _ c87_16.eq_1) := rr c87_16.eq_1
def c87_17 : ACode := .seq c87_0 c87_16
theorem r87_17 : type_of% (@rr _ _ c87_17.eq_1) := rr c87_17.eq_1
def a87 : AFun := ⟨2, 27, c87_17, [.t 4]⟩
attribute [simp] r87_0 r87_1 r87_2 r87_3 r87_4 r87_5 r87_6 r87_7 r87_8 r87_9 r87_10 r87_11 r87_12 r87_13 r87_14 r87_15 r87_16 r87_17
theorem m87 : mFun Try.prog Try.f87 a87 = true := by decide +kernel
def c70_0 : ACode := .ops [⟨some 4, .mv (.c (.bool false)), none, []⟩] [0, 1]
theorem r70_0 : type_of% (@rr _ _ c70_0.eq_1) := rr c70_0.eq_1
def c70_1 : ACode := .ops [⟨some 5, .mv (.t 1), none, []⟩,
  ⟨some 6, .bin .lss (.t 5) (.c (.int .i64 1)), none, []⟩,
  ⟨some 7, .mv (.t 6), none, []⟩,
  ⟨some 8, .mv (.t 1), some (7, false), []⟩,
  ⟨some 9, .bin .gtr (.t 8) (.c (.int .i64 64)), some (7, false), []⟩,
  ⟨some 10, .pick (.t 7) (.c (.bool true)) (.t 9), none, []⟩] [0, 1, 10]
theorem r70_1 : type_of% (@rr _ _ c70_1.eq_1) := rr c70_1.eq_1
def c70_2 : ACode := .ops [⟨some 4, .mv (.c (.bool false)), none, []⟩] [4]
theorem r70_2 : type_of% (@rr _ _ c70_2.eq_1) := rr c70_2.eq_1
def c70_3 : ACode := .seq c70_2 .ret
theorem r70_3 : type_of% (@rr _ _ c70_3.eq_1) := rr c70_3.eq_1
def c70_4 : ACode := .cond (.t 10) c70_3 .skip
theorem r70_4 : type_of% (@rr _ _ c70_4.eq_1) := rr c70_4.eq_1
def c70_5 : ACode := .seq c70_1 c70_4
theorem r70_5 : type_of% (@rr _ _ c70_5.eq_1) := rr c70_5.eq_1
def c70_6 : ACode := .ops [⟨some 11, .mv (.t 0), none, []⟩,
  ⟨some 12, .mv (.t 1), none, []⟩,
  ⟨some 13, .bin .sub (.t 12) (.c (.int .i64 1)), none, []⟩,
  ⟨some 14, .conv .u64 (.t 13), none, []⟩,
  ⟨some 15, .bin .shr (.t 11) (.t 14), none, []⟩,
  ⟨some 16, .bin .eql (.t 15) (.c (.int .i64 0)), none, []⟩,
  ⟨some 17, .mv (.t 16), none, []⟩,
  ⟨some 18, .mv (.t 0), some (17, false), []⟩,
  ⟨some 19, .mv (.t 1), some (17, false), []⟩,
  ⟨some 20, .bin .sub (.t 19) (.c (.int .i64 1)), some (17, false), []⟩,
  ⟨some 21, .conv .u64 (.t 20), some (17, false), []⟩,
  ⟨some 22, .bin .shr (.t 18) (.t 21), some (17, false), []⟩,
  ⟨some 23, .bin .eql (.t 22) (.c (.int .i64 (-1))), some (17, false), []⟩,
  ⟨some 24, .pick (.t 17) (.c (.bool true)) (.t 23), none, []⟩,
  ⟨some 4, .mv (.t 24), none, []⟩] [4]
theorem r70_6 : type_of% (@rr _ _ c70_6.eq_1) := rr c70_6.eq_1
def c70_7 : ACode := .seq c70_6 .ret
theorem r70_7 : type_of% (@rr _ _ c70_7.eq_1) := rr c70_7.eq_1
def c70_8 : ACode := .seq c70_5 c70_7
theorem r70_8 : type_of% (@rr _ _ c70_8.eq_1) := rr c70_8.eq_1
def c70_9 : ACode := .seq c70_0 c70_8
theorem r70_9 : type_of% (@rr _ _ c70_9.eq_1) := rr c70_9.eq_1
def a70 : AFun := ⟨2, 25, c70_9, [.t 4]⟩
attribute [simp] r70_0 r70_1 r70_2 r70_3 r70_4 r70_5 r70_6 r70_7 r70_8 r70_9
theorem m70 : mFun Try.prog Try.f70 a70 = true := by decide +kernel
def c88_0 : ACode := .ops [⟨some 4, .mv (.c (.int .i64 0)), none, []⟩] [0, 1]
theorem r88_0 : type_of% (@rr _ _ c88_0.eq_1) := rr c88_0.eq_1
def c88_1 : ACode := .ops [⟨some 6, .mv (.t 1), none, []⟩,
  ⟨some 7, .bin .lss (.t 6) (.c (.int .i64 1)), none, []⟩,
  ⟨some 8, .mv (.t 7), none, []⟩,
  ⟨some 9, .mv (.t 1), some (8, false), []⟩,
  ⟨some 10, .bin .geq (.t 9) (.c (.int .i64 64)), some (8, false), []⟩,
  ⟨some 11, .pick (.t 8) (.c (.bool true)) (.t 10), none, []⟩] [0, 1, 11]
theorem r88_1 : type_of% (@rr _ _ c88_1.eq_1) := rr c88_1.eq_1
def c88_2 : ACode := .ops [⟨some 12, .mv (.t 0), none, []⟩,
  ⟨some 4, .mv (.t 12), none, []⟩] [4]
theorem r88_2 : type_of% (@rr _ _ c88_2.eq_1) := rr c88_2.eq_1
def c88_3 : ACode := .seq c88_2 .ret
theorem r88_3 : type_of% (@rr _ _ c88_3.eq_1) := rr c88_3.eq_1
def c88_4 : ACode := .cond (.t 11) c88_3 .skip
theorem r88_4 : type_of% (@rr _ _ c88_4.eq_1) := rr c88_4.eq_1
def c88_5 : ACode := .seq c88_1 c88_4
theorem r88_5 : type_of% (@rr _ _ c88_5.eq_1) := rr c88_5.eq_1
def c88_6 : ACode := .ops [⟨some 13, .mv (.t 1), none, []⟩,
  ⟨some 14, .bin .sub (.c (.int .i64 64)) (.t 13), none, []⟩,
  ⟨some 15, .conv .u64 (.t 14), none, []⟩,
  ⟨some 5, .mv (.t 15), none, []⟩] [0, 5]
theorem r88_6 : type_of% (@rr _ _ c88_6.eq_1) := rr c88_6.eq_1
def c88_7 : ACode := .ops [⟨some 16, .mv (.t 0), none, []⟩,
  ⟨some 17, .mv (.t 5), none, []⟩,
  ⟨some 18, .bin .shl (.t 16) (.t 17), none, []⟩,
  ⟨some 19, .mv (.t 5), none, []⟩,
  ⟨some 20, .bin .shr (.t 18) (.t 19), none, []⟩,
  ⟨some 4, .mv (.t 20), none, []⟩] [4]
theorem r88_7 : type_of% (@rr _ _ c88_7.eq_1) := rr c88_7.eq_1
def c88_8 : ACode := .seq c88_7 .ret
theorem r88_8 : type_of% (@rr _ _ c88_8.eq_1) := rr c88_8.eq_1
def c88_9 : ACode := .seq c88_6 c88_8
theorem r88_9 : type_of% (@rr _ _ c88_9.eq_1) := rr c88_9.eq_1
def c88_10 : ACode := .seq c88_5 c88_9
theorem r88_10 : type_of% (@rr _ _ c88_10.eq_1) := rr c88_10.eq_1
def c88_11 : ACode := .seq c88_0 c88_10
theorem r88_11 : type_of% (@rr _ _ c88_11.eq_1) := rr c88_11.eq_1
def a88 : AFun := ⟨2, 21, c88_11, [.t 4]⟩
attribute [simp] r88_0 r88_1 r88_2 r88_3 r88_4 r88_5 r88_6 r88_7 r88_8 r88_9 r88_10 r88_11
theorem m88 : mFun Try.prog Try.f88 a88 = true := by decide +kernel
def Fits (n w : Int) : Option Bool := if w = 32 then some (fits n) else none
theorem runs_rFits (n w : Int) (c : Bool) (h : Fits n w = some c) : Runs (tbl []) a87 [Arg.enc n, Arg.enc w] (Arg.enc c) := by
  unfold Fits at h
  split at h
  · rename_i hw
    subst hw
    cases h
    refine ⟨rfl, fun g => run_def ?_⟩
    unfold a87
    by_cases h1 : -2147483648 ≤ n <;> simp [fits, IntKind.wrap, IntKind.bits, IntKind.signed, ishl, ishr, h1]
  · cases h
theorem runs_Fits (n w : Int) (c : Bool) (h : Fits n w = some c) : Runs (tbl []) a70 [Arg.enc n, Arg.enc w] (Arg.enc c) := by
  unfold Fits at h
  split at h
  · rename_i hw
    subst hw
    cases h
    refine ⟨rfl, fun g => run_def ?_⟩
    have e : fits n = (decide (n.fdiv 2147483648 = 0) || decide (n.fdiv 2147483648 = -1)) := by
      unfold fits
      have := Int.fdiv_eq_ediv_of_nonneg n (show (0 : Int) ≤ 2147483648 by omega)
      rw [this]
      by_cases h1 : n / 2147483648 = 0
      · simp [h1]; omega
      · by_cases h2 : n / 2147483648 = -1
        · simp [h2]; omega
        · simp [h1, h2]; omega
    unfold a70
    rw [e]
    by_cases h1 : n.fdiv 2147483648 = 0 <;> simp [IntKind.wrap, IntKind.bits, IntKind.signed, ishl, ishr, h1]
  · cases h
def Wrap (n w : Int) : Option Int := if w = 32 ∧ -9223372036854775808 ≤ n ∧ n ≤ 9223372036854775807 then some (wrap32 n) else none
theorem runs_Wrap (n w c : Int) (h : Wrap n w = some c) : Runs (tbl []) a88 [Arg.enc n, Arg.enc w] (Arg.enc c) := by
  unfold Wrap at h
  split at h
  · rename_i hw
    obtain ⟨rfl, h1, h2⟩ := hw
    cases h
    refine ⟨rfl, fun g => run_def ?_⟩
    unfold a88
    simp [wrap32, IntKind.wrap, IntKind.bits, IntKind.signed, ishl, ishr]
    rw [Int.fdiv_eq_ediv_of_nonneg _ (by omega)]
    split <;> omega
  · cases h
theorem c_rFits : Contract Try.prog 87 (sp2 Fits) := contract_of_runs mixed tbl_nil Try.func87 m87 (sp2_runs runs_rFits)
theorem c_Fits : Contract Try.prog 70 (sp2 Fits) := contract_of_runs mixed tbl_nil Try.func70 m70 (sp2_runs runs_Fits)
theorem c_Wrap : Contract Try.prog 88 (sp2 Wrap) := contract_of_runs mixed tbl_nil Try.func88 m88 (sp2_runs runs_Wrap)
/-! ### nodes, by the document -/
def c77_0 : ACode := .ops [⟨some 1, .box (.t 0) 6, none, []⟩,
  ⟨some 2, .mv (.c (.bool false)), none, []⟩] [1]
theorem r77_0 : type_of% (@rr _ _ c77_0.eq_1) := rr c77_0.eq_1
def c77_1 : ACode := .ops [⟨some 3, .fad (.t 1) 0, none, [1]⟩,
  ⟨some 4, .load 1 false (.t 3), none, [1]⟩] [1, 4]
theorem r77_1 : type_of% (@rr _ _ c77_1.eq_1) := rr c77_1.eq_1
def c77_2 : ACode := .ops [⟨some 5, .fad (.t 1) 1, none, [1]⟩,
  ⟨some 6, .load 1 false (.t 5), none, [1]⟩,
  ⟨some 7, .call 87 [.t 6, .c (.int .i64 32)], none, []⟩,
  ⟨some 8, .mv (.t 7), none, []⟩,
  ⟨some 9, .fad (.t 1) 2, some (8, true), [1]⟩,
  ⟨some 10, .load 1 false (.t 9), some (8, true), [1]⟩,
  ⟨some 11, .bin .eql (.t 10) (.c (.int .i64 0)), some (8, true), []⟩,
  ⟨some 12, .pick (.t 8) (.t 11) (.c (.bool false)), none, []⟩,
  ⟨some 13, .mv (.t 12), none, []⟩,
  ⟨some 14, .fad (.t 1) 3, some (13, true), [1]⟩,
  ⟨some 15, .load 1 false (.t 14), some (13, true), [1]⟩,
  ⟨some 16, .bin .eql (.t 15) (.c (.int .i64 0)), some (13, true), []⟩,
  ⟨some 17, .pick (.t 13) (.t 16) (.c (.bool false)), none, []⟩,
  ⟨some 18, .mv (.t 17), none, []⟩,
  ⟨some 19, .fad (.t 1) 4, some (18, true), [1]⟩,
  ⟨some 20, .load 1 false (.t 19), some (18, true), [1]⟩,
  ⟨some 21, .bin .eql (.t 20) (.c (.int .i64 0)), some (18, true), []⟩,
  ⟨some 22, .pick (.t 18) (.t 21) (.c (.bool false)), none, []⟩,
  ⟨some 23, .mv (.t 22), none, []⟩,
  ⟨some 24, .fad (.t 1) 5, some (23, true), [1]⟩,
  ⟨some 25, .load 1 false (.t 24), some (23, true), [1]⟩,
  ⟨some 26, .bin .eql (.t 25) (.c (.int .i64 0)), some (23, true), []⟩,
  ⟨some 27, .pick (.t 23) (.t 26) (.c (.bool false)), none, []⟩,
  ⟨some 2, .mv (.t 27), none, []⟩] [2]
theorem r77_2 : type_of% (@rr _ _ c77_2.eq_1) := rr c77_2.eq_1
def c77_3 : ACode := .seq c77_2 .ret
theorem r77_3 : type_of% (@rr _ _ c77_3.eq_1) := rr c77_3.eq_1
def c77_4 : ACode := .cond (.t 4) c77_3 .skip
theorem r77_4 : type_of% (@rr _ _ c77_4.eq_1) := rr c77_4.eq_1
def c77_5 : ACode := .seq c77_1 c77_4
theorem r77_5 : type_of% (@rr _ _ c77_5.eq_1) := rr c77_5.eq_1
def c77_6 : ACode := .ops [⟨some 28, .fad (.t 1) 1, none, [1]⟩,
  ⟨some 29, .load 1 false (.t 28), none, [1]⟩,
  ⟨some 30, .bin .eql (.t 29) (.c (.int .i64 0)), none, []⟩,
  ⟨some 31, .mv (.t 30), none, []⟩,
  ⟨some 32, .fad (.t 1) 2, some (31, true), [1]⟩,
  ⟨some 33, .load 1 false (.t 32), some (31, true), [1]⟩,
  ⟨some 34, .bin .geq (.t 33) (.c (.int .i64 0)), some (31, true), []⟩,
  ⟨some 35, .pick (.t 31) (.t 34) (.c (.bool false)), none, []⟩,
  ⟨some 36, .mv (.t 35), none, []⟩,
  ⟨some 37, .fad (.t 1) 2, some (36, true), [1]⟩,
  ⟨some 38, .load 1 false (.t 37), some (36, true), [1]⟩,
  ⟨some 39, .bin .lss (.t 38) (.c (.int .i64 4)), some (36, true), []⟩,
  ⟨some 40, .pick (.t 36) (.t 39) (.c (.bool false)), none, []⟩,
  ⟨some 41, .mv (.t 40), none, []⟩,
  ⟨some 42, .fad (.t 1) 3, some (41, true), [1]⟩,
  ⟨some 43, .load 1 false (.t 42), some (41, true), [1]⟩,
  ⟨some 44, .call 87 [.t 43, .c (.int .i64 32)], some (41, true), []⟩,
  ⟨some 45, .pick (.t 41) (.t 44) (.c (.bool false)), none, []⟩,
  ⟨some 46, .mv (.t 45), none, []⟩,
  ⟨some 47, .fad (.t 1) 4, some (46, true), [1]⟩,
  ⟨some 48, .load 1 false (.t 47), some (46, true), [1]⟩,
  ⟨some 49, .bin .geq (.t 48) (.c (.int .i64 1)), some (46, true), []⟩,
  ⟨some 50, .pick (.t 46) (.t 49) (.c (.bool false)), none, []⟩,
  ⟨some 51, .mv (.t 50), none, []⟩,
  ⟨some 52, .fad (.t 1) 4, some (51, true), [1]⟩,
  ⟨some 53, .load 1 false (.t 52), some (51, true), [1]⟩,
  ⟨some 54, .bin .lss (.t 53) (.c (.int .i64 31)), some (51, true), []⟩,
  ⟨some 55, .pick (.t 51) (.t 54) (.c (.bool false)), none, []⟩,
  ⟨some 56, .mv (.t 55), none, []⟩,
  ⟨some 57, .fad (.t 1) 5, some (56, true), [1]⟩,
  ⟨some 58, .load 1 false (.t 57), some (56, true), [1]⟩,
  ⟨some 59, .bin .geq (.t 58) (.c (.int .i64 1)), some (56, true), []⟩,
  ⟨some 60, .pick (.t 56) (.t 59) (.c (.bool false)), none, []⟩,
  ⟨some 61, .mv (.t 60), none, []⟩,
  ⟨some 62, .fad (.t 1) 5, some (61, true), [1]⟩,
  ⟨some 63, .load 1 false (.t 62), some (61, true), [1]⟩,
  ⟨some 64, .bin .lss (.t 63) (.c (.int .i64 31)), some (61, true), []⟩,
  ⟨some 65, .pick (.t 61) (.t 64) (.c (.bool false)), none, []⟩,
  ⟨some 2, .mv (.t 65), none, []⟩] [2]
theorem r77_6 : type_of% (@rr _ _ c77_6.eq_1) := rr c77_6.eq_1
def c77_7 : ACode := .seq c77_6 .ret
theorem r77_7 : type_of% (@rr _ _ c77_7.eq_1) := rr c77_7.eq_1
def c77_8 : ACode := .seq c77_5 c77_7
theorem r77_8 : type_of% (@rr _ _ c77_8.eq_1) := rr c77_8.eq_1
def c77_9 : ACode := .seq c77_0 c77_8
theorem r77_9 : type_of% (@rr _ _ c77_9.eq_1) := rr c77_9.eq_1
def a77 : AFun := ⟨1, 66, c77_9, [.t 2]⟩
attribute [simp] r77_0 r77_1 r77_2 r77_3 r77_4 r77_5 r77_6 r77_7 r77_8 r77_9
theorem m77 : mFun Try.prog Try.f77 a77 = true := by decide +kernel
def c56_0 : ACode := .ops [⟨some 1, .box (.t 0) 6, none, []⟩,
  ⟨some 2, .mv (.c (.int .u64 0)), none, []⟩] [1]
theorem r56_0 : type_of% (@rr _ _ c56_0.eq_1) := rr c56_0.eq_1
def c56_1 : ACode := .ops [⟨some 3, .load 6 true (.t 1), none, [1]⟩,
  ⟨some 4, .call 77 [.t 3], none, []⟩,
  ⟨some 5, .un .not (.t 4), none, []⟩] [1, 5]
theorem r56_1 : type_of% (@rr _ _ c56_1.eq_1) := rr c56_1.eq_1
def c56_2 : ACode := .ops [⟨some 2, .mv (.c (.int .u64 0)), none, []⟩] [2]
theorem r56_2 : type_of% (@rr _ _ c56_2.eq_1) := rr c56_2.eq_1
def c56_3 : ACode := .seq c56_2 .ret
theorem r56_3 : type_of% (@rr _ _ c56_3.eq_1) := rr c56_3.eq_1
def c56_4 : ACode := .cond (.t 5) c56_3 .skip
theorem r56_4 : type_of% (@rr _ _ c56_4.eq_1) := rr c56_4.eq_1
def c56_5 : ACode := .seq c56_1 c56_4
theorem r56_5 : type_of% (@rr _ _ c56_5.eq_1) := rr c56_5.eq_1
def c56_6 : ACode := .ops [⟨some 6, .fad (.t 1) 0, none, [1]⟩,
  ⟨some 7, .load 1 false (.t 6), none, [1]⟩] [1, 7]
theorem r56_6 : type_of% (@rr _ _ c56_6.eq_1) := rr c56_6.eq_1
def c56_7 : ACode := .ops [⟨some 8, .fad (.t 1) 1, none, [1]⟩,
  ⟨some 9, .load 1 false (.t 8), none, [1]⟩,
  ⟨some 10, .conv .u64 (.t 9), none, []⟩,
  ⟨some 11, .bin .and (.t 10) (.c (.int .u64 4294967295)), none, []⟩,
  ⟨some 12, .bin .or (.c (.int .u64 9223372036854775808)) (.t 11), none, []⟩,
  ⟨some 2, .mv (.t 12), none, []⟩] [2]
theorem r56_7 : type_of% (@rr _ _ c56_7.eq_1) := rr c56_7.eq_1
def c56_8 : ACode := .seq c56_7 .ret
theorem r56_8 : type_of% (@rr _ _ c56_8.eq_1) := rr c56_8.eq_1
def c56_9 : ACode := .cond (.t 7) c56_8 .skip
theorem r56_9 : type_of% (@rr _ _ c56_9.eq_1) := rr c56_9.eq_1
def c56_10 : ACode := .seq c56_6 c56_9
theorem r56_10 : type_of% (@rr _ _ c56_10.eq_1) := rr c56_10.eq_1
def c56_11 : ACode := .ops [⟨some 13, .fad (.t 1) 3, none, [1]⟩,
  ⟨some 14, .load 1 false (.t 13), none, [1]⟩,
  ⟨some 15, .conv .u64 (.t 14), none, []⟩,
  ⟨some 16, .bin .and (.t 15) (.c (.int .u64 4294967295)), none, []⟩,
  ⟨some 17, .fad (.t 1) 2, none, [1]⟩,
  ⟨some 18, .load 1 false (.t 17), none, [1]⟩,
  ⟨some 19, .conv .u64 (.t 18), none, []⟩,
  ⟨some 20, .bin .shl (.t 19) (.c (.int .u64 32)), none, []⟩,
  ⟨some 21, .bin .or (.t 16) (.t 20), none, []⟩,
  ⟨some 22, .fad (.t 1) 4, none, [1]⟩,
  ⟨some 23, .load 1 false (.t 22), none, [1]⟩,
  ⟨some 24, .conv .u64 (.t 23), none, []⟩,
  ⟨some 25, .bin .shl (.t 24) (.c (.int .u64 40)), none, []⟩,
  ⟨some 26, .bin .or (.t 21) (.t 25), none, []⟩,
  ⟨some 27, .fad (.t 1) 5, none, [1]⟩,
  ⟨some 28, .load 1 false (.t 27), none, [1]⟩,
  ⟨some 29, .conv .u64 (.t 28), none, []⟩,
  ⟨some 30, .bin .shl (.t 29) (.c (.int .u64 48)), none, []⟩,
  ⟨some 31, .bin .or (.t 26) (.t 30), none, []⟩,
  ⟨some 2, .mv (.t 31), none, []⟩] [2]
theorem r56_11 : type_of% (@rr _ _ c56_11.eq_1) := rr c56_11.eq_1
def c56_12 : ACode := .seq c56_11 .ret
theorem r56_12 : type_of% (@rr _ _ c56_12.eq_1) := rr c56_12.eq_1
def c56_13 : ACode := .seq c56_10 c56_12
theorem r56_13 : type_of% (@rr _ _ c56_13.eq_1) := rr c56_13.eq_1
def c56_14 : ACode := .seq c56_5 c56_13
theorem r56_14 : type_of% (@rr _ _ c56_14.eq_1) := rr c56_14.eq_1
def c56_15 : ACode := .seq c56_0 c56_14
theorem r56_15 : type_of% (@rr _ _ c56_15.eq_1) := rr c56_15.eq_1
def a56 : AFun := ⟨1, 32, c56_15, [.t 2]⟩
attribute [simp] r56_0 r56_1 r56_2 r56_3 r56_4 r56_5 r56_6 r56_7 r56_8 r56_9 r56_10 r56_11 r56_12 r56_13 r56_14 r56_15
theorem m56 : mFun Try.prog Try.f56 a56 = true := by decide +kernel
theorem runs_rRightNode (n : Node) (c : Bool) (h : some (rightNode n) = some c) : Runs (tbl [(87, sp2 Fits)]) a77 [Arg.enc n] (Arg.enc c) := by
  cases h
  refine ⟨rfl, fun g => run_def ?_⟩
  obtain ⟨leaf, value, feature, cut, left, right⟩ := n
  unfold a77
  cases leaf
  case false =>
    by_cases h1 : value = 0
    case neg => simp -implicitDefEqProofs [rightNode, Fits, h1]
    by_cases h2 : 0 ≤ feature
    case neg => simp -implicitDefEqProofs [rightNode, Fits, h1, h2]
    by_cases h3 : feature < 4
    case neg => simp -implicitDefEqProofs [rightNode, Fits, h1, h2, h3]
    cases h4 : fits cut
    case false => simp -implicitDefEqProofs [rightNode, Fits, h1, h2, h3, h4]
    by_cases h5 : 1 ≤ left
    case neg => simp -implicitDefEqProofs [rightNode, Fits, h1, h2, h3, h4, h5]
    by_cases h6 : left < 31
    case neg => simp -implicitDefEqProofs [rightNode, Fits, h1, h2, h3, h4, h5, h6]
    by_cases h7 : 1 ≤ right <;> simp -implicitDefEqProofs [rightNode, Fits, h1, h2, h3, h4, h5, h6, h7]
  case true =>
    cases h1 : fits value
    case false => simp -implicitDefEqProofs [rightNode, Fits, h1]
    by_cases h2 : feature = 0
    case neg => simp -implicitDefEqProofs [rightNode, Fits, h1, h2]
    by_cases h3 : cut = 0
    case neg => simp -implicitDefEqProofs [rightNode, Fits, h1, h2, h3]
    by_cases h4 : left = 0 <;> simp -implicitDefEqProofs [rightNode, Fits, h1, h2, h3, h4]
theorem c_rRightNode : Contract Try.prog 77 (sp1 fun n => some (rightNode n)) :=
  contract_of_runs mixed (tbl_cons c_rFits tbl_nil) Try.func77 m77 (sp1_runs runs_rRightNode)
theorem or_low (a b : Int) (k : Nat) (hk : k < 64) (ha : 0 ≤ a) (h1 : a < 2 ^ k) (hb : 0 ≤ b) (h2 : b * 2 ^ k < 18446744073709551616) : ior .u64 a (b * 2 ^ k) = a + b * 2 ^ k := by
  obtain ⟨a, rfl⟩ : ∃ n : Nat, a = n := ⟨a.toNat, by omega⟩
  obtain ⟨b, rfl⟩ : ∃ n : Nat, b = n := ⟨b.toNat, by omega⟩
  have e : ((b : Int) * 2 ^ k) = ((b * 2 ^ k : Nat) : Int) := by simp
  have h1' : a < 2 ^ k := by
    have e2 : ((2 : Int) ^ k) = ((2 ^ k : Nat) : Int) := by simp
    rw [e2] at h1
    omega
  have h64 : (2 : Nat) ^ k ≤ 2 ^ 63 := Nat.pow_le_pow_right (by omega) (by omega)
  rw [e] at h2 ⊢
  have hb2 : b * 2 ^ k < 18446744073709551616 := by omega
  rw [u_or _ _ ⟨by omega, by omega⟩ ⟨by omega, by omega⟩]
  have e3 : ((a : Int)).toNat = a := by omega
  have e4 : (((b * 2 ^ k : Nat) : Int)).toNat = b * 2 ^ k := by omega
  rw [e3, e4, Nat.or_comm, or_apart b a k h1']
  omega
theorem and_low (a : Int) (h : okW a) : iand .u64 a 4294967295 = a % 4294967296 := by
  rw [u_and _ _ h ⟨by omega, by omega⟩]
  have e : (4294967295 : Int).toNat = 4294967295 := rfl
  have := and_mask a.toNat 0 32
  simp at this
  rw [e, this]
  have := h.1
  omega
theorem runs_rPack (n : Node) (c : Word) (h : some (pack n) = some c) : Runs (tbl [(77, sp1 fun n => some (rightNode n))]) a56 [Arg.enc n] (Arg.enc c) := by
  cases h
  refine ⟨rfl, fun g => run_def ?_⟩
  obtain ⟨leaf, value, feature, cut, left, right⟩ := n
  unfold a56
  cases h1 : rightNode ⟨leaf, value, feature, cut, left, right⟩
  case false => simp -implicitDefEqProofs [pack, h1]
  cases leaf
  case true =>
    have e1 : ior .u64 9223372036854775808 (value % 4294967296) = 9223372036854775808 + value % 4294967296 := by
      rw [u_or _ _ ⟨by omega, by omega⟩ ⟨by omega, by omega⟩]
      have e := or_apart 1 (value % 4294967296).toNat 63 (by omega)
      have e2 : (9223372036854775808 : Int).toNat = 1 * 2 ^ 63 := rfl
      rw [e2, e]
      omega
    simp -implicitDefEqProofs [pack, h1, u_conv, and_low _ (okW_mod _), e1]
  case false =>
    have hb := h1
    simp [rightNode] at hb
    have f1 : feature % 18446744073709551616 * 4294967296 % 18446744073709551616 = feature * 2 ^ 32 := by omega
    have f2 : left % 18446744073709551616 * 1099511627776 % 18446744073709551616 = left * 2 ^ 40 := by omega
    have f3 : right % 18446744073709551616 * 281474976710656 % 18446744073709551616 = right * 2 ^ 48 := by omega
    have e1 := or_low (cut % 4294967296) feature 32 (by omega) (by omega) (by omega) (by omega) (by omega)
    have e2 := or_low (cut % 4294967296 + feature * 2 ^ 32) left 40 (by omega) (by omega) (by omega) (by omega) (by omega)
    have e3 := or_low (cut % 4294967296 + feature * 2 ^ 32 + left * 2 ^ 40) right 48 (by omega) (by omega) (by omega) (by omega) (by omega)
    simp -implicitDefEqProofs [pack, h1, u_conv, and_low _ (okW_mod _), f1, f2, f3]
    simp only [Int.reducePow] at e1 e2 e3
    rw [e1, e2, e3]
theorem c_rPack : Contract Try.prog 56 (sp1 fun n => some (pack n)) :=
  contract_of_runs mixed (tbl_cons c_rRightNode tbl_nil) Try.func56 m56 (sp1_runs runs_rPack)
theorem and_15 (a : Int) (h : okW a) : iand .u64 a 15 = a % 16 := by
  rw [u_and _ _ h ⟨by omega, by omega⟩]
  have e : (15 : Int).toNat = 15 := rfl
  have := and_mask a.toNat 0 4
  simp at this
  rw [e, this]
  have := h.1
  omega
theorem and_255 (a : Int) (h : okW a) : iand .u64 a 255 = a % 256 := by
  rw [u_and _ _ h ⟨by omega, by omega⟩]
  have e : (255 : Int).toNat = 255 := rfl
  have := and_mask a.toNat 0 8
  simp at this
  rw [e, this]
  have := h.1
  omega
def Unpack (w : Word) : Option (Node × Bool) := if 0 ≤ w.v ∧ w.v < 18446744073709551616 then some (unpack w) else none
end Go.Co
