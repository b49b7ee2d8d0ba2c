/- CO: texts of this claim, one behind the other. -/
import Derived.Test.YtlljcfmgedmigaaCz1
/- CO: numbers of 32 bits. -/
namespace Go.Co
open Go.Am Go.Proofs
set_option linter.unusedSimpArgs false
set_option linter.unusedVariables false
def c72_0 : ACode := .ops [⟨some 4, .mv (.c (.bool false)), none, []⟩] [0, 1]
theorem r72_0 : type_of% (@rr _ _ c72_0.eq_1) := rr rfl
def c72_1 : ACode := .ops [⟨some 6, .mv (.t 1), none, []⟩,⟨some 7, .bin .lss (.t 6) (.c (.int .i64 1)), none, []⟩,⟨some 8, .mv (.t 7), none, []⟩,⟨some 9, .mv (.t 1), some (8, false), []⟩,⟨some 10, .bin .gtr (.t 9) (.c (.int .i64 64)), some (8, false), []⟩,⟨some 11, .pick (.t 8) (.c (.bool true)) (.t 10), none, []⟩] [0, 1, 11]
theorem r72_1 : type_of% (@rr _ _ c72_1.eq_1) := rr rfl
def c72_2 : ACode := .ops [⟨some 4, .mv (.c (.bool false)), none, []⟩] [4]
theorem r72_2 : type_of% (@rr _ _ c72_2.eq_1) := rr rfl
def c72_3 : ACode := .seq c72_2 .ret
theorem r72_3 : type_of% (@rr _ _ c72_3.eq_1) := rr rfl
def c72_4 : ACode := .cond (.t 11) c72_3 .skip
theorem r72_4 : type_of% (@rr _ _ c72_4.eq_1) := rr rfl
def c72_5 : ACode := .seq c72_1 c72_4
theorem r72_5 : type_of% (@rr _ _ c72_5.eq_1) := rr rfl
def c72_6 : ACode := .ops [⟨some 12, .mv (.t 1), none, []⟩,⟨some 13, .bin .eql (.t 12) (.c (.int .i64 64)), none, []⟩] [0, 1, 13]
theorem r72_6 : type_of% (@rr _ _ c72_6.eq_1) := rr rfl
def c72_7 : ACode := .ops [⟨some 4, .mv (.c (.bool true)), none, []⟩] [4]
theorem r72_7 : type_of% (@rr _ _ c72_7.eq_1) := rr rfl
def c72_8 : ACode := .seq c72_7 .ret
theorem r72_8 : type_of% (@rr _ _ c72_8.eq_1) := rr rfl
def c72_9 : ACode := .cond (.t 13) c72_8 .skip
theorem r72_9 : type_of% (@rr _ _ c72_9.eq_1) := rr rfl
def c72_10 : ACode := .seq c72_6 c72_9
theorem r72_10 : type_of% (@rr _ _ c72_10.eq_1) := rr rfl
def c72_11 : ACode := .ops [⟨some 14, .mv (.t 1), none, []⟩,⟨some 15, .bin .sub (.t 14) (.c (.int .i64 1)), none, []⟩,⟨some 16, .bin .shl (.c (.int .i64 1)) (.t 15), none, []⟩,⟨some 5, .mv (.t 16), none, []⟩] [0, 5]
theorem r72_11 : type_of% (@rr _ _ c72_11.eq_1) := rr rfl
def c72_12 : ACode := .ops [⟨some 17, .mv (.t 0), none, []⟩,⟨some 18, .mv (.t 5), none, []⟩,⟨some 19, .un .neg (.t 18), none, []⟩,⟨some 20, .bin .geq (.t 17) (.t 19), none, []⟩,⟨some 21, .mv (.t 20), none, []⟩,⟨some 22, .mv (.t 0), some (21, true), []⟩,⟨some 23, .mv (.t 5), some (21, true), []⟩,⟨some 24, .bin .sub (.t 23) (.c (.int .i64 1)), some (21, true), []⟩,⟨some 25, .bin .leq (.t 22) (.t 24), some (21, true), []⟩,⟨some 26, .pick (.t 21) (.t 25) (.c (.bool false)), none, []⟩,⟨some 4, .mv (.t 26), none, []⟩] [4]
theorem r72_12 : type_of% (@rr _ _ c72_12.eq_1) := rr rfl
def c72_13 : ACode := .seq c72_12 .ret
theorem r72_13 : type_of% (@rr _ _ c72_13.eq_1) := rr rfl
def c72_14 : ACode := .seq c72_11 c72_13
theorem r72_14 : type_of% (@rr _ _ c72_14.eq_1) := rr rfl
def c72_15 : ACode := .seq c72_10 c72_14
theorem r72_15 : type_of% (@rr _ _ c72_15.eq_1) := rr rfl
def c72_16 : ACode := .seq c72_5 c72_15
theorem r72_16 : type_of% (@rr _ _ c72_16.eq_1) := rr rfl
def c72_17 : ACode := .seq c72_0 c72_16
theorem r72_17 : type_of% (@rr _ _ c72_17.eq_1) := rr rfl
def a72 : AFun := ⟨2, 27, c72_17, [.t 4]⟩
attribute [simp] r72_0 r72_1 r72_2 r72_3 r72_4 r72_5 r72_6 r72_7 r72_8 r72_9 r72_10 r72_11 r72_12 r72_13 r72_14 r72_15 r72_16 r72_17
theorem m72 : mFun Try.prog Try.f72 a72 = true := by decide +kernel
def c60_0 : ACode := .ops [⟨some 4, .mv (.c (.bool false)), none, []⟩] [0, 1]
theorem r60_0 : type_of% (@rr _ _ c60_0.eq_1) := rr rfl
def c60_1 : ACode := .ops [⟨some 5, .mv (.t 1), none, []⟩,⟨some 6, .bin .lss (.t 5) (.c (.int .i64 1)), none, []⟩,⟨some 7, .mv (.t 6), none, []⟩,⟨some 8, .mv (.t 1), some (7, false), []⟩,⟨some 9, .bin .gtr (.t 8) (.c (.int .i64 64)), some (7, false), []⟩,⟨some 10, .pick (.t 7) (.c (.bool true)) (.t 9), none, []⟩] [0, 1, 10]
theorem r60_1 : type_of% (@rr _ _ c60_1.eq_1) := rr rfl
def c60_2 : ACode := .ops [⟨some 4, .mv (.c (.bool false)), none, []⟩] [4]
theorem r60_2 : type_of% (@rr _ _ c60_2.eq_1) := rr rfl
def c60_3 : ACode := .seq c60_2 .ret
theorem r60_3 : type_of% (@rr _ _ c60_3.eq_1) := rr rfl
def c60_4 : ACode := .cond (.t 10) c60_3 .skip
theorem r60_4 : type_of% (@rr _ _ c60_4.eq_1) := rr rfl
def c60_5 : ACode := .seq c60_1 c60_4
theorem r60_5 : type_of% (@rr _ _ c60_5.eq_1) := rr rfl
def c60_6 : ACode := .ops [⟨some 11, .mv (.t 0), none, []⟩,⟨some 12, .mv (.t 1), none, []⟩,⟨some 13, .bin .sub (.t 12) (.c (.int .i64 1)), none, []⟩,⟨some 14, .conv .u64 (.t 13), none, []⟩,⟨some 15, .bin .shr (.t 11) (.t 14), none, []⟩,⟨some 16, .bin .eql (.t 15) (.c (.int .i64 0)), none, []⟩,⟨some 17, .mv (.t 16), none, []⟩,⟨some 18, .mv (.t 0), some (17, false), []⟩,⟨some 19, .mv (.t 1), some (17, false), []⟩,⟨some 20, .bin .sub (.t 19) (.c (.int .i64 1)), some (17, false), []⟩,⟨some 21, .conv .u64 (.t 20), some (17, false), []⟩,⟨some 22, .bin .shr (.t 18) (.t 21), some (17, false), []⟩,⟨some 23, .bin .eql (.t 22) (.c (.int .i64 (-1))), some (17, false), []⟩,⟨some 24, .pick (.t 17) (.c (.bool true)) (.t 23), none, []⟩,⟨some 4, .mv (.t 24), none, []⟩] [4]
theorem r60_6 : type_of% (@rr _ _ c60_6.eq_1) := rr rfl
def c60_7 : ACode := .seq c60_6 .ret
theorem r60_7 : type_of% (@rr _ _ c60_7.eq_1) := rr rfl
def c60_8 : ACode := .seq c60_5 c60_7
theorem r60_8 : type_of% (@rr _ _ c60_8.eq_1) := rr rfl
def c60_9 : ACode := .seq c60_0 c60_8
theorem r60_9 : type_of% (@rr _ _ c60_9.eq_1) := rr rfl
def a60 : AFun := ⟨2, 25, c60_9, [.t 4]⟩
attribute [simp] r60_0 r60_1 r60_2 r60_3 r60_4 r60_5 r60_6 r60_7 r60_8 r60_9
theorem m60 : mFun Try.prog Try.f60 a60 = true := by decide +kernel
def c90_0 : ACode := .ops [⟨some 4, .mv (.c (.int .i64 0)), none, []⟩] [0, 1]
theorem r90_0 : type_of% (@rr _ _ c90_0.eq_1) := rr rfl
def c90_1 : ACode := .ops [⟨some 6, .mv (.t 1), none, []⟩,⟨some 7, .bin .lss (.t 6) (.c (.int .i64 1)), none, []⟩,⟨some 8, .mv (.t 7), none, []⟩,⟨some 9, .mv (.t 1), some (8, false), []⟩,⟨some 10, .bin .geq (.t 9) (.c (.int .i64 64)), some (8, false), []⟩,⟨some 11, .pick (.t 8) (.c (.bool true)) (.t 10), none, []⟩] [0, 1, 11]
theorem r90_1 : type_of% (@rr _ _ c90_1.eq_1) := rr rfl
def c90_2 : ACode := .ops [⟨some 12, .mv (.t 0), none, []⟩,⟨some 4, .mv (.t 12), none, []⟩] [4]
theorem r90_2 : type_of% (@rr _ _ c90_2.eq_1) := rr rfl
def c90_3 : ACode := .seq c90_2 .ret
theorem r90_3 : type_of% (@rr _ _ c90_3.eq_1) := rr rfl
def c90_4 : ACode := .cond (.t 11) c90_3 .skip
theorem r90_4 : type_of% (@rr _ _ c90_4.eq_1) := rr rfl
def c90_5 : ACode := .seq c90_1 c90_4
theorem r90_5 : type_of% (@rr _ _ c90_5.eq_1) := rr rfl
def c90_6 : ACode := .ops [⟨some 13, .mv (.t 1), none, []⟩,⟨some 14, .bin .sub (.c (.int .i64 64)) (.t 13), none, []⟩,⟨some 15, .conv .u64 (.t 14), none, []⟩,⟨some 5, .mv (.t 15), none, []⟩] [0, 5]
theorem r90_6 : type_of% (@rr _ _ c90_6.eq_1) := rr rfl
def c90_7 : ACode := .ops [⟨some 16, .mv (.t 0), none, []⟩,⟨some 17, .mv (.t 5), none, []⟩,⟨some 18, .bin .shl (.t 16) (.t 17), none, []⟩,⟨some 19, .mv (.t 5), none, []⟩,⟨some 20, .bin .shr (.t 18) (.t 19), none, []⟩,⟨some 4, .mv (.t 20), none, []⟩] [4]
theorem r90_7 : type_of% (@rr _ _ c90_7.eq_1) := rr rfl
def c90_8 : ACode := .seq c90_7 .ret
theorem r90_8 : type_of% (@rr _ _ c90_8.eq_1) := rr rfl
def c90_9 : ACode := .seq c90_6 c90_8
theorem r90_9 : type_of% (@rr _ _ c90_9.eq_1) := rr rfl
def c90_10 : ACode := .seq c90_5 c90_9
theorem r90_10 : type_of% (@rr _ _ c90_10.eq_1) := rr rfl
def c90_11 : ACode := .seq c90_0 c90_10
theorem r90_11 : type_of% (@rr _ _ c90_11.eq_1) := rr rfl
def a90 : AFun := ⟨2, 21, c90_11, [.t 4]⟩
attribute [simp] r90_0 r90_1 r90_2 r90_3 r90_4 r90_5 r90_6 r90_7 r90_8 r90_9 r90_10 r90_11
theorem m90 : mFun Try.prog Try.f90 a90 = true := by decide +kernel
def Fits (n w : Int) : Option Bool := if w = 32 then some (fits n) else none
theorem runs_rFits (n w : Int) (c : Bool) (h : Fits n w = some c) : Runs (tbl []) a72 [Arg.enc n, Arg.enc w] (Arg.enc c) := by
  unfold Fits at h
  split at h
  · rename_i hw
    subst hw
    cases h
    refine ⟨rfl, fun g => run_def ?_⟩
    unfold a72
    by_cases h1 : -2147483648 ≤ n <;> simp [fits, IntKind.wrap, IntKind.bits, IntKind.signed, ishl, ishr, h1]
  · cases h
theorem runs_Fits (n w : Int) (c : Bool) (h : Fits n w = some c) : Runs (tbl []) a60 [Arg.enc n, Arg.enc w] (Arg.enc c) := by
  unfold Fits at h
  split at h
  · rename_i hw
    subst hw
    cases h
    refine ⟨rfl, fun g => run_def ?_⟩
    have e : fits n = (decide (n.fdiv 2147483648 = 0) || decide (n.fdiv 2147483648 = -1)) := by
      unfold fits
      have := Int.fdiv_eq_ediv_of_nonneg n (show (0 : Int) ≤ 2147483648 by omega)
      rw [this]
      by_cases h1 : n / 2147483648 = 0
      · simp [h1]; omega
      · by_cases h2 : n / 2147483648 = -1
        · simp [h2]; omega
        · simp [h1, h2]; omega
    unfold a60
    rw [e]
    by_cases h1 : n.fdiv 2147483648 = 0 <;> simp [IntKind.wrap, IntKind.bits, IntKind.signed, ishl, ishr, h1]
  · cases h
def Wrap (n w : Int) : Option Int := if w = 32 ∧ -9223372036854775808 ≤ n ∧ n ≤ 9223372036854775807 then some (wrap32 n) else none
theorem runs_Wrap (n w c : Int) (h : Wrap n w = some c) : Runs (tbl []) a90 [Arg.enc n, Arg.enc w] (Arg.enc c) := by
  unfold Wrap at h
  split at h
  · rename_i hw
    obtain ⟨rfl, h1, h2⟩ := hw
    cases h
    refine ⟨rfl, fun g => run_def ?_⟩
    unfold a90
    simp [wrap32, IntKind.wrap, IntKind.bits, IntKind.signed, ishl, ishr]
    rw [Int.fdiv_eq_ediv_of_nonneg _ (by omega)]
    split <;> omega
  · cases h
theorem c_rFits : Contract Try.prog 72 (sp2 Fits) := contract_of_runs mixed tbl_nil Try.func72 m72 (sp2_runs runs_rFits)
theorem c_Fits : Contract Try.prog 60 (sp2 Fits) := contract_of_runs mixed tbl_nil Try.func60 m60 (sp2_runs runs_Fits)
theorem c_Wrap : Contract Try.prog 90 (sp2 Wrap) := contract_of_runs mixed tbl_nil Try.func90 m90 (sp2_runs runs_Wrap)
def c89_0 : ACode := .ops [⟨some 1, .box (.t 0) 6, none, []⟩,⟨some 2, .mv (.c (.bool false)), none, []⟩] [1]
theorem r89_0 : type_of% (@rr _ _ c89_0.eq_1) := rr rfl
def c89_1 : ACode := .ops [⟨some 3, .fad (.t 1) 0, none, [1]⟩,⟨some 4, .load 1 false (.t 3), none, [1]⟩] [1, 4]
theorem r89_1 : type_of% (@rr _ _ c89_1.eq_1) := rr rfl
def c89_2 : ACode := .ops [⟨some 5, .fad (.t 1) 1, none, [1]⟩,⟨some 6, .load 1 false (.t 5), none, [1]⟩,⟨some 7, .call 72 [.t 6, .c (.int .i64 32)], none, []⟩,⟨some 8, .mv (.t 7), none, []⟩,⟨some 9, .fad (.t 1) 2, some (8, true), [1]⟩,⟨some 10, .load 1 false (.t 9), some (8, true), [1]⟩,⟨some 11, .bin .eql (.t 10) (.c (.int .i64 0)), some (8, true), []⟩,⟨some 12, .pick (.t 8) (.t 11) (.c (.bool false)), none, []⟩,⟨some 13, .mv (.t 12), none, []⟩,⟨some 14, .fad (.t 1) 3, some (13, true), [1]⟩,⟨some 15, .load 1 false (.t 14), some (13, true), [1]⟩,⟨some 16, .bin .eql (.t 15) (.c (.int .i64 0)), some (13, true), []⟩,⟨some 17, .pick (.t 13) (.t 16) (.c (.bool false)), none, []⟩,⟨some 18, .mv (.t 17), none, []⟩,⟨some 19, .fad (.t 1) 4, some (18, true), [1]⟩,⟨some 20, .load 1 false (.t 19), some (18, true), [1]⟩,⟨some 21, .bin .eql (.t 20) (.c (.int .i64 0)), some (18, true), []⟩,⟨some 22, .pick (.t 18) (.t 21) (.c (.bool false)), none, []⟩,⟨some 23, .mv (.t 22), none, []⟩,⟨some 24, .fad (.t 1) 5, some (23, true), [1]⟩,⟨some 25, .load 1 false (.t 24), some (23, true), [1]⟩,⟨some 26, .bin .eql (.t 25) (.c (.int .i64 0)), some (23, true), []⟩,⟨some 27, .pick (.t 23) (.t 26) (.c (.bool false)), none, []⟩,⟨some 2, .mv (.t 27), none, []⟩] [2]
theorem r89_2 : type_of% (@rr _ _ c89_2.eq_1) := rr rfl
def c89_3 : ACode := .seq c89_2 .ret
theorem r89_3 : type_of% (@rr _ _ c89_3.eq_1) := rr rfl
def c89_4 : ACode := .cond (.t 4) c89_3 .skip
theorem r89_4 : type_of% (@rr _ _ c89_4.eq_1) := rr rfl
def c89_5 : ACode := .seq c89_1 c89_4
theorem r89_5 : type_of% (@rr _ _ c89_5.eq_1) := rr rfl
def c89_6 : ACode := .ops [⟨some 28, .fad (.t 1) 1, none, [1]⟩,⟨some 29, .load 1 false (.t 28), none, [1]⟩,⟨some 30, .bin .eql (.t 29) (.c (.int .i64 0)), none, []⟩,⟨some 31, .mv (.t 30), none, []⟩,⟨some 32, .fad (.t 1) 2, some (31, true), [1]⟩,⟨some 33, .load 1 false (.t 32), some (31, true), [1]⟩,⟨some 34, .bin .geq (.t 33) (.c (.int .i64 0)), some (31, true), []⟩,⟨some 35, .pick (.t 31) (.t 34) (.c (.bool false)), none, []⟩,⟨some 36, .mv (.t 35), none, []⟩,⟨some 37, .fad (.t 1) 2, some (36, true), [1]⟩,⟨some 38, .load 1 false (.t 37), some (36, true), [1]⟩,⟨some 39, .bin .lss (.t 38) (.c (.int .i64 4)), some (36, true), []⟩,⟨some 40, .pick (.t 36) (.t 39) (.c (.bool false)), none, []⟩,⟨some 41, .mv (.t 40), none, []⟩,⟨some 42, .fad (.t 1) 3, some (41, true), [1]⟩,⟨some 43, .load 1 false (.t 42), some (41, true), [1]⟩,⟨some 44, .call 72 [.t 43, .c (.int .i64 32)], some (41, true), []⟩,⟨some 45, .pick (.t 41) (.t 44) (.c (.bool false)), none, []⟩,⟨some 46, .mv (.t 45), none, []⟩,⟨some 47, .fad (.t 1) 4, some (46, true), [1]⟩,⟨some 48, .load 1 false (.t 47), some (46, true), [1]⟩,⟨some 49, .bin .geq (.t 48) (.c (.int .i64 1)), some (46, true), []⟩,⟨some 50, .pick (.t 46) (.t 49) (.c (.bool false)), none, []⟩,⟨some 51, .mv (.t 50), none, []⟩,⟨some 52, .fad (.t 1) 4, some (51, true), [1]⟩,⟨some 53, .load 1 false (.t 52), some (51, true), [1]⟩,⟨some 54, .bin .lss (.t 53) (.c (.int .i64 31)), some (51, true), []⟩,⟨some 55, .pick (.t 51) (.t 54) (.c (.bool false)), none, []⟩,⟨some 56, .mv (.t 55), none, []⟩,⟨some 57, .fad (.t 1) 5, some (56, true), [1]⟩,⟨some 58, .load 1 false (.t 57), some (56, true), [1]⟩,⟨some 59, .bin .geq (.t 58) (.c (.int .i64 1)), some (56, true), []⟩,⟨some 60, .pick (.t 56) (.t 59) (.c (.bool false)), none, []⟩,⟨some 61, .mv (.t 60), none, []⟩,⟨some 62, .fad (.t 1) 5, some (61, true), [1]⟩,⟨some 63, .load 1 false (.t 62), some (61, true), [1]⟩,⟨some 64, .bin .lss (.t 63) (.c (.int .i64 31)), some (61, true), []⟩,⟨some 65, .pick (.t 61) (.t 64) (.c (.bool false)), none, []⟩,⟨some 2, .mv (.t 65), none, []⟩] [2]
theorem r89_6 : type_of% (@rr _ _ c89_6.eq_1) := rr rfl
def c89_7 : ACode := .seq c89_6 .ret
theorem r89_7 : type_of% (@rr _ _ c89_7.eq_1) := rr rfl
def c89_8 : ACode := .seq c89_5 c89_7
theorem r89_8 : type_of% (@rr _ _ c89_8.eq_1) := rr rfl
def c89_9 : ACode := .seq c89_0 c89_8
theorem r89_9 : type_of% (@rr _ _ c89_9.eq_1) := rr rfl
def a89 : AFun := ⟨1, 66, c89_9, [.t 2]⟩
attribute [simp] r89_0 r89_1 r89_2 r89_3 r89_4 r89_5 r89_6 r89_7 r89_8 r89_9
theorem m89 : mFun Try.prog Try.f89 a89 = true := by decide +kernel
def c51_0 : ACode := .ops [⟨some 1, .box (.t 0) 6, none, []⟩,⟨some 2, .mv (.c (.int .u64 0)), none, []⟩] [1]
theorem r51_0 : type_of% (@rr _ _ c51_0.eq_1) := rr rfl
def c51_1 : ACode := .ops [⟨some 3, .load 6 true (.t 1), none, [1]⟩,⟨some 4, .call 89 [.t 3], none, []⟩,⟨some 5, .un .not (.t 4), none, []⟩] [1, 5]
theorem r51_1 : type_of% (@rr _ _ c51_1.eq_1) := rr rfl
def c51_2 : ACode := .ops [⟨some 2, .mv (.c (.int .u64 0)), none, []⟩] [2]
theorem r51_2 : type_of% (@rr _ _ c51_2.eq_1) := rr rfl
def c51_3 : ACode := .seq c51_2 .ret
theorem r51_3 : type_of% (@rr _ _ c51_3.eq_1) := rr rfl
def c51_4 : ACode := .cond (.t 5) c51_3 .skip
theorem r51_4 : type_of% (@rr _ _ c51_4.eq_1) := rr rfl
def c51_5 : ACode := .seq c51_1 c51_4
theorem r51_5 : type_of% (@rr _ _ c51_5.eq_1) := rr rfl
def c51_6 : ACode := .ops [⟨some 6, .fad (.t 1) 0, none, [1]⟩,⟨some 7, .load 1 false (.t 6), none, [1]⟩] [1, 7]
theorem r51_6 : type_of% (@rr _ _ c51_6.eq_1) := rr rfl
def c51_7 : ACode := .ops [⟨some 8, .fad (.t 1) 1, none, [1]⟩,⟨some 9, .load 1 false (.t 8), none, [1]⟩,⟨some 10, .conv .u64 (.t 9), none, []⟩,⟨some 11, .bin .and (.t 10) (.c (.int .u64 4294967295)), none, []⟩,⟨some 12, .bin .or (.c (.int .u64 9223372036854775808)) (.t 11), none, []⟩,⟨some 2, .mv (.t 12), none, []⟩] [2]
theorem r51_7 : type_of% (@rr _ _ c51_7.eq_1) := rr rfl
def c51_8 : ACode := .seq c51_7 .ret
theorem r51_8 : type_of% (@rr _ _ c51_8.eq_1) := rr rfl
def c51_9 : ACode := .cond (.t 7) c51_8 .skip
theorem r51_9 : type_of% (@rr _ _ c51_9.eq_1) := rr rfl
def c51_10 : ACode := .seq c51_6 c51_9
theorem r51_10 : type_of% (@rr _ _ c51_10.eq_1) := rr rfl
def c51_11 : ACode := .ops [⟨some 13, .fad (.t 1) 3, none, [1]⟩,⟨some 14, .load 1 false (.t 13), none, [1]⟩,⟨some 15, .conv .u64 (.t 14), none, []⟩,⟨some 16, .bin .and (.t 15) (.c (.int .u64 4294967295)), none, []⟩,⟨some 17, .fad (.t 1) 2, none, [1]⟩,⟨some 18, .load 1 false (.t 17), none, [1]⟩,⟨some 19, .conv .u64 (.t 18), none, []⟩,⟨some 20, .bin .shl (.t 19) (.c (.int .u64 32)), none, []⟩,⟨some 21, .bin .or (.t 16) (.t 20), none, []⟩,⟨some 22, .fad (.t 1) 4, none, [1]⟩,⟨some 23, .load 1 false (.t 22), none, [1]⟩,⟨some 24, .conv .u64 (.t 23), none, []⟩,⟨some 25, .bin .shl (.t 24) (.c (.int .u64 40)), none, []⟩,⟨some 26, .bin .or (.t 21) (.t 25), none, []⟩,⟨some 27, .fad (.t 1) 5, none, [1]⟩,⟨some 28, .load 1 false (.t 27), none, [1]⟩,⟨some 29, .conv .u64 (.t 28), none, []⟩,⟨some 30, .bin .shl (.t 29) (.c (.int .u64 48)), none, []⟩,⟨some 31, .bin .or (.t 26) (.t 30), none, []⟩,⟨some 2, .mv (.t 31), none, []⟩] [2]
theorem r51_11 : type_of% (@rr _ _ c51_11.eq_1) := rr rfl
def c51_12 : ACode := .seq c51_11 .ret
theorem r51_12 : type_of% (@rr _ _ c51_12.eq_1) := rr rfl
def c51_13 : ACode := .seq c51_10 c51_12
theorem r51_13 : type_of% (@rr _ _ c51_13.eq_1) := rr rfl
def c51_14 : ACode := .seq c51_5 c51_13
theorem r51_14 : type_of% (@rr _ _ c51_14.eq_1) := rr rfl
def c51_15 : ACode := .seq c51_0 c51_14
theorem r51_15 : type_of% (@rr _ _ c51_15.eq_1) := rr rfl
def a51 : AFun := ⟨1, 32, c51_15, [.t 2]⟩
attribute [simp] r51_0 r51_1 r51_2 r51_3 r51_4 r51_5 r51_6 r51_7 r51_8 r51_9 r51_10 r51_11 r51_12 r51_13 r51_14 r51_15
theorem m51 : mFun Try.prog Try.f51 a51 = true := by decide +kernel
theorem runs_rRightNode (n : Node) (c : Bool) (h : some (rightNode n) = some c) : Runs (tbl [(72, sp2 Fits)]) a89 [Arg.enc n] (Arg.enc c) := by
  cases h
  refine ⟨rfl, fun g => run_def ?_⟩
  obtain ⟨leaf, value, feature, cut, left, right⟩ := n
  unfold a89
  cases leaf
  case false =>
    by_cases h1 : value = 0
    case neg => simp -implicitDefEqProofs [rightNode, Fits, h1]
    by_cases h2 : 0 ≤ feature
    case neg => simp -implicitDefEqProofs [rightNode, Fits, h1, h2]
    by_cases h3 : feature < 4
    case neg => simp -implicitDefEqProofs [rightNode, Fits, h1, h2, h3]
    cases h4 : fits cut
    case false => simp -implicitDefEqProofs [rightNode, Fits, h1, h2, h3, h4]
    by_cases h5 : 1 ≤ left
    case neg => simp -implicitDefEqProofs [rightNode, Fits, h1, h2, h3, h4, h5]
    by_cases h6 : left < 31
    case neg => simp -implicitDefEqProofs [rightNode, Fits, h1, h2, h3, h4, h5, h6]
    by_cases h7 : 1 ≤ right <;> simp -implicitDefEqProofs [rightNode, Fits, h1, h2, h3, h4, h5, h6, h7]
  case true =>
    cases h1 : fits value
    case false => simp -implicitDefEqProofs [rightNode, Fits, h1]
    by_cases h2 : feature = 0
    case neg => simp -implicitDefEqProofs [rightNode, Fits, h1, h2]
    by_cases h3 : cut = 0
    case neg => simp -implicitDefEqProofs [rightNode, Fits, h1, h2, h3]
    by_cases h4 : left = 0 <;> simp -implicitDefEqProofs [rightNode, Fits, h1, h2, h3, h4]
theorem c_rRightNode : Contract Try.prog 89 (sp1 fun n => some (rightNode n)) :=
  contract_of_runs mixed (tbl_cons c_rFits tbl_nil) Try.func89 m89 (sp1_runs runs_rRightNode)
theorem or_low (a b : Int) (k : Nat) (hk : k < 64) (ha : 0 ≤ a) (h1 : a < 2 ^ k) (hb : 0 ≤ b) (h2 : b * 2 ^ k < 18446744073709551616) : ior .u64 a (b * 2 ^ k) = a + b * 2 ^ k := by
  obtain ⟨a, rfl⟩ : ∃ n : Nat, a = n := ⟨a.toNat, by omega⟩
  obtain ⟨b, rfl⟩ : ∃ n : Nat, b = n := ⟨b.toNat, by omega⟩
  have e : ((b : Int) * 2 ^ k) = ((b * 2 ^ k : Nat) : Int) := by simp
  have h1' : a < 2 ^ k := by
    have e2 : ((2 : Int) ^ k) = ((2 ^ k : Nat) : Int) := by simp
    rw [e2] at h1
    omega
  have h64 : (2 : Nat) ^ k ≤ 2 ^ 63 := Nat.pow_le_pow_right (by omega) (by omega)
  rw [e] at h2 ⊢
  have hb2 : b * 2 ^ k < 18446744073709551616 := by omega
  rw [u_or _ _ ⟨by omega, by omega⟩ ⟨by omega, by omega⟩]
  have e3 : ((a : Int)).toNat = a := by omega
  have e4 : (((b * 2 ^ k : Nat) : Int)).toNat = b * 2 ^ k := by omega
  rw [e3, e4, Nat.or_comm, or_apart b a k h1']
  omega
theorem and_low (a : Int) (h : okW a) : iand .u64 a 4294967295 = a % 4294967296 := by
  rw [u_and _ _ h ⟨by omega, by omega⟩]
  have e : (4294967295 : Int).toNat = 4294967295 := rfl
  have := and_mask a.toNat 0 32
  simp at this
  rw [e, this]
  have := h.1
  omega
theorem runs_rPack (n : Node) (c : Word) (h : some (pack n) = some c) : Runs (tbl [(89, sp1 fun n => some (rightNode n))]) a51 [Arg.enc n] (Arg.enc c) := by
  cases h
  refine ⟨rfl, fun g => run_def ?_⟩
  obtain ⟨leaf, value, feature, cut, left, right⟩ := n
  unfold a51
  cases h1 : rightNode ⟨leaf, value, feature, cut, left, right⟩
  case false => simp -implicitDefEqProofs [pack, h1]
  cases leaf
  case true =>
    have e1 : ior .u64 9223372036854775808 (value % 4294967296) = 9223372036854775808 + value % 4294967296 := by
      rw [u_or _ _ ⟨by omega, by omega⟩ ⟨by omega, by omega⟩]
      have e := or_apart 1 (value % 4294967296).toNat 63 (by omega)
      have e2 : (9223372036854775808 : Int).toNat = 1 * 2 ^ 63 := rfl
      rw [e2, e]
      omega
    simp -implicitDefEqProofs [pack, h1, u_conv, and_low _ (okW_mod _), e1]
  case false =>
    have hb := h1
    simp [rightNode] at hb
    have f1 : feature % 18446744073709551616 * 4294967296 % 18446744073709551616 = feature * 2 ^ 32 := by omega
    have f2 : left % 18446744073709551616 * 1099511627776 % 18446744073709551616 = left * 2 ^ 40 := by omega
    have f3 : right % 18446744073709551616 * 281474976710656 % 18446744073709551616 = right * 2 ^ 48 := by omega
    have e1 := or_low (cut % 4294967296) feature 32 (by omega) (by omega) (by omega) (by omega) (by omega)
    have e2 := or_low (cut % 4294967296 + feature * 2 ^ 32) left 40 (by omega) (by omega) (by omega) (by omega) (by omega)
    have e3 := or_low (cut % 4294967296 + feature * 2 ^ 32 + left * 2 ^ 40) right 48 (by omega) (by omega) (by omega) (by omega) (by omega)
    simp -implicitDefEqProofs [pack, h1, u_conv, and_low _ (okW_mod _), f1, f2, f3]
    simp only [Int.reducePow] at e1 e2 e3
    rw [e1, e2, e3]
theorem c_rPack : Contract Try.prog 51 (sp1 fun n => some (pack n)) :=
  contract_of_runs mixed (tbl_cons c_rRightNode tbl_nil) Try.func51 m51 (sp1_runs runs_rPack)
theorem and_15 (a : Int) (h : okW a) : iand .u64 a 15 = a % 16 := by
  rw [u_and _ _ h ⟨by omega, by omega⟩]
  have e : (15 : Int).toNat = 15 := rfl
  have := and_mask a.toNat 0 4
  simp at this
  rw [e, this]
  have := h.1
  omega
theorem and_255 (a : Int) (h : okW a) : iand .u64 a 255 = a % 256 := by
  rw [u_and _ _ h ⟨by omega, by omega⟩]
  have e : (255 : Int).toNat = 255 := rfl
  have := and_mask a.toNat 0 8
  simp at this
  rw [e, this]
  have := h.1
  omega
def Unpack (w : Word) : Option (Node × Bool) := if 0 ≤ w.v ∧ w.v < 18446744073709551616 then some (unpack w) else none
end Go.Co
/- CO: nodes, by the program. -/
namespace Go.Co
open Go.Am Go.Proofs
set_option linter.unusedSimpArgs false
set_option linter.unusedVariables false
def c114_0 : ACode := .ops [⟨some 2, .mv (.c (.bool false)), none, []⟩] [0]
theorem r114_0 : type_of% (@rr _ _ c114_0.eq_1) := rr rfl
def c114_1 : ACode := .ops [⟨some 3, .mv (.t 0), none, []⟩,⟨some 4, .bin .geq (.t 3) (.c (.int .i64 1)), none, []⟩,⟨some 5, .mv (.t 4), none, []⟩,⟨some 6, .mv (.t 0), some (5, true), []⟩,⟨some 7, .bin .lss (.t 6) (.c (.int .i64 31)), some (5, true), []⟩,⟨some 8, .pick (.t 5) (.t 7) (.c (.bool false)), none, []⟩,⟨some 2, .mv (.t 8), none, []⟩] [2]
theorem r114_1 : type_of% (@rr _ _ c114_1.eq_1) := rr rfl
def c114_2 : ACode := .seq c114_1 .ret
theorem r114_2 : type_of% (@rr _ _ c114_2.eq_1) := rr rfl
def c114_3 : ACode := .seq c114_0 c114_2
theorem r114_3 : type_of% (@rr _ _ c114_3.eq_1) := rr rfl
def a114 : AFun := ⟨1, 9, c114_3, [.t 2]⟩
attribute [simp] r114_0 r114_1 r114_2 r114_3
theorem m114 : mFun Try.prog Try.f114 a114 = true := by decide +kernel
def c93_0 : ACode := .ops [⟨some 1, .box (.t 0) 6, none, []⟩,⟨some 2, .mv (.c (.bool false)), none, []⟩] [1]
theorem r93_0 : type_of% (@rr _ _ c93_0.eq_1) := rr rfl
def c93_1 : ACode := .ops [⟨some 3, .fad (.t 1) 0, none, [1]⟩,⟨some 4, .load 1 false (.t 3), none, [1]⟩] [1, 4]
theorem r93_1 : type_of% (@rr _ _ c93_1.eq_1) := rr rfl
def c93_2 : ACode := .ops [⟨some 5, .load 6 true (.t 1), none, [1]⟩,⟨some 6, .fad (.t 1) 1, none, [1]⟩,⟨some 7, .load 1 false (.t 6), none, [1]⟩,⟨some 8, .build [.bool false, .int .i64 0, .int .i64 0, .int .i64 0, .int .i64 0, .int .i64 0] [(0, 1, .c (.bool true)), (1, 1, .t 7)], none, []⟩,⟨some 9, .eqa false [true, false, false, false, false, false] (.t 5) (.t 8), none, []⟩,⟨some 10, .mv (.t 9), none, []⟩,⟨some 11, .fad (.t 1) 1, some (10, true), [1]⟩,⟨some 12, .load 1 false (.t 11), some (10, true), [1]⟩,⟨some 13, .call 60 [.t 12, .c (.int .i64 32)], some (10, true), []⟩,⟨some 14, .pick (.t 10) (.t 13) (.c (.bool false)), none, []⟩,⟨some 2, .mv (.t 14), none, []⟩] [2]
theorem r93_2 : type_of% (@rr _ _ c93_2.eq_1) := rr rfl
def c93_3 : ACode := .seq c93_2 .ret
theorem r93_3 : type_of% (@rr _ _ c93_3.eq_1) := rr rfl
def c93_4 : ACode := .cond (.t 4) c93_3 .skip
theorem r93_4 : type_of% (@rr _ _ c93_4.eq_1) := rr rfl
def c93_5 : ACode := .seq c93_1 c93_4
theorem r93_5 : type_of% (@rr _ _ c93_5.eq_1) := rr rfl
def c93_6 : ACode := .ops [⟨some 15, .fad (.t 1) 1, none, [1]⟩,⟨some 16, .load 1 false (.t 15), none, [1]⟩,⟨some 17, .bin .eql (.t 16) (.c (.int .i64 0)), none, []⟩,⟨some 18, .mv (.t 17), none, []⟩,⟨some 19, .fad (.t 1) 2, some (18, true), [1]⟩,⟨some 20, .load 1 false (.t 19), some (18, true), [1]⟩,⟨some 21, .bin .geq (.t 20) (.c (.int .i64 0)), some (18, true), []⟩,⟨some 22, .pick (.t 18) (.t 21) (.c (.bool false)), none, []⟩,⟨some 23, .mv (.t 22), none, []⟩,⟨some 24, .fad (.t 1) 2, some (23, true), [1]⟩,⟨some 25, .load 1 false (.t 24), some (23, true), [1]⟩,⟨some 26, .bin .lss (.t 25) (.c (.int .i64 4)), some (23, true), []⟩,⟨some 27, .pick (.t 23) (.t 26) (.c (.bool false)), none, []⟩,⟨some 28, .mv (.t 27), none, []⟩,⟨some 29, .fad (.t 1) 3, some (28, true), [1]⟩,⟨some 30, .load 1 false (.t 29), some (28, true), [1]⟩,⟨some 31, .call 60 [.t 30, .c (.int .i64 32)], some (28, true), []⟩,⟨some 32, .pick (.t 28) (.t 31) (.c (.bool false)), none, []⟩,⟨some 33, .mv (.t 32), none, []⟩,⟨some 34, .fad (.t 1) 4, some (33, true), [1]⟩,⟨some 35, .load 1 false (.t 34), some (33, true), [1]⟩,⟨some 36, .call 114 [.t 35], some (33, true), []⟩,⟨some 37, .pick (.t 33) (.t 36) (.c (.bool false)), none, []⟩,⟨some 38, .mv (.t 37), none, []⟩,⟨some 39, .fad (.t 1) 5, some (38, true), [1]⟩,⟨some 40, .load 1 false (.t 39), some (38, true), [1]⟩,⟨some 41, .call 114 [.t 40], some (38, true), []⟩,⟨some 42, .pick (.t 38) (.t 41) (.c (.bool false)), none, []⟩,⟨some 2, .mv (.t 42), none, []⟩] [2]
theorem r93_6 : type_of% (@rr _ _ c93_6.eq_1) := rr rfl
def c93_7 : ACode := .seq c93_6 .ret
theorem r93_7 : type_of% (@rr _ _ c93_7.eq_1) := rr rfl
def c93_8 : ACode := .seq c93_5 c93_7
theorem r93_8 : type_of% (@rr _ _ c93_8.eq_1) := rr rfl
def c93_9 : ACode := .seq c93_0 c93_8
theorem r93_9 : type_of% (@rr _ _ c93_9.eq_1) := rr rfl
def a93 : AFun := ⟨1, 43, c93_9, [.t 2]⟩
attribute [simp] r93_0 r93_1 r93_2 r93_3 r93_4 r93_5 r93_6 r93_7 r93_8 r93_9
theorem m93 : mFun Try.prog Try.f93 a93 = true := by decide +kernel
def c91_0 : ACode := .ops [⟨some 4, .mv (.c (.bool false)), none, []⟩] [0, 1]
theorem r91_0 : type_of% (@rr _ _ c91_0.eq_1) := rr rfl
def c91_1 : ACode := .ops [⟨some 5, .mv (.t 0), none, []⟩,⟨some 6, .bin .geq (.t 5) (.c (.int .i64 0)), none, []⟩,⟨some 7, .mv (.t 6), none, []⟩,⟨some 8, .mv (.t 0), some (7, true), []⟩,⟨some 9, .bin .lss (.t 8) (.c (.int .i64 64)), some (7, true), []⟩,⟨some 10, .pick (.t 7) (.t 9) (.c (.bool false)), none, []⟩,⟨some 11, .mv (.t 10), none, []⟩,⟨some 12, .mv (.t 1), some (11, true), []⟩,⟨some 13, .bin .geq (.t 12) (.c (.int .i64 1)), some (11, true), []⟩,⟨some 14, .pick (.t 11) (.t 13) (.c (.bool false)), none, []⟩,⟨some 15, .mv (.t 14), none, []⟩,⟨some 16, .mv (.t 1), some (15, true), []⟩,⟨some 17, .mv (.t 0), some (15, true), []⟩,⟨some 18, .bin .sub (.c (.int .i64 64)) (.t 17), some (15, true), []⟩,⟨some 19, .bin .leq (.t 16) (.t 18), some (15, true), []⟩,⟨some 20, .pick (.t 15) (.t 19) (.c (.bool false)), none, []⟩,⟨some 4, .mv (.t 20), none, []⟩] [4]
theorem r91_1 : type_of% (@rr _ _ c91_1.eq_1) := rr rfl
def c91_2 : ACode := .seq c91_1 .ret
theorem r91_2 : type_of% (@rr _ _ c91_2.eq_1) := rr rfl
def c91_3 : ACode := .seq c91_0 c91_2
theorem r91_3 : type_of% (@rr _ _ c91_3.eq_1) := rr rfl
def a91 : AFun := ⟨2, 21, c91_3, [.t 4]⟩
attribute [simp] r91_0 r91_1 r91_2 r91_3
theorem m91 : mFun Try.prog Try.f91 a91 = true := by decide +kernel
def c92_0 : ACode := .ops [⟨some 2, .mv (.c (.int .u64 0)), none, []⟩] [0]
theorem r92_0 : type_of% (@rr _ _ c92_0.eq_1) := rr rfl
def c92_1 : ACode := .ops [⟨some 3, .mv (.t 0), none, []⟩,⟨some 4, .bin .sub (.c (.int .i64 64)) (.t 3), none, []⟩,⟨some 5, .conv .u64 (.t 4), none, []⟩,⟨some 6, .bin .shr (.c (.int .u64 18446744073709551615)) (.t 5), none, []⟩,⟨some 2, .mv (.t 6), none, []⟩] [2]
theorem r92_1 : type_of% (@rr _ _ c92_1.eq_1) := rr rfl
def c92_2 : ACode := .seq c92_1 .ret
theorem r92_2 : type_of% (@rr _ _ c92_2.eq_1) := rr rfl
def c92_3 : ACode := .seq c92_0 c92_2
theorem r92_3 : type_of% (@rr _ _ c92_3.eq_1) := rr rfl
def a92 : AFun := ⟨1, 7, c92_3, [.t 2]⟩
attribute [simp] r92_0 r92_1 r92_2 r92_3
theorem m92 : mFun Try.prog Try.f92 a92 = true := by decide +kernel
def c94_0 : ACode := .ops [⟨some 8, .mv (.c (.int .u64 0)), none, []⟩] [0, 1, 2, 3]
theorem r94_0 : type_of% (@rr _ _ c94_0.eq_1) := rr rfl
def c94_1 : ACode := .ops [⟨some 10, .mv (.t 1), none, []⟩,⟨some 11, .mv (.t 2), none, []⟩,⟨some 12, .call 91 [.t 10, .t 11], none, []⟩,⟨some 13, .un .not (.t 12), none, []⟩] [0, 1, 2, 3, 13]
theorem r94_1 : type_of% (@rr _ _ c94_1.eq_1) := rr rfl
def c94_2 : ACode := .ops [⟨some 14, .mv (.t 0), none, []⟩,⟨some 8, .mv (.t 14), none, []⟩] [8]
theorem r94_2 : type_of% (@rr _ _ c94_2.eq_1) := rr rfl
def c94_3 : ACode := .seq c94_2 .ret
theorem r94_3 : type_of% (@rr _ _ c94_3.eq_1) := rr rfl
def c94_4 : ACode := .cond (.t 13) c94_3 .skip
theorem r94_4 : type_of% (@rr _ _ c94_4.eq_1) := rr rfl
def c94_5 : ACode := .seq c94_1 c94_4
theorem r94_5 : type_of% (@rr _ _ c94_5.eq_1) := rr rfl
def c94_6 : ACode := .ops [⟨some 15, .mv (.t 2), none, []⟩,⟨some 16, .call 92 [.t 15], none, []⟩,⟨some 17, .mv (.t 1), none, []⟩,⟨some 18, .conv .u64 (.t 17), none, []⟩,⟨some 19, .bin .shl (.t 16) (.t 18), none, []⟩,⟨some 9, .mv (.t 19), none, []⟩] [0, 1, 3, 9]
theorem r94_6 : type_of% (@rr _ _ c94_6.eq_1) := rr rfl
def c94_7 : ACode := .ops [⟨some 20, .mv (.t 0), none, []⟩,⟨some 21, .mv (.t 9), none, []⟩,⟨some 22, .bin .andNot (.t 20) (.t 21), none, []⟩,⟨some 23, .mv (.t 3), none, []⟩,⟨some 24, .mv (.t 1), none, []⟩,⟨some 25, .conv .u64 (.t 24), none, []⟩,⟨some 26, .bin .shl (.t 23) (.t 25), none, []⟩,⟨some 27, .mv (.t 9), none, []⟩,⟨some 28, .bin .and (.t 26) (.t 27), none, []⟩,⟨some 29, .bin .or (.t 22) (.t 28), none, []⟩,⟨some 8, .mv (.t 29), none, []⟩] [8]
theorem r94_7 : type_of% (@rr _ _ c94_7.eq_1) := rr rfl
def c94_8 : ACode := .seq c94_7 .ret
theorem r94_8 : type_of% (@rr _ _ c94_8.eq_1) := rr rfl
def c94_9 : ACode := .seq c94_6 c94_8
theorem r94_9 : type_of% (@rr _ _ c94_9.eq_1) := rr rfl
def c94_10 : ACode := .seq c94_5 c94_9
theorem r94_10 : type_of% (@rr _ _ c94_10.eq_1) := rr rfl
def c94_11 : ACode := .seq c94_0 c94_10
theorem r94_11 : type_of% (@rr _ _ c94_11.eq_1) := rr rfl
def a94 : AFun := ⟨4, 30, c94_11, [.t 8]⟩
attribute [simp] r94_0 r94_1 r94_2 r94_3 r94_4 r94_5 r94_6 r94_7 r94_8 r94_9 r94_10 r94_11
theorem m94 : mFun Try.prog Try.f94 a94 = true := by decide +kernel
def c53_0 : ACode := .ops [⟨some 6, .mv (.c (.int .u64 0)), none, []⟩] [0, 1, 2]
theorem r53_0 : type_of% (@rr _ _ c53_0.eq_1) := rr rfl
def c53_1 : ACode := .ops [⟨some 7, .mv (.t 1), none, []⟩,⟨some 8, .mv (.t 2), none, []⟩,⟨some 9, .call 91 [.t 7, .t 8], none, []⟩,⟨some 10, .un .not (.t 9), none, []⟩] [0, 1, 2, 10]
theorem r53_1 : type_of% (@rr _ _ c53_1.eq_1) := rr rfl
def c53_2 : ACode := .ops [⟨some 6, .mv (.c (.int .u64 0)), none, []⟩] [6]
theorem r53_2 : type_of% (@rr _ _ c53_2.eq_1) := rr rfl
def c53_3 : ACode := .seq c53_2 .ret
theorem r53_3 : type_of% (@rr _ _ c53_3.eq_1) := rr rfl
def c53_4 : ACode := .cond (.t 10) c53_3 .skip
theorem r53_4 : type_of% (@rr _ _ c53_4.eq_1) := rr rfl
def c53_5 : ACode := .seq c53_1 c53_4
theorem r53_5 : type_of% (@rr _ _ c53_5.eq_1) := rr rfl
def c53_6 : ACode := .ops [⟨some 11, .mv (.t 0), none, []⟩,⟨some 12, .mv (.t 1), none, []⟩,⟨some 13, .conv .u64 (.t 12), none, []⟩,⟨some 14, .bin .shr (.t 11) (.t 13), none, []⟩,⟨some 15, .mv (.t 2), none, []⟩,⟨some 16, .call 92 [.t 15], none, []⟩,⟨some 17, .bin .and (.t 14) (.t 16), none, []⟩,⟨some 6, .mv (.t 17), none, []⟩] [6]
theorem r53_6 : type_of% (@rr _ _ c53_6.eq_1) := rr rfl
def c53_7 : ACode := .seq c53_6 .ret
theorem r53_7 : type_of% (@rr _ _ c53_7.eq_1) := rr rfl
def c53_8 : ACode := .seq c53_5 c53_7
theorem r53_8 : type_of% (@rr _ _ c53_8.eq_1) := rr rfl
def c53_9 : ACode := .seq c53_0 c53_8
theorem r53_9 : type_of% (@rr _ _ c53_9.eq_1) := rr rfl
def a53 : AFun := ⟨3, 18, c53_9, [.t 6]⟩
attribute [simp] r53_0 r53_1 r53_2 r53_3 r53_4 r53_5 r53_6 r53_7 r53_8 r53_9
theorem m53 : mFun Try.prog Try.f53 a53 = true := by decide +kernel
def c52_0 : ACode := .ops [⟨some 6, .mv (.c (.int .i64 0)), none, []⟩] [0, 1, 2]
theorem r52_0 : type_of% (@rr _ _ c52_0.eq_1) := rr rfl
def c52_1 : ACode := .ops [⟨some 7, .mv (.t 0), none, []⟩,⟨some 8, .mv (.t 1), none, []⟩,⟨some 9, .mv (.t 2), none, []⟩,⟨some 10, .call 53 [.t 7, .t 8, .t 9], none, []⟩,⟨some 11, .conv .i64 (.t 10), none, []⟩,⟨some 12, .mv (.t 2), none, []⟩,⟨some 13, .call 90 [.t 11, .t 12], none, []⟩,⟨some 6, .mv (.t 13), none, []⟩] [6]
theorem r52_1 : type_of% (@rr _ _ c52_1.eq_1) := rr rfl
def c52_2 : ACode := .seq c52_1 .ret
theorem r52_2 : type_of% (@rr _ _ c52_2.eq_1) := rr rfl
def c52_3 : ACode := .seq c52_0 c52_2
theorem r52_3 : type_of% (@rr _ _ c52_3.eq_1) := rr rfl
def a52 : AFun := ⟨3, 14, c52_3, [.t 6]⟩
attribute [simp] r52_0 r52_1 r52_2 r52_3
theorem m52 : mFun Try.prog Try.f52 a52 = true := by decide +kernel
def c55_0 : ACode := .ops [⟨some 1, .box (.t 0) 6, none, []⟩,⟨some 2, .mv (.c (.int .u64 0)), none, []⟩] [1]
theorem r55_0 : type_of% (@rr _ _ c55_0.eq_1) := rr rfl
def c55_1 : ACode := .ops [⟨some 4, .load 6 true (.t 1), none, [1]⟩,⟨some 5, .call 93 [.t 4], none, []⟩,⟨some 6, .un .not (.t 5), none, []⟩] [1, 6]
theorem r55_1 : type_of% (@rr _ _ c55_1.eq_1) := rr rfl
def c55_2 : ACode := .ops [⟨some 2, .mv (.c (.int .u64 0)), none, []⟩] [2]
theorem r55_2 : type_of% (@rr _ _ c55_2.eq_1) := rr rfl
def c55_3 : ACode := .seq c55_2 .ret
theorem r55_3 : type_of% (@rr _ _ c55_3.eq_1) := rr rfl
def c55_4 : ACode := .cond (.t 6) c55_3 .skip
theorem r55_4 : type_of% (@rr _ _ c55_4.eq_1) := rr rfl
def c55_5 : ACode := .seq c55_1 c55_4
theorem r55_5 : type_of% (@rr _ _ c55_5.eq_1) := rr rfl
def c55_6 : ACode := .ops [⟨some 7, .fad (.t 1) 0, none, [1]⟩,⟨some 8, .load 1 false (.t 7), none, [1]⟩] [1, 8]
theorem r55_6 : type_of% (@rr _ _ c55_6.eq_1) := rr rfl
def c55_7 : ACode := .ops [⟨some 9, .fad (.t 1) 1, none, [1]⟩,⟨some 10, .load 1 false (.t 9), none, [1]⟩,⟨some 11, .conv .u64 (.t 10), none, []⟩,⟨some 12, .call 94 [.c (.int .u64 9223372036854775808), .c (.int .i64 0), .c (.int .i64 32), .t 11], none, []⟩,⟨some 2, .mv (.t 12), none, []⟩] [2]
theorem r55_7 : type_of% (@rr _ _ c55_7.eq_1) := rr rfl
def c55_8 : ACode := .seq c55_7 .ret
theorem r55_8 : type_of% (@rr _ _ c55_8.eq_1) := rr rfl
def c55_9 : ACode := .cond (.t 8) c55_8 .skip
theorem r55_9 : type_of% (@rr _ _ c55_9.eq_1) := rr rfl
def c55_10 : ACode := .seq c55_6 c55_9
theorem r55_10 : type_of% (@rr _ _ c55_10.eq_1) := rr rfl
def c55_11 : ACode := .ops [⟨some 13, .fad (.t 1) 3, none, [1]⟩,⟨some 14, .load 1 false (.t 13), none, [1]⟩,⟨some 15, .conv .u64 (.t 14), none, []⟩,⟨some 16, .call 94 [.c (.int .u64 0), .c (.int .i64 0), .c (.int .i64 32), .t 15], none, []⟩,⟨some 3, .mv (.t 16), none, []⟩] [1, 3]
theorem r55_11 : type_of% (@rr _ _ c55_11.eq_1) := rr rfl
def c55_12 : ACode := .ops [⟨some 17, .mv (.t 3), none, []⟩,⟨some 18, .fad (.t 1) 2, none, [1]⟩,⟨some 19, .load 1 false (.t 18), none, [1]⟩,⟨some 20, .conv .u64 (.t 19), none, []⟩,⟨some 21, .call 94 [.t 17, .c (.int .i64 32), .c (.int .i64 4), .t 20], none, []⟩,⟨some 3, .mv (.t 21), none, []⟩] [1, 3]
theorem r55_12 : type_of% (@rr _ _ c55_12.eq_1) := rr rfl
def c55_13 : ACode := .ops [⟨some 22, .mv (.t 3), none, []⟩,⟨some 23, .fad (.t 1) 4, none, [1]⟩,⟨some 24, .load 1 false (.t 23), none, [1]⟩,⟨some 25, .conv .u64 (.t 24), none, []⟩,⟨some 26, .call 94 [.t 22, .c (.int .i64 40), .c (.int .i64 8), .t 25], none, []⟩,⟨some 3, .mv (.t 26), none, []⟩] [1, 3]
theorem r55_13 : type_of% (@rr _ _ c55_13.eq_1) := rr rfl
def c55_14 : ACode := .ops [⟨some 27, .mv (.t 3), none, []⟩,⟨some 28, .fad (.t 1) 5, none, [1]⟩,⟨some 29, .load 1 false (.t 28), none, [1]⟩,⟨some 30, .conv .u64 (.t 29), none, []⟩,⟨some 31, .call 94 [.t 27, .c (.int .i64 48), .c (.int .i64 8), .t 30], none, []⟩,⟨some 2, .mv (.t 31), none, []⟩] [2]
theorem r55_14 : type_of% (@rr _ _ c55_14.eq_1) := rr rfl
def c55_15 : ACode := .seq c55_14 .ret
theorem r55_15 : type_of% (@rr _ _ c55_15.eq_1) := rr rfl
def c55_16 : ACode := .seq c55_13 c55_15
theorem r55_16 : type_of% (@rr _ _ c55_16.eq_1) := rr rfl
def c55_17 : ACode := .seq c55_12 c55_16
theorem r55_17 : type_of% (@rr _ _ c55_17.eq_1) := rr rfl
def c55_18 : ACode := .seq c55_11 c55_17
theorem r55_18 : type_of% (@rr _ _ c55_18.eq_1) := rr rfl
def c55_19 : ACode := .seq c55_10 c55_18
theorem r55_19 : type_of% (@rr _ _ c55_19.eq_1) := rr rfl
def c55_20 : ACode := .seq c55_5 c55_19
theorem r55_20 : type_of% (@rr _ _ c55_20.eq_1) := rr rfl
def c55_21 : ACode := .seq c55_0 c55_20
theorem r55_21 : type_of% (@rr _ _ c55_21.eq_1) := rr rfl
def a55 : AFun := ⟨1, 32, c55_21, [.t 2]⟩
attribute [simp] r55_0 r55_1 r55_2 r55_3 r55_4 r55_5 r55_6 r55_7 r55_8 r55_9 r55_10 r55_11 r55_12 r55_13 r55_14 r55_15 r55_16 r55_17 r55_18 r55_19 r55_20 r55_21
theorem m55 : mFun Try.prog Try.f55 a55 = true := by decide +kernel
def child (n : Int) : Bool := decide (1 ≤ n) && decide (n < 31)
theorem runs_child (n : Int) (c : Bool) (h : some (child n) = some c) : Runs (tbl []) a114 [Arg.enc n] (Arg.enc c) := by
  cases h
  refine ⟨rfl, fun g => run_def ?_⟩
  unfold a114
  by_cases h1 : 1 ≤ n <;> simp -implicitDefEqProofs [child, h1]
theorem c_child : Contract Try.prog 114 (sp1 fun n => some (child n)) := contract_of_runs mixed tbl_nil Try.func114 m114 (sp1_runs runs_child)
theorem runs_Right (n : Node) (c : Bool) (h : some (rightNode n) = some c) : Runs (tbl [(60, sp2 Fits), (114, sp1 fun n => some (child n))]) a93 [Arg.enc n] (Arg.enc c) := by
  cases h
  refine ⟨rfl, fun g => run_def ?_⟩
  obtain ⟨leaf, value, feature, cut, left, right⟩ := n
  unfold a93
  cases leaf
  case false =>
    by_cases h1 : value = 0
    case neg => simp -implicitDefEqProofs [rightNode, Fits, child, h1]
    by_cases h2 : 0 ≤ feature
    case neg => simp -implicitDefEqProofs [rightNode, Fits, child, h1, h2]
    by_cases h3 : feature < 4
    case neg => simp -implicitDefEqProofs [rightNode, Fits, child, h1, h2, h3]
    cases h4 : fits cut
    case false => simp -implicitDefEqProofs [rightNode, Fits, child, h1, h2, h3, h4]
    by_cases h5 : 1 ≤ left
    case neg => simp -implicitDefEqProofs [rightNode, Fits, child, h1, h2, h3, h4, h5]
    by_cases h6 : left < 31
    case neg => simp -implicitDefEqProofs [rightNode, Fits, child, h1, h2, h3, h4, h5, h6]
    simp -implicitDefEqProofs [rightNode, Fits, child, h1, h2, h3, h4, h5, h6]
  case true =>
    by_cases h2 : feature = 0
    case neg => simp -implicitDefEqProofs [rightNode, Fits, h2]
    by_cases h3 : cut = 0
    case neg => simp -implicitDefEqProofs [rightNode, Fits, h2, h3]
    by_cases h4 : left = 0
    case neg => simp -implicitDefEqProofs [rightNode, Fits, h2, h3, h4]
    by_cases h5 : right = 0
    case neg => simp -implicitDefEqProofs [rightNode, Fits, h2, h3, h4, h5]
    cases h1 : fits value <;> simp -implicitDefEqProofs [rightNode, Fits, h1, h2, h3, h4, h5]
theorem c_Right : Contract Try.prog 93 (sp1 fun n => some (rightNode n)) :=
  contract_of_runs mixed (tbl_cons c_Fits (tbl_cons c_child tbl_nil)) Try.func93 m93 (sp1_runs runs_Right)
def field (p w : Int) : Bool := decide (0 ≤ p) && decide (p < 64) && decide (1 ≤ w) && decide (w ≤ 64 - p)
theorem runs_field (p w : Int) (c : Bool) (h : some (field p w) = some c) : Runs (tbl []) a91 [Arg.enc p, Arg.enc w] (Arg.enc c) := by
  cases h
  refine ⟨rfl, fun g => run_def ?_⟩
  unfold a91
  by_cases h1 : 0 ≤ p
  case neg => simp -implicitDefEqProofs [field, h1]
  by_cases h2 : p < 64
  case neg => simp -implicitDefEqProofs [field, h1, h2]
  by_cases h3 : 1 ≤ w
  case neg => simp -implicitDefEqProofs [field, h1, h2, h3]
  have e : IntKind.i64.wrap (64 - p) = 64 - p := wrap64 (by omega) (by omega)
  simp -implicitDefEqProofs [field, h1, h2, h3, e]
theorem c_field : Contract Try.prog 91 (sp2 fun p w => some (field p w)) := contract_of_runs mixed tbl_nil Try.func91 m91 (sp2_runs runs_field)
def ones (w : Int) : Int := if w = 1 then 1 else if w = 4 then 15 else if w = 8 then 255 else 4294967295
def Mask (w : Int) : Option Word := if w = 1 ∨ w = 4 ∨ w = 8 ∨ w = 32 then some ⟨ones w⟩ else none
theorem runs_mask (w : Int) (c : Word) (h : Mask w = some c) : Runs (tbl []) a92 [Arg.enc w] (Arg.enc c) := by
  unfold Mask at h
  split at h
  · rename_i hw
    cases h
    refine ⟨rfl, fun g => run_def ?_⟩
    unfold a92
    rcases hw with rfl | rfl | rfl | rfl <;> simp -implicitDefEqProofs [ones] <;> decide
  · cases h
theorem c_mask : Contract Try.prog 92 (sp1 Mask) := contract_of_runs mixed tbl_nil Try.func92 m92 (sp1_runs runs_mask)
def aField (p w : Int) : Prop := (p = 0 ∧ w = 32) ∨ (p = 63 ∧ w = 1) ∨ (p = 32 ∧ w = 4) ∨ (p = 40 ∧ w = 8) ∨ (p = 48 ∧ w = 8)
instance (p w : Int) : Decidable (aField p w) := by unfold aField; exact inferInstance
def get (x p w : Int) : Int := x / 2 ^ p.toNat % 2 ^ w.toNat
def Get (x : Word) (p w : Int) : Option Word := if okW x.v ∧ aField p w then some ⟨get x.v p w⟩ else none
theorem and_1 (a : Int) (h : okW a) : iand .u64 a 1 = a % 2 := by
  rw [u_and _ _ h ⟨by omega, by omega⟩]
  have e : (1 : Int).toNat = 1 := rfl
  rw [e, Nat.and_one_is_mod]
  have := h.1
  omega
theorem runs_Get (x : Word) (p w : Int) (c : Word) (h : Get x p w = some c) : Runs (tbl [(91, sp2 fun p w => some (field p w)), (92, sp1 Mask)]) a53 [Arg.enc x, Arg.enc p, Arg.enc w] (Arg.enc c) := by
  unfold Get at h
  split at h
  · rename_i hw
    cases h
    obtain ⟨v⟩ := x
    obtain ⟨hv, hf⟩ := hw
    simp only at hv
    have d (k : Int) (hk : 0 ≤ k) : v.fdiv k = v / k := Int.fdiv_eq_ediv_of_nonneg v hk
    have h1 := hv.1
    have h2 := hv.2
    have i1 := and_low v hv
    have i2 := and_15 (v / 4294967296) ⟨by omega, by omega⟩
    have i3 := and_255 (v / 1099511627776) ⟨by omega, by omega⟩
    have i4 := and_255 (v / 281474976710656) ⟨by omega, by omega⟩
    have i5 := and_1 (v / 9223372036854775808) ⟨by omega, by omega⟩
    refine ⟨rfl, fun g => run_def ?_⟩
    unfold a53
    rcases hf with ⟨rfl, rfl⟩ | ⟨rfl, rfl⟩ | ⟨rfl, rfl⟩ | ⟨rfl, rfl⟩ | ⟨rfl, rfl⟩ <;>
      simp -implicitDefEqProofs [get, field, Mask, ones, d, i1, i2, i3, i4, i5]
  · cases h
theorem c_Get : Contract Try.prog 53 (sp3 Get) :=
  contract_of_runs mixed (tbl_cons c_field (tbl_cons c_mask tbl_nil)) Try.func53 m53 (sp3_runs runs_Get)
def Signed (x : Word) (p w : Int) : Option Int := if okW x.v ∧ p = 0 ∧ w = 32 then some (wrap32 (x.v % 4294967296)) else none
theorem runs_Signed (x : Word) (p w c : Int) (h : Signed x p w = some c) : Runs (tbl [(53, sp3 Get), (90, sp2 Wrap)]) a52 [Arg.enc x, Arg.enc p, Arg.enc w] (Arg.enc c) := by
  unfold Signed at h
  split at h
  · rename_i hw
    cases h
    obtain ⟨v⟩ := x
    obtain ⟨hv, rfl, rfl⟩ := hw
    simp only at hv
    have w1 : IntKind.i64.wrap (v % 4294967296) = v % 4294967296 := wrap64 (by omega) (by omega)
    have b1 : -9223372036854775808 ≤ v % 4294967296 ∧ v % 4294967296 ≤ 9223372036854775807 := by omega
    refine ⟨rfl, fun g => run_def ?_⟩
    unfold a52
    simp -implicitDefEqProofs [Get, get, aField, hv, Wrap, w1, b1]
  · cases h
theorem c_Signed : Contract Try.prog 52 (sp3 Signed) :=
  contract_of_runs mixed (tbl_cons c_Get (tbl_cons c_Wrap tbl_nil)) Try.func52 m52 (sp3_runs runs_Signed)
def Put (x : Word) (p w : Int) (y : Word) : Option Word := if okW x.v ∧ aField p w ∧ w ≠ 1 ∧ get x.v p w = 0 then some ⟨x.v + y.v % 2 ^ w.toNat * 2 ^ p.toNat⟩ else none
theorem runs_Put (x : Word) (p w : Int) (y c : Word) (h : Put x p w y = some c) : Runs (tbl [(91, sp2 fun p w => some (field p w)), (92, sp1 Mask)]) a94 [Arg.enc x, Arg.enc p, Arg.enc w, Arg.enc y] (Arg.enc c) := by
  unfold Put at h
  split at h
  · rename_i hw
    cases h
    obtain ⟨v⟩ := x
    obtain ⟨y⟩ := y
    obtain ⟨hv, hf, hw1, hg⟩ := hw
    simp only at hv hg
    have hv1 := hv.1
    refine ⟨rfl, fun g => run_def ?_⟩
    unfold a94
    rcases hf with ⟨rfl, rfl⟩ | ⟨rfl, rfl⟩ | ⟨rfl, rfl⟩ | ⟨rfl, rfl⟩ | ⟨rfl, rfl⟩
    · simp [get] at hg
      have e := put_bits v (y % 18446744073709551616) 4294967295 0 32 hv (okW_mod _) rfl ⟨by omega, by omega⟩ (by simp; omega)
      simp only [Nat.reducePow] at e
      simp -implicitDefEqProofs [field, Mask, ones, u_conv, e]
      omega
    · exact absurd rfl hw1
    · simp [get] at hg
      have e := put_bits v (y * 4294967296 % 18446744073709551616) 64424509440 32 4 hv (okW_mod _) rfl ⟨by omega, by omega⟩ (by simp; omega)
      simp only [Nat.reducePow] at e
      simp -implicitDefEqProofs [field, Mask, ones, u_conv, e]
      omega
    · simp [get] at hg
      have e := put_bits v (y * 1099511627776 % 18446744073709551616) 280375465082880 40 8 hv (okW_mod _) rfl ⟨by omega, by omega⟩ (by simp; omega)
      simp only [Nat.reducePow] at e
      simp -implicitDefEqProofs [field, Mask, ones, u_conv, e]
      omega
    · simp [get] at hg
      have e := put_bits v (y * 281474976710656 % 18446744073709551616) 71776119061217280 48 8 hv (okW_mod _) rfl ⟨by omega, by omega⟩ (by simp; omega)
      simp only [Nat.reducePow] at e
      simp -implicitDefEqProofs [field, Mask, ones, u_conv, e]
      omega
  · cases h
theorem c_Put : Contract Try.prog 94 (sp4 Put) :=
  contract_of_runs mixed (tbl_cons c_field (tbl_cons c_mask tbl_nil)) Try.func94 m94 (sp4_runs runs_Put)
theorem runs_Pack (n : Node) (c : Word) (h : some (pack n) = some c) : Runs (tbl [(93, sp1 fun n => some (rightNode n)), (94, sp4 Put)]) a55 [Arg.enc n] (Arg.enc c) := by
  cases h
  refine ⟨rfl, fun g => run_def ?_⟩
  obtain ⟨leaf, value, feature, cut, left, right⟩ := n
  unfold a55
  cases h1 : rightNode ⟨leaf, value, feature, cut, left, right⟩
  case false => simp -implicitDefEqProofs [pack, h1]
  cases leaf
  case true =>
    have e1 : value % 18446744073709551616 % 4294967296 = value % 4294967296 := by omega
    simp -implicitDefEqProofs [pack, h1, u_conv, Put, get, aField, okW, e1]
  case false =>
    have hb := h1
    simp [rightNode] at hb
    have e1 : cut % 18446744073709551616 % 4294967296 = cut % 4294967296 := by omega
    have o1 : okW (cut % 4294967296) := ⟨by omega, by omega⟩
    have e2 : feature % 18446744073709551616 % 16 = feature := by omega
    have g1 : cut % 4294967296 / 4294967296 % 16 = 0 := by omega
    have o2 : okW (cut % 4294967296 + feature * 4294967296) := ⟨by omega, by omega⟩
    have e3 : left % 18446744073709551616 % 256 = left := by omega
    have g2 : (cut % 4294967296 + feature * 4294967296) / 1099511627776 % 256 = 0 := by omega
    have o3 : okW (cut % 4294967296 + feature * 4294967296 + left * 1099511627776) := ⟨by omega, by omega⟩
    have e4 : right % 18446744073709551616 % 256 = right := by omega
    have g3 : (cut % 4294967296 + feature * 4294967296 + left * 1099511627776) / 281474976710656 % 256 = 0 := by omega
    have o0 : okW 0 := ⟨by omega, by omega⟩
    simp -implicitDefEqProofs [pack, h1, u_conv, Put, get, aField, o0, o1, o2, o3, e1, e2, e3, e4, g1, g2, g3]
theorem c_Pack : Contract Try.prog 55 (sp1 fun n => some (pack n)) :=
  contract_of_runs mixed (tbl_cons c_Right (tbl_cons c_Put tbl_nil)) Try.func55 m55 (sp1_runs runs_Pack)
def c54_0 : ACode := .ops [⟨some 5, .mv (.c (.int .i64 0)), none, []⟩] [0, 1, 2]
theorem r54_0 : type_of% (@rr _ _ c54_0.eq_1) := rr rfl
def c54_1 : ACode := .ops [⟨some 6, .load 1 false (.t 2), none, []⟩,⟨some 7, .mv (.t 0), none, []⟩,⟨some 8, .mv (.t 1), none, []⟩,⟨some 9, .call 53 [.t 6, .t 7, .t 8], none, []⟩,⟨some 10, .conv .i64 (.t 9), none, []⟩,⟨some 5, .mv (.t 10), none, []⟩] [5]
theorem r54_1 : type_of% (@rr _ _ c54_1.eq_1) := rr rfl
def c54_2 : ACode := .seq c54_1 .ret
theorem r54_2 : type_of% (@rr _ _ c54_2.eq_1) := rr rfl
def c54_3 : ACode := .seq c54_0 c54_2
theorem r54_3 : type_of% (@rr _ _ c54_3.eq_1) := rr rfl
def a54 : AFun := ⟨3, 11, c54_3, [.t 5]⟩
attribute [simp] r54_0 r54_1 r54_2 r54_3
theorem m54 : mFun Try.prog Try.f54 a54 = true := by decide +kernel
def c15_0 : ACode := .ops [⟨some 1, .box (.t 0) 1, none, []⟩,⟨some 2, .alloc [.bool false, .int .i64 0, .int .i64 0, .int .i64 0, .int .i64 0, .int .i64 0], none, []⟩,⟨some 3, .mv (.c (.bool false)), none, []⟩] [1, 2]
theorem r15_0 : type_of% (@rr _ _ c15_0.eq_1) := rr rfl
def c15_1 : ACode := .ops [⟨some 7, .load 1 false (.t 1), none, [1]⟩,⟨some 8, .call 52 [.t 7, .c (.int .i64 0), .c (.int .i64 32)], none, []⟩,⟨some 4, .mv (.t 8), none, []⟩] [1, 2, 4]
theorem r15_1 : type_of% (@rr _ _ c15_1.eq_1) := rr rfl
def c15_2 : ACode := .ops [⟨some 9, .mv (.t 4), none, []⟩,⟨some 10, .build [.bool false, .int .i64 0, .int .i64 0, .int .i64 0, .int .i64 0, .int .i64 0] [(0, 1, .c (.bool true)), (1, 1, .t 9)], none, []⟩,⟨some 5, .alloc [.bool false, .int .i64 0, .int .i64 0, .int .i64 0, .int .i64 0, .int .i64 0], none, []⟩,⟨none, .store (.t 5) 6 (.t 10), none, [5]⟩] [1, 2, 4, 5]
theorem r15_2 : type_of% (@rr _ _ c15_2.eq_1) := rr rfl
def c15_3 : ACode := .ops [⟨some 11, .load 1 false (.t 1), none, [1]⟩,⟨some 12, .call 53 [.t 11, .c (.int .i64 63), .c (.int .i64 1)], none, []⟩,⟨some 13, .bin .eql (.t 12) (.c (.int .u64 0)), none, []⟩] [1, 2, 4, 5, 13]
theorem r15_3 : type_of% (@rr _ _ c15_3.eq_1) := rr rfl
def c15_4 : ACode := .ops [⟨some 14, .clo 54 [.t 1], none, [1]⟩,⟨some 6, .mv (.t 14), none, []⟩] [1, 2, 4, 5, 6]
theorem r15_4 : type_of% (@rr _ _ c15_4.eq_1) := rr rfl
def c15_5 : ACode := .ops [⟨some 15, .mv (.t 4), none, []⟩,⟨some 16, .mv (.t 6), none, []⟩,⟨some 17, .dyn (.t 16) [.c (.int .i64 32), .c (.int .i64 4)], none, []⟩,⟨some 18, .mv (.t 6), none, []⟩,⟨some 19, .dyn (.t 18) [.c (.int .i64 40), .c (.int .i64 8)], none, []⟩,⟨some 20, .mv (.t 6), none, []⟩,⟨some 21, .dyn (.t 20) [.c (.int .i64 48), .c (.int .i64 8)], none, []⟩,⟨some 22, .build [.bool false, .int .i64 0, .int .i64 0, .int .i64 0, .int .i64 0, .int .i64 0] [(3, 1, .t 15), (2, 1, .t 17), (4, 1, .t 19), (5, 1, .t 21)], none, []⟩,⟨none, .store (.t 5) 6 (.t 22), none, [5]⟩] [1, 2, 5]
theorem r15_5 : type_of% (@rr _ _ c15_5.eq_1) := rr rfl
def c15_6 : ACode := .seq c15_4 c15_5
theorem r15_6 : type_of% (@rr _ _ c15_6.eq_1) := rr rfl
def c15_7 : ACode := .cond (.t 13) c15_6 .skip
theorem r15_7 : type_of% (@rr _ _ c15_7.eq_1) := rr rfl
def c15_8 : ACode := .seq c15_3 c15_7
theorem r15_8 : type_of% (@rr _ _ c15_8.eq_1) := rr rfl
def c15_9 : ACode := .ops [⟨some 23, .load 1 false (.t 1), none, [1]⟩,⟨some 24, .bin .eql (.t 23) (.c (.int .u64 0)), none, []⟩,⟨some 25, .mv (.t 24), none, []⟩,⟨some 26, .load 6 true (.t 5), some (25, false), [5]⟩,⟨some 27, .call 55 [.t 26], some (25, false), []⟩,⟨some 28, .load 1 false (.t 1), some (25, false), [1]⟩,⟨some 29, .bin .neq (.t 27) (.t 28), some (25, false), []⟩,⟨some 30, .pick (.t 25) (.c (.bool true)) (.t 29), none, []⟩] [2, 5, 30]
theorem r15_9 : type_of% (@rr _ _ c15_9.eq_1) := rr rfl
def c15_10 : ACode := .ops [⟨some 31, .build [.bool false, .int .i64 0, .int .i64 0, .int .i64 0, .int .i64 0, .int .i64 0] [], none, []⟩,⟨none, .store (.t 2) 6 (.t 31), none, [2]⟩,⟨some 3, .mv (.c (.bool false)), none, []⟩] [2, 3]
theorem r15_10 : type_of% (@rr _ _ c15_10.eq_1) := rr rfl
def c15_11 : ACode := .seq c15_10 .ret
theorem r15_11 : type_of% (@rr _ _ c15_11.eq_1) := rr rfl
def c15_12 : ACode := .cond (.t 30) c15_11 .skip
theorem r15_12 : type_of% (@rr _ _ c15_12.eq_1) := rr rfl
def c15_13 : ACode := .seq c15_9 c15_12
theorem r15_13 : type_of% (@rr _ _ c15_13.eq_1) := rr rfl
def c15_14 : ACode := .ops [⟨some 32, .load 6 true (.t 5), none, [5]⟩,⟨none, .store (.t 2) 6 (.t 32), none, [2]⟩,⟨some 3, .mv (.c (.bool true)), none, []⟩] [2, 3]
theorem r15_14 : type_of% (@rr _ _ c15_14.eq_1) := rr rfl
def c15_15 : ACode := .seq c15_14 .ret
theorem r15_15 : type_of% (@rr _ _ c15_15.eq_1) := rr rfl
def c15_16 : ACode := .seq c15_13 c15_15
theorem r15_16 : type_of% (@rr _ _ c15_16.eq_1) := rr rfl
def c15_17 : ACode := .seq c15_8 c15_16
theorem r15_17 : type_of% (@rr _ _ c15_17.eq_1) := rr rfl
def c15_18 : ACode := .seq c15_2 c15_17
theorem r15_18 : type_of% (@rr _ _ c15_18.eq_1) := rr rfl
def c15_19 : ACode := .seq c15_1 c15_18
theorem r15_19 : type_of% (@rr _ _ c15_19.eq_1) := rr rfl
def c15_20 : ACode := .seq c15_0 c15_19
theorem r15_20 : type_of% (@rr _ _ c15_20.eq_1) := rr rfl
def a15 : AFun := ⟨1, 33, c15_20, [.cell 2 6 true, .t 3]⟩
attribute [simp] r15_0 r15_1 r15_2 r15_3 r15_4 r15_5 r15_6 r15_7 r15_8 r15_9 r15_10 r15_11 r15_12 r15_13 r15_14 r15_15 r15_16 r15_17 r15_18 r15_19 r15_20
theorem m15 : mFun Try.prog Try.f15 a15 = true := by decide +kernel
def Unpack1 (p w : Int) (x : Ref Word) : Option Int := if okW x.v.v ∧ aField p w ∧ w ≠ 32 then some (get x.v.v p w) else none
theorem runs_Unpack1 (p w : Int) (x : Ref Word) (c : Int) (h : Unpack1 p w x = some c) : Runs (tbl [(53, sp3 Get)]) a54 [Arg.enc p, Arg.enc w, Arg.enc x] (Arg.enc c) := by
  unfold Unpack1 at h
  split at h
  · rename_i hw
    cases h
    obtain ⟨⟨v⟩⟩ := x
    obtain ⟨hv, hf, hw⟩ := hw
    simp only at hv
    refine ⟨rfl, fun g => run_def ?_⟩
    unfold a54
    have hw2 : w = 1 ∨ w = 4 ∨ w = 8 := by rcases hf with ⟨rfl, rfl⟩ | ⟨rfl, rfl⟩ | ⟨rfl, rfl⟩ | ⟨rfl, rfl⟩ | ⟨rfl, rfl⟩ <;> omega
    have e1 : IntKind.i64.wrap (get v p w) = get v p w := by
      unfold get
      rcases hw2 with rfl | rfl | rfl <;> simp <;> refine wrap64 (by omega) (by omega)
    simp -implicitDefEqProofs [Get, hv, hf, e1]
  · cases h
theorem c_Unpack1 : Contract Try.prog 54 (sp3 Unpack1) :=
  contract_of_runs mixed (tbl_cons c_Get tbl_nil) Try.func54 m54 (sp3_runs runs_Unpack1)
theorem pack_ne (n : Node) (h : rightNode n = true) : (pack n).v ≠ 0 := by
  have hb := h
  unfold pack
  rw [if_pos h]
  obtain ⟨leaf, value, feature, cut, left, right⟩ := n
  cases leaf
  · simp [rightNode] at hb
    simp
    omega
  · simp
    omega
theorem runs_Unpack (w : Word) (c : Node × Bool) (h : Unpack w = some c) : Runs (tbl [(52, sp3 Signed), (53, sp3 Get), (54, sp3 Unpack1), (55, sp1 fun n => some (pack n))]) a15 [Arg.enc w] (Arg.enc c) := by
  unfold Unpack at h
  split at h
  · rename_i hw
    cases h
    obtain ⟨v⟩ := w
    simp only at hw
    have hv : okW v := hw
    refine ⟨rfl, fun g => run_def ?_⟩
    unfold a15
    have w1 : IntKind.i64.wrap (v / 4294967296 % 16) = v / 4294967296 % 16 := wrap64 (by omega) (by omega)
    by_cases hl : v / 9223372036854775808 = 1
    · have hl2 : ¬ v / 9223372036854775808 % 2 = 0 := by omega
      have hr : raw v = ⟨true, wrap32 (v % 4294967296), 0, 0, 0, 0⟩ := by simp [raw, hl]
      have hne : ¬ v = 0 := by omega
      by_cases h2 : (pack ⟨true, wrap32 (v % 4294967296), 0, 0, 0, 0⟩).v = v
      · have h3 : pack ⟨true, wrap32 (v % 4294967296), 0, 0, 0, 0⟩ = ⟨v⟩ := by cases hp : pack ⟨true, wrap32 (v % 4294967296), 0, 0, 0, 0⟩; rw [hp] at h2; simpa using h2
        have h1 : rightNode ⟨true, wrap32 (v % 4294967296), 0, 0, 0, 0⟩ = true := by
          cases h1 : rightNode ⟨true, wrap32 (v % 4294967296), 0, 0, 0, 0⟩
          · simp [pack, h1] at h3; omega
          · rfl
        simp -implicitDefEqProofs [Signed, Get, get, hv, aField, Unpack1, hl2, hne, h2, unpack, hr, h1, h3]
      · have h3 : ¬ pack ⟨true, wrap32 (v % 4294967296), 0, 0, 0, 0⟩ = ⟨v⟩ := fun e => h2 (by rw [e])
        simp -implicitDefEqProofs [Signed, Get, get, hv, aField, Unpack1, hl2, hne, h2, unpack, hr, h3]
    · have hl2 : v / 9223372036854775808 % 2 = 0 := by omega
      generalize hn : (⟨false, 0, v / 4294967296 % 16, wrap32 (v % 4294967296), v / 1099511627776 % 256, v / 281474976710656 % 256⟩ : Node) = n at *
      have hr : raw v = n := by rw [← hn]; simp [raw, hl]
      by_cases hne : v = 0
      · have h3 : ¬ (rightNode n = true ∧ pack n = ⟨v⟩) := fun ⟨a, b⟩ => pack_ne n a (by rw [b]; exact hne)
        rw [← hn] at hr h3
        subst hne
        clear hl2 hl
        have hv0 : okW 0 := hv
        have hr0 : raw 0 = ⟨false, 0, 0, 0, 0, 0⟩ := by rw [hr]; rfl
        have h30 : rightNode ⟨false, 0, 0, 0, 0, 0⟩ = false := rfl
        simp -implicitDefEqProofs [Signed, Get, get, hv0, aField, Unpack1, unpack, hr0, h30]
      · by_cases h2 : (pack n).v = v
        · have h3 : pack n = ⟨v⟩ := by cases hp : pack n; rw [hp] at h2; simpa using h2
          have h1 : rightNode n = true := by
            cases h1 : rightNode n
            · simp [pack, h1] at h3; omega
            · rfl
          rw [← hn] at h1 hr h2 h3
          simp -implicitDefEqProofs [Signed, Get, get, hv, aField, Unpack1, hl2, hne, h2, unpack, hr, h1, h3]
        · have h3 : ¬ pack n = ⟨v⟩ := fun e => h2 (by rw [e])
          rw [← hn] at hr h2 h3
          simp -implicitDefEqProofs [Signed, Get, get, hv, aField, Unpack1, hl2, hne, h2, unpack, hr, h3]
  · cases h
theorem c_Unpack : Contract Try.prog 15 (sp1 Unpack) :=
  contract_of_runs mixed (tbl_cons c_Signed (tbl_cons c_Get (tbl_cons c_Unpack1 (tbl_cons c_Pack tbl_nil)))) Try.func15 m15 (sp1_runs runs_Unpack)
end Go.Co
