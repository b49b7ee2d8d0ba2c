/- CO: texts of this claim, one behind the other. -/
import Derived.Test.YtcjflbmpfmibbaaCz15
/- CO: is a verdict proven? by the checker, and by the document. -/
set_option maxHeartbeats 16000000
set_option maxRecDepth 100000
namespace Go.Co
open Go.Am Go.Proofs
set_option linter.unusedSimpArgs false
set_option linter.unusedVariables false
attribute [-simp] Go.Am.eff_gcall
theorem walkS_ok : ∀ (R : List Box) (l : List Step), (∀ x ∈ R, okB x) → ∀ L, walkS R l = some L → ∀ x ∈ L, okB x
  | [], [], _, L, h, x, hx => by
    unfold walkS at h; cases h; simp at hx
  | _ :: _, [], _, L, h, x, hx => by unfold walkS at h; cases h
  | [], _ :: _, _, L, h, x, hx => by unfold walkS at h; cases h
  | b :: bs, s :: l, hR, L, h, x, hx => by
    unfold walkS at h
    split at h
    · rw [Option.map_eq_some_iff] at h
      obtain ⟨L', h', rfl⟩ := h
      rcases List.mem_cons.1 hx with rfl | hx
      · exact hR _ (by simp)
      · exact walkS_ok bs l (fun y hy => hR y (by simp [hy])) L' h' x hx
    · split at h
      · rename_i hin
        have hbok := hR b (by simp)
        have hg64 := okB_get hbok s.place
        have hat : ok64 s.cut := by unfold okS64 ok64 at hg64; unfold ok64; omega
        have hok2 := okB_cut hbok s.place hat
        refine walkS_ok _ l (fun y hy => ?_) L h x hx
        simp only [List.mem_cons] at hy
        rcases hy with rfl | rfl | hy
        · exact hok2.1
        · exact hok2.2
        · exact hR y (by simp [hy])
      · cases h
theorem walkS_len : ∀ (R : List Box) (l : List Step), ∀ L, walkS R l = some L → L.length ≤ l.length
  | [], [], L, h => by unfold walkS at h; cases h; simp
  | _ :: _, [], L, h => by unfold walkS at h; cases h
  | [], _ :: _, L, h => by unfold walkS at h; cases h
  | b :: bs, s :: l, L, h => by
    unfold walkS at h
    split at h
    · rw [Option.map_eq_some_iff] at h
      obtain ⟨L', h', rfl⟩ := h
      have := walkS_len bs l L' h'
      simp; omega
    · split at h
      · have := walkS_len _ l L h
        simp; omega
      · cases h
def c40_0 : ACode := .ops [⟨some 3, .box (.t 0) 6, none, []⟩,⟨some 4, .box (.t 1) 17, none, []⟩,⟨some 5, .box (.t 2) 8, none, []⟩,⟨some 6, .mv (.c (.bool false)), none, []⟩] [3, 4, 5]
theorem r40_0 : type_of% (@rr _ _ c40_0.eq_1) := rr rfl
def c40_1 : ACode := .ops [⟨some 12, .load 6 true (.t 3), none, [3]⟩,⟨some 13, .load 17 true (.t 4), none, [4]⟩,⟨some 14, .call 89 [.t 12, .t 13], none, []⟩,⟨some 15, .un .not (.t 14), none, []⟩] [3, 4, 5, 15]
theorem r40_1 : type_of% (@rr _ _ c40_1.eq_1) := rr rfl
def c40_2 : ACode := .ops [⟨some 6, .mv (.c (.bool false)), none, []⟩] [6]
theorem r40_2 : type_of% (@rr _ _ c40_2.eq_1) := rr rfl
def c40_3 : ACode := .seq c40_2 .ret
theorem r40_3 : type_of% (@rr _ _ c40_3.eq_1) := rr rfl
def c40_4 : ACode := .cond (.t 15) c40_3 .skip
theorem r40_4 : type_of% (@rr _ _ c40_4.eq_1) := rr rfl
def c40_5 : ACode := .seq c40_1 c40_4
theorem r40_5 : type_of% (@rr _ _ c40_5.eq_1) := rr rfl
def c40_6 : ACode := .ops [⟨some 16, .load 17 true (.t 4), none, [4]⟩,⟨some 17, .call 45 [.t 16], none, []⟩,⟨some 7, .alloc [.int .i64 0, .int .i64 0, .int .i64 0, .int .i64 0, .int .i64 0, .int .i64 0, .int .i64 0, .int .i64 0, .int .i64 0, .int .i64 0], none, []⟩,⟨none, .store (.t 7) 10 (.t 17), none, [7]⟩] [3, 4, 5, 7]
theorem r40_6 : type_of% (@rr _ _ c40_6.eq_1) := rr rfl
def c40_7 : ACode := .ops [⟨some 18, .fad (.t 5) 0, none, [5]⟩,⟨some 19, .load 1 false (.t 18), none, [5]⟩] [3, 4, 5, 7, 19]
theorem r40_7 : type_of% (@rr _ _ c40_7.eq_1) := rr rfl
def c40_8 : ACode := .ops [⟨some 21, .bin .eql (.t 19) (.c (.int .i64 1)), none, []⟩,⟨some 20, .mv (.t 21), none, []⟩] [3, 4, 5, 7, 19, 20]
theorem r40_8 : type_of% (@rr _ _ c40_8.eq_1) := rr rfl
def c40_9 : ACode := .ops [⟨some 23, .load 10 true (.t 7), none, [7]⟩,⟨some 24, .fad (.t 5) 1, none, [5]⟩,⟨some 25, .load 1 false (.t 24), none, [5]⟩,⟨some 26, .call 90 [.t 23, .t 25], none, []⟩,⟨some 22, .mv (.t 26), none, []⟩,⟨some 27, .ext (.t 22) 0, none, []⟩,⟨some 28, .ext (.t 22) 1, none, []⟩,⟨some 8, .mv (.t 27), none, []⟩,⟨some 9, .mv (.t 28), none, []⟩] [3, 4, 8, 9]
theorem r40_9 : type_of% (@rr _ _ c40_9.eq_1) := rr rfl
def c40_10 : ACode := .ops [⟨some 29, .mv (.t 8), none, []⟩,⟨some 30, .len (.t 29), none, []⟩,⟨some 31, .mv (.c (.int .i64 0)), none, []⟩] [3, 4, 9, 29, 30, 31]
theorem r40_10 : type_of% (@rr _ _ c40_10.eq_1) := rr rfl
def c40_11 : ACode := .ops [⟨some 32, .bin .lss (.t 31) (.t 30), none, []⟩] [3, 4, 9, 29, 30, 31, 32]
theorem r40_11 : type_of% (@rr _ _ c40_11.eq_1) := rr rfl
def c40_12 : ACode := .cond (.t 32) .skip (.exit 1)
theorem r40_12 : type_of% (@rr _ _ c40_12.eq_1) := rr rfl
def c40_13 : ACode := .ops [⟨some 33, .ias (.t 29) (.t 31) 10, none, []⟩,⟨some 34, .load 10 true (.t 33), none, []⟩,⟨some 11, .alloc [.int .i64 0, .int .i64 0, .int .i64 0, .int .i64 0, .int .i64 0, .int .i64 0, .int .i64 0, .int .i64 0, .int .i64 0, .int .i64 0], none, []⟩,⟨none, .store (.t 11) 10 (.t 34), none, [11]⟩] [3, 4, 9, 11, 29, 30, 31]
theorem r40_13 : type_of% (@rr _ _ c40_13.eq_1) := rr rfl
def c40_14 : ACode := .ops [⟨some 35, .load 6 true (.t 3), none, [3]⟩,⟨some 36, .load 17 true (.t 4), none, [4]⟩,⟨some 37, .load 10 true (.t 11), none, [11]⟩,⟨some 38, .call 91 [.t 35, .t 36, .t 37], none, []⟩,⟨some 39, .un .not (.t 38), none, []⟩] [3, 4, 9, 29, 30, 31, 39]
theorem r40_14 : type_of% (@rr _ _ c40_14.eq_1) := rr rfl
def c40_15 : ACode := .ops [⟨some 6, .mv (.c (.bool false)), none, []⟩] [6]
theorem r40_15 : type_of% (@rr _ _ c40_15.eq_1) := rr rfl
def c40_16 : ACode := .seq c40_15 .ret
theorem r40_16 : type_of% (@rr _ _ c40_16.eq_1) := rr rfl
def c40_17 : ACode := .cond (.t 39) c40_16 .skip
theorem r40_17 : type_of% (@rr _ _ c40_17.eq_1) := rr rfl
def c40_18 : ACode := .seq c40_14 c40_17
theorem r40_18 : type_of% (@rr _ _ c40_18.eq_1) := rr rfl
def c40_19 : ACode := .seq c40_13 c40_18
theorem r40_19 : type_of% (@rr _ _ c40_19.eq_1) := rr rfl
def c40_20 : ACode := .block 2 c40_19
theorem r40_20 : type_of% (@rr _ _ c40_20.eq_1) := rr rfl
def c40_21 : ACode := .ops [⟨some 40, .bin .add (.t 31) (.c (.int .i64 1)), none, []⟩,⟨some 31, .mv (.t 40), none, []⟩] [3, 4, 9, 29, 30, 31]
theorem r40_21 : type_of% (@rr _ _ c40_21.eq_1) := rr rfl
def c40_22 : ACode := .seq c40_20 c40_21
theorem r40_22 : type_of% (@rr _ _ c40_22.eq_1) := rr rfl
def c40_23 : ACode := .seq c40_12 c40_22
theorem r40_23 : type_of% (@rr _ _ c40_23.eq_1) := rr rfl
def c40_24 : ACode := .seq c40_11 c40_23
theorem r40_24 : type_of% (@rr _ _ c40_24.eq_1) := rr rfl
def c40_25 : ACode := .keep [3, 4, 9, 29, 30, 31] [3, 4] c40_24
theorem r40_25 : type_of% (@rr _ _ c40_25.eq_1) := rr rfl
def c40_26 : ACode := .loop c40_25
theorem r40_26 : type_of% (@rr _ _ c40_26.eq_1) := rr rfl
def c40_27 : ACode := .block 1 c40_26
theorem r40_27 : type_of% (@rr _ _ c40_27.eq_1) := rr rfl
def c40_28 : ACode := .seq c40_10 c40_27
theorem r40_28 : type_of% (@rr _ _ c40_28.eq_1) := rr rfl
def c40_29 : ACode := .ops [⟨some 41, .mv (.t 9), none, []⟩,⟨some 6, .mv (.t 41), none, []⟩] [6]
theorem r40_29 : type_of% (@rr _ _ c40_29.eq_1) := rr rfl
def c40_30 : ACode := .seq c40_29 .ret
theorem r40_30 : type_of% (@rr _ _ c40_30.eq_1) := rr rfl
def c40_31 : ACode := .seq c40_28 c40_30
theorem r40_31 : type_of% (@rr _ _ c40_31.eq_1) := rr rfl
def c40_32 : ACode := .seq c40_9 c40_31
theorem r40_32 : type_of% (@rr _ _ c40_32.eq_1) := rr rfl
def c40_33 : ACode := .ops [⟨some 43, .bin .eql (.t 19) (.c (.int .i64 2)), none, []⟩,⟨some 42, .mv (.t 43), none, []⟩] [3, 4, 5, 7, 42]
theorem r40_33 : type_of% (@rr _ _ c40_33.eq_1) := rr rfl
def c40_34 : ACode := .ops [⟨some 44, .load 10 true (.t 7), none, [7]⟩,⟨some 45, .fad (.t 5) 2, none, [5]⟩,⟨some 46, .load 4 true (.t 45), none, [5]⟩,⟨some 47, .fad (.t 5) 6, none, [5]⟩,⟨some 48, .load 1 false (.t 47), none, [5]⟩,⟨some 49, .call 92 [.t 44, .t 46, .t 48], none, []⟩,⟨some 50, .mv (.t 49), none, []⟩,⟨some 51, .load 6 true (.t 3), some (50, true), [3]⟩,⟨some 52, .load 17 true (.t 4), some (50, true), [4]⟩,⟨some 53, .fad (.t 5) 2, some (50, true), [5]⟩,⟨some 54, .load 4 true (.t 53), some (50, true), [5]⟩,⟨some 55, .fad (.t 5) 6, some (50, true), [5]⟩,⟨some 56, .load 1 false (.t 55), some (50, true), [5]⟩,⟨some 57, .call 57 [.t 51, .t 52, .t 54, .t 56], some (50, true), []⟩,⟨some 58, .pick (.t 50) (.t 57) (.c (.bool false)), none, []⟩,⟨some 6, .mv (.t 58), none, []⟩] [6]
theorem r40_34 : type_of% (@rr _ _ c40_34.eq_1) := rr rfl
def c40_35 : ACode := .seq c40_34 .ret
theorem r40_35 : type_of% (@rr _ _ c40_35.eq_1) := rr rfl
def c40_36 : ACode := .cond (.t 42) c40_35 .skip
theorem r40_36 : type_of% (@rr _ _ c40_36.eq_1) := rr rfl
def c40_37 : ACode := .seq c40_33 c40_36
theorem r40_37 : type_of% (@rr _ _ c40_37.eq_1) := rr rfl
def c40_38 : ACode := .cond (.t 20) c40_32 c40_37
theorem r40_38 : type_of% (@rr _ _ c40_38.eq_1) := rr rfl
def c40_39 : ACode := .seq c40_8 c40_38
theorem r40_39 : type_of% (@rr _ _ c40_39.eq_1) := rr rfl
def c40_40 : ACode := .block 0 c40_39
theorem r40_40 : type_of% (@rr _ _ c40_40.eq_1) := rr rfl
def c40_41 : ACode := .seq c40_7 c40_40
theorem r40_41 : type_of% (@rr _ _ c40_41.eq_1) := rr rfl
def c40_42 : ACode := .ops [⟨some 6, .mv (.c (.bool false)), none, []⟩] [6]
theorem r40_42 : type_of% (@rr _ _ c40_42.eq_1) := rr rfl
def c40_43 : ACode := .seq c40_42 .ret
theorem r40_43 : type_of% (@rr _ _ c40_43.eq_1) := rr rfl
def c40_44 : ACode := .seq c40_41 c40_43
theorem r40_44 : type_of% (@rr _ _ c40_44.eq_1) := rr rfl
def c40_45 : ACode := .seq c40_6 c40_44
theorem r40_45 : type_of% (@rr _ _ c40_45.eq_1) := rr rfl
def c40_46 : ACode := .seq c40_5 c40_45
theorem r40_46 : type_of% (@rr _ _ c40_46.eq_1) := rr rfl
def c40_47 : ACode := .seq c40_0 c40_46
theorem r40_47 : type_of% (@rr _ _ c40_47.eq_1) := rr rfl
def a40 : AFun := ⟨3, 59, c40_47, [.t 6]⟩
attribute [simp] r40_0 r40_1 r40_2 r40_3 r40_4 r40_5 r40_6 r40_7 r40_8 r40_9 r40_10 r40_11 r40_12 r40_13 r40_14 r40_15 r40_16 r40_17 r40_18 r40_19 r40_20 r40_21 r40_22 r40_23 r40_24 r40_25 r40_26 r40_27 r40_28 r40_29 r40_30 r40_31 r40_32 r40_33 r40_34 r40_35 r40_36 r40_37 r40_38 r40_39 r40_40 r40_41 r40_42 r40_43 r40_44 r40_45 r40_46 r40_47
theorem m40 : mFun Try.prog Try.f40 a40 = true := by decide +kernel
def c35_0 : ACode := .ops [⟨some 3, .box (.t 0) 6, none, []⟩,⟨some 4, .box (.t 1) 17, none, []⟩,⟨some 6, .mv (.c (.bool false)), none, []⟩] [2, 3, 4]
theorem r35_0 : type_of% (@rr _ _ c35_0.eq_1) := rr rfl
def c35_1 : ACode := .ops [⟨some 13, .load 6 true (.t 3), none, [3]⟩,⟨some 14, .load 17 true (.t 4), none, [4]⟩,⟨some 15, .call 79 [.t 13, .t 14], none, []⟩,⟨some 16, .un .not (.t 15), none, []⟩,⟨some 17, .mv (.t 16), none, []⟩,⟨some 18, .mv (.t 2), some (17, false), []⟩,⟨some 19, .len (.t 18), some (17, false), []⟩,⟨some 20, .bin .gtr (.t 19) (.c (.int .i64 65536)), some (17, false), []⟩,⟨some 21, .pick (.t 17) (.c (.bool true)) (.t 20), none, []⟩] [2, 3, 4, 21]
theorem r35_1 : type_of% (@rr _ _ c35_1.eq_1) := rr rfl
def c35_2 : ACode := .ops [⟨some 6, .mv (.c (.bool false)), none, []⟩] [6]
theorem r35_2 : type_of% (@rr _ _ c35_2.eq_1) := rr rfl
def c35_3 : ACode := .seq c35_2 .ret
theorem r35_3 : type_of% (@rr _ _ c35_3.eq_1) := rr rfl
def c35_4 : ACode := .cond (.t 21) c35_3 .skip
theorem r35_4 : type_of% (@rr _ _ c35_4.eq_1) := rr rfl
def c35_5 : ACode := .seq c35_1 c35_4
theorem r35_5 : type_of% (@rr _ _ c35_5.eq_1) := rr rfl
def c35_6 : ACode := .ops [⟨some 22, .load 17 true (.t 4), none, [4]⟩,⟨some 23, .call 33 [.t 22], none, []⟩,⟨some 24, .mkrow 7 1 10 [.int .i64 0, .int .i64 0, .int .i64 0, .int .i64 0, .int .i64 0, .int .i64 0, .int .i64 0, .int .i64 0, .int .i64 0, .int .i64 0] [(0, 10, .t 23)], none, []⟩,⟨some 7, .mv (.t 24), none, []⟩] [2, 3, 4, 7]
theorem r35_6 : type_of% (@rr _ _ c35_6.eq_1) := rr rfl
def c35_7 : ACode := .ops [⟨some 25, .mv (.t 2), none, []⟩,⟨some 26, .len (.t 25), none, []⟩,⟨some 27, .mv (.c (.int .i64 0)), none, []⟩] [3, 4, 7, 25, 26, 27]
theorem r35_7 : type_of% (@rr _ _ c35_7.eq_1) := rr rfl
def c35_8 : ACode := .ops [⟨some 28, .bin .lss (.t 27) (.t 26), none, []⟩] [3, 4, 7, 25, 26, 27, 28]
theorem r35_8 : type_of% (@rr _ _ c35_8.eq_1) := rr rfl
def c35_9 : ACode := .cond (.t 28) .skip (.exit 0)
theorem r35_9 : type_of% (@rr _ _ c35_9.eq_1) := rr rfl
def c35_10 : ACode := .ops [⟨some 29, .ias (.t 25) (.t 27) 3, none, []⟩,⟨some 30, .load 3 true (.t 29), none, []⟩,⟨some 9, .alloc [.bool false, .int .i64 0, .int .i64 0], none, []⟩,⟨none, .store (.t 9) 3 (.t 30), none, [9]⟩] [3, 4, 7, 9, 25, 26, 27]
theorem r35_10 : type_of% (@rr _ _ c35_10.eq_1) := rr rfl
def c35_11 : ACode := .ops [⟨some 31, .mv (.t 7), none, []⟩,⟨some 32, .len (.t 31), none, [7]⟩,⟨some 33, .bin .eql (.t 32) (.c (.int .i64 0)), none, []⟩,⟨some 34, .mv (.t 33), none, []⟩,⟨some 35, .mv (.t 7), some (34, false), []⟩,⟨some 36, .len (.t 35), some (34, false), [7]⟩,⟨some 37, .bin .gtr (.t 36) (.c (.int .i64 200)), some (34, false), []⟩,⟨some 38, .pick (.t 34) (.c (.bool true)) (.t 37), none, []⟩] [3, 4, 7, 9, 25, 26, 27, 38]
theorem r35_11 : type_of% (@rr _ _ c35_11.eq_1) := rr rfl
def c35_12 : ACode := .ops [⟨some 6, .mv (.c (.bool false)), none, []⟩] [6]
theorem r35_12 : type_of% (@rr _ _ c35_12.eq_1) := rr rfl
def c35_13 : ACode := .seq c35_12 .ret
theorem r35_13 : type_of% (@rr _ _ c35_13.eq_1) := rr rfl
def c35_14 : ACode := .cond (.t 38) c35_13 .skip
theorem r35_14 : type_of% (@rr _ _ c35_14.eq_1) := rr rfl
def c35_15 : ACode := .seq c35_11 c35_14
theorem r35_15 : type_of% (@rr _ _ c35_15.eq_1) := rr rfl
def c35_16 : ACode := .ops [⟨some 39, .mv (.t 7), none, []⟩,⟨some 40, .mv (.t 7), none, []⟩,⟨some 41, .len (.t 40), none, [7]⟩,⟨some 42, .bin .sub (.t 41) (.c (.int .i64 1)), none, []⟩,⟨some 43, .ias (.t 39) (.t 42) 10, none, [7]⟩,⟨some 44, .load 10 true (.t 43), none, [7]⟩,⟨some 10, .alloc [.int .i64 0, .int .i64 0, .int .i64 0, .int .i64 0, .int .i64 0, .int .i64 0, .int .i64 0, .int .i64 0, .int .i64 0, .int .i64 0], none, []⟩,⟨none, .store (.t 10) 10 (.t 44), none, [10]⟩] [3, 4, 7, 9, 10, 25, 26, 27]
theorem r35_16 : type_of% (@rr _ _ c35_16.eq_1) := rr rfl
def c35_17 : ACode := .ops [⟨some 45, .mv (.t 7), none, []⟩,⟨some 46, .mv (.t 7), none, []⟩,⟨some 47, .len (.t 46), none, [7]⟩,⟨some 48, .bin .sub (.t 47) (.c (.int .i64 1)), none, []⟩,⟨some 49, .sl (.t 45) none (some (.t 48)) 10, none, [7]⟩,⟨some 7, .mv (.t 49), none, []⟩] [3, 4, 7, 9, 10, 25, 26, 27]
theorem r35_17 : type_of% (@rr _ _ c35_17.eq_1) := rr rfl
def c35_18 : ACode := .ops [⟨some 50, .fad (.t 9) 0, none, [9]⟩,⟨some 51, .load 1 false (.t 50), none, [9]⟩] [3, 4, 7, 9, 10, 25, 26, 27, 51]
theorem r35_18 : type_of% (@rr _ _ c35_18.eq_1) := rr rfl
def c35_19 : ACode := .ops [⟨some 52, .fad (.t 9) 1, none, [9]⟩,⟨some 53, .load 1 false (.t 52), none, [9]⟩,⟨some 54, .bin .neq (.t 53) (.c (.int .i64 0)), none, []⟩,⟨some 55, .mv (.t 54), none, []⟩,⟨some 56, .fad (.t 9) 2, some (55, false), [9]⟩,⟨some 57, .load 1 false (.t 56), some (55, false), [9]⟩,⟨some 58, .bin .neq (.t 57) (.c (.int .i64 0)), some (55, false), []⟩,⟨some 59, .pick (.t 55) (.c (.bool true)) (.t 58), none, []⟩,⟨some 60, .mv (.t 59), none, []⟩,⟨some 61, .load 6 true (.t 3), some (60, false), [3]⟩,⟨some 62, .load 17 true (.t 4), some (60, false), [4]⟩,⟨some 63, .load 10 true (.t 10), some (60, false), [10]⟩,⟨some 64, .call 80 [.t 61, .t 62, .t 63], some (60, false), []⟩,⟨some 65, .un .not (.t 64), some (60, false), []⟩,⟨some 66, .pick (.t 60) (.c (.bool true)) (.t 65), none, []⟩] [3, 4, 7, 25, 26, 27, 66]
theorem r35_19 : type_of% (@rr _ _ c35_19.eq_1) := rr rfl
def c35_20 : ACode := .ops [⟨some 6, .mv (.c (.bool false)), none, []⟩] [6]
theorem r35_20 : type_of% (@rr _ _ c35_20.eq_1) := rr rfl
def c35_21 : ACode := .seq c35_20 .ret
theorem r35_21 : type_of% (@rr _ _ c35_21.eq_1) := rr rfl
def c35_22 : ACode := .cond (.t 66) c35_21 .skip
theorem r35_22 : type_of% (@rr _ _ c35_22.eq_1) := rr rfl
def c35_23 : ACode := .seq c35_19 c35_22
theorem r35_23 : type_of% (@rr _ _ c35_23.eq_1) := rr rfl
def c35_24 : ACode := .seq c35_23 (.exit 1)
theorem r35_24 : type_of% (@rr _ _ c35_24.eq_1) := rr rfl
def c35_25 : ACode := .cond (.t 51) c35_24 .skip
theorem r35_25 : type_of% (@rr _ _ c35_25.eq_1) := rr rfl
def c35_26 : ACode := .seq c35_18 c35_25
theorem r35_26 : type_of% (@rr _ _ c35_26.eq_1) := rr rfl
def c35_27 : ACode := .ops [⟨some 67, .fad (.t 9) 1, none, [9]⟩,⟨some 68, .load 1 false (.t 67), none, [9]⟩,⟨some 69, .bin .lss (.t 68) (.c (.int .i64 0)), none, []⟩,⟨some 70, .mv (.t 69), none, []⟩,⟨some 71, .fad (.t 9) 1, some (70, false), [9]⟩,⟨some 72, .load 1 false (.t 71), some (70, false), [9]⟩,⟨some 73, .bin .gtr (.t 72) (.c (.int .i64 4)), some (70, false), []⟩,⟨some 74, .pick (.t 70) (.c (.bool true)) (.t 73), none, []⟩,⟨some 75, .mv (.t 74), none, []⟩,⟨some 76, .fad (.t 9) 2, some (75, false), [9]⟩,⟨some 77, .load 1 false (.t 76), some (75, false), [9]⟩,⟨some 78, .fad (.t 9) 1, some (75, false), [9]⟩,⟨some 79, .load 1 false (.t 78), some (75, false), [9]⟩,⟨some 80, .iad (.t 10) (.t 79) 2 5, some (75, false), [10]⟩,⟨some 81, .fad (.t 80) 0, some (75, false), [10]⟩,⟨some 82, .load 1 false (.t 81), some (75, false), [10]⟩,⟨some 83, .bin .lss (.t 77) (.t 82), some (75, false), []⟩,⟨some 84, .pick (.t 75) (.c (.bool true)) (.t 83), none, []⟩,⟨some 85, .mv (.t 84), none, []⟩,⟨some 86, .fad (.t 9) 2, some (85, false), [9]⟩,⟨some 87, .load 1 false (.t 86), some (85, false), [9]⟩,⟨some 88, .fad (.t 9) 1, some (85, false), [9]⟩,⟨some 89, .load 1 false (.t 88), some (85, false), [9]⟩,⟨some 90, .iad (.t 10) (.t 89) 2 5, some (85, false), [10]⟩,⟨some 91, .fad (.t 90) 1, some (85, false), [10]⟩,⟨some 92, .load 1 false (.t 91), some (85, false), [10]⟩,⟨some 93, .bin .geq (.t 87) (.t 92), some (85, false), []⟩,⟨some 94, .pick (.t 85) (.c (.bool true)) (.t 93), none, []⟩] [3, 4, 7, 9, 10, 25, 26, 27, 94]
theorem r35_27 : type_of% (@rr _ _ c35_27.eq_1) := rr rfl
def c35_28 : ACode := .ops [⟨some 6, .mv (.c (.bool false)), none, []⟩] [6]
theorem r35_28 : type_of% (@rr _ _ c35_28.eq_1) := rr rfl
def c35_29 : ACode := .seq c35_28 .ret
theorem r35_29 : type_of% (@rr _ _ c35_29.eq_1) := rr rfl
def c35_30 : ACode := .cond (.t 94) c35_29 .skip
theorem r35_30 : type_of% (@rr _ _ c35_30.eq_1) := rr rfl
def c35_31 : ACode := .seq c35_27 c35_30
theorem r35_31 : type_of% (@rr _ _ c35_31.eq_1) := rr rfl
def c35_32 : ACode := .ops [⟨some 96, .load 10 true (.t 10), none, [10]⟩,⟨some 97, .fad (.t 9) 1, none, [9]⟩,⟨some 98, .load 1 false (.t 97), none, [9]⟩,⟨some 99, .fad (.t 9) 2, none, [9]⟩,⟨some 100, .load 1 false (.t 99), none, [9]⟩,⟨some 101, .call 83 [.t 96, .t 98, .t 100], none, []⟩,⟨some 95, .mv (.t 101), none, []⟩,⟨some 102, .ext (.t 95) 0, none, []⟩,⟨some 103, .ext (.t 95) 1, none, []⟩,⟨some 11, .alloc [.int .i64 0, .int .i64 0, .int .i64 0, .int .i64 0, .int .i64 0, .int .i64 0, .int .i64 0, .int .i64 0, .int .i64 0, .int .i64 0], none, []⟩,⟨some 12, .alloc [.int .i64 0, .int .i64 0, .int .i64 0, .int .i64 0, .int .i64 0, .int .i64 0, .int .i64 0, .int .i64 0, .int .i64 0, .int .i64 0], none, []⟩,⟨none, .store (.t 11) 10 (.t 102), none, [11]⟩,⟨none, .store (.t 12) 10 (.t 103), none, [12]⟩] [3, 4, 7, 11, 12, 25, 26, 27]
theorem r35_32 : type_of% (@rr _ _ c35_32.eq_1) := rr rfl
def c35_33 : ACode := .ops [⟨some 104, .mv (.t 7), none, []⟩,⟨some 105, .load 10 true (.t 12), none, [12]⟩,⟨some 106, .load 10 true (.t 11), none, [11]⟩,⟨some 107, .mkrow 107 2 10 [.int .i64 0, .int .i64 0, .int .i64 0, .int .i64 0, .int .i64 0, .int .i64 0, .int .i64 0, .int .i64 0, .int .i64 0, .int .i64 0] [(0, 10, .t 105), (10, 10, .t 106)], none, []⟩,⟨some 108, .app 7 [7] (.t 104) (.t 107) 10, none, [7, 107]⟩,⟨some 7, .mv (.t 108), none, []⟩] [3, 4, 7, 25, 26, 27]
theorem r35_33 : type_of% (@rr _ _ c35_33.eq_1) := rr rfl
def c35_34 : ACode := .seq c35_32 c35_33
theorem r35_34 : type_of% (@rr _ _ c35_34.eq_1) := rr rfl
def c35_35 : ACode := .seq c35_31 c35_34
theorem r35_35 : type_of% (@rr _ _ c35_35.eq_1) := rr rfl
def c35_36 : ACode := .seq c35_26 c35_35
theorem r35_36 : type_of% (@rr _ _ c35_36.eq_1) := rr rfl
def c35_37 : ACode := .seq c35_17 c35_36
theorem r35_37 : type_of% (@rr _ _ c35_37.eq_1) := rr rfl
def c35_38 : ACode := .seq c35_16 c35_37
theorem r35_38 : type_of% (@rr _ _ c35_38.eq_1) := rr rfl
def c35_39 : ACode := .seq c35_15 c35_38
theorem r35_39 : type_of% (@rr _ _ c35_39.eq_1) := rr rfl
def c35_40 : ACode := .seq c35_10 c35_39
theorem r35_40 : type_of% (@rr _ _ c35_40.eq_1) := rr rfl
def c35_41 : ACode := .block 1 c35_40
theorem r35_41 : type_of% (@rr _ _ c35_41.eq_1) := rr rfl
def c35_42 : ACode := .ops [⟨some 109, .bin .add (.t 27) (.c (.int .i64 1)), none, []⟩,⟨some 27, .mv (.t 109), none, []⟩] [3, 4, 7, 25, 26, 27]
theorem r35_42 : type_of% (@rr _ _ c35_42.eq_1) := rr rfl
def c35_43 : ACode := .seq c35_41 c35_42
theorem r35_43 : type_of% (@rr _ _ c35_43.eq_1) := rr rfl
def c35_44 : ACode := .seq c35_9 c35_43
theorem r35_44 : type_of% (@rr _ _ c35_44.eq_1) := rr rfl
def c35_45 : ACode := .seq c35_8 c35_44
theorem r35_45 : type_of% (@rr _ _ c35_45.eq_1) := rr rfl
def c35_46 : ACode := .keep [3, 4, 7, 25, 26, 27] [3, 4, 7] c35_45
theorem r35_46 : type_of% (@rr _ _ c35_46.eq_1) := rr rfl
def c35_47 : ACode := .loop c35_46
theorem r35_47 : type_of% (@rr _ _ c35_47.eq_1) := rr rfl
def c35_48 : ACode := .block 0 c35_47
theorem r35_48 : type_of% (@rr _ _ c35_48.eq_1) := rr rfl
def c35_49 : ACode := .seq c35_7 c35_48
theorem r35_49 : type_of% (@rr _ _ c35_49.eq_1) := rr rfl
def c35_50 : ACode := .ops [⟨some 110, .mv (.t 7), none, []⟩,⟨some 111, .len (.t 110), none, [7]⟩,⟨some 112, .bin .eql (.t 111) (.c (.int .i64 0)), none, []⟩,⟨some 6, .mv (.t 112), none, []⟩] [6]
theorem r35_50 : type_of% (@rr _ _ c35_50.eq_1) := rr rfl
def c35_51 : ACode := .seq c35_50 .ret
theorem r35_51 : type_of% (@rr _ _ c35_51.eq_1) := rr rfl
def c35_52 : ACode := .seq c35_49 c35_51
theorem r35_52 : type_of% (@rr _ _ c35_52.eq_1) := rr rfl
def c35_53 : ACode := .seq c35_6 c35_52
theorem r35_53 : type_of% (@rr _ _ c35_53.eq_1) := rr rfl
def c35_54 : ACode := .seq c35_5 c35_53
theorem r35_54 : type_of% (@rr _ _ c35_54.eq_1) := rr rfl
def c35_55 : ACode := .seq c35_0 c35_54
theorem r35_55 : type_of% (@rr _ _ c35_55.eq_1) := rr rfl
def a35 : AFun := ⟨3, 113, c35_55, [.t 6]⟩
attribute [simp] r35_0 r35_1 r35_2 r35_3 r35_4 r35_5 r35_6 r35_7 r35_8 r35_9 r35_10 r35_11 r35_12 r35_13 r35_14 r35_15 r35_16 r35_17 r35_18 r35_19 r35_20 r35_21 r35_22 r35_23 r35_24 r35_25 r35_26 r35_27 r35_28 r35_29 r35_30 r35_31 r35_32 r35_33 r35_34 r35_35 r35_36 r35_37 r35_38 r35_39 r35_40 r35_41 r35_42 r35_43 r35_44 r35_45 r35_46 r35_47 r35_48 r35_49 r35_50 r35_51 r35_52 r35_53 r35_54 r35_55
theorem m35 : mFun Try.prog Try.f35 a35 = true := by decide +kernel
def allShown (m : Model) (q : Query) (l : Option (List Box)) : Bool := match l with
  | some bs => bs.all (shownB m q)
  | none => false
def holdsV (m : Model) (q : Query) (l : List Step) : Bool := decide (0 < deepV l) && allShown m q (walkS [startOf q] l)
def provesM (m : Model) (q : Query) (v : Verdict) : Bool := okQuery m q && (if v.kind = 1 then holdsV m q v.proof else if v.kind = 2 then hasB (startOf q) v.witness v.twin && breaks m q v.witness v.twin else false)
noncomputable def ProvesC (m : Model) (q : Query) (v : Verdict) : Option Bool := if m.dim < 1 then some false else Part (RM m) (provesM m q v)
theorem runs_Proves (m : Model) (q : Query) (v : Verdict) (r : Bool) (h : ProvesC m q v = some r) : Runs (tbl [(89, sp2 QRight), (45, sp1 fun q => some (startOf q)), (90, sp2 PSumsC), (91, sp3 ShownC), (92, sp3 fun b p t => some (hasB b p t)), (57, sp4 BreaksC)]) a40 [Arg.enc m, Arg.enc q, Arg.enc v] (Arg.enc r) := by
  unfold ProvesC at h
  refine ⟨rfl, fun g => run_def ?_⟩
  unfold a40
  by_cases hd : m.dim < 1
  case pos =>
    rw [if_pos hd] at h
    cases h
    have hQ : QRight m q = some false := by unfold QRight; rw [if_pos (by omega)]
    simp -implicitDefEqProofs [hQ]
  rw [if_neg hd] at h
  obtain ⟨hm, rfl⟩ := part_some h
  clear h
  have hQ : QRight m q = some (okQuery m q) := by unfold QRight; rw [if_neg (by have := hm.dim; omega)]; exact part_of hm _
  unfold provesM
  cases hq : okQuery m q
  case false =>
    rw [hq] at hQ
    simp -implicitDefEqProofs [hQ]
  rw [hq] at hQ
  have hst := okQuery_start hq
  obtain ⟨kind, pf, w, tw, sp⟩ := v
  simp only [Bool.true_and]
  by_cases k1 : kind = 1
  case neg =>
    rw [if_neg k1]
    by_cases k2 : kind = 2
    case neg => simp -implicitDefEqProofs [hQ, k1, k2]
    subst k2
    have hB : BreaksC m q w tw = some (breaks m q w tw) := part_of hm _
    cases hh : hasB (startOf q) w tw
    case false => simp -implicitDefEqProofs [hQ, hh]
    simp -implicitDefEqProofs [hQ, hh, hB]
  subst k1
  rw [if_pos rfl]
  unfold holdsV
  have hPS : PSumsC (startOf q) pf = some (if 0 < deepV pf then (match walkS [startOf q] pf with
    | some out => (out, true)
    | none => ([], false)) else ([], false)) := part_of hst.2.1 _
  by_cases hdp : 0 < deepV pf
  case neg =>
    rw [if_neg hdp] at hPS
    simp -implicitDefEqProofs [hQ, hPS, hdp, encL_nil, run_round]
  rw [if_pos hdp] at hPS
  have hok := walkS_ok [startOf q] pf
  have hlen := walkS_len [startOf q] pf
  have h6 : pf.length ≤ 65536 := by
    unfold deepV at hdp
    split at hdp
    · assumption
    · omega
  cases hwk : walkS [startOf q] pf with
  | none =>
    rw [hwk] at hPS
    simp -implicitDefEqProofs [hQ, hPS, hdp, allShown, encL_nil, run_round]
  | some L =>
    rw [hwk] at hPS
    have hLok := hok (by simpa using hst.2.1) L hwk
    have hLl := hlen L hwk
    have b1 : L.length ≤ maxN := by unfold maxN; omega
    have hSh : ∀ x ∈ L, ShownC m q x = some (shownB m q x) := fun x hx => part_of ⟨hm, hq, hLok x hx⟩ _
    simp -implicitDefEqProofs [hQ, hPS, hdp, allShown, b1]
    refine run_while (c := c40_24) (fun n s => ∃ (i : Nat) (g : Nat → Nat), i + n = L.length ∧ (∀ x ∈ L.take i, shownB m q x = true) ∧ s = ⟨[(3, .ptr 3 (g 3) 0), (4, .ptr 4 (g 4) 0), (9, .bool true), (29, .lst L.length (encL L)), (30, .int .i64 L.length), (31, .int .i64 i)],
      [(3, ⟨Row.enc m, false, 0⟩), (4, ⟨Row.enc q, false, 0⟩)], g⟩) L.length ⟨0, bump 7 (bump 5 (bump 4 (bump 3 g))), by omega, by simp, by simp⟩ ?_
    rintro n s ⟨i, g, hi, hal, rfl⟩
    by_cases h1 : i < L.length
    case pos =>
      have w1 : IntKind.i64.wrap ((i : Int) + 1) = (i : Int) + 1 := wrap64 (by omega) (by omega)
      have hrow := rd_box L i h1
      have hB := hSh L[i] (List.getElem_mem h1)
      have hmem : L[i] ∈ L := List.getElem_mem h1
      have htk : L.take (i + 1) = L.take i ++ [L[i]] := List.take_succ_eq_append_getElem h1
      generalize L[i] = x at *
      cases hx : shownB m q x
      case false =>
        have : L.all (shownB m q) = false := by
          rw [List.all_eq_false]
          exact ⟨x, hmem, by simp [hx]⟩
        rw [hx] at hB
        simp -implicitDefEqProofs [h1, hrow, hB, this]
      case true =>
        rw [hx] at hB
        simp -implicitDefEqProofs [h1, hrow, hB, w1]
        refine ⟨n - 1, by omega, i + 1, by omega, fun y hy => ?_, by omega⟩
        rw [htk, List.mem_append, List.mem_singleton] at hy
        rcases hy with hy | rfl
        · exact hal y hy
        · exact hx
    case neg =>
      have hil : i = L.length := by omega
      subst hil
      rw [List.take_length] at hal
      have : L.all (shownB m q) = true := List.all_eq_true.2 hal
      simp -implicitDefEqProofs [h1, this]
theorem c_Proves : Contract Try.prog 40 (sp3 ProvesC) :=
  contract_of_runs mixed (tbl_cons c_qRight (tbl_cons c_Start (tbl_cons c_pSums (tbl_cons c_shown (tbl_cons c_Has (tbl_cons c_Breaks tbl_nil)))))) Try.func40 m40 (sp3_runs runs_Proves)
def checkN (m : Model) (q : Query) : List Box → List Step → Bool
  | [], [] => true
  | _ :: _, [] => false
  | [], _ :: _ => false
  | b :: bs, s :: l => if 200 ≤ bs.length then false else if s.sum then (if s.place = 0 ∧ s.cut = 0 then (if closedM m q b then checkN m q bs l else false) else false) else
    if 0 ≤ s.place ∧ s.place ≤ 4 then (if (b.get s.place).lo ≤ s.cut ∧ s.cut < (b.get s.place).hi then checkN m q ((cutB b s.place s.cut).1 :: (cutB b s.place s.cut).2 :: bs) l else false) else false
def checkM (m : Model) (q : Query) (l : List Step) : Bool := okQuery m q && decide (l.length ≤ 65536) && checkN m q [startOf q] l
noncomputable def RCheckC (m : Model) (q : Query) (l : List Step) : Option Bool := Part (RM m) (checkM m q l)
end Go.Co
/- CO: the document's check, and that it says what the checker says. -/
set_option maxHeartbeats 16000000
set_option maxRecDepth 100000
namespace Go.Co
open Go.Am Go.Proofs
set_option linter.unusedSimpArgs false
set_option linter.unusedVariables false
attribute [-simp] Go.Am.eff_gcall
theorem checkN_deep {m : Model} {q : Query} {b : Box} {bs : List Box} {l : List Step} (h : checkN m q (b :: bs) l = true) : bs.length < 200 := by
  cases l with
  | nil => unfold checkN at h; cases h
  | cons s l =>
    unfold checkN at h
    split at h
    · cases h
    · omega
theorem check_walk {m : Model} (hm : RM m) {q : Query} (hq : okQuery m q = true) : ∀ (l : List Step) (bs : List Box) (most : Nat), bs.length ≤ most → 1 ≤ most → ((0 < deepN bs.length most l ∧ allShown m q (walkS bs l) = true) ↔ (most ≤ 200 ∧ checkN m q bs l = true))
  | [], bs, most, h1, h2 => by
    cases bs with
    | nil =>
      rw [List.length_nil, deepN, walkS, checkN]
      by_cases h : most ≤ 200
      · rw [if_pos ⟨rfl, h⟩]
        simp [allShown, h]
        omega
      · rw [if_neg (fun x => h x.2)]
        simp [h]
    | cons b bs =>
      rw [deepN, walkS, checkN, if_neg (by simp)]
      simp
  | s :: l, [], most, h1, h2 => by
    rw [List.length_nil, deepN, checkN, if_pos rfl]
    simp
  | s :: l, b :: bs, most, h1, h2 => by
    rw [deepN, if_neg (by simp), walkS, checkN]
    rw [List.length_cons] at h1 ⊢
    have hsb := closed_shownB hm hq b
    unfold rightS
    obtain ⟨sm, k, c⟩ := s
    simp only
    cases sm
    case true =>
      simp only [if_true]
      by_cases hz : k = 0 ∧ c = 0
      case neg =>
        rw [if_neg hz, if_neg (by simpa using fun e e' => hz ⟨e, e'⟩)]
        simp
      rw [if_pos hz, if_pos (by simp [hz.1, hz.2]), Nat.add_sub_cancel]
      have ih := check_walk hm hq l bs most (by omega) h2
      have e : allShown m q ((walkS bs l).map (b :: ·)) = (shownB m q b && allShown m q (walkS bs l)) := by
        cases walkS bs l <;> simp [allShown]
      rw [e, Bool.and_eq_true, ← hsb]
      cases hc : closedM m q b
      · simp
      · simp only [if_true, true_and]
        rw [ih]
        by_cases h200 : 200 ≤ bs.length
        · rw [if_pos h200]
          simp
          omega
        · rw [if_neg h200]
    case false =>
      simp only [if_false, Bool.false_eq_true]
      by_cases hk : 0 ≤ k ∧ k ≤ 4
      case neg =>
        rw [if_neg hk, if_neg (by simpa using fun e => (by omega : 4 < k))]
        simp
      rw [if_pos hk, if_pos (by simp [hk.1, hk.2])]
      by_cases hin : (b.get k).lo ≤ c ∧ c < (b.get k).hi
      case neg =>
        rw [if_neg hin, if_neg hin]
        simp [allShown]
      rw [if_pos hin, if_pos hin]
      have ih := check_walk hm hq l ((cutB b k c).1 :: (cutB b k c).2 :: bs) (if most < bs.length + 1 + 1 then bs.length + 1 + 1 else most) (by simp only [List.length_cons]; split <;> omega) (by split <;> omega)
      rw [List.length_cons, List.length_cons] at ih
      rw [ih]
      constructor
      · rintro ⟨g1, g2⟩
        split at g1
        · exact ⟨by omega, by rw [if_neg (by omega)]; exact g2⟩
        · exact ⟨by omega, by rw [if_neg (by omega)]; exact g2⟩
      · rintro ⟨g1, g2⟩
        split at g2
        · cases g2
        · have := checkN_deep g2
          rw [List.length_cons] at this
          exact ⟨by split <;> omega, g2⟩
theorem holds_check {m : Model} (hm : RM m) {q : Query} (l : List Step) : (okQuery m q && holdsV m q l) = checkM m q l := by
  unfold checkM
  cases hq : okQuery m q
  · simp
  have h := check_walk hm hq l [startOf q] 1 (by simp) (by omega)
  rw [List.length_singleton] at h
  simp only [Bool.true_and]
  unfold holdsV deepV
  by_cases h6 : l.length ≤ 65536
  · rw [if_pos h6]
    rw [Bool.eq_iff_iff, Bool.and_eq_true, Bool.and_eq_true, decide_eq_true_eq, decide_eq_true_eq]
    constructor
    · rintro ⟨g1, g2⟩
      exact ⟨h6, (h.1 ⟨by omega, g2⟩).2⟩
    · rintro ⟨_, g2⟩
      have := h.2 ⟨by omega, g2⟩
      exact ⟨by omega, this.2⟩
  · rw [if_neg h6]
    simp [h6]
theorem runs_rCheck (m : Model) (q : Query) (l : List Step) (r : Bool) (h : RCheckC m q l = some r) : Runs (tbl [(79, sp2 RQRight), (33, sp1 fun q => some (startOf q)), (80, sp3 ClosedC), (83, sp3 RcutC)]) a35 [Arg.enc m, Arg.enc q, Arg.enc l] (Arg.enc r) := by
  obtain ⟨hm, rfl⟩ := part_some h
  clear h
  refine ⟨rfl, fun g => run_def ?_⟩
  unfold a35 checkM
  have hM : RQRight m q = some (okQuery m q) := part_of hm _
  cases hq : okQuery m q
  case false =>
    rw [hq] at hM
    simp -implicitDefEqProofs [hM]
  rw [hq] at hM
  have hst := okQuery_start hq
  by_cases b1 : l.length ≤ maxN
  case neg => simp -implicitDefEqProofs [hM, b1]
  by_cases h6 : l.length ≤ 65536
  case neg =>
    have h6' : (65536 : Int) < l.length := by omega
    simp -implicitDefEqProofs [hM, b1, h6, h6']
  have h6' : ¬ (65536 : Int) < l.length := by omega
  generalize hres : checkN m q [startOf q] l = res at *
  simp -implicitDefEqProofs [hM, b1, h6, h6']
  refine run_while (c := c35_45) (fun n s => ∃ (i : Nat) (R : List Box) (G : List AV) (g : Nat → Nat), i + n = l.length ∧ R.length ≤ i + 1 ∧ (∀ x ∈ R, okB x) ∧ checkN m q R.reverse (l.drop i) = res ∧
    s = ⟨[(3, .ptr 3 (g 3) 0), (4, .ptr 4 (g 4) 0), (7, .own 7 (g 7) 0 R.length), (25, .lst l.length (encL l)), (26, .int .i64 l.length), (27, .int .i64 i)], [(3, ⟨Row.enc m, false, 0⟩), (4, ⟨Row.enc q, false, 0⟩), (7, ⟨encL R ++ G, false, 10⟩)], g⟩) l.length ⟨0, [startOf q], [], bump 7 (bump 4 (bump 3 g)), by omega, by simp, by simpa using hst.2.1, by simpa using hres, by simp [encL_cons, encL_nil]⟩ ?_
  rintro n s ⟨i, R, G, g, hi, hRl, hRok, hW, rfl⟩
  have c00 : R.length ≤ maxN := by unfold maxN; omega
  by_cases h1 : i < l.length
  case pos =>
    have w1 : IntKind.i64.wrap ((i : Int) + 1) = (i : Int) + 1 := wrap64 (by omega) (by omega)
    have hrow := rd_step l i h1
    rw [List.drop_eq_getElem_cons h1] at hW
    generalize l[i] = s at *
    rcases List.eq_nil_or_concat R with rfl | ⟨R, x, rfl⟩
    · have hres' : res = false := by rw [← hW]; rfl
      subst hres'
      simp -implicitDefEqProofs [h1, hrow, c00]
    rw [List.concat_eq_append] at *
    rw [List.reverse_append, List.reverse_singleton, List.singleton_append, checkN, List.length_reverse] at hW
    have e2 : (R ++ [x]).length = R.length + 1 := by simp
    rw [e2] at hRl c00
    have hxok : okB x := hRok x (by simp)
    have hRok' : ∀ z ∈ R, okB z := fun z hz => hRok z (by simp [hz])
    have wL : IntKind.i64.wrap ((R.length : Nat) : Int) = R.length := wrap64 (by omega) (by omega)
    have c9 : (R.length : Int) < (R.length : Int) + 1 := by omega
    have c10 : (R.length : Int) ≤ (R.length : Int) + 1 := by omega
    have c11 : R.length ≤ 1099511627774 := by omega
    have htop : rd (encL R ++ (Row.enc x ++ G)) (R.length * 10) 10 true = some (.agg (Row.enc x)) := by
      have := rd_top R x G
      rw [encL_append, List.append_assoc] at this
      simpa [encL_cons, encL_nil] using this
    have e1 : encL (R ++ [x]) ++ G = encL R ++ (Row.enc x ++ G) := by simp [encL_append, encL_cons, encL_nil]
    rw [e1, e2]
    have htk := take_boxG R (Row.enc x ++ G)
    have hlen := len_boxG R (Row.enc x ++ G)
    generalize (Row.enc x ++ G) = G2 at *
    have hlen2 : R.length * 10 ≤ (encL R).length + G2.length := by simpa using hlen
    have htop : rd (encL R ++ G2) (R.length * 10) 10 true = some (.agg [.int .i64 x.s0.lo, .int .i64 x.s0.hi, .int .i64 x.s1.lo, .int .i64 x.s1.hi, .int .i64 x.s2.lo, .int .i64 x.s2.hi, .int .i64 x.s3.lo, .int .i64 x.s3.hi, .int .i64 x.s4.lo, .int .i64 x.s4.hi]) := htop
    have n0 : ¬ (R.length : Int) + 1 = 0 := by omega
    by_cases h200 : 200 ≤ R.length
    case pos =>
      rw [if_pos h200] at hW
      subst hW
      have h2' : (200 : Int) < (R.length : Int) + 1 := by omega
      simp -implicitDefEqProofs [h1, hrow, c00, n0, h2']
    rw [if_neg h200] at hW
    have h2' : ¬ (200 : Int) < (R.length : Int) + 1 := by omega
    obtain ⟨sm, k, at_⟩ := s
    simp only at hW
    cases sm
    case true =>
      rw [if_pos rfl] at hW
      have hCl : ClosedC m q x = some (closedM m q x) := part_of ⟨hm, hxok⟩ _
      by_cases z0 : k = 0
      case neg =>
        rw [if_neg (fun h => z0 h.1)] at hW
        subst hW
        simp -implicitDefEqProofs [h1, hrow, c00, n0, h2', c9, c10, wL, htop, hlen2, z0]
      by_cases z1 : at_ = 0
      case neg =>
        rw [if_neg (fun h => z1 h.2)] at hW
        subst hW
        simp -implicitDefEqProofs [h1, hrow, c00, n0, h2', c9, c10, wL, htop, hlen2, z0, z1]
      rw [if_pos ⟨z0, z1⟩] at hW
      cases hcl : closedM m q x
      case false =>
        rw [hcl] at hCl hW
        rw [if_neg (by simp)] at hW
        subst hW
        simp -implicitDefEqProofs [h1, hrow, c00, n0, h2', c9, c10, wL, htop, hlen2, z0, z1, hCl]
      case true =>
        rw [hcl] at hCl hW
        rw [if_pos rfl] at hW
        simp -implicitDefEqProofs [h1, hrow, c00, n0, h2', c9, c10, wL, w1, htop, hlen2, z0, z1, hCl]
        exact ⟨n - 1, by omega, i + 1, by omega, R, by omega, hRok', hW, ⟨rfl, by omega⟩, ⟨G2, rfl⟩⟩
    case false =>
      rw [if_neg (by simp)] at hW
      by_cases k0 : 0 ≤ k
      case neg =>
        have k0' : k < 0 := by omega
        rw [if_neg (fun h => k0 h.1)] at hW
        subst hW
        simp -implicitDefEqProofs [h1, hrow, c00, n0, h2', c9, c10, wL, htop, hlen2, k0']
      by_cases k4 : k ≤ 4
      case neg =>
        have k0' : ¬ k < 0 := by omega
        have k4' : 4 < k := by omega
        rw [if_neg (fun h => k4 h.2)] at hW
        subst hW
        simp -implicitDefEqProofs [h1, hrow, c00, n0, h2', c9, c10, wL, htop, hlen2, k0', k4']
      rw [if_pos ⟨k0, k4⟩] at hW
      have hk5 : k = 0 ∨ k = 1 ∨ k = 2 ∨ k = 3 ∨ k = 4 := by omega
      by_cases hin : (x.get k).lo ≤ at_ ∧ at_ < (x.get k).hi
      case neg =>
        rw [if_neg hin] at hW
        subst hW
        by_cases hlt : at_ < (x.get k).lo
        · rcases hk5 with rfl | rfl | rfl | rfl | rfl <;> simp only [Box.get, reduceIte, Int.reduceEq] at hlt <;> simp -implicitDefEqProofs [h1, hrow, c00, n0, h2', c9, c10, wL, htop, hlen2, hlt]
        · have hge : (x.get k).hi ≤ at_ := by omega
          rcases hk5 with rfl | rfl | rfl | rfl | rfl <;> simp only [Box.get, reduceIte, Int.reduceEq] at hlt hge <;> simp -implicitDefEqProofs [h1, hrow, c00, n0, h2', c9, c10, wL, htop, hlen2, hlt, hge]
      case pos =>
        rw [if_pos hin] at hW
        obtain ⟨l1, l2⟩ := hin
        have hg64 := okB_get hxok k
        have hat : ok64 at_ := by unfold okS64 ok64 at hg64; unfold ok64; omega
        have hCu : RcutC x k at_ = some (cutB x k at_) := part_of ⟨hxok, k0, by omega, l1, l2⟩ _
        have hok2 := okB_cut hxok k hat
        generalize cutB x k at_ = yz at *
        obtain ⟨y, z⟩ := yz
        simp only at hW hok2
        have hlt : ¬ at_ < (x.get k).lo := by omega
        have hge : ¬ (x.get k).hi ≤ at_ := by omega
        have hok3 : ∀ b' ∈ R ++ [z, y], okB b' := fun b' hb' => by
          rcases List.mem_append.1 hb' with hb' | hb'
          · exact hRok' b' hb'
          · simp at hb'
            rcases hb' with rfl | rfl
            · exact hok2.2
            · exact hok2.1
        have hrow2 : encL (R ++ [z, y]) ++ [] = encL R ++ (Row.enc z ++ Row.enc y) := by simp [encL_append, encL_cons, encL_nil]
        have hW3 : checkN m q (R ++ [z, y]).reverse (l.drop (i + 1)) = res := by simpa using hW
        rcases hk5 with rfl | rfl | rfl | rfl | rfl <;> simp only [Box.get, reduceIte, Int.reduceEq] at hlt hge <;> simp -implicitDefEqProofs [h1, hrow, c00, n0, h2', c9, c10, c11, wL, w1, htop, hlen2, hlt, hge, hCu, htk]
        all_goals exact ⟨n - 1, by omega, i + 1, by omega, R ++ [z, y], by simp; omega, hok3, hW3, ⟨by simp, by omega⟩, ⟨[], hrow2.symm⟩⟩
  case neg =>
    have hil : i = l.length := by omega
    subst hil
    rw [List.drop_length] at hW
    by_cases h0 : R = []
    · subst h0
      have : res = true := by rw [← hW]; rfl
      subst this
      simp -implicitDefEqProofs [h1, c00]
    · have : res = false := by
        rw [← hW]
        cases hr : R.reverse with
        | nil => rw [List.reverse_eq_nil_iff] at hr; exact absurd hr h0
        | cons a b => rfl
      subst this
      have hl : ¬ R.length = 0 := fun h => h0 (List.length_eq_zero_iff.1 h)
      have hl' : ¬ (R.length : Int) = 0 := by omega
      simp -implicitDefEqProofs [h1, c00, h0, hl, hl']
theorem c_rCheck : Contract Try.prog 35 (sp3 RCheckC) :=
  contract_of_runs mixed (tbl_cons c_rRight' (tbl_cons c_rStart (tbl_cons c_rClosed (tbl_cons c_rcut tbl_nil)))) Try.func35 m35 (sp3_runs runs_rCheck)
end Go.Co
/- CO: what proofs and searches say of points. -/
namespace Go.Co
open Go.Am Go.Proofs
set_option linter.unusedSimpArgs false
set_option linter.unusedVariables false
theorem cut_some {b : Box} (hb : b.empty = false) {k : Int} (h0 : 0 ≤ k) (h5 : k < 5) {n : Int} (h1 : (b.get k).lo ≤ n) (h2 : n < (b.get k).hi) : (cutB b k n).1.empty = false ∧ (cutB b k n).2.empty = false := by
  rw [cutB_halves h0 h5 h1 h2, set_empty hb _ _ h0 h5, set_empty hb _ _ h0 h5]
  unfold Span.empty
  simp only [decide_eq_false_iff_not]
  omega
theorem searchN_cons (m : Model) (q : Query) (n : Nat) (sp : Int) (b : Box) (bs : List Box) (pf : List Step) : searchN m q (n + 1) sp (b :: bs) pf = if closedM m q b then searchN m q n (sp + 1) bs (pf ++ [sumS]) else
    if corner m q b then ⟨2, [], lowB b, b.s4.hi, sp + 1⟩ else
    if (splitM m q b).c then searchN m q n (sp + 1) ((cutB b (splitM m q b).a (splitM m q b).b).1 :: (cutB b (splitM m q b).a (splitM m q b).b).2 :: bs) (pf ++ [⟨false, (splitM m q b).a, (splitM m q b).b⟩]) else ⟨3, [], zeroP, 0, sp + 1⟩ := rfl
theorem searchN_nil (m : Model) (q : Query) (n : Nat) (sp : Int) (pf : List Step) : searchN m q n sp [] pf = ⟨1, pf, zeroP, 0, sp⟩ := by cases n <;> rfl
theorem searchM_eq {m : Model} {q : Query} (h : okQuery m q = true) : searchM m q = searchN m q q.budget.toNat 0 [startOf q] [] := by unfold searchM; rw [if_pos h]
end Go.Co
/- CO: queries whose region, budget or ends are others. -/
namespace Go.Co
open Go.Am Go.Proofs
set_option linter.unusedSimpArgs false
set_option linter.unusedVariables false
def withBudget (q : Query) (n : Int) : Query := { q with budget := n }
theorem okQuery_budget {m : Model} {q : Query} (h : okQuery m q = true) {n : Int} (h0 : 0 ≤ n) (h1 : n ≤ 65536) : okQuery m (withBudget q n) = true := by
  have hs := okQuery_spec h
  unfold okQuery withBudget
  have h5 := hs.2.2.2.2.1
  have h6 : okKind m q = true := hs.2.2.2.2.2
  have h6' : okKind m { q with budget := n } = true := h6
  rw [h6']
  simp only [h5, Bool.and_true, Bool.and_eq_true, decide_eq_true_eq]
  exact ⟨⟨⟨hs.1, hs.2.1⟩, h0⟩, h1⟩
end Go.Co
/- CO: how deep proofs go; a search's proof is one; boxes that numbers cut. -/
set_option maxHeartbeats 16000000
set_option maxRecDepth 100000
namespace Go.Co
open Go.Am Go.Proofs
set_option linter.unusedSimpArgs false
set_option linter.unusedVariables false
attribute [-simp] Go.Am.eff_gcall
def wS (s : Span) : Nat := (s.hi - s.lo).toNat
def wide (b : Box) : Nat := wS b.s0 + wS b.s1 + wS b.s2 + wS b.s3 + wS b.s4
theorem wide_set (b : Box) {k : Int} (h0 : 0 ≤ k) (h5 : k < 5) (s : Span) : wide (b.set k s) + wS (b.get k) = wide b + wS s := by
  have hc : k = 0 ∨ k = 1 ∨ k = 2 ∨ k = 3 ∨ k = 4 := by omega
  rcases hc with rfl | rfl | rfl | rfl | rfl <;> simp only [Box.set, Box.get, reduceIte, Int.reduceEq, wide] <;> omega
theorem wide_cut {b : Box} {k n : Int} (h0 : 0 ≤ k) (h5 : k < 5) (h1 : (b.get k).lo ≤ n) (h2 : n < (b.get k).hi) : wide (cutB b k n).1 + 1 ≤ wide b ∧ wide (cutB b k n).2 + 1 ≤ wide b := by
  rw [cutB_halves h0 h5 h1 h2]
  have e1 := wide_set b h0 h5 ⟨(b.get k).lo, n⟩
  have e2 := wide_set b h0 h5 ⟨n + 1, (b.get k).hi⟩
  unfold wS at e1 e2
  simp only at e1 e2 ⊢
  omega
def WI (W : Nat) : List Box → Prop
  | [] => True
  | x :: R => R.length + wide x ≤ W ∧ WI W R
theorem WI.cut {W : Nat} {x : Box} {R : List Box} (h : WI W (x :: R)) {k n : Int} (h0 : 0 ≤ k) (h5 : k < 5) (h1 : (x.get k).lo ≤ n) (h2 : n < (x.get k).hi) : WI W ((cutB x k n).1 :: (cutB x k n).2 :: R) := by
  obtain ⟨g1, g2⟩ := h
  have hw := wide_cut h0 h5 h1 h2
  exact ⟨by rw [List.length_cons]; omega, by omega, g2⟩
def c32_0 : ACode := .ops [⟨some 2, .box (.t 0) 2, none, []⟩,⟨some 3, .box (.t 1) 10, none, []⟩,⟨some 4, .mv (.c (.nils)), none, []⟩,⟨some 5, .mv (.c (.nils)), none, []⟩] [2, 3]
theorem r32_0 : type_of% (@rr _ _ c32_0.eq_1) := rr rfl
def c32_1 : ACode := .ops [⟨some 6, .nil0 6 10, none, []⟩] [2, 3, 6]
theorem r32_1 : type_of% (@rr _ _ c32_1.eq_1) := rr rfl
def c32_2 : ACode := .ops [⟨some 7, .nil0 7 3, none, []⟩] [2, 3, 6, 7]
theorem r32_2 : type_of% (@rr _ _ c32_2.eq_1) := rr rfl
def c32_3 : ACode := .ops [⟨some 14, .load 10 true (.t 3), none, [3]⟩,⟨some 15, .mkrow 8 1 10 [.int .i64 0, .int .i64 0, .int .i64 0, .int .i64 0, .int .i64 0, .int .i64 0, .int .i64 0, .int .i64 0, .int .i64 0, .int .i64 0] [(0, 10, .t 14)], none, []⟩,⟨some 8, .mv (.t 15), none, []⟩] [2, 6, 7, 8]
theorem r32_3 : type_of% (@rr _ _ c32_3.eq_1) := rr rfl
def c32_4 : ACode := .ops [⟨some 9, .mv (.c (.int .i64 0)), none, []⟩] [2, 6, 7, 8, 9]
theorem r32_4 : type_of% (@rr _ _ c32_4.eq_1) := rr rfl
def c32_5 : ACode := .ops [⟨some 16, .mv (.t 8), none, []⟩,⟨some 17, .len (.t 16), none, [8]⟩,⟨some 18, .bin .gtr (.t 17) (.c (.int .i64 0)), none, []⟩] [2, 6, 7, 8, 9, 18]
theorem r32_5 : type_of% (@rr _ _ c32_5.eq_1) := rr rfl
def c32_6 : ACode := .cond (.t 18) .skip (.exit 0)
theorem r32_6 : type_of% (@rr _ _ c32_6.eq_1) := rr rfl
def c32_7 : ACode := .seq c32_5 c32_6
theorem r32_7 : type_of% (@rr _ _ c32_7.eq_1) := rr rfl
def c32_8 : ACode := .ops [⟨some 19, .mv (.t 8), none, []⟩,⟨some 20, .mv (.t 8), none, []⟩,⟨some 21, .len (.t 20), none, [8]⟩,⟨some 22, .bin .sub (.t 21) (.c (.int .i64 1)), none, []⟩,⟨some 23, .ias (.t 19) (.t 22) 10, none, [8]⟩,⟨some 24, .load 10 true (.t 23), none, [8]⟩,⟨some 10, .alloc [.int .i64 0, .int .i64 0, .int .i64 0, .int .i64 0, .int .i64 0, .int .i64 0, .int .i64 0, .int .i64 0, .int .i64 0, .int .i64 0], none, []⟩,⟨none, .store (.t 10) 10 (.t 24), none, [10]⟩] [2, 6, 7, 8, 9, 10]
theorem r32_8 : type_of% (@rr _ _ c32_8.eq_1) := rr rfl
def c32_9 : ACode := .ops [⟨some 25, .mv (.t 8), none, []⟩,⟨some 26, .mv (.t 8), none, []⟩,⟨some 27, .len (.t 26), none, [8]⟩,⟨some 28, .bin .sub (.t 27) (.c (.int .i64 1)), none, []⟩,⟨some 29, .sl (.t 25) none (some (.t 28)) 10, none, [8]⟩,⟨some 8, .mv (.t 29), none, []⟩] [2, 6, 7, 8, 9, 10]
theorem r32_9 : type_of% (@rr _ _ c32_9.eq_1) := rr rfl
def c32_10 : ACode := .ops [⟨some 30, .fad (.t 2) 0, none, [2]⟩,⟨some 31, .load 1 false (.t 30), none, [2]⟩,⟨some 32, .mv (.t 7), none, []⟩,⟨some 33, .len (.t 32), none, [7]⟩,⟨some 34, .call 65 [.t 31, .t 33], none, []⟩,⟨some 35, .call 24 [.t 34, .c (.int .i64 0), .c (.int .i64 5)], none, []⟩,⟨some 11, .mv (.t 35), none, []⟩] [2, 6, 7, 8, 9, 10, 11]
theorem r32_10 : type_of% (@rr _ _ c32_10.eq_1) := rr rfl
def c32_11 : ACode := .ops [⟨some 36, .mv (.t 11), none, []⟩,⟨some 37, .bin .eql (.t 36) (.c (.int .i64 5)), none, []⟩,⟨some 38, .mv (.t 37), none, []⟩,⟨some 39, .mv (.t 9), some (38, false), []⟩,⟨some 40, .bin .geq (.t 39) (.c (.int .i64 20)), some (38, false), []⟩,⟨some 41, .pick (.t 38) (.c (.bool true)) (.t 40), none, []⟩,⟨some 42, .mv (.t 41), none, []⟩,⟨some 43, .fad (.t 2) 0, some (42, false), [2]⟩,⟨some 44, .load 1 false (.t 43), some (42, false), [2]⟩,⟨some 45, .len (.t 44), some (42, false), []⟩,⟨some 46, .bin .eql (.t 45) (.c (.int .i64 0)), some (42, false), []⟩,⟨some 47, .pick (.t 42) (.c (.bool true)) (.t 46), none, []⟩,⟨some 48, .mv (.t 47), none, []⟩,⟨some 49, .mv (.t 11), some (48, false), []⟩,⟨some 50, .iad (.t 10) (.t 49) 2 5, some (48, false), [10]⟩,⟨some 51, .fad (.t 50) 0, some (48, false), [10]⟩,⟨some 52, .load 1 false (.t 51), some (48, false), [10]⟩,⟨some 53, .mv (.t 11), some (48, false), []⟩,⟨some 54, .iad (.t 10) (.t 53) 2 5, some (48, false), [10]⟩,⟨some 55, .fad (.t 54) 1, some (48, false), [10]⟩,⟨some 56, .load 1 false (.t 55), some (48, false), [10]⟩,⟨some 57, .bin .geq (.t 52) (.t 56), some (48, false), []⟩,⟨some 58, .pick (.t 48) (.c (.bool true)) (.t 57), none, []⟩] [2, 6, 7, 8, 9, 10, 11, 58]
theorem r32_11 : type_of% (@rr _ _ c32_11.eq_1) := rr rfl
def c32_12 : ACode := .ops [⟨some 59, .mv (.t 6), none, []⟩,⟨some 60, .load 10 true (.t 10), none, [10]⟩,⟨some 61, .mkrow 61 1 10 [.int .i64 0, .int .i64 0, .int .i64 0, .int .i64 0, .int .i64 0, .int .i64 0, .int .i64 0, .int .i64 0, .int .i64 0, .int .i64 0] [(0, 10, .t 60)], none, []⟩,⟨some 62, .app 6 [6] (.t 59) (.t 61) 10, none, [6, 61]⟩,⟨some 6, .mv (.t 62), none, []⟩] [2, 6, 7, 8, 9]
theorem r32_12 : type_of% (@rr _ _ c32_12.eq_1) := rr rfl
def c32_13 : ACode := .ops [⟨some 63, .mv (.t 7), none, []⟩,⟨some 64, .build [.bool false, .int .i64 0, .int .i64 0] [(0, 1, .c (.bool true))], none, []⟩,⟨some 65, .mkrow 65 1 3 [.bool false, .int .i64 0, .int .i64 0] [(0, 3, .t 64)], none, []⟩,⟨some 66, .app 7 [7] (.t 63) (.t 65) 3, none, [7, 65]⟩,⟨some 7, .mv (.t 66), none, []⟩] [2, 6, 7, 8, 9]
theorem r32_13 : type_of% (@rr _ _ c32_13.eq_1) := rr rfl
def c32_14 : ACode := .seq c32_13 (.exit 1)
theorem r32_14 : type_of% (@rr _ _ c32_14.eq_1) := rr rfl
def c32_15 : ACode := .seq c32_12 c32_14
theorem r32_15 : type_of% (@rr _ _ c32_15.eq_1) := rr rfl
def c32_16 : ACode := .cond (.t 58) c32_15 .skip
theorem r32_16 : type_of% (@rr _ _ c32_16.eq_1) := rr rfl
def c32_17 : ACode := .seq c32_11 c32_16
theorem r32_17 : type_of% (@rr _ _ c32_17.eq_1) := rr rfl
def c32_18 : ACode := .ops [⟨some 67, .mv (.t 9), none, []⟩,⟨some 68, .bin .add (.t 67) (.c (.int .i64 1)), none, []⟩,⟨some 9, .mv (.t 68), none, []⟩] [2, 6, 7, 8, 9, 10, 11]
theorem r32_18 : type_of% (@rr _ _ c32_18.eq_1) := rr rfl
def c32_19 : ACode := .ops [⟨some 69, .fad (.t 2) 1, none, [2]⟩,⟨some 70, .load 1 false (.t 69), none, [2]⟩,⟨some 71, .mv (.t 7), none, []⟩,⟨some 72, .len (.t 71), none, [7]⟩,⟨some 73, .call 65 [.t 70, .t 72], none, []⟩,⟨some 74, .mv (.t 11), none, []⟩,⟨some 75, .iad (.t 10) (.t 74) 2 5, none, [10]⟩,⟨some 76, .fad (.t 75) 0, none, [10]⟩,⟨some 77, .load 1 false (.t 76), none, [10]⟩,⟨some 78, .mv (.t 11), none, []⟩,⟨some 79, .iad (.t 10) (.t 78) 2 5, none, [10]⟩,⟨some 80, .fad (.t 79) 1, none, [10]⟩,⟨some 81, .load 1 false (.t 80), none, [10]⟩,⟨some 82, .bin .sub (.t 81) (.c (.int .i64 1)), none, []⟩,⟨some 83, .call 24 [.t 73, .t 77, .t 82], none, []⟩,⟨some 12, .mv (.t 83), none, []⟩] [2, 6, 7, 8, 9, 10, 11, 12]
theorem r32_19 : type_of% (@rr _ _ c32_19.eq_1) := rr rfl
def c32_20 : ACode := .ops [⟨some 84, .mv (.t 7), none, []⟩,⟨some 85, .mv (.t 11), none, []⟩,⟨some 86, .mv (.t 12), none, []⟩,⟨some 87, .build [.bool false, .int .i64 0, .int .i64 0] [(1, 1, .t 85), (2, 1, .t 86)], none, []⟩,⟨some 88, .mkrow 88 1 3 [.bool false, .int .i64 0, .int .i64 0] [(0, 3, .t 87)], none, []⟩,⟨some 89, .app 7 [7] (.t 84) (.t 88) 3, none, [7, 88]⟩,⟨some 7, .mv (.t 89), none, []⟩] [2, 6, 7, 8, 9, 10, 11, 12]
theorem r32_20 : type_of% (@rr _ _ c32_20.eq_1) := rr rfl
def c32_21 : ACode := .ops [⟨some 90, .load 10 true (.t 10), none, [10]⟩,⟨some 13, .alloc [.int .i64 0, .int .i64 0, .int .i64 0, .int .i64 0, .int .i64 0, .int .i64 0, .int .i64 0, .int .i64 0, .int .i64 0, .int .i64 0], none, []⟩,⟨none, .store (.t 13) 10 (.t 90), none, [13]⟩] [2, 6, 7, 8, 9, 10, 11, 12, 13]
theorem r32_21 : type_of% (@rr _ _ c32_21.eq_1) := rr rfl
def c32_22 : ACode := .ops [⟨some 91, .mv (.t 11), none, []⟩,⟨some 92, .mv (.t 11), none, []⟩,⟨some 93, .mv (.t 12), none, []⟩,⟨some 94, .mv (.t 12), none, []⟩,⟨some 95, .bin .add (.t 94) (.c (.int .i64 1)), none, []⟩,⟨some 96, .iad (.t 10) (.t 91) 2 5, none, [10]⟩,⟨some 97, .fad (.t 96) 1, none, [10]⟩,⟨none, .store (.t 97) 1 (.t 93), none, [10]⟩,⟨some 98, .iad (.t 13) (.t 92) 2 5, none, [13]⟩,⟨some 99, .fad (.t 98) 0, none, [13]⟩,⟨none, .store (.t 99) 1 (.t 95), none, [13]⟩] [2, 6, 7, 8, 9, 10, 13]
theorem r32_22 : type_of% (@rr _ _ c32_22.eq_1) := rr rfl
def c32_23 : ACode := .ops [⟨some 100, .mv (.t 8), none, []⟩,⟨some 101, .load 10 true (.t 13), none, [13]⟩,⟨some 102, .load 10 true (.t 10), none, [10]⟩,⟨some 103, .mkrow 103 2 10 [.int .i64 0, .int .i64 0, .int .i64 0, .int .i64 0, .int .i64 0, .int .i64 0, .int .i64 0, .int .i64 0, .int .i64 0, .int .i64 0] [(0, 10, .t 101), (10, 10, .t 102)], none, []⟩,⟨some 104, .app 8 [8] (.t 100) (.t 103) 10, none, [8, 103]⟩,⟨some 8, .mv (.t 104), none, []⟩] [2, 6, 7, 8, 9]
theorem r32_23 : type_of% (@rr _ _ c32_23.eq_1) := rr rfl
def c32_24 : ACode := .seq c32_22 c32_23
theorem r32_24 : type_of% (@rr _ _ c32_24.eq_1) := rr rfl
def c32_25 : ACode := .seq c32_21 c32_24
theorem r32_25 : type_of% (@rr _ _ c32_25.eq_1) := rr rfl
def c32_26 : ACode := .seq c32_20 c32_25
theorem r32_26 : type_of% (@rr _ _ c32_26.eq_1) := rr rfl
def c32_27 : ACode := .seq c32_19 c32_26
theorem r32_27 : type_of% (@rr _ _ c32_27.eq_1) := rr rfl
def c32_28 : ACode := .seq c32_18 c32_27
theorem r32_28 : type_of% (@rr _ _ c32_28.eq_1) := rr rfl
def c32_29 : ACode := .seq c32_17 c32_28
theorem r32_29 : type_of% (@rr _ _ c32_29.eq_1) := rr rfl
def c32_30 : ACode := .seq c32_10 c32_29
theorem r32_30 : type_of% (@rr _ _ c32_30.eq_1) := rr rfl
def c32_31 : ACode := .seq c32_9 c32_30
theorem r32_31 : type_of% (@rr _ _ c32_31.eq_1) := rr rfl
def c32_32 : ACode := .seq c32_8 c32_31
theorem r32_32 : type_of% (@rr _ _ c32_32.eq_1) := rr rfl
def c32_33 : ACode := .block 1 c32_32
theorem r32_33 : type_of% (@rr _ _ c32_33.eq_1) := rr rfl
def c32_34 : ACode := .seq c32_7 c32_33
theorem r32_34 : type_of% (@rr _ _ c32_34.eq_1) := rr rfl
def c32_35 : ACode := .keep [2, 6, 7, 8, 9] [2, 6, 7, 8] c32_34
theorem r32_35 : type_of% (@rr _ _ c32_35.eq_1) := rr rfl
def c32_36 : ACode := .loop c32_35
theorem r32_36 : type_of% (@rr _ _ c32_36.eq_1) := rr rfl
def c32_37 : ACode := .block 0 c32_36
theorem r32_37 : type_of% (@rr _ _ c32_37.eq_1) := rr rfl
def c32_38 : ACode := .ops [⟨some 105, .mv (.t 6), none, []⟩,⟨some 106, .mv (.t 7), none, []⟩,⟨some 4, .mv (.t 105), none, []⟩,⟨some 5, .mv (.t 106), none, []⟩] [4, 5]
theorem r32_38 : type_of% (@rr _ _ c32_38.eq_1) := rr rfl
def c32_39 : ACode := .seq c32_38 .ret
theorem r32_39 : type_of% (@rr _ _ c32_39.eq_1) := rr rfl
def c32_40 : ACode := .seq c32_37 c32_39
theorem r32_40 : type_of% (@rr _ _ c32_40.eq_1) := rr rfl
def c32_41 : ACode := .seq c32_4 c32_40
theorem r32_41 : type_of% (@rr _ _ c32_41.eq_1) := rr rfl
def c32_42 : ACode := .seq c32_3 c32_41
theorem r32_42 : type_of% (@rr _ _ c32_42.eq_1) := rr rfl
def c32_43 : ACode := .seq c32_2 c32_42
theorem r32_43 : type_of% (@rr _ _ c32_43.eq_1) := rr rfl
def c32_44 : ACode := .seq c32_1 c32_43
theorem r32_44 : type_of% (@rr _ _ c32_44.eq_1) := rr rfl
def c32_45 : ACode := .seq c32_0 c32_44
theorem r32_45 : type_of% (@rr _ _ c32_45.eq_1) := rr rfl
def a32 : AFun := ⟨2, 107, c32_45, [.t 4, .t 5]⟩
attribute [simp] r32_0 r32_1 r32_2 r32_3 r32_4 r32_5 r32_6 r32_7 r32_8 r32_9 r32_10 r32_11 r32_12 r32_13 r32_14 r32_15 r32_16 r32_17 r32_18 r32_19 r32_20 r32_21 r32_22 r32_23 r32_24 r32_25 r32_26 r32_27 r32_28 r32_29 r32_30 r32_31 r32_32 r32_33 r32_34 r32_35 r32_36 r32_37 r32_38 r32_39 r32_40 r32_41 r32_42 r32_43 r32_44 r32_45
theorem m32 : mFun Try.prog Try.f32 a32 = true := by decide +kernel
def cutK' (c : Cutting) (n : Nat) : Int := within (pick c.place n) 0 5
def stopS (c : Cutting) (x : Box) (cuts n : Nat) : Prop := cutK' c n = 5 ∨ 20 ≤ cuts ∨ c.place.length = 0 ∨ (x.get (cutK' c n)).hi ≤ (x.get (cutK' c n)).lo
instance (c : Cutting) (x : Box) (cuts n : Nat) : Decidable (stopS c x cuts n) := by unfold stopS; exact inferInstance
def cutN' (c : Cutting) (x : Box) (n : Nat) : Int := within (pick c.cut n) (x.get (cutK' c n)).lo ((x.get (cutK' c n)).hi - 1)
def stepsN (c : Cutting) : Nat → List Box → Nat → List Box → List Step → List Box × List Step
  | 0, _, _, O, S => (O, S)
  | _ + 1, [], _, O, S => (O, S)
  | n + 1, x :: R, cuts, O, S => if stopS c x cuts S.length then stepsN c n R cuts (O ++ [x]) (S ++ [sumS]) else
    stepsN c n ((cutB x (cutK' c S.length) (cutN' c x S.length)).1 :: (cutB x (cutK' c S.length) (cutN' c x S.length)).2 :: R) (cuts + 1) O (S ++ [⟨false, cutK' c S.length, cutN' c x S.length⟩])
def stepsOf (c : Cutting) (b : Box) : List Box × List Step := stepsN c 41 [b] 0 [] []
theorem cutK_le (c : Cutting) (n : Nat) : 0 ≤ cutK' c n ∧ cutK' c n ≤ 5 := within_le _ 0 5 (by omega)
theorem cutN_in {c : Cutting} {x : Box} {cuts n : Nat} (h : ¬ stopS c x cuts n) : 0 ≤ cutK' c n ∧ cutK' c n < 5 ∧ (x.get (cutK' c n)).lo ≤ cutN' c x n ∧ cutN' c x n < (x.get (cutK' c n)).hi := by
  unfold stopS at h
  simp only [not_or] at h
  obtain ⟨h1, _, _, h4⟩ := h
  have hk := cutK_le c n
  have := within_le (pick c.cut n) (x.get (cutK' c n)).lo ((x.get (cutK' c n)).hi - 1) (by omega)
  unfold cutN'
  omega
theorem steps_len {c : Cutting} : ∀ (n : Nat) (R : List Box) (cuts : Nat) (O : List Box) (S : List Step), (stepsN c n R cuts O S).2.length ≤ S.length + n ∧ (stepsN c n R cuts O S).1.length ≤ O.length + n
  | 0, R, cuts, O, S => by simp [stepsN]
  | n + 1, [], cuts, O, S => by simp [stepsN]
  | n + 1, x :: R, cuts, O, S => by
    rw [stepsN]
    split
    · have := steps_len (c := c) n R cuts (O ++ [x]) (S ++ [sumS])
      simp only [List.length_append, List.length_cons, List.length_nil] at this
      omega
    · have := steps_len (c := c) n ((cutB x (cutK' c S.length) (cutN' c x S.length)).1 :: (cutB x (cutK' c S.length) (cutN' c x S.length)).2 :: R) (cuts + 1) O (S ++ [⟨false, cutK' c S.length, cutN' c x S.length⟩])
      simp only [List.length_append, List.length_cons, List.length_nil] at this
      omega
def okBox (b : Box) : Prop := smallB b ∧ b.empty = false
theorem okBox_cut {b : Box} (h : okBox b) {k n : Int} (h0 : 0 ≤ k) (h5 : k < 5) (h1 : (b.get k).lo ≤ n) (h2 : n < (b.get k).hi) : okBox (cutB b k n).1 ∧ okBox (cutB b k n).2 := by
  have hne := cut_some h.2 h0 h5 h1 h2
  have hs := get_small h.1 k
  unfold small at hs
  rw [cutB_halves h0 h5 h1 h2] at hne ⊢
  have key : ∀ s : Span, small s → smallB (b.set k s) := fun s hs => by
    obtain ⟨a0, a1, a2, a3, a4⟩ := h.1
    have hc : k = 0 ∨ k = 1 ∨ k = 2 ∨ k = 3 ∨ k = 4 := by omega
    rcases hc with rfl | rfl | rfl | rfl | rfl <;> simp only [Box.set, reduceIte, Int.reduceEq] <;> exact ⟨by assumption, by assumption, by assumption, by assumption, by assumption⟩
  exact ⟨⟨key _ (by unfold small; simp only; omega), hne.1⟩, ⟨key _ (by unfold small; simp only; omega), hne.2⟩⟩
noncomputable def StepsC (c : Cutting) (b : Box) : Option (List Box × List Step) := Part (okBox b) (stepsOf c b)
theorem pick_lst (l : List Int) (n : Nat) : Pick l (n : Int) = some (pick l n) := pick_of l n
theorem runs_Steps (c : Cutting) (b : Box) (r : List Box × List Step) (h : StepsC c b = some r) : Runs (tbl [(65, sp2 Pick), (24, sp3 Within)]) a32 [Arg.enc c, Arg.enc b] (Arg.enc r) := by
  obtain ⟨hb, rfl⟩ := part_some h
  clear h
  refine ⟨rfl, fun g => run_def ?_⟩
  unfold a32
  have hres : stepsN c 41 [b] 0 [] [] = stepsOf c b := rfl
  generalize stepsOf c b = res at *
  simp -implicitDefEqProofs []
  refine run_while (c := c32_34) (fun n s => ∃ (cuts : Nat) (R O : List Box) (S : List Step) (G : List AV) (g : Nat → Nat), n = 2 * (20 - cuts) + R.length ∧ n ≤ 41 ∧ cuts ≤ 20 ∧ S.length + n ≤ 41 ∧ O.length + n ≤ 41 ∧ (∀ x ∈ R, okBox x) ∧ stepsN c n R.reverse cuts O S = res ∧
    s = ⟨[(2, .ptr 2 (g 2) 0), (6, .own 6 (g 6) 0 O.length), (7, .own 7 (g 7) 0 S.length), (8, .own 8 (g 8) 0 R.length), (9, .int .i64 cuts)], [(2, ⟨Row.enc c, false, 0⟩), (6, ⟨encL O, false, 10⟩), (7, ⟨encL S, false, 3⟩), (8, ⟨encL R ++ G, false, 10⟩)], g⟩) 41 ⟨0, [b], [], [], [], bump 8 (bump 7 (bump 6 (bump 3 (bump 2 g)))), by simp, by omega, by omega, by simp, by simp, by simpa using hb, hres, by simp [encL_cons, encL_nil]⟩ ?_
  rintro n s ⟨cuts, R, O, S, G, g, hn, hn41, hcu, hSl, hOl, hRok, hW, rfl⟩
  have hOk := takeB O
  have hOl2 := lenB O
  have hSk := take_stepsE S
  have hSl2 := len_steps S
  rcases List.eq_nil_or_concat R with rfl | ⟨R, x, rfl⟩
  · have hr : res = (O, S) := by rw [← hW]; cases n <;> rfl
    subst hr
    simp -implicitDefEqProofs [hOk, hOl2, hSk, hSl2]
  rw [List.concat_eq_append] at *
  rw [List.reverse_append, List.reverse_singleton, List.singleton_append] at hW
  have e2 : (R ++ [x]).length = R.length + 1 := by simp
  rw [e2] at hn
  obtain ⟨n, rfl⟩ : ∃ n', n = n' + 1 := ⟨n - 1, by omega⟩
  rw [stepsN] at hW
  have hxok : okBox x := hRok x (by simp)
  have hRok' : ∀ z ∈ R, okBox z := fun z hz => hRok z (by simp [hz])
  have wL : IntKind.i64.wrap ((R.length : Nat) : Int) = R.length := wrap64 (by omega) (by omega)
  have c0 : R.length + 1 ≤ maxN := by unfold maxN; omega
  have c00 : S.length ≤ maxN := by unfold maxN; omega
  have c9 : (R.length : Int) < (R.length : Int) + 1 := by omega
  have c10 : (R.length : Int) ≤ (R.length : Int) + 1 := by omega
  have c11 : R.length ≤ 1099511627774 := by omega
  have c12 : O.length ≤ 1099511627775 := by omega
  have c13 : S.length ≤ 1099511627775 := by omega
  have htop : rd (encL R ++ (Row.enc x ++ G)) (R.length * 10) 10 true = some (.agg (Row.enc x)) := by
    have := rd_top R x G
    rw [encL_append, List.append_assoc] at this
    simpa [encL_cons, encL_nil] using this
  have e1 : encL (R ++ [x]) ++ G = encL R ++ (Row.enc x ++ G) := by simp [encL_append, encL_cons, encL_nil]
  rw [e1, e2]
  have htk := take_boxG R (Row.enc x ++ G)
  have hlen := len_boxG R (Row.enc x ++ G)
  generalize (Row.enc x ++ G) = G2 at *
  have hlen2 : R.length * 10 ≤ (encL R).length + G2.length := by simpa using hlen
  have htop : rd (encL R ++ G2) (R.length * 10) 10 true = some (.agg [.int .i64 x.s0.lo, .int .i64 x.s0.hi, .int .i64 x.s1.lo, .int .i64 x.s1.hi, .int .i64 x.s2.lo, .int .i64 x.s2.hi, .int .i64 x.s3.lo, .int .i64 x.s3.hi, .int .i64 x.s4.lo, .int .i64 x.s4.hi]) := htop
  have hpk := pick_lst c.place S.length
  have hpa := pick_lst c.cut S.length
  have hWk := within_of (pick c.place S.length) 0 5 (by omega)
  have hk05 := cutK_le c S.length
  have hkd : within (pick c.place S.length) 0 5 = cutK' c S.length := rfl
  rw [hkd] at hWk
  have hin := cutN_in (c := c) (x := x) (cuts := cuts) (n := S.length)
  have hnd : cutN' c x S.length = within (pick c.cut S.length) (x.get (cutK' c S.length)).lo ((x.get (cutK' c S.length)).hi - 1) := rfl
  have hst : stopS c x cuts S.length ↔ (cutK' c S.length = 5 ∨ 20 ≤ cuts ∨ c.place.length = 0 ∨ (x.get (cutK' c S.length)).hi ≤ (x.get (cutK' c S.length)).lo) := Iff.rfl
  have hgs := get_small hxok.1 (cutK' c S.length)
  unfold small at hgs
  have hsn := encL_snocB O x
  have hss : encL (S ++ [sumS]) = encL S ++ [.bool true, .int .i64 0, .int .i64 0] := by rw [encL_append]; rfl
  generalize hK : cutK' c S.length = k at *
  by_cases hs : stopS c x cuts S.length
  case pos =>
    rw [if_pos hs] at hW
    rw [hst] at hs
    by_cases q5 : k = 5
    · simp -implicitDefEqProofs [c0, c00, c9, c10, c12, c13, wL, htop, hlen2, hOk, hOl2, hSk, hSl2, hpk, hWk, q5]
      exact ⟨n, by omega, cuts, R, by omega, by omega, hcu, O ++ [x], S ++ [sumS], by simp; omega, by simp; omega, hRok', hW, ⟨by simp, by simp, rfl, rfl⟩, hsn.symm, hss.symm, ⟨G2, rfl⟩⟩
    by_cases q20 : 20 ≤ cuts
    · have q20' : (20 : Int) ≤ cuts := by omega
      simp -implicitDefEqProofs [c0, c00, c9, c10, c12, c13, wL, htop, hlen2, hOk, hOl2, hSk, hSl2, hpk, hWk, q5, q20']
      exact ⟨n, by omega, cuts, R, by omega, by omega, hcu, O ++ [x], S ++ [sumS], by simp; omega, by simp; omega, hRok', hW, ⟨by simp, by simp, rfl, rfl⟩, hsn.symm, hss.symm, ⟨G2, rfl⟩⟩
    have q20' : ¬ (20 : Int) ≤ cuts := by omega
    by_cases b9 : c.place.length ≤ maxN
    case neg => simp -implicitDefEqProofs [c0, c00, c9, c10, c12, c13, wL, htop, hlen2, hOk, hOl2, hSk, hSl2, hpk, hWk, q5, q20', b9]
    by_cases q0 : c.place.length = 0
    · have hpl : c.place = [] := List.length_eq_zero_iff.1 q0
      have hD0 : (Arg.dec (.lst 0 (encL ([] : List Int))) : Option (List Int)) = some [] := rfl
      rw [hpl] at hpk hWk
      simp -implicitDefEqProofs [c0, c00, c9, c10, c12, c13, wL, htop, hlen2, hOk, hOl2, hSk, hSl2, hpk, hWk, q5, q20', hpl, hD0]
      exact ⟨n, by omega, cuts, R, by omega, by omega, hcu, O ++ [x], S ++ [sumS], by simp; omega, by simp; omega, hRok', hW, ⟨by simp, by simp, rfl, rfl⟩, hsn.symm, hss.symm, ⟨G2, rfl⟩⟩
    have q0' : ¬ (c.place.length : Int) = 0 := by omega
    have qhi : (x.get k).hi ≤ (x.get k).lo := by
      rcases hs with h | h | h | h
      · exact absurd h q5
      · exact absurd h q20
      · exact absurd h q0
      · exact h
    have hk5 : k = 0 ∨ k = 1 ∨ k = 2 ∨ k = 3 ∨ k = 4 := by omega
    rcases hk5 with rfl | rfl | rfl | rfl | rfl <;> simp only [Box.get, reduceIte, Int.reduceEq] at qhi <;> simp -implicitDefEqProofs [c0, c00, c9, c10, c12, c13, wL, htop, hlen2, hOk, hOl2, hSk, hSl2, hpk, hWk, q20', q0, q0', qhi, b9]
    all_goals exact ⟨n, by omega, cuts, R, by omega, by omega, hcu, O ++ [x], S ++ [sumS], by simp; omega, by simp; omega, hRok', hW, ⟨by simp, by simp, rfl, rfl⟩, hsn.symm, hss.symm, ⟨G2, rfl⟩⟩
  case neg =>
    rw [if_neg hs] at hW
    obtain ⟨k0, k5, k1, k2⟩ := hin hs
    rw [hst] at hs
    simp only [not_or] at hs
    obtain ⟨q5, q20, q0, qhi⟩ := hs
    have q20' : ¬ (20 : Int) ≤ cuts := by omega
    have q0' : ¬ (c.place.length : Int) = 0 := by omega
    have wc : IntKind.i64.wrap ((cuts : Int) + 1) = (cuts : Int) + 1 := wrap64 (by omega) (by omega)
    have wh : IntKind.i64.wrap ((x.get k).hi - 1) = (x.get k).hi - 1 := wrap64 (by omega) (by omega)
    have hWn := within_of (pick c.cut S.length) (x.get k).lo ((x.get k).hi - 1) (by omega)
    rw [← hnd] at hWn
    have hok2 := okBox_cut hxok k0 k5 k1 k2
    rw [cutB_halves k0 k5 k1 k2] at hW hok2
    have wn : IntKind.i64.wrap (cutN' c x S.length + 1) = cutN' c x S.length + 1 := wrap64 (by omega) (by omega)
    generalize cutN' c x S.length = at_ at *
    simp only at hW hok2
    by_cases b9 : c.place.length ≤ maxN
    case neg => simp -implicitDefEqProofs [c0, c00, c9, c10, c12, c13, wL, htop, hlen2, hOk, hOl2, hSk, hSl2, hpk, hWk, q5, q20', b9]
    have fin : ∀ (kk : Int) (y z : Box), okBox y → okBox z → stepsN c n (y :: z :: R.reverse) (cuts + 1) O (S ++ [⟨false, kk, at_⟩]) = res → ∃ m', m' < n + 1 ∧ ∃ cuts_1 R_1, m' = 2 * (20 - cuts_1) + R_1.length ∧ m' ≤ 41 ∧ cuts_1 ≤ 20 ∧ ∃ x_1 x_2, x_2.length + m' ≤ 41 ∧ x_1.length + m' ≤ 41 ∧ (∀ x ∈ R_1, okBox x) ∧ stepsN c m' R_1.reverse cuts_1 x_1 x_2 = res ∧
        (O.length = x_1.length ∧ S.length + 1 = x_2.length ∧ R.length + 2 = R_1.length ∧ (cuts : Int) + 1 = cuts_1) ∧ encL O = encL x_1 ∧ encL S ++ [.bool false, .int .i64 kk, .int .i64 at_] = encL x_2 ∧ ∃ x_3, encL R ++ (Row.enc z ++ Row.enc y) = encL R_1 ++ x_3 := by
      intro kk y z hy hz hWW
      have hok3 : ∀ b' ∈ R ++ [z, y], okBox b' := fun b' hb' => by
        rcases List.mem_append.1 hb' with hb' | hb'
        · exact hRok' b' hb'
        · simp at hb'
          rcases hb' with rfl | rfl
          · exact hz
          · exact hy
      have hrow2 : encL (R ++ [z, y]) ++ [] = encL R ++ (Row.enc z ++ Row.enc y) := by simp [encL_append, encL_cons, encL_nil]
      have hss2 : encL (S ++ [⟨false, kk, at_⟩]) = encL S ++ [.bool false, .int .i64 kk, .int .i64 at_] := by rw [encL_append]; rfl
      exact ⟨n, by omega, cuts + 1, R ++ [z, y], by simp; omega, by omega, by omega, O, S ++ [⟨false, kk, at_⟩], by simp; omega, by omega, hok3, by simpa using hWW, ⟨rfl, by simp, by simp, by omega⟩, rfl, hss2.symm, ⟨[], hrow2.symm⟩⟩
    have hss2 : encL (S ++ [⟨false, k, at_⟩]) = encL S ++ [.bool false, .int .i64 k, .int .i64 at_] := by rw [encL_append]; rfl
    have hk5 : k = 0 ∨ k = 1 ∨ k = 2 ∨ k = 3 ∨ k = 4 := by omega
    rcases hk5 with rfl | rfl | rfl | rfl | rfl <;> simp only [Box.get, Box.set, reduceIte, Int.reduceEq] at qhi wh hWn hW hok2 <;> simp -implicitDefEqProofs [c0, c00, c9, c10, c11, c12, c13, wL, wc, wh, wn, htop, hlen2, htk, hOk, hOl2, hSk, hSl2, hpk, hpa, hWk, hWn, q20', q0, q0', qhi, b9]
    all_goals exact fin _ _ _ hok2.1 hok2.2 hW
theorem c_Steps : Contract Try.prog 32 (sp2 StepsC) :=
  contract_of_runs mixed (tbl_cons c_pick (tbl_cons c_Within tbl_nil)) Try.func32 m32 (sp2_runs runs_Steps)
end Go.Co
