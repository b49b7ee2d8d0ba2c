/- CO: trees of words. -/
import Derived.Test.YtbjnmbbhlaghaaaCoD
import Derived.Test.YtbjnmbbhlaghaaaCoBound
namespace Go.Co
open Go.Am Go.Proofs
set_option linter.unusedSimpArgs false
set_option linter.unusedVariables false
def c76_0 : ACode := .ops [⟨some 4, .mv (.c (.bool false)), none, []⟩] [0, 1]
theorem r76_0 : type_of% (@rr _ _ c76_0.eq_1) := rr c76_0.eq_1
def c76_1 : ACode := .ops [⟨some 12, .mv (.t 0), none, []⟩,
  ⟨some 13, .len (.t 12), none, []⟩,
  ⟨some 14, .bin .lss (.t 13) (.c (.int .i64 1)), none, []⟩,
  ⟨some 15, .mv (.t 14), none, []⟩,
  ⟨some 16, .mv (.t 0), some (15, false), []⟩,
  ⟨some 17, .len (.t 16), some (15, false), []⟩,
  ⟨some 18, .bin .gtr (.t 17) (.c (.int .i64 31)), some (15, false), []⟩,
  ⟨some 19, .pick (.t 15) (.c (.bool true)) (.t 18), none, []⟩] [0, 1, 19]
theorem r76_1 : type_of% (@rr _ _ c76_1.eq_1) := rr c76_1.eq_1
def c76_2 : ACode := .ops [⟨some 4, .mv (.c (.bool false)), none, []⟩] [4]
theorem r76_2 : type_of% (@rr _ _ c76_2.eq_1) := rr c76_2.eq_1
def c76_3 : ACode := .seq c76_2 .ret
theorem r76_3 : type_of% (@rr _ _ c76_3.eq_1) := rr c76_3.eq_1
def c76_4 : ACode := .cond (.t 19) c76_3 .skip
theorem r76_4 : type_of% (@rr _ _ c76_4.eq_1) := rr c76_4.eq_1
def c76_5 : ACode := .seq c76_1 c76_4
theorem r76_5 : type_of% (@rr _ _ c76_5.eq_1) := rr c76_5.eq_1
def c76_6 : ACode := .ops [⟨some 20, .mv (.t 0), none, []⟩,
  ⟨some 21, .len (.t 20), none, []⟩,
  ⟨some 22, .mks 5 (.t 21) 1 [.int .i64 0], none, []⟩,
  ⟨some 5, .mv (.t 22), none, []⟩] [0, 1, 5]
theorem r76_6 : type_of% (@rr _ _ c76_6.eq_1) := rr c76_6.eq_1
def c76_7 : ACode := .ops [⟨some 23, .mv (.t 0), none, []⟩,
  ⟨some 24, .len (.t 23), none, []⟩,
  ⟨some 25, .mv (.c (.int .i64 0)), none, []⟩] [0, 1, 5, 23, 24, 25]
theorem r76_7 : type_of% (@rr _ _ c76_7.eq_1) := rr c76_7.eq_1
def c76_8 : ACode := .ops [⟨some 26, .bin .lss (.t 25) (.t 24), none, []⟩] [0, 1, 5, 23, 24, 25, 26]
theorem r76_8 : type_of% (@rr _ _ c76_8.eq_1) := rr c76_8.eq_1
def c76_9 : ACode := .cond (.t 26) .skip (.exit 0)
theorem r76_9 : type_of% (@rr _ _ c76_9.eq_1) := rr c76_9.eq_1
def c76_10 : ACode := .ops [⟨some 27, .mv (.t 25), none, []⟩,
  ⟨some 28, .ias (.t 23) (.t 25) 1, none, []⟩,
  ⟨some 29, .load 1 false (.t 28), none, []⟩,
  ⟨some 6, .mv (.t 27), none, []⟩,
  ⟨some 7, .mv (.t 29), none, []⟩] [0, 1, 5, 6, 7, 23, 24, 25]
theorem r76_10 : type_of% (@rr _ _ c76_10.eq_1) := rr c76_10.eq_1
def c76_11 : ACode := .ops [⟨some 31, .mv (.t 7), none, []⟩,
  ⟨some 32, .call 77 [.t 31], none, []⟩,
  ⟨some 30, .mv (.t 32), none, []⟩,
  ⟨some 33, .ext (.t 30) 0, none, []⟩,
  ⟨some 34, .ext (.t 30) 1, none, []⟩,
  ⟨some 8, .alloc [.bool false, .int .i64 0, .int .i64 0, .int .i64 0, .int .i64 0, .int .i64 0], none, []⟩,
  ⟨none, .store (.t 8) 6 (.t 33), none, [8]⟩,
  ⟨some 9, .mv (.t 34), none, []⟩] [0, 1, 5, 6, 8, 9, 23, 24, 25]
theorem r76_11 : type_of% (@rr _ _ c76_11.eq_1) := rr c76_11.eq_1
def c76_12 : ACode := .ops [⟨some 35, .mv (.t 9), none, []⟩,
  ⟨some 36, .un .not (.t 35), none, []⟩] [0, 1, 5, 6, 8, 23, 24, 25, 36]
theorem r76_12 : type_of% (@rr _ _ c76_12.eq_1) := rr c76_12.eq_1
def c76_13 : ACode := .ops [⟨some 4, .mv (.c (.bool false)), none, []⟩] [4]
theorem r76_13 : type_of% (@rr _ _ c76_13.eq_1) := rr c76_13.eq_1
def c76_14 : ACode := .seq c76_13 .ret
theorem r76_14 : type_of% (@rr _ _ c76_14.eq_1) := rr c76_14.eq_1
def c76_15 : ACode := .cond (.t 36) c76_14 .skip
theorem r76_15 : type_of% (@rr _ _ c76_15.eq_1) := rr c76_15.eq_1
def c76_16 : ACode := .seq c76_12 c76_15
theorem r76_16 : type_of% (@rr _ _ c76_16.eq_1) := rr c76_16.eq_1
def c76_17 : ACode := .ops [⟨some 37, .fad (.t 8) 0, none, [8]⟩,
  ⟨some 38, .load 1 false (.t 37), none, [8]⟩] [0, 1, 5, 6, 8, 23, 24, 25, 38]
theorem r76_17 : type_of% (@rr _ _ c76_17.eq_1) := rr c76_17.eq_1
def c76_18 : ACode := .cond (.t 38) (.exit 1) .skip
theorem r76_18 : type_of% (@rr _ _ c76_18.eq_1) := rr c76_18.eq_1
def c76_19 : ACode := .seq c76_17 c76_18
theorem r76_19 : type_of% (@rr _ _ c76_19.eq_1) := rr c76_19.eq_1
def c76_20 : ACode := .ops [⟨some 39, .fad (.t 8) 2, none, [8]⟩,
  ⟨some 40, .load 1 false (.t 39), none, [8]⟩,
  ⟨some 41, .mv (.t 1), none, []⟩,
  ⟨some 42, .bin .geq (.t 40) (.t 41), none, []⟩,
  ⟨some 43, .mv (.t 42), none, []⟩,
  ⟨some 44, .fad (.t 8) 4, some (43, false), [8]⟩,
  ⟨some 45, .load 1 false (.t 44), some (43, false), [8]⟩,
  ⟨some 46, .fad (.t 8) 5, some (43, false), [8]⟩,
  ⟨some 47, .load 1 false (.t 46), some (43, false), [8]⟩,
  ⟨some 48, .bin .eql (.t 45) (.t 47), some (43, false), []⟩,
  ⟨some 49, .pick (.t 43) (.c (.bool true)) (.t 48), none, []⟩,
  ⟨some 50, .mv (.t 49), none, []⟩,
  ⟨some 51, .fad (.t 8) 4, some (50, false), [8]⟩,
  ⟨some 52, .load 1 false (.t 51), some (50, false), [8]⟩,
  ⟨some 53, .fad (.t 8) 5, some (50, false), [8]⟩,
  ⟨some 54, .load 1 false (.t 53), some (50, false), [8]⟩,
  ⟨some 55, .mnmx false (.t 52) (.t 54), some (50, false), []⟩,
  ⟨some 56, .mv (.t 6), some (50, false), []⟩,
  ⟨some 57, .bin .leq (.t 55) (.t 56), some (50, false), []⟩,
  ⟨some 58, .pick (.t 50) (.c (.bool true)) (.t 57), none, []⟩,
  ⟨some 59, .mv (.t 58), none, []⟩,
  ⟨some 60, .fad (.t 8) 4, some (59, false), [8]⟩,
  ⟨some 61, .load 1 false (.t 60), some (59, false), [8]⟩,
  ⟨some 62, .fad (.t 8) 5, some (59, false), [8]⟩,
  ⟨some 63, .load 1 false (.t 62), some (59, false), [8]⟩,
  ⟨some 64, .mnmx true (.t 61) (.t 63), some (59, false), []⟩,
  ⟨some 65, .mv (.t 0), some (59, false), []⟩,
  ⟨some 66, .len (.t 65), some (59, false), []⟩,
  ⟨some 67, .bin .geq (.t 64) (.t 66), some (59, false), []⟩,
  ⟨some 68, .pick (.t 59) (.c (.bool true)) (.t 67), none, []⟩] [0, 1, 5, 8, 23, 24, 25, 68]
theorem r76_20 : type_of% (@rr _ _ c76_20.eq_1) := rr c76_20.eq_1
def c76_21 : ACode := .ops [⟨some 4, .mv (.c (.bool false)), none, []⟩] [4]
theorem r76_21 : type_of% (@rr _ _ c76_21.eq_1) := rr c76_21.eq_1
def c76_22 : ACode := .seq c76_21 .ret
theorem r76_22 : type_of% (@rr _ _ c76_22.eq_1) := rr c76_22.eq_1
def c76_23 : ACode := .cond (.t 68) c76_22 .skip
theorem r76_23 : type_of% (@rr _ _ c76_23.eq_1) := rr c76_23.eq_1
def c76_24 : ACode := .seq c76_20 c76_23
theorem r76_24 : type_of% (@rr _ _ c76_24.eq_1) := rr c76_24.eq_1
def c76_25 : ACode := .ops [⟨some 69, .mv (.t 5), none, []⟩,
  ⟨some 70, .fad (.t 8) 4, none, [8]⟩,
  ⟨some 71, .load 1 false (.t 70), none, [8]⟩,
  ⟨some 72, .ias (.t 69) (.t 71) 1, none, [5]⟩,
  ⟨some 73, .load 1 false (.t 72), none, [5]⟩,
  ⟨some 74, .bin .add (.t 73) (.c (.int .i64 1)), none, []⟩,
  ⟨some 75, .ias (.t 69) (.t 71) 1, none, [5]⟩,
  ⟨none, .store (.t 75) 1 (.t 74), none, [5]⟩] [0, 1, 5, 8, 23, 24, 25]
theorem r76_25 : type_of% (@rr _ _ c76_25.eq_1) := rr c76_25.eq_1
def c76_26 : ACode := .ops [⟨some 76, .mv (.t 5), none, []⟩,
  ⟨some 77, .fad (.t 8) 5, none, [8]⟩,
  ⟨some 78, .load 1 false (.t 77), none, [8]⟩,
  ⟨some 79, .ias (.t 76) (.t 78) 1, none, [5]⟩,
  ⟨some 80, .load 1 false (.t 79), none, [5]⟩,
  ⟨some 81, .bin .add (.t 80) (.c (.int .i64 1)), none, []⟩,
  ⟨some 82, .ias (.t 76) (.t 78) 1, none, [5]⟩,
  ⟨none, .store (.t 82) 1 (.t 81), none, [5]⟩] [0, 1, 5, 23, 24, 25]
theorem r76_26 : type_of% (@rr _ _ c76_26.eq_1) := rr c76_26.eq_1
def c76_27 : ACode := .seq c76_25 c76_26
theorem r76_27 : type_of% (@rr _ _ c76_27.eq_1) := rr c76_27.eq_1
def c76_28 : ACode := .seq c76_24 c76_27
theorem r76_28 : type_of% (@rr _ _ c76_28.eq_1) := rr c76_28.eq_1
def c76_29 : ACode := .seq c76_19 c76_28
theorem r76_29 : type_of% (@rr _ _ c76_29.eq_1) := rr c76_29.eq_1
def c76_30 : ACode := .seq c76_16 c76_29
theorem r76_30 : type_of% (@rr _ _ c76_30.eq_1) := rr c76_30.eq_1
def c76_31 : ACode := .seq c76_11 c76_30
theorem r76_31 : type_of% (@rr _ _ c76_31.eq_1) := rr c76_31.eq_1
def c76_32 : ACode := .seq c76_10 c76_31
theorem r76_32 : type_of% (@rr _ _ c76_32.eq_1) := rr c76_32.eq_1
def c76_33 : ACode := .block 1 c76_32
theorem r76_33 : type_of% (@rr _ _ c76_33.eq_1) := rr c76_33.eq_1
def c76_34 : ACode := .ops [⟨some 83, .bin .add (.t 25) (.c (.int .i64 1)), none, []⟩,
  ⟨some 25, .mv (.t 83), none, []⟩] [0, 1, 5, 23, 24, 25]
theorem r76_34 : type_of% (@rr _ _ c76_34.eq_1) := rr c76_34.eq_1
def c76_35 : ACode := .seq c76_33 c76_34
theorem r76_35 : type_of% (@rr _ _ c76_35.eq_1) := rr c76_35.eq_1
def c76_36 : ACode := .seq c76_9 c76_35
theorem r76_36 : type_of% (@rr _ _ c76_36.eq_1) := rr c76_36.eq_1
def c76_37 : ACode := .seq c76_8 c76_36
theorem r76_37 : type_of% (@rr _ _ c76_37.eq_1) := rr c76_37.eq_1
def c76_38 : ACode := .keep [0, 1, 5, 23, 24, 25] [5] c76_37
theorem r76_38 : type_of% (@rr _ _ c76_38.eq_1) := rr c76_38.eq_1
def c76_39 : ACode := .loop c76_38
theorem r76_39 : type_of% (@rr _ _ c76_39.eq_1) := rr c76_39.eq_1
def c76_40 : ACode := .block 0 c76_39
theorem r76_40 : type_of% (@rr _ _ c76_40.eq_1) := rr c76_40.eq_1
def c76_41 : ACode := .seq c76_7 c76_40
theorem r76_41 : type_of% (@rr _ _ c76_41.eq_1) := rr c76_41.eq_1
def c76_42 : ACode := .ops [⟨some 84, .mv (.t 5), none, []⟩,
  ⟨some 85, .sl (.t 84) (some (.c (.int .i64 1))) none 1, none, [5]⟩,
  ⟨some 86, .len (.t 85), none, [5]⟩,
  ⟨some 87, .mv (.c (.int .i64 0)), none, []⟩] [85, 86, 87]
theorem r76_42 : type_of% (@rr _ _ c76_42.eq_1) := rr c76_42.eq_1
def c76_43 : ACode := .ops [⟨some 88, .bin .lss (.t 87) (.t 86), none, []⟩] [85, 86, 87, 88]
theorem r76_43 : type_of% (@rr _ _ c76_43.eq_1) := rr c76_43.eq_1
def c76_44 : ACode := .cond (.t 88) .skip (.exit 2)
theorem r76_44 : type_of% (@rr _ _ c76_44.eq_1) := rr c76_44.eq_1
def c76_45 : ACode := .ops [⟨some 89, .ias (.t 85) (.t 87) 1, none, [5]⟩,
  ⟨some 90, .load 1 false (.t 89), none, [5]⟩,
  ⟨some 11, .mv (.t 90), none, []⟩] [11, 85, 86, 87]
theorem r76_45 : type_of% (@rr _ _ c76_45.eq_1) := rr c76_45.eq_1
def c76_46 : ACode := .ops [⟨some 91, .mv (.t 11), none, []⟩,
  ⟨some 92, .bin .neq (.t 91) (.c (.int .i64 1)), none, []⟩] [85, 86, 87, 92]
theorem r76_46 : type_of% (@rr _ _ c76_46.eq_1) := rr c76_46.eq_1
def c76_47 : ACode := .ops [⟨some 4, .mv (.c (.bool false)), none, []⟩] [4]
theorem r76_47 : type_of% (@rr _ _ c76_47.eq_1) := rr c76_47.eq_1
def c76_48 : ACode := .seq c76_47 .ret
theorem r76_48 : type_of% (@rr _ _ c76_48.eq_1) := rr c76_48.eq_1
def c76_49 : ACode := .cond (.t 92) c76_48 .skip
theorem r76_49 : type_of% (@rr _ _ c76_49.eq_1) := rr c76_49.eq_1
def c76_50 : ACode := .seq c76_46 c76_49
theorem r76_50 : type_of% (@rr _ _ c76_50.eq_1) := rr c76_50.eq_1
def c76_51 : ACode := .seq c76_45 c76_50
theorem r76_51 : type_of% (@rr _ _ c76_51.eq_1) := rr c76_51.eq_1
def c76_52 : ACode := .block 3 c76_51
theorem r76_52 : type_of% (@rr _ _ c76_52.eq_1) := rr c76_52.eq_1
def c76_53 : ACode := .ops [⟨some 93, .bin .add (.t 87) (.c (.int .i64 1)), none, []⟩,
  ⟨some 87, .mv (.t 93), none, []⟩] [85, 86, 87]
theorem r76_53 : type_of% (@rr _ _ c76_53.eq_1) := rr c76_53.eq_1
def c76_54 : ACode := .seq c76_52 c76_53
theorem r76_54 : type_of% (@rr _ _ c76_54.eq_1) := rr c76_54.eq_1
def c76_55 : ACode := .seq c76_44 c76_54
theorem r76_55 : type_of% (@rr _ _ c76_55.eq_1) := rr c76_55.eq_1
def c76_56 : ACode := .seq c76_43 c76_55
theorem r76_56 : type_of% (@rr _ _ c76_56.eq_1) := rr c76_56.eq_1
def c76_57 : ACode := .keep [85, 86, 87] [5] c76_56
theorem r76_57 : type_of% (@rr _ _ c76_57.eq_1) := rr c76_57.eq_1
def c76_58 : ACode := .loop c76_57
theorem r76_58 : type_of% (@rr _ _ c76_58.eq_1) := rr c76_58.eq_1
def c76_59 : ACode := .block 2 c76_58
theorem r76_59 : type_of% (@rr _ _ c76_59.eq_1) := rr c76_59.eq_1
def c76_60 : ACode := .seq c76_42 c76_59
theorem r76_60 : type_of% (@rr _ _ c76_60.eq_1) := rr c76_60.eq_1
def c76_61 : ACode := .ops [⟨some 4, .mv (.c (.bool true)), none, []⟩] [4]
theorem r76_61 : type_of% (@rr _ _ c76_61.eq_1) := rr c76_61.eq_1
def c76_62 : ACode := .seq c76_61 .ret
theorem r76_62 : type_of% (@rr _ _ c76_62.eq_1) := rr c76_62.eq_1
def c76_63 : ACode := .seq c76_60 c76_62
theorem r76_63 : type_of% (@rr _ _ c76_63.eq_1) := rr c76_63.eq_1
def c76_64 : ACode := .seq c76_41 c76_63
theorem r76_64 : type_of% (@rr _ _ c76_64.eq_1) := rr c76_64.eq_1
def c76_65 : ACode := .seq c76_6 c76_64
theorem r76_65 : type_of% (@rr _ _ c76_65.eq_1) := rr c76_65.eq_1
def c76_66 : ACode := .seq c76_5 c76_65
theorem r76_66 : type_of% (@rr _ _ c76_66.eq_1) := rr c76_66.eq_1
def c76_67 : ACode := .seq c76_0 c76_66
theorem r76_67 : type_of% (@rr _ _ c76_67.eq_1) := rr c76_67.eq_1
def a76 : AFun := ⟨2, 94, c76_67, [.t 4]⟩
attribute [simp] r76_0 r76_1 r76_2 r76_3 r76_4 r76_5 r76_6 r76_7 r76_8 r76_9 r76_10 r76_11 r76_12 r76_13 r76_14 r76_15 r76_16 r76_17 r76_18 r76_19 r76_20 r76_21 r76_22 r76_23 r76_24 r76_25 r76_26 r76_27 r76_28 r76_29 r76_30 r76_31 r76_32 r76_33 r76_34 r76_35 r76_36 r76_37 r76_38 r76_39 r76_40 r76_41 r76_42 r76_43 r76_44 r76_45 r76_46 r76_47 r76_48 r76_49 r76_50 r76_51 r76_52 r76_53 r76_54 r76_55 r76_56 r76_57 r76_58 r76_59 r76_60 r76_61 r76_62 r76_63 r76_64 r76_65 r76_66 r76_67
theorem m76 : mFun Try.prog Try.f76 a76 = true := by decide +kernel
noncomputable def TreeRight (l : List Word) (dim : Int) : Option Bool := Part (RT l dim) true
def cnt (l : List Word) (i j : Nat) : Int := ((l.take i).countP (fun w => names (nd w) j) : Nat)
def cnts (l : List Word) (i : Nat) : List Int := (List.range l.length).map (cnt l i)
theorem cnts_len (l : List Word) (i : Nat) : (cnts l i).length = l.length := by simp [cnts]
theorem cnts_get (l : List Word) (i j : Nat) (h : j < (cnts l i).length) : (cnts l i)[j] = cnt l i j := by simp [cnts]
theorem cnt_succ {l : List Word} {i : Nat} (h : i < l.length) (j : Nat) : cnt l (i + 1) j = cnt l i j + (if names (ndAt l i) j then 1 else 0) := by
  unfold cnt
  rw [List.take_succ_eq_append_getElem h, List.countP_append, ndAt_lt h]
  simp only [List.countP_cons, List.countP_nil]
  split <;> simp
theorem cnt_le (l : List Word) (i j : Nat) : 0 ≤ cnt l i j ∧ cnt l i j ≤ l.length := by
  unfold cnt
  have := List.countP_le_length (p := fun w => names (nd w) j) (l := l.take i)
  simp at this
  omega
theorem cnts_zero (l : List Word) : cnts l 0 = List.replicate l.length 0 := by
  apply List.ext_getElem
  · simp [cnts]
  · intro j h1 h2
    rw [cnts_get]
    simp [cnt]
theorem cnts_leaf {l : List Word} {i : Nat} (h : i < l.length) (hl : (ndAt l i).leaf = true) : cnts l (i + 1) = cnts l i := by
  apply List.ext_getElem
  · simp [cnts]
  · intro j h1 h2
    rw [cnts_get, cnts_get, cnt_succ h]
    simp [names, hl]
theorem cnts_inner {l : List Word} {dim : Int} (hr : RT l dim) {i : Nat} (h : i < l.length) (hl : (ndAt l i).leaf = false) :
    cnts l (i + 1) = ((cnts l i).set (ndAt l i).left.toNat (cnt l i (ndAt l i).left.toNat + 1)).set (ndAt l i).right.toNat (cnt l i (ndAt l i).right.toNat + 1) := by
  have ha := hr.at h hl
  apply List.ext_getElem
  · simp [cnts]
  · intro j h1 h2
    rw [cnts_get, cnt_succ h, List.getElem_set, List.getElem_set]
    simp only [cnts_get, names, hl, Bool.not_false, Bool.true_and, Bool.or_eq_true, decide_eq_true_eq]
    by_cases e1 : (ndAt l i).right.toNat = j
    · rw [if_pos e1, if_pos (by omega), e1]
    · rw [if_neg e1]
      by_cases e2 : (ndAt l i).left.toNat = j
      · rw [if_pos e2, if_pos (by omega), e2]
      · rw [if_neg e2, if_neg (by omega)]
        omega
theorem unpack_at {l : List Word} {dim : Int} (h : RT l dim) {i : Nat} (hi : i < l.length) : Unpack ⟨l[i].v⟩ = some (ndAt l i, true) := by
  have := h.ok i hi
  unfold Unpack
  have h1 : 0 ≤ (⟨l[i].v⟩ : Word).v ∧ (⟨l[i].v⟩ : Word).v < 18446744073709551616 := this.1
  rw [if_pos h1]
  have e : (⟨l[i].v⟩ : Word) = l[i] := rfl
  rw [e]
  congr 1
  rw [ndAt_lt hi]
  exact Prod.ext rfl this.2
theorem runs_tRight (l : List Word) (dim : Int) (c : Bool) (h : TreeRight l dim = some c) : Runs (tbl [(77, sp1 Unpack)]) a76 [Arg.enc l, Arg.enc dim] (Arg.enc c) := by
  obtain ⟨hr, rfl⟩ := part_some h
  refine ⟨rfl, fun g => run_def ?_⟩
  unfold a76
  have hp := hr.pos
  have hle := hr.le
  have b1 : ¬ (l.length : Int) < 1 := by omega
  have b2 : ¬ (l.length : Int) > 31 := by omega
  have b3 : l.length ≤ maxN := by unfold maxN; omega
  have b4 : (l.length : Int) ≤ 1099511627776 := by omega
  simp -implicitDefEqProofs [b1, b2, b3, b4, rep_ints]
  rw [rep_cells]
  refine run_while (c := c76_37) (fun m s => ∃ (i : Nat) (g : Nat → Nat), i + m = l.length ∧ s = ⟨[(0, .lst l.length (encL l)), (1, .int .i64 dim), (5, .own 5 (g 5) 0 l.length), (23, .lst l.length (encL l)), (24, .int .i64 l.length), (25, .int .i64 i)], [(5, ⟨encL (cnts l i), false, 1⟩)], g⟩) l.length ⟨0, bump 5 g, by omega, by simp [cnts_zero]⟩ ?_
  rintro m s ⟨i, g, hi, rfl⟩
  by_cases h1 : i < l.length
  case pos =>
    have hU := unpack_at hr h1
    have w1 : IntKind.i64.wrap ((i : Int) + 1) = (i : Int) + 1 := wrap64 (by omega) (by omega)
    cases hl : (ndAt l i).leaf
    case true =>
      simp -implicitDefEqProofs [h1, rd_words, hU, hl, w1]
      exact ⟨m - 1, by omega, i + 1, by omega, by omega, by rw [cnts_leaf h1 hl]⟩
    case false =>
      have ha := hr.at h1 hl
      have e1 : ¬ dim ≤ (ndAt l i).feature := by omega
      have e2 : ¬ (ndAt l i).left = (ndAt l i).right := ha.2.1
      have e3 : ¬ (if (ndAt l i).right < (ndAt l i).left then (ndAt l i).right else (ndAt l i).left) ≤ (i : Int) := by split <;> omega
      have e4 : ¬ (l.length : Int) ≤ (if (ndAt l i).left < (ndAt l i).right then (ndAt l i).right else (ndAt l i).left) := by split <;> omega
      have e5 : ¬ (ndAt l i).left.toNat = (ndAt l i).right.toNat := by omega
      have f1 : 0 ≤ (ndAt l i).left := by omega
      have f2 : (ndAt l i).left < l.length := by omega
      have f3 : 0 ≤ (ndAt l i).right := by omega
      have f4 : (ndAt l i).right < l.length := by omega
      have f5 : (ndAt l i).left.toNat < l.length := by omega
      have f6 : (ndAt l i).right.toNat < l.length := by omega
      have n1 := cnt_le l i (ndAt l i).left.toNat
      have n2 := cnt_le l i (ndAt l i).right.toNat
      have w2 : IntKind.i64.wrap (cnt l i (ndAt l i).left.toNat + 1) = cnt l i (ndAt l i).left.toNat + 1 := wrap64 (by omega) (by omega)
      have w3 : IntKind.i64.wrap (cnt l i (ndAt l i).right.toNat + 1) = cnt l i (ndAt l i).right.toNat + 1 := wrap64 (by omega) (by omega)
      simp -implicitDefEqProofs [h1, rd_words, hU, hl, w1, b3, e1, e2, e3, e4, e5, f1, f2, f3, f4, f5, f6, cnts_len, cnts_get, rd_ints, wr_ints, encL_length, w2, w3]
      exact ⟨fun _ => ⟨fun _ => ⟨m - 1, by omega, i + 1, by omega, by omega, by rw [cnts_inner hr h1 hl]⟩, by omega⟩, by omega⟩
  case neg =>
    have hil : i = l.length := by omega
    subst hil
    have p1 : (1 : Int) ≤ l.length := by omega
    have p2 : l.length - 1 ≤ maxN := by omega
    simp -implicitDefEqProofs [p1, p2]
    refine run_while (c := c76_56) (fun m s => ∃ (i : Nat), i + m = l.length - 1 ∧ s = ⟨[(85, .own 5 (g 5) 1 (l.length - 1)), (86, .int .i64 (l.length - 1 : Nat)), (87, .int .i64 i)], [(5, ⟨encL (cnts l l.length), false, 1⟩)], g⟩) (l.length - 1) ⟨0, by omega, by simp⟩ ?_
    rintro m s ⟨i, hi, rfl⟩
    by_cases h1 : (i : Int) < (l.length - 1 : Nat)
    case pos =>
      have w1 : IntKind.i64.wrap ((i : Int) + 1) = (i : Int) + 1 := wrap64 (by omega) (by omega)
      have q1 : 1 + i < l.length := by omega
      have hc : cnt l l.length (1 + i) = 1 := by
        unfold cnt
        rw [List.take_length, hr.once (1 + i) (by omega) q1]
        rfl
      simp -implicitDefEqProofs [h1, rd_ints, cnts_len, cnts_get, w1, q1, hc]
      exact ⟨m - 1, by omega, i + 1, by omega, by omega⟩
    case neg =>
      simp -implicitDefEqProofs [h1]
theorem c_tRight : Contract Try.prog 76 (sp2 TreeRight) :=
  contract_of_runs mixed (tbl_cons c_Unpack tbl_nil) Try.func76 m76 (sp2_runs runs_tRight)
end Go.Co
