/- CO: trees of words. -/
import Derived.Test.YtagfmcachoaacaaCoD
import Derived.Test.YtagfmcachoaacaaCoBound
namespace Go.Co
open Go.Am Go.Proofs
set_option linter.unusedSimpArgs false
set_option linter.unusedVariables false
def c73_0 : ACode := .ops [⟨some 4, .mv (.c (.bool false)), none, []⟩] [0, 1]
theorem r73_0 : type_of% (@rr _ _ c73_0.eq_1) := rr c73_0.eq_1
def c73_1 : ACode := .ops [⟨some 12, .mv (.t 0), none, []⟩,
  ⟨some 13, .len (.t 12), none, []⟩,
  ⟨some 14, .bin .lss (.t 13) (.c (.int .i64 1)), none, []⟩,
  ⟨some 15, .mv (.t 14), none, []⟩,
  ⟨some 16, .mv (.t 0), some (15, false), []⟩,
  ⟨some 17, .len (.t 16), some (15, false), []⟩,
  ⟨some 18, .bin .gtr (.t 17) (.c (.int .i64 31)), some (15, false), []⟩,
  ⟨some 19, .pick (.t 15) (.c (.bool true)) (.t 18), none, []⟩] [0, 1, 19]
theorem r73_1 : type_of% (@rr _ _ c73_1.eq_1) := rr c73_1.eq_1
def c73_2 : ACode := .ops [⟨some 4, .mv (.c (.bool false)), none, []⟩] [4]
theorem r73_2 : type_of% (@rr _ _ c73_2.eq_1) := rr c73_2.eq_1
def c73_3 : ACode := .seq c73_2 .ret
theorem r73_3 : type_of% (@rr _ _ c73_3.eq_1) := rr c73_3.eq_1
def c73_4 : ACode := .cond (.t 19) c73_3 .skip
theorem r73_4 : type_of% (@rr _ _ c73_4.eq_1) := rr c73_4.eq_1
def c73_5 : ACode := .seq c73_1 c73_4
theorem r73_5 : type_of% (@rr _ _ c73_5.eq_1) := rr c73_5.eq_1
def c73_6 : ACode := .ops [⟨some 20, .mv (.t 0), none, []⟩,
  ⟨some 21, .len (.t 20), none, []⟩,
  ⟨some 22, .mks 5 (.t 21) 1 [.int .i64 0], none, []⟩,
  ⟨some 5, .mv (.t 22), none, []⟩] [0, 1, 5]
theorem r73_6 : type_of% (@rr _ _ c73_6.eq_1) := rr c73_6.eq_1
def c73_7 : ACode := .ops [⟨some 23, .mv (.t 0), none, []⟩,
  ⟨some 24, .len (.t 23), none, []⟩,
  ⟨some 25, .mv (.c (.int .i64 0)), none, []⟩] [0, 1, 5, 23, 24, 25]
theorem r73_7 : type_of% (@rr _ _ c73_7.eq_1) := rr c73_7.eq_1
def c73_8 : ACode := .ops [⟨some 26, .bin .lss (.t 25) (.t 24), none, []⟩] [0, 1, 5, 23, 24, 25, 26]
theorem r73_8 : type_of% (@rr _ _ c73_8.eq_1) := rr c73_8.eq_1
def c73_9 : ACode := .cond (.t 26) .skip (.exit 0)
theorem r73_9 : type_of% (@rr _ _ c73_9.eq_1) := rr c73_9.eq_1
def c73_10 : ACode := .ops [⟨some 27, .mv (.t 25), none, []⟩,
  ⟨some 28, .ias (.t 23) (.t 25) 1, none, []⟩,
  ⟨some 29, .load 1 false (.t 28), none, []⟩,
  ⟨some 6, .mv (.t 27), none, []⟩,
  ⟨some 7, .mv (.t 29), none, []⟩] [0, 1, 5, 6, 7, 23, 24, 25]
theorem r73_10 : type_of% (@rr _ _ c73_10.eq_1) := rr c73_10.eq_1
def c73_11 : ACode := .ops [⟨some 31, .mv (.t 7), none, []⟩,
  ⟨some 32, .call 65 [.t 31], none, []⟩,
  ⟨some 30, .mv (.t 32), none, []⟩,
  ⟨some 33, .ext (.t 30) 0, none, []⟩,
  ⟨some 34, .ext (.t 30) 1, none, []⟩,
  ⟨some 8, .alloc [.bool false, .int .i64 0, .int .i64 0, .int .i64 0, .int .i64 0, .int .i64 0], none, []⟩,
  ⟨none, .store (.t 8) 6 (.t 33), none, [8]⟩,
  ⟨some 9, .mv (.t 34), none, []⟩] [0, 1, 5, 6, 8, 9, 23, 24, 25]
theorem r73_11 : type_of% (@rr _ _ c73_11.eq_1) := rr c73_11.eq_1
def c73_12 : ACode := .ops [⟨some 35, .mv (.t 9), none, []⟩,
  ⟨some 36, .un .not (.t 35), none, []⟩] [0, 1, 5, 6, 8, 23, 24, 25, 36]
theorem r73_12 : type_of% (@rr _ _ c73_12.eq_1) := rr c73_12.eq_1
def c73_13 : ACode := .ops [⟨some 4, .mv (.c (.bool false)), none, []⟩] [4]
theorem r73_13 : type_of% (@rr _ _ c73_13.eq_1) := rr c73_13.eq_1
def c73_14 : ACode := .seq c73_13 .ret
theorem r73_14 : type_of% (@rr _ _ c73_14.eq_1) := rr c73_14.eq_1
def c73_15 : ACode := .cond (.t 36) c73_14 .skip
theorem r73_15 : type_of% (@rr _ _ c73_15.eq_1) := rr c73_15.eq_1
def c73_16 : ACode := .seq c73_12 c73_15
theorem r73_16 : type_of% (@rr _ _ c73_16.eq_1) := rr c73_16.eq_1
def c73_17 : ACode := .ops [⟨some 37, .fad (.t 8) 0, none, [8]⟩,
  ⟨some 38, .load 1 false (.t 37), none, [8]⟩] [0, 1, 5, 6, 8, 23, 24, 25, 38]
theorem r73_17 : type_of% (@rr _ _ c73_17.eq_1) := rr c73_17.eq_1
def c73_18 : ACode := .cond (.t 38) (.exit 1) .skip
theorem r73_18 : type_of% (@rr _ _ c73_18.eq_1) := rr c73_18.eq_1
def c73_19 : ACode := .seq c73_17 c73_18
theorem r73_19 : type_of% (@rr _ _ c73_19.eq_1) := rr c73_19.eq_1
def c73_20 : ACode := .ops [⟨some 39, .fad (.t 8) 2, none, [8]⟩,
  ⟨some 40, .load 1 false (.t 39), none, [8]⟩,
  ⟨some 41, .mv (.t 1), none, []⟩,
  ⟨some 42, .bin .geq (.t 40) (.t 41), none, []⟩,
  ⟨some 43, .mv (.t 42), none, []⟩,
  ⟨some 44, .fad (.t 8) 4, some (43, false), [8]⟩,
  ⟨some 45, .load 1 false (.t 44), some (43, false), [8]⟩,
  ⟨some 46, .fad (.t 8) 5, some (43, false), [8]⟩,
  ⟨some 47, .load 1 false (.t 46), some (43, false), [8]⟩,
  ⟨some 48, .bin .eql (.t 45) (.t 47), some (43, false), []⟩,
  ⟨some 49, .pick (.t 43) (.c (.bool true)) (.t 48), none, []⟩,
  ⟨some 50, .mv (.t 49), none, []⟩,
  ⟨some 51, .fad (.t 8) 4, some (50, false), [8]⟩,
  ⟨some 52, .load 1 false (.t 51), some (50, false), [8]⟩,
  ⟨some 53, .fad (.t 8) 5, some (50, false), [8]⟩,
  ⟨some 54, .load 1 false (.t 53), some (50, false), [8]⟩,
  ⟨some 55, .mnmx false (.t 52) (.t 54), some (50, false), []⟩,
  ⟨some 56, .mv (.t 6), some (50, false), []⟩,
  ⟨some 57, .bin .leq (.t 55) (.t 56), some (50, false), []⟩,
  ⟨some 58, .pick (.t 50) (.c (.bool true)) (.t 57), none, []⟩,
  ⟨some 59, .mv (.t 58), none, []⟩,
  ⟨some 60, .fad (.t 8) 4, some (59, false), [8]⟩,
  ⟨some 61, .load 1 false (.t 60), some (59, false), [8]⟩,
  ⟨some 62, .fad (.t 8) 5, some (59, false), [8]⟩,
  ⟨some 63, .load 1 false (.t 62), some (59, false), [8]⟩,
  ⟨some 64, .mnmx true (.t 61) (.t 63), some (59, false), []⟩,
  ⟨some 65, .mv (.t 0), some (59, false), []⟩,
  ⟨some 66, .len (.t 65), some (59, false), []⟩,
  ⟨some 67, .bin .geq (.t 64) (.t 66), some (59, false), []⟩,
  ⟨some 68, .pick (.t 59) (.c (.bool true)) (.t 67), none, []⟩] [0, 1, 5, 8, 23, 24, 25, 68]
theorem r73_20 : type_of% (@rr _ _ c73_20.eq_1) := rr c73_20.eq_1
def c73_21 : ACode := .ops [⟨some 4, .mv (.c (.bool false)), none, []⟩] [4]
theorem r73_21 : type_of% (@rr _ _ c73_21.eq_1) := rr c73_21.eq_1
def c73_22 : ACode := .seq c73_21 .ret
theorem r73_22 : type_of% (@rr _ _ c73_22.eq_1) := rr c73_22.eq_1
def c73_23 : ACode := .cond (.t 68) c73_22 .skip
theorem r73_23 : type_of% (@rr _ _ c73_23.eq_1) := rr c73_23.eq_1
def c73_24 : ACode := .seq c73_20 c73_23
theorem r73_24 : type_of% (@rr _ _ c73_24.eq_1) := rr c73_24.eq_1
def c73_25 : ACode := .ops [⟨some 69, .mv (.t 5), none, []⟩,
  ⟨some 70, .fad (.t 8) 4, none, [8]⟩,
  ⟨some 71, .load 1 false (.t 70), none, [8]⟩,
  ⟨some 72, .ias (.t 69) (.t 71) 1, none, [5]⟩,
  ⟨some 73, .load 1 false (.t 72), none, [5]⟩,
  ⟨some 74, .bin .add (.t 73) (.c (.int .i64 1)), none, []⟩,
  ⟨some 75, .ias (.t 69) (.t 71) 1, none, [5]⟩,
  ⟨none, .store (.t 75) 1 (.t 74), none, [5]⟩] [0, 1, 5, 8, 23, 24, 25]
theorem r73_25 : type_of% (@rr _ _ c73_25.eq_1) := rr c73_25.eq_1
def c73_26 : ACode := .ops [⟨some 76, .mv (.t 5), none, []⟩,
  ⟨some 77, .fad (.t 8) 5, none, [8]⟩,
  ⟨some 78, .load 1 false (.t 77), none, [8]⟩,
  ⟨some 79, .ias (.t 76) (.t 78) 1, none, [5]⟩,
  ⟨some 80, .load 1 false (.t 79), none, [5]⟩,
  ⟨some 81, .bin .add (.t 80) (.c (.int .i64 1)), none, []⟩,
  ⟨some 82, .ias (.t 76) (.t 78) 1, none, [5]⟩,
  ⟨none, .store (.t 82) 1 (.t 81), none, [5]⟩] [0, 1, 5, 23, 24, 25]
theorem r73_26 : type_of% (@rr _ _ c73_26.eq_1) := rr c73_26.eq_1
def c73_27 : ACode := .seq c73_25 c73_26
theorem r73_27 : type_of% (@rr _ _ c73_27.eq_1) := rr c73_27.eq_1
def c73_28 : ACode := .seq c73_24 c73_27
theorem r73_28 : type_of% (@rr _ _ c73_28.eq_1) := rr c73_28.eq_1
def c73_29 : ACode := .seq c73_19 c73_28
theorem r73_29 : type_of% (@rr _ _ c73_29.eq_1) := rr c73_29.eq_1
def c73_30 : ACode := .seq c73_16 c73_29
theorem r73_30 : type_of% (@rr _ _ c73_30.eq_1) := rr c73_30.eq_1
def c73_31 : ACode := .seq c73_11 c73_30
theorem r73_31 : type_of% (@rr _ _ c73_31.eq_1) := rr c73_31.eq_1
def c73_32 : ACode := .seq c73_10 c73_31
theorem r73_32 : type_of% (@rr _ _ c73_32.eq_1) := rr c73_32.eq_1
def c73_33 : ACode := .block 1 c73_32
theorem r73_33 : type_of% (@rr _ _ c73_33.eq_1) := rr c73_33.eq_1
def c73_34 : ACode := .ops [⟨some 83, .bin .add (.t 25) (.c (.int .i64 1)), none, []⟩,
  ⟨some 25, .mv (.t 83), none, []⟩] [0, 1, 5, 23, 24, 25]
theorem r73_34 : type_of% (@rr _ _ c73_34.eq_1) := rr c73_34.eq_1
def c73_35 : ACode := .seq c73_33 c73_34
theorem r73_35 : type_of% (@rr _ _ c73_35.eq_1) := rr c73_35.eq_1
def c73_36 : ACode := .seq c73_9 c73_35
theorem r73_36 : type_of% (@rr _ _ c73_36.eq_1) := rr c73_36.eq_1
def c73_37 : ACode := .seq c73_8 c73_36
theorem r73_37 : type_of% (@rr _ _ c73_37.eq_1) := rr c73_37.eq_1
def c73_38 : ACode := .keep [0, 1, 5, 23, 24, 25] [5] c73_37
theorem r73_38 : type_of% (@rr _ _ c73_38.eq_1) := rr c73_38.eq_1
def c73_39 : ACode := .loop c73_38
theorem r73_39 : type_of% (@rr _ _ c73_39.eq_1) := rr c73_39.eq_1
def c73_40 : ACode := .block 0 c73_39
theorem r73_40 : type_of% (@rr _ _ c73_40.eq_1) := rr c73_40.eq_1
def c73_41 : ACode := .seq c73_7 c73_40
theorem r73_41 : type_of% (@rr _ _ c73_41.eq_1) := rr c73_41.eq_1
def c73_42 : ACode := .ops [⟨some 84, .mv (.t 5), none, []⟩,
  ⟨some 85, .sl (.t 84) (some (.c (.int .i64 1))) none 1, none, [5]⟩,
  ⟨some 86, .len (.t 85), none, [5]⟩,
  ⟨some 87, .mv (.c (.int .i64 0)), none, []⟩] [85, 86, 87]
theorem r73_42 : type_of% (@rr _ _ c73_42.eq_1) := rr c73_42.eq_1
def c73_43 : ACode := .ops [⟨some 88, .bin .lss (.t 87) (.t 86), none, []⟩] [85, 86, 87, 88]
theorem r73_43 : type_of% (@rr _ _ c73_43.eq_1) := rr c73_43.eq_1
def c73_44 : ACode := .cond (.t 88) .skip (.exit 2)
theorem r73_44 : type_of% (@rr _ _ c73_44.eq_1) := rr c73_44.eq_1
def c73_45 : ACode := .ops [⟨some 89, .ias (.t 85) (.t 87) 1, none, [5]⟩,
  ⟨some 90, .load 1 false (.t 89), none, [5]⟩,
  ⟨some 11, .mv (.t 90), none, []⟩] [11, 85, 86, 87]
theorem r73_45 : type_of% (@rr _ _ c73_45.eq_1) := rr c73_45.eq_1
def c73_46 : ACode := .ops [⟨some 91, .mv (.t 11), none, []⟩,
  ⟨some 92, .bin .neq (.t 91) (.c (.int .i64 1)), none, []⟩] [85, 86, 87, 92]
theorem r73_46 : type_of% (@rr _ _ c73_46.eq_1) := rr c73_46.eq_1
def c73_47 : ACode := .ops [⟨some 4, .mv (.c (.bool false)), none, []⟩] [4]
theorem r73_47 : type_of% (@rr _ _ c73_47.eq_1) := rr c73_47.eq_1
def c73_48 : ACode := .seq c73_47 .ret
theorem r73_48 : type_of% (@rr _ _ c73_48.eq_1) := rr c73_48.eq_1
def c73_49 : ACode := .cond (.t 92) c73_48 .skip
theorem r73_49 : type_of% (@rr _ _ c73_49.eq_1) := rr c73_49.eq_1
def c73_50 : ACode := .seq c73_46 c73_49
theorem r73_50 : type_of% (@rr _ _ c73_50.eq_1) := rr c73_50.eq_1
def c73_51 : ACode := .seq c73_45 c73_50
theorem r73_51 : type_of% (@rr _ _ c73_51.eq_1) := rr c73_51.eq_1
def c73_52 : ACode := .block 3 c73_51
theorem r73_52 : type_of% (@rr _ _ c73_52.eq_1) := rr c73_52.eq_1
def c73_53 : ACode := .ops [⟨some 93, .bin .add (.t 87) (.c (.int .i64 1)), none, []⟩,
  ⟨some 87, .mv (.t 93), none, []⟩] [85, 86, 87]
theorem r73_53 : type_of% (@rr _ _ c73_53.eq_1) := rr c73_53.eq_1
def c73_54 : ACode := .seq c73_52 c73_53
theorem r73_54 : type_of% (@rr _ _ c73_54.eq_1) := rr c73_54.eq_1
def c73_55 : ACode := .seq c73_44 c73_54
theorem r73_55 : type_of% (@rr _ _ c73_55.eq_1) := rr c73_55.eq_1
def c73_56 : ACode := .seq c73_43 c73_55
theorem r73_56 : type_of% (@rr _ _ c73_56.eq_1) := rr c73_56.eq_1
def c73_57 : ACode := .keep [85, 86, 87] [5] c73_56
theorem r73_57 : type_of% (@rr _ _ c73_57.eq_1) := rr c73_57.eq_1
def c73_58 : ACode := .loop c73_57
theorem r73_58 : type_of% (@rr _ _ c73_58.eq_1) := rr c73_58.eq_1
def c73_59 : ACode := .block 2 c73_58
theorem r73_59 : type_of% (@rr _ _ c73_59.eq_1) := rr c73_59.eq_1
def c73_60 : ACode := .seq c73_42 c73_59
theorem r73_60 : type_of% (@rr _ _ c73_60.eq_1) := rr c73_60.eq_1
def c73_61 : ACode := .ops [⟨some 4, .mv (.c (.bool true)), none, []⟩] [4]
theorem r73_61 : type_of% (@rr _ _ c73_61.eq_1) := rr c73_61.eq_1
def c73_62 : ACode := .seq c73_61 .ret
theorem r73_62 : type_of% (@rr _ _ c73_62.eq_1) := rr c73_62.eq_1
def c73_63 : ACode := .seq c73_60 c73_62
theorem r73_63 : type_of% (@rr _ _ c73_63.eq_1) := rr c73_63.eq_1
def c73_64 : ACode := .seq c73_41 c73_63
theorem r73_64 : type_of% (@rr _ _ c73_64.eq_1) := rr c73_64.eq_1
def c73_65 : ACode := .seq c73_6 c73_64
theorem r73_65 : type_of% (@rr _ _ c73_65.eq_1) := rr c73_65.eq_1
def c73_66 : ACode := .seq c73_5 c73_65
theorem r73_66 : type_of% (@rr _ _ c73_66.eq_1) := rr c73_66.eq_1
def c73_67 : ACode := .seq c73_0 c73_66
theorem r73_67 : type_of% (@rr _ _ c73_67.eq_1) := rr c73_67.eq_1
def a73 : AFun := ⟨2, 94, c73_67, [.t 4]⟩
attribute [simp] r73_0 r73_1 r73_2 r73_3 r73_4 r73_5 r73_6 r73_7 r73_8 r73_9 r73_10 r73_11 r73_12 r73_13 r73_14 r73_15 r73_16 r73_17 r73_18 r73_19 r73_20 r73_21 r73_22 r73_23 r73_24 r73_25 r73_26 r73_27 r73_28 r73_29 r73_30 r73_31 r73_32 r73_33 r73_34 r73_35 r73_36 r73_37 r73_38 r73_39 r73_40 r73_41 r73_42 r73_43 r73_44 r73_45 r73_46 r73_47 r73_48 r73_49 r73_50 r73_51 r73_52 r73_53 r73_54 r73_55 r73_56 r73_57 r73_58 r73_59 r73_60 r73_61 r73_62 r73_63 r73_64 r73_65 r73_66 r73_67
theorem m73 : mFun Try.prog Try.f73 a73 = true := by decide +kernel
noncomputable def TreeRight (l : List Word) (dim : Int) : Option Bool := Part (RT l dim) true
def cnt (l : List Word) (i j : Nat) : Int := ((l.take i).countP (fun w => names (nd w) j) : Nat)
def cnts (l : List Word) (i : Nat) : List Int := (List.range l.length).map (cnt l i)
theorem cnts_len (l : List Word) (i : Nat) : (cnts l i).length = l.length := by simp [cnts]
theorem cnts_get (l : List Word) (i j : Nat) (h : j < (cnts l i).length) : (cnts l i)[j] = cnt l i j := by simp [cnts]
theorem cnt_succ {l : List Word} {i : Nat} (h : i < l.length) (j : Nat) : cnt l (i + 1) j = cnt l i j + (if names (ndAt l i) j then 1 else 0) := by
  unfold cnt
  rw [List.take_succ_eq_append_getElem h, List.countP_append, ndAt_lt h]
  simp only [List.countP_cons, List.countP_nil]
  split <;> simp
theorem cnt_le (l : List Word) (i j : Nat) : 0 ≤ cnt l i j ∧ cnt l i j ≤ l.length := by
  unfold cnt
  have := List.countP_le_length (p := fun w => names (nd w) j) (l := l.take i)
  simp at this
  omega
theorem cnts_zero (l : List Word) : cnts l 0 = List.replicate l.length 0 := by
  apply List.ext_getElem
  · simp [cnts]
  · intro j h1 h2
    rw [cnts_get]
    simp [cnt]
theorem cnts_leaf {l : List Word} {i : Nat} (h : i < l.length) (hl : (ndAt l i).leaf = true) : cnts l (i + 1) = cnts l i := by
  apply List.ext_getElem
  · simp [cnts]
  · intro j h1 h2
    rw [cnts_get, cnts_get, cnt_succ h]
    simp [names, hl]
theorem cnts_inner {l : List Word} {dim : Int} (hr : RT l dim) {i : Nat} (h : i < l.length) (hl : (ndAt l i).leaf = false) :
    cnts l (i + 1) = ((cnts l i).set (ndAt l i).left.toNat (cnt l i (ndAt l i).left.toNat + 1)).set (ndAt l i).right.toNat (cnt l i (ndAt l i).right.toNat + 1) := by
  have ha := hr.at h hl
  apply List.ext_getElem
  · simp [cnts]
  · intro j h1 h2
    rw [cnts_get, cnt_succ h, List.getElem_set, List.getElem_set]
    simp only [cnts_get, names, hl, Bool.not_false, Bool.true_and, Bool.or_eq_true, decide_eq_true_eq]
    by_cases e1 : (ndAt l i).right.toNat = j
    · rw [if_pos e1, if_pos (by omega), e1]
    · rw [if_neg e1]
      by_cases e2 : (ndAt l i).left.toNat = j
      · rw [if_pos e2, if_pos (by omega), e2]
      · rw [if_neg e2, if_neg (by omega)]
        omega
theorem unpack_at {l : List Word} {dim : Int} (h : RT l dim) {i : Nat} (hi : i < l.length) : Unpack ⟨l[i].v⟩ = some (ndAt l i, true) := by
  have := h.ok i hi
  unfold Unpack
  have h1 : 0 ≤ (⟨l[i].v⟩ : Word).v ∧ (⟨l[i].v⟩ : Word).v < 18446744073709551616 := this.1
  rw [if_pos h1]
  have e : (⟨l[i].v⟩ : Word) = l[i] := rfl
  rw [e]
  congr 1
  rw [ndAt_lt hi]
  exact Prod.ext rfl this.2
theorem runs_tRight (l : List Word) (dim : Int) (c : Bool) (h : TreeRight l dim = some c) : Runs (tbl [(65, sp1 Unpack)]) a73 [Arg.enc l, Arg.enc dim] (Arg.enc c) := by
  obtain ⟨hr, rfl⟩ := part_some h
  refine ⟨rfl, fun g => run_def ?_⟩
  unfold a73
  have hp := hr.pos
  have hle := hr.le
  have b1 : ¬ (l.length : Int) < 1 := by omega
  have b2 : ¬ (l.length : Int) > 31 := by omega
  have b3 : l.length ≤ maxN := by unfold maxN; omega
  have b4 : (l.length : Int) ≤ 1099511627776 := by omega
  simp -implicitDefEqProofs [b1, b2, b3, b4, rep_ints]
  rw [rep_cells]
  refine run_while (c := c73_37) (fun m s => ∃ (i : Nat) (g : Nat → Nat), i + m = l.length ∧ s = ⟨[(0, .lst l.length (encL l)), (1, .int .i64 dim), (5, .own 5 (g 5) 0 l.length), (23, .lst l.length (encL l)), (24, .int .i64 l.length), (25, .int .i64 i)], [(5, ⟨encL (cnts l i), false, 1⟩)], g⟩) l.length ⟨0, bump 5 g, by omega, by simp [cnts_zero]⟩ ?_
  rintro m s ⟨i, g, hi, rfl⟩
  by_cases h1 : i < l.length
  case pos =>
    have hU := unpack_at hr h1
    have w1 : IntKind.i64.wrap ((i : Int) + 1) = (i : Int) + 1 := wrap64 (by omega) (by omega)
    cases hl : (ndAt l i).leaf
    case true =>
      simp -implicitDefEqProofs [h1, rd_words, hU, hl, w1]
      exact ⟨m - 1, by omega, i + 1, by omega, by omega, by rw [cnts_leaf h1 hl]⟩
    case false =>
      have ha := hr.at h1 hl
      have e1 : ¬ dim ≤ (ndAt l i).feature := by omega
      have e2 : ¬ (ndAt l i).left = (ndAt l i).right := ha.2.1
      have e3 : ¬ (if (ndAt l i).right < (ndAt l i).left then (ndAt l i).right else (ndAt l i).left) ≤ (i : Int) := by split <;> omega
      have e4 : ¬ (l.length : Int) ≤ (if (ndAt l i).left < (ndAt l i).right then (ndAt l i).right else (ndAt l i).left) := by split <;> omega
      have e5 : ¬ (ndAt l i).left.toNat = (ndAt l i).right.toNat := by omega
      have f1 : 0 ≤ (ndAt l i).left := by omega
      have f2 : (ndAt l i).left < l.length := by omega
      have f3 : 0 ≤ (ndAt l i).right := by omega
      have f4 : (ndAt l i).right < l.length := by omega
      have f5 : (ndAt l i).left.toNat < l.length := by omega
      have f6 : (ndAt l i).right.toNat < l.length := by omega
      have n1 := cnt_le l i (ndAt l i).left.toNat
      have n2 := cnt_le l i (ndAt l i).right.toNat
      have w2 : IntKind.i64.wrap (cnt l i (ndAt l i).left.toNat + 1) = cnt l i (ndAt l i).left.toNat + 1 := wrap64 (by omega) (by omega)
      have w3 : IntKind.i64.wrap (cnt l i (ndAt l i).right.toNat + 1) = cnt l i (ndAt l i).right.toNat + 1 := wrap64 (by omega) (by omega)
      simp -implicitDefEqProofs [h1, rd_words, hU, hl, w1, b3, e1, e2, e3, e4, e5, f1, f2, f3, f4, f5, f6, cnts_len, cnts_get, rd_ints, wr_ints, encL_length, w2, w3]
      exact ⟨fun _ => ⟨fun _ => ⟨m - 1, by omega, i + 1, by omega, by omega, by rw [cnts_inner hr h1 hl]⟩, by omega⟩, by omega⟩
  case neg =>
    have hil : i = l.length := by omega
    subst hil
    have p1 : (1 : Int) ≤ l.length := by omega
    have p2 : l.length - 1 ≤ maxN := by omega
    simp -implicitDefEqProofs [p1, p2]
    refine run_while (c := c73_56) (fun m s => ∃ (i : Nat), i + m = l.length - 1 ∧ s = ⟨[(85, .own 5 (g 5) 1 (l.length - 1)), (86, .int .i64 (l.length - 1 : Nat)), (87, .int .i64 i)], [(5, ⟨encL (cnts l l.length), false, 1⟩)], g⟩) (l.length - 1) ⟨0, by omega, by simp⟩ ?_
    rintro m s ⟨i, hi, rfl⟩
    by_cases h1 : (i : Int) < (l.length - 1 : Nat)
    case pos =>
      have w1 : IntKind.i64.wrap ((i : Int) + 1) = (i : Int) + 1 := wrap64 (by omega) (by omega)
      have q1 : 1 + i < l.length := by omega
      have hc : cnt l l.length (1 + i) = 1 := by
        unfold cnt
        rw [List.take_length, hr.once (1 + i) (by omega) q1]
        rfl
      simp -implicitDefEqProofs [h1, rd_ints, cnts_len, cnts_get, w1, q1, hc]
      exact ⟨m - 1, by omega, i + 1, by omega, by omega⟩
    case neg =>
      simp -implicitDefEqProofs [h1]
end Go.Co
