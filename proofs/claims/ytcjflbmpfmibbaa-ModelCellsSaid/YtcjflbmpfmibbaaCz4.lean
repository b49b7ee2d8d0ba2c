/- CO: texts of this claim, one behind the other. -/
import Derived.Test.YtcjflbmpfmibbaaCz3
import Derived.Test.YtcjflbmpfmibbaaCz1
/- CO: trees of words. -/
namespace Go.Co
open Go.Am Go.Proofs
set_option linter.unusedSimpArgs false
set_option linter.unusedVariables false
def c19_0 : ACode := .ops [⟨some 4, .mv (.c (.bool false)), none, []⟩] [0, 1]
theorem r19_0 : type_of% (@rr _ _ c19_0.eq_1) := rr rfl
def c19_1 : ACode := .ops [⟨some 12, .mv (.t 0), none, []⟩,⟨some 13, .len (.t 12), none, []⟩,⟨some 14, .bin .lss (.t 13) (.c (.int .i64 1)), none, []⟩,⟨some 15, .mv (.t 14), none, []⟩,⟨some 16, .mv (.t 0), some (15, false), []⟩,⟨some 17, .len (.t 16), some (15, false), []⟩,⟨some 18, .bin .gtr (.t 17) (.c (.int .i64 31)), some (15, false), []⟩,⟨some 19, .pick (.t 15) (.c (.bool true)) (.t 18), none, []⟩] [0, 1, 19]
theorem r19_1 : type_of% (@rr _ _ c19_1.eq_1) := rr rfl
def c19_2 : ACode := .ops [⟨some 4, .mv (.c (.bool false)), none, []⟩] [4]
theorem r19_2 : type_of% (@rr _ _ c19_2.eq_1) := rr rfl
def c19_3 : ACode := .seq c19_2 .ret
theorem r19_3 : type_of% (@rr _ _ c19_3.eq_1) := rr rfl
def c19_4 : ACode := .cond (.t 19) c19_3 .skip
theorem r19_4 : type_of% (@rr _ _ c19_4.eq_1) := rr rfl
def c19_5 : ACode := .seq c19_1 c19_4
theorem r19_5 : type_of% (@rr _ _ c19_5.eq_1) := rr rfl
def c19_6 : ACode := .ops [⟨some 20, .mv (.t 0), none, []⟩,⟨some 21, .len (.t 20), none, []⟩,⟨some 22, .mks 5 (.t 21) 1 [.int .i64 0], none, []⟩,⟨some 5, .mv (.t 22), none, []⟩] [0, 1, 5]
theorem r19_6 : type_of% (@rr _ _ c19_6.eq_1) := rr rfl
def c19_7 : ACode := .ops [⟨some 23, .mv (.t 0), none, []⟩,⟨some 24, .len (.t 23), none, []⟩,⟨some 25, .mv (.c (.int .i64 0)), none, []⟩] [0, 1, 5, 23, 24, 25]
theorem r19_7 : type_of% (@rr _ _ c19_7.eq_1) := rr rfl
def c19_8 : ACode := .ops [⟨some 26, .bin .lss (.t 25) (.t 24), none, []⟩] [0, 1, 5, 23, 24, 25, 26]
theorem r19_8 : type_of% (@rr _ _ c19_8.eq_1) := rr rfl
def c19_9 : ACode := .cond (.t 26) .skip (.exit 0)
theorem r19_9 : type_of% (@rr _ _ c19_9.eq_1) := rr rfl
def c19_10 : ACode := .ops [⟨some 27, .mv (.t 25), none, []⟩,⟨some 28, .ias (.t 23) (.t 25) 1, none, []⟩,⟨some 29, .load 1 false (.t 28), none, []⟩,⟨some 6, .mv (.t 27), none, []⟩,⟨some 7, .mv (.t 29), none, []⟩] [0, 1, 5, 6, 7, 23, 24, 25]
theorem r19_10 : type_of% (@rr _ _ c19_10.eq_1) := rr rfl
def c19_11 : ACode := .ops [⟨some 31, .mv (.t 7), none, []⟩,⟨some 32, .call 20 [.t 31], none, []⟩,⟨some 30, .mv (.t 32), none, []⟩,⟨some 33, .ext (.t 30) 0, none, []⟩,⟨some 34, .ext (.t 30) 1, none, []⟩,⟨some 8, .alloc [.bool false, .int .i64 0, .int .i64 0, .int .i64 0, .int .i64 0, .int .i64 0], none, []⟩,⟨none, .store (.t 8) 6 (.t 33), none, [8]⟩,⟨some 9, .mv (.t 34), none, []⟩] [0, 1, 5, 6, 8, 9, 23, 24, 25]
theorem r19_11 : type_of% (@rr _ _ c19_11.eq_1) := rr rfl
def c19_12 : ACode := .ops [⟨some 35, .mv (.t 9), none, []⟩,⟨some 36, .un .not (.t 35), none, []⟩] [0, 1, 5, 6, 8, 23, 24, 25, 36]
theorem r19_12 : type_of% (@rr _ _ c19_12.eq_1) := rr rfl
def c19_13 : ACode := .ops [⟨some 4, .mv (.c (.bool false)), none, []⟩] [4]
theorem r19_13 : type_of% (@rr _ _ c19_13.eq_1) := rr rfl
def c19_14 : ACode := .seq c19_13 .ret
theorem r19_14 : type_of% (@rr _ _ c19_14.eq_1) := rr rfl
def c19_15 : ACode := .cond (.t 36) c19_14 .skip
theorem r19_15 : type_of% (@rr _ _ c19_15.eq_1) := rr rfl
def c19_16 : ACode := .seq c19_12 c19_15
theorem r19_16 : type_of% (@rr _ _ c19_16.eq_1) := rr rfl
def c19_17 : ACode := .ops [⟨some 37, .fad (.t 8) 0, none, [8]⟩,⟨some 38, .load 1 false (.t 37), none, [8]⟩] [0, 1, 5, 6, 8, 23, 24, 25, 38]
theorem r19_17 : type_of% (@rr _ _ c19_17.eq_1) := rr rfl
def c19_18 : ACode := .cond (.t 38) (.exit 1) .skip
theorem r19_18 : type_of% (@rr _ _ c19_18.eq_1) := rr rfl
def c19_19 : ACode := .seq c19_17 c19_18
theorem r19_19 : type_of% (@rr _ _ c19_19.eq_1) := rr rfl
def c19_20 : ACode := .ops [⟨some 39, .fad (.t 8) 2, none, [8]⟩,⟨some 40, .load 1 false (.t 39), none, [8]⟩,⟨some 41, .mv (.t 1), none, []⟩,⟨some 42, .bin .geq (.t 40) (.t 41), none, []⟩,⟨some 43, .mv (.t 42), none, []⟩,⟨some 44, .fad (.t 8) 4, some (43, false), [8]⟩,⟨some 45, .load 1 false (.t 44), some (43, false), [8]⟩,⟨some 46, .fad (.t 8) 5, some (43, false), [8]⟩,⟨some 47, .load 1 false (.t 46), some (43, false), [8]⟩,⟨some 48, .bin .eql (.t 45) (.t 47), some (43, false), []⟩,⟨some 49, .pick (.t 43) (.c (.bool true)) (.t 48), none, []⟩,⟨some 50, .mv (.t 49), none, []⟩,⟨some 51, .fad (.t 8) 4, some (50, false), [8]⟩,⟨some 52, .load 1 false (.t 51), some (50, false), [8]⟩,⟨some 53, .fad (.t 8) 5, some (50, false), [8]⟩,⟨some 54, .load 1 false (.t 53), some (50, false), [8]⟩,⟨some 55, .mnmx false (.t 52) (.t 54), some (50, false), []⟩,⟨some 56, .mv (.t 6), some (50, false), []⟩,⟨some 57, .bin .leq (.t 55) (.t 56), some (50, false), []⟩,⟨some 58, .pick (.t 50) (.c (.bool true)) (.t 57), none, []⟩,⟨some 59, .mv (.t 58), none, []⟩,⟨some 60, .fad (.t 8) 4, some (59, false), [8]⟩,⟨some 61, .load 1 false (.t 60), some (59, false), [8]⟩,⟨some 62, .fad (.t 8) 5, some (59, false), [8]⟩,⟨some 63, .load 1 false (.t 62), some (59, false), [8]⟩,⟨some 64, .mnmx true (.t 61) (.t 63), some (59, false), []⟩,⟨some 65, .mv (.t 0), some (59, false), []⟩,⟨some 66, .len (.t 65), some (59, false), []⟩,⟨some 67, .bin .geq (.t 64) (.t 66), some (59, false), []⟩,⟨some 68, .pick (.t 59) (.c (.bool true)) (.t 67), none, []⟩] [0, 1, 5, 8, 23, 24, 25, 68]
theorem r19_20 : type_of% (@rr _ _ c19_20.eq_1) := rr rfl
def c19_21 : ACode := .ops [⟨some 4, .mv (.c (.bool false)), none, []⟩] [4]
theorem r19_21 : type_of% (@rr _ _ c19_21.eq_1) := rr rfl
def c19_22 : ACode := .seq c19_21 .ret
theorem r19_22 : type_of% (@rr _ _ c19_22.eq_1) := rr rfl
def c19_23 : ACode := .cond (.t 68) c19_22 .skip
theorem r19_23 : type_of% (@rr _ _ c19_23.eq_1) := rr rfl
def c19_24 : ACode := .seq c19_20 c19_23
theorem r19_24 : type_of% (@rr _ _ c19_24.eq_1) := rr rfl
def c19_25 : ACode := .ops [⟨some 69, .mv (.t 5), none, []⟩,⟨some 70, .fad (.t 8) 4, none, [8]⟩,⟨some 71, .load 1 false (.t 70), none, [8]⟩,⟨some 72, .ias (.t 69) (.t 71) 1, none, [5]⟩,⟨some 73, .load 1 false (.t 72), none, [5]⟩,⟨some 74, .bin .add (.t 73) (.c (.int .i64 1)), none, []⟩,⟨some 75, .ias (.t 69) (.t 71) 1, none, [5]⟩,⟨none, .store (.t 75) 1 (.t 74), none, [5]⟩] [0, 1, 5, 8, 23, 24, 25]
theorem r19_25 : type_of% (@rr _ _ c19_25.eq_1) := rr rfl
def c19_26 : ACode := .ops [⟨some 76, .mv (.t 5), none, []⟩,⟨some 77, .fad (.t 8) 5, none, [8]⟩,⟨some 78, .load 1 false (.t 77), none, [8]⟩,⟨some 79, .ias (.t 76) (.t 78) 1, none, [5]⟩,⟨some 80, .load 1 false (.t 79), none, [5]⟩,⟨some 81, .bin .add (.t 80) (.c (.int .i64 1)), none, []⟩,⟨some 82, .ias (.t 76) (.t 78) 1, none, [5]⟩,⟨none, .store (.t 82) 1 (.t 81), none, [5]⟩] [0, 1, 5, 23, 24, 25]
theorem r19_26 : type_of% (@rr _ _ c19_26.eq_1) := rr rfl
def c19_27 : ACode := .seq c19_25 c19_26
theorem r19_27 : type_of% (@rr _ _ c19_27.eq_1) := rr rfl
def c19_28 : ACode := .seq c19_24 c19_27
theorem r19_28 : type_of% (@rr _ _ c19_28.eq_1) := rr rfl
def c19_29 : ACode := .seq c19_19 c19_28
theorem r19_29 : type_of% (@rr _ _ c19_29.eq_1) := rr rfl
def c19_30 : ACode := .seq c19_16 c19_29
theorem r19_30 : type_of% (@rr _ _ c19_30.eq_1) := rr rfl
def c19_31 : ACode := .seq c19_11 c19_30
theorem r19_31 : type_of% (@rr _ _ c19_31.eq_1) := rr rfl
def c19_32 : ACode := .seq c19_10 c19_31
theorem r19_32 : type_of% (@rr _ _ c19_32.eq_1) := rr rfl
def c19_33 : ACode := .block 1 c19_32
theorem r19_33 : type_of% (@rr _ _ c19_33.eq_1) := rr rfl
def c19_34 : ACode := .ops [⟨some 83, .bin .add (.t 25) (.c (.int .i64 1)), none, []⟩,⟨some 25, .mv (.t 83), none, []⟩] [0, 1, 5, 23, 24, 25]
theorem r19_34 : type_of% (@rr _ _ c19_34.eq_1) := rr rfl
def c19_35 : ACode := .seq c19_33 c19_34
theorem r19_35 : type_of% (@rr _ _ c19_35.eq_1) := rr rfl
def c19_36 : ACode := .seq c19_9 c19_35
theorem r19_36 : type_of% (@rr _ _ c19_36.eq_1) := rr rfl
def c19_37 : ACode := .seq c19_8 c19_36
theorem r19_37 : type_of% (@rr _ _ c19_37.eq_1) := rr rfl
def c19_38 : ACode := .keep [0, 1, 5, 23, 24, 25] [5] c19_37
theorem r19_38 : type_of% (@rr _ _ c19_38.eq_1) := rr rfl
def c19_39 : ACode := .loop c19_38
theorem r19_39 : type_of% (@rr _ _ c19_39.eq_1) := rr rfl
def c19_40 : ACode := .block 0 c19_39
theorem r19_40 : type_of% (@rr _ _ c19_40.eq_1) := rr rfl
def c19_41 : ACode := .seq c19_7 c19_40
theorem r19_41 : type_of% (@rr _ _ c19_41.eq_1) := rr rfl
def c19_42 : ACode := .ops [⟨some 84, .mv (.t 5), none, []⟩,⟨some 85, .sl (.t 84) (some (.c (.int .i64 1))) none 1, none, [5]⟩,⟨some 86, .len (.t 85), none, [5]⟩,⟨some 87, .mv (.c (.int .i64 0)), none, []⟩] [85, 86, 87]
theorem r19_42 : type_of% (@rr _ _ c19_42.eq_1) := rr rfl
def c19_43 : ACode := .ops [⟨some 88, .bin .lss (.t 87) (.t 86), none, []⟩] [85, 86, 87, 88]
theorem r19_43 : type_of% (@rr _ _ c19_43.eq_1) := rr rfl
def c19_44 : ACode := .cond (.t 88) .skip (.exit 2)
theorem r19_44 : type_of% (@rr _ _ c19_44.eq_1) := rr rfl
def c19_45 : ACode := .ops [⟨some 89, .ias (.t 85) (.t 87) 1, none, [5]⟩,⟨some 90, .load 1 false (.t 89), none, [5]⟩,⟨some 11, .mv (.t 90), none, []⟩] [11, 85, 86, 87]
theorem r19_45 : type_of% (@rr _ _ c19_45.eq_1) := rr rfl
def c19_46 : ACode := .ops [⟨some 91, .mv (.t 11), none, []⟩,⟨some 92, .bin .neq (.t 91) (.c (.int .i64 1)), none, []⟩] [85, 86, 87, 92]
theorem r19_46 : type_of% (@rr _ _ c19_46.eq_1) := rr rfl
def c19_47 : ACode := .ops [⟨some 4, .mv (.c (.bool false)), none, []⟩] [4]
theorem r19_47 : type_of% (@rr _ _ c19_47.eq_1) := rr rfl
def c19_48 : ACode := .seq c19_47 .ret
theorem r19_48 : type_of% (@rr _ _ c19_48.eq_1) := rr rfl
def c19_49 : ACode := .cond (.t 92) c19_48 .skip
theorem r19_49 : type_of% (@rr _ _ c19_49.eq_1) := rr rfl
def c19_50 : ACode := .seq c19_46 c19_49
theorem r19_50 : type_of% (@rr _ _ c19_50.eq_1) := rr rfl
def c19_51 : ACode := .seq c19_45 c19_50
theorem r19_51 : type_of% (@rr _ _ c19_51.eq_1) := rr rfl
def c19_52 : ACode := .block 3 c19_51
theorem r19_52 : type_of% (@rr _ _ c19_52.eq_1) := rr rfl
def c19_53 : ACode := .ops [⟨some 93, .bin .add (.t 87) (.c (.int .i64 1)), none, []⟩,⟨some 87, .mv (.t 93), none, []⟩] [85, 86, 87]
theorem r19_53 : type_of% (@rr _ _ c19_53.eq_1) := rr rfl
def c19_54 : ACode := .seq c19_52 c19_53
theorem r19_54 : type_of% (@rr _ _ c19_54.eq_1) := rr rfl
def c19_55 : ACode := .seq c19_44 c19_54
theorem r19_55 : type_of% (@rr _ _ c19_55.eq_1) := rr rfl
def c19_56 : ACode := .seq c19_43 c19_55
theorem r19_56 : type_of% (@rr _ _ c19_56.eq_1) := rr rfl
def c19_57 : ACode := .keep [85, 86, 87] [5] c19_56
theorem r19_57 : type_of% (@rr _ _ c19_57.eq_1) := rr rfl
def c19_58 : ACode := .loop c19_57
theorem r19_58 : type_of% (@rr _ _ c19_58.eq_1) := rr rfl
def c19_59 : ACode := .block 2 c19_58
theorem r19_59 : type_of% (@rr _ _ c19_59.eq_1) := rr rfl
def c19_60 : ACode := .seq c19_42 c19_59
theorem r19_60 : type_of% (@rr _ _ c19_60.eq_1) := rr rfl
def c19_61 : ACode := .ops [⟨some 4, .mv (.c (.bool true)), none, []⟩] [4]
theorem r19_61 : type_of% (@rr _ _ c19_61.eq_1) := rr rfl
def c19_62 : ACode := .seq c19_61 .ret
theorem r19_62 : type_of% (@rr _ _ c19_62.eq_1) := rr rfl
def c19_63 : ACode := .seq c19_60 c19_62
theorem r19_63 : type_of% (@rr _ _ c19_63.eq_1) := rr rfl
def c19_64 : ACode := .seq c19_41 c19_63
theorem r19_64 : type_of% (@rr _ _ c19_64.eq_1) := rr rfl
def c19_65 : ACode := .seq c19_6 c19_64
theorem r19_65 : type_of% (@rr _ _ c19_65.eq_1) := rr rfl
def c19_66 : ACode := .seq c19_5 c19_65
theorem r19_66 : type_of% (@rr _ _ c19_66.eq_1) := rr rfl
def c19_67 : ACode := .seq c19_0 c19_66
theorem r19_67 : type_of% (@rr _ _ c19_67.eq_1) := rr rfl
def a19 : AFun := ⟨2, 94, c19_67, [.t 4]⟩
attribute [simp] r19_0 r19_1 r19_2 r19_3 r19_4 r19_5 r19_6 r19_7 r19_8 r19_9 r19_10 r19_11 r19_12 r19_13 r19_14 r19_15 r19_16 r19_17 r19_18 r19_19 r19_20 r19_21 r19_22 r19_23 r19_24 r19_25 r19_26 r19_27 r19_28 r19_29 r19_30 r19_31 r19_32 r19_33 r19_34 r19_35 r19_36 r19_37 r19_38 r19_39 r19_40 r19_41 r19_42 r19_43 r19_44 r19_45 r19_46 r19_47 r19_48 r19_49 r19_50 r19_51 r19_52 r19_53 r19_54 r19_55 r19_56 r19_57 r19_58 r19_59 r19_60 r19_61 r19_62 r19_63 r19_64 r19_65 r19_66 r19_67
theorem m19 : mFun Try.prog Try.f19 a19 = true := by decide +kernel
noncomputable def TreeRight (l : List Word) (dim : Int) : Option Bool := Part (RT l dim) true
def cnt (l : List Word) (i j : Nat) : Int := ((l.take i).countP (fun w => names (nd w) j) : Nat)
def cnts (l : List Word) (i : Nat) : List Int := (List.range l.length).map (cnt l i)
theorem cnts_len (l : List Word) (i : Nat) : (cnts l i).length = l.length := by simp [cnts]
theorem cnts_get (l : List Word) (i j : Nat) (h : j < (cnts l i).length) : (cnts l i)[j] = cnt l i j := by simp [cnts]
theorem cnt_succ {l : List Word} {i : Nat} (h : i < l.length) (j : Nat) : cnt l (i + 1) j = cnt l i j + (if names (ndAt l i) j then 1 else 0) := by
  unfold cnt
  rw [List.take_succ_eq_append_getElem h, List.countP_append, ndAt_lt h]
  simp only [List.countP_cons, List.countP_nil]
  split <;> simp
theorem cnt_le (l : List Word) (i j : Nat) : 0 ≤ cnt l i j ∧ cnt l i j ≤ l.length := by
  unfold cnt
  have := List.countP_le_length (p := fun w => names (nd w) j) (l := l.take i)
  simp at this
  omega
theorem cnts_zero (l : List Word) : cnts l 0 = List.replicate l.length 0 := by
  apply List.ext_getElem
  · simp [cnts]
  · intro j h1 h2
    rw [cnts_get]
    simp [cnt]
theorem cnts_leaf {l : List Word} {i : Nat} (h : i < l.length) (hl : (ndAt l i).leaf = true) : cnts l (i + 1) = cnts l i := by
  apply List.ext_getElem
  · simp [cnts]
  · intro j h1 h2
    rw [cnts_get, cnts_get, cnt_succ h]
    simp [names, hl]
theorem cnts_inner {l : List Word} {dim : Int} (hr : RT l dim) {i : Nat} (h : i < l.length) (hl : (ndAt l i).leaf = false) :
    cnts l (i + 1) = ((cnts l i).set (ndAt l i).left.toNat (cnt l i (ndAt l i).left.toNat + 1)).set (ndAt l i).right.toNat (cnt l i (ndAt l i).right.toNat + 1) := by
  have ha := hr.at h hl
  apply List.ext_getElem
  · simp [cnts]
  · intro j h1 h2
    rw [cnts_get, cnt_succ h, List.getElem_set, List.getElem_set]
    simp only [cnts_get, names, hl, Bool.not_false, Bool.true_and, Bool.or_eq_true, decide_eq_true_eq]
    by_cases e1 : (ndAt l i).right.toNat = j
    · rw [if_pos e1, if_pos (by omega), e1]
    · rw [if_neg e1]
      by_cases e2 : (ndAt l i).left.toNat = j
      · rw [if_pos e2, if_pos (by omega), e2]
      · rw [if_neg e2, if_neg (by omega)]
        omega
theorem unpack_at {l : List Word} {dim : Int} (h : RT l dim) {i : Nat} (hi : i < l.length) : Unpack ⟨l[i].v⟩ = some (ndAt l i, true) := by
  have := h.ok i hi
  unfold Unpack
  have h1 : 0 ≤ (⟨l[i].v⟩ : Word).v ∧ (⟨l[i].v⟩ : Word).v < 18446744073709551616 := this.1
  rw [if_pos h1]
  have e : (⟨l[i].v⟩ : Word) = l[i] := rfl
  rw [e]
  congr 1
  rw [ndAt_lt hi]
  exact Prod.ext rfl this.2
theorem runs_tRight (l : List Word) (dim : Int) (c : Bool) (h : TreeRight l dim = some c) : Runs (tbl [(20, sp1 Unpack)]) a19 [Arg.enc l, Arg.enc dim] (Arg.enc c) := by
  obtain ⟨hr, rfl⟩ := part_some h
  refine ⟨rfl, fun g => run_def ?_⟩
  unfold a19
  have hp := hr.pos
  have hle := hr.le
  have b1 : ¬ (l.length : Int) < 1 := by omega
  have b2 : ¬ (l.length : Int) > 31 := by omega
  have b3 : l.length ≤ maxN := by unfold maxN; omega
  have b4 : (l.length : Int) ≤ 1099511627776 := by omega
  simp -implicitDefEqProofs [b1, b2, b3, b4, rep_ints]
  rw [rep_cells]
  refine run_while (c := c19_37) (fun m s => ∃ (i : Nat) (g : Nat → Nat), i + m = l.length ∧ s = ⟨[(0, .lst l.length (encL l)), (1, .int .i64 dim), (5, .own 5 (g 5) 0 l.length), (23, .lst l.length (encL l)), (24, .int .i64 l.length), (25, .int .i64 i)], [(5, ⟨encL (cnts l i), false, 1⟩)], g⟩) l.length ⟨0, bump 5 g, by omega, by simp [cnts_zero]⟩ ?_
  rintro m s ⟨i, g, hi, rfl⟩
  by_cases h1 : i < l.length
  case pos =>
    have hU := unpack_at hr h1
    have w1 : IntKind.i64.wrap ((i : Int) + 1) = (i : Int) + 1 := wrap64 (by omega) (by omega)
    cases hl : (ndAt l i).leaf
    case true =>
      simp -implicitDefEqProofs [h1, rd_words, hU, hl, w1]
      exact ⟨m - 1, by omega, i + 1, by omega, by omega, by rw [cnts_leaf h1 hl]⟩
    case false =>
      have ha := hr.at h1 hl
      have e1 : ¬ dim ≤ (ndAt l i).feature := by omega
      have e2 : ¬ (ndAt l i).left = (ndAt l i).right := ha.2.1
      have e3 : ¬ (if (ndAt l i).right < (ndAt l i).left then (ndAt l i).right else (ndAt l i).left) ≤ (i : Int) := by split <;> omega
      have e4 : ¬ (l.length : Int) ≤ (if (ndAt l i).left < (ndAt l i).right then (ndAt l i).right else (ndAt l i).left) := by split <;> omega
      have e5 : ¬ (ndAt l i).left.toNat = (ndAt l i).right.toNat := by omega
      have f1 : 0 ≤ (ndAt l i).left := by omega
      have f2 : (ndAt l i).left < l.length := by omega
      have f3 : 0 ≤ (ndAt l i).right := by omega
      have f4 : (ndAt l i).right < l.length := by omega
      have f5 : (ndAt l i).left.toNat < l.length := by omega
      have f6 : (ndAt l i).right.toNat < l.length := by omega
      have n1 := cnt_le l i (ndAt l i).left.toNat
      have n2 := cnt_le l i (ndAt l i).right.toNat
      have w2 : IntKind.i64.wrap (cnt l i (ndAt l i).left.toNat + 1) = cnt l i (ndAt l i).left.toNat + 1 := wrap64 (by omega) (by omega)
      have w3 : IntKind.i64.wrap (cnt l i (ndAt l i).right.toNat + 1) = cnt l i (ndAt l i).right.toNat + 1 := wrap64 (by omega) (by omega)
      simp -implicitDefEqProofs [h1, rd_words, hU, hl, w1, b3, e1, e2, e3, e4, e5, f1, f2, f3, f4, f5, f6, cnts_len, cnts_get, rd_ints, wr_ints, encL_length, w2, w3]
      exact ⟨fun _ => ⟨fun _ => ⟨m - 1, by omega, i + 1, by omega, by omega, by rw [cnts_inner hr h1 hl]⟩, by omega⟩, by omega⟩
  case neg =>
    have hil : i = l.length := by omega
    subst hil
    have p1 : (1 : Int) ≤ l.length := by omega
    have p2 : l.length - 1 ≤ maxN := by omega
    simp -implicitDefEqProofs [p1, p2]
    refine run_while (c := c19_56) (fun m s => ∃ (i : Nat), i + m = l.length - 1 ∧ s = ⟨[(85, .own 5 (g 5) 1 (l.length - 1)), (86, .int .i64 (l.length - 1 : Nat)), (87, .int .i64 i)], [(5, ⟨encL (cnts l l.length), false, 1⟩)], g⟩) (l.length - 1) ⟨0, by omega, by simp⟩ ?_
    rintro m s ⟨i, hi, rfl⟩
    by_cases h1 : (i : Int) < (l.length - 1 : Nat)
    case pos =>
      have w1 : IntKind.i64.wrap ((i : Int) + 1) = (i : Int) + 1 := wrap64 (by omega) (by omega)
      have q1 : 1 + i < l.length := by omega
      have hc : cnt l l.length (1 + i) = 1 := by
        unfold cnt
        rw [List.take_length, hr.once (1 + i) (by omega) q1]
        rfl
      simp -implicitDefEqProofs [h1, rd_ints, cnts_len, cnts_get, w1, q1, hc]
      exact ⟨m - 1, by omega, i + 1, by omega, by omega⟩
    case neg =>
      simp -implicitDefEqProofs [h1]
theorem c_tRight : Contract Try.prog 19 (sp2 TreeRight) :=
  contract_of_runs mixed (tbl_cons c_Unpack tbl_nil) Try.func19 m19 (sp2_runs runs_tRight)
end Go.Co
/- CO: values, sums. -/
set_option maxHeartbeats 16000000
set_option maxRecDepth 100000
namespace Go.Co
open Go.Am Go.Proofs
set_option linter.unusedSimpArgs false
set_option linter.unusedVariables false
def c147_0 : ACode := .ops [⟨some 3, .box (.t 1) 4, none, []⟩,⟨some 4, .mv (.c (.int .i64 0)), none, []⟩,⟨some 5, .alloc [.bool false, .int .i64 0, .int .i64 0, .int .i64 0, .int .i64 0, .int .i64 0], none, []⟩] [0, 3, 5]
theorem r147_0 : type_of% (@rr _ _ c147_0.eq_1) := rr rfl
def c147_1 : ACode := .ops [⟨some 6, .mv (.c (.int .i64 0)), none, []⟩] [0, 3, 5, 6]
theorem r147_1 : type_of% (@rr _ _ c147_1.eq_1) := rr rfl
def c147_2 : ACode := .ops [⟨some 9, .mv (.c (.int .i64 0)), none, []⟩] [0, 3, 5, 6, 9]
theorem r147_2 : type_of% (@rr _ _ c147_2.eq_1) := rr rfl
def c147_3 : ACode := .ops [⟨some 10, .bin .lss (.t 9) (.c (.int .i64 31)), none, []⟩] [0, 3, 5, 6, 9, 10]
theorem r147_3 : type_of% (@rr _ _ c147_3.eq_1) := rr rfl
def c147_4 : ACode := .cond (.t 10) .skip (.exit 0)
theorem r147_4 : type_of% (@rr _ _ c147_4.eq_1) := rr rfl
def c147_5 : ACode := .ops [⟨some 11, .mv (.t 6), none, []⟩,⟨some 12, .mv (.t 0), none, []⟩,⟨some 13, .len (.t 12), none, []⟩,⟨some 14, .bin .geq (.t 11) (.t 13), none, []⟩] [0, 3, 5, 6, 9, 14]
theorem r147_5 : type_of% (@rr _ _ c147_5.eq_1) := rr rfl
def c147_6 : ACode := .cond (.t 14) (.exit 0) .skip
theorem r147_6 : type_of% (@rr _ _ c147_6.eq_1) := rr rfl
def c147_7 : ACode := .seq c147_5 c147_6
theorem r147_7 : type_of% (@rr _ _ c147_7.eq_1) := rr rfl
def c147_8 : ACode := .ops [⟨some 16, .mv (.t 0), none, []⟩,⟨some 17, .mv (.t 6), none, []⟩,⟨some 18, .ias (.t 16) (.t 17) 1, none, []⟩,⟨some 19, .load 1 false (.t 18), none, []⟩,⟨some 20, .call 20 [.t 19], none, []⟩,⟨some 15, .mv (.t 20), none, []⟩,⟨some 21, .ext (.t 15) 0, none, []⟩,⟨some 22, .ext (.t 15) 1, none, []⟩,⟨some 7, .alloc [.bool false, .int .i64 0, .int .i64 0, .int .i64 0, .int .i64 0, .int .i64 0], none, []⟩,⟨none, .store (.t 7) 6 (.t 21), none, [7]⟩,⟨some 8, .mv (.t 22), none, []⟩] [0, 3, 5, 6, 7, 8, 9]
theorem r147_8 : type_of% (@rr _ _ c147_8.eq_1) := rr rfl
def c147_9 : ACode := .ops [⟨some 26, .mv (.t 8), none, []⟩,⟨some 27, .un .not (.t 26), none, []⟩,⟨some 25, .mv (.t 27), none, []⟩] [0, 3, 5, 6, 7, 9, 25]
theorem r147_9 : type_of% (@rr _ _ c147_9.eq_1) := rr rfl
def c147_10 : ACode := .ops [⟨some 28, .build [.bool false, .int .i64 0, .int .i64 0, .int .i64 0, .int .i64 0, .int .i64 0] [], none, []⟩,⟨some 4, .mv (.c (.int .i64 (-1))), none, []⟩,⟨none, .store (.t 5) 6 (.t 28), none, [5]⟩] [4, 5]
theorem r147_10 : type_of% (@rr _ _ c147_10.eq_1) := rr rfl
def c147_11 : ACode := .seq c147_10 .ret
theorem r147_11 : type_of% (@rr _ _ c147_11.eq_1) := rr rfl
def c147_12 : ACode := .ops [⟨some 30, .fad (.t 7) 0, none, [7]⟩,⟨some 31, .load 1 false (.t 30), none, [7]⟩,⟨some 29, .mv (.t 31), none, []⟩] [0, 3, 5, 6, 7, 9, 29]
theorem r147_12 : type_of% (@rr _ _ c147_12.eq_1) := rr rfl
def c147_13 : ACode := .ops [⟨some 32, .mv (.t 6), none, []⟩,⟨some 33, .load 6 true (.t 7), none, [7]⟩,⟨some 4, .mv (.t 32), none, []⟩,⟨none, .store (.t 5) 6 (.t 33), none, [5]⟩] [4, 5]
theorem r147_13 : type_of% (@rr _ _ c147_13.eq_1) := rr rfl
def c147_14 : ACode := .seq c147_13 .ret
theorem r147_14 : type_of% (@rr _ _ c147_14.eq_1) := rr rfl
def c147_15 : ACode := .ops [⟨some 35, .fad (.t 7) 2, none, [7]⟩,⟨some 36, .load 1 false (.t 35), none, [7]⟩,⟨some 37, .iad (.t 3) (.t 36) 1 4, none, [3]⟩,⟨some 38, .load 1 false (.t 37), none, [3]⟩,⟨some 39, .fad (.t 7) 3, none, [7]⟩,⟨some 40, .load 1 false (.t 39), none, [7]⟩,⟨some 41, .bin .leq (.t 38) (.t 40), none, []⟩,⟨some 34, .mv (.t 41), none, []⟩] [0, 3, 5, 7, 9, 34]
theorem r147_15 : type_of% (@rr _ _ c147_15.eq_1) := rr rfl
def c147_16 : ACode := .ops [⟨some 42, .fad (.t 7) 4, none, [7]⟩,⟨some 43, .load 1 false (.t 42), none, [7]⟩,⟨some 6, .mv (.t 43), none, []⟩] [0, 3, 5, 6, 9]
theorem r147_16 : type_of% (@rr _ _ c147_16.eq_1) := rr rfl
def c147_17 : ACode := .ops [⟨some 23, .fad (.t 7) 5, none, [7]⟩,⟨some 24, .load 1 false (.t 23), none, [7]⟩,⟨some 6, .mv (.t 24), none, []⟩] [0, 3, 5, 6, 9]
theorem r147_17 : type_of% (@rr _ _ c147_17.eq_1) := rr rfl
def c147_18 : ACode := .cond (.t 34) c147_16 c147_17
theorem r147_18 : type_of% (@rr _ _ c147_18.eq_1) := rr rfl
def c147_19 : ACode := .seq c147_15 c147_18
theorem r147_19 : type_of% (@rr _ _ c147_19.eq_1) := rr rfl
def c147_20 : ACode := .cond (.t 29) c147_14 c147_19
theorem r147_20 : type_of% (@rr _ _ c147_20.eq_1) := rr rfl
def c147_21 : ACode := .seq c147_12 c147_20
theorem r147_21 : type_of% (@rr _ _ c147_21.eq_1) := rr rfl
def c147_22 : ACode := .cond (.t 25) c147_11 c147_21
theorem r147_22 : type_of% (@rr _ _ c147_22.eq_1) := rr rfl
def c147_23 : ACode := .seq c147_9 c147_22
theorem r147_23 : type_of% (@rr _ _ c147_23.eq_1) := rr rfl
def c147_24 : ACode := .block 2 c147_23
theorem r147_24 : type_of% (@rr _ _ c147_24.eq_1) := rr rfl
def c147_25 : ACode := .seq c147_8 c147_24
theorem r147_25 : type_of% (@rr _ _ c147_25.eq_1) := rr rfl
def c147_26 : ACode := .seq c147_7 c147_25
theorem r147_26 : type_of% (@rr _ _ c147_26.eq_1) := rr rfl
def c147_27 : ACode := .block 1 c147_26
theorem r147_27 : type_of% (@rr _ _ c147_27.eq_1) := rr rfl
def c147_28 : ACode := .ops [⟨some 44, .bin .add (.t 9) (.c (.int .i64 1)), none, []⟩,⟨some 9, .mv (.t 44), none, []⟩] [0, 3, 5, 6, 9]
theorem r147_28 : type_of% (@rr _ _ c147_28.eq_1) := rr rfl
def c147_29 : ACode := .seq c147_27 c147_28
theorem r147_29 : type_of% (@rr _ _ c147_29.eq_1) := rr rfl
def c147_30 : ACode := .seq c147_4 c147_29
theorem r147_30 : type_of% (@rr _ _ c147_30.eq_1) := rr rfl
def c147_31 : ACode := .seq c147_3 c147_30
theorem r147_31 : type_of% (@rr _ _ c147_31.eq_1) := rr rfl
def c147_32 : ACode := .keep [0, 3, 5, 6, 9] [3, 5] c147_31
theorem r147_32 : type_of% (@rr _ _ c147_32.eq_1) := rr rfl
def c147_33 : ACode := .loop c147_32
theorem r147_33 : type_of% (@rr _ _ c147_33.eq_1) := rr rfl
def c147_34 : ACode := .block 0 c147_33
theorem r147_34 : type_of% (@rr _ _ c147_34.eq_1) := rr rfl
def c147_35 : ACode := .seq c147_2 c147_34
theorem r147_35 : type_of% (@rr _ _ c147_35.eq_1) := rr rfl
def c147_36 : ACode := .ops [⟨some 45, .build [.bool false, .int .i64 0, .int .i64 0, .int .i64 0, .int .i64 0, .int .i64 0] [], none, []⟩,⟨some 4, .mv (.c (.int .i64 (-1))), none, []⟩,⟨none, .store (.t 5) 6 (.t 45), none, [5]⟩] [4, 5]
theorem r147_36 : type_of% (@rr _ _ c147_36.eq_1) := rr rfl
def c147_37 : ACode := .seq c147_36 .ret
theorem r147_37 : type_of% (@rr _ _ c147_37.eq_1) := rr rfl
def c147_38 : ACode := .seq c147_35 c147_37
theorem r147_38 : type_of% (@rr _ _ c147_38.eq_1) := rr rfl
def c147_39 : ACode := .seq c147_1 c147_38
theorem r147_39 : type_of% (@rr _ _ c147_39.eq_1) := rr rfl
def c147_40 : ACode := .seq c147_0 c147_39
theorem r147_40 : type_of% (@rr _ _ c147_40.eq_1) := rr rfl
def a147 : AFun := ⟨2, 46, c147_40, [.t 4, .cell 5 6 true]⟩
attribute [simp] r147_0 r147_1 r147_2 r147_3 r147_4 r147_5 r147_6 r147_7 r147_8 r147_9 r147_10 r147_11 r147_12 r147_13 r147_14 r147_15 r147_16 r147_17 r147_18 r147_19 r147_20 r147_21 r147_22 r147_23 r147_24 r147_25 r147_26 r147_27 r147_28 r147_29 r147_30 r147_31 r147_32 r147_33 r147_34 r147_35 r147_36 r147_37 r147_38 r147_39 r147_40
theorem m147 : mFun Try.prog Try.f147 a147 = true := by decide +kernel
def c125_0 : ACode := .ops [⟨some 3, .box (.t 1) 4, none, []⟩,⟨some 4, .mv (.c (.int .i64 0)), none, []⟩] [0, 3]
theorem r125_0 : type_of% (@rr _ _ c125_0.eq_1) := rr rfl
def c125_1 : ACode := .ops [⟨some 8, .mv (.t 0), none, []⟩,⟨some 9, .load 4 true (.t 3), none, [3]⟩,⟨some 10, .call 147 [.t 8, .t 9], none, []⟩,⟨some 7, .mv (.t 10), none, []⟩,⟨some 11, .ext (.t 7) 0, none, []⟩,⟨some 12, .ext (.t 7) 1, none, []⟩,⟨some 6, .alloc [.bool false, .int .i64 0, .int .i64 0, .int .i64 0, .int .i64 0, .int .i64 0], none, []⟩,⟨some 5, .mv (.t 11), none, []⟩,⟨none, .store (.t 6) 6 (.t 12), none, [6]⟩] [6]
theorem r125_1 : type_of% (@rr _ _ c125_1.eq_1) := rr rfl
def c125_2 : ACode := .ops [⟨some 13, .fad (.t 6) 1, none, [6]⟩,⟨some 14, .load 1 false (.t 13), none, [6]⟩,⟨some 4, .mv (.t 14), none, []⟩] [4]
theorem r125_2 : type_of% (@rr _ _ c125_2.eq_1) := rr rfl
def c125_3 : ACode := .seq c125_2 .ret
theorem r125_3 : type_of% (@rr _ _ c125_3.eq_1) := rr rfl
def c125_4 : ACode := .seq c125_1 c125_3
theorem r125_4 : type_of% (@rr _ _ c125_4.eq_1) := rr rfl
def c125_5 : ACode := .seq c125_0 c125_4
theorem r125_5 : type_of% (@rr _ _ c125_5.eq_1) := rr rfl
def a125 : AFun := ⟨2, 15, c125_5, [.t 4]⟩
attribute [simp] r125_0 r125_1 r125_2 r125_3 r125_4 r125_5
theorem m125 : mFun Try.prog Try.f125 a125 = true := by decide +kernel
def c78_0 : ACode := .ops [⟨some 3, .box (.t 0) 6, none, []⟩,⟨some 5, .box (.t 2) 4, none, []⟩,⟨some 6, .mv (.c (.int .i64 0)), none, []⟩] [1, 3, 5]
theorem r78_0 : type_of% (@rr _ _ c78_0.eq_1) := rr rfl
def c78_1 : ACode := .ops [⟨some 10, .mv (.t 1), none, []⟩,⟨some 11, .fad (.t 3) 2, none, [3]⟩,⟨some 12, .iad (.t 11) (.t 10) 1 3, none, [3]⟩,⟨some 13, .load 1 false (.t 12), none, [3]⟩,⟨some 7, .mv (.t 13), none, []⟩] [1, 3, 5, 7]
theorem r78_1 : type_of% (@rr _ _ c78_1.eq_1) := rr rfl
def c78_2 : ACode := .ops [⟨some 14, .fad (.t 3) 5, none, [3]⟩,⟨some 15, .load 1 false (.t 14), none, [3]⟩,⟨some 16, .len (.t 15), none, []⟩,⟨some 17, .mv (.c (.int .i64 0)), none, []⟩] [1, 5, 7, 15, 16, 17]
theorem r78_2 : type_of% (@rr _ _ c78_2.eq_1) := rr rfl
def c78_3 : ACode := .ops [⟨some 18, .bin .lss (.t 17) (.t 16), none, []⟩] [1, 5, 7, 15, 16, 17, 18]
theorem r78_3 : type_of% (@rr _ _ c78_3.eq_1) := rr rfl
def c78_4 : ACode := .cond (.t 18) .skip (.exit 0)
theorem r78_4 : type_of% (@rr _ _ c78_4.eq_1) := rr rfl
def c78_5 : ACode := .ops [⟨some 19, .ias (.t 15) (.t 17) 2, none, []⟩,⟨some 20, .load 2 true (.t 19), none, []⟩,⟨some 9, .alloc [.int .i64 0, .nils], none, []⟩,⟨none, .store (.t 9) 2 (.t 20), none, [9]⟩] [1, 5, 7, 9, 15, 16, 17]
theorem r78_5 : type_of% (@rr _ _ c78_5.eq_1) := rr rfl
def c78_6 : ACode := .ops [⟨some 21, .fad (.t 9) 0, none, [9]⟩,⟨some 22, .load 1 false (.t 21), none, [9]⟩,⟨some 23, .mv (.t 1), none, []⟩,⟨some 24, .bin .eql (.t 22) (.t 23), none, []⟩] [1, 5, 7, 9, 15, 16, 17, 24]
theorem r78_6 : type_of% (@rr _ _ c78_6.eq_1) := rr rfl
def c78_7 : ACode := .ops [⟨some 25, .mv (.t 7), none, []⟩,⟨some 26, .fad (.t 9) 1, none, [9]⟩,⟨some 27, .load 1 false (.t 26), none, [9]⟩,⟨some 28, .load 4 true (.t 5), none, [5]⟩,⟨some 29, .call 125 [.t 27, .t 28], none, []⟩,⟨some 30, .bin .add (.t 25) (.t 29), none, []⟩,⟨some 7, .mv (.t 30), none, []⟩] [1, 5, 7, 15, 16, 17]
theorem r78_7 : type_of% (@rr _ _ c78_7.eq_1) := rr rfl
def c78_8 : ACode := .cond (.t 24) c78_7 .skip
theorem r78_8 : type_of% (@rr _ _ c78_8.eq_1) := rr rfl
def c78_9 : ACode := .seq c78_6 c78_8
theorem r78_9 : type_of% (@rr _ _ c78_9.eq_1) := rr rfl
def c78_10 : ACode := .seq c78_5 c78_9
theorem r78_10 : type_of% (@rr _ _ c78_10.eq_1) := rr rfl
def c78_11 : ACode := .block 1 c78_10
theorem r78_11 : type_of% (@rr _ _ c78_11.eq_1) := rr rfl
def c78_12 : ACode := .ops [⟨some 31, .bin .add (.t 17) (.c (.int .i64 1)), none, []⟩,⟨some 17, .mv (.t 31), none, []⟩] [1, 5, 7, 15, 16, 17]
theorem r78_12 : type_of% (@rr _ _ c78_12.eq_1) := rr rfl
def c78_13 : ACode := .seq c78_11 c78_12
theorem r78_13 : type_of% (@rr _ _ c78_13.eq_1) := rr rfl
def c78_14 : ACode := .seq c78_4 c78_13
theorem r78_14 : type_of% (@rr _ _ c78_14.eq_1) := rr rfl
def c78_15 : ACode := .seq c78_3 c78_14
theorem r78_15 : type_of% (@rr _ _ c78_15.eq_1) := rr rfl
def c78_16 : ACode := .keep [1, 5, 7, 15, 16, 17] [5] c78_15
theorem r78_16 : type_of% (@rr _ _ c78_16.eq_1) := rr rfl
def c78_17 : ACode := .loop c78_16
theorem r78_17 : type_of% (@rr _ _ c78_17.eq_1) := rr rfl
def c78_18 : ACode := .block 0 c78_17
theorem r78_18 : type_of% (@rr _ _ c78_18.eq_1) := rr rfl
def c78_19 : ACode := .seq c78_2 c78_18
theorem r78_19 : type_of% (@rr _ _ c78_19.eq_1) := rr rfl
def c78_20 : ACode := .ops [⟨some 32, .mv (.t 7), none, []⟩,⟨some 6, .mv (.t 32), none, []⟩] [6]
theorem r78_20 : type_of% (@rr _ _ c78_20.eq_1) := rr rfl
def c78_21 : ACode := .seq c78_20 .ret
theorem r78_21 : type_of% (@rr _ _ c78_21.eq_1) := rr rfl
def c78_22 : ACode := .seq c78_19 c78_21
theorem r78_22 : type_of% (@rr _ _ c78_22.eq_1) := rr rfl
def c78_23 : ACode := .seq c78_1 c78_22
theorem r78_23 : type_of% (@rr _ _ c78_23.eq_1) := rr rfl
def c78_24 : ACode := .seq c78_0 c78_23
theorem r78_24 : type_of% (@rr _ _ c78_24.eq_1) := rr rfl
def a78 : AFun := ⟨3, 33, c78_24, [.t 6]⟩
attribute [simp] r78_0 r78_1 r78_2 r78_3 r78_4 r78_5 r78_6 r78_7 r78_8 r78_9 r78_10 r78_11 r78_12 r78_13 r78_14 r78_15 r78_16 r78_17 r78_18 r78_19 r78_20 r78_21 r78_22 r78_23 r78_24
theorem m78 : mFun Try.prog Try.f78 a78 = true := by decide +kernel
def c28_0 : ACode := .ops [⟨some 3, .box (.t 0) 6, none, []⟩,⟨some 5, .box (.t 2) 4, none, []⟩,⟨some 6, .mv (.c (.int .i64 0)), none, []⟩] [1, 3, 5]
theorem r28_0 : type_of% (@rr _ _ c28_0.eq_1) := rr rfl
def c28_1 : ACode := .ops [⟨some 7, .load 6 true (.t 3), none, [3]⟩,⟨some 8, .call 27 [.t 7], none, []⟩,⟨some 9, .un .not (.t 8), none, []⟩,⟨some 10, .mv (.t 9), none, []⟩,⟨some 11, .mv (.t 1), some (10, false), []⟩,⟨some 12, .bin .lss (.t 11) (.c (.int .i64 0)), some (10, false), []⟩,⟨some 13, .pick (.t 10) (.c (.bool true)) (.t 12), none, []⟩,⟨some 14, .mv (.t 13), none, []⟩,⟨some 15, .mv (.t 1), some (14, false), []⟩,⟨some 16, .fad (.t 3) 1, some (14, false), [3]⟩,⟨some 17, .load 1 false (.t 16), some (14, false), [3]⟩,⟨some 18, .bin .geq (.t 15) (.t 17), some (14, false), []⟩,⟨some 19, .pick (.t 14) (.c (.bool true)) (.t 18), none, []⟩] [1, 3, 5, 19]
theorem r28_1 : type_of% (@rr _ _ c28_1.eq_1) := rr rfl
def c28_2 : ACode := .ops [⟨some 6, .mv (.c (.int .i64 0)), none, []⟩] [6]
theorem r28_2 : type_of% (@rr _ _ c28_2.eq_1) := rr rfl
def c28_3 : ACode := .seq c28_2 .ret
theorem r28_3 : type_of% (@rr _ _ c28_3.eq_1) := rr rfl
def c28_4 : ACode := .cond (.t 19) c28_3 .skip
theorem r28_4 : type_of% (@rr _ _ c28_4.eq_1) := rr rfl
def c28_5 : ACode := .seq c28_1 c28_4
theorem r28_5 : type_of% (@rr _ _ c28_5.eq_1) := rr rfl
def c28_6 : ACode := .ops [⟨some 20, .load 6 true (.t 3), none, [3]⟩,⟨some 21, .mv (.t 1), none, []⟩,⟨some 22, .load 4 true (.t 5), none, [5]⟩,⟨some 23, .call 78 [.t 20, .t 21, .t 22], none, []⟩,⟨some 6, .mv (.t 23), none, []⟩] [6]
theorem r28_6 : type_of% (@rr _ _ c28_6.eq_1) := rr rfl
def c28_7 : ACode := .seq c28_6 .ret
theorem r28_7 : type_of% (@rr _ _ c28_7.eq_1) := rr rfl
def c28_8 : ACode := .seq c28_5 c28_7
theorem r28_8 : type_of% (@rr _ _ c28_8.eq_1) := rr rfl
def c28_9 : ACode := .seq c28_0 c28_8
theorem r28_9 : type_of% (@rr _ _ c28_9.eq_1) := rr rfl
def a28 : AFun := ⟨3, 24, c28_9, [.t 6]⟩
attribute [simp] r28_0 r28_1 r28_2 r28_3 r28_4 r28_5 r28_6 r28_7 r28_8 r28_9
theorem m28 : mFun Try.prog Try.f28 a28 = true := by decide +kernel
def c77_0 : ACode := .ops [⟨some 2, .box (.t 0) 2, none, []⟩,⟨some 3, .mv (.c (.bool false)), none, []⟩] [1, 2]
theorem r77_0 : type_of% (@rr _ _ c77_0.eq_1) := rr rfl
def c77_1 : ACode := .ops [⟨some 4, .fad (.t 2) 0, none, [2]⟩,⟨some 5, .load 1 false (.t 4), none, [2]⟩,⟨some 6, .bin .lss (.t 5) (.c (.int .i64 0)), none, []⟩,⟨some 7, .mv (.t 6), none, []⟩,⟨some 8, .fad (.t 2) 0, some (7, false), [2]⟩,⟨some 9, .load 1 false (.t 8), some (7, false), [2]⟩,⟨some 10, .fad (.t 1) 1, some (7, false), []⟩,⟨some 11, .load 1 false (.t 10), some (7, false), []⟩,⟨some 12, .bin .geq (.t 9) (.t 11), some (7, false), []⟩,⟨some 13, .pick (.t 7) (.c (.bool true)) (.t 12), none, []⟩,⟨some 14, .mv (.t 13), none, []⟩,⟨some 15, .fad (.t 2) 1, some (14, false), [2]⟩,⟨some 16, .load 1 false (.t 15), some (14, false), [2]⟩,⟨some 17, .fad (.t 1) 0, some (14, false), []⟩,⟨some 18, .load 1 false (.t 17), some (14, false), []⟩,⟨some 19, .call 19 [.t 16, .t 18], some (14, false), []⟩,⟨some 20, .un .not (.t 19), some (14, false), []⟩,⟨some 21, .pick (.t 14) (.c (.bool true)) (.t 20), none, []⟩,⟨some 3, .mv (.t 21), none, []⟩] [3]
theorem r77_1 : type_of% (@rr _ _ c77_1.eq_1) := rr rfl
def c77_2 : ACode := .seq c77_1 .ret
theorem r77_2 : type_of% (@rr _ _ c77_2.eq_1) := rr rfl
def c77_3 : ACode := .seq c77_0 c77_2
theorem r77_3 : type_of% (@rr _ _ c77_3.eq_1) := rr rfl
def a77 : AFun := ⟨2, 22, c77_3, [.t 3]⟩
attribute [simp] r77_0 r77_1 r77_2 r77_3
theorem m77 : mFun Try.prog Try.f77 a77 = true := by decide +kernel
def c124_0 : ACode := .ops [⟨some 4, .mv (.c (.int .i64 0)), none, []⟩] [0, 1]
theorem r124_0 : type_of% (@rr _ _ c124_0.eq_1) := rr rfl
def c124_1 : ACode := .ops [⟨some 6, .mv (.t 0), none, []⟩,⟨some 7, .len (.t 6), none, []⟩,⟨some 8, .mv (.c (.int .i64 0)), none, []⟩] [0, 1, 7, 8]
theorem r124_1 : type_of% (@rr _ _ c124_1.eq_1) := rr rfl
def c124_2 : ACode := .ops [⟨some 9, .bin .lss (.t 8) (.t 7), none, []⟩] [0, 1, 7, 8, 9]
theorem r124_2 : type_of% (@rr _ _ c124_2.eq_1) := rr rfl
def c124_3 : ACode := .cond (.t 9) .skip (.exit 0)
theorem r124_3 : type_of% (@rr _ _ c124_3.eq_1) := rr rfl
def c124_4 : ACode := .ops [⟨some 10, .mv (.t 8), none, []⟩,⟨some 5, .mv (.t 10), none, []⟩] [0, 1, 5, 7, 8]
theorem r124_4 : type_of% (@rr _ _ c124_4.eq_1) := rr rfl
def c124_5 : ACode := .ops [⟨some 11, .mv (.t 1), none, []⟩,⟨some 12, .mv (.t 0), none, []⟩,⟨some 13, .mv (.t 5), none, []⟩,⟨some 14, .ias (.t 12) (.t 13) 2, none, []⟩,⟨some 15, .load 2 true (.t 14), none, []⟩,⟨some 16, .dyn (.t 11) [.t 15], none, []⟩] [0, 1, 5, 7, 8, 16]
theorem r124_5 : type_of% (@rr _ _ c124_5.eq_1) := rr rfl
def c124_6 : ACode := .ops [⟨some 17, .mv (.t 5), none, []⟩,⟨some 4, .mv (.t 17), none, []⟩] [4]
theorem r124_6 : type_of% (@rr _ _ c124_6.eq_1) := rr rfl
def c124_7 : ACode := .seq c124_6 .ret
theorem r124_7 : type_of% (@rr _ _ c124_7.eq_1) := rr rfl
def c124_8 : ACode := .cond (.t 16) c124_7 .skip
theorem r124_8 : type_of% (@rr _ _ c124_8.eq_1) := rr rfl
def c124_9 : ACode := .seq c124_5 c124_8
theorem r124_9 : type_of% (@rr _ _ c124_9.eq_1) := rr rfl
def c124_10 : ACode := .seq c124_4 c124_9
theorem r124_10 : type_of% (@rr _ _ c124_10.eq_1) := rr rfl
def c124_11 : ACode := .block 1 c124_10
theorem r124_11 : type_of% (@rr _ _ c124_11.eq_1) := rr rfl
def c124_12 : ACode := .ops [⟨some 18, .bin .add (.t 8) (.c (.int .i64 1)), none, []⟩,⟨some 8, .mv (.t 18), none, []⟩] [0, 1, 7, 8]
theorem r124_12 : type_of% (@rr _ _ c124_12.eq_1) := rr rfl
def c124_13 : ACode := .seq c124_11 c124_12
theorem r124_13 : type_of% (@rr _ _ c124_13.eq_1) := rr rfl
def c124_14 : ACode := .seq c124_3 c124_13
theorem r124_14 : type_of% (@rr _ _ c124_14.eq_1) := rr rfl
def c124_15 : ACode := .seq c124_2 c124_14
theorem r124_15 : type_of% (@rr _ _ c124_15.eq_1) := rr rfl
def c124_16 : ACode := .keep [0, 1, 7, 8] [] c124_15
theorem r124_16 : type_of% (@rr _ _ c124_16.eq_1) := rr rfl
def c124_17 : ACode := .loop c124_16
theorem r124_17 : type_of% (@rr _ _ c124_17.eq_1) := rr rfl
def c124_18 : ACode := .block 0 c124_17
theorem r124_18 : type_of% (@rr _ _ c124_18.eq_1) := rr rfl
def c124_19 : ACode := .seq c124_1 c124_18
theorem r124_19 : type_of% (@rr _ _ c124_19.eq_1) := rr rfl
def c124_20 : ACode := .ops [⟨some 4, .mv (.c (.int .i64 (-1))), none, []⟩] [4]
theorem r124_20 : type_of% (@rr _ _ c124_20.eq_1) := rr rfl
def c124_21 : ACode := .seq c124_20 .ret
theorem r124_21 : type_of% (@rr _ _ c124_21.eq_1) := rr rfl
def c124_22 : ACode := .seq c124_19 c124_21
theorem r124_22 : type_of% (@rr _ _ c124_22.eq_1) := rr rfl
def c124_23 : ACode := .seq c124_0 c124_22
theorem r124_23 : type_of% (@rr _ _ c124_23.eq_1) := rr rfl
def a124 : AFun := ⟨2, 19, c124_23, [.t 4]⟩
attribute [simp] r124_0 r124_1 r124_2 r124_3 r124_4 r124_5 r124_6 r124_7 r124_8 r124_9 r124_10 r124_11 r124_12 r124_13 r124_14 r124_15 r124_16 r124_17 r124_18 r124_19 r124_20 r124_21 r124_22 r124_23
theorem m124 : mFun Try.prog Try.f124 a124 = true := by decide +kernel
def c76_0 : ACode := .ops [⟨some 4, .mv (.c (.bool false)), none, []⟩] [0, 1]
theorem r76_0 : type_of% (@rr _ _ c76_0.eq_1) := rr rfl
def c76_1 : ACode := .ops [⟨some 5, .mv (.t 0), none, []⟩,⟨some 6, .mv (.t 1), none, []⟩,⟨some 7, .call 124 [.t 5, .t 6], none, []⟩,⟨some 8, .bin .geq (.t 7) (.c (.int .i64 0)), none, []⟩,⟨some 4, .mv (.t 8), none, []⟩] [4]
theorem r76_1 : type_of% (@rr _ _ c76_1.eq_1) := rr rfl
def c76_2 : ACode := .seq c76_1 .ret
theorem r76_2 : type_of% (@rr _ _ c76_2.eq_1) := rr rfl
def c76_3 : ACode := .seq c76_0 c76_2
theorem r76_3 : type_of% (@rr _ _ c76_3.eq_1) := rr rfl
def a76 : AFun := ⟨2, 9, c76_3, [.t 4]⟩
attribute [simp] r76_0 r76_1 r76_2 r76_3
theorem m76 : mFun Try.prog Try.f76 a76 = true := by decide +kernel
def c27_0 : ACode := .ops [⟨some 1, .box (.t 0) 6, none, []⟩,⟨some 2, .mv (.c (.bool false)), none, []⟩] [1]
theorem r27_0 : type_of% (@rr _ _ c27_0.eq_1) := rr rfl
def c27_1 : ACode := .ops [⟨some 5, .fad (.t 1) 0, none, [1]⟩,⟨some 6, .load 1 false (.t 5), none, [1]⟩,⟨some 7, .bin .lss (.t 6) (.c (.int .i64 1)), none, []⟩,⟨some 8, .mv (.t 7), none, []⟩,⟨some 9, .fad (.t 1) 0, some (8, false), [1]⟩,⟨some 10, .load 1 false (.t 9), some (8, false), [1]⟩,⟨some 11, .bin .gtr (.t 10) (.c (.int .i64 4)), some (8, false), []⟩,⟨some 12, .pick (.t 8) (.c (.bool true)) (.t 11), none, []⟩,⟨some 13, .mv (.t 12), none, []⟩,⟨some 14, .fad (.t 1) 1, some (13, false), [1]⟩,⟨some 15, .load 1 false (.t 14), some (13, false), [1]⟩,⟨some 16, .bin .lss (.t 15) (.c (.int .i64 1)), some (13, false), []⟩,⟨some 17, .pick (.t 13) (.c (.bool true)) (.t 16), none, []⟩,⟨some 18, .mv (.t 17), none, []⟩,⟨some 19, .fad (.t 1) 1, some (18, false), [1]⟩,⟨some 20, .load 1 false (.t 19), some (18, false), [1]⟩,⟨some 21, .bin .gtr (.t 20) (.c (.int .i64 3)), some (18, false), []⟩,⟨some 22, .pick (.t 18) (.c (.bool true)) (.t 21), none, []⟩,⟨some 23, .mv (.t 22), none, []⟩,⟨some 24, .fad (.t 1) 5, some (23, false), [1]⟩,⟨some 25, .load 1 false (.t 24), some (23, false), [1]⟩,⟨some 26, .len (.t 25), some (23, false), []⟩,⟨some 27, .bin .gtr (.t 26) (.c (.int .i64 8)), some (23, false), []⟩,⟨some 28, .pick (.t 23) (.c (.bool true)) (.t 27), none, []⟩] [1, 28]
theorem r27_1 : type_of% (@rr _ _ c27_1.eq_1) := rr rfl
def c27_2 : ACode := .ops [⟨some 2, .mv (.c (.bool false)), none, []⟩] [2]
theorem r27_2 : type_of% (@rr _ _ c27_2.eq_1) := rr rfl
def c27_3 : ACode := .seq c27_2 .ret
theorem r27_3 : type_of% (@rr _ _ c27_3.eq_1) := rr rfl
def c27_4 : ACode := .cond (.t 28) c27_3 .skip
theorem r27_4 : type_of% (@rr _ _ c27_4.eq_1) := rr rfl
def c27_5 : ACode := .seq c27_1 c27_4
theorem r27_5 : type_of% (@rr _ _ c27_5.eq_1) := rr rfl
def c27_6 : ACode := .ops [⟨some 29, .fad (.t 1) 2, none, [1]⟩,⟨some 30, .load 3 true (.t 29), none, [1]⟩,⟨some 31, .mv (.c (.int .i64 0)), none, []⟩] [1, 30, 31]
theorem r27_6 : type_of% (@rr _ _ c27_6.eq_1) := rr rfl
def c27_7 : ACode := .ops [⟨some 32, .bin .lss (.t 31) (.c (.int .i64 3)), none, []⟩] [1, 30, 31, 32]
theorem r27_7 : type_of% (@rr _ _ c27_7.eq_1) := rr rfl
def c27_8 : ACode := .cond (.t 32) .skip (.exit 0)
theorem r27_8 : type_of% (@rr _ _ c27_8.eq_1) := rr rfl
def c27_9 : ACode := .ops [⟨some 33, .mv (.t 31), none, []⟩,⟨some 34, .idx (.t 30) (.t 31) 1 3 false, none, []⟩,⟨some 3, .mv (.t 33), none, []⟩,⟨some 4, .mv (.t 34), none, []⟩] [1, 3, 4, 30, 31]
theorem r27_9 : type_of% (@rr _ _ c27_9.eq_1) := rr rfl
def c27_10 : ACode := .ops [⟨some 35, .mv (.t 4), none, []⟩,⟨some 36, .call 75 [.t 35, .c (.int .i64 32)], none, []⟩,⟨some 37, .un .not (.t 36), none, []⟩,⟨some 38, .mv (.t 37), none, []⟩,⟨some 39, .mv (.t 3), some (38, false), []⟩,⟨some 40, .fad (.t 1) 1, some (38, false), [1]⟩,⟨some 41, .load 1 false (.t 40), some (38, false), [1]⟩,⟨some 42, .bin .geq (.t 39) (.t 41), some (38, false), []⟩,⟨some 43, .mv (.t 42), some (38, false), []⟩,⟨some 44, .mv (.t 4), some (43, true), []⟩,⟨some 45, .bin .neq (.t 44) (.c (.int .i64 0)), some (43, true), []⟩,⟨some 46, .pick (.t 43) (.t 45) (.c (.bool false)), some (38, false), []⟩,⟨some 47, .pick (.t 38) (.c (.bool true)) (.t 46), none, []⟩] [1, 30, 31, 47]
theorem r27_10 : type_of% (@rr _ _ c27_10.eq_1) := rr rfl
def c27_11 : ACode := .ops [⟨some 2, .mv (.c (.bool false)), none, []⟩] [2]
theorem r27_11 : type_of% (@rr _ _ c27_11.eq_1) := rr rfl
def c27_12 : ACode := .seq c27_11 .ret
theorem r27_12 : type_of% (@rr _ _ c27_12.eq_1) := rr rfl
def c27_13 : ACode := .cond (.t 47) c27_12 .skip
theorem r27_13 : type_of% (@rr _ _ c27_13.eq_1) := rr rfl
def c27_14 : ACode := .seq c27_10 c27_13
theorem r27_14 : type_of% (@rr _ _ c27_14.eq_1) := rr rfl
def c27_15 : ACode := .seq c27_9 c27_14
theorem r27_15 : type_of% (@rr _ _ c27_15.eq_1) := rr rfl
def c27_16 : ACode := .block 1 c27_15
theorem r27_16 : type_of% (@rr _ _ c27_16.eq_1) := rr rfl
def c27_17 : ACode := .ops [⟨some 48, .bin .add (.t 31) (.c (.int .i64 1)), none, []⟩,⟨some 31, .mv (.t 48), none, []⟩] [1, 30, 31]
theorem r27_17 : type_of% (@rr _ _ c27_17.eq_1) := rr rfl
def c27_18 : ACode := .seq c27_16 c27_17
theorem r27_18 : type_of% (@rr _ _ c27_18.eq_1) := rr rfl
def c27_19 : ACode := .seq c27_8 c27_18
theorem r27_19 : type_of% (@rr _ _ c27_19.eq_1) := rr rfl
def c27_20 : ACode := .seq c27_7 c27_19
theorem r27_20 : type_of% (@rr _ _ c27_20.eq_1) := rr rfl
def c27_21 : ACode := .keep [1, 30, 31] [1] c27_20
theorem r27_21 : type_of% (@rr _ _ c27_21.eq_1) := rr rfl
def c27_22 : ACode := .loop c27_21
theorem r27_22 : type_of% (@rr _ _ c27_22.eq_1) := rr rfl
def c27_23 : ACode := .block 0 c27_22
theorem r27_23 : type_of% (@rr _ _ c27_23.eq_1) := rr rfl
def c27_24 : ACode := .seq c27_6 c27_23
theorem r27_24 : type_of% (@rr _ _ c27_24.eq_1) := rr rfl
def c27_25 : ACode := .ops [⟨some 49, .fad (.t 1) 5, none, [1]⟩,⟨some 50, .load 1 false (.t 49), none, [1]⟩,⟨some 51, .clo 77 [.t 1], none, [1]⟩,⟨some 52, .call 76 [.t 50, .t 51], none, []⟩,⟨some 53, .un .not (.t 52), none, []⟩,⟨some 2, .mv (.t 53), none, []⟩] [2]
theorem r27_25 : type_of% (@rr _ _ c27_25.eq_1) := rr rfl
def c27_26 : ACode := .seq c27_25 .ret
theorem r27_26 : type_of% (@rr _ _ c27_26.eq_1) := rr rfl
def c27_27 : ACode := .seq c27_24 c27_26
theorem r27_27 : type_of% (@rr _ _ c27_27.eq_1) := rr rfl
def c27_28 : ACode := .seq c27_5 c27_27
theorem r27_28 : type_of% (@rr _ _ c27_28.eq_1) := rr rfl
def c27_29 : ACode := .seq c27_0 c27_28
theorem r27_29 : type_of% (@rr _ _ c27_29.eq_1) := rr rfl
def a27 : AFun := ⟨1, 54, c27_29, [.t 2]⟩
attribute [simp] r27_0 r27_1 r27_2 r27_3 r27_4 r27_5 r27_6 r27_7 r27_8 r27_9 r27_10 r27_11 r27_12 r27_13 r27_14 r27_15 r27_16 r27_17 r27_18 r27_19 r27_20 r27_21 r27_22 r27_23 r27_24 r27_25 r27_26 r27_27 r27_28 r27_29
theorem m27 : mFun Try.prog Try.f27 a27 = true := by decide +kernel
@[simp high] theorem rd_point (p : Point) (f : Int) (h0 : 0 ≤ f) (h : f < 4) : rd [.int .i64 p.p0, .int .i64 p.p1, .int .i64 p.p2, .int .i64 p.p3] f.toNat 1 false = some (.int .i64 (p.get f)) := by
  have hf : f = 0 ∨ f = 1 ∨ f = 2 ∨ f = 3 := by omega
  rcases hf with rfl | rfl | rfl | rfl <;> rfl
@[simp high] theorem rd_bias (a b : Int) (x : Bias) (y : AV) (c : Int) (h0 : 0 ≤ c) (h : c < 3) : rd [.int .i64 a, .int .i64 b, .int .i64 x.b0, .int .i64 x.b1, .int .i64 x.b2, y] (2 + c.toNat) 1 false = some (.int .i64 (x.get c)) := by
  have hc : c = 0 ∨ c = 1 ∨ c = 2 := by omega
  rcases hc with rfl | rfl | rfl <;> rfl
theorem rd_tree (l : List Tree) (i : Nat) (h : i < l.length) : rd (encL l) (i * 2) 2 true = some (.agg [.int .i64 l[i].cls, .lst l[i].nodes.length (encL l[i].nodes)]) := rd_row l i h
noncomputable def End (l : List Word) (p : Point) : Option (Int × Node) := Part (∃ d, RT l d) ((leafOf l p : Int), ndAt l (leafOf l p))
noncomputable def ValueC (l : List Word) (p : Point) : Option Int := Part (∃ d, RT l d) (valueAt l p)
theorem runs_end (l : List Word) (p : Point) (c : Int × Node) (h : End l p = some c) : Runs (tbl [(20, sp1 Unpack)]) a147 [Arg.enc l, Arg.enc p] (Arg.enc c) := by
  obtain ⟨⟨d, hr⟩, rfl⟩ := part_some h
  refine ⟨rfl, fun g => run_def ?_⟩
  unfold a147
  have hp := hr.pos
  have hle := hr.le
  have b3 : l.length ≤ maxN := by unfold maxN; omega
  simp -implicitDefEqProofs [b3]
  refine run_while (c := c147_31) (fun m s => ∃ (i j : Nat) (g : Nat → Nat), i < l.length ∧ l.length ≤ m + i ∧ j + m = 31 ∧ walk l p m i = leafOf l p ∧ s = ⟨[(0, .lst l.length (encL l)), (3, .ptr 3 (g 3) 0), (5, .ptr 5 (g 5) 0), (6, .int .i64 i), (9, .int .i64 j)],
    [(3, ⟨[.int .i64 p.p0, .int .i64 p.p1, .int .i64 p.p2, .int .i64 p.p3], false, 0⟩), (5, ⟨[.bool false, .int .i64 0, .int .i64 0, .int .i64 0, .int .i64 0, .int .i64 0], false, 0⟩)], g⟩) 31 ⟨0, 0, bump 5 (bump 3 g), by omega, by omega, by omega, rfl, by simp⟩ ?_
  rintro m s ⟨i, j, g, h1, h2, h3, h4, rfl⟩
  have hU := unpack_at hr h1
  have e1 : (j : Int) < 31 := by omega
  have e2 : ¬ (l.length : Int) ≤ i := by omega
  have w1 : IntKind.i64.wrap ((j : Int) + 1) = (j : Int) + 1 := wrap64 (by omega) (by omega)
  obtain ⟨m, rfl⟩ : ∃ n, m = n + 1 := ⟨m - 1, by omega⟩
  rw [walk] at h4
  cases hl : (ndAt l i).leaf
  case true =>
    rw [hl] at h4
    simp only [if_true] at h4
    simp -implicitDefEqProofs [h1, e1, e2, b3, rd_words, hU, hl, w1]
    rw [← h4, hl]
    simp
  case false =>
    rw [hl] at h4
    simp only [Bool.false_eq_true, if_false] at h4
    have ha := hr.at h1 hl
    have hn := nxt_lt hr h1 hl p
    have hf := hr.feature h1 hl
    have f1 := hf.1
    have f2 := hf.2
    by_cases hc : p.get (ndAt l i).feature ≤ (ndAt l i).cut
    case pos =>
      simp -implicitDefEqProofs [h1, e1, e2, b3, rd_words, hU, hl, w1, f1, f2, hc]
      have he : (nxt (ndAt l i) p : Int) = (ndAt l i).left := by unfold nxt; rw [if_pos hc]; omega
      exact ⟨m, by omega, _, hn.2, by omega, j + 1, by omega, h4, he.symm, by omega⟩
    case neg =>
      simp -implicitDefEqProofs [h1, e1, e2, b3, rd_words, hU, hl, w1, f1, f2, hc]
      have he : (nxt (ndAt l i) p : Int) = (ndAt l i).right := by unfold nxt; rw [if_neg hc]; omega
      exact ⟨m, by omega, _, hn.2, by omega, j + 1, by omega, h4, he.symm, by omega⟩
theorem c_end : Contract Try.prog 147 (sp2 End) :=
  contract_of_runs mixed (tbl_cons c_Unpack tbl_nil) Try.func147 m147 (sp2_runs runs_end)
theorem runs_Value (l : List Word) (p : Point) (c : Int) (h : ValueC l p = some c) : Runs (tbl [(147, sp2 End)]) a125 [Arg.enc l, Arg.enc p] (Arg.enc c) := by
  obtain ⟨hr, rfl⟩ := part_some h
  refine ⟨rfl, fun g => run_def ?_⟩
  unfold a125
  simp -implicitDefEqProofs [End, part_of hr, valueAt]
theorem c_Value : Contract Try.prog 125 (sp2 ValueC) :=
  contract_of_runs mixed (tbl_cons c_end tbl_nil) Try.func125 m125 (sp2_runs runs_Value)
noncomputable def EvalC (m : Model) (c : Int) (p : Point) : Option Int := Part (RM m ∧ 0 ≤ c ∧ c < 3) (evalM m c p)
theorem runs_eval (m : Model) (c : Int) (p : Point) (r : Int) (h : EvalC m c p = some r) : Runs (tbl [(125, sp2 ValueC)]) a78 [Arg.enc m, Arg.enc c, Arg.enc p] (Arg.enc r) := by
  obtain ⟨⟨hr, h0, h3⟩, rfl⟩ := part_some h
  refine ⟨rfl, fun g => run_def ?_⟩
  unfold a78
  have hle := hr.trees
  have b3 : m.trees.length ≤ maxN := by unfold maxN; omega
  simp -implicitDefEqProofs [b3, h0, h3]
  refine run_while (c := c78_15) (fun n s => ∃ (i : Nat) (g : Nat → Nat), i + n = m.trees.length ∧ s = ⟨[(1, .int .i64 c), (5, .ptr 5 (g 5) 0), (7, .int .i64 ((m.trees.take i).foldl (evalF c p) (m.bias.get c))), (15, .lst m.trees.length (encL m.trees)), (16, .int .i64 m.trees.length), (17, .int .i64 i)],
    [(5, ⟨[.int .i64 p.p0, .int .i64 p.p1, .int .i64 p.p2, .int .i64 p.p3], false, 0⟩)], g⟩) m.trees.length ⟨0, bump 5 (bump 3 g), by omega, by simp⟩ ?_
  rintro n s ⟨i, g, hi, rfl⟩
  by_cases h1 : i < m.trees.length
  case pos =>
    have w1 : IntKind.i64.wrap ((i : Int) + 1) = (i : Int) + 1 := wrap64 (by omega) (by omega)
    have hrow := rd_tree m.trees i h1
    have hrt := hr.rt (List.getElem_mem h1)
    have hV : ValueC m.trees[i].nodes p = some (valueAt m.trees[i].nodes p) := part_of ⟨_, hrt⟩ _
    have hb := evalF_le (c := c) (p := p) (m.trees.take (i + 1)) (m.bias.get c) (fun t ht => ⟨_, hr.rt (List.mem_of_mem_take ht)⟩)
    have hb2 := of_fits (Bias.get_fits hr c)
    have hs : (m.trees.take (i + 1)).foldl (evalF c p) (m.bias.get c) = evalF c p ((m.trees.take i).foldl (evalF c p) (m.bias.get c)) m.trees[i] := by
      rw [List.take_succ_eq_append_getElem h1, List.foldl_append]
      rfl
    have hl : (m.trees.take (i + 1)).length ≤ 8 := by simp; omega
    rw [hs] at hb
    rw [← hs] at hb
    by_cases hc : m.trees[i].cls = c
    case pos =>
      have hs2 : (m.trees.take (i + 1)).foldl (evalF c p) (m.bias.get c) = (m.trees.take i).foldl (evalF c p) (m.bias.get c) + valueAt m.trees[i].nodes p := by rw [hs, evalF, if_pos hc]
      have w2 : IntKind.i64.wrap ((m.trees.take i).foldl (evalF c p) (m.bias.get c) + valueAt m.trees[i].nodes p) = (m.trees.take (i + 1)).foldl (evalF c p) (m.bias.get c) := by rw [← hs2]; exact wrap64 (by omega) (by omega)
      simp -implicitDefEqProofs [h1, hrow, hc, hV, w1, w2]
      exact ⟨n - 1, by omega, i + 1, by omega, rfl, by omega⟩
    case neg =>
      have hs2 : (m.trees.take (i + 1)).foldl (evalF c p) (m.bias.get c) = (m.trees.take i).foldl (evalF c p) (m.bias.get c) := by rw [hs, evalF, if_neg hc]
      simp -implicitDefEqProofs [h1, hrow, hc, hV, w1]
      exact ⟨n - 1, by omega, i + 1, by omega, hs2.symm, by omega⟩
  case neg =>
    have hil : i = m.trees.length := by omega
    subst hil
    simp -implicitDefEqProofs [h1, evalM]
theorem c_eval : Contract Try.prog 78 (sp3 EvalC) :=
  contract_of_runs mixed (tbl_cons c_Value tbl_nil) Try.func78 m78 (sp3_runs runs_eval)
def okTree (m : Model) (t : Tree) : Prop := 0 ≤ t.cls ∧ t.cls < m.classes ∧ RT t.nodes m.dim
@[simp] theorem dec_ref_model (m : Model) : (Arg.dec (.ipt 0 [.int .i64 m.dim, .int .i64 m.classes, .int .i64 m.bias.b0, .int .i64 m.bias.b1, .int .i64 m.bias.b2, .lst m.trees.length (encL m.trees)]) : Option (Ref Model)) = some ⟨m⟩ := Arg.dec_enc (⟨m⟩ : Ref Model)
noncomputable def Right1 (t : Tree) (m : Ref Model) : Option Bool := Part (okTree m.v t) false
theorem runs_Right1 (t : Tree) (m : Ref Model) (c : Bool) (h : Right1 t m = some c) : Runs (tbl [(19, sp2 TreeRight)]) a77 [Arg.enc t, Arg.enc m] (Arg.enc c) := by
  obtain ⟨⟨h0, h1, hr⟩, rfl⟩ := part_some h
  obtain ⟨m⟩ := m
  simp only at h0 h1 hr
  refine ⟨rfl, fun g => run_def ?_⟩
  unfold a77
  have e0 : ¬ t.cls < 0 := by omega
  have e1 : ¬ m.classes ≤ t.cls := by omega
  have hT : TreeRight t.nodes m.dim = some true := part_of hr _
  simp -implicitDefEqProofs [e0, e1, hT]
theorem c_Right1 : Contract Try.prog 77 (sp2 Right1) :=
  contract_of_runs mixed (tbl_cons c_tRight tbl_nil) Try.func77 m77 (sp2_runs runs_Right1)
structure CloR where
  m : Model
instance : Arg CloR where
  enc r := .clo 77 [.ipt 0 (Row.enc r.m)]
  dec x := match x with
    | .clo f [.ipt 0 xs] => if f = 77 then (Row.dec xs).map CloR.mk else none
    | _ => none
  dec_enc r := by simp only [if_true, Row.dec_enc]; rfl
  enc_dec x r h := by
    split at h
    · split at h
      · rename_i he
        rw [Option.map_eq_some_iff] at h
        obtain ⟨a, ha, rfl⟩ := h
        rw [Row.enc_dec _ _ ha, he]
      · cases h
    · cases h
@[simp] theorem enc_clor (r : CloR) : Arg.enc r = .clo 77 [.ipt 0 (Row.enc r.m)] := rfl
@[simp] theorem dec_clor (m : Model) : (Arg.dec (.clo 77 [.ipt 0 [.int .i64 m.dim, .int .i64 m.classes, .int .i64 m.bias.b0, .int .i64 m.bias.b1, .int .i64 m.bias.b2, .lst m.trees.length (encL m.trees)]]) : Option CloR) = some ⟨m⟩ := Arg.dec_enc (⟨m⟩ : CloR)
noncomputable def IndexTrees (l : List Tree) (r : CloR) : Option Int := Part (l.length ≤ 8 ∧ ∀ t ∈ l, okTree r.m t) (-1)
theorem runs_IndexTrees (l : List Tree) (r : CloR) (c : Int) (h : IndexTrees l r = some c) : Runs (tbl [(77, sp2 Right1)]) a124 [Arg.enc l, Arg.enc r] (Arg.enc c) := by
  obtain ⟨⟨hle, hr⟩, rfl⟩ := part_some h
  obtain ⟨m⟩ := r
  simp only at hr
  refine ⟨rfl, fun g => run_def ?_⟩
  unfold a124
  have b3 : l.length ≤ maxN := by unfold maxN; omega
  simp -implicitDefEqProofs [b3]
  refine run_while (c := c124_15) (fun n s => ∃ (i : Nat), i + n = l.length ∧ s = ⟨[(0, .lst l.length (encL l)), (1, Arg.enc (⟨m⟩ : CloR)), (7, .int .i64 l.length), (8, .int .i64 i)], [], g⟩) l.length ⟨0, by omega, by simp⟩ ?_
  rintro n s ⟨i, hi, rfl⟩
  by_cases h1 : i < l.length
  case pos =>
    have w1 : IntKind.i64.wrap ((i : Int) + 1) = (i : Int) + 1 := wrap64 (by omega) (by omega)
    have hrow := rd_tree l i h1
    have hR : Right1 ⟨l[i].cls, l[i].nodes⟩ ⟨m⟩ = some false := part_of (hr _ (List.getElem_mem h1)) _
    simp -implicitDefEqProofs [h1, hrow, hR, w1]
    exact ⟨n - 1, by omega, i + 1, by omega, by omega⟩
  case neg =>
    simp -implicitDefEqProofs [h1]
theorem c_IndexTrees : Contract Try.prog 124 (sp2 IndexTrees) :=
  contract_of_runs mixed (tbl_cons c_Right1 tbl_nil) Try.func124 m124 (sp2_runs runs_IndexTrees)
noncomputable def ContainsTrees (l : List Tree) (r : CloR) : Option Bool := Part (l.length ≤ 8 ∧ ∀ t ∈ l, okTree r.m t) false
theorem runs_ContainsTrees (l : List Tree) (r : CloR) (c : Bool) (h : ContainsTrees l r = some c) : Runs (tbl [(124, sp2 IndexTrees)]) a76 [Arg.enc l, Arg.enc r] (Arg.enc c) := by
  obtain ⟨hr, rfl⟩ := part_some h
  obtain ⟨m⟩ := r
  refine ⟨rfl, fun g => run_def ?_⟩
  unfold a76
  have hI : IndexTrees l ⟨m⟩ = some (-1) := part_of hr _
  simp -implicitDefEqProofs [hI]
theorem c_ContainsTrees : Contract Try.prog 76 (sp2 ContainsTrees) :=
  contract_of_runs mixed (tbl_cons c_IndexTrees tbl_nil) Try.func76 m76 (sp2_runs runs_ContainsTrees)
noncomputable def MRight (m : Model) : Option Bool := if m.dim < 1 then some false else Part (RM m) true
theorem runs_mRight (m : Model) (c : Bool) (h : MRight m = some c) : Runs (tbl [(75, sp2 Fits), (76, sp2 ContainsTrees)]) a27 [Arg.enc m] (Arg.enc c) := by
  unfold MRight at h
  split at h
  · rename_i hd
    cases h
    refine ⟨rfl, fun g => run_def ?_⟩
    unfold a27
    simp -implicitDefEqProofs [hd]
  · obtain ⟨hr, rfl⟩ := part_some h
    refine ⟨rfl, fun g => run_def ?_⟩
    unfold a27
    have b3 : m.trees.length ≤ maxN := by have := hr.trees; unfold maxN; omega
    have e0 : ¬ m.dim < 1 := by have := hr.dim; omega
    have e1 : ¬ 4 < m.dim := by have := hr.dim; omega
    have e2 : ¬ m.classes < 1 := by have := hr.classes; omega
    have e3 : ¬ 3 < m.classes := by have := hr.classes; omega
    have e4 : ¬ (8 : Int) < m.trees.length := by have := hr.trees; omega
    have e5 : ¬ m.classes ≤ 0 := by omega
    have hb := hr.bias
    have f0 := hb.1
    have f1 := hb.2.1
    have f2 := hb.2.2
    have hC : ContainsTrees m.trees ⟨m⟩ = some false := part_of ⟨hr.trees, hr.tree⟩ _
    have n1 := hr.none1
    have n2 := hr.none2
    have fz : fits 0 = true := rfl
    by_cases k1 : m.classes ≤ 1 <;> by_cases k2 : m.classes ≤ 2
    · have z1 : decide (m.bias.b1 = 0) = true := by simp [n1 k1]
      have z2 : decide (m.bias.b2 = 0) = true := by simp [n2 k2]
      simp -implicitDefEqProofs [run_round, b3, e0, e1, e2, e3, e4, e5, Fits, fz, f0, f1, f2, k1, k2, z1, z2, hC]
    · omega
    · have z2 : decide (m.bias.b2 = 0) = true := by simp [n2 k2]
      simp -implicitDefEqProofs [run_round, b3, e0, e1, e2, e3, e4, e5, Fits, fz, f0, f1, f2, k1, k2, z2, hC]
    · simp -implicitDefEqProofs [run_round, b3, e0, e1, e2, e3, e4, e5, Fits, fz, f0, f1, f2, k1, k2, hC]
theorem c_mRight : Contract Try.prog 27 (sp1 MRight) :=
  contract_of_runs mixed (tbl_cons c_Fits (tbl_cons c_ContainsTrees tbl_nil)) Try.func27 m27 (sp1_runs runs_mRight)
def evalX (m : Model) (c : Int) (p : Point) : Int := if 0 ≤ c ∧ c < m.classes then evalM m c p else 0
noncomputable def Eval (m : Model) (c : Int) (p : Point) : Option Int := Part (RM m) (evalX m c p)
theorem runs_Eval (m : Model) (c : Int) (p : Point) (r : Int) (h : Eval m c p = some r) : Runs (tbl [(27, sp1 MRight), (78, sp3 EvalC)]) a28 [Arg.enc m, Arg.enc c, Arg.enc p] (Arg.enc r) := by
  obtain ⟨hr, rfl⟩ := part_some h
  refine ⟨rfl, fun g => run_def ?_⟩
  unfold a28
  have hM : MRight m = some true := by unfold MRight; rw [if_neg (by have := hr.dim; omega)]; exact part_of hr _
  by_cases h0 : c < 0
  · have : ¬ 0 ≤ c := by omega
    simp -implicitDefEqProofs [hM, h0, evalX, this]
  · by_cases h1 : m.classes ≤ c
    · have : ¬ c < m.classes := by omega
      simp -implicitDefEqProofs [hM, h0, h1, evalX, this]
    · have e1 : c < m.classes := by omega
      have e0 : 0 ≤ c := by omega
      have hE : EvalC m c p = some (evalM m c p) := part_of ⟨hr, e0, by have := hr.classes; omega⟩ _
      simp -implicitDefEqProofs [hM, h0, h1, evalX, e0, e1, hE]
theorem c_Eval : Contract Try.prog 28 (sp3 Eval) :=
  contract_of_runs mixed (tbl_cons c_mRight (tbl_cons c_eval tbl_nil)) Try.func28 m28 (sp3_runs runs_Eval)
theorem eval_of {m : Model} (h : RM m) {c : Int} (h0 : 0 ≤ c) (h1 : c < m.classes) (p : Point) : Eval m c p = some (evalM m c p) := by
  unfold Eval
  rw [part_of h, evalX, if_pos ⟨h0, h1⟩]
end Go.Co
/- CO: the pieces of a tree within a box. -/
namespace Go.Co
open Go.Am Go.Proofs
set_option linter.unusedSimpArgs false
set_option linter.unusedVariables false
end Go.Co
/- CO: bounds. -/
namespace Go.Co
open Go.Am Go.Proofs
set_option linter.unusedSimpArgs false
set_option linter.unusedVariables false
@[simp 5000] theorem rd_biasN (a b : Int) (x : Bias) (y : AV) (k : Nat) (h : k < 3) : rd [.int .i64 a, .int .i64 b, .int .i64 x.b0, .int .i64 x.b1, .int .i64 x.b2, y] (2 + k) 1 false = some (.int .i64 (x.get k)) := by
  have := rd_bias a b x y k (by omega) (by omega)
  simpa using this
end Go.Co
/- CO: maps of numbers as lists of pairs. -/
namespace Go.Co
open Go.Am
def flatA : List (Int × Int) → List AV
  | [] => []
  | (k, v) :: l => .int .i64 k :: .int .i64 v :: flatA l
def getA (n : Int) : List (Int × Int) → Int
  | [] => 0
  | (k, v) :: l => if n = k then v else getA n l
def setA (n v : Int) : List (Int × Int) → List (Int × Int)
  | [] => [(n, v)]
  | (k, u) :: l => if n = k then (k, v) :: l else (k, u) :: setA n v l
theorem mfind_flat (n : Int) : ∀ (l : List (Int × Int)) (i : Nat), (∃ j v, mfind n (flatA l) i = some (i + j, .int .i64 v) ∧ getA n l = v ∧ (∀ u, wr (flatA l) (2 * j + 1) [.int .i64 u] = flatA (setA n u l))) ∨ (mfind n (flatA l) i = none ∧ getA n l = 0 ∧ ∀ u, flatA l ++ [.int .i64 n, .int .i64 u] = flatA (setA n u l))
  | [], i => .inr ⟨rfl, rfl, fun _ => rfl⟩
  | (k, v) :: l, i => by
    unfold flatA mfind getA setA
    by_cases h : n = k
    · refine .inl ⟨0, v, by simp [h], by simp [h], fun u => ?_⟩
      rw [if_pos h]
      simp [wr, flatA]
    · rw [if_neg h, if_neg h]
      rcases mfind_flat n l (i + 1) with ⟨j, w, h1, h2, h3⟩ | ⟨h1, h2, h3⟩
      · refine .inl ⟨j + 1, w, by rw [h1]; congr 2; omega, h2, fun u => ?_⟩
        rw [if_neg h]
        have e2 : 2 * (j + 1) + 1 = (2 * j + 1) + 1 + 1 := by omega
        unfold wr
        simp only [e2, List.take_succ_cons, List.cons_append, List.length_cons, List.length_nil, Nat.zero_add]
        rw [show 2 * j + 1 + 1 + 1 + 1 = (2 * j + 1 + 1) + 1 + 1 by omega, List.drop_succ_cons, List.drop_succ_cons]
        have := h3 u
        unfold wr at this
        simp only [List.length_cons, List.length_nil, Nat.zero_add] at this
        rw [this]
      · refine .inr ⟨h1, h2, fun u => ?_⟩
        rw [if_neg h]
        simp only [List.cons_append, h3 u]
@[simp] theorem mget_flat (n : Int) (l : List (Int × Int)) : mgetV n (flatA l) (.int .i64 0) = .int .i64 (getA n l) := by
  unfold mgetV
  rcases mfind_flat n l 0 with ⟨j, v, h1, h2, _⟩ | ⟨h1, h2, _⟩
  · rw [h1, h2]
  · rw [h1, h2]
@[simp] theorem mput_flat (n v : Int) (l : List (Int × Int)) : mputV n (flatA l) (.int .i64 v) = flatA (setA n v l) := by
  unfold mputV
  rcases mfind_flat n l 0 with ⟨j, w, h1, _, h3⟩ | ⟨h1, _, h3⟩
  · rw [h1]
    simp only [Nat.zero_add]
    exact h3 v
  · rw [h1]
    exact h3 v
@[simp] theorem isIt_nil : isIt [] = false := rfl
@[simp] theorem isIt_flat (l : List (Int × Int)) : isIt (flatA l) = false := by
  cases l with
  | nil => rfl
  | cons p l => obtain ⟨k, v⟩ := p; rfl
def flatB : List Int → List AV
  | [] => []
  | k :: l => .int .i64 k :: .bool true :: flatB l
def insB (n : Int) (l : List Int) : List Int := if n ∈ l then l else l ++ [n]
@[simp] theorem isIt_flatB (l : List Int) : isIt (flatB l) = false := by cases l <;> rfl
@[simp] theorem flatB_len (l : List Int) : (flatB l).length = 2 * l.length := by
  induction l with
  | nil => rfl
  | cons k l ih => simp only [flatB, List.length_cons, ih]; omega
theorem flatB_append (l : List Int) (n : Int) : flatB (l ++ [n]) = flatB l ++ [.int .i64 n, .bool true] := by
  induction l with
  | nil => rfl
  | cons k l ih => simp only [List.cons_append, flatB, ih]
theorem mfind_flatB (n : Int) : ∀ (l : List Int) (i : Nat), (n ∈ l ∧ ∃ j, mfind n (flatB l) i = some (i + j, .bool true) ∧ wr (flatB l) (2 * j + 1) [.bool true] = flatB l) ∨ (n ∉ l ∧ mfind n (flatB l) i = none)
  | [], i => .inr ⟨by simp, rfl⟩
  | k :: l, i => by
    unfold flatB mfind
    by_cases h : n = k
    · refine .inl ⟨by simp [h], 0, by simp [h], ?_⟩
      simp [wr]
    · rw [if_neg h]
      rcases mfind_flatB n l (i + 1) with ⟨h0, j, h1, h2⟩ | ⟨h0, h1⟩
      · refine .inl ⟨by simp [h0], j + 1, by rw [h1]; congr 2; omega, ?_⟩
        have e2 : 2 * (j + 1) + 1 = (2 * j + 1) + 1 + 1 := by omega
        unfold wr
        simp only [e2, List.take_succ_cons, List.cons_append, List.length_cons, List.length_nil, Nat.zero_add]
        rw [show 2 * j + 1 + 1 + 1 + 1 = (2 * j + 1 + 1) + 1 + 1 by omega, List.drop_succ_cons, List.drop_succ_cons]
        unfold wr at h2
        simp only [List.length_cons, List.length_nil, Nat.zero_add] at h2
        rw [h2]
      · exact .inr ⟨by simp [h, h0], h1⟩
@[simp] theorem mput_flatB (n : Int) (l : List Int) : mputV n (flatB l) (.bool true) = flatB (insB n l) := by
  unfold mputV insB
  rcases mfind_flatB n l 0 with ⟨h0, j, h1, h2⟩ | ⟨h0, h1⟩
  · rw [h1, if_pos h0]
    simp only [Nat.zero_add]
    exact h2
  · rw [h1, if_neg h0, flatB_append]
end Go.Co
/- CO: the document's own answers: trees and models. -/
namespace Go.Co
open Go.Am Go.Proofs
set_option linter.unusedSimpArgs false
set_option linter.unusedVariables false
end Go.Co
