/- CO: texts of this claim, one behind the other. -/
import Derived.Test.YtlljcfmgedmigaaCz3
/- CO: trees of words. -/
namespace Go.Co
open Go.Am Go.Proofs
set_option linter.unusedSimpArgs false
set_option linter.unusedVariables false
def c14_0 : ACode := .ops [⟨some 4, .mv (.c (.bool false)), none, []⟩] [0, 1]
theorem r14_0 : type_of% (@rr _ _ c14_0.eq_1) := rr rfl
def c14_1 : ACode := .ops [⟨some 12, .mv (.t 0), none, []⟩,⟨some 13, .len (.t 12), none, []⟩,⟨some 14, .bin .lss (.t 13) (.c (.int .i64 1)), none, []⟩,⟨some 15, .mv (.t 14), none, []⟩,⟨some 16, .mv (.t 0), some (15, false), []⟩,⟨some 17, .len (.t 16), some (15, false), []⟩,⟨some 18, .bin .gtr (.t 17) (.c (.int .i64 31)), some (15, false), []⟩,⟨some 19, .pick (.t 15) (.c (.bool true)) (.t 18), none, []⟩] [0, 1, 19]
theorem r14_1 : type_of% (@rr _ _ c14_1.eq_1) := rr rfl
def c14_2 : ACode := .ops [⟨some 4, .mv (.c (.bool false)), none, []⟩] [4]
theorem r14_2 : type_of% (@rr _ _ c14_2.eq_1) := rr rfl
def c14_3 : ACode := .seq c14_2 .ret
theorem r14_3 : type_of% (@rr _ _ c14_3.eq_1) := rr rfl
def c14_4 : ACode := .cond (.t 19) c14_3 .skip
theorem r14_4 : type_of% (@rr _ _ c14_4.eq_1) := rr rfl
def c14_5 : ACode := .seq c14_1 c14_4
theorem r14_5 : type_of% (@rr _ _ c14_5.eq_1) := rr rfl
def c14_6 : ACode := .ops [⟨some 20, .mv (.t 0), none, []⟩,⟨some 21, .len (.t 20), none, []⟩,⟨some 22, .mks 5 (.t 21) 1 [.int .i64 0], none, []⟩,⟨some 5, .mv (.t 22), none, []⟩] [0, 1, 5]
theorem r14_6 : type_of% (@rr _ _ c14_6.eq_1) := rr rfl
def c14_7 : ACode := .ops [⟨some 23, .mv (.t 0), none, []⟩,⟨some 24, .len (.t 23), none, []⟩,⟨some 25, .mv (.c (.int .i64 0)), none, []⟩] [0, 1, 5, 23, 24, 25]
theorem r14_7 : type_of% (@rr _ _ c14_7.eq_1) := rr rfl
def c14_8 : ACode := .ops [⟨some 26, .bin .lss (.t 25) (.t 24), none, []⟩] [0, 1, 5, 23, 24, 25, 26]
theorem r14_8 : type_of% (@rr _ _ c14_8.eq_1) := rr rfl
def c14_9 : ACode := .cond (.t 26) .skip (.exit 0)
theorem r14_9 : type_of% (@rr _ _ c14_9.eq_1) := rr rfl
def c14_10 : ACode := .ops [⟨some 27, .mv (.t 25), none, []⟩,⟨some 28, .ias (.t 23) (.t 25) 1, none, []⟩,⟨some 29, .load 1 false (.t 28), none, []⟩,⟨some 6, .mv (.t 27), none, []⟩,⟨some 7, .mv (.t 29), none, []⟩] [0, 1, 5, 6, 7, 23, 24, 25]
theorem r14_10 : type_of% (@rr _ _ c14_10.eq_1) := rr rfl
def c14_11 : ACode := .ops [⟨some 31, .mv (.t 7), none, []⟩,⟨some 32, .call 15 [.t 31], none, []⟩,⟨some 30, .mv (.t 32), none, []⟩,⟨some 33, .ext (.t 30) 0, none, []⟩,⟨some 34, .ext (.t 30) 1, none, []⟩,⟨some 8, .alloc [.bool false, .int .i64 0, .int .i64 0, .int .i64 0, .int .i64 0, .int .i64 0], none, []⟩,⟨none, .store (.t 8) 6 (.t 33), none, [8]⟩,⟨some 9, .mv (.t 34), none, []⟩] [0, 1, 5, 6, 8, 9, 23, 24, 25]
theorem r14_11 : type_of% (@rr _ _ c14_11.eq_1) := rr rfl
def c14_12 : ACode := .ops [⟨some 35, .mv (.t 9), none, []⟩,⟨some 36, .un .not (.t 35), none, []⟩] [0, 1, 5, 6, 8, 23, 24, 25, 36]
theorem r14_12 : type_of% (@rr _ _ c14_12.eq_1) := rr rfl
def c14_13 : ACode := .ops [⟨some 4, .mv (.c (.bool false)), none, []⟩] [4]
theorem r14_13 : type_of% (@rr _ _ c14_13.eq_1) := rr rfl
def c14_14 : ACode := .seq c14_13 .ret
theorem r14_14 : type_of% (@rr _ _ c14_14.eq_1) := rr rfl
def c14_15 : ACode := .cond (.t 36) c14_14 .skip
theorem r14_15 : type_of% (@rr _ _ c14_15.eq_1) := rr rfl
def c14_16 : ACode := .seq c14_12 c14_15
theorem r14_16 : type_of% (@rr _ _ c14_16.eq_1) := rr rfl
def c14_17 : ACode := .ops [⟨some 37, .fad (.t 8) 0, none, [8]⟩,⟨some 38, .load 1 false (.t 37), none, [8]⟩] [0, 1, 5, 6, 8, 23, 24, 25, 38]
theorem r14_17 : type_of% (@rr _ _ c14_17.eq_1) := rr rfl
def c14_18 : ACode := .cond (.t 38) (.exit 1) .skip
theorem r14_18 : type_of% (@rr _ _ c14_18.eq_1) := rr rfl
def c14_19 : ACode := .seq c14_17 c14_18
theorem r14_19 : type_of% (@rr _ _ c14_19.eq_1) := rr rfl
def c14_20 : ACode := .ops [⟨some 39, .fad (.t 8) 2, none, [8]⟩,⟨some 40, .load 1 false (.t 39), none, [8]⟩,⟨some 41, .mv (.t 1), none, []⟩,⟨some 42, .bin .geq (.t 40) (.t 41), none, []⟩,⟨some 43, .mv (.t 42), none, []⟩,⟨some 44, .fad (.t 8) 4, some (43, false), [8]⟩,⟨some 45, .load 1 false (.t 44), some (43, false), [8]⟩,⟨some 46, .fad (.t 8) 5, some (43, false), [8]⟩,⟨some 47, .load 1 false (.t 46), some (43, false), [8]⟩,⟨some 48, .bin .eql (.t 45) (.t 47), some (43, false), []⟩,⟨some 49, .pick (.t 43) (.c (.bool true)) (.t 48), none, []⟩,⟨some 50, .mv (.t 49), none, []⟩,⟨some 51, .fad (.t 8) 4, some (50, false), [8]⟩,⟨some 52, .load 1 false (.t 51), some (50, false), [8]⟩,⟨some 53, .fad (.t 8) 5, some (50, false), [8]⟩,⟨some 54, .load 1 false (.t 53), some (50, false), [8]⟩,⟨some 55, .mnmx false (.t 52) (.t 54), some (50, false), []⟩,⟨some 56, .mv (.t 6), some (50, false), []⟩,⟨some 57, .bin .leq (.t 55) (.t 56), some (50, false), []⟩,⟨some 58, .pick (.t 50) (.c (.bool true)) (.t 57), none, []⟩,⟨some 59, .mv (.t 58), none, []⟩,⟨some 60, .fad (.t 8) 4, some (59, false), [8]⟩,⟨some 61, .load 1 false (.t 60), some (59, false), [8]⟩,⟨some 62, .fad (.t 8) 5, some (59, false), [8]⟩,⟨some 63, .load 1 false (.t 62), some (59, false), [8]⟩,⟨some 64, .mnmx true (.t 61) (.t 63), some (59, false), []⟩,⟨some 65, .mv (.t 0), some (59, false), []⟩,⟨some 66, .len (.t 65), some (59, false), []⟩,⟨some 67, .bin .geq (.t 64) (.t 66), some (59, false), []⟩,⟨some 68, .pick (.t 59) (.c (.bool true)) (.t 67), none, []⟩] [0, 1, 5, 8, 23, 24, 25, 68]
theorem r14_20 : type_of% (@rr _ _ c14_20.eq_1) := rr rfl
def c14_21 : ACode := .ops [⟨some 4, .mv (.c (.bool false)), none, []⟩] [4]
theorem r14_21 : type_of% (@rr _ _ c14_21.eq_1) := rr rfl
def c14_22 : ACode := .seq c14_21 .ret
theorem r14_22 : type_of% (@rr _ _ c14_22.eq_1) := rr rfl
def c14_23 : ACode := .cond (.t 68) c14_22 .skip
theorem r14_23 : type_of% (@rr _ _ c14_23.eq_1) := rr rfl
def c14_24 : ACode := .seq c14_20 c14_23
theorem r14_24 : type_of% (@rr _ _ c14_24.eq_1) := rr rfl
def c14_25 : ACode := .ops [⟨some 69, .mv (.t 5), none, []⟩,⟨some 70, .fad (.t 8) 4, none, [8]⟩,⟨some 71, .load 1 false (.t 70), none, [8]⟩,⟨some 72, .ias (.t 69) (.t 71) 1, none, [5]⟩,⟨some 73, .load 1 false (.t 72), none, [5]⟩,⟨some 74, .bin .add (.t 73) (.c (.int .i64 1)), none, []⟩,⟨some 75, .ias (.t 69) (.t 71) 1, none, [5]⟩,⟨none, .store (.t 75) 1 (.t 74), none, [5]⟩] [0, 1, 5, 8, 23, 24, 25]
theorem r14_25 : type_of% (@rr _ _ c14_25.eq_1) := rr rfl
def c14_26 : ACode := .ops [⟨some 76, .mv (.t 5), none, []⟩,⟨some 77, .fad (.t 8) 5, none, [8]⟩,⟨some 78, .load 1 false (.t 77), none, [8]⟩,⟨some 79, .ias (.t 76) (.t 78) 1, none, [5]⟩,⟨some 80, .load 1 false (.t 79), none, [5]⟩,⟨some 81, .bin .add (.t 80) (.c (.int .i64 1)), none, []⟩,⟨some 82, .ias (.t 76) (.t 78) 1, none, [5]⟩,⟨none, .store (.t 82) 1 (.t 81), none, [5]⟩] [0, 1, 5, 23, 24, 25]
theorem r14_26 : type_of% (@rr _ _ c14_26.eq_1) := rr rfl
def c14_27 : ACode := .seq c14_25 c14_26
theorem r14_27 : type_of% (@rr _ _ c14_27.eq_1) := rr rfl
def c14_28 : ACode := .seq c14_24 c14_27
theorem r14_28 : type_of% (@rr _ _ c14_28.eq_1) := rr rfl
def c14_29 : ACode := .seq c14_19 c14_28
theorem r14_29 : type_of% (@rr _ _ c14_29.eq_1) := rr rfl
def c14_30 : ACode := .seq c14_16 c14_29
theorem r14_30 : type_of% (@rr _ _ c14_30.eq_1) := rr rfl
def c14_31 : ACode := .seq c14_11 c14_30
theorem r14_31 : type_of% (@rr _ _ c14_31.eq_1) := rr rfl
def c14_32 : ACode := .seq c14_10 c14_31
theorem r14_32 : type_of% (@rr _ _ c14_32.eq_1) := rr rfl
def c14_33 : ACode := .block 1 c14_32
theorem r14_33 : type_of% (@rr _ _ c14_33.eq_1) := rr rfl
def c14_34 : ACode := .ops [⟨some 83, .bin .add (.t 25) (.c (.int .i64 1)), none, []⟩,⟨some 25, .mv (.t 83), none, []⟩] [0, 1, 5, 23, 24, 25]
theorem r14_34 : type_of% (@rr _ _ c14_34.eq_1) := rr rfl
def c14_35 : ACode := .seq c14_33 c14_34
theorem r14_35 : type_of% (@rr _ _ c14_35.eq_1) := rr rfl
def c14_36 : ACode := .seq c14_9 c14_35
theorem r14_36 : type_of% (@rr _ _ c14_36.eq_1) := rr rfl
def c14_37 : ACode := .seq c14_8 c14_36
theorem r14_37 : type_of% (@rr _ _ c14_37.eq_1) := rr rfl
def c14_38 : ACode := .keep [0, 1, 5, 23, 24, 25] [5] c14_37
theorem r14_38 : type_of% (@rr _ _ c14_38.eq_1) := rr rfl
def c14_39 : ACode := .loop c14_38
theorem r14_39 : type_of% (@rr _ _ c14_39.eq_1) := rr rfl
def c14_40 : ACode := .block 0 c14_39
theorem r14_40 : type_of% (@rr _ _ c14_40.eq_1) := rr rfl
def c14_41 : ACode := .seq c14_7 c14_40
theorem r14_41 : type_of% (@rr _ _ c14_41.eq_1) := rr rfl
def c14_42 : ACode := .ops [⟨some 84, .mv (.t 5), none, []⟩,⟨some 85, .sl (.t 84) (some (.c (.int .i64 1))) none 1, none, [5]⟩,⟨some 86, .len (.t 85), none, [5]⟩,⟨some 87, .mv (.c (.int .i64 0)), none, []⟩] [85, 86, 87]
theorem r14_42 : type_of% (@rr _ _ c14_42.eq_1) := rr rfl
def c14_43 : ACode := .ops [⟨some 88, .bin .lss (.t 87) (.t 86), none, []⟩] [85, 86, 87, 88]
theorem r14_43 : type_of% (@rr _ _ c14_43.eq_1) := rr rfl
def c14_44 : ACode := .cond (.t 88) .skip (.exit 2)
theorem r14_44 : type_of% (@rr _ _ c14_44.eq_1) := rr rfl
def c14_45 : ACode := .ops [⟨some 89, .ias (.t 85) (.t 87) 1, none, [5]⟩,⟨some 90, .load 1 false (.t 89), none, [5]⟩,⟨some 11, .mv (.t 90), none, []⟩] [11, 85, 86, 87]
theorem r14_45 : type_of% (@rr _ _ c14_45.eq_1) := rr rfl
def c14_46 : ACode := .ops [⟨some 91, .mv (.t 11), none, []⟩,⟨some 92, .bin .neq (.t 91) (.c (.int .i64 1)), none, []⟩] [85, 86, 87, 92]
theorem r14_46 : type_of% (@rr _ _ c14_46.eq_1) := rr rfl
def c14_47 : ACode := .ops [⟨some 4, .mv (.c (.bool false)), none, []⟩] [4]
theorem r14_47 : type_of% (@rr _ _ c14_47.eq_1) := rr rfl
def c14_48 : ACode := .seq c14_47 .ret
theorem r14_48 : type_of% (@rr _ _ c14_48.eq_1) := rr rfl
def c14_49 : ACode := .cond (.t 92) c14_48 .skip
theorem r14_49 : type_of% (@rr _ _ c14_49.eq_1) := rr rfl
def c14_50 : ACode := .seq c14_46 c14_49
theorem r14_50 : type_of% (@rr _ _ c14_50.eq_1) := rr rfl
def c14_51 : ACode := .seq c14_45 c14_50
theorem r14_51 : type_of% (@rr _ _ c14_51.eq_1) := rr rfl
def c14_52 : ACode := .block 3 c14_51
theorem r14_52 : type_of% (@rr _ _ c14_52.eq_1) := rr rfl
def c14_53 : ACode := .ops [⟨some 93, .bin .add (.t 87) (.c (.int .i64 1)), none, []⟩,⟨some 87, .mv (.t 93), none, []⟩] [85, 86, 87]
theorem r14_53 : type_of% (@rr _ _ c14_53.eq_1) := rr rfl
def c14_54 : ACode := .seq c14_52 c14_53
theorem r14_54 : type_of% (@rr _ _ c14_54.eq_1) := rr rfl
def c14_55 : ACode := .seq c14_44 c14_54
theorem r14_55 : type_of% (@rr _ _ c14_55.eq_1) := rr rfl
def c14_56 : ACode := .seq c14_43 c14_55
theorem r14_56 : type_of% (@rr _ _ c14_56.eq_1) := rr rfl
def c14_57 : ACode := .keep [85, 86, 87] [5] c14_56
theorem r14_57 : type_of% (@rr _ _ c14_57.eq_1) := rr rfl
def c14_58 : ACode := .loop c14_57
theorem r14_58 : type_of% (@rr _ _ c14_58.eq_1) := rr rfl
def c14_59 : ACode := .block 2 c14_58
theorem r14_59 : type_of% (@rr _ _ c14_59.eq_1) := rr rfl
def c14_60 : ACode := .seq c14_42 c14_59
theorem r14_60 : type_of% (@rr _ _ c14_60.eq_1) := rr rfl
def c14_61 : ACode := .ops [⟨some 4, .mv (.c (.bool true)), none, []⟩] [4]
theorem r14_61 : type_of% (@rr _ _ c14_61.eq_1) := rr rfl
def c14_62 : ACode := .seq c14_61 .ret
theorem r14_62 : type_of% (@rr _ _ c14_62.eq_1) := rr rfl
def c14_63 : ACode := .seq c14_60 c14_62
theorem r14_63 : type_of% (@rr _ _ c14_63.eq_1) := rr rfl
def c14_64 : ACode := .seq c14_41 c14_63
theorem r14_64 : type_of% (@rr _ _ c14_64.eq_1) := rr rfl
def c14_65 : ACode := .seq c14_6 c14_64
theorem r14_65 : type_of% (@rr _ _ c14_65.eq_1) := rr rfl
def c14_66 : ACode := .seq c14_5 c14_65
theorem r14_66 : type_of% (@rr _ _ c14_66.eq_1) := rr rfl
def c14_67 : ACode := .seq c14_0 c14_66
theorem r14_67 : type_of% (@rr _ _ c14_67.eq_1) := rr rfl
def a14 : AFun := ⟨2, 94, c14_67, [.t 4]⟩
attribute [simp] r14_0 r14_1 r14_2 r14_3 r14_4 r14_5 r14_6 r14_7 r14_8 r14_9 r14_10 r14_11 r14_12 r14_13 r14_14 r14_15 r14_16 r14_17 r14_18 r14_19 r14_20 r14_21 r14_22 r14_23 r14_24 r14_25 r14_26 r14_27 r14_28 r14_29 r14_30 r14_31 r14_32 r14_33 r14_34 r14_35 r14_36 r14_37 r14_38 r14_39 r14_40 r14_41 r14_42 r14_43 r14_44 r14_45 r14_46 r14_47 r14_48 r14_49 r14_50 r14_51 r14_52 r14_53 r14_54 r14_55 r14_56 r14_57 r14_58 r14_59 r14_60 r14_61 r14_62 r14_63 r14_64 r14_65 r14_66 r14_67
theorem m14 : mFun Try.prog Try.f14 a14 = true := by decide +kernel
noncomputable def TreeRight (l : List Word) (dim : Int) : Option Bool := Part (RT l dim) true
def cnt (l : List Word) (i j : Nat) : Int := ((l.take i).countP (fun w => names (nd w) j) : Nat)
def cnts (l : List Word) (i : Nat) : List Int := (List.range l.length).map (cnt l i)
theorem cnts_len (l : List Word) (i : Nat) : (cnts l i).length = l.length := by simp [cnts]
theorem cnts_get (l : List Word) (i j : Nat) (h : j < (cnts l i).length) : (cnts l i)[j] = cnt l i j := by simp [cnts]
theorem cnt_succ {l : List Word} {i : Nat} (h : i < l.length) (j : Nat) : cnt l (i + 1) j = cnt l i j + (if names (ndAt l i) j then 1 else 0) := by
  unfold cnt
  rw [List.take_succ_eq_append_getElem h, List.countP_append, ndAt_lt h]
  simp only [List.countP_cons, List.countP_nil]
  split <;> simp
theorem cnt_le (l : List Word) (i j : Nat) : 0 ≤ cnt l i j ∧ cnt l i j ≤ l.length := by
  unfold cnt
  have := List.countP_le_length (p := fun w => names (nd w) j) (l := l.take i)
  simp at this
  omega
theorem cnts_zero (l : List Word) : cnts l 0 = List.replicate l.length 0 := by
  apply List.ext_getElem
  · simp [cnts]
  · intro j h1 h2
    rw [cnts_get]
    simp [cnt]
theorem cnts_leaf {l : List Word} {i : Nat} (h : i < l.length) (hl : (ndAt l i).leaf = true) : cnts l (i + 1) = cnts l i := by
  apply List.ext_getElem
  · simp [cnts]
  · intro j h1 h2
    rw [cnts_get, cnts_get, cnt_succ h]
    simp [names, hl]
theorem cnts_inner {l : List Word} {dim : Int} (hr : RT l dim) {i : Nat} (h : i < l.length) (hl : (ndAt l i).leaf = false) :
    cnts l (i + 1) = ((cnts l i).set (ndAt l i).left.toNat (cnt l i (ndAt l i).left.toNat + 1)).set (ndAt l i).right.toNat (cnt l i (ndAt l i).right.toNat + 1) := by
  have ha := hr.at h hl
  apply List.ext_getElem
  · simp [cnts]
  · intro j h1 h2
    rw [cnts_get, cnt_succ h, List.getElem_set, List.getElem_set]
    simp only [cnts_get, names, hl, Bool.not_false, Bool.true_and, Bool.or_eq_true, decide_eq_true_eq]
    by_cases e1 : (ndAt l i).right.toNat = j
    · rw [if_pos e1, if_pos (by omega), e1]
    · rw [if_neg e1]
      by_cases e2 : (ndAt l i).left.toNat = j
      · rw [if_pos e2, if_pos (by omega), e2]
      · rw [if_neg e2, if_neg (by omega)]
        omega
theorem unpack_at {l : List Word} {dim : Int} (h : RT l dim) {i : Nat} (hi : i < l.length) : Unpack ⟨l[i].v⟩ = some (ndAt l i, true) := by
  have := h.ok i hi
  unfold Unpack
  have h1 : 0 ≤ (⟨l[i].v⟩ : Word).v ∧ (⟨l[i].v⟩ : Word).v < 18446744073709551616 := this.1
  rw [if_pos h1]
  have e : (⟨l[i].v⟩ : Word) = l[i] := rfl
  rw [e]
  congr 1
  rw [ndAt_lt hi]
  exact Prod.ext rfl this.2
theorem runs_tRight (l : List Word) (dim : Int) (c : Bool) (h : TreeRight l dim = some c) : Runs (tbl [(15, sp1 Unpack)]) a14 [Arg.enc l, Arg.enc dim] (Arg.enc c) := by
  obtain ⟨hr, rfl⟩ := part_some h
  refine ⟨rfl, fun g => run_def ?_⟩
  unfold a14
  have hp := hr.pos
  have hle := hr.le
  have b1 : ¬ (l.length : Int) < 1 := by omega
  have b2 : ¬ (l.length : Int) > 31 := by omega
  have b3 : l.length ≤ maxN := by unfold maxN; omega
  have b4 : (l.length : Int) ≤ 1099511627776 := by omega
  simp -implicitDefEqProofs [b1, b2, b3, b4, rep_ints]
  rw [rep_cells]
  refine run_while (c := c14_37) (fun m s => ∃ (i : Nat) (g : Nat → Nat), i + m = l.length ∧ s = ⟨[(0, .lst l.length (encL l)), (1, .int .i64 dim), (5, .own 5 (g 5) 0 l.length), (23, .lst l.length (encL l)), (24, .int .i64 l.length), (25, .int .i64 i)], [(5, ⟨encL (cnts l i), false, 1⟩)], g⟩) l.length ⟨0, bump 5 g, by omega, by simp [cnts_zero]⟩ ?_
  rintro m s ⟨i, g, hi, rfl⟩
  by_cases h1 : i < l.length
  case pos =>
    have hU := unpack_at hr h1
    have w1 : IntKind.i64.wrap ((i : Int) + 1) = (i : Int) + 1 := wrap64 (by omega) (by omega)
    cases hl : (ndAt l i).leaf
    case true =>
      simp -implicitDefEqProofs [h1, rd_words, hU, hl, w1]
      exact ⟨m - 1, by omega, i + 1, by omega, by omega, by rw [cnts_leaf h1 hl]⟩
    case false =>
      have ha := hr.at h1 hl
      have e1 : ¬ dim ≤ (ndAt l i).feature := by omega
      have e2 : ¬ (ndAt l i).left = (ndAt l i).right := ha.2.1
      have e3 : ¬ (if (ndAt l i).right < (ndAt l i).left then (ndAt l i).right else (ndAt l i).left) ≤ (i : Int) := by split <;> omega
      have e4 : ¬ (l.length : Int) ≤ (if (ndAt l i).left < (ndAt l i).right then (ndAt l i).right else (ndAt l i).left) := by split <;> omega
      have e5 : ¬ (ndAt l i).left.toNat = (ndAt l i).right.toNat := by omega
      have f1 : 0 ≤ (ndAt l i).left := by omega
      have f2 : (ndAt l i).left < l.length := by omega
      have f3 : 0 ≤ (ndAt l i).right := by omega
      have f4 : (ndAt l i).right < l.length := by omega
      have f5 : (ndAt l i).left.toNat < l.length := by omega
      have f6 : (ndAt l i).right.toNat < l.length := by omega
      have n1 := cnt_le l i (ndAt l i).left.toNat
      have n2 := cnt_le l i (ndAt l i).right.toNat
      have w2 : IntKind.i64.wrap (cnt l i (ndAt l i).left.toNat + 1) = cnt l i (ndAt l i).left.toNat + 1 := wrap64 (by omega) (by omega)
      have w3 : IntKind.i64.wrap (cnt l i (ndAt l i).right.toNat + 1) = cnt l i (ndAt l i).right.toNat + 1 := wrap64 (by omega) (by omega)
      simp -implicitDefEqProofs [h1, rd_words, hU, hl, w1, b3, e1, e2, e3, e4, e5, f1, f2, f3, f4, f5, f6, cnts_len, cnts_get, rd_ints, wr_ints, encL_length, w2, w3]
      exact ⟨fun _ => ⟨fun _ => ⟨m - 1, by omega, i + 1, by omega, by omega, by rw [cnts_inner hr h1 hl]⟩, by omega⟩, by omega⟩
  case neg =>
    have hil : i = l.length := by omega
    subst hil
    have p1 : (1 : Int) ≤ l.length := by omega
    have p2 : l.length - 1 ≤ maxN := by omega
    simp -implicitDefEqProofs [p1, p2]
    refine run_while (c := c14_56) (fun m s => ∃ (i : Nat), i + m = l.length - 1 ∧ s = ⟨[(85, .own 5 (g 5) 1 (l.length - 1)), (86, .int .i64 (l.length - 1 : Nat)), (87, .int .i64 i)], [(5, ⟨encL (cnts l l.length), false, 1⟩)], g⟩) (l.length - 1) ⟨0, by omega, by simp⟩ ?_
    rintro m s ⟨i, hi, rfl⟩
    by_cases h1 : (i : Int) < (l.length - 1 : Nat)
    case pos =>
      have w1 : IntKind.i64.wrap ((i : Int) + 1) = (i : Int) + 1 := wrap64 (by omega) (by omega)
      have q1 : 1 + i < l.length := by omega
      have hc : cnt l l.length (1 + i) = 1 := by
        unfold cnt
        rw [List.take_length, hr.once (1 + i) (by omega) q1]
        rfl
      simp -implicitDefEqProofs [h1, rd_ints, cnts_len, cnts_get, w1, q1, hc]
      exact ⟨m - 1, by omega, i + 1, by omega, by omega⟩
    case neg =>
      simp -implicitDefEqProofs [h1]
theorem c_tRight : Contract Try.prog 14 (sp2 TreeRight) :=
  contract_of_runs mixed (tbl_cons c_Unpack tbl_nil) Try.func14 m14 (sp2_runs runs_tRight)
end Go.Co
/- CO: values, sums. -/
set_option maxHeartbeats 16000000
set_option maxRecDepth 100000
namespace Go.Co
open Go.Am Go.Proofs
set_option linter.unusedSimpArgs false
set_option linter.unusedVariables false
def c115_0 : ACode := .ops [⟨some 3, .box (.t 1) 4, none, []⟩,⟨some 4, .mv (.c (.int .i64 0)), none, []⟩,⟨some 5, .alloc [.bool false, .int .i64 0, .int .i64 0, .int .i64 0, .int .i64 0, .int .i64 0], none, []⟩] [0, 3, 5]
theorem r115_0 : type_of% (@rr _ _ c115_0.eq_1) := rr rfl
def c115_1 : ACode := .ops [⟨some 6, .mv (.c (.int .i64 0)), none, []⟩] [0, 3, 5, 6]
theorem r115_1 : type_of% (@rr _ _ c115_1.eq_1) := rr rfl
def c115_2 : ACode := .ops [⟨some 9, .mv (.c (.int .i64 0)), none, []⟩] [0, 3, 5, 6, 9]
theorem r115_2 : type_of% (@rr _ _ c115_2.eq_1) := rr rfl
def c115_3 : ACode := .ops [⟨some 10, .bin .lss (.t 9) (.c (.int .i64 31)), none, []⟩] [0, 3, 5, 6, 9, 10]
theorem r115_3 : type_of% (@rr _ _ c115_3.eq_1) := rr rfl
def c115_4 : ACode := .cond (.t 10) .skip (.exit 0)
theorem r115_4 : type_of% (@rr _ _ c115_4.eq_1) := rr rfl
def c115_5 : ACode := .ops [⟨some 11, .mv (.t 6), none, []⟩,⟨some 12, .mv (.t 0), none, []⟩,⟨some 13, .len (.t 12), none, []⟩,⟨some 14, .bin .geq (.t 11) (.t 13), none, []⟩] [0, 3, 5, 6, 9, 14]
theorem r115_5 : type_of% (@rr _ _ c115_5.eq_1) := rr rfl
def c115_6 : ACode := .cond (.t 14) (.exit 0) .skip
theorem r115_6 : type_of% (@rr _ _ c115_6.eq_1) := rr rfl
def c115_7 : ACode := .seq c115_5 c115_6
theorem r115_7 : type_of% (@rr _ _ c115_7.eq_1) := rr rfl
def c115_8 : ACode := .ops [⟨some 16, .mv (.t 0), none, []⟩,⟨some 17, .mv (.t 6), none, []⟩,⟨some 18, .ias (.t 16) (.t 17) 1, none, []⟩,⟨some 19, .load 1 false (.t 18), none, []⟩,⟨some 20, .call 15 [.t 19], none, []⟩,⟨some 15, .mv (.t 20), none, []⟩,⟨some 21, .ext (.t 15) 0, none, []⟩,⟨some 22, .ext (.t 15) 1, none, []⟩,⟨some 7, .alloc [.bool false, .int .i64 0, .int .i64 0, .int .i64 0, .int .i64 0, .int .i64 0], none, []⟩,⟨none, .store (.t 7) 6 (.t 21), none, [7]⟩,⟨some 8, .mv (.t 22), none, []⟩] [0, 3, 5, 6, 7, 8, 9]
theorem r115_8 : type_of% (@rr _ _ c115_8.eq_1) := rr rfl
def c115_9 : ACode := .ops [⟨some 26, .mv (.t 8), none, []⟩,⟨some 27, .un .not (.t 26), none, []⟩,⟨some 25, .mv (.t 27), none, []⟩] [0, 3, 5, 6, 7, 9, 25]
theorem r115_9 : type_of% (@rr _ _ c115_9.eq_1) := rr rfl
def c115_10 : ACode := .ops [⟨some 28, .build [.bool false, .int .i64 0, .int .i64 0, .int .i64 0, .int .i64 0, .int .i64 0] [], none, []⟩,⟨some 4, .mv (.c (.int .i64 (-1))), none, []⟩,⟨none, .store (.t 5) 6 (.t 28), none, [5]⟩] [4, 5]
theorem r115_10 : type_of% (@rr _ _ c115_10.eq_1) := rr rfl
def c115_11 : ACode := .seq c115_10 .ret
theorem r115_11 : type_of% (@rr _ _ c115_11.eq_1) := rr rfl
def c115_12 : ACode := .ops [⟨some 30, .fad (.t 7) 0, none, [7]⟩,⟨some 31, .load 1 false (.t 30), none, [7]⟩,⟨some 29, .mv (.t 31), none, []⟩] [0, 3, 5, 6, 7, 9, 29]
theorem r115_12 : type_of% (@rr _ _ c115_12.eq_1) := rr rfl
def c115_13 : ACode := .ops [⟨some 32, .mv (.t 6), none, []⟩,⟨some 33, .load 6 true (.t 7), none, [7]⟩,⟨some 4, .mv (.t 32), none, []⟩,⟨none, .store (.t 5) 6 (.t 33), none, [5]⟩] [4, 5]
theorem r115_13 : type_of% (@rr _ _ c115_13.eq_1) := rr rfl
def c115_14 : ACode := .seq c115_13 .ret
theorem r115_14 : type_of% (@rr _ _ c115_14.eq_1) := rr rfl
def c115_15 : ACode := .ops [⟨some 35, .fad (.t 7) 2, none, [7]⟩,⟨some 36, .load 1 false (.t 35), none, [7]⟩,⟨some 37, .iad (.t 3) (.t 36) 1 4, none, [3]⟩,⟨some 38, .load 1 false (.t 37), none, [3]⟩,⟨some 39, .fad (.t 7) 3, none, [7]⟩,⟨some 40, .load 1 false (.t 39), none, [7]⟩,⟨some 41, .bin .leq (.t 38) (.t 40), none, []⟩,⟨some 34, .mv (.t 41), none, []⟩] [0, 3, 5, 7, 9, 34]
theorem r115_15 : type_of% (@rr _ _ c115_15.eq_1) := rr rfl
def c115_16 : ACode := .ops [⟨some 42, .fad (.t 7) 4, none, [7]⟩,⟨some 43, .load 1 false (.t 42), none, [7]⟩,⟨some 6, .mv (.t 43), none, []⟩] [0, 3, 5, 6, 9]
theorem r115_16 : type_of% (@rr _ _ c115_16.eq_1) := rr rfl
def c115_17 : ACode := .ops [⟨some 23, .fad (.t 7) 5, none, [7]⟩,⟨some 24, .load 1 false (.t 23), none, [7]⟩,⟨some 6, .mv (.t 24), none, []⟩] [0, 3, 5, 6, 9]
theorem r115_17 : type_of% (@rr _ _ c115_17.eq_1) := rr rfl
def c115_18 : ACode := .cond (.t 34) c115_16 c115_17
theorem r115_18 : type_of% (@rr _ _ c115_18.eq_1) := rr rfl
def c115_19 : ACode := .seq c115_15 c115_18
theorem r115_19 : type_of% (@rr _ _ c115_19.eq_1) := rr rfl
def c115_20 : ACode := .cond (.t 29) c115_14 c115_19
theorem r115_20 : type_of% (@rr _ _ c115_20.eq_1) := rr rfl
def c115_21 : ACode := .seq c115_12 c115_20
theorem r115_21 : type_of% (@rr _ _ c115_21.eq_1) := rr rfl
def c115_22 : ACode := .cond (.t 25) c115_11 c115_21
theorem r115_22 : type_of% (@rr _ _ c115_22.eq_1) := rr rfl
def c115_23 : ACode := .seq c115_9 c115_22
theorem r115_23 : type_of% (@rr _ _ c115_23.eq_1) := rr rfl
def c115_24 : ACode := .block 2 c115_23
theorem r115_24 : type_of% (@rr _ _ c115_24.eq_1) := rr rfl
def c115_25 : ACode := .seq c115_8 c115_24
theorem r115_25 : type_of% (@rr _ _ c115_25.eq_1) := rr rfl
def c115_26 : ACode := .seq c115_7 c115_25
theorem r115_26 : type_of% (@rr _ _ c115_26.eq_1) := rr rfl
def c115_27 : ACode := .block 1 c115_26
theorem r115_27 : type_of% (@rr _ _ c115_27.eq_1) := rr rfl
def c115_28 : ACode := .ops [⟨some 44, .bin .add (.t 9) (.c (.int .i64 1)), none, []⟩,⟨some 9, .mv (.t 44), none, []⟩] [0, 3, 5, 6, 9]
theorem r115_28 : type_of% (@rr _ _ c115_28.eq_1) := rr rfl
def c115_29 : ACode := .seq c115_27 c115_28
theorem r115_29 : type_of% (@rr _ _ c115_29.eq_1) := rr rfl
def c115_30 : ACode := .seq c115_4 c115_29
theorem r115_30 : type_of% (@rr _ _ c115_30.eq_1) := rr rfl
def c115_31 : ACode := .seq c115_3 c115_30
theorem r115_31 : type_of% (@rr _ _ c115_31.eq_1) := rr rfl
def c115_32 : ACode := .keep [0, 3, 5, 6, 9] [3, 5] c115_31
theorem r115_32 : type_of% (@rr _ _ c115_32.eq_1) := rr rfl
def c115_33 : ACode := .loop c115_32
theorem r115_33 : type_of% (@rr _ _ c115_33.eq_1) := rr rfl
def c115_34 : ACode := .block 0 c115_33
theorem r115_34 : type_of% (@rr _ _ c115_34.eq_1) := rr rfl
def c115_35 : ACode := .seq c115_2 c115_34
theorem r115_35 : type_of% (@rr _ _ c115_35.eq_1) := rr rfl
def c115_36 : ACode := .ops [⟨some 45, .build [.bool false, .int .i64 0, .int .i64 0, .int .i64 0, .int .i64 0, .int .i64 0] [], none, []⟩,⟨some 4, .mv (.c (.int .i64 (-1))), none, []⟩,⟨none, .store (.t 5) 6 (.t 45), none, [5]⟩] [4, 5]
theorem r115_36 : type_of% (@rr _ _ c115_36.eq_1) := rr rfl
def c115_37 : ACode := .seq c115_36 .ret
theorem r115_37 : type_of% (@rr _ _ c115_37.eq_1) := rr rfl
def c115_38 : ACode := .seq c115_35 c115_37
theorem r115_38 : type_of% (@rr _ _ c115_38.eq_1) := rr rfl
def c115_39 : ACode := .seq c115_1 c115_38
theorem r115_39 : type_of% (@rr _ _ c115_39.eq_1) := rr rfl
def c115_40 : ACode := .seq c115_0 c115_39
theorem r115_40 : type_of% (@rr _ _ c115_40.eq_1) := rr rfl
def a115 : AFun := ⟨2, 46, c115_40, [.t 4, .cell 5 6 true]⟩
attribute [simp] r115_0 r115_1 r115_2 r115_3 r115_4 r115_5 r115_6 r115_7 r115_8 r115_9 r115_10 r115_11 r115_12 r115_13 r115_14 r115_15 r115_16 r115_17 r115_18 r115_19 r115_20 r115_21 r115_22 r115_23 r115_24 r115_25 r115_26 r115_27 r115_28 r115_29 r115_30 r115_31 r115_32 r115_33 r115_34 r115_35 r115_36 r115_37 r115_38 r115_39 r115_40
theorem m115 : mFun Try.prog Try.f115 a115 = true := by decide +kernel
def c96_0 : ACode := .ops [⟨some 3, .box (.t 1) 4, none, []⟩,⟨some 4, .mv (.c (.int .i64 0)), none, []⟩] [0, 3]
theorem r96_0 : type_of% (@rr _ _ c96_0.eq_1) := rr rfl
def c96_1 : ACode := .ops [⟨some 8, .mv (.t 0), none, []⟩,⟨some 9, .load 4 true (.t 3), none, [3]⟩,⟨some 10, .call 115 [.t 8, .t 9], none, []⟩,⟨some 7, .mv (.t 10), none, []⟩,⟨some 11, .ext (.t 7) 0, none, []⟩,⟨some 12, .ext (.t 7) 1, none, []⟩,⟨some 6, .alloc [.bool false, .int .i64 0, .int .i64 0, .int .i64 0, .int .i64 0, .int .i64 0], none, []⟩,⟨some 5, .mv (.t 11), none, []⟩,⟨none, .store (.t 6) 6 (.t 12), none, [6]⟩] [6]
theorem r96_1 : type_of% (@rr _ _ c96_1.eq_1) := rr rfl
def c96_2 : ACode := .ops [⟨some 13, .fad (.t 6) 1, none, [6]⟩,⟨some 14, .load 1 false (.t 13), none, [6]⟩,⟨some 4, .mv (.t 14), none, []⟩] [4]
theorem r96_2 : type_of% (@rr _ _ c96_2.eq_1) := rr rfl
def c96_3 : ACode := .seq c96_2 .ret
theorem r96_3 : type_of% (@rr _ _ c96_3.eq_1) := rr rfl
def c96_4 : ACode := .seq c96_1 c96_3
theorem r96_4 : type_of% (@rr _ _ c96_4.eq_1) := rr rfl
def c96_5 : ACode := .seq c96_0 c96_4
theorem r96_5 : type_of% (@rr _ _ c96_5.eq_1) := rr rfl
def a96 : AFun := ⟨2, 15, c96_5, [.t 4]⟩
attribute [simp] r96_0 r96_1 r96_2 r96_3 r96_4 r96_5
theorem m96 : mFun Try.prog Try.f96 a96 = true := by decide +kernel
def c59_0 : ACode := .ops [⟨some 3, .box (.t 0) 6, none, []⟩,⟨some 5, .box (.t 2) 4, none, []⟩,⟨some 6, .mv (.c (.int .i64 0)), none, []⟩] [1, 3, 5]
theorem r59_0 : type_of% (@rr _ _ c59_0.eq_1) := rr rfl
def c59_1 : ACode := .ops [⟨some 10, .mv (.t 1), none, []⟩,⟨some 11, .fad (.t 3) 2, none, [3]⟩,⟨some 12, .iad (.t 11) (.t 10) 1 3, none, [3]⟩,⟨some 13, .load 1 false (.t 12), none, [3]⟩,⟨some 7, .mv (.t 13), none, []⟩] [1, 3, 5, 7]
theorem r59_1 : type_of% (@rr _ _ c59_1.eq_1) := rr rfl
def c59_2 : ACode := .ops [⟨some 14, .fad (.t 3) 5, none, [3]⟩,⟨some 15, .load 1 false (.t 14), none, [3]⟩,⟨some 16, .len (.t 15), none, []⟩,⟨some 17, .mv (.c (.int .i64 0)), none, []⟩] [1, 5, 7, 15, 16, 17]
theorem r59_2 : type_of% (@rr _ _ c59_2.eq_1) := rr rfl
def c59_3 : ACode := .ops [⟨some 18, .bin .lss (.t 17) (.t 16), none, []⟩] [1, 5, 7, 15, 16, 17, 18]
theorem r59_3 : type_of% (@rr _ _ c59_3.eq_1) := rr rfl
def c59_4 : ACode := .cond (.t 18) .skip (.exit 0)
theorem r59_4 : type_of% (@rr _ _ c59_4.eq_1) := rr rfl
def c59_5 : ACode := .ops [⟨some 19, .ias (.t 15) (.t 17) 2, none, []⟩,⟨some 20, .load 2 true (.t 19), none, []⟩,⟨some 9, .alloc [.int .i64 0, .nils], none, []⟩,⟨none, .store (.t 9) 2 (.t 20), none, [9]⟩] [1, 5, 7, 9, 15, 16, 17]
theorem r59_5 : type_of% (@rr _ _ c59_5.eq_1) := rr rfl
def c59_6 : ACode := .ops [⟨some 21, .fad (.t 9) 0, none, [9]⟩,⟨some 22, .load 1 false (.t 21), none, [9]⟩,⟨some 23, .mv (.t 1), none, []⟩,⟨some 24, .bin .eql (.t 22) (.t 23), none, []⟩] [1, 5, 7, 9, 15, 16, 17, 24]
theorem r59_6 : type_of% (@rr _ _ c59_6.eq_1) := rr rfl
def c59_7 : ACode := .ops [⟨some 25, .mv (.t 7), none, []⟩,⟨some 26, .fad (.t 9) 1, none, [9]⟩,⟨some 27, .load 1 false (.t 26), none, [9]⟩,⟨some 28, .load 4 true (.t 5), none, [5]⟩,⟨some 29, .call 96 [.t 27, .t 28], none, []⟩,⟨some 30, .bin .add (.t 25) (.t 29), none, []⟩,⟨some 7, .mv (.t 30), none, []⟩] [1, 5, 7, 15, 16, 17]
theorem r59_7 : type_of% (@rr _ _ c59_7.eq_1) := rr rfl
def c59_8 : ACode := .cond (.t 24) c59_7 .skip
theorem r59_8 : type_of% (@rr _ _ c59_8.eq_1) := rr rfl
def c59_9 : ACode := .seq c59_6 c59_8
theorem r59_9 : type_of% (@rr _ _ c59_9.eq_1) := rr rfl
def c59_10 : ACode := .seq c59_5 c59_9
theorem r59_10 : type_of% (@rr _ _ c59_10.eq_1) := rr rfl
def c59_11 : ACode := .block 1 c59_10
theorem r59_11 : type_of% (@rr _ _ c59_11.eq_1) := rr rfl
def c59_12 : ACode := .ops [⟨some 31, .bin .add (.t 17) (.c (.int .i64 1)), none, []⟩,⟨some 17, .mv (.t 31), none, []⟩] [1, 5, 7, 15, 16, 17]
theorem r59_12 : type_of% (@rr _ _ c59_12.eq_1) := rr rfl
def c59_13 : ACode := .seq c59_11 c59_12
theorem r59_13 : type_of% (@rr _ _ c59_13.eq_1) := rr rfl
def c59_14 : ACode := .seq c59_4 c59_13
theorem r59_14 : type_of% (@rr _ _ c59_14.eq_1) := rr rfl
def c59_15 : ACode := .seq c59_3 c59_14
theorem r59_15 : type_of% (@rr _ _ c59_15.eq_1) := rr rfl
def c59_16 : ACode := .keep [1, 5, 7, 15, 16, 17] [5] c59_15
theorem r59_16 : type_of% (@rr _ _ c59_16.eq_1) := rr rfl
def c59_17 : ACode := .loop c59_16
theorem r59_17 : type_of% (@rr _ _ c59_17.eq_1) := rr rfl
def c59_18 : ACode := .block 0 c59_17
theorem r59_18 : type_of% (@rr _ _ c59_18.eq_1) := rr rfl
def c59_19 : ACode := .seq c59_2 c59_18
theorem r59_19 : type_of% (@rr _ _ c59_19.eq_1) := rr rfl
def c59_20 : ACode := .ops [⟨some 32, .mv (.t 7), none, []⟩,⟨some 6, .mv (.t 32), none, []⟩] [6]
theorem r59_20 : type_of% (@rr _ _ c59_20.eq_1) := rr rfl
def c59_21 : ACode := .seq c59_20 .ret
theorem r59_21 : type_of% (@rr _ _ c59_21.eq_1) := rr rfl
def c59_22 : ACode := .seq c59_19 c59_21
theorem r59_22 : type_of% (@rr _ _ c59_22.eq_1) := rr rfl
def c59_23 : ACode := .seq c59_1 c59_22
theorem r59_23 : type_of% (@rr _ _ c59_23.eq_1) := rr rfl
def c59_24 : ACode := .seq c59_0 c59_23
theorem r59_24 : type_of% (@rr _ _ c59_24.eq_1) := rr rfl
def a59 : AFun := ⟨3, 33, c59_24, [.t 6]⟩
attribute [simp] r59_0 r59_1 r59_2 r59_3 r59_4 r59_5 r59_6 r59_7 r59_8 r59_9 r59_10 r59_11 r59_12 r59_13 r59_14 r59_15 r59_16 r59_17 r59_18 r59_19 r59_20 r59_21 r59_22 r59_23 r59_24
theorem m59 : mFun Try.prog Try.f59 a59 = true := by decide +kernel
def c24_0 : ACode := .ops [⟨some 3, .box (.t 0) 6, none, []⟩,⟨some 5, .box (.t 2) 4, none, []⟩,⟨some 6, .mv (.c (.int .i64 0)), none, []⟩] [1, 3, 5]
theorem r24_0 : type_of% (@rr _ _ c24_0.eq_1) := rr rfl
def c24_1 : ACode := .ops [⟨some 7, .load 6 true (.t 3), none, [3]⟩,⟨some 8, .call 26 [.t 7], none, []⟩,⟨some 9, .un .not (.t 8), none, []⟩,⟨some 10, .mv (.t 9), none, []⟩,⟨some 11, .mv (.t 1), some (10, false), []⟩,⟨some 12, .bin .lss (.t 11) (.c (.int .i64 0)), some (10, false), []⟩,⟨some 13, .pick (.t 10) (.c (.bool true)) (.t 12), none, []⟩,⟨some 14, .mv (.t 13), none, []⟩,⟨some 15, .mv (.t 1), some (14, false), []⟩,⟨some 16, .fad (.t 3) 1, some (14, false), [3]⟩,⟨some 17, .load 1 false (.t 16), some (14, false), [3]⟩,⟨some 18, .bin .geq (.t 15) (.t 17), some (14, false), []⟩,⟨some 19, .pick (.t 14) (.c (.bool true)) (.t 18), none, []⟩] [1, 3, 5, 19]
theorem r24_1 : type_of% (@rr _ _ c24_1.eq_1) := rr rfl
def c24_2 : ACode := .ops [⟨some 6, .mv (.c (.int .i64 0)), none, []⟩] [6]
theorem r24_2 : type_of% (@rr _ _ c24_2.eq_1) := rr rfl
def c24_3 : ACode := .seq c24_2 .ret
theorem r24_3 : type_of% (@rr _ _ c24_3.eq_1) := rr rfl
def c24_4 : ACode := .cond (.t 19) c24_3 .skip
theorem r24_4 : type_of% (@rr _ _ c24_4.eq_1) := rr rfl
def c24_5 : ACode := .seq c24_1 c24_4
theorem r24_5 : type_of% (@rr _ _ c24_5.eq_1) := rr rfl
def c24_6 : ACode := .ops [⟨some 20, .load 6 true (.t 3), none, [3]⟩,⟨some 21, .mv (.t 1), none, []⟩,⟨some 22, .load 4 true (.t 5), none, [5]⟩,⟨some 23, .call 59 [.t 20, .t 21, .t 22], none, []⟩,⟨some 6, .mv (.t 23), none, []⟩] [6]
theorem r24_6 : type_of% (@rr _ _ c24_6.eq_1) := rr rfl
def c24_7 : ACode := .seq c24_6 .ret
theorem r24_7 : type_of% (@rr _ _ c24_7.eq_1) := rr rfl
def c24_8 : ACode := .seq c24_5 c24_7
theorem r24_8 : type_of% (@rr _ _ c24_8.eq_1) := rr rfl
def c24_9 : ACode := .seq c24_0 c24_8
theorem r24_9 : type_of% (@rr _ _ c24_9.eq_1) := rr rfl
def a24 : AFun := ⟨3, 24, c24_9, [.t 6]⟩
attribute [simp] r24_0 r24_1 r24_2 r24_3 r24_4 r24_5 r24_6 r24_7 r24_8 r24_9
theorem m24 : mFun Try.prog Try.f24 a24 = true := by decide +kernel
def c62_0 : ACode := .ops [⟨some 2, .box (.t 0) 2, none, []⟩,⟨some 3, .mv (.c (.bool false)), none, []⟩] [1, 2]
theorem r62_0 : type_of% (@rr _ _ c62_0.eq_1) := rr rfl
def c62_1 : ACode := .ops [⟨some 4, .fad (.t 2) 0, none, [2]⟩,⟨some 5, .load 1 false (.t 4), none, [2]⟩,⟨some 6, .bin .lss (.t 5) (.c (.int .i64 0)), none, []⟩,⟨some 7, .mv (.t 6), none, []⟩,⟨some 8, .fad (.t 2) 0, some (7, false), [2]⟩,⟨some 9, .load 1 false (.t 8), some (7, false), [2]⟩,⟨some 10, .fad (.t 1) 1, some (7, false), []⟩,⟨some 11, .load 1 false (.t 10), some (7, false), []⟩,⟨some 12, .bin .geq (.t 9) (.t 11), some (7, false), []⟩,⟨some 13, .pick (.t 7) (.c (.bool true)) (.t 12), none, []⟩,⟨some 14, .mv (.t 13), none, []⟩,⟨some 15, .fad (.t 2) 1, some (14, false), [2]⟩,⟨some 16, .load 1 false (.t 15), some (14, false), [2]⟩,⟨some 17, .fad (.t 1) 0, some (14, false), []⟩,⟨some 18, .load 1 false (.t 17), some (14, false), []⟩,⟨some 19, .call 14 [.t 16, .t 18], some (14, false), []⟩,⟨some 20, .un .not (.t 19), some (14, false), []⟩,⟨some 21, .pick (.t 14) (.c (.bool true)) (.t 20), none, []⟩,⟨some 3, .mv (.t 21), none, []⟩] [3]
theorem r62_1 : type_of% (@rr _ _ c62_1.eq_1) := rr rfl
def c62_2 : ACode := .seq c62_1 .ret
theorem r62_2 : type_of% (@rr _ _ c62_2.eq_1) := rr rfl
def c62_3 : ACode := .seq c62_0 c62_2
theorem r62_3 : type_of% (@rr _ _ c62_3.eq_1) := rr rfl
def a62 : AFun := ⟨2, 22, c62_3, [.t 3]⟩
attribute [simp] r62_0 r62_1 r62_2 r62_3
theorem m62 : mFun Try.prog Try.f62 a62 = true := by decide +kernel
def c97_0 : ACode := .ops [⟨some 4, .mv (.c (.int .i64 0)), none, []⟩] [0, 1]
theorem r97_0 : type_of% (@rr _ _ c97_0.eq_1) := rr rfl
def c97_1 : ACode := .ops [⟨some 6, .mv (.t 0), none, []⟩,⟨some 7, .len (.t 6), none, []⟩,⟨some 8, .mv (.c (.int .i64 0)), none, []⟩] [0, 1, 7, 8]
theorem r97_1 : type_of% (@rr _ _ c97_1.eq_1) := rr rfl
def c97_2 : ACode := .ops [⟨some 9, .bin .lss (.t 8) (.t 7), none, []⟩] [0, 1, 7, 8, 9]
theorem r97_2 : type_of% (@rr _ _ c97_2.eq_1) := rr rfl
def c97_3 : ACode := .cond (.t 9) .skip (.exit 0)
theorem r97_3 : type_of% (@rr _ _ c97_3.eq_1) := rr rfl
def c97_4 : ACode := .ops [⟨some 10, .mv (.t 8), none, []⟩,⟨some 5, .mv (.t 10), none, []⟩] [0, 1, 5, 7, 8]
theorem r97_4 : type_of% (@rr _ _ c97_4.eq_1) := rr rfl
def c97_5 : ACode := .ops [⟨some 11, .mv (.t 1), none, []⟩,⟨some 12, .mv (.t 0), none, []⟩,⟨some 13, .mv (.t 5), none, []⟩,⟨some 14, .ias (.t 12) (.t 13) 2, none, []⟩,⟨some 15, .load 2 true (.t 14), none, []⟩,⟨some 16, .dyn (.t 11) [.t 15], none, []⟩] [0, 1, 5, 7, 8, 16]
theorem r97_5 : type_of% (@rr _ _ c97_5.eq_1) := rr rfl
def c97_6 : ACode := .ops [⟨some 17, .mv (.t 5), none, []⟩,⟨some 4, .mv (.t 17), none, []⟩] [4]
theorem r97_6 : type_of% (@rr _ _ c97_6.eq_1) := rr rfl
def c97_7 : ACode := .seq c97_6 .ret
theorem r97_7 : type_of% (@rr _ _ c97_7.eq_1) := rr rfl
def c97_8 : ACode := .cond (.t 16) c97_7 .skip
theorem r97_8 : type_of% (@rr _ _ c97_8.eq_1) := rr rfl
def c97_9 : ACode := .seq c97_5 c97_8
theorem r97_9 : type_of% (@rr _ _ c97_9.eq_1) := rr rfl
def c97_10 : ACode := .seq c97_4 c97_9
theorem r97_10 : type_of% (@rr _ _ c97_10.eq_1) := rr rfl
def c97_11 : ACode := .block 1 c97_10
theorem r97_11 : type_of% (@rr _ _ c97_11.eq_1) := rr rfl
def c97_12 : ACode := .ops [⟨some 18, .bin .add (.t 8) (.c (.int .i64 1)), none, []⟩,⟨some 8, .mv (.t 18), none, []⟩] [0, 1, 7, 8]
theorem r97_12 : type_of% (@rr _ _ c97_12.eq_1) := rr rfl
def c97_13 : ACode := .seq c97_11 c97_12
theorem r97_13 : type_of% (@rr _ _ c97_13.eq_1) := rr rfl
def c97_14 : ACode := .seq c97_3 c97_13
theorem r97_14 : type_of% (@rr _ _ c97_14.eq_1) := rr rfl
def c97_15 : ACode := .seq c97_2 c97_14
theorem r97_15 : type_of% (@rr _ _ c97_15.eq_1) := rr rfl
def c97_16 : ACode := .keep [0, 1, 7, 8] [] c97_15
theorem r97_16 : type_of% (@rr _ _ c97_16.eq_1) := rr rfl
def c97_17 : ACode := .loop c97_16
theorem r97_17 : type_of% (@rr _ _ c97_17.eq_1) := rr rfl
def c97_18 : ACode := .block 0 c97_17
theorem r97_18 : type_of% (@rr _ _ c97_18.eq_1) := rr rfl
def c97_19 : ACode := .seq c97_1 c97_18
theorem r97_19 : type_of% (@rr _ _ c97_19.eq_1) := rr rfl
def c97_20 : ACode := .ops [⟨some 4, .mv (.c (.int .i64 (-1))), none, []⟩] [4]
theorem r97_20 : type_of% (@rr _ _ c97_20.eq_1) := rr rfl
def c97_21 : ACode := .seq c97_20 .ret
theorem r97_21 : type_of% (@rr _ _ c97_21.eq_1) := rr rfl
def c97_22 : ACode := .seq c97_19 c97_21
theorem r97_22 : type_of% (@rr _ _ c97_22.eq_1) := rr rfl
def c97_23 : ACode := .seq c97_0 c97_22
theorem r97_23 : type_of% (@rr _ _ c97_23.eq_1) := rr rfl
def a97 : AFun := ⟨2, 19, c97_23, [.t 4]⟩
attribute [simp] r97_0 r97_1 r97_2 r97_3 r97_4 r97_5 r97_6 r97_7 r97_8 r97_9 r97_10 r97_11 r97_12 r97_13 r97_14 r97_15 r97_16 r97_17 r97_18 r97_19 r97_20 r97_21 r97_22 r97_23
theorem m97 : mFun Try.prog Try.f97 a97 = true := by decide +kernel
def c61_0 : ACode := .ops [⟨some 4, .mv (.c (.bool false)), none, []⟩] [0, 1]
theorem r61_0 : type_of% (@rr _ _ c61_0.eq_1) := rr rfl
def c61_1 : ACode := .ops [⟨some 5, .mv (.t 0), none, []⟩,⟨some 6, .mv (.t 1), none, []⟩,⟨some 7, .call 97 [.t 5, .t 6], none, []⟩,⟨some 8, .bin .geq (.t 7) (.c (.int .i64 0)), none, []⟩,⟨some 4, .mv (.t 8), none, []⟩] [4]
theorem r61_1 : type_of% (@rr _ _ c61_1.eq_1) := rr rfl
def c61_2 : ACode := .seq c61_1 .ret
theorem r61_2 : type_of% (@rr _ _ c61_2.eq_1) := rr rfl
def c61_3 : ACode := .seq c61_0 c61_2
theorem r61_3 : type_of% (@rr _ _ c61_3.eq_1) := rr rfl
def a61 : AFun := ⟨2, 9, c61_3, [.t 4]⟩
attribute [simp] r61_0 r61_1 r61_2 r61_3
theorem m61 : mFun Try.prog Try.f61 a61 = true := by decide +kernel
def c26_0 : ACode := .ops [⟨some 1, .box (.t 0) 6, none, []⟩,⟨some 2, .mv (.c (.bool false)), none, []⟩] [1]
theorem r26_0 : type_of% (@rr _ _ c26_0.eq_1) := rr rfl
def c26_1 : ACode := .ops [⟨some 5, .fad (.t 1) 0, none, [1]⟩,⟨some 6, .load 1 false (.t 5), none, [1]⟩,⟨some 7, .bin .lss (.t 6) (.c (.int .i64 1)), none, []⟩,⟨some 8, .mv (.t 7), none, []⟩,⟨some 9, .fad (.t 1) 0, some (8, false), [1]⟩,⟨some 10, .load 1 false (.t 9), some (8, false), [1]⟩,⟨some 11, .bin .gtr (.t 10) (.c (.int .i64 4)), some (8, false), []⟩,⟨some 12, .pick (.t 8) (.c (.bool true)) (.t 11), none, []⟩,⟨some 13, .mv (.t 12), none, []⟩,⟨some 14, .fad (.t 1) 1, some (13, false), [1]⟩,⟨some 15, .load 1 false (.t 14), some (13, false), [1]⟩,⟨some 16, .bin .lss (.t 15) (.c (.int .i64 1)), some (13, false), []⟩,⟨some 17, .pick (.t 13) (.c (.bool true)) (.t 16), none, []⟩,⟨some 18, .mv (.t 17), none, []⟩,⟨some 19, .fad (.t 1) 1, some (18, false), [1]⟩,⟨some 20, .load 1 false (.t 19), some (18, false), [1]⟩,⟨some 21, .bin .gtr (.t 20) (.c (.int .i64 3)), some (18, false), []⟩,⟨some 22, .pick (.t 18) (.c (.bool true)) (.t 21), none, []⟩,⟨some 23, .mv (.t 22), none, []⟩,⟨some 24, .fad (.t 1) 5, some (23, false), [1]⟩,⟨some 25, .load 1 false (.t 24), some (23, false), [1]⟩,⟨some 26, .len (.t 25), some (23, false), []⟩,⟨some 27, .bin .gtr (.t 26) (.c (.int .i64 8)), some (23, false), []⟩,⟨some 28, .pick (.t 23) (.c (.bool true)) (.t 27), none, []⟩] [1, 28]
theorem r26_1 : type_of% (@rr _ _ c26_1.eq_1) := rr rfl
def c26_2 : ACode := .ops [⟨some 2, .mv (.c (.bool false)), none, []⟩] [2]
theorem r26_2 : type_of% (@rr _ _ c26_2.eq_1) := rr rfl
def c26_3 : ACode := .seq c26_2 .ret
theorem r26_3 : type_of% (@rr _ _ c26_3.eq_1) := rr rfl
def c26_4 : ACode := .cond (.t 28) c26_3 .skip
theorem r26_4 : type_of% (@rr _ _ c26_4.eq_1) := rr rfl
def c26_5 : ACode := .seq c26_1 c26_4
theorem r26_5 : type_of% (@rr _ _ c26_5.eq_1) := rr rfl
def c26_6 : ACode := .ops [⟨some 29, .fad (.t 1) 2, none, [1]⟩,⟨some 30, .load 3 true (.t 29), none, [1]⟩,⟨some 31, .mv (.c (.int .i64 0)), none, []⟩] [1, 30, 31]
theorem r26_6 : type_of% (@rr _ _ c26_6.eq_1) := rr rfl
def c26_7 : ACode := .ops [⟨some 32, .bin .lss (.t 31) (.c (.int .i64 3)), none, []⟩] [1, 30, 31, 32]
theorem r26_7 : type_of% (@rr _ _ c26_7.eq_1) := rr rfl
def c26_8 : ACode := .cond (.t 32) .skip (.exit 0)
theorem r26_8 : type_of% (@rr _ _ c26_8.eq_1) := rr rfl
def c26_9 : ACode := .ops [⟨some 33, .mv (.t 31), none, []⟩,⟨some 34, .idx (.t 30) (.t 31) 1 3 false, none, []⟩,⟨some 3, .mv (.t 33), none, []⟩,⟨some 4, .mv (.t 34), none, []⟩] [1, 3, 4, 30, 31]
theorem r26_9 : type_of% (@rr _ _ c26_9.eq_1) := rr rfl
def c26_10 : ACode := .ops [⟨some 35, .mv (.t 4), none, []⟩,⟨some 36, .call 60 [.t 35, .c (.int .i64 32)], none, []⟩,⟨some 37, .un .not (.t 36), none, []⟩,⟨some 38, .mv (.t 37), none, []⟩,⟨some 39, .mv (.t 3), some (38, false), []⟩,⟨some 40, .fad (.t 1) 1, some (38, false), [1]⟩,⟨some 41, .load 1 false (.t 40), some (38, false), [1]⟩,⟨some 42, .bin .geq (.t 39) (.t 41), some (38, false), []⟩,⟨some 43, .mv (.t 42), some (38, false), []⟩,⟨some 44, .mv (.t 4), some (43, true), []⟩,⟨some 45, .bin .neq (.t 44) (.c (.int .i64 0)), some (43, true), []⟩,⟨some 46, .pick (.t 43) (.t 45) (.c (.bool false)), some (38, false), []⟩,⟨some 47, .pick (.t 38) (.c (.bool true)) (.t 46), none, []⟩] [1, 30, 31, 47]
theorem r26_10 : type_of% (@rr _ _ c26_10.eq_1) := rr rfl
def c26_11 : ACode := .ops [⟨some 2, .mv (.c (.bool false)), none, []⟩] [2]
theorem r26_11 : type_of% (@rr _ _ c26_11.eq_1) := rr rfl
def c26_12 : ACode := .seq c26_11 .ret
theorem r26_12 : type_of% (@rr _ _ c26_12.eq_1) := rr rfl
def c26_13 : ACode := .cond (.t 47) c26_12 .skip
theorem r26_13 : type_of% (@rr _ _ c26_13.eq_1) := rr rfl
def c26_14 : ACode := .seq c26_10 c26_13
theorem r26_14 : type_of% (@rr _ _ c26_14.eq_1) := rr rfl
def c26_15 : ACode := .seq c26_9 c26_14
theorem r26_15 : type_of% (@rr _ _ c26_15.eq_1) := rr rfl
def c26_16 : ACode := .block 1 c26_15
theorem r26_16 : type_of% (@rr _ _ c26_16.eq_1) := rr rfl
def c26_17 : ACode := .ops [⟨some 48, .bin .add (.t 31) (.c (.int .i64 1)), none, []⟩,⟨some 31, .mv (.t 48), none, []⟩] [1, 30, 31]
theorem r26_17 : type_of% (@rr _ _ c26_17.eq_1) := rr rfl
def c26_18 : ACode := .seq c26_16 c26_17
theorem r26_18 : type_of% (@rr _ _ c26_18.eq_1) := rr rfl
def c26_19 : ACode := .seq c26_8 c26_18
theorem r26_19 : type_of% (@rr _ _ c26_19.eq_1) := rr rfl
def c26_20 : ACode := .seq c26_7 c26_19
theorem r26_20 : type_of% (@rr _ _ c26_20.eq_1) := rr rfl
def c26_21 : ACode := .keep [1, 30, 31] [1] c26_20
theorem r26_21 : type_of% (@rr _ _ c26_21.eq_1) := rr rfl
def c26_22 : ACode := .loop c26_21
theorem r26_22 : type_of% (@rr _ _ c26_22.eq_1) := rr rfl
def c26_23 : ACode := .block 0 c26_22
theorem r26_23 : type_of% (@rr _ _ c26_23.eq_1) := rr rfl
def c26_24 : ACode := .seq c26_6 c26_23
theorem r26_24 : type_of% (@rr _ _ c26_24.eq_1) := rr rfl
def c26_25 : ACode := .ops [⟨some 49, .fad (.t 1) 5, none, [1]⟩,⟨some 50, .load 1 false (.t 49), none, [1]⟩,⟨some 51, .clo 62 [.t 1], none, [1]⟩,⟨some 52, .call 61 [.t 50, .t 51], none, []⟩,⟨some 53, .un .not (.t 52), none, []⟩,⟨some 2, .mv (.t 53), none, []⟩] [2]
theorem r26_25 : type_of% (@rr _ _ c26_25.eq_1) := rr rfl
def c26_26 : ACode := .seq c26_25 .ret
theorem r26_26 : type_of% (@rr _ _ c26_26.eq_1) := rr rfl
def c26_27 : ACode := .seq c26_24 c26_26
theorem r26_27 : type_of% (@rr _ _ c26_27.eq_1) := rr rfl
def c26_28 : ACode := .seq c26_5 c26_27
theorem r26_28 : type_of% (@rr _ _ c26_28.eq_1) := rr rfl
def c26_29 : ACode := .seq c26_0 c26_28
theorem r26_29 : type_of% (@rr _ _ c26_29.eq_1) := rr rfl
def a26 : AFun := ⟨1, 54, c26_29, [.t 2]⟩
attribute [simp] r26_0 r26_1 r26_2 r26_3 r26_4 r26_5 r26_6 r26_7 r26_8 r26_9 r26_10 r26_11 r26_12 r26_13 r26_14 r26_15 r26_16 r26_17 r26_18 r26_19 r26_20 r26_21 r26_22 r26_23 r26_24 r26_25 r26_26 r26_27 r26_28 r26_29
theorem m26 : mFun Try.prog Try.f26 a26 = true := by decide +kernel
@[simp high] theorem rd_point (p : Point) (f : Int) (h0 : 0 ≤ f) (h : f < 4) : rd [.int .i64 p.p0, .int .i64 p.p1, .int .i64 p.p2, .int .i64 p.p3] f.toNat 1 false = some (.int .i64 (p.get f)) := by
  have hf : f = 0 ∨ f = 1 ∨ f = 2 ∨ f = 3 := by omega
  rcases hf with rfl | rfl | rfl | rfl <;> rfl
@[simp high] theorem rd_bias (a b : Int) (x : Bias) (y : AV) (c : Int) (h0 : 0 ≤ c) (h : c < 3) : rd [.int .i64 a, .int .i64 b, .int .i64 x.b0, .int .i64 x.b1, .int .i64 x.b2, y] (2 + c.toNat) 1 false = some (.int .i64 (x.get c)) := by
  have hc : c = 0 ∨ c = 1 ∨ c = 2 := by omega
  rcases hc with rfl | rfl | rfl <;> rfl
theorem rd_tree (l : List Tree) (i : Nat) (h : i < l.length) : rd (encL l) (i * 2) 2 true = some (.agg [.int .i64 l[i].cls, .lst l[i].nodes.length (encL l[i].nodes)]) := rd_row l i h
noncomputable def End (l : List Word) (p : Point) : Option (Int × Node) := Part (∃ d, RT l d) ((leafOf l p : Int), ndAt l (leafOf l p))
noncomputable def ValueC (l : List Word) (p : Point) : Option Int := Part (∃ d, RT l d) (valueAt l p)
theorem runs_end (l : List Word) (p : Point) (c : Int × Node) (h : End l p = some c) : Runs (tbl [(15, sp1 Unpack)]) a115 [Arg.enc l, Arg.enc p] (Arg.enc c) := by
  obtain ⟨⟨d, hr⟩, rfl⟩ := part_some h
  refine ⟨rfl, fun g => run_def ?_⟩
  unfold a115
  have hp := hr.pos
  have hle := hr.le
  have b3 : l.length ≤ maxN := by unfold maxN; omega
  simp -implicitDefEqProofs [b3]
  refine run_while (c := c115_31) (fun m s => ∃ (i j : Nat) (g : Nat → Nat), i < l.length ∧ l.length ≤ m + i ∧ j + m = 31 ∧ walk l p m i = leafOf l p ∧ s = ⟨[(0, .lst l.length (encL l)), (3, .ptr 3 (g 3) 0), (5, .ptr 5 (g 5) 0), (6, .int .i64 i), (9, .int .i64 j)],
    [(3, ⟨[.int .i64 p.p0, .int .i64 p.p1, .int .i64 p.p2, .int .i64 p.p3], false, 0⟩), (5, ⟨[.bool false, .int .i64 0, .int .i64 0, .int .i64 0, .int .i64 0, .int .i64 0], false, 0⟩)], g⟩) 31 ⟨0, 0, bump 5 (bump 3 g), by omega, by omega, by omega, rfl, by simp⟩ ?_
  rintro m s ⟨i, j, g, h1, h2, h3, h4, rfl⟩
  have hU := unpack_at hr h1
  have e1 : (j : Int) < 31 := by omega
  have e2 : ¬ (l.length : Int) ≤ i := by omega
  have w1 : IntKind.i64.wrap ((j : Int) + 1) = (j : Int) + 1 := wrap64 (by omega) (by omega)
  obtain ⟨m, rfl⟩ : ∃ n, m = n + 1 := ⟨m - 1, by omega⟩
  rw [walk] at h4
  cases hl : (ndAt l i).leaf
  case true =>
    rw [hl] at h4
    simp only [if_true] at h4
    simp -implicitDefEqProofs [h1, e1, e2, b3, rd_words, hU, hl, w1]
    rw [← h4, hl]
    simp
  case false =>
    rw [hl] at h4
    simp only [Bool.false_eq_true, if_false] at h4
    have ha := hr.at h1 hl
    have hn := nxt_lt hr h1 hl p
    have hf := hr.feature h1 hl
    have f1 := hf.1
    have f2 := hf.2
    by_cases hc : p.get (ndAt l i).feature ≤ (ndAt l i).cut
    case pos =>
      simp -implicitDefEqProofs [h1, e1, e2, b3, rd_words, hU, hl, w1, f1, f2, hc]
      have he : (nxt (ndAt l i) p : Int) = (ndAt l i).left := by unfold nxt; rw [if_pos hc]; omega
      exact ⟨m, by omega, _, hn.2, by omega, j + 1, by omega, h4, he.symm, by omega⟩
    case neg =>
      simp -implicitDefEqProofs [h1, e1, e2, b3, rd_words, hU, hl, w1, f1, f2, hc]
      have he : (nxt (ndAt l i) p : Int) = (ndAt l i).right := by unfold nxt; rw [if_neg hc]; omega
      exact ⟨m, by omega, _, hn.2, by omega, j + 1, by omega, h4, he.symm, by omega⟩
theorem c_end : Contract Try.prog 115 (sp2 End) :=
  contract_of_runs mixed (tbl_cons c_Unpack tbl_nil) Try.func115 m115 (sp2_runs runs_end)
theorem runs_Value (l : List Word) (p : Point) (c : Int) (h : ValueC l p = some c) : Runs (tbl [(115, sp2 End)]) a96 [Arg.enc l, Arg.enc p] (Arg.enc c) := by
  obtain ⟨hr, rfl⟩ := part_some h
  refine ⟨rfl, fun g => run_def ?_⟩
  unfold a96
  simp -implicitDefEqProofs [End, part_of hr, valueAt]
theorem c_Value : Contract Try.prog 96 (sp2 ValueC) :=
  contract_of_runs mixed (tbl_cons c_end tbl_nil) Try.func96 m96 (sp2_runs runs_Value)
noncomputable def EvalC (m : Model) (c : Int) (p : Point) : Option Int := Part (RM m ∧ 0 ≤ c ∧ c < 3) (evalM m c p)
theorem runs_eval (m : Model) (c : Int) (p : Point) (r : Int) (h : EvalC m c p = some r) : Runs (tbl [(96, sp2 ValueC)]) a59 [Arg.enc m, Arg.enc c, Arg.enc p] (Arg.enc r) := by
  obtain ⟨⟨hr, h0, h3⟩, rfl⟩ := part_some h
  refine ⟨rfl, fun g => run_def ?_⟩
  unfold a59
  have hle := hr.trees
  have b3 : m.trees.length ≤ maxN := by unfold maxN; omega
  simp -implicitDefEqProofs [b3, h0, h3]
  refine run_while (c := c59_15) (fun n s => ∃ (i : Nat) (g : Nat → Nat), i + n = m.trees.length ∧ s = ⟨[(1, .int .i64 c), (5, .ptr 5 (g 5) 0), (7, .int .i64 ((m.trees.take i).foldl (evalF c p) (m.bias.get c))), (15, .lst m.trees.length (encL m.trees)), (16, .int .i64 m.trees.length), (17, .int .i64 i)],
    [(5, ⟨[.int .i64 p.p0, .int .i64 p.p1, .int .i64 p.p2, .int .i64 p.p3], false, 0⟩)], g⟩) m.trees.length ⟨0, bump 5 (bump 3 g), by omega, by simp⟩ ?_
  rintro n s ⟨i, g, hi, rfl⟩
  by_cases h1 : i < m.trees.length
  case pos =>
    have w1 : IntKind.i64.wrap ((i : Int) + 1) = (i : Int) + 1 := wrap64 (by omega) (by omega)
    have hrow := rd_tree m.trees i h1
    have hrt := hr.rt (List.getElem_mem h1)
    have hV : ValueC m.trees[i].nodes p = some (valueAt m.trees[i].nodes p) := part_of ⟨_, hrt⟩ _
    have hb := evalF_le (c := c) (p := p) (m.trees.take (i + 1)) (m.bias.get c) (fun t ht => ⟨_, hr.rt (List.mem_of_mem_take ht)⟩)
    have hb2 := of_fits (Bias.get_fits hr c)
    have hs : (m.trees.take (i + 1)).foldl (evalF c p) (m.bias.get c) = evalF c p ((m.trees.take i).foldl (evalF c p) (m.bias.get c)) m.trees[i] := by
      rw [List.take_succ_eq_append_getElem h1, List.foldl_append]
      rfl
    have hl : (m.trees.take (i + 1)).length ≤ 8 := by simp; omega
    rw [hs] at hb
    rw [← hs] at hb
    by_cases hc : m.trees[i].cls = c
    case pos =>
      have hs2 : (m.trees.take (i + 1)).foldl (evalF c p) (m.bias.get c) = (m.trees.take i).foldl (evalF c p) (m.bias.get c) + valueAt m.trees[i].nodes p := by rw [hs, evalF, if_pos hc]
      have w2 : IntKind.i64.wrap ((m.trees.take i).foldl (evalF c p) (m.bias.get c) + valueAt m.trees[i].nodes p) = (m.trees.take (i + 1)).foldl (evalF c p) (m.bias.get c) := by rw [← hs2]; exact wrap64 (by omega) (by omega)
      simp -implicitDefEqProofs [h1, hrow, hc, hV, w1, w2]
      exact ⟨n - 1, by omega, i + 1, by omega, rfl, by omega⟩
    case neg =>
      have hs2 : (m.trees.take (i + 1)).foldl (evalF c p) (m.bias.get c) = (m.trees.take i).foldl (evalF c p) (m.bias.get c) := by rw [hs, evalF, if_neg hc]
      simp -implicitDefEqProofs [h1, hrow, hc, hV, w1]
      exact ⟨n - 1, by omega, i + 1, by omega, hs2.symm, by omega⟩
  case neg =>
    have hil : i = m.trees.length := by omega
    subst hil
    simp -implicitDefEqProofs [h1, evalM]
theorem c_eval : Contract Try.prog 59 (sp3 EvalC) :=
  contract_of_runs mixed (tbl_cons c_Value tbl_nil) Try.func59 m59 (sp3_runs runs_eval)
def okTree (m : Model) (t : Tree) : Prop := 0 ≤ t.cls ∧ t.cls < m.classes ∧ RT t.nodes m.dim
@[simp] theorem dec_ref_model (m : Model) : (Arg.dec (.ipt 0 [.int .i64 m.dim, .int .i64 m.classes, .int .i64 m.bias.b0, .int .i64 m.bias.b1, .int .i64 m.bias.b2, .lst m.trees.length (encL m.trees)]) : Option (Ref Model)) = some ⟨m⟩ := Arg.dec_enc (⟨m⟩ : Ref Model)
noncomputable def Right1 (t : Tree) (m : Ref Model) : Option Bool := Part (okTree m.v t) false
theorem runs_Right1 (t : Tree) (m : Ref Model) (c : Bool) (h : Right1 t m = some c) : Runs (tbl [(14, sp2 TreeRight)]) a62 [Arg.enc t, Arg.enc m] (Arg.enc c) := by
  obtain ⟨⟨h0, h1, hr⟩, rfl⟩ := part_some h
  obtain ⟨m⟩ := m
  simp only at h0 h1 hr
  refine ⟨rfl, fun g => run_def ?_⟩
  unfold a62
  have e0 : ¬ t.cls < 0 := by omega
  have e1 : ¬ m.classes ≤ t.cls := by omega
  have hT : TreeRight t.nodes m.dim = some true := part_of hr _
  simp -implicitDefEqProofs [e0, e1, hT]
theorem c_Right1 : Contract Try.prog 62 (sp2 Right1) :=
  contract_of_runs mixed (tbl_cons c_tRight tbl_nil) Try.func62 m62 (sp2_runs runs_Right1)
structure CloR where
  m : Model
instance : Arg CloR where
  enc r := .clo 62 [.ipt 0 (Row.enc r.m)]
  dec x := match x with
    | .clo f [.ipt 0 xs] => if f = 62 then (Row.dec xs).map CloR.mk else none
    | _ => none
  dec_enc r := by simp only [if_true, Row.dec_enc]; rfl
  enc_dec x r h := by
    split at h
    · split at h
      · rename_i he
        rw [Option.map_eq_some_iff] at h
        obtain ⟨a, ha, rfl⟩ := h
        rw [Row.enc_dec _ _ ha, he]
      · cases h
    · cases h
@[simp] theorem enc_clor (r : CloR) : Arg.enc r = .clo 62 [.ipt 0 (Row.enc r.m)] := rfl
@[simp] theorem dec_clor (m : Model) : (Arg.dec (.clo 62 [.ipt 0 [.int .i64 m.dim, .int .i64 m.classes, .int .i64 m.bias.b0, .int .i64 m.bias.b1, .int .i64 m.bias.b2, .lst m.trees.length (encL m.trees)]]) : Option CloR) = some ⟨m⟩ := Arg.dec_enc (⟨m⟩ : CloR)
noncomputable def IndexTrees (l : List Tree) (r : CloR) : Option Int := Part (l.length ≤ 8 ∧ ∀ t ∈ l, okTree r.m t) (-1)
theorem runs_IndexTrees (l : List Tree) (r : CloR) (c : Int) (h : IndexTrees l r = some c) : Runs (tbl [(62, sp2 Right1)]) a97 [Arg.enc l, Arg.enc r] (Arg.enc c) := by
  obtain ⟨⟨hle, hr⟩, rfl⟩ := part_some h
  obtain ⟨m⟩ := r
  simp only at hr
  refine ⟨rfl, fun g => run_def ?_⟩
  unfold a97
  have b3 : l.length ≤ maxN := by unfold maxN; omega
  simp -implicitDefEqProofs [b3]
  refine run_while (c := c97_15) (fun n s => ∃ (i : Nat), i + n = l.length ∧ s = ⟨[(0, .lst l.length (encL l)), (1, Arg.enc (⟨m⟩ : CloR)), (7, .int .i64 l.length), (8, .int .i64 i)], [], g⟩) l.length ⟨0, by omega, by simp⟩ ?_
  rintro n s ⟨i, hi, rfl⟩
  by_cases h1 : i < l.length
  case pos =>
    have w1 : IntKind.i64.wrap ((i : Int) + 1) = (i : Int) + 1 := wrap64 (by omega) (by omega)
    have hrow := rd_tree l i h1
    have hR : Right1 ⟨l[i].cls, l[i].nodes⟩ ⟨m⟩ = some false := part_of (hr _ (List.getElem_mem h1)) _
    simp -implicitDefEqProofs [h1, hrow, hR, w1]
    exact ⟨n - 1, by omega, i + 1, by omega, by omega⟩
  case neg =>
    simp -implicitDefEqProofs [h1]
theorem c_IndexTrees : Contract Try.prog 97 (sp2 IndexTrees) :=
  contract_of_runs mixed (tbl_cons c_Right1 tbl_nil) Try.func97 m97 (sp2_runs runs_IndexTrees)
noncomputable def ContainsTrees (l : List Tree) (r : CloR) : Option Bool := Part (l.length ≤ 8 ∧ ∀ t ∈ l, okTree r.m t) false
theorem runs_ContainsTrees (l : List Tree) (r : CloR) (c : Bool) (h : ContainsTrees l r = some c) : Runs (tbl [(97, sp2 IndexTrees)]) a61 [Arg.enc l, Arg.enc r] (Arg.enc c) := by
  obtain ⟨hr, rfl⟩ := part_some h
  obtain ⟨m⟩ := r
  refine ⟨rfl, fun g => run_def ?_⟩
  unfold a61
  have hI : IndexTrees l ⟨m⟩ = some (-1) := part_of hr _
  simp -implicitDefEqProofs [hI]
theorem c_ContainsTrees : Contract Try.prog 61 (sp2 ContainsTrees) :=
  contract_of_runs mixed (tbl_cons c_IndexTrees tbl_nil) Try.func61 m61 (sp2_runs runs_ContainsTrees)
noncomputable def MRight (m : Model) : Option Bool := if m.dim < 1 then some false else Part (RM m) true
theorem runs_mRight (m : Model) (c : Bool) (h : MRight m = some c) : Runs (tbl [(60, sp2 Fits), (61, sp2 ContainsTrees)]) a26 [Arg.enc m] (Arg.enc c) := by
  unfold MRight at h
  split at h
  · rename_i hd
    cases h
    refine ⟨rfl, fun g => run_def ?_⟩
    unfold a26
    simp -implicitDefEqProofs [hd]
  · obtain ⟨hr, rfl⟩ := part_some h
    refine ⟨rfl, fun g => run_def ?_⟩
    unfold a26
    have b3 : m.trees.length ≤ maxN := by have := hr.trees; unfold maxN; omega
    have e0 : ¬ m.dim < 1 := by have := hr.dim; omega
    have e1 : ¬ 4 < m.dim := by have := hr.dim; omega
    have e2 : ¬ m.classes < 1 := by have := hr.classes; omega
    have e3 : ¬ 3 < m.classes := by have := hr.classes; omega
    have e4 : ¬ (8 : Int) < m.trees.length := by have := hr.trees; omega
    have e5 : ¬ m.classes ≤ 0 := by omega
    have hb := hr.bias
    have f0 := hb.1
    have f1 := hb.2.1
    have f2 := hb.2.2
    have hC : ContainsTrees m.trees ⟨m⟩ = some false := part_of ⟨hr.trees, hr.tree⟩ _
    have n1 := hr.none1
    have n2 := hr.none2
    have fz : fits 0 = true := rfl
    by_cases k1 : m.classes ≤ 1 <;> by_cases k2 : m.classes ≤ 2
    · have z1 : decide (m.bias.b1 = 0) = true := by simp [n1 k1]
      have z2 : decide (m.bias.b2 = 0) = true := by simp [n2 k2]
      simp -implicitDefEqProofs [run_round, b3, e0, e1, e2, e3, e4, e5, Fits, fz, f0, f1, f2, k1, k2, z1, z2, hC]
    · omega
    · have z2 : decide (m.bias.b2 = 0) = true := by simp [n2 k2]
      simp -implicitDefEqProofs [run_round, b3, e0, e1, e2, e3, e4, e5, Fits, fz, f0, f1, f2, k1, k2, z2, hC]
    · simp -implicitDefEqProofs [run_round, b3, e0, e1, e2, e3, e4, e5, Fits, fz, f0, f1, f2, k1, k2, hC]
theorem c_mRight : Contract Try.prog 26 (sp1 MRight) :=
  contract_of_runs mixed (tbl_cons c_Fits (tbl_cons c_ContainsTrees tbl_nil)) Try.func26 m26 (sp1_runs runs_mRight)
def evalX (m : Model) (c : Int) (p : Point) : Int := if 0 ≤ c ∧ c < m.classes then evalM m c p else 0
noncomputable def Eval (m : Model) (c : Int) (p : Point) : Option Int := Part (RM m) (evalX m c p)
theorem runs_Eval (m : Model) (c : Int) (p : Point) (r : Int) (h : Eval m c p = some r) : Runs (tbl [(26, sp1 MRight), (59, sp3 EvalC)]) a24 [Arg.enc m, Arg.enc c, Arg.enc p] (Arg.enc r) := by
  obtain ⟨hr, rfl⟩ := part_some h
  refine ⟨rfl, fun g => run_def ?_⟩
  unfold a24
  have hM : MRight m = some true := by unfold MRight; rw [if_neg (by have := hr.dim; omega)]; exact part_of hr _
  by_cases h0 : c < 0
  · have : ¬ 0 ≤ c := by omega
    simp -implicitDefEqProofs [hM, h0, evalX, this]
  · by_cases h1 : m.classes ≤ c
    · have : ¬ c < m.classes := by omega
      simp -implicitDefEqProofs [hM, h0, h1, evalX, this]
    · have e1 : c < m.classes := by omega
      have e0 : 0 ≤ c := by omega
      have hE : EvalC m c p = some (evalM m c p) := part_of ⟨hr, e0, by have := hr.classes; omega⟩ _
      simp -implicitDefEqProofs [hM, h0, h1, evalX, e0, e1, hE]
theorem c_Eval : Contract Try.prog 24 (sp3 Eval) :=
  contract_of_runs mixed (tbl_cons c_mRight (tbl_cons c_eval tbl_nil)) Try.func24 m24 (sp3_runs runs_Eval)
end Go.Co
