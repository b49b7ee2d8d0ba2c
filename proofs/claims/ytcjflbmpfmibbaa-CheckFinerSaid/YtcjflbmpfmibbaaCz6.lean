/- CO: texts of this claim, one behind the other. -/
import Derived.Test.YtcjflbmpfmibbaaCz5
/- CO: the document's own answers: trees and models. -/
set_option maxHeartbeats 16000000
set_option maxRecDepth 100000
namespace Go.Co
open Go.Am Go.Proofs
set_option linter.unusedSimpArgs false
set_option linter.unusedVariables false
def c130_0 : ACode := .ops [⟨some 4, .mv (.c (.bool false)), none, []⟩] [0, 1]
theorem r130_0 : type_of% (@rr _ _ c130_0.eq_1) := rr rfl
def c130_1 : ACode := .ops [⟨some 11, .mv (.t 0), none, []⟩,⟨some 12, .len (.t 11), none, []⟩,⟨some 13, .bin .lss (.t 12) (.c (.int .i64 1)), none, []⟩,⟨some 14, .mv (.t 13), none, []⟩,⟨some 15, .mv (.t 0), some (14, false), []⟩,⟨some 16, .len (.t 15), some (14, false), []⟩,⟨some 17, .bin .gtr (.t 16) (.c (.int .i64 31)), some (14, false), []⟩,⟨some 18, .pick (.t 14) (.c (.bool true)) (.t 17), none, []⟩] [0, 1, 18]
theorem r130_1 : type_of% (@rr _ _ c130_1.eq_1) := rr rfl
def c130_2 : ACode := .ops [⟨some 4, .mv (.c (.bool false)), none, []⟩] [4]
theorem r130_2 : type_of% (@rr _ _ c130_2.eq_1) := rr rfl
def c130_3 : ACode := .seq c130_2 .ret
theorem r130_3 : type_of% (@rr _ _ c130_3.eq_1) := rr rfl
def c130_4 : ACode := .cond (.t 18) c130_3 .skip
theorem r130_4 : type_of% (@rr _ _ c130_4.eq_1) := rr rfl
def c130_5 : ACode := .seq c130_1 c130_4
theorem r130_5 : type_of% (@rr _ _ c130_5.eq_1) := rr rfl
def c130_6 : ACode := .ops [⟨some 19, .mkmap, none, []⟩,⟨some 5, .mv (.t 19), none, []⟩] [0, 1, 5]
theorem r130_6 : type_of% (@rr _ _ c130_6.eq_1) := rr rfl
def c130_7 : ACode := .ops [⟨some 20, .mv (.t 0), none, []⟩,⟨some 21, .len (.t 20), none, []⟩,⟨some 22, .mv (.c (.int .i64 0)), none, []⟩] [0, 1, 5, 20, 21, 22]
theorem r130_7 : type_of% (@rr _ _ c130_7.eq_1) := rr rfl
def c130_8 : ACode := .ops [⟨some 23, .bin .lss (.t 22) (.t 21), none, []⟩] [0, 1, 5, 20, 21, 22, 23]
theorem r130_8 : type_of% (@rr _ _ c130_8.eq_1) := rr rfl
def c130_9 : ACode := .cond (.t 23) .skip (.exit 0)
theorem r130_9 : type_of% (@rr _ _ c130_9.eq_1) := rr rfl
def c130_10 : ACode := .ops [⟨some 24, .mv (.t 22), none, []⟩,⟨some 25, .ias (.t 20) (.t 22) 1, none, []⟩,⟨some 26, .load 1 false (.t 25), none, []⟩,⟨some 6, .mv (.t 24), none, []⟩,⟨some 7, .mv (.t 26), none, []⟩] [0, 1, 5, 6, 7, 20, 21, 22]
theorem r130_10 : type_of% (@rr _ _ c130_10.eq_1) := rr rfl
def c130_11 : ACode := .ops [⟨some 28, .mv (.t 7), none, []⟩,⟨some 29, .call 104 [.t 28], none, []⟩,⟨some 27, .mv (.t 29), none, []⟩,⟨some 30, .ext (.t 27) 0, none, []⟩,⟨some 31, .ext (.t 27) 1, none, []⟩,⟨some 8, .alloc [.bool false, .int .i64 0, .int .i64 0, .int .i64 0, .int .i64 0, .int .i64 0], none, []⟩,⟨none, .store (.t 8) 6 (.t 30), none, [8]⟩,⟨some 9, .mv (.t 31), none, []⟩] [0, 1, 5, 6, 8, 9, 20, 21, 22]
theorem r130_11 : type_of% (@rr _ _ c130_11.eq_1) := rr rfl
def c130_12 : ACode := .ops [⟨some 32, .mv (.t 9), none, []⟩,⟨some 33, .un .not (.t 32), none, []⟩] [0, 1, 5, 6, 8, 20, 21, 22, 33]
theorem r130_12 : type_of% (@rr _ _ c130_12.eq_1) := rr rfl
def c130_13 : ACode := .ops [⟨some 4, .mv (.c (.bool false)), none, []⟩] [4]
theorem r130_13 : type_of% (@rr _ _ c130_13.eq_1) := rr rfl
def c130_14 : ACode := .seq c130_13 .ret
theorem r130_14 : type_of% (@rr _ _ c130_14.eq_1) := rr rfl
def c130_15 : ACode := .cond (.t 33) c130_14 .skip
theorem r130_15 : type_of% (@rr _ _ c130_15.eq_1) := rr rfl
def c130_16 : ACode := .seq c130_12 c130_15
theorem r130_16 : type_of% (@rr _ _ c130_16.eq_1) := rr rfl
def c130_17 : ACode := .ops [⟨some 34, .fad (.t 8) 0, none, [8]⟩,⟨some 35, .load 1 false (.t 34), none, [8]⟩] [0, 1, 5, 6, 8, 20, 21, 22, 35]
theorem r130_17 : type_of% (@rr _ _ c130_17.eq_1) := rr rfl
def c130_18 : ACode := .cond (.t 35) (.exit 1) .skip
theorem r130_18 : type_of% (@rr _ _ c130_18.eq_1) := rr rfl
def c130_19 : ACode := .seq c130_17 c130_18
theorem r130_19 : type_of% (@rr _ _ c130_19.eq_1) := rr rfl
def c130_20 : ACode := .ops [⟨some 36, .fad (.t 8) 2, none, [8]⟩,⟨some 37, .load 1 false (.t 36), none, [8]⟩,⟨some 38, .mv (.t 1), none, []⟩,⟨some 39, .bin .geq (.t 37) (.t 38), none, []⟩,⟨some 40, .mv (.t 39), none, []⟩,⟨some 41, .fad (.t 8) 4, some (40, false), [8]⟩,⟨some 42, .load 1 false (.t 41), some (40, false), [8]⟩,⟨some 43, .mv (.t 6), some (40, false), []⟩,⟨some 44, .bin .leq (.t 42) (.t 43), some (40, false), []⟩,⟨some 45, .pick (.t 40) (.c (.bool true)) (.t 44), none, []⟩,⟨some 46, .mv (.t 45), none, []⟩,⟨some 47, .fad (.t 8) 5, some (46, false), [8]⟩,⟨some 48, .load 1 false (.t 47), some (46, false), [8]⟩,⟨some 49, .mv (.t 6), some (46, false), []⟩,⟨some 50, .bin .leq (.t 48) (.t 49), some (46, false), []⟩,⟨some 51, .pick (.t 46) (.c (.bool true)) (.t 50), none, []⟩,⟨some 52, .mv (.t 51), none, []⟩,⟨some 53, .fad (.t 8) 4, some (52, false), [8]⟩,⟨some 54, .load 1 false (.t 53), some (52, false), [8]⟩,⟨some 55, .mv (.t 0), some (52, false), []⟩,⟨some 56, .len (.t 55), some (52, false), []⟩,⟨some 57, .bin .geq (.t 54) (.t 56), some (52, false), []⟩,⟨some 58, .pick (.t 52) (.c (.bool true)) (.t 57), none, []⟩,⟨some 59, .mv (.t 58), none, []⟩,⟨some 60, .fad (.t 8) 5, some (59, false), [8]⟩,⟨some 61, .load 1 false (.t 60), some (59, false), [8]⟩,⟨some 62, .mv (.t 0), some (59, false), []⟩,⟨some 63, .len (.t 62), some (59, false), []⟩,⟨some 64, .bin .geq (.t 61) (.t 63), some (59, false), []⟩,⟨some 65, .pick (.t 59) (.c (.bool true)) (.t 64), none, []⟩,⟨some 66, .mv (.t 65), none, []⟩,⟨some 67, .fad (.t 8) 4, some (66, false), [8]⟩,⟨some 68, .load 1 false (.t 67), some (66, false), [8]⟩,⟨some 69, .fad (.t 8) 5, some (66, false), [8]⟩,⟨some 70, .load 1 false (.t 69), some (66, false), [8]⟩,⟨some 71, .bin .eql (.t 68) (.t 70), some (66, false), []⟩,⟨some 72, .pick (.t 66) (.c (.bool true)) (.t 71), none, []⟩] [0, 1, 5, 8, 20, 21, 22, 72]
theorem r130_20 : type_of% (@rr _ _ c130_20.eq_1) := rr rfl
def c130_21 : ACode := .ops [⟨some 4, .mv (.c (.bool false)), none, []⟩] [4]
theorem r130_21 : type_of% (@rr _ _ c130_21.eq_1) := rr rfl
def c130_22 : ACode := .seq c130_21 .ret
theorem r130_22 : type_of% (@rr _ _ c130_22.eq_1) := rr rfl
def c130_23 : ACode := .cond (.t 72) c130_22 .skip
theorem r130_23 : type_of% (@rr _ _ c130_23.eq_1) := rr rfl
def c130_24 : ACode := .seq c130_20 c130_23
theorem r130_24 : type_of% (@rr _ _ c130_24.eq_1) := rr rfl
def c130_25 : ACode := .ops [⟨some 73, .mv (.t 5), none, []⟩,⟨some 74, .fad (.t 8) 4, none, [8]⟩,⟨some 75, .load 1 false (.t 74), none, [8]⟩,⟨some 76, .mget (.t 73) (.t 75) (.int .i64 0), none, [19]⟩,⟨some 77, .bin .add (.t 76) (.c (.int .i64 1)), none, []⟩,⟨none, .mupd (.t 73) (.t 75) (.t 77), none, [19]⟩] [0, 1, 5, 8, 20, 21, 22]
theorem r130_25 : type_of% (@rr _ _ c130_25.eq_1) := rr rfl
def c130_26 : ACode := .ops [⟨some 78, .mv (.t 5), none, []⟩,⟨some 79, .fad (.t 8) 5, none, [8]⟩,⟨some 80, .load 1 false (.t 79), none, [8]⟩,⟨some 81, .mget (.t 78) (.t 80) (.int .i64 0), none, [19]⟩,⟨some 82, .bin .add (.t 81) (.c (.int .i64 1)), none, []⟩,⟨none, .mupd (.t 78) (.t 80) (.t 82), none, [19]⟩] [0, 1, 5, 20, 21, 22]
theorem r130_26 : type_of% (@rr _ _ c130_26.eq_1) := rr rfl
def c130_27 : ACode := .seq c130_25 c130_26
theorem r130_27 : type_of% (@rr _ _ c130_27.eq_1) := rr rfl
def c130_28 : ACode := .seq c130_24 c130_27
theorem r130_28 : type_of% (@rr _ _ c130_28.eq_1) := rr rfl
def c130_29 : ACode := .seq c130_19 c130_28
theorem r130_29 : type_of% (@rr _ _ c130_29.eq_1) := rr rfl
def c130_30 : ACode := .seq c130_16 c130_29
theorem r130_30 : type_of% (@rr _ _ c130_30.eq_1) := rr rfl
def c130_31 : ACode := .seq c130_11 c130_30
theorem r130_31 : type_of% (@rr _ _ c130_31.eq_1) := rr rfl
def c130_32 : ACode := .seq c130_10 c130_31
theorem r130_32 : type_of% (@rr _ _ c130_32.eq_1) := rr rfl
def c130_33 : ACode := .block 1 c130_32
theorem r130_33 : type_of% (@rr _ _ c130_33.eq_1) := rr rfl
def c130_34 : ACode := .ops [⟨some 83, .bin .add (.t 22) (.c (.int .i64 1)), none, []⟩,⟨some 22, .mv (.t 83), none, []⟩] [0, 1, 5, 20, 21, 22]
theorem r130_34 : type_of% (@rr _ _ c130_34.eq_1) := rr rfl
def c130_35 : ACode := .seq c130_33 c130_34
theorem r130_35 : type_of% (@rr _ _ c130_35.eq_1) := rr rfl
def c130_36 : ACode := .seq c130_9 c130_35
theorem r130_36 : type_of% (@rr _ _ c130_36.eq_1) := rr rfl
def c130_37 : ACode := .seq c130_8 c130_36
theorem r130_37 : type_of% (@rr _ _ c130_37.eq_1) := rr rfl
def c130_38 : ACode := .keep [0, 1, 5, 20, 21, 22] [19] c130_37
theorem r130_38 : type_of% (@rr _ _ c130_38.eq_1) := rr rfl
def c130_39 : ACode := .loop c130_38
theorem r130_39 : type_of% (@rr _ _ c130_39.eq_1) := rr rfl
def c130_40 : ACode := .block 0 c130_39
theorem r130_40 : type_of% (@rr _ _ c130_40.eq_1) := rr rfl
def c130_41 : ACode := .seq c130_7 c130_40
theorem r130_41 : type_of% (@rr _ _ c130_41.eq_1) := rr rfl
def c130_42 : ACode := .ops [⟨some 10, .mv (.c (.int .i64 1)), none, []⟩] [0, 5, 10]
theorem r130_42 : type_of% (@rr _ _ c130_42.eq_1) := rr rfl
def c130_43 : ACode := .ops [⟨some 84, .mv (.t 10), none, []⟩,⟨some 85, .mv (.t 0), none, []⟩,⟨some 86, .len (.t 85), none, []⟩,⟨some 87, .bin .lss (.t 84) (.t 86), none, []⟩] [0, 5, 10, 87]
theorem r130_43 : type_of% (@rr _ _ c130_43.eq_1) := rr rfl
def c130_44 : ACode := .cond (.t 87) .skip (.exit 2)
theorem r130_44 : type_of% (@rr _ _ c130_44.eq_1) := rr rfl
def c130_45 : ACode := .seq c130_43 c130_44
theorem r130_45 : type_of% (@rr _ _ c130_45.eq_1) := rr rfl
def c130_46 : ACode := .ops [⟨some 90, .mv (.t 5), none, []⟩,⟨some 91, .mv (.t 10), none, []⟩,⟨some 92, .mget (.t 90) (.t 91) (.int .i64 0), none, [19]⟩,⟨some 93, .bin .neq (.t 92) (.c (.int .i64 1)), none, []⟩] [0, 5, 10, 93]
theorem r130_46 : type_of% (@rr _ _ c130_46.eq_1) := rr rfl
def c130_47 : ACode := .ops [⟨some 4, .mv (.c (.bool false)), none, []⟩] [4]
theorem r130_47 : type_of% (@rr _ _ c130_47.eq_1) := rr rfl
def c130_48 : ACode := .seq c130_47 .ret
theorem r130_48 : type_of% (@rr _ _ c130_48.eq_1) := rr rfl
def c130_49 : ACode := .cond (.t 93) c130_48 .skip
theorem r130_49 : type_of% (@rr _ _ c130_49.eq_1) := rr rfl
def c130_50 : ACode := .seq c130_46 c130_49
theorem r130_50 : type_of% (@rr _ _ c130_50.eq_1) := rr rfl
def c130_51 : ACode := .block 3 c130_50
theorem r130_51 : type_of% (@rr _ _ c130_51.eq_1) := rr rfl
def c130_52 : ACode := .ops [⟨some 88, .mv (.t 10), none, []⟩,⟨some 89, .bin .add (.t 88) (.c (.int .i64 1)), none, []⟩,⟨some 10, .mv (.t 89), none, []⟩] [0, 5, 10]
theorem r130_52 : type_of% (@rr _ _ c130_52.eq_1) := rr rfl
def c130_53 : ACode := .seq c130_51 c130_52
theorem r130_53 : type_of% (@rr _ _ c130_53.eq_1) := rr rfl
def c130_54 : ACode := .seq c130_45 c130_53
theorem r130_54 : type_of% (@rr _ _ c130_54.eq_1) := rr rfl
def c130_55 : ACode := .keep [0, 5, 10] [19] c130_54
theorem r130_55 : type_of% (@rr _ _ c130_55.eq_1) := rr rfl
def c130_56 : ACode := .loop c130_55
theorem r130_56 : type_of% (@rr _ _ c130_56.eq_1) := rr rfl
def c130_57 : ACode := .block 2 c130_56
theorem r130_57 : type_of% (@rr _ _ c130_57.eq_1) := rr rfl
def c130_58 : ACode := .seq c130_42 c130_57
theorem r130_58 : type_of% (@rr _ _ c130_58.eq_1) := rr rfl
def c130_59 : ACode := .ops [⟨some 4, .mv (.c (.bool true)), none, []⟩] [4]
theorem r130_59 : type_of% (@rr _ _ c130_59.eq_1) := rr rfl
def c130_60 : ACode := .seq c130_59 .ret
theorem r130_60 : type_of% (@rr _ _ c130_60.eq_1) := rr rfl
def c130_61 : ACode := .seq c130_58 c130_60
theorem r130_61 : type_of% (@rr _ _ c130_61.eq_1) := rr rfl
def c130_62 : ACode := .seq c130_41 c130_61
theorem r130_62 : type_of% (@rr _ _ c130_62.eq_1) := rr rfl
def c130_63 : ACode := .seq c130_6 c130_62
theorem r130_63 : type_of% (@rr _ _ c130_63.eq_1) := rr rfl
def c130_64 : ACode := .seq c130_5 c130_63
theorem r130_64 : type_of% (@rr _ _ c130_64.eq_1) := rr rfl
def c130_65 : ACode := .seq c130_0 c130_64
theorem r130_65 : type_of% (@rr _ _ c130_65.eq_1) := rr rfl
def a130 : AFun := ⟨2, 94, c130_65, [.t 4]⟩
attribute [simp] r130_0 r130_1 r130_2 r130_3 r130_4 r130_5 r130_6 r130_7 r130_8 r130_9 r130_10 r130_11 r130_12 r130_13 r130_14 r130_15 r130_16 r130_17 r130_18 r130_19 r130_20 r130_21 r130_22 r130_23 r130_24 r130_25 r130_26 r130_27 r130_28 r130_29 r130_30 r130_31 r130_32 r130_33 r130_34 r130_35 r130_36 r130_37 r130_38 r130_39 r130_40 r130_41 r130_42 r130_43 r130_44 r130_45 r130_46 r130_47 r130_48 r130_49 r130_50 r130_51 r130_52 r130_53 r130_54 r130_55 r130_56 r130_57 r130_58 r130_59 r130_60 r130_61 r130_62 r130_63 r130_64 r130_65
theorem m130 : mFun Try.prog Try.f130 a130 = true := by decide +kernel
theorem runs_rRT (l : List Word) (dim : Int) (c : Bool) (h : TreeRight l dim = some c) : Runs (tbl [(104, sp1 Unpack)]) a130 [Arg.enc l, Arg.enc dim] (Arg.enc c) := by
  obtain ⟨hr, rfl⟩ := part_some h
  refine ⟨rfl, fun g => run_def ?_⟩
  unfold a130
  have hp := hr.pos
  have hle := hr.le
  have b1 : ¬ (l.length : Int) < 1 := by omega
  have b2 : ¬ (l.length : Int) > 31 := by omega
  have b3 : l.length ≤ maxN := by unfold maxN; omega
  simp -implicitDefEqProofs [b1, b2, b3]
  refine run_while (c := c130_37) (fun n s => ∃ (i : Nat) (A : List (Int × Int)) (g : Nat → Nat), i + n = l.length ∧ (∀ j : Nat, getA j A = cnt l i j) ∧ s = ⟨[(0, .lst l.length (encL l)), (1, .int .i64 dim), (5, .mp 19 (g 19)), (20, .lst l.length (encL l)), (21, .int .i64 l.length), (22, .int .i64 i)], [(19, ⟨flatA A, false, mapTag⟩)], g⟩) l.length ⟨0, [], bump 19 g, by omega, fun j => by simp [getA, cnt], by simp [flatA]⟩ ?_
  rintro n s ⟨i, A, g, hi, hA, rfl⟩
  by_cases h1 : i < l.length
  case pos =>
    have hU := unpack_at hr h1
    have w1 : IntKind.i64.wrap ((i : Int) + 1) = (i : Int) + 1 := wrap64 (by omega) (by omega)
    cases hl : (ndAt l i).leaf
    case true =>
      simp -implicitDefEqProofs [h1, rd_words, hU, hl, w1]
      exact ⟨n - 1, by omega, i + 1, by omega, A, fun j => by rw [hA, cnt_succ h1]; simp [names, hl], by omega, rfl⟩
    case false =>
      have ha := hr.at h1 hl
      have e1 : ¬ dim ≤ (ndAt l i).feature := by omega
      have e2 : ¬ (ndAt l i).left = (ndAt l i).right := ha.2.1
      have f1 : ¬ (ndAt l i).left ≤ i := by omega
      have f2 : ¬ (l.length : Int) ≤ (ndAt l i).left := by omega
      have f3 : ¬ (ndAt l i).right ≤ i := by omega
      have f4 : ¬ (l.length : Int) ≤ (ndAt l i).right := by omega
      have n1 := cnt_le l i (ndAt l i).left.toNat
      have n2 := cnt_le l i (ndAt l i).right.toNat
      have a1 : getA (ndAt l i).left A = cnt l i (ndAt l i).left.toNat := by rw [← hA, show (((ndAt l i).left.toNat : Nat) : Int) = (ndAt l i).left by omega]
      have a2 : getA (ndAt l i).right (setA (ndAt l i).left (cnt l i (ndAt l i).left.toNat + 1) A) = cnt l i (ndAt l i).right.toNat := by
        rw [getA_setA, if_neg (Ne.symm e2), ← hA, show (((ndAt l i).right.toNat : Nat) : Int) = (ndAt l i).right by omega]
      have w2 : IntKind.i64.wrap (cnt l i (ndAt l i).left.toNat + 1) = cnt l i (ndAt l i).left.toNat + 1 := wrap64 (by omega) (by omega)
      have w3 : IntKind.i64.wrap (cnt l i (ndAt l i).right.toNat + 1) = cnt l i (ndAt l i).right.toNat + 1 := wrap64 (by omega) (by omega)
      simp -implicitDefEqProofs [h1, rd_words, hU, hl, w1, b3, e1, e2, f1, f2, f3, f4, a1, a2, w2, w3]
      refine ⟨n - 1, by omega, i + 1, by omega, _, fun j => ?_, by omega, rfl⟩
      rw [getA_setA, getA_setA, cnt_succ h1, hA]
      unfold names
      rw [hl]
      by_cases q1 : (j : Int) = (ndAt l i).right
      · rw [if_pos q1, show (ndAt l i).right.toNat = j by omega]
        simp [q1]
      · rw [if_neg q1]
        by_cases q2 : (j : Int) = (ndAt l i).left
        · rw [if_pos q2, show (ndAt l i).left.toNat = j by omega]
          simp [q2]
        · rw [if_neg q2]
          have q3 : ¬ (ndAt l i).right = (j : Int) := fun e => q1 e.symm
          have q4 : ¬ (ndAt l i).left = (j : Int) := fun e => q2 e.symm
          simp [q3, q4]
  case neg =>
    have hil : i = l.length := by omega
    subst hil
    simp -implicitDefEqProofs [h1]
    refine run_while (c := c130_54) (fun n s => ∃ (i : Nat), i + n = l.length ∧ 1 ≤ i ∧ s = ⟨[(0, .lst l.length (encL l)), (5, .mp 19 (g 19)), (10, .int .i64 i)], [(19, ⟨flatA A, false, mapTag⟩)], g⟩) (l.length - 1) ⟨1, by omega, by omega, by simp⟩ ?_
    rintro n s ⟨i, hi, hi1, rfl⟩
    by_cases h1 : i < l.length
    case pos =>
      have w1 : IntKind.i64.wrap ((i : Int) + 1) = (i : Int) + 1 := wrap64 (by omega) (by omega)
      have hc : getA i A = 1 := by
        rw [hA]
        unfold cnt
        rw [List.take_length, hr.once i hi1 h1]
        rfl
      simp -implicitDefEqProofs [h1, b3, hc, w1]
      exact ⟨n - 1, by omega, i + 1, by omega, by omega, by omega⟩
    case neg =>
      simp -implicitDefEqProofs [h1, b3]
theorem c_rRT : Contract Try.prog 130 (sp2 TreeRight) :=
  contract_of_runs mixed (tbl_cons c_rUnpack tbl_nil) Try.func130 m130 (sp2_runs runs_rRT)
def c86_0 : ACode := .ops [⟨some 1, .box (.t 0) 6, none, []⟩,⟨some 2, .mv (.c (.bool false)), none, []⟩] [1]
theorem r86_0 : type_of% (@rr _ _ c86_0.eq_1) := rr rfl
def c86_1 : ACode := .ops [⟨some 7, .fad (.t 1) 0, none, [1]⟩,⟨some 8, .load 1 false (.t 7), none, [1]⟩,⟨some 9, .bin .lss (.t 8) (.c (.int .i64 1)), none, []⟩,⟨some 10, .mv (.t 9), none, []⟩,⟨some 11, .fad (.t 1) 0, some (10, false), [1]⟩,⟨some 12, .load 1 false (.t 11), some (10, false), [1]⟩,⟨some 13, .bin .gtr (.t 12) (.c (.int .i64 4)), some (10, false), []⟩,⟨some 14, .pick (.t 10) (.c (.bool true)) (.t 13), none, []⟩,⟨some 15, .mv (.t 14), none, []⟩,⟨some 16, .fad (.t 1) 1, some (15, false), [1]⟩,⟨some 17, .load 1 false (.t 16), some (15, false), [1]⟩,⟨some 18, .bin .lss (.t 17) (.c (.int .i64 1)), some (15, false), []⟩,⟨some 19, .pick (.t 15) (.c (.bool true)) (.t 18), none, []⟩,⟨some 20, .mv (.t 19), none, []⟩,⟨some 21, .fad (.t 1) 1, some (20, false), [1]⟩,⟨some 22, .load 1 false (.t 21), some (20, false), [1]⟩,⟨some 23, .bin .gtr (.t 22) (.c (.int .i64 3)), some (20, false), []⟩,⟨some 24, .pick (.t 20) (.c (.bool true)) (.t 23), none, []⟩,⟨some 25, .mv (.t 24), none, []⟩,⟨some 26, .fad (.t 1) 5, some (25, false), [1]⟩,⟨some 27, .load 1 false (.t 26), some (25, false), [1]⟩,⟨some 28, .len (.t 27), some (25, false), []⟩,⟨some 29, .bin .gtr (.t 28) (.c (.int .i64 8)), some (25, false), []⟩,⟨some 30, .pick (.t 25) (.c (.bool true)) (.t 29), none, []⟩] [1, 30]
theorem r86_1 : type_of% (@rr _ _ c86_1.eq_1) := rr rfl
def c86_2 : ACode := .ops [⟨some 2, .mv (.c (.bool false)), none, []⟩] [2]
theorem r86_2 : type_of% (@rr _ _ c86_2.eq_1) := rr rfl
def c86_3 : ACode := .seq c86_2 .ret
theorem r86_3 : type_of% (@rr _ _ c86_3.eq_1) := rr rfl
def c86_4 : ACode := .cond (.t 30) c86_3 .skip
theorem r86_4 : type_of% (@rr _ _ c86_4.eq_1) := rr rfl
def c86_5 : ACode := .seq c86_1 c86_4
theorem r86_5 : type_of% (@rr _ _ c86_5.eq_1) := rr rfl
def c86_6 : ACode := .ops [⟨some 31, .fad (.t 1) 2, none, [1]⟩,⟨some 32, .load 3 true (.t 31), none, [1]⟩,⟨some 33, .mv (.c (.int .i64 0)), none, []⟩] [1, 32, 33]
theorem r86_6 : type_of% (@rr _ _ c86_6.eq_1) := rr rfl
def c86_7 : ACode := .ops [⟨some 34, .bin .lss (.t 33) (.c (.int .i64 3)), none, []⟩] [1, 32, 33, 34]
theorem r86_7 : type_of% (@rr _ _ c86_7.eq_1) := rr rfl
def c86_8 : ACode := .cond (.t 34) .skip (.exit 0)
theorem r86_8 : type_of% (@rr _ _ c86_8.eq_1) := rr rfl
def c86_9 : ACode := .ops [⟨some 35, .mv (.t 33), none, []⟩,⟨some 36, .idx (.t 32) (.t 33) 1 3 false, none, []⟩,⟨some 3, .mv (.t 35), none, []⟩,⟨some 4, .mv (.t 36), none, []⟩] [1, 3, 4, 32, 33]
theorem r86_9 : type_of% (@rr _ _ c86_9.eq_1) := rr rfl
def c86_10 : ACode := .ops [⟨some 37, .mv (.t 4), none, []⟩,⟨some 38, .call 126 [.t 37, .c (.int .i64 32)], none, []⟩,⟨some 39, .un .not (.t 38), none, []⟩,⟨some 40, .mv (.t 39), none, []⟩,⟨some 41, .mv (.t 3), some (40, false), []⟩,⟨some 42, .fad (.t 1) 1, some (40, false), [1]⟩,⟨some 43, .load 1 false (.t 42), some (40, false), [1]⟩,⟨some 44, .bin .geq (.t 41) (.t 43), some (40, false), []⟩,⟨some 45, .mv (.t 44), some (40, false), []⟩,⟨some 46, .mv (.t 4), some (45, true), []⟩,⟨some 47, .bin .neq (.t 46) (.c (.int .i64 0)), some (45, true), []⟩,⟨some 48, .pick (.t 45) (.t 47) (.c (.bool false)), some (40, false), []⟩,⟨some 49, .pick (.t 40) (.c (.bool true)) (.t 48), none, []⟩] [1, 32, 33, 49]
theorem r86_10 : type_of% (@rr _ _ c86_10.eq_1) := rr rfl
def c86_11 : ACode := .ops [⟨some 2, .mv (.c (.bool false)), none, []⟩] [2]
theorem r86_11 : type_of% (@rr _ _ c86_11.eq_1) := rr rfl
def c86_12 : ACode := .seq c86_11 .ret
theorem r86_12 : type_of% (@rr _ _ c86_12.eq_1) := rr rfl
def c86_13 : ACode := .cond (.t 49) c86_12 .skip
theorem r86_13 : type_of% (@rr _ _ c86_13.eq_1) := rr rfl
def c86_14 : ACode := .seq c86_10 c86_13
theorem r86_14 : type_of% (@rr _ _ c86_14.eq_1) := rr rfl
def c86_15 : ACode := .seq c86_9 c86_14
theorem r86_15 : type_of% (@rr _ _ c86_15.eq_1) := rr rfl
def c86_16 : ACode := .block 1 c86_15
theorem r86_16 : type_of% (@rr _ _ c86_16.eq_1) := rr rfl
def c86_17 : ACode := .ops [⟨some 50, .bin .add (.t 33) (.c (.int .i64 1)), none, []⟩,⟨some 33, .mv (.t 50), none, []⟩] [1, 32, 33]
theorem r86_17 : type_of% (@rr _ _ c86_17.eq_1) := rr rfl
def c86_18 : ACode := .seq c86_16 c86_17
theorem r86_18 : type_of% (@rr _ _ c86_18.eq_1) := rr rfl
def c86_19 : ACode := .seq c86_8 c86_18
theorem r86_19 : type_of% (@rr _ _ c86_19.eq_1) := rr rfl
def c86_20 : ACode := .seq c86_7 c86_19
theorem r86_20 : type_of% (@rr _ _ c86_20.eq_1) := rr rfl
def c86_21 : ACode := .keep [1, 32, 33] [1] c86_20
theorem r86_21 : type_of% (@rr _ _ c86_21.eq_1) := rr rfl
def c86_22 : ACode := .loop c86_21
theorem r86_22 : type_of% (@rr _ _ c86_22.eq_1) := rr rfl
def c86_23 : ACode := .block 0 c86_22
theorem r86_23 : type_of% (@rr _ _ c86_23.eq_1) := rr rfl
def c86_24 : ACode := .seq c86_6 c86_23
theorem r86_24 : type_of% (@rr _ _ c86_24.eq_1) := rr rfl
def c86_25 : ACode := .ops [⟨some 51, .fad (.t 1) 5, none, [1]⟩,⟨some 52, .load 1 false (.t 51), none, [1]⟩,⟨some 53, .len (.t 52), none, []⟩,⟨some 54, .mv (.c (.int .i64 0)), none, []⟩] [1, 52, 53, 54]
theorem r86_25 : type_of% (@rr _ _ c86_25.eq_1) := rr rfl
def c86_26 : ACode := .ops [⟨some 55, .bin .lss (.t 54) (.t 53), none, []⟩] [1, 52, 53, 54, 55]
theorem r86_26 : type_of% (@rr _ _ c86_26.eq_1) := rr rfl
def c86_27 : ACode := .cond (.t 55) .skip (.exit 2)
theorem r86_27 : type_of% (@rr _ _ c86_27.eq_1) := rr rfl
def c86_28 : ACode := .ops [⟨some 56, .ias (.t 52) (.t 54) 2, none, []⟩,⟨some 57, .load 2 true (.t 56), none, []⟩,⟨some 6, .alloc [.int .i64 0, .nils], none, []⟩,⟨none, .store (.t 6) 2 (.t 57), none, [6]⟩] [1, 6, 52, 53, 54]
theorem r86_28 : type_of% (@rr _ _ c86_28.eq_1) := rr rfl
def c86_29 : ACode := .ops [⟨some 58, .fad (.t 6) 0, none, [6]⟩,⟨some 59, .load 1 false (.t 58), none, [6]⟩,⟨some 60, .bin .lss (.t 59) (.c (.int .i64 0)), none, []⟩,⟨some 61, .mv (.t 60), none, []⟩,⟨some 62, .fad (.t 6) 0, some (61, false), [6]⟩,⟨some 63, .load 1 false (.t 62), some (61, false), [6]⟩,⟨some 64, .fad (.t 1) 1, some (61, false), [1]⟩,⟨some 65, .load 1 false (.t 64), some (61, false), [1]⟩,⟨some 66, .bin .geq (.t 63) (.t 65), some (61, false), []⟩,⟨some 67, .pick (.t 61) (.c (.bool true)) (.t 66), none, []⟩,⟨some 68, .mv (.t 67), none, []⟩,⟨some 69, .fad (.t 6) 1, some (68, false), [6]⟩,⟨some 70, .load 1 false (.t 69), some (68, false), [6]⟩,⟨some 71, .fad (.t 1) 0, some (68, false), [1]⟩,⟨some 72, .load 1 false (.t 71), some (68, false), [1]⟩,⟨some 73, .call 130 [.t 70, .t 72], some (68, false), []⟩,⟨some 74, .un .not (.t 73), some (68, false), []⟩,⟨some 75, .pick (.t 68) (.c (.bool true)) (.t 74), none, []⟩] [1, 52, 53, 54, 75]
theorem r86_29 : type_of% (@rr _ _ c86_29.eq_1) := rr rfl
def c86_30 : ACode := .ops [⟨some 2, .mv (.c (.bool false)), none, []⟩] [2]
theorem r86_30 : type_of% (@rr _ _ c86_30.eq_1) := rr rfl
def c86_31 : ACode := .seq c86_30 .ret
theorem r86_31 : type_of% (@rr _ _ c86_31.eq_1) := rr rfl
def c86_32 : ACode := .cond (.t 75) c86_31 .skip
theorem r86_32 : type_of% (@rr _ _ c86_32.eq_1) := rr rfl
def c86_33 : ACode := .seq c86_29 c86_32
theorem r86_33 : type_of% (@rr _ _ c86_33.eq_1) := rr rfl
def c86_34 : ACode := .seq c86_28 c86_33
theorem r86_34 : type_of% (@rr _ _ c86_34.eq_1) := rr rfl
def c86_35 : ACode := .block 3 c86_34
theorem r86_35 : type_of% (@rr _ _ c86_35.eq_1) := rr rfl
def c86_36 : ACode := .ops [⟨some 76, .bin .add (.t 54) (.c (.int .i64 1)), none, []⟩,⟨some 54, .mv (.t 76), none, []⟩] [1, 52, 53, 54]
theorem r86_36 : type_of% (@rr _ _ c86_36.eq_1) := rr rfl
def c86_37 : ACode := .seq c86_35 c86_36
theorem r86_37 : type_of% (@rr _ _ c86_37.eq_1) := rr rfl
def c86_38 : ACode := .seq c86_27 c86_37
theorem r86_38 : type_of% (@rr _ _ c86_38.eq_1) := rr rfl
def c86_39 : ACode := .seq c86_26 c86_38
theorem r86_39 : type_of% (@rr _ _ c86_39.eq_1) := rr rfl
def c86_40 : ACode := .keep [1, 52, 53, 54] [1] c86_39
theorem r86_40 : type_of% (@rr _ _ c86_40.eq_1) := rr rfl
def c86_41 : ACode := .loop c86_40
theorem r86_41 : type_of% (@rr _ _ c86_41.eq_1) := rr rfl
def c86_42 : ACode := .block 2 c86_41
theorem r86_42 : type_of% (@rr _ _ c86_42.eq_1) := rr rfl
def c86_43 : ACode := .seq c86_25 c86_42
theorem r86_43 : type_of% (@rr _ _ c86_43.eq_1) := rr rfl
def c86_44 : ACode := .ops [⟨some 2, .mv (.c (.bool true)), none, []⟩] [2]
theorem r86_44 : type_of% (@rr _ _ c86_44.eq_1) := rr rfl
def c86_45 : ACode := .seq c86_44 .ret
theorem r86_45 : type_of% (@rr _ _ c86_45.eq_1) := rr rfl
def c86_46 : ACode := .seq c86_43 c86_45
theorem r86_46 : type_of% (@rr _ _ c86_46.eq_1) := rr rfl
def c86_47 : ACode := .seq c86_24 c86_46
theorem r86_47 : type_of% (@rr _ _ c86_47.eq_1) := rr rfl
def c86_48 : ACode := .seq c86_5 c86_47
theorem r86_48 : type_of% (@rr _ _ c86_48.eq_1) := rr rfl
def c86_49 : ACode := .seq c86_0 c86_48
theorem r86_49 : type_of% (@rr _ _ c86_49.eq_1) := rr rfl
def a86 : AFun := ⟨1, 77, c86_49, [.t 2]⟩
attribute [simp] r86_0 r86_1 r86_2 r86_3 r86_4 r86_5 r86_6 r86_7 r86_8 r86_9 r86_10 r86_11 r86_12 r86_13 r86_14 r86_15 r86_16 r86_17 r86_18 r86_19 r86_20 r86_21 r86_22 r86_23 r86_24 r86_25 r86_26 r86_27 r86_28 r86_29 r86_30 r86_31 r86_32 r86_33 r86_34 r86_35 r86_36 r86_37 r86_38 r86_39 r86_40 r86_41 r86_42 r86_43 r86_44 r86_45 r86_46 r86_47 r86_48 r86_49
theorem m86 : mFun Try.prog Try.f86 a86 = true := by decide +kernel
def c148_0 : ACode := .ops [⟨some 3, .box (.t 1) 4, none, []⟩,⟨some 4, .mv (.c (.int .i64 0)), none, []⟩] [0, 3]
theorem r148_0 : type_of% (@rr _ _ c148_0.eq_1) := rr rfl
def c148_1 : ACode := .ops [⟨some 5, .mv (.c (.int .i64 0)), none, []⟩] [0, 3, 5]
theorem r148_1 : type_of% (@rr _ _ c148_1.eq_1) := rr rfl
def c148_2 : ACode := .ops [⟨some 8, .mv (.c (.int .i64 0)), none, []⟩] [0, 3, 5, 8]
theorem r148_2 : type_of% (@rr _ _ c148_2.eq_1) := rr rfl
def c148_3 : ACode := .ops [⟨some 9, .bin .lss (.t 8) (.c (.int .i64 31)), none, []⟩] [0, 3, 5, 8, 9]
theorem r148_3 : type_of% (@rr _ _ c148_3.eq_1) := rr rfl
def c148_4 : ACode := .cond (.t 9) .skip (.exit 0)
theorem r148_4 : type_of% (@rr _ _ c148_4.eq_1) := rr rfl
def c148_5 : ACode := .ops [⟨some 10, .mv (.t 5), none, []⟩,⟨some 11, .mv (.t 0), none, []⟩,⟨some 12, .len (.t 11), none, []⟩,⟨some 13, .bin .geq (.t 10) (.t 12), none, []⟩] [0, 3, 5, 8, 13]
theorem r148_5 : type_of% (@rr _ _ c148_5.eq_1) := rr rfl
def c148_6 : ACode := .ops [⟨some 4, .mv (.c (.int .i64 (-1))), none, []⟩] [4]
theorem r148_6 : type_of% (@rr _ _ c148_6.eq_1) := rr rfl
def c148_7 : ACode := .seq c148_6 .ret
theorem r148_7 : type_of% (@rr _ _ c148_7.eq_1) := rr rfl
def c148_8 : ACode := .cond (.t 13) c148_7 .skip
theorem r148_8 : type_of% (@rr _ _ c148_8.eq_1) := rr rfl
def c148_9 : ACode := .seq c148_5 c148_8
theorem r148_9 : type_of% (@rr _ _ c148_9.eq_1) := rr rfl
def c148_10 : ACode := .ops [⟨some 15, .mv (.t 0), none, []⟩,⟨some 16, .mv (.t 5), none, []⟩,⟨some 17, .ias (.t 15) (.t 16) 1, none, []⟩,⟨some 18, .load 1 false (.t 17), none, []⟩,⟨some 19, .call 104 [.t 18], none, []⟩,⟨some 14, .mv (.t 19), none, []⟩,⟨some 20, .ext (.t 14) 0, none, []⟩,⟨some 21, .ext (.t 14) 1, none, []⟩,⟨some 6, .alloc [.bool false, .int .i64 0, .int .i64 0, .int .i64 0, .int .i64 0, .int .i64 0], none, []⟩,⟨none, .store (.t 6) 6 (.t 20), none, [6]⟩,⟨some 7, .mv (.t 21), none, []⟩] [0, 3, 5, 6, 7, 8]
theorem r148_10 : type_of% (@rr _ _ c148_10.eq_1) := rr rfl
def c148_11 : ACode := .ops [⟨some 22, .mv (.t 7), none, []⟩,⟨some 23, .un .not (.t 22), none, []⟩] [0, 3, 5, 6, 8, 23]
theorem r148_11 : type_of% (@rr _ _ c148_11.eq_1) := rr rfl
def c148_12 : ACode := .ops [⟨some 4, .mv (.c (.int .i64 (-1))), none, []⟩] [4]
theorem r148_12 : type_of% (@rr _ _ c148_12.eq_1) := rr rfl
def c148_13 : ACode := .seq c148_12 .ret
theorem r148_13 : type_of% (@rr _ _ c148_13.eq_1) := rr rfl
def c148_14 : ACode := .cond (.t 23) c148_13 .skip
theorem r148_14 : type_of% (@rr _ _ c148_14.eq_1) := rr rfl
def c148_15 : ACode := .seq c148_11 c148_14
theorem r148_15 : type_of% (@rr _ _ c148_15.eq_1) := rr rfl
def c148_16 : ACode := .ops [⟨some 27, .fad (.t 6) 0, none, [6]⟩,⟨some 28, .load 1 false (.t 27), none, [6]⟩,⟨some 26, .mv (.t 28), none, []⟩] [0, 3, 5, 6, 8, 26]
theorem r148_16 : type_of% (@rr _ _ c148_16.eq_1) := rr rfl
def c148_17 : ACode := .ops [⟨some 29, .mv (.t 5), none, []⟩,⟨some 4, .mv (.t 29), none, []⟩] [4]
theorem r148_17 : type_of% (@rr _ _ c148_17.eq_1) := rr rfl
def c148_18 : ACode := .seq c148_17 .ret
theorem r148_18 : type_of% (@rr _ _ c148_18.eq_1) := rr rfl
def c148_19 : ACode := .ops [⟨some 31, .fad (.t 6) 2, none, [6]⟩,⟨some 32, .load 1 false (.t 31), none, [6]⟩,⟨some 33, .iad (.t 3) (.t 32) 1 4, none, [3]⟩,⟨some 34, .load 1 false (.t 33), none, [3]⟩,⟨some 35, .fad (.t 6) 3, none, [6]⟩,⟨some 36, .load 1 false (.t 35), none, [6]⟩,⟨some 37, .bin .leq (.t 34) (.t 36), none, []⟩,⟨some 30, .mv (.t 37), none, []⟩] [0, 3, 6, 8, 30]
theorem r148_19 : type_of% (@rr _ _ c148_19.eq_1) := rr rfl
def c148_20 : ACode := .ops [⟨some 38, .fad (.t 6) 4, none, [6]⟩,⟨some 39, .load 1 false (.t 38), none, [6]⟩,⟨some 5, .mv (.t 39), none, []⟩] [0, 3, 5, 8]
theorem r148_20 : type_of% (@rr _ _ c148_20.eq_1) := rr rfl
def c148_21 : ACode := .ops [⟨some 24, .fad (.t 6) 5, none, [6]⟩,⟨some 25, .load 1 false (.t 24), none, [6]⟩,⟨some 5, .mv (.t 25), none, []⟩] [0, 3, 5, 8]
theorem r148_21 : type_of% (@rr _ _ c148_21.eq_1) := rr rfl
def c148_22 : ACode := .cond (.t 30) c148_20 c148_21
theorem r148_22 : type_of% (@rr _ _ c148_22.eq_1) := rr rfl
def c148_23 : ACode := .seq c148_19 c148_22
theorem r148_23 : type_of% (@rr _ _ c148_23.eq_1) := rr rfl
def c148_24 : ACode := .cond (.t 26) c148_18 c148_23
theorem r148_24 : type_of% (@rr _ _ c148_24.eq_1) := rr rfl
def c148_25 : ACode := .seq c148_16 c148_24
theorem r148_25 : type_of% (@rr _ _ c148_25.eq_1) := rr rfl
def c148_26 : ACode := .block 2 c148_25
theorem r148_26 : type_of% (@rr _ _ c148_26.eq_1) := rr rfl
def c148_27 : ACode := .seq c148_15 c148_26
theorem r148_27 : type_of% (@rr _ _ c148_27.eq_1) := rr rfl
def c148_28 : ACode := .seq c148_10 c148_27
theorem r148_28 : type_of% (@rr _ _ c148_28.eq_1) := rr rfl
def c148_29 : ACode := .seq c148_9 c148_28
theorem r148_29 : type_of% (@rr _ _ c148_29.eq_1) := rr rfl
def c148_30 : ACode := .block 1 c148_29
theorem r148_30 : type_of% (@rr _ _ c148_30.eq_1) := rr rfl
def c148_31 : ACode := .ops [⟨some 40, .bin .add (.t 8) (.c (.int .i64 1)), none, []⟩,⟨some 8, .mv (.t 40), none, []⟩] [0, 3, 5, 8]
theorem r148_31 : type_of% (@rr _ _ c148_31.eq_1) := rr rfl
def c148_32 : ACode := .seq c148_30 c148_31
theorem r148_32 : type_of% (@rr _ _ c148_32.eq_1) := rr rfl
def c148_33 : ACode := .seq c148_4 c148_32
theorem r148_33 : type_of% (@rr _ _ c148_33.eq_1) := rr rfl
def c148_34 : ACode := .seq c148_3 c148_33
theorem r148_34 : type_of% (@rr _ _ c148_34.eq_1) := rr rfl
def c148_35 : ACode := .keep [0, 3, 5, 8] [3] c148_34
theorem r148_35 : type_of% (@rr _ _ c148_35.eq_1) := rr rfl
def c148_36 : ACode := .loop c148_35
theorem r148_36 : type_of% (@rr _ _ c148_36.eq_1) := rr rfl
def c148_37 : ACode := .block 0 c148_36
theorem r148_37 : type_of% (@rr _ _ c148_37.eq_1) := rr rfl
def c148_38 : ACode := .seq c148_2 c148_37
theorem r148_38 : type_of% (@rr _ _ c148_38.eq_1) := rr rfl
def c148_39 : ACode := .ops [⟨some 4, .mv (.c (.int .i64 (-1))), none, []⟩] [4]
theorem r148_39 : type_of% (@rr _ _ c148_39.eq_1) := rr rfl
def c148_40 : ACode := .seq c148_39 .ret
theorem r148_40 : type_of% (@rr _ _ c148_40.eq_1) := rr rfl
def c148_41 : ACode := .seq c148_38 c148_40
theorem r148_41 : type_of% (@rr _ _ c148_41.eq_1) := rr rfl
def c148_42 : ACode := .seq c148_1 c148_41
theorem r148_42 : type_of% (@rr _ _ c148_42.eq_1) := rr rfl
def c148_43 : ACode := .seq c148_0 c148_42
theorem r148_43 : type_of% (@rr _ _ c148_43.eq_1) := rr rfl
def a148 : AFun := ⟨2, 41, c148_43, [.t 4]⟩
attribute [simp] r148_0 r148_1 r148_2 r148_3 r148_4 r148_5 r148_6 r148_7 r148_8 r148_9 r148_10 r148_11 r148_12 r148_13 r148_14 r148_15 r148_16 r148_17 r148_18 r148_19 r148_20 r148_21 r148_22 r148_23 r148_24 r148_25 r148_26 r148_27 r148_28 r148_29 r148_30 r148_31 r148_32 r148_33 r148_34 r148_35 r148_36 r148_37 r148_38 r148_39 r148_40 r148_41 r148_42 r148_43
theorem m148 : mFun Try.prog Try.f148 a148 = true := by decide +kernel
def c129_0 : ACode := .ops [⟨some 3, .box (.t 1) 4, none, []⟩,⟨some 4, .mv (.c (.int .i64 0)), none, []⟩] [0, 3]
theorem r129_0 : type_of% (@rr _ _ c129_0.eq_1) := rr rfl
def c129_1 : ACode := .ops [⟨some 8, .mv (.t 0), none, []⟩,⟨some 9, .load 4 true (.t 3), none, [3]⟩,⟨some 10, .call 148 [.t 8, .t 9], none, []⟩,⟨some 5, .mv (.t 10), none, []⟩] [0, 5]
theorem r129_1 : type_of% (@rr _ _ c129_1.eq_1) := rr rfl
def c129_2 : ACode := .ops [⟨some 11, .mv (.t 5), none, []⟩,⟨some 12, .bin .lss (.t 11) (.c (.int .i64 0)), none, []⟩] [0, 5, 12]
theorem r129_2 : type_of% (@rr _ _ c129_2.eq_1) := rr rfl
def c129_3 : ACode := .ops [⟨some 4, .mv (.c (.int .i64 0)), none, []⟩] [4]
theorem r129_3 : type_of% (@rr _ _ c129_3.eq_1) := rr rfl
def c129_4 : ACode := .seq c129_3 .ret
theorem r129_4 : type_of% (@rr _ _ c129_4.eq_1) := rr rfl
def c129_5 : ACode := .cond (.t 12) c129_4 .skip
theorem r129_5 : type_of% (@rr _ _ c129_5.eq_1) := rr rfl
def c129_6 : ACode := .seq c129_2 c129_5
theorem r129_6 : type_of% (@rr _ _ c129_6.eq_1) := rr rfl
def c129_7 : ACode := .ops [⟨some 14, .mv (.t 0), none, []⟩,⟨some 15, .mv (.t 5), none, []⟩,⟨some 16, .ias (.t 14) (.t 15) 1, none, []⟩,⟨some 17, .load 1 false (.t 16), none, []⟩,⟨some 18, .call 104 [.t 17], none, []⟩,⟨some 13, .mv (.t 18), none, []⟩,⟨some 19, .ext (.t 13) 0, none, []⟩,⟨some 20, .ext (.t 13) 1, none, []⟩,⟨some 6, .alloc [.bool false, .int .i64 0, .int .i64 0, .int .i64 0, .int .i64 0, .int .i64 0], none, []⟩,⟨none, .store (.t 6) 6 (.t 19), none, [6]⟩,⟨some 7, .mv (.t 20), none, []⟩] [6]
theorem r129_7 : type_of% (@rr _ _ c129_7.eq_1) := rr rfl
def c129_8 : ACode := .ops [⟨some 21, .fad (.t 6) 1, none, [6]⟩,⟨some 22, .load 1 false (.t 21), none, [6]⟩,⟨some 4, .mv (.t 22), none, []⟩] [4]
theorem r129_8 : type_of% (@rr _ _ c129_8.eq_1) := rr rfl
def c129_9 : ACode := .seq c129_8 .ret
theorem r129_9 : type_of% (@rr _ _ c129_9.eq_1) := rr rfl
def c129_10 : ACode := .seq c129_7 c129_9
theorem r129_10 : type_of% (@rr _ _ c129_10.eq_1) := rr rfl
def c129_11 : ACode := .seq c129_6 c129_10
theorem r129_11 : type_of% (@rr _ _ c129_11.eq_1) := rr rfl
def c129_12 : ACode := .seq c129_1 c129_11
theorem r129_12 : type_of% (@rr _ _ c129_12.eq_1) := rr rfl
def c129_13 : ACode := .seq c129_0 c129_12
theorem r129_13 : type_of% (@rr _ _ c129_13.eq_1) := rr rfl
def a129 : AFun := ⟨2, 23, c129_13, [.t 4]⟩
attribute [simp] r129_0 r129_1 r129_2 r129_3 r129_4 r129_5 r129_6 r129_7 r129_8 r129_9 r129_10 r129_11 r129_12 r129_13
theorem m129 : mFun Try.prog Try.f129 a129 = true := by decide +kernel
def c84_0 : ACode := .ops [⟨some 3, .box (.t 0) 6, none, []⟩,⟨some 5, .box (.t 2) 4, none, []⟩,⟨some 6, .mv (.c (.int .i64 0)), none, []⟩] [1, 3, 5]
theorem r84_0 : type_of% (@rr _ _ c84_0.eq_1) := rr rfl
def c84_1 : ACode := .ops [⟨some 10, .load 6 true (.t 3), none, [3]⟩,⟨some 11, .call 86 [.t 10], none, []⟩,⟨some 12, .un .not (.t 11), none, []⟩,⟨some 13, .mv (.t 12), none, []⟩,⟨some 14, .mv (.t 1), some (13, false), []⟩,⟨some 15, .bin .lss (.t 14) (.c (.int .i64 0)), some (13, false), []⟩,⟨some 16, .pick (.t 13) (.c (.bool true)) (.t 15), none, []⟩,⟨some 17, .mv (.t 16), none, []⟩,⟨some 18, .mv (.t 1), some (17, false), []⟩,⟨some 19, .fad (.t 3) 1, some (17, false), [3]⟩,⟨some 20, .load 1 false (.t 19), some (17, false), [3]⟩,⟨some 21, .bin .geq (.t 18) (.t 20), some (17, false), []⟩,⟨some 22, .pick (.t 17) (.c (.bool true)) (.t 21), none, []⟩] [1, 3, 5, 22]
theorem r84_1 : type_of% (@rr _ _ c84_1.eq_1) := rr rfl
def c84_2 : ACode := .ops [⟨some 6, .mv (.c (.int .i64 0)), none, []⟩] [6]
theorem r84_2 : type_of% (@rr _ _ c84_2.eq_1) := rr rfl
def c84_3 : ACode := .seq c84_2 .ret
theorem r84_3 : type_of% (@rr _ _ c84_3.eq_1) := rr rfl
def c84_4 : ACode := .cond (.t 22) c84_3 .skip
theorem r84_4 : type_of% (@rr _ _ c84_4.eq_1) := rr rfl
def c84_5 : ACode := .seq c84_1 c84_4
theorem r84_5 : type_of% (@rr _ _ c84_5.eq_1) := rr rfl
def c84_6 : ACode := .ops [⟨some 23, .mv (.t 1), none, []⟩,⟨some 24, .fad (.t 3) 2, none, [3]⟩,⟨some 25, .iad (.t 24) (.t 23) 1 3, none, [3]⟩,⟨some 26, .load 1 false (.t 25), none, [3]⟩,⟨some 7, .mv (.t 26), none, []⟩] [1, 3, 5, 7]
theorem r84_6 : type_of% (@rr _ _ c84_6.eq_1) := rr rfl
def c84_7 : ACode := .ops [⟨some 27, .fad (.t 3) 5, none, [3]⟩,⟨some 28, .load 1 false (.t 27), none, [3]⟩,⟨some 29, .len (.t 28), none, []⟩,⟨some 30, .mv (.c (.int .i64 0)), none, []⟩] [1, 5, 7, 28, 29, 30]
theorem r84_7 : type_of% (@rr _ _ c84_7.eq_1) := rr rfl
def c84_8 : ACode := .ops [⟨some 31, .bin .lss (.t 30) (.t 29), none, []⟩] [1, 5, 7, 28, 29, 30, 31]
theorem r84_8 : type_of% (@rr _ _ c84_8.eq_1) := rr rfl
def c84_9 : ACode := .cond (.t 31) .skip (.exit 0)
theorem r84_9 : type_of% (@rr _ _ c84_9.eq_1) := rr rfl
def c84_10 : ACode := .ops [⟨some 32, .ias (.t 28) (.t 30) 2, none, []⟩,⟨some 33, .load 2 true (.t 32), none, []⟩,⟨some 9, .alloc [.int .i64 0, .nils], none, []⟩,⟨none, .store (.t 9) 2 (.t 33), none, [9]⟩] [1, 5, 7, 9, 28, 29, 30]
theorem r84_10 : type_of% (@rr _ _ c84_10.eq_1) := rr rfl
def c84_11 : ACode := .ops [⟨some 34, .fad (.t 9) 0, none, [9]⟩,⟨some 35, .load 1 false (.t 34), none, [9]⟩,⟨some 36, .mv (.t 1), none, []⟩,⟨some 37, .bin .eql (.t 35) (.t 36), none, []⟩] [1, 5, 7, 9, 28, 29, 30, 37]
theorem r84_11 : type_of% (@rr _ _ c84_11.eq_1) := rr rfl
def c84_12 : ACode := .ops [⟨some 38, .mv (.t 7), none, []⟩,⟨some 39, .fad (.t 9) 1, none, [9]⟩,⟨some 40, .load 1 false (.t 39), none, [9]⟩,⟨some 41, .load 4 true (.t 5), none, [5]⟩,⟨some 42, .call 129 [.t 40, .t 41], none, []⟩,⟨some 43, .bin .add (.t 38) (.t 42), none, []⟩,⟨some 7, .mv (.t 43), none, []⟩] [1, 5, 7, 28, 29, 30]
theorem r84_12 : type_of% (@rr _ _ c84_12.eq_1) := rr rfl
def c84_13 : ACode := .cond (.t 37) c84_12 .skip
theorem r84_13 : type_of% (@rr _ _ c84_13.eq_1) := rr rfl
def c84_14 : ACode := .seq c84_11 c84_13
theorem r84_14 : type_of% (@rr _ _ c84_14.eq_1) := rr rfl
def c84_15 : ACode := .seq c84_10 c84_14
theorem r84_15 : type_of% (@rr _ _ c84_15.eq_1) := rr rfl
def c84_16 : ACode := .block 1 c84_15
theorem r84_16 : type_of% (@rr _ _ c84_16.eq_1) := rr rfl
def c84_17 : ACode := .ops [⟨some 44, .bin .add (.t 30) (.c (.int .i64 1)), none, []⟩,⟨some 30, .mv (.t 44), none, []⟩] [1, 5, 7, 28, 29, 30]
theorem r84_17 : type_of% (@rr _ _ c84_17.eq_1) := rr rfl
def c84_18 : ACode := .seq c84_16 c84_17
theorem r84_18 : type_of% (@rr _ _ c84_18.eq_1) := rr rfl
def c84_19 : ACode := .seq c84_9 c84_18
theorem r84_19 : type_of% (@rr _ _ c84_19.eq_1) := rr rfl
def c84_20 : ACode := .seq c84_8 c84_19
theorem r84_20 : type_of% (@rr _ _ c84_20.eq_1) := rr rfl
def c84_21 : ACode := .keep [1, 5, 7, 28, 29, 30] [5] c84_20
theorem r84_21 : type_of% (@rr _ _ c84_21.eq_1) := rr rfl
def c84_22 : ACode := .loop c84_21
theorem r84_22 : type_of% (@rr _ _ c84_22.eq_1) := rr rfl
def c84_23 : ACode := .block 0 c84_22
theorem r84_23 : type_of% (@rr _ _ c84_23.eq_1) := rr rfl
def c84_24 : ACode := .seq c84_7 c84_23
theorem r84_24 : type_of% (@rr _ _ c84_24.eq_1) := rr rfl
def c84_25 : ACode := .ops [⟨some 45, .mv (.t 7), none, []⟩,⟨some 6, .mv (.t 45), none, []⟩] [6]
theorem r84_25 : type_of% (@rr _ _ c84_25.eq_1) := rr rfl
def c84_26 : ACode := .seq c84_25 .ret
theorem r84_26 : type_of% (@rr _ _ c84_26.eq_1) := rr rfl
def c84_27 : ACode := .seq c84_24 c84_26
theorem r84_27 : type_of% (@rr _ _ c84_27.eq_1) := rr rfl
def c84_28 : ACode := .seq c84_6 c84_27
theorem r84_28 : type_of% (@rr _ _ c84_28.eq_1) := rr rfl
def c84_29 : ACode := .seq c84_5 c84_28
theorem r84_29 : type_of% (@rr _ _ c84_29.eq_1) := rr rfl
def c84_30 : ACode := .seq c84_0 c84_29
theorem r84_30 : type_of% (@rr _ _ c84_30.eq_1) := rr rfl
def a84 : AFun := ⟨3, 46, c84_30, [.t 6]⟩
attribute [simp] r84_0 r84_1 r84_2 r84_3 r84_4 r84_5 r84_6 r84_7 r84_8 r84_9 r84_10 r84_11 r84_12 r84_13 r84_14 r84_15 r84_16 r84_17 r84_18 r84_19 r84_20 r84_21 r84_22 r84_23 r84_24 r84_25 r84_26 r84_27 r84_28 r84_29 r84_30
theorem m84 : mFun Try.prog Try.f84 a84 = true := by decide +kernel
noncomputable def RModel (m : Model) : Option Bool := Part (RM m) true
theorem runs_rModel (m : Model) (c : Bool) (h : RModel m = some c) : Runs (tbl [(126, sp2 Fits), (130, sp2 TreeRight)]) a86 [Arg.enc m] (Arg.enc c) := by
  obtain ⟨hr, rfl⟩ := part_some h
  clear h
  refine ⟨rfl, fun g => run_def ?_⟩
  unfold a86
  have b3 : m.trees.length ≤ maxN := by have := hr.trees; unfold maxN; omega
  have e0 : ¬ m.dim < 1 := by have := hr.dim; omega
  have e1 : ¬ 4 < m.dim := by have := hr.dim; omega
  have e2 : ¬ m.classes < 1 := by have := hr.classes; omega
  have e3 : ¬ 3 < m.classes := by have := hr.classes; omega
  have e4 : ¬ (8 : Int) < m.trees.length := by have := hr.trees; omega
  have e5 : ¬ m.classes ≤ 0 := by omega
  have hb := hr.bias
  have f0 := hb.1
  have f1 := hb.2.1
  have f2 := hb.2.2
  have n1 := hr.none1
  have n2 := hr.none2
  have fz : fits 0 = true := rfl
  have z1 : m.classes ≤ 1 → decide (m.bias.b1 = 0) = true := fun h => by simp [n1 h]
  have z2 : m.classes ≤ 2 → decide (m.bias.b2 = 0) = true := fun h => by simp [n2 h]
  have key : ∀ (g : Nat → Nat) (h : Hp), keepH h [1] = [(1, ⟨Row.enc m, false, 0⟩)] → run (tbl [(126, sp2 Fits), (130, sp2 TreeRight)]) (.loop c86_40) [Fr.blk 2, Fr.c c86_45] ⟨[(1, .ptr 1 (g 1) 0), (52, .lst m.trees.length (encL m.trees)), (53, .int .i64 m.trees.length), (54, .int .i64 0)], h, g⟩ (fin [ARes.t 2] (AV.bool true)) := by
    intro g h hh
    refine run_while (c := c86_39) (fun n s => ∃ (i : Nat) (g : Nat → Nat), i + n = m.trees.length ∧ s = ⟨[(1, .ptr 1 (g 1) 0), (52, .lst m.trees.length (encL m.trees)), (53, .int .i64 m.trees.length), (54, .int .i64 i)], [(1, ⟨Row.enc m, false, 0⟩)], g⟩) m.trees.length ⟨0, g, by omega, by simp only [hh]; rfl⟩ ?_
    rintro n s ⟨i, g, hi, rfl⟩
    by_cases h1 : i < m.trees.length
    case pos =>
      have w1 : IntKind.i64.wrap ((i : Int) + 1) = (i : Int) + 1 := wrap64 (by omega) (by omega)
      have hrow := rd_tree m.trees i h1
      have ht := hr.tree _ (List.getElem_mem h1)
      have hT : TreeRight m.trees[i].nodes m.dim = some true := part_of ht.2.2 _
      have c1 : ¬ m.trees[i].cls < 0 := by omega
      have c2 : ¬ m.classes ≤ m.trees[i].cls := by omega
      simp -implicitDefEqProofs [h1, hrow, hT, c1, c2, w1]
      exact ⟨n - 1, by omega, i + 1, by omega, by omega⟩
    case neg =>
      simp -implicitDefEqProofs [h1]
  by_cases k1 : m.classes ≤ 1 <;> by_cases k2 : m.classes ≤ 2
  · have z1 := z1 k1
    have z2 := z2 k2
    simp -implicitDefEqProofs [run_round, b3, e0, e1, e2, e3, e4, e5, Fits, fz, f0, f1, f2, k1, k2, z1, z2, -r86_41]
    exact key (bump 1 g) _ (by simp)
  · omega
  · have z2 := z2 k2
    simp -implicitDefEqProofs [run_round, b3, e0, e1, e2, e3, e4, e5, Fits, fz, f0, f1, f2, k1, k2, z2, -r86_41]
    exact key (bump 1 g) _ (by simp)
  · simp -implicitDefEqProofs [run_round, b3, e0, e1, e2, e3, e4, e5, Fits, fz, f0, f1, f2, k1, k2, -r86_41]
    exact key (bump 1 g) _ (by simp)
theorem c_rModel : Contract Try.prog 86 (sp1 RModel) :=
  contract_of_runs mixed (tbl_cons c_rFits (tbl_cons c_rRT tbl_nil)) Try.func86 m86 (sp1_runs runs_rModel)
noncomputable def WalkC (l : List Word) (p : Point) : Option Int := Part (∃ d, RT l d) (leafOf l p : Int)
theorem runs_rWalk (l : List Word) (p : Point) (c : Int) (h : WalkC l p = some c) : Runs (tbl [(104, sp1 Unpack)]) a148 [Arg.enc l, Arg.enc p] (Arg.enc c) := by
  obtain ⟨⟨d, hr⟩, rfl⟩ := part_some h
  refine ⟨rfl, fun g => run_def ?_⟩
  unfold a148
  have hp := hr.pos
  have hle := hr.le
  have b3 : l.length ≤ maxN := by unfold maxN; omega
  simp -implicitDefEqProofs [b3]
  refine run_while (c := c148_34) (fun m s => ∃ (i j : Nat) (g : Nat → Nat), i < l.length ∧ l.length ≤ m + i ∧ j + m = 31 ∧ walk l p m i = leafOf l p ∧ s = ⟨[(0, .lst l.length (encL l)), (3, .ptr 3 (g 3) 0), (5, .int .i64 i), (8, .int .i64 j)],
    [(3, ⟨[.int .i64 p.p0, .int .i64 p.p1, .int .i64 p.p2, .int .i64 p.p3], false, 0⟩)], g⟩) 31 ⟨0, 0, bump 3 g, by omega, by omega, by omega, rfl, by simp⟩ ?_
  rintro m s ⟨i, j, g, h1, h2, h3, h4, rfl⟩
  have hU := unpack_at hr h1
  have e1 : (j : Int) < 31 := by omega
  have e2 : ¬ (l.length : Int) ≤ i := by omega
  have w1 : IntKind.i64.wrap ((j : Int) + 1) = (j : Int) + 1 := wrap64 (by omega) (by omega)
  obtain ⟨m, rfl⟩ : ∃ n, m = n + 1 := ⟨m - 1, by omega⟩
  rw [walk] at h4
  cases hl : (ndAt l i).leaf
  case true =>
    rw [hl] at h4
    simp only [if_true] at h4
    simp -implicitDefEqProofs [h1, e1, e2, b3, rd_words, hU, hl, w1]
    rw [← h4]
  case false =>
    rw [hl] at h4
    simp only [Bool.false_eq_true, if_false] at h4
    have ha := hr.at h1 hl
    have hn := nxt_lt hr h1 hl p
    have hf := hr.feature h1 hl
    have f1 := hf.1
    have f2 := hf.2
    by_cases hc : p.get (ndAt l i).feature ≤ (ndAt l i).cut
    case pos =>
      simp -implicitDefEqProofs [h1, e1, e2, b3, rd_words, hU, hl, w1, f1, f2, hc]
      have he : (nxt (ndAt l i) p : Int) = (ndAt l i).left := by unfold nxt; rw [if_pos hc]; omega
      exact ⟨m, by omega, _, hn.2, by omega, j + 1, by omega, h4, he.symm, by omega⟩
    case neg =>
      simp -implicitDefEqProofs [h1, e1, e2, b3, rd_words, hU, hl, w1, f1, f2, hc]
      have he : (nxt (ndAt l i) p : Int) = (ndAt l i).right := by unfold nxt; rw [if_neg hc]; omega
      exact ⟨m, by omega, _, hn.2, by omega, j + 1, by omega, h4, he.symm, by omega⟩
theorem c_rWalk : Contract Try.prog 148 (sp2 WalkC) :=
  contract_of_runs mixed (tbl_cons c_rUnpack tbl_nil) Try.func148 m148 (sp2_runs runs_rWalk)
noncomputable def RValue (l : List Word) (p : Point) : Option Int := Part (∃ d, RT l d) (valueAt l p)
theorem runs_rValue (l : List Word) (p : Point) (c : Int) (h : RValue l p = some c) : Runs (tbl [(148, sp2 WalkC), (104, sp1 Unpack)]) a129 [Arg.enc l, Arg.enc p] (Arg.enc c) := by
  obtain ⟨hh, rfl⟩ := part_some h
  refine ⟨rfl, fun g => run_def ?_⟩
  unfold a129
  have hW : WalkC l p = some (leafOf l p : Int) := part_of hh _
  obtain ⟨d, hr⟩ := hh
  have hl := (leafOf_lt hr p).1
  have hU := unpack_at hr hl
  have c0 : ¬ (leafOf l p : Int) < 0 := by omega
  simp -implicitDefEqProofs [hW, hl, hU, c0, rd_words, valueAt]
theorem c_rValue : Contract Try.prog 129 (sp2 RValue) :=
  contract_of_runs mixed (tbl_cons c_rWalk (tbl_cons c_rUnpack tbl_nil)) Try.func129 m129 (sp2_runs runs_rValue)
noncomputable def REval (m : Model) (c : Int) (p : Point) : Option Int := Part (RM m) (evalX m c p)
theorem runs_rEval (m : Model) (c : Int) (p : Point) (r : Int) (h : REval m c p = some r) : Runs (tbl [(86, sp1 RModel), (129, sp2 RValue)]) a84 [Arg.enc m, Arg.enc c, Arg.enc p] (Arg.enc r) := by
  obtain ⟨hr, rfl⟩ := part_some h
  clear h
  refine ⟨rfl, fun g => run_def ?_⟩
  unfold a84
  have hM : RModel m = some true := part_of hr _
  by_cases c0 : c < 0
  case pos =>
    have : ¬ 0 ≤ c := by omega
    simp -implicitDefEqProofs [hM, c0, evalX, this]
  by_cases c1 : m.classes ≤ c
  case pos =>
    have : ¬ c < m.classes := by omega
    simp -implicitDefEqProofs [hM, c0, c1, evalX, this]
  have h0 : 0 ≤ c := by omega
  have h3 : c < 3 := by have := hr.classes; omega
  have he : evalX m c p = evalM m c p := by unfold evalX; rw [if_pos ⟨h0, by omega⟩]
  rw [he]
  have hle := hr.trees
  have b3 : m.trees.length ≤ maxN := by unfold maxN; omega
  simp -implicitDefEqProofs [hM, c0, c1, b3, h0, h3]
  refine run_while (c := c84_20) (fun n s => ∃ (i : Nat) (g : Nat → Nat), i + n = m.trees.length ∧ s = ⟨[(1, .int .i64 c), (5, .ptr 5 (g 5) 0), (7, .int .i64 ((m.trees.take i).foldl (evalF c p) (m.bias.get c))), (28, .lst m.trees.length (encL m.trees)), (29, .int .i64 m.trees.length), (30, .int .i64 i)],
    [(5, ⟨[.int .i64 p.p0, .int .i64 p.p1, .int .i64 p.p2, .int .i64 p.p3], false, 0⟩)], g⟩) m.trees.length ⟨0, bump 5 (bump 3 g), by omega, by simp⟩ ?_
  rintro n s ⟨i, g, hi, rfl⟩
  by_cases h1 : i < m.trees.length
  case pos =>
    have w1 : IntKind.i64.wrap ((i : Int) + 1) = (i : Int) + 1 := wrap64 (by omega) (by omega)
    have hrow := rd_tree m.trees i h1
    have hrt := hr.rt (List.getElem_mem h1)
    have hV : RValue m.trees[i].nodes p = some (valueAt m.trees[i].nodes p) := part_of ⟨_, hrt⟩ _
    have hb := evalF_le (c := c) (p := p) (m.trees.take (i + 1)) (m.bias.get c) (fun t ht => ⟨_, hr.rt (List.mem_of_mem_take ht)⟩)
    have hb2 := of_fits (Bias.get_fits hr c)
    have hs : (m.trees.take (i + 1)).foldl (evalF c p) (m.bias.get c) = evalF c p ((m.trees.take i).foldl (evalF c p) (m.bias.get c)) m.trees[i] := by
      rw [List.take_succ_eq_append_getElem h1, List.foldl_append]
      rfl
    have hl : (m.trees.take (i + 1)).length ≤ 8 := by simp; omega
    rw [hs] at hb
    rw [← hs] at hb
    by_cases hc : m.trees[i].cls = c
    case pos =>
      have hs2 : (m.trees.take (i + 1)).foldl (evalF c p) (m.bias.get c) = (m.trees.take i).foldl (evalF c p) (m.bias.get c) + valueAt m.trees[i].nodes p := by rw [hs, evalF, if_pos hc]
      have w2 : IntKind.i64.wrap ((m.trees.take i).foldl (evalF c p) (m.bias.get c) + valueAt m.trees[i].nodes p) = (m.trees.take (i + 1)).foldl (evalF c p) (m.bias.get c) := by rw [← hs2]; exact wrap64 (by omega) (by omega)
      simp -implicitDefEqProofs [h1, hrow, hc, hV, w1, w2]
      exact ⟨n - 1, by omega, i + 1, by omega, rfl, by omega⟩
    case neg =>
      have hs2 : (m.trees.take (i + 1)).foldl (evalF c p) (m.bias.get c) = (m.trees.take i).foldl (evalF c p) (m.bias.get c) := by rw [hs, evalF, if_neg hc]
      simp -implicitDefEqProofs [h1, hrow, hc, hV, w1]
      exact ⟨n - 1, by omega, i + 1, by omega, hs2.symm, by omega⟩
  case neg =>
    have hil : i = m.trees.length := by omega
    subst hil
    simp -implicitDefEqProofs [h1, evalM]
theorem c_rEval : Contract Try.prog 84 (sp3 REval) :=
  contract_of_runs mixed (tbl_cons c_rModel (tbl_cons c_rValue tbl_nil)) Try.func84 m84 (sp3_runs runs_rEval)
end Go.Co
