/- CO: texts of this claim, one behind the other. -/
import Derived.Test.YtcjflbmpfmibbaaCz8
import Derived.Test.YtcjflbmpfmibbaaCz1
import Derived.Test.YtcjflbmpfmibbaaCz2
import Derived.Test.YtcjflbmpfmibbaaAm4
import Derived.Test.YtcjflbmpfmibbaaCz4
import Derived.Test.YtcjflbmpfmibbaaCz7
/- CO: what breaks a query. -/
set_option maxHeartbeats 16000000
set_option maxRecDepth 100000
namespace Go.Co
open Go.Am Go.Proofs
set_option linter.unusedSimpArgs false
set_option linter.unusedVariables false
def c57_0 : ACode := .ops [⟨some 4, .box (.t 0) 6, none, []⟩,⟨some 5, .box (.t 1) 17, none, []⟩,⟨some 6, .box (.t 2) 4, none, []⟩,⟨some 8, .mv (.c (.bool false)), none, []⟩] [3, 4, 5, 6]
theorem r57_0 : type_of% (@rr _ _ c57_0.eq_1) := rr rfl
def c57_1 : ACode := .ops [⟨some 12, .load 6 true (.t 4), none, [4]⟩,⟨some 13, .load 17 true (.t 5), none, [5]⟩,⟨some 14, .call 89 [.t 12, .t 13], none, []⟩,⟨some 15, .un .not (.t 14), none, []⟩] [3, 4, 5, 6, 15]
theorem r57_1 : type_of% (@rr _ _ c57_1.eq_1) := rr rfl
def c57_2 : ACode := .ops [⟨some 8, .mv (.c (.bool false)), none, []⟩] [8]
theorem r57_2 : type_of% (@rr _ _ c57_2.eq_1) := rr rfl
def c57_3 : ACode := .seq c57_2 .ret
theorem r57_3 : type_of% (@rr _ _ c57_3.eq_1) := rr rfl
def c57_4 : ACode := .cond (.t 15) c57_3 .skip
theorem r57_4 : type_of% (@rr _ _ c57_4.eq_1) := rr rfl
def c57_5 : ACode := .seq c57_1 c57_4
theorem r57_5 : type_of% (@rr _ _ c57_5.eq_1) := rr rfl
def c57_6 : ACode := .ops [⟨some 16, .load 6 true (.t 4), none, [4]⟩,⟨some 17, .fad (.t 5) 1, none, [5]⟩,⟨some 18, .load 1 false (.t 17), none, [5]⟩,⟨some 19, .load 4 true (.t 6), none, [6]⟩,⟨some 20, .call 28 [.t 16, .t 18, .t 19], none, []⟩,⟨some 9, .mv (.t 20), none, []⟩] [3, 4, 5, 6, 9]
theorem r57_6 : type_of% (@rr _ _ c57_6.eq_1) := rr rfl
def c57_7 : ACode := .ops [⟨some 21, .fad (.t 5) 0, none, [5]⟩,⟨some 22, .load 1 false (.t 21), none, [5]⟩] [3, 4, 5, 6, 9, 22]
theorem r57_7 : type_of% (@rr _ _ c57_7.eq_1) := rr rfl
def c57_8 : ACode := .ops [⟨some 24, .bin .eql (.t 22) (.c (.int .i64 1)), none, []⟩,⟨some 23, .mv (.t 24), none, []⟩] [3, 4, 5, 6, 9, 22, 23]
theorem r57_8 : type_of% (@rr _ _ c57_8.eq_1) := rr rfl
def c57_9 : ACode := .ops [⟨some 25, .fad (.t 5) 12, none, [5]⟩,⟨some 26, .load 1 false (.t 25), none, [5]⟩,⟨some 27, .fad (.t 5) 13, none, [5]⟩,⟨some 28, .load 1 false (.t 27), none, [5]⟩,⟨some 29, .build [.int .i64 0, .int .i64 0] [(0, 1, .t 26), (1, 1, .t 28)], none, []⟩,⟨some 30, .mv (.t 9), none, []⟩,⟨some 31, .call 108 [.t 29, .t 30], none, []⟩,⟨some 32, .un .not (.t 31), none, []⟩,⟨some 8, .mv (.t 32), none, []⟩] [8]
theorem r57_9 : type_of% (@rr _ _ c57_9.eq_1) := rr rfl
def c57_10 : ACode := .seq c57_9 .ret
theorem r57_10 : type_of% (@rr _ _ c57_10.eq_1) := rr rfl
def c57_11 : ACode := .ops [⟨some 34, .bin .eql (.t 22) (.c (.int .i64 2)), none, []⟩,⟨some 33, .mv (.t 34), none, []⟩] [3, 4, 5, 6, 9, 33]
theorem r57_11 : type_of% (@rr _ _ c57_11.eq_1) := rr rfl
def c57_12 : ACode := .ops [⟨some 35, .fad (.t 4) 1, none, [4]⟩,⟨some 36, .load 1 false (.t 35), none, [4]⟩,⟨some 37, .mv (.c (.int .i64 0)), none, []⟩] [4, 5, 6, 9, 36, 37]
theorem r57_12 : type_of% (@rr _ _ c57_12.eq_1) := rr rfl
def c57_13 : ACode := .ops [⟨some 38, .bin .lss (.t 37) (.t 36), none, []⟩] [4, 5, 6, 9, 36, 37, 38]
theorem r57_13 : type_of% (@rr _ _ c57_13.eq_1) := rr rfl
def c57_14 : ACode := .cond (.t 38) .skip (.exit 1)
theorem r57_14 : type_of% (@rr _ _ c57_14.eq_1) := rr rfl
def c57_15 : ACode := .ops [⟨some 39, .mv (.t 37), none, []⟩,⟨some 10, .mv (.t 39), none, []⟩] [4, 5, 6, 9, 10, 36, 37]
theorem r57_15 : type_of% (@rr _ _ c57_15.eq_1) := rr rfl
def c57_16 : ACode := .ops [⟨some 40, .mv (.t 10), none, []⟩,⟨some 41, .fad (.t 5) 1, none, [5]⟩,⟨some 42, .load 1 false (.t 41), none, [5]⟩,⟨some 43, .bin .neq (.t 40) (.t 42), none, []⟩,⟨some 44, .mv (.t 43), none, []⟩,⟨some 45, .load 6 true (.t 4), some (44, true), [4]⟩,⟨some 46, .mv (.t 10), some (44, true), []⟩,⟨some 47, .load 4 true (.t 6), some (44, true), [6]⟩,⟨some 48, .call 28 [.t 45, .t 46, .t 47], some (44, true), []⟩,⟨some 49, .mv (.t 9), some (44, true), []⟩,⟨some 50, .bin .geq (.t 48) (.t 49), some (44, true), []⟩,⟨some 51, .pick (.t 44) (.t 50) (.c (.bool false)), none, []⟩] [4, 5, 6, 9, 36, 37, 51]
theorem r57_16 : type_of% (@rr _ _ c57_16.eq_1) := rr rfl
def c57_17 : ACode := .ops [⟨some 8, .mv (.c (.bool true)), none, []⟩] [8]
theorem r57_17 : type_of% (@rr _ _ c57_17.eq_1) := rr rfl
def c57_18 : ACode := .seq c57_17 .ret
theorem r57_18 : type_of% (@rr _ _ c57_18.eq_1) := rr rfl
def c57_19 : ACode := .cond (.t 51) c57_18 .skip
theorem r57_19 : type_of% (@rr _ _ c57_19.eq_1) := rr rfl
def c57_20 : ACode := .seq c57_16 c57_19
theorem r57_20 : type_of% (@rr _ _ c57_20.eq_1) := rr rfl
def c57_21 : ACode := .seq c57_15 c57_20
theorem r57_21 : type_of% (@rr _ _ c57_21.eq_1) := rr rfl
def c57_22 : ACode := .block 2 c57_21
theorem r57_22 : type_of% (@rr _ _ c57_22.eq_1) := rr rfl
def c57_23 : ACode := .ops [⟨some 52, .bin .add (.t 37) (.c (.int .i64 1)), none, []⟩,⟨some 37, .mv (.t 52), none, []⟩] [4, 5, 6, 9, 36, 37]
theorem r57_23 : type_of% (@rr _ _ c57_23.eq_1) := rr rfl
def c57_24 : ACode := .seq c57_22 c57_23
theorem r57_24 : type_of% (@rr _ _ c57_24.eq_1) := rr rfl
def c57_25 : ACode := .seq c57_14 c57_24
theorem r57_25 : type_of% (@rr _ _ c57_25.eq_1) := rr rfl
def c57_26 : ACode := .seq c57_13 c57_25
theorem r57_26 : type_of% (@rr _ _ c57_26.eq_1) := rr rfl
def c57_27 : ACode := .keep [4, 5, 6, 9, 36, 37] [4, 5, 6] c57_26
theorem r57_27 : type_of% (@rr _ _ c57_27.eq_1) := rr rfl
def c57_28 : ACode := .loop c57_27
theorem r57_28 : type_of% (@rr _ _ c57_28.eq_1) := rr rfl
def c57_29 : ACode := .block 1 c57_28
theorem r57_29 : type_of% (@rr _ _ c57_29.eq_1) := rr rfl
def c57_30 : ACode := .seq c57_12 c57_29
theorem r57_30 : type_of% (@rr _ _ c57_30.eq_1) := rr rfl
def c57_31 : ACode := .ops [⟨some 8, .mv (.c (.bool false)), none, []⟩] [8]
theorem r57_31 : type_of% (@rr _ _ c57_31.eq_1) := rr rfl
def c57_32 : ACode := .seq c57_31 .ret
theorem r57_32 : type_of% (@rr _ _ c57_32.eq_1) := rr rfl
def c57_33 : ACode := .seq c57_30 c57_32
theorem r57_33 : type_of% (@rr _ _ c57_33.eq_1) := rr rfl
def c57_34 : ACode := .cond (.t 33) c57_33 .skip
theorem r57_34 : type_of% (@rr _ _ c57_34.eq_1) := rr rfl
def c57_35 : ACode := .seq c57_11 c57_34
theorem r57_35 : type_of% (@rr _ _ c57_35.eq_1) := rr rfl
def c57_36 : ACode := .cond (.t 23) c57_10 c57_35
theorem r57_36 : type_of% (@rr _ _ c57_36.eq_1) := rr rfl
def c57_37 : ACode := .seq c57_8 c57_36
theorem r57_37 : type_of% (@rr _ _ c57_37.eq_1) := rr rfl
def c57_38 : ACode := .block 0 c57_37
theorem r57_38 : type_of% (@rr _ _ c57_38.eq_1) := rr rfl
def c57_39 : ACode := .seq c57_7 c57_38
theorem r57_39 : type_of% (@rr _ _ c57_39.eq_1) := rr rfl
def c57_40 : ACode := .ops [⟨some 53, .fad (.t 5) 14, none, [5]⟩,⟨some 54, .load 1 false (.t 53), none, [5]⟩,⟨some 55, .iad (.t 6) (.t 54) 1 4, none, [6]⟩,⟨some 56, .load 1 false (.t 55), none, [6]⟩,⟨some 57, .mv (.t 3), none, []⟩,⟨some 58, .bin .geq (.t 56) (.t 57), none, []⟩] [3, 4, 5, 6, 9, 58]
theorem r57_40 : type_of% (@rr _ _ c57_40.eq_1) := rr rfl
def c57_41 : ACode := .ops [⟨some 8, .mv (.c (.bool false)), none, []⟩] [8]
theorem r57_41 : type_of% (@rr _ _ c57_41.eq_1) := rr rfl
def c57_42 : ACode := .seq c57_41 .ret
theorem r57_42 : type_of% (@rr _ _ c57_42.eq_1) := rr rfl
def c57_43 : ACode := .cond (.t 58) c57_42 .skip
theorem r57_43 : type_of% (@rr _ _ c57_43.eq_1) := rr rfl
def c57_44 : ACode := .seq c57_40 c57_43
theorem r57_44 : type_of% (@rr _ _ c57_44.eq_1) := rr rfl
def c57_45 : ACode := .ops [⟨some 59, .load 6 true (.t 4), none, [4]⟩,⟨some 60, .fad (.t 5) 1, none, [5]⟩,⟨some 61, .load 1 false (.t 60), none, [5]⟩,⟨some 62, .load 17 true (.t 5), none, [5]⟩,⟨some 63, .load 4 true (.t 6), none, [6]⟩,⟨some 64, .mv (.t 3), none, []⟩,⟨some 65, .call 109 [.t 62, .t 63, .t 64], none, []⟩,⟨some 66, .call 28 [.t 59, .t 61, .t 65], none, []⟩,⟨some 11, .mv (.t 66), none, []⟩] [5, 9, 11]
theorem r57_45 : type_of% (@rr _ _ c57_45.eq_1) := rr rfl
def c57_46 : ACode := .ops [⟨some 67, .fad (.t 5) 15, none, [5]⟩,⟨some 68, .load 1 false (.t 67), none, [5]⟩] [9, 11, 68]
theorem r57_46 : type_of% (@rr _ _ c57_46.eq_1) := rr rfl
def c57_47 : ACode := .ops [⟨some 69, .mv (.t 11), none, []⟩,⟨some 70, .mv (.t 9), none, []⟩,⟨some 71, .bin .gtr (.t 69) (.t 70), none, []⟩,⟨some 8, .mv (.t 71), none, []⟩] [8]
theorem r57_47 : type_of% (@rr _ _ c57_47.eq_1) := rr rfl
def c57_48 : ACode := .seq c57_47 .ret
theorem r57_48 : type_of% (@rr _ _ c57_48.eq_1) := rr rfl
def c57_49 : ACode := .cond (.t 68) c57_48 .skip
theorem r57_49 : type_of% (@rr _ _ c57_49.eq_1) := rr rfl
def c57_50 : ACode := .seq c57_46 c57_49
theorem r57_50 : type_of% (@rr _ _ c57_50.eq_1) := rr rfl
def c57_51 : ACode := .ops [⟨some 72, .mv (.t 11), none, []⟩,⟨some 73, .mv (.t 9), none, []⟩,⟨some 74, .bin .lss (.t 72) (.t 73), none, []⟩,⟨some 8, .mv (.t 74), none, []⟩] [8]
theorem r57_51 : type_of% (@rr _ _ c57_51.eq_1) := rr rfl
def c57_52 : ACode := .seq c57_51 .ret
theorem r57_52 : type_of% (@rr _ _ c57_52.eq_1) := rr rfl
def c57_53 : ACode := .seq c57_50 c57_52
theorem r57_53 : type_of% (@rr _ _ c57_53.eq_1) := rr rfl
def c57_54 : ACode := .seq c57_45 c57_53
theorem r57_54 : type_of% (@rr _ _ c57_54.eq_1) := rr rfl
def c57_55 : ACode := .seq c57_44 c57_54
theorem r57_55 : type_of% (@rr _ _ c57_55.eq_1) := rr rfl
def c57_56 : ACode := .seq c57_39 c57_55
theorem r57_56 : type_of% (@rr _ _ c57_56.eq_1) := rr rfl
def c57_57 : ACode := .seq c57_6 c57_56
theorem r57_57 : type_of% (@rr _ _ c57_57.eq_1) := rr rfl
def c57_58 : ACode := .seq c57_5 c57_57
theorem r57_58 : type_of% (@rr _ _ c57_58.eq_1) := rr rfl
def c57_59 : ACode := .seq c57_0 c57_58
theorem r57_59 : type_of% (@rr _ _ c57_59.eq_1) := rr rfl
def a57 : AFun := ⟨4, 75, c57_59, [.t 8]⟩
attribute [simp] r57_0 r57_1 r57_2 r57_3 r57_4 r57_5 r57_6 r57_7 r57_8 r57_9 r57_10 r57_11 r57_12 r57_13 r57_14 r57_15 r57_16 r57_17 r57_18 r57_19 r57_20 r57_21 r57_22 r57_23 r57_24 r57_25 r57_26 r57_27 r57_28 r57_29 r57_30 r57_31 r57_32 r57_33 r57_34 r57_35 r57_36 r57_37 r57_38 r57_39 r57_40 r57_41 r57_42 r57_43 r57_44 r57_45 r57_46 r57_47 r57_48 r57_49 r57_50 r57_51 r57_52 r57_53 r57_54 r57_55 r57_56 r57_57 r57_58 r57_59
theorem m57 : mFun Try.prog Try.f57 a57 = true := by decide +kernel
theorem okQuery_spec {m : Model} {q : Query} (h : okQuery m q = true) : 0 ≤ q.cls ∧ q.cls < m.classes ∧ 0 ≤ q.budget ∧ q.budget ≤ 65536 ∧ okRegion q.region m.dim = true ∧ okKind m q = true := by
  unfold okQuery at h
  simp only [Bool.and_eq_true, decide_eq_true_eq] at h
  exact ⟨h.1.1.1.1.1, h.1.1.1.1.2, h.1.1.1.2, h.1.1.2, h.1.2, h.2⟩
theorem okKind_spec {m : Model} {q : Query} (h : okKind m q = true) :
    (q.kind = 1 ∧ q.lo ≤ q.hi ∧ q.feature = 0 ∧ q.falls = false) ∨ (q.kind = 2 ∧ 2 ≤ m.classes ∧ q.lo = 0 ∧ q.hi = 0 ∧ q.feature = 0 ∧ q.falls = false) ∨ (q.kind = 3 ∧ 0 ≤ q.feature ∧ q.feature < m.dim ∧ q.lo = 0 ∧ q.hi = 0) := by
  unfold okKind at h
  split at h
  · simp only [Bool.and_eq_true, decide_eq_true_eq, Bool.not_eq_true'] at h
    exact .inl ⟨‹_›, h.1.1, h.1.2, h.2⟩
  · split at h
    · simp only [Bool.and_eq_true, decide_eq_true_eq, Bool.not_eq_true'] at h
      exact .inr (.inl ⟨‹_›, h.1.1.1.1, h.1.1.1.2, h.1.1.2, h.1.2, h.2⟩)
    · split at h
      · simp only [Bool.and_eq_true, decide_eq_true_eq] at h
        exact .inr (.inr ⟨‹_›, h.1.1.1, h.1.1.2, h.1.2, h.2⟩)
      · cases h
noncomputable def BreaksC (m : Model) (q : Query) (p : Point) (t : Int) : Option Bool := Part (RM m) (breaks m q p t)
theorem runs_Breaks (m : Model) (q : Query) (p : Point) (t : Int) (c : Bool) (h : BreaksC m q p t = some c) :
    Runs (tbl [(89, sp2 QRight), (28, sp3 Eval), (108, sp2 fun (s : Span) n => some (s.has n)), (109, sp3 fun q p t => some (secondOf q p t))]) a57 [Arg.enc m, Arg.enc q, Arg.enc p, Arg.enc t] (Arg.enc c) := by
  obtain ⟨hr, rfl⟩ := part_some h
  refine ⟨rfl, fun g => run_def ?_⟩
  unfold a57
  have hM : QRight m q = some (okQuery m q) := by unfold QRight; rw [if_neg (by have := hr.dim; omega)]; exact part_of hr _
  cases hq : okQuery m q
  case false => simp -implicitDefEqProofs [hM, hq, breaks]
  have hs := okQuery_spec hq
  have hE := eval_of hr hs.1 hs.2.1 p
  have hc3 := hr.classes
  have hks := okKind_spec hs.2.2.2.2.2
  obtain ⟨kind, cls, region, lo, hi, feature, falls, budget⟩ := q
  simp only at hE hks hs
  rcases hks with ⟨k, _⟩ | ⟨k, k2, _⟩ | ⟨k, f0, f1, _⟩
  · subst k
    simp -implicitDefEqProofs [hM, hq, breaks, hE]
  · subst k
    have e0 := eval_of hr (c := 0) (by omega) (by omega) p
    have e1 := eval_of hr (c := 1) (by omega) (by omega) p
    obtain ⟨dim, classes, bias, trees⟩ := m
    simp only at hE hc3 k2 hs
    have hcl : classes = 2 ∨ classes = 3 := by omega
    have hcs : cls = 0 ∨ cls = 1 ∨ cls = 2 := by omega
    have rg2 : List.range 2 = [0, 1] := rfl
    have rg3 : List.range 3 = [0, 1, 2] := rfl
    rcases hcl with rfl | rfl
    · have hcs : cls = 0 ∨ cls = 1 := by omega
      rcases hcs with rfl | rfl
      · by_cases g0 : evalM (⟨dim, 2, bias, trees⟩ : Model) 0 p ≤ evalM (⟨dim, 2, bias, trees⟩ : Model) 1 p <;> simp -implicitDefEqProofs [hM, hq, breaks, e0, e1, g0, run_round, beaten, rg2]
      · by_cases g0 : evalM (⟨dim, 2, bias, trees⟩ : Model) 1 p ≤ evalM (⟨dim, 2, bias, trees⟩ : Model) 0 p <;> simp -implicitDefEqProofs [hM, hq, breaks, e0, e1, g0, run_round, beaten, rg2]
    · have e2 := eval_of hr (c := 2) (by omega) (by simp) p
      rcases hcs with rfl | rfl | rfl
      · by_cases g0 : evalM (⟨dim, 3, bias, trees⟩ : Model) 0 p ≤ evalM (⟨dim, 3, bias, trees⟩ : Model) 1 p <;> by_cases g1 : evalM (⟨dim, 3, bias, trees⟩ : Model) 0 p ≤ evalM (⟨dim, 3, bias, trees⟩ : Model) 2 p <;> simp -implicitDefEqProofs [hM, hq, breaks, e0, e1, e2, g0, g1, run_round, beaten, rg3]
      · by_cases g0 : evalM (⟨dim, 3, bias, trees⟩ : Model) 1 p ≤ evalM (⟨dim, 3, bias, trees⟩ : Model) 0 p <;> by_cases g1 : evalM (⟨dim, 3, bias, trees⟩ : Model) 1 p ≤ evalM (⟨dim, 3, bias, trees⟩ : Model) 2 p <;> simp -implicitDefEqProofs [hM, hq, breaks, e0, e1, e2, g0, g1, run_round, beaten, rg3]
      · by_cases g0 : evalM (⟨dim, 3, bias, trees⟩ : Model) 2 p ≤ evalM (⟨dim, 3, bias, trees⟩ : Model) 0 p <;> by_cases g1 : evalM (⟨dim, 3, bias, trees⟩ : Model) 2 p ≤ evalM (⟨dim, 3, bias, trees⟩ : Model) 1 p <;> simp -implicitDefEqProofs [hM, hq, breaks, e0, e1, e2, g0, g1, run_round, beaten, rg3]
  · subst k
    have f2 : feature < 4 := by have := hr.dim; omega
    have hE2 := eval_of hr hs.1 hs.2.1 (secondOf ⟨3, cls, region, lo, hi, feature, falls, budget⟩ p t)
    by_cases g1 : t ≤ p.get feature
    · have g2 : ¬ p.get feature < t := by omega
      simp -implicitDefEqProofs [hM, hq, breaks, hE, f0, f2, g1, g2]
    · have g2 : p.get feature < t := by omega
      cases falls
      · simp -implicitDefEqProofs [hM, hq, breaks, hE, hE2, f0, f2, g1, g2]
      · simp -implicitDefEqProofs [hM, hq, breaks, hE, hE2, f0, f2, g1, g2]
theorem c_Breaks : Contract Try.prog 57 (sp4 BreaksC) :=
  contract_of_runs mixed (tbl_cons c_qRight (tbl_cons c_Eval (tbl_cons c_sHas (tbl_cons c_Second tbl_nil)))) Try.func57 m57 (sp4_runs runs_Breaks)
end Go.Co
/- CO: the cells of a box; does a query hold? -/
namespace Go.Co
open Go.Am Go.Proofs
set_option linter.unusedSimpArgs false
set_option linter.unusedVariables false
attribute [-simp] Go.Am.eff_gcall
def doneC (k : Int) (ts : List Int) (L : List Box) (j : Nat) : List Box := (L.take j).flatMap (splitC k ts)
theorem doneC_succ (k : Int) (ts : List Int) (L : List Box) {j : Nat} (h : j < L.length) : doneC k ts L (j + 1) = doneC k ts L j ++ splitC k ts L[j] := by
  unfold doneC
  rw [List.take_succ_eq_append_getElem h, List.flatMap_append]
  simp
theorem doneC_le (k : Int) (ts : List Int) (L : List Box) (j : Nat) : (doneC k ts L j).length ≤ (L.flatMap (splitC k ts)).length := by
  unfold doneC
  rw [flat_len, flat_len]
  exact Nat.mul_le_mul_right _ (List.length_take_le' j L)
theorem lenB (l : List Box) : l.length * 10 ≤ (encL l).length := by rw [encL_length]; exact Nat.le_refl _
theorem takeB (l : List Box) : List.take (l.length * 10) (encL l) = encL l := by rw [List.take_of_length_le]; rw [encL_length]; exact Nat.le_refl _
theorem encL_snocB (X : List Box) (c : Box) : encL (X ++ [c]) = encL X ++ [.int .i64 c.s0.lo, .int .i64 c.s0.hi, .int .i64 c.s1.lo, .int .i64 c.s1.hi, .int .i64 c.s2.lo, .int .i64 c.s2.hi, .int .i64 c.s3.lo, .int .i64 c.s3.hi, .int .i64 c.s4.lo, .int .i64 c.s4.hi] := by rw [encL_append]; rfl
def corner (m : Model) (q : Query) (b : Box) : Bool := breaks m q (lowB b) b.s4.hi
@[simp] theorem dec_ref_query (q : Query) : (Arg.dec (.ipt 0 [.int .i64 q.kind, .int .i64 q.cls, .int .i64 q.region.s0.lo, .int .i64 q.region.s0.hi, .int .i64 q.region.s1.lo, .int .i64 q.region.s1.hi, .int .i64 q.region.s2.lo, .int .i64 q.region.s2.hi, .int .i64 q.region.s3.lo, .int .i64 q.region.s3.hi, .int .i64 q.region.s4.lo, .int .i64 q.region.s4.hi, .int .i64 q.lo, .int .i64 q.hi, .int .i64 q.feature, .bool q.falls, .int .i64 q.budget]) : Option (Ref Query)) = some ⟨q⟩ := Arg.dec_enc (⟨q⟩ : Ref Query)
structure CloH where
  m : Model
  q : Query
instance : Arg CloH where
  enc r := .clo 99 [.ipt 0 (Row.enc r.m), .ipt 0 (Row.enc r.q)]
  dec x := match x with
    | .clo f [.ipt 0 xs, .ipt 0 ys] => if f = 99 then (Row.dec xs).bind fun m => (Row.dec ys).map fun q => CloH.mk m q else none
    | _ => none
  dec_enc r := by simp only [if_true, Row.dec_enc]; rfl
  enc_dec x r h := by
    split at h
    · split at h
      · rename_i he
        rw [Option.bind_eq_some_iff] at h
        obtain ⟨a, ha, h⟩ := h
        rw [Option.map_eq_some_iff] at h
        obtain ⟨c, hc, rfl⟩ := h
        rw [Row.enc_dec _ _ ha, Row.enc_dec _ _ hc, he]
      · cases h
    · cases h
@[simp] theorem enc_cloh (r : CloH) : Arg.enc r = .clo 99 [.ipt 0 (Row.enc r.m), .ipt 0 (Row.enc r.q)] := rfl
@[simp] theorem dec_cloh (m : Model) (q : Query) : (Arg.dec (.clo 99 [.ipt 0 [.int .i64 m.dim, .int .i64 m.classes, .int .i64 m.bias.b0, .int .i64 m.bias.b1, .int .i64 m.bias.b2, .lst m.trees.length (encL m.trees)], .ipt 0 [.int .i64 q.kind, .int .i64 q.cls, .int .i64 q.region.s0.lo, .int .i64 q.region.s0.hi, .int .i64 q.region.s1.lo, .int .i64 q.region.s1.hi, .int .i64 q.region.s2.lo, .int .i64 q.region.s2.hi, .int .i64 q.region.s3.lo, .int .i64 q.region.s3.hi, .int .i64 q.region.s4.lo, .int .i64 q.region.s4.hi, .int .i64 q.lo, .int .i64 q.hi, .int .i64 q.feature, .bool q.falls, .int .i64 q.budget]]) : Option CloH) = some ⟨m, q⟩ := Arg.dec_enc (⟨m, q⟩ : CloH)
def holdsM (m : Model) (q : Query) : Bool := !(stageC m q (startOf q) 5).any (corner m q)
end Go.Co
/- CO: what a statement's reading of an argument says, type by type (written by mkCoSh.py). -/
namespace Go.Co
open Go.Am Go.RowKit
set_option linter.unusedVariables false
theorem okR_nil {xs : List AV} (h : okR [] xs) : xs = [] := by
  cases xs with
  | nil => rfl
  | cons x xs => simp [okR] at h
theorem okR_cons {s : Shp} {ss : List Shp} {xs : List AV} (h : okR (s :: ss) xs) : ∃ x ys, xs = x :: ys ∧ okS s x ∧ okR ss ys := by
  cases xs with
  | nil => simp [okR] at h
  | cons x xs => simp only [okR] at h; exact ⟨x, xs, rfl, h.1, h.2⟩
theorem okS_int {x : AV} (h : okS (.int .i64) x) : ∃ n, x = .int .i64 n ∧ ok64 n := by
  cases x <;> simp only [okS] at h
  obtain ⟨rfl, h1, h2⟩ := h
  exact ⟨_, rfl, h1, h2⟩
theorem okS_word {x : AV} (h : okS (.int .u64) x) : ∃ n, x = .int .u64 n ∧ okW n := by
  cases x <;> simp only [okS] at h
  obtain ⟨rfl, h1, h2⟩ := h
  exact ⟨_, rfl, h1, Int.lt_of_le_of_lt h2 (by decide)⟩
theorem okS_bool {x : AV} (h : okS .bool x) : ∃ b, x = .bool b := by
  cases x <;> simp only [okS] at h
  exact ⟨_, rfl⟩
class Sh (α : Type) [Row α] where
  ss : List Shp
  good : α → Prop
  len : ss.length = Row.sz α
  read : ∀ xs, okR ss xs → ∃ a, xs = Row.enc a ∧ good a
theorem rows_read {α : Type} [Row α] [Sh α] : ∀ (n : Nat) (xs : List AV), xs.length = n * Row.sz α → (∀ i, i < n → okR (Sh.ss α) ((xs.drop (i * Row.sz α)).take (Row.sz α))) → ∃ l : List α, l.length = n ∧ xs = encL l ∧ ∀ a ∈ l, Sh.good a
  | 0, xs, h, _ => ⟨[], rfl, by rw [encL_nil]; exact List.eq_nil_of_length_eq_zero (by simpa using h), by simp⟩
  | n + 1, xs, h, hr => by
    have hp := Row.pos (α := α)
    obtain ⟨a, ha, hg⟩ := Sh.read _ (hr 0 (by omega))
    rw [Nat.succ_mul] at h
    obtain ⟨l, hl, hx, hgl⟩ := rows_read (α := α) n (xs.drop (Row.sz α)) (by rw [List.length_drop]; omega) (fun i hi => by
      have := hr (i + 1) (by omega)
      rw [Nat.succ_mul, Nat.add_comm, ← List.drop_drop] at this
      exact this)
    refine ⟨a :: l, by simp [hl], ?_, ?_⟩
    · rw [encL_cons, ← hx]
      simp only [Nat.zero_mul, List.drop_zero] at ha
      rw [← ha, List.take_append_drop]
    · intro b hb
      rcases List.mem_cons.1 hb with rfl | hb
      · exact hg
      · exact hgl b hb
theorem okS_list {α : Type} [Row α] [Sh α] {x : AV} (h : okS (.sl (Sh.ss α)) x) : ∃ l : List α, x = .lst l.length (encL l) ∧ (∀ a ∈ l, Sh.good a) ∧ l.length ≤ maxLen := by
  cases x <;> simp only [okS] at h
  rename_i n xs
  rw [Sh.len] at h
  obtain ⟨l, rfl, rfl, hg⟩ := rows_read (α := α) n xs h.2.1 h.2.2
  exact ⟨l, rfl, hg, h.1⟩
instance : Sh Int where
  ss := [.int .i64]
  good n := ok64 n
  len := rfl
  read xs h := by
    obtain ⟨x, xs, rfl, h0, h⟩ := okR_cons h
    obtain rfl := okR_nil h
    obtain ⟨n, rfl, b⟩ := okS_int h0
    exact ⟨n, rfl, b⟩
instance : Sh Word where
  ss := [.int .u64]
  good n := okW n.v
  len := rfl
  read xs h := by
    obtain ⟨x, xs, rfl, h0, h⟩ := okR_cons h
    obtain rfl := okR_nil h
    obtain ⟨n, rfl, b⟩ := okS_word h0
    exact ⟨⟨n⟩, rfl, b⟩
instance : Sh Span where
  ss := [.int .i64, .int .i64]
  good a := ok64 a.lo ∧ ok64 a.hi
  len := rfl
  read xs h := by
    obtain ⟨x0, xs, rfl, h0, h⟩ := okR_cons h
    obtain ⟨x1, xs, rfl, h1, h⟩ := okR_cons h
    obtain rfl := okR_nil h
    obtain ⟨v0, rfl, b0⟩ := okS_int h0
    obtain ⟨v1, rfl, b1⟩ := okS_int h1
    exact ⟨⟨v0, v1⟩, rfl, b0, b1⟩
instance : Sh Box where
  ss := [.int .i64, .int .i64, .int .i64, .int .i64, .int .i64, .int .i64, .int .i64, .int .i64, .int .i64, .int .i64]
  good a := ok64 a.s0.lo ∧ ok64 a.s0.hi ∧ ok64 a.s1.lo ∧ ok64 a.s1.hi ∧ ok64 a.s2.lo ∧ ok64 a.s2.hi ∧ ok64 a.s3.lo ∧ ok64 a.s3.hi ∧ ok64 a.s4.lo ∧ ok64 a.s4.hi
  len := rfl
  read xs h := by
    obtain ⟨x0, xs, rfl, h0, h⟩ := okR_cons h
    obtain ⟨x1, xs, rfl, h1, h⟩ := okR_cons h
    obtain ⟨x2, xs, rfl, h2, h⟩ := okR_cons h
    obtain ⟨x3, xs, rfl, h3, h⟩ := okR_cons h
    obtain ⟨x4, xs, rfl, h4, h⟩ := okR_cons h
    obtain ⟨x5, xs, rfl, h5, h⟩ := okR_cons h
    obtain ⟨x6, xs, rfl, h6, h⟩ := okR_cons h
    obtain ⟨x7, xs, rfl, h7, h⟩ := okR_cons h
    obtain ⟨x8, xs, rfl, h8, h⟩ := okR_cons h
    obtain ⟨x9, xs, rfl, h9, h⟩ := okR_cons h
    obtain rfl := okR_nil h
    obtain ⟨v0, rfl, b0⟩ := okS_int h0
    obtain ⟨v1, rfl, b1⟩ := okS_int h1
    obtain ⟨v2, rfl, b2⟩ := okS_int h2
    obtain ⟨v3, rfl, b3⟩ := okS_int h3
    obtain ⟨v4, rfl, b4⟩ := okS_int h4
    obtain ⟨v5, rfl, b5⟩ := okS_int h5
    obtain ⟨v6, rfl, b6⟩ := okS_int h6
    obtain ⟨v7, rfl, b7⟩ := okS_int h7
    obtain ⟨v8, rfl, b8⟩ := okS_int h8
    obtain ⟨v9, rfl, b9⟩ := okS_int h9
    exact ⟨⟨⟨v0, v1⟩, ⟨v2, v3⟩, ⟨v4, v5⟩, ⟨v6, v7⟩, ⟨v8, v9⟩⟩, rfl, b0, b1, b2, b3, b4, b5, b6, b7, b8, b9⟩
instance : Sh Point where
  ss := [.int .i64, .int .i64, .int .i64, .int .i64]
  good a := ok64 a.p0 ∧ ok64 a.p1 ∧ ok64 a.p2 ∧ ok64 a.p3
  len := rfl
  read xs h := by
    obtain ⟨x0, xs, rfl, h0, h⟩ := okR_cons h
    obtain ⟨x1, xs, rfl, h1, h⟩ := okR_cons h
    obtain ⟨x2, xs, rfl, h2, h⟩ := okR_cons h
    obtain ⟨x3, xs, rfl, h3, h⟩ := okR_cons h
    obtain rfl := okR_nil h
    obtain ⟨v0, rfl, b0⟩ := okS_int h0
    obtain ⟨v1, rfl, b1⟩ := okS_int h1
    obtain ⟨v2, rfl, b2⟩ := okS_int h2
    obtain ⟨v3, rfl, b3⟩ := okS_int h3
    exact ⟨⟨v0, v1, v2, v3⟩, rfl, b0, b1, b2, b3⟩
instance : Sh Bias where
  ss := [.int .i64, .int .i64, .int .i64]
  good a := ok64 a.b0 ∧ ok64 a.b1 ∧ ok64 a.b2
  len := rfl
  read xs h := by
    obtain ⟨x0, xs, rfl, h0, h⟩ := okR_cons h
    obtain ⟨x1, xs, rfl, h1, h⟩ := okR_cons h
    obtain ⟨x2, xs, rfl, h2, h⟩ := okR_cons h
    obtain rfl := okR_nil h
    obtain ⟨v0, rfl, b0⟩ := okS_int h0
    obtain ⟨v1, rfl, b1⟩ := okS_int h1
    obtain ⟨v2, rfl, b2⟩ := okS_int h2
    exact ⟨⟨v0, v1, v2⟩, rfl, b0, b1, b2⟩
instance : Sh Node where
  ss := [.bool, .int .i64, .int .i64, .int .i64, .int .i64, .int .i64]
  good a := True ∧ ok64 a.value ∧ ok64 a.feature ∧ ok64 a.cut ∧ ok64 a.left ∧ ok64 a.right
  len := rfl
  read xs h := by
    obtain ⟨x0, xs, rfl, h0, h⟩ := okR_cons h
    obtain ⟨x1, xs, rfl, h1, h⟩ := okR_cons h
    obtain ⟨x2, xs, rfl, h2, h⟩ := okR_cons h
    obtain ⟨x3, xs, rfl, h3, h⟩ := okR_cons h
    obtain ⟨x4, xs, rfl, h4, h⟩ := okR_cons h
    obtain ⟨x5, xs, rfl, h5, h⟩ := okR_cons h
    obtain rfl := okR_nil h
    obtain ⟨v0, rfl⟩ := okS_bool h0
    obtain ⟨v1, rfl, b1⟩ := okS_int h1
    obtain ⟨v2, rfl, b2⟩ := okS_int h2
    obtain ⟨v3, rfl, b3⟩ := okS_int h3
    obtain ⟨v4, rfl, b4⟩ := okS_int h4
    obtain ⟨v5, rfl, b5⟩ := okS_int h5
    exact ⟨⟨v0, v1, v2, v3, v4, v5⟩, rfl, trivial, b1, b2, b3, b4, b5⟩
instance : Sh Tree where
  ss := [.int .i64, .sl (Sh.ss Word)]
  good a := ok64 a.cls ∧ ((∀ x ∈ a.nodes, Sh.good x) ∧ a.nodes.length ≤ maxLen)
  len := rfl
  read xs h := by
    obtain ⟨x0, xs, rfl, h0, h⟩ := okR_cons h
    obtain ⟨x1, xs, rfl, h1, h⟩ := okR_cons h
    obtain rfl := okR_nil h
    obtain ⟨v0, rfl, b0⟩ := okS_int h0
    obtain ⟨v1, rfl, b1⟩ := okS_list (α := Word) h1
    exact ⟨⟨v0, v1⟩, rfl, b0, b1⟩
instance : Sh Model where
  ss := [.int .i64, .int .i64, .int .i64, .int .i64, .int .i64, .sl (Sh.ss Tree)]
  good a := ok64 a.dim ∧ ok64 a.classes ∧ ok64 a.bias.b0 ∧ ok64 a.bias.b1 ∧ ok64 a.bias.b2 ∧ ((∀ x ∈ a.trees, Sh.good x) ∧ a.trees.length ≤ maxLen)
  len := rfl
  read xs h := by
    obtain ⟨x0, xs, rfl, h0, h⟩ := okR_cons h
    obtain ⟨x1, xs, rfl, h1, h⟩ := okR_cons h
    obtain ⟨x2, xs, rfl, h2, h⟩ := okR_cons h
    obtain ⟨x3, xs, rfl, h3, h⟩ := okR_cons h
    obtain ⟨x4, xs, rfl, h4, h⟩ := okR_cons h
    obtain ⟨x5, xs, rfl, h5, h⟩ := okR_cons h
    obtain rfl := okR_nil h
    obtain ⟨v0, rfl, b0⟩ := okS_int h0
    obtain ⟨v1, rfl, b1⟩ := okS_int h1
    obtain ⟨v2, rfl, b2⟩ := okS_int h2
    obtain ⟨v3, rfl, b3⟩ := okS_int h3
    obtain ⟨v4, rfl, b4⟩ := okS_int h4
    obtain ⟨v5, rfl, b5⟩ := okS_list (α := Tree) h5
    exact ⟨⟨v0, v1, ⟨v2, v3, v4⟩, v5⟩, rfl, b0, b1, b2, b3, b4, b5⟩
instance : Sh Piece where
  ss := [.int .i64, .int .i64, .int .i64, .int .i64, .int .i64, .int .i64, .int .i64, .int .i64, .int .i64, .int .i64, .int .i64]
  good a := ok64 a.box.s0.lo ∧ ok64 a.box.s0.hi ∧ ok64 a.box.s1.lo ∧ ok64 a.box.s1.hi ∧ ok64 a.box.s2.lo ∧ ok64 a.box.s2.hi ∧ ok64 a.box.s3.lo ∧ ok64 a.box.s3.hi ∧ ok64 a.box.s4.lo ∧ ok64 a.box.s4.hi ∧ ok64 a.value
  len := rfl
  read xs h := by
    obtain ⟨x0, xs, rfl, h0, h⟩ := okR_cons h
    obtain ⟨x1, xs, rfl, h1, h⟩ := okR_cons h
    obtain ⟨x2, xs, rfl, h2, h⟩ := okR_cons h
    obtain ⟨x3, xs, rfl, h3, h⟩ := okR_cons h
    obtain ⟨x4, xs, rfl, h4, h⟩ := okR_cons h
    obtain ⟨x5, xs, rfl, h5, h⟩ := okR_cons h
    obtain ⟨x6, xs, rfl, h6, h⟩ := okR_cons h
    obtain ⟨x7, xs, rfl, h7, h⟩ := okR_cons h
    obtain ⟨x8, xs, rfl, h8, h⟩ := okR_cons h
    obtain ⟨x9, xs, rfl, h9, h⟩ := okR_cons h
    obtain ⟨x10, xs, rfl, h10, h⟩ := okR_cons h
    obtain rfl := okR_nil h
    obtain ⟨v0, rfl, b0⟩ := okS_int h0
    obtain ⟨v1, rfl, b1⟩ := okS_int h1
    obtain ⟨v2, rfl, b2⟩ := okS_int h2
    obtain ⟨v3, rfl, b3⟩ := okS_int h3
    obtain ⟨v4, rfl, b4⟩ := okS_int h4
    obtain ⟨v5, rfl, b5⟩ := okS_int h5
    obtain ⟨v6, rfl, b6⟩ := okS_int h6
    obtain ⟨v7, rfl, b7⟩ := okS_int h7
    obtain ⟨v8, rfl, b8⟩ := okS_int h8
    obtain ⟨v9, rfl, b9⟩ := okS_int h9
    obtain ⟨v10, rfl, b10⟩ := okS_int h10
    exact ⟨⟨⟨⟨v0, v1⟩, ⟨v2, v3⟩, ⟨v4, v5⟩, ⟨v6, v7⟩, ⟨v8, v9⟩⟩, v10⟩, rfl, b0, b1, b2, b3, b4, b5, b6, b7, b8, b9, b10⟩
instance : Sh Step where
  ss := [.bool, .int .i64, .int .i64]
  good a := True ∧ ok64 a.place ∧ ok64 a.cut
  len := rfl
  read xs h := by
    obtain ⟨x0, xs, rfl, h0, h⟩ := okR_cons h
    obtain ⟨x1, xs, rfl, h1, h⟩ := okR_cons h
    obtain ⟨x2, xs, rfl, h2, h⟩ := okR_cons h
    obtain rfl := okR_nil h
    obtain ⟨v0, rfl⟩ := okS_bool h0
    obtain ⟨v1, rfl, b1⟩ := okS_int h1
    obtain ⟨v2, rfl, b2⟩ := okS_int h2
    exact ⟨⟨v0, v1, v2⟩, rfl, trivial, b1, b2⟩
instance : Sh Query where
  ss := [.int .i64, .int .i64, .int .i64, .int .i64, .int .i64, .int .i64, .int .i64, .int .i64, .int .i64, .int .i64, .int .i64, .int .i64, .int .i64, .int .i64, .int .i64, .bool, .int .i64]
  good a := ok64 a.kind ∧ ok64 a.cls ∧ ok64 a.region.s0.lo ∧ ok64 a.region.s0.hi ∧ ok64 a.region.s1.lo ∧ ok64 a.region.s1.hi ∧ ok64 a.region.s2.lo ∧ ok64 a.region.s2.hi ∧ ok64 a.region.s3.lo ∧ ok64 a.region.s3.hi ∧ ok64 a.region.s4.lo ∧ ok64 a.region.s4.hi ∧ ok64 a.lo ∧ ok64 a.hi ∧ ok64 a.feature ∧ True ∧ ok64 a.budget
  len := rfl
  read xs h := by
    obtain ⟨x0, xs, rfl, h0, h⟩ := okR_cons h
    obtain ⟨x1, xs, rfl, h1, h⟩ := okR_cons h
    obtain ⟨x2, xs, rfl, h2, h⟩ := okR_cons h
    obtain ⟨x3, xs, rfl, h3, h⟩ := okR_cons h
    obtain ⟨x4, xs, rfl, h4, h⟩ := okR_cons h
    obtain ⟨x5, xs, rfl, h5, h⟩ := okR_cons h
    obtain ⟨x6, xs, rfl, h6, h⟩ := okR_cons h
    obtain ⟨x7, xs, rfl, h7, h⟩ := okR_cons h
    obtain ⟨x8, xs, rfl, h8, h⟩ := okR_cons h
    obtain ⟨x9, xs, rfl, h9, h⟩ := okR_cons h
    obtain ⟨x10, xs, rfl, h10, h⟩ := okR_cons h
    obtain ⟨x11, xs, rfl, h11, h⟩ := okR_cons h
    obtain ⟨x12, xs, rfl, h12, h⟩ := okR_cons h
    obtain ⟨x13, xs, rfl, h13, h⟩ := okR_cons h
    obtain ⟨x14, xs, rfl, h14, h⟩ := okR_cons h
    obtain ⟨x15, xs, rfl, h15, h⟩ := okR_cons h
    obtain ⟨x16, xs, rfl, h16, h⟩ := okR_cons h
    obtain rfl := okR_nil h
    obtain ⟨v0, rfl, b0⟩ := okS_int h0
    obtain ⟨v1, rfl, b1⟩ := okS_int h1
    obtain ⟨v2, rfl, b2⟩ := okS_int h2
    obtain ⟨v3, rfl, b3⟩ := okS_int h3
    obtain ⟨v4, rfl, b4⟩ := okS_int h4
    obtain ⟨v5, rfl, b5⟩ := okS_int h5
    obtain ⟨v6, rfl, b6⟩ := okS_int h6
    obtain ⟨v7, rfl, b7⟩ := okS_int h7
    obtain ⟨v8, rfl, b8⟩ := okS_int h8
    obtain ⟨v9, rfl, b9⟩ := okS_int h9
    obtain ⟨v10, rfl, b10⟩ := okS_int h10
    obtain ⟨v11, rfl, b11⟩ := okS_int h11
    obtain ⟨v12, rfl, b12⟩ := okS_int h12
    obtain ⟨v13, rfl, b13⟩ := okS_int h13
    obtain ⟨v14, rfl, b14⟩ := okS_int h14
    obtain ⟨v15, rfl⟩ := okS_bool h15
    obtain ⟨v16, rfl, b16⟩ := okS_int h16
    exact ⟨⟨v0, v1, ⟨⟨v2, v3⟩, ⟨v4, v5⟩, ⟨v6, v7⟩, ⟨v8, v9⟩, ⟨v10, v11⟩⟩, v12, v13, v14, v15, v16⟩, rfl, b0, b1, b2, b3, b4, b5, b6, b7, b8, b9, b10, b11, b12, b13, b14, trivial, b16⟩
instance : Sh Verdict where
  ss := [.int .i64, .sl (Sh.ss Step), .int .i64, .int .i64, .int .i64, .int .i64, .int .i64, .int .i64]
  good a := ok64 a.kind ∧ ((∀ x ∈ a.proof, Sh.good x) ∧ a.proof.length ≤ maxLen) ∧ ok64 a.witness.p0 ∧ ok64 a.witness.p1 ∧ ok64 a.witness.p2 ∧ ok64 a.witness.p3 ∧ ok64 a.twin ∧ ok64 a.spent
  len := rfl
  read xs h := by
    obtain ⟨x0, xs, rfl, h0, h⟩ := okR_cons h
    obtain ⟨x1, xs, rfl, h1, h⟩ := okR_cons h
    obtain ⟨x2, xs, rfl, h2, h⟩ := okR_cons h
    obtain ⟨x3, xs, rfl, h3, h⟩ := okR_cons h
    obtain ⟨x4, xs, rfl, h4, h⟩ := okR_cons h
    obtain ⟨x5, xs, rfl, h5, h⟩ := okR_cons h
    obtain ⟨x6, xs, rfl, h6, h⟩ := okR_cons h
    obtain ⟨x7, xs, rfl, h7, h⟩ := okR_cons h
    obtain rfl := okR_nil h
    obtain ⟨v0, rfl, b0⟩ := okS_int h0
    obtain ⟨v1, rfl, b1⟩ := okS_list (α := Step) h1
    obtain ⟨v2, rfl, b2⟩ := okS_int h2
    obtain ⟨v3, rfl, b3⟩ := okS_int h3
    obtain ⟨v4, rfl, b4⟩ := okS_int h4
    obtain ⟨v5, rfl, b5⟩ := okS_int h5
    obtain ⟨v6, rfl, b6⟩ := okS_int h6
    obtain ⟨v7, rfl, b7⟩ := okS_int h7
    exact ⟨⟨v0, v1, ⟨v2, v3, v4, v5⟩, v6, v7⟩, rfl, b0, b1, b2, b3, b4, b5, b6, b7⟩
instance : Sh KTree where
  ss := [.int .i64, .sl (Sh.ss Int), .sl (Sh.ss Int), .sl (Sh.ss Int), .sl (Sh.ss Int)]
  good a := ok64 a.cls ∧ ((∀ x ∈ a.part, Sh.good x) ∧ a.part.length ≤ maxLen) ∧ ((∀ x ∈ a.dir, Sh.good x) ∧ a.dir.length ≤ maxLen) ∧ ((∀ x ∈ a.cut, Sh.good x) ∧ a.cut.length ≤ maxLen) ∧ ((∀ x ∈ a.val, Sh.good x) ∧ a.val.length ≤ maxLen)
  len := rfl
  read xs h := by
    obtain ⟨x0, xs, rfl, h0, h⟩ := okR_cons h
    obtain ⟨x1, xs, rfl, h1, h⟩ := okR_cons h
    obtain ⟨x2, xs, rfl, h2, h⟩ := okR_cons h
    obtain ⟨x3, xs, rfl, h3, h⟩ := okR_cons h
    obtain ⟨x4, xs, rfl, h4, h⟩ := okR_cons h
    obtain rfl := okR_nil h
    obtain ⟨v0, rfl, b0⟩ := okS_int h0
    obtain ⟨v1, rfl, b1⟩ := okS_list (α := Int) h1
    obtain ⟨v2, rfl, b2⟩ := okS_list (α := Int) h2
    obtain ⟨v3, rfl, b3⟩ := okS_list (α := Int) h3
    obtain ⟨v4, rfl, b4⟩ := okS_list (α := Int) h4
    exact ⟨⟨v0, v1, v2, v3, v4⟩, rfl, b0, b1, b2, b3, b4⟩
instance : Sh Forest where
  ss := [.int .i64, .int .i64, .sl (Sh.ss Int), .sl (Sh.ss KTree)]
  good a := ok64 a.dim ∧ ok64 a.classes ∧ ((∀ x ∈ a.bias, Sh.good x) ∧ a.bias.length ≤ maxLen) ∧ ((∀ x ∈ a.trees, Sh.good x) ∧ a.trees.length ≤ maxLen)
  len := rfl
  read xs h := by
    obtain ⟨x0, xs, rfl, h0, h⟩ := okR_cons h
    obtain ⟨x1, xs, rfl, h1, h⟩ := okR_cons h
    obtain ⟨x2, xs, rfl, h2, h⟩ := okR_cons h
    obtain ⟨x3, xs, rfl, h3, h⟩ := okR_cons h
    obtain rfl := okR_nil h
    obtain ⟨v0, rfl, b0⟩ := okS_int h0
    obtain ⟨v1, rfl, b1⟩ := okS_int h1
    obtain ⟨v2, rfl, b2⟩ := okS_list (α := Int) h2
    obtain ⟨v3, rfl, b3⟩ := okS_list (α := KTree) h3
    exact ⟨⟨v0, v1, v2, v3⟩, rfl, b0, b1, b2, b3⟩
instance : Sh Ask where
  ss := [.int .i64, .int .i64, .int .i64, .int .i64, .int .i64, .int .i64, .bool, .sl (Sh.ss Int)]
  good a := ok64 a.kind ∧ ok64 a.cls ∧ ok64 a.lo ∧ ok64 a.size ∧ ok64 a.feature ∧ ok64 a.budget ∧ True ∧ ((∀ x ∈ a.spans, Sh.good x) ∧ a.spans.length ≤ maxLen)
  len := rfl
  read xs h := by
    obtain ⟨x0, xs, rfl, h0, h⟩ := okR_cons h
    obtain ⟨x1, xs, rfl, h1, h⟩ := okR_cons h
    obtain ⟨x2, xs, rfl, h2, h⟩ := okR_cons h
    obtain ⟨x3, xs, rfl, h3, h⟩ := okR_cons h
    obtain ⟨x4, xs, rfl, h4, h⟩ := okR_cons h
    obtain ⟨x5, xs, rfl, h5, h⟩ := okR_cons h
    obtain ⟨x6, xs, rfl, h6, h⟩ := okR_cons h
    obtain ⟨x7, xs, rfl, h7, h⟩ := okR_cons h
    obtain rfl := okR_nil h
    obtain ⟨v0, rfl, b0⟩ := okS_int h0
    obtain ⟨v1, rfl, b1⟩ := okS_int h1
    obtain ⟨v2, rfl, b2⟩ := okS_int h2
    obtain ⟨v3, rfl, b3⟩ := okS_int h3
    obtain ⟨v4, rfl, b4⟩ := okS_int h4
    obtain ⟨v5, rfl, b5⟩ := okS_int h5
    obtain ⟨v6, rfl⟩ := okS_bool h6
    obtain ⟨v7, rfl, b7⟩ := okS_list (α := Int) h7
    exact ⟨⟨v0, v1, v2, v3, v4, v5, v6, v7⟩, rfl, b0, b1, b2, b3, b4, b5, trivial, b7⟩
instance : Sh Cutting where
  ss := [.sl (Sh.ss Int), .sl (Sh.ss Int)]
  good a := ((∀ x ∈ a.place, Sh.good x) ∧ a.place.length ≤ maxLen) ∧ ((∀ x ∈ a.cut, Sh.good x) ∧ a.cut.length ≤ maxLen)
  len := rfl
  read xs h := by
    obtain ⟨x0, xs, rfl, h0, h⟩ := okR_cons h
    obtain ⟨x1, xs, rfl, h1, h⟩ := okR_cons h
    obtain rfl := okR_nil h
    obtain ⟨v0, rfl, b0⟩ := okS_list (α := Int) h0
    obtain ⟨v1, rfl, b1⟩ := okS_list (α := Int) h1
    exact ⟨⟨v0, v1⟩, rfl, b0, b1⟩
variable {P : Program} {t : TypeId} {x : AV}
theorem arg_agg {α : Type} [Row α] [Sh α] (h1 : isAggT P t = true) (h2 : shp P 20 t = some (Sh.ss α)) (h : argOk P t x) : ∃ a : α, x = .agg (Row.enc a) ∧ Sh.good a := by
  unfold argOk at h
  rw [h1] at h
  obtain ⟨xs, ss, rfl, hs, hr⟩ := h
  rw [h2] at hs
  cases hs
  obtain ⟨a, rfl, hg⟩ := Sh.read _ hr
  exact ⟨a, rfl, hg⟩
theorem arg_cell {s : Shp} (h1 : isAggT P t = false) (h2 : shp P 20 t = some [s]) (h : argOk P t x) : okS s x := by
  unfold argOk at h
  rw [h1] at h
  obtain ⟨s', hs, hr⟩ := h
  rw [h2] at hs
  cases hs
  exact hr
theorem arg_int (h1 : isAggT P t = false) (h2 : shp P 20 t = some [.int .i64]) (h : argOk P t x) : ∃ n, x = .int .i64 n ∧ ok64 n := okS_int (arg_cell h1 h2 h)
theorem arg_list {α : Type} [Row α] [Sh α] (h1 : isAggT P t = false) (h2 : shp P 20 t = some [.sl (Sh.ss α)]) (h : argOk P t x) : ∃ l : List α, x = .lst l.length (encL l) ∧ (∀ a ∈ l, Sh.good a) ∧ l.length ≤ maxLen := okS_list (arg_cell h1 h2 h)
theorem argsOk_cons {t : TypeId} {ts : List TypeId} {xs : List AV} (h : argsOk P (t :: ts) xs) : ∃ x ys, xs = x :: ys ∧ argOk P t x ∧ argsOk P ts ys := by
  cases xs with
  | nil => simp [argsOk] at h
  | cons x xs => simp only [argsOk] at h; exact ⟨x, xs, rfl, h.1, h.2⟩
theorem argsOk_nil {xs : List AV} (h : argsOk P [] xs) : xs = [] := by
  cases xs with
  | nil => rfl
  | cons x xs => simp [argsOk] at h
end Go.Co
/- CO: pieces that meet, groups, levels. -/
namespace Go.Co
open Go.Am
set_option linter.unusedSimpArgs false
set_option linter.unusedVariables false
instance rowList {α : Type} [Row α] : Row (List α) where
  sz := 1
  enc l := [.lst l.length (encL l)]
  dec xs := match xs with
    | [.lst n ys] => decL α n ys
    | _ => none
  pos := by decide
  len _ := rfl
  dec_enc l := decL_encL l
  enc_dec xs a h := by
    split at h
    · obtain ⟨h1, h2⟩ := decL_some _ _ _ h
      rw [h1, h2]
    · cases h
@[simp] theorem enc_rowList {α : Type} [Row α] (l : List α) : Row.enc l = [.lst l.length (encL l)] := rfl
@[simp] theorem sz_rowList {α : Type} [Row α] : Row.sz (List α) = 1 := rfl
instance {α : Type} [Row α] : Cells (List α) := ⟨fun _ => rfl⟩
def meetB (a b : Box) : Box := ⟨meetS a.s0 b.s0, meetS a.s1 b.s1, meetS a.s2 b.s2, meetS a.s3 b.s3, meetS a.s4 b.s4⟩
def meetF (x y : Piece) : Option Piece := if (meetB x.box y.box).empty then none else some ⟨meetB x.box y.box, x.value + y.value⟩
def row (x : Piece) (b : List Piece) : List Piece := b.filterMap (meetF x)
def smallG (k : Nat) (gs : List (List Piece)) : Prop := ∀ g ∈ gs, (∀ x ∈ g, -(2 : Int) ^ k ≤ x.value ∧ x.value ≤ (2 : Int) ^ k) ∧ g.length ≤ 1073741824
theorem pow_up {j k : Nat} (h : j ≤ k) : (2 : Int) ^ j ≤ 2 ^ k := by
  have : (2 : Nat) ^ j ≤ 2 ^ k := Nat.pow_le_pow_right (by omega) h
  exact_mod_cast this
theorem smallG.up {j k : Nat} (h : j ≤ k) {gs : List (List Piece)} (hs : smallG j gs) : smallG k gs := by
  intro g hg
  refine ⟨fun x hx => ?_, (hs g hg).2⟩
  have h1 := (hs g hg).1 x hx
  have h2 := pow_up h
  omega
end Go.Co
/- CO: what breaks in a cell breaks at its corner; parts of a region. -/
set_option maxHeartbeats 16000000
set_option maxRecDepth 100000
namespace Go.Co
open Go.Am Go.Proofs
set_option linter.unusedSimpArgs false
set_option linter.unusedVariables false
attribute [-simp] Go.Am.eff_gcall
instance {α : Type} [Row α] [Sh α] : Sh (List α) where
  ss := [.sl (Sh.ss α)]
  good l := (∀ a ∈ l, Sh.good a) ∧ l.length ≤ maxLen
  len := rfl
  read xs h := by
    obtain ⟨x0, xs, rfl, h0, h⟩ := okR_cons h
    obtain rfl := okR_nil h
    obtain ⟨l, rfl, hg, hl⟩ := okS_list h0
    exact ⟨l, rfl, hg, hl⟩
def c92_0 : ACode := .ops [⟨some 3, .box (.t 0) 10, none, []⟩,⟨some 4, .box (.t 1) 4, none, []⟩,⟨some 6, .mv (.c (.bool false)), none, []⟩] [2, 3, 4]
theorem r92_0 : type_of% (@rr _ _ c92_0.eq_1) := rr rfl
def c92_1 : ACode := .ops [⟨some 9, .load 4 true (.t 4), none, [4]⟩,⟨some 10, .mv (.c (.int .i64 0)), none, []⟩] [2, 3, 9, 10]
theorem r92_1 : type_of% (@rr _ _ c92_1.eq_1) := rr rfl
def c92_2 : ACode := .ops [⟨some 11, .bin .lss (.t 10) (.c (.int .i64 4)), none, []⟩] [2, 3, 9, 10, 11]
theorem r92_2 : type_of% (@rr _ _ c92_2.eq_1) := rr rfl
def c92_3 : ACode := .cond (.t 11) .skip (.exit 0)
theorem r92_3 : type_of% (@rr _ _ c92_3.eq_1) := rr rfl
def c92_4 : ACode := .ops [⟨some 12, .mv (.t 10), none, []⟩,⟨some 13, .idx (.t 9) (.t 10) 1 4 false, none, []⟩,⟨some 7, .mv (.t 12), none, []⟩,⟨some 8, .mv (.t 13), none, []⟩] [2, 3, 7, 8, 9, 10]
theorem r92_4 : type_of% (@rr _ _ c92_4.eq_1) := rr rfl
def c92_5 : ACode := .ops [⟨some 14, .mv (.t 7), none, []⟩,⟨some 15, .iad (.t 3) (.t 14) 2 5, none, [3]⟩,⟨some 16, .load 2 true (.t 15), none, [3]⟩,⟨some 17, .mv (.t 8), none, []⟩,⟨some 18, .call 108 [.t 16, .t 17], none, []⟩,⟨some 19, .un .not (.t 18), none, []⟩] [2, 3, 9, 10, 19]
theorem r92_5 : type_of% (@rr _ _ c92_5.eq_1) := rr rfl
def c92_6 : ACode := .ops [⟨some 6, .mv (.c (.bool false)), none, []⟩] [6]
theorem r92_6 : type_of% (@rr _ _ c92_6.eq_1) := rr rfl
def c92_7 : ACode := .seq c92_6 .ret
theorem r92_7 : type_of% (@rr _ _ c92_7.eq_1) := rr rfl
def c92_8 : ACode := .cond (.t 19) c92_7 .skip
theorem r92_8 : type_of% (@rr _ _ c92_8.eq_1) := rr rfl
def c92_9 : ACode := .seq c92_5 c92_8
theorem r92_9 : type_of% (@rr _ _ c92_9.eq_1) := rr rfl
def c92_10 : ACode := .seq c92_4 c92_9
theorem r92_10 : type_of% (@rr _ _ c92_10.eq_1) := rr rfl
def c92_11 : ACode := .block 1 c92_10
theorem r92_11 : type_of% (@rr _ _ c92_11.eq_1) := rr rfl
def c92_12 : ACode := .ops [⟨some 20, .bin .add (.t 10) (.c (.int .i64 1)), none, []⟩,⟨some 10, .mv (.t 20), none, []⟩] [2, 3, 9, 10]
theorem r92_12 : type_of% (@rr _ _ c92_12.eq_1) := rr rfl
def c92_13 : ACode := .seq c92_11 c92_12
theorem r92_13 : type_of% (@rr _ _ c92_13.eq_1) := rr rfl
def c92_14 : ACode := .seq c92_3 c92_13
theorem r92_14 : type_of% (@rr _ _ c92_14.eq_1) := rr rfl
def c92_15 : ACode := .seq c92_2 c92_14
theorem r92_15 : type_of% (@rr _ _ c92_15.eq_1) := rr rfl
def c92_16 : ACode := .keep [2, 3, 9, 10] [3] c92_15
theorem r92_16 : type_of% (@rr _ _ c92_16.eq_1) := rr rfl
def c92_17 : ACode := .loop c92_16
theorem r92_17 : type_of% (@rr _ _ c92_17.eq_1) := rr rfl
def c92_18 : ACode := .block 0 c92_17
theorem r92_18 : type_of% (@rr _ _ c92_18.eq_1) := rr rfl
def c92_19 : ACode := .seq c92_1 c92_18
theorem r92_19 : type_of% (@rr _ _ c92_19.eq_1) := rr rfl
def c92_20 : ACode := .ops [⟨some 21, .iad (.t 3) (.c (.int .i64 4)) 2 5, none, [3]⟩,⟨some 22, .load 2 true (.t 21), none, [3]⟩,⟨some 23, .mv (.t 2), none, []⟩,⟨some 24, .call 108 [.t 22, .t 23], none, []⟩,⟨some 6, .mv (.t 24), none, []⟩] [6]
theorem r92_20 : type_of% (@rr _ _ c92_20.eq_1) := rr rfl
def c92_21 : ACode := .seq c92_20 .ret
theorem r92_21 : type_of% (@rr _ _ c92_21.eq_1) := rr rfl
def c92_22 : ACode := .seq c92_19 c92_21
theorem r92_22 : type_of% (@rr _ _ c92_22.eq_1) := rr rfl
def c92_23 : ACode := .seq c92_0 c92_22
theorem r92_23 : type_of% (@rr _ _ c92_23.eq_1) := rr rfl
def a92 : AFun := ⟨3, 25, c92_23, [.t 6]⟩
attribute [simp] r92_0 r92_1 r92_2 r92_3 r92_4 r92_5 r92_6 r92_7 r92_8 r92_9 r92_10 r92_11 r92_12 r92_13 r92_14 r92_15 r92_16 r92_17 r92_18 r92_19 r92_20 r92_21 r92_22 r92_23
theorem m92 : mFun Try.prog Try.f92 a92 = true := by decide +kernel
theorem point_set_get (p : Point) {k i : Int} (n : Int) (h0 : 0 ≤ k) (h4 : k < 4) (i0 : 0 ≤ i) (i4 : i < 4) : (p.set k n).get i = if i = k then n else p.get i := by
  have h1 : k = 0 ∨ k = 1 ∨ k = 2 ∨ k = 3 := by omega
  have h2 : i = 0 ∨ i = 1 ∨ i = 2 ∨ i = 3 := by omega
  rcases h1 with rfl | rfl | rfl | rfl <;> rcases h2 with rfl | rfl | rfl | rfl <;> rfl
theorem beaten_same {m : Model} {q : Query} {p o : Point} (h : ∀ c, evalM m c p = evalM m c o) : beaten m q p = beaten m q o := by
  unfold beaten
  simp only [h]
theorem breaks_corner {m : Model} (hm : RM m) {q : Query} {x : Box} (hn : ∀ i : Int, 0 ≤ i → i < 5 → cutsL m q x i = []) {p : Point} {t : Int} (hp : InB x p t) (h : breaks m q p t = true) : corner m q x = true := by
  have he : x.empty = false := empty_false.2 ⟨p, t, hp⟩
  have hl := low_in he
  have hE : ∀ c, evalM m c p = evalM m c (lowB x) := fun c => cell_eval hm hn hp hl c
  unfold corner
  unfold breaks at h ⊢
  cases hq : okQuery m q
  · rw [hq] at h
    simp at h
  rw [hq] at h
  simp only [if_true] at h ⊢
  by_cases k1 : q.kind = 1
  · rw [if_pos k1] at h ⊢
    rw [← hE]
    exact h
  rw [if_neg k1] at h ⊢
  by_cases k2 : q.kind = 2
  · rw [if_pos k2] at h ⊢
    rw [← beaten_same hE]
    exact h
  rw [if_neg k2] at h ⊢
  have hks := okKind_spec (okQuery_spec hq).2.2.2.2.2
  have hk : q.kind = 3 ∧ 0 ≤ q.feature ∧ q.feature < m.dim := by omega
  have hd := hm.dim
  have hpr : paired q = true := by unfold paired; simp; omega
  by_cases hlt : p.get q.feature < t
  case neg => rw [if_neg hlt] at h; cases h
  rw [if_pos hlt] at h
  have h1 := (inB_get.1 hp q.feature hk.2.1 (by omega)).1
  have h2 := (inB_get.1 hl q.feature hk.2.1 (by omega)).1
  have h3 : InS x.s4 t := hp.2.2.2.2
  have h4 : InS x.s4 x.s4.hi := hl.2.2.2.2
  have hlo : (lowB x).get q.feature = (x.get q.feature).lo := by
    have : q.feature = 0 ∨ q.feature = 1 ∨ q.feature = 2 ∨ q.feature = 3 := by omega
    rcases this with e | e | e | e <;> rw [e] <;> rfl
  have hc : (lowB x).get q.feature < x.s4.hi := by
    rw [hlo]
    unfold InS at h1 h3
    omega
  rw [if_pos hc]
  have hS : ∀ c, evalM m c (secondOf q p t) = evalM m c (secondOf q (lowB x) x.s4.hi) := fun c => by
    refine eval_same hm (fun j j0 j4 => ?_) c
    unfold secondOf
    rw [if_pos hpr, if_pos hpr, point_set_get p t hk.2.1 (by omega) j0 j4, point_set_get (lowB x) x.s4.hi hk.2.1 (by omega) j0 j4]
    by_cases e : j = q.feature
    · rw [if_pos e, if_pos e]
      have f4 : featOf q 4 = q.feature := by unfold featOf; rw [if_neg (by omega), if_pos ⟨rfl, hk.1⟩]
      have := uncut (hn 4 (by omega) (by omega)) (by rw [f4]; omega) (n := t) (o := x.s4.hi) h3 h4
      rwa [f4, ← e] at this
    · rw [if_neg e, if_neg e]
      have g1 := (inB_get.1 hp j j0 j4).1
      have g2 := (inB_get.1 hl j j0 j4).1
      have := uncut (hn j j0 (by omega)) (by rw [featOf_lt q j0 j4]; omega) g1 g2
      rwa [featOf_lt q j0 j4] at this
  rw [← hE, ← hS]
  exact h
theorem holds_iff {m : Model} (hm : RM m) {q : Query} (hb : (startOf q).empty = false) : holdsM m q = true ↔ ∀ p t, InB (startOf q) p t → breaks m q p t = false := by
  unfold holdsM
  rw [Bool.not_eq_true', List.any_eq_false]
  constructor
  · intro h p t hp
    obtain ⟨x, hx, hpx⟩ := cell_of (m := m) (q := q) hp
    cases hbr : breaks m q p t
    · rfl
    · exact absurd (breaks_corner hm (cell_spec hb hx).2.2 hpx hbr) (h x hx)
  · intro h x hx
    obtain ⟨h1, h2, _⟩ := cell_spec hb hx
    have := h _ _ (within_inB h2 (low_in h1))
    unfold corner
    rw [this]
    simp
def hasB (b : Box) (p : Point) (t : Int) : Bool := b.s0.has p.p0 && b.s1.has p.p1 && b.s2.has p.p2 && b.s3.has p.p3 && b.s4.has t
theorem hasB_iff {b : Box} {p : Point} {t : Int} : hasB b p t = true ↔ InB b p t := by
  unfold hasB Span.has InB InS
  simp only [Bool.and_eq_true, decide_eq_true_eq]
  constructor
  · rintro ⟨⟨⟨⟨h0, h1⟩, h2⟩, h3⟩, h4⟩; exact ⟨h0, h1, h2, h3, h4⟩
  · rintro ⟨h0, h1, h2, h3, h4⟩; exact ⟨⟨⟨⟨h0, h1⟩, h2⟩, h3⟩, h4⟩
theorem runs_Has (b : Box) (p : Point) (t : Int) (c : Bool) (h : some (hasB b p t) = some c) : Runs (tbl [(108, sp2 fun (s : Span) n => some (s.has n))]) a92 [Arg.enc b, Arg.enc p, Arg.enc t] (Arg.enc c) := by
  cases h
  refine ⟨rfl, fun g => run_def ?_⟩
  unfold a92
  cases h0 : b.s0.has p.p0
  case false => simp -implicitDefEqProofs [hasB, run_round, h0]
  cases h1 : b.s1.has p.p1
  case false => simp -implicitDefEqProofs [hasB, run_round, h0, h1]
  cases h2 : b.s2.has p.p2
  case false => simp -implicitDefEqProofs [hasB, run_round, h0, h1, h2]
  cases h3 : b.s3.has p.p3
  case false => simp -implicitDefEqProofs [hasB, run_round, h0, h1, h2, h3]
  simp -implicitDefEqProofs [hasB, run_round, h0, h1, h2, h3]
theorem c_Has : Contract Try.prog 92 (sp3 fun b p t => some (hasB b p t)) :=
  contract_of_runs mixed (tbl_cons c_sHas tbl_nil) Try.func92 m92 (sp3_runs runs_Has)
end Go.Co
/- CO: pairs. -/
namespace Go.Co
open Go.Am Go.Proofs
set_option linter.unusedSimpArgs false
set_option linter.unusedVariables false
def firstB (q : Query) (b : Box) : Box := if paired q then { b with s4 := ⟨0, 0⟩ } else b
def secondB (q : Query) (b : Box) : Box := if paired q then { b.set q.feature b.s4 with s4 := ⟨0, 0⟩ } else b
def orderedB (q : Query) (b : Box) : Bool := paired q && !b.empty && decide ((b.get q.feature).lo < b.s4.hi)
def changeM (m : Model) (q : Query) (b : Box) : Tri Int Int Bool :=
  if paired q && (boundM m q.cls (firstB q b)).c && (boundM m q.cls (secondB q b)).c then
    ⟨(boundM m q.cls (secondB q b)).a - (boundM m q.cls (firstB q b)).b, (boundM m q.cls (secondB q b)).b - (boundM m q.cls (firstB q b)).a, true⟩ else ⟨0, 0, false⟩
end Go.Co
/- CO: what changes of pairs are. -/
namespace Go.Co
open Go.Am Go.Proofs
set_option linter.unusedSimpArgs false
set_option linter.unusedVariables false
theorem first_in {q : Query} (hp : paired q = true) {b : Box} {p : Point} {t : Int} : InB (firstB q b) p t ↔ (t = 0 ∧ InS b.s0 p.p0 ∧ InS b.s1 p.p1 ∧ InS b.s2 p.p2 ∧ InS b.s3 p.p3) := by
  unfold firstB InB
  rw [if_pos hp]
  simp only
  constructor
  · rintro ⟨h0, h1, h2, h3, h4⟩
    exact ⟨by unfold InS at h4; simp only at h4; omega, h0, h1, h2, h3⟩
  · rintro ⟨rfl, h0, h1, h2, h3⟩
    exact ⟨h0, h1, h2, h3, by unfold InS; simp⟩
theorem second_in {q : Query} (hp : paired q = true) {b : Box} {p : Point} {t : Int} (h : InB b p t) : InB (secondB q b) (p.set q.feature t) 0 := by
  have hf := paired_feature hp
  obtain ⟨h0, h1, h2, h3, h4⟩ := h
  have z : InS ⟨0, 0⟩ 0 := by unfold InS; simp
  unfold secondB
  rw [if_pos hp]
  rcases hf with hf | hf | hf | hf <;> rw [hf] <;> simp only [Box.set, Point.set, InB, if_true, Int.reduceEq, if_false, reduceIte]
  · exact ⟨h4, h1, h2, h3, z⟩
  · exact ⟨h0, h4, h2, h3, z⟩
  · exact ⟨h0, h1, h4, h3, z⟩
  · exact ⟨h0, h1, h2, h4, z⟩
theorem first_some {q : Query} (hp : paired q = true) {b : Box} (he : b.empty = false) : (firstB q b).empty = false := by
  obtain ⟨p, t, h0, h1, h2, h3, h4⟩ := empty_false.1 he
  exact empty_false.2 ⟨p, 0, (first_in hp).2 ⟨rfl, h0, h1, h2, h3⟩⟩
theorem second_some {q : Query} (hp : paired q = true) {b : Box} (he : b.empty = false) : (secondB q b).empty = false := by
  obtain ⟨p, t, h⟩ := empty_false.1 he
  exact empty_false.2 ⟨_, _, second_in hp h⟩
theorem change_some {m : Model} {q : Query} (hp : paired q = true) (h0 : 0 ≤ q.cls) (h1 : q.cls < m.classes) {b : Box} (he : b.empty = false) :
    changeM m q b = ⟨(boundP m q.cls (secondB q b)).1 - (boundP m q.cls (firstB q b)).2, (boundP m q.cls (secondB q b)).2 - (boundP m q.cls (firstB q b)).1, true⟩ := by
  have e1 := first_some hp he
  have e2 := second_some hp he
  have a1 : boundM m q.cls (firstB q b) = ⟨(boundP m q.cls (firstB q b)).1, (boundP m q.cls (firstB q b)).2, true⟩ := by unfold boundM; rw [if_neg (by simp [e1]; omega)]
  have a2 : boundM m q.cls (secondB q b) = ⟨(boundP m q.cls (secondB q b)).1, (boundP m q.cls (secondB q b)).2, true⟩ := by unfold boundM; rw [if_neg (by simp [e2]; omega)]
  unfold changeM
  rw [a1, a2, hp]
  rfl
theorem change_sound {m : Model} (hm : RM m) {q : Query} (hp : paired q = true) (h0 : 0 ≤ q.cls) (h1 : q.cls < m.classes) {b : Box} {p : Point} {t : Int} (h : InB b p t) :
    (changeM m q b).a ≤ evalM m q.cls (p.set q.feature t) - evalM m q.cls p ∧ evalM m q.cls (p.set q.feature t) - evalM m q.cls p ≤ (changeM m q b).b := by
  rw [change_some hp h0 h1 (empty_false.2 ⟨p, t, h⟩)]
  have k1 := bound_sound hm q.cls ((first_in hp (b := b) (p := p) (t := 0)).2 ⟨rfl, h.1, h.2.1, h.2.2.1, h.2.2.2.1⟩)
  have k2 := bound_sound hm q.cls (second_in hp h)
  simp only
  omega
end Go.Co
/- CO: do sums show what is asked within a box? where is it cut? -/
namespace Go.Co
open Go.Am Go.Proofs
set_option linter.unusedSimpArgs false
set_option linter.unusedVariables false
attribute [-simp] Go.Am.eff_gcall
def ahead (m : Model) (c : Int) (b : Box) : Prop := ∀ o : Int, 0 ≤ o → o < m.classes → o ≠ c → 0 < marD m c b o
theorem margin_pos {m : Model} {c : Int} {b : Box} (h0 : 0 ≤ c) (h1 : c < m.classes) (h2 : m.classes = 2 ∨ m.classes = 3) : 0 < margin m c b ↔ ahead m c b := by
  unfold margin ahead
  have hm2 := min2_le (a := marD m c b (other1 c)) (b := marD m c b (other2 c))
  rcases h2 with e | e
  · rw [if_pos e]
    have hc : c = 0 ∨ c = 1 := by omega
    constructor
    · intro h o o0 o1 oc
      have : o = other1 c := by unfold other1; split <;> omega
      rw [this]; exact h
    · intro h
      exact h _ (by unfold other1; split <;> omega) (by unfold other1; split <;> omega) (by unfold other1; split <;> omega)
  · rw [if_neg (by omega)]
    have hc : c = 0 ∨ c = 1 ∨ c = 2 := by omega
    constructor
    · intro h o o0 o1 oc
      have : o = other1 c ∨ o = other2 c := by unfold other1 other2; split <;> split <;> omega
      rcases this with e2 | e2 <;> rw [e2] <;> omega
    · intro h
      have k1 := h (other1 c) (by unfold other1; split <;> omega) (by unfold other1; split <;> omega) (by unfold other1; split <;> omega)
      have k2 := h (other2 c) (by unfold other2; split <;> omega) (by unfold other2; split <;> omega) (by unfold other2; split <;> omega)
      omega
def closedM (m : Model) (q : Query) (b : Box) : Bool :=
  if okQuery m q = false then false else if b.empty then true else
  if q.kind = 1 then (boundM m q.cls b).c && decide (q.lo ≤ (boundM m q.cls b).a) && decide ((boundM m q.cls b).b ≤ q.hi) else
  if q.kind = 2 then decide (0 < margin m q.cls b) else
  if orderedB q b then (changeM m q b).c && (if q.falls then decide ((changeM m q b).b ≤ 0) else decide (0 ≤ (changeM m q b).a)) else true
def Shown (m : Model) (q : Query) (b : Box) : Prop :=
  (q.kind = 1 ∧ q.lo ≤ (boundP m q.cls b).1 ∧ (boundP m q.cls b).2 ≤ q.hi) ∨ (q.kind = 2 ∧ ahead m q.cls b) ∨
  (q.kind = 3 ∧ ((b.get q.feature).lo < b.s4.hi → (if q.falls then (changeM m q b).b ≤ 0 else 0 ≤ (changeM m q b).a)))
theorem closed_iff {m : Model} (hm : RM m) {q : Query} (hq : okQuery m q = true) {b : Box} (hb : b.empty = false) : closedM m q b = true ↔ Shown m q b := by
  have hs := okQuery_spec hq
  have hk := okKind_spec hs.2.2.2.2.2
  have hcl := hm.classes
  have hd := hm.dim
  unfold closedM Shown
  rw [if_neg (by simp [hq]), if_neg (by simp [hb])]
  have hB : boundM m q.cls b = ⟨(boundP m q.cls b).1, (boundP m q.cls b).2, true⟩ := by unfold boundM; rw [if_neg (by simp [hb]; omega)]
  rcases hk with ⟨k, _⟩ | ⟨k, k2, _⟩ | ⟨k, f0, f1, _⟩
  · rw [if_pos k, hB]
    simp [k]
  · rw [if_neg (by omega), if_pos k, decide_eq_true_eq, margin_pos hs.1 hs.2.1 (by omega)]
    simp [k]
  · have hp : paired q = true := by unfold paired; simp; omega
    have ho : orderedB q b = decide ((b.get q.feature).lo < b.s4.hi) := by unfold orderedB; rw [hp, hb]; rfl
    have hc : (changeM m q b).c = true := by rw [change_some hp hs.1 hs.2.1 hb]
    rw [if_neg (by omega), if_neg (by omega), ho, hc]
    by_cases h : (b.get q.feature).lo < b.s4.hi
    · cases hf : q.falls <;> simp [k, h]
    · simp [k, h]
theorem marD_sound {m : Model} (hm : RM m) {b : Box} {p : Point} {t : Int} (hp : InB b p t) (c o : Int) : marD m c b o ≤ evalM m c p - evalM m o p := by
  have h1 := bound_sound hm c hp
  have h2 := bound_sound hm o hp
  unfold marD
  omega
theorem unbeaten_iff {m : Model} {q : Query} {p : Point} : beaten m q p = false ↔ ∀ o : Int, 0 ≤ o → o < m.classes → o ≠ q.cls → evalM m o p < evalM m q.cls p := by
  unfold beaten
  rw [List.any_eq_false]
  constructor
  · intro h o h0 h1 hc
    have := h o.toNat (by rw [List.mem_range]; omega)
    rw [show ((o.toNat : Nat) : Int) = o by omega] at this
    simp [hc] at this
    exact this
  · intro h x hx
    rw [List.mem_range] at hx
    by_cases e : (x : Int) = q.cls
    · simp [e]
    · have := h x (by omega) (by omega) e
      simp [e]
      exact this
theorem closed_sound {m : Model} (hm : RM m) {q : Query} {b : Box} (h : closedM m q b = true) {p : Point} {t : Int} (hp : InB b p t) : breaks m q p t = false := by
  have hb : b.empty = false := empty_false.2 ⟨p, t, hp⟩
  cases hq : okQuery m q
  · unfold breaks; rw [hq]; rfl
  rw [closed_iff hm hq hb] at h
  have hs := okQuery_spec hq
  have hk := okKind_spec hs.2.2.2.2.2
  have hd := hm.dim
  unfold breaks
  rw [hq]
  simp only [if_true]
  rcases h with ⟨k, h1, h2⟩ | ⟨k, h1⟩ | ⟨k, h1⟩
  · rw [if_pos k]
    have := bound_sound hm q.cls hp
    simp [Span.has]
    omega
  · rw [if_neg (by omega), if_pos k, unbeaten_iff]
    intro o o0 o1 oc
    have k1 := h1 o o0 o1 oc
    have k2 := marD_sound hm hp q.cls o
    omega
  · rw [if_neg (by omega), if_neg (by omega)]
    have hf : 0 ≤ q.feature ∧ q.feature < m.dim := by omega
    have hpr : paired q = true := by unfold paired; simp; omega
    by_cases hlt : p.get q.feature < t
    · rw [if_pos hlt]
      have h2 := (inB_get.1 hp q.feature hf.1 (by omega)).1
      have h3 : InS b.s4 t := hp.2.2.2.2
      unfold InS at h2 h3
      have h1 := h1 (by omega)
      have hc := change_sound hm hpr hs.1 hs.2.1 hp
      have hse : secondOf q p t = p.set q.feature t := by unfold secondOf; rw [if_pos hpr]
      rw [hse]
      cases hfa : q.falls
      · rw [hfa] at h1
        simp at h1 ⊢
        omega
      · rw [hfa] at h1
        simp at h1 ⊢
        omega
    · rw [if_neg hlt]
theorem closed_wrong {m : Model} {q : Query} {b : Box} (h : okQuery m q = false) : closedM m q b = false := by unfold closedM; rw [if_pos h]
noncomputable def ClosedC (m : Model) (q : Query) (b : Box) : Option Bool := Part (RM m ∧ okB b) (closedM m q b)
def midL (l : List Int) : Int := l.getD ((l.length - 1) / 2) 0
def splitFrom (m : Model) (q : Query) (b : Box) : List Int → Tri Int Int Bool
  | [] => ⟨0, 0, false⟩
  | k :: ks => if cutsL m q b k = [] then splitFrom m q b ks else ⟨k, midL (cutsL m q b k), true⟩
def splitM (m : Model) (q : Query) (b : Box) : Tri Int Int Bool := splitFrom m q b [0, 1, 2, 3, 4]
theorem splitFrom_spec (m : Model) (q : Query) (b : Box) : ∀ (ks : List Int), ((splitFrom m q b ks).c = false ∧ splitFrom m q b ks = ⟨0, 0, false⟩ ∧ ∀ k ∈ ks, cutsL m q b k = []) ∨
    ∃ (l r : List Int) (k : Int), ks = l ++ k :: r ∧ cutsL m q b k ≠ [] ∧ (∀ i ∈ l, cutsL m q b i = []) ∧ splitFrom m q b ks = ⟨k, midL (cutsL m q b k), true⟩
  | [] => .inl ⟨rfl, rfl, fun k hk => by simp at hk⟩
  | k :: ks => by
    unfold splitFrom
    by_cases h : cutsL m q b k = []
    · rw [if_pos h]
      rcases splitFrom_spec m q b ks with ⟨h1, h2, h3⟩ | ⟨l, r, j, h1, h2, h3, h4⟩
      · exact .inl ⟨h1, h2, fun i hi => by
          rcases List.mem_cons.1 hi with rfl | hi
          · exact h
          · exact h3 i hi⟩
      · exact .inr ⟨k :: l, r, j, by rw [h1]; rfl, h2, fun i hi => by
          rcases List.mem_cons.1 hi with rfl | hi
          · exact h
          · exact h3 i hi, h4⟩
    · rw [if_neg h]
      exact .inr ⟨[], ks, k, rfl, h, fun i hi => by simp at hi, rfl⟩
noncomputable def SplitC (m : Model) (q : Query) (b : Box) : Option (Tri Int Int Bool) := Part (RM m) (splitM m q b)
end Go.Co
/- CO: a part of a box, by numbers. -/
namespace Go.Co
open Go.Am Go.Proofs
set_option linter.unusedSimpArgs false
set_option linter.unusedVariables false
attribute [-simp] Go.Am.eff_gcall
theorem rd_nlo (b : Box) (i : Nat) (h : i < 5) : rd [.int .i64 b.s0.lo, .int .i64 b.s0.hi, .int .i64 b.s1.lo, .int .i64 b.s1.hi, .int .i64 b.s2.lo, .int .i64 b.s2.hi, .int .i64 b.s3.lo, .int .i64 b.s3.hi, .int .i64 b.s4.lo, .int .i64 b.s4.hi] (i * 2) 1 false = some (.int .i64 (b.get i).lo) := by
  have hf : i = 0 ∨ i = 1 ∨ i = 2 ∨ i = 3 ∨ i = 4 := by omega
  rcases hf with rfl | rfl | rfl | rfl | rfl <;> rfl
theorem rd_nhi (b : Box) (i : Nat) (h : i < 5) : rd [.int .i64 b.s0.lo, .int .i64 b.s0.hi, .int .i64 b.s1.lo, .int .i64 b.s1.hi, .int .i64 b.s2.lo, .int .i64 b.s2.hi, .int .i64 b.s3.lo, .int .i64 b.s3.hi, .int .i64 b.s4.lo, .int .i64 b.s4.hi] (i * 2 + 1) 1 false = some (.int .i64 (b.get i).hi) := by
  have hf : i = 0 ∨ i = 1 ∨ i = 2 ∨ i = 3 ∨ i = 4 := by omega
  rcases hf with rfl | rfl | rfl | rfl | rfl <;> rfl
structure PartOk (b x : Box) : Prop where
  some : x.empty = false
  sub : ∀ i : Int, 0 ≤ i → i < 5 → (b.get i).lo ≤ (x.get i).lo ∧ (x.get i).hi ≤ (b.get i).hi
theorem PartOk.set {b x : Box} (h : PartOk b x) {i : Nat} (hi : i < 5) {s : Span} (h1 : s.lo ≤ s.hi) (h2 : (x.get i).lo ≤ s.lo) (h3 : s.hi ≤ (x.get i).hi) : PartOk b (x.set i s) := by
  refine ⟨empty_get.2 fun j j0 j5 => ?_, fun j j0 j5 => ?_⟩
  · rw [set_get_ite x s (by omega) (by omega) j0 j5]
    split
    · exact h1
    · exact get_spans h.some j
  · rw [set_get_ite x s (by omega) (by omega) j0 j5]
    have := h.sub j j0 j5
    split
    · rename_i e; subst e; omega
    · exact this
theorem PartOk.small {b x : Box} (h : PartOk b x) (hb : smallB b) : smallB x := by
  have key : ∀ i : Int, 0 ≤ i → i < 5 → Co.small (x.get i) := fun i i0 i5 => by
    have h1 := get_small hb i
    have h2 := h.sub i i0 i5
    have h3 := get_spans h.some i
    unfold Co.small at *
    omega
  exact ⟨key 0 (by omega) (by omega), key 1 (by omega) (by omega), key 2 (by omega) (by omega), key 3 (by omega) (by omega), key 4 (by omega) (by omega)⟩
theorem small_ok {b : Box} (h : smallB b) (he : b.empty = false) : okB b := by
  have key : ∀ i : Int, 0 ≤ i → i < 5 → okS64 (b.get i) := fun i i0 i5 => by
    have h1 := get_small h i
    have h2 := get_spans he i
    unfold Co.small at h1
    unfold okS64 ok64
    omega
  exact ⟨key 0 (by omega) (by omega), key 1 (by omega) (by omega), key 2 (by omega) (by omega), key 3 (by omega) (by omega), key 4 (by omega) (by omega)⟩
end Go.Co
