/- CO: what breaks a query. -/
import Derived.Test.YtcjflbmpfmibbaaCoJ
namespace Go.Co
open Go.Am Go.Proofs
set_option linter.unusedSimpArgs false
set_option linter.unusedVariables false
def c57_0 : ACode := .ops [⟨some 4, .box (.t 0) 6, none, []⟩,
  ⟨some 5, .box (.t 1) 17, none, []⟩,
  ⟨some 6, .box (.t 2) 4, none, []⟩,
  ⟨some 8, .mv (.c (.bool false)), none, []⟩] [3, 4, 5, 6]
theorem r57_0 : type_of% (@rr _ _ c57_0.eq_1) := rr c57_0.eq_1
def c57_1 : ACode := .ops [⟨some 12, .load 6 true (.t 4), none, [4]⟩,
  ⟨some 13, .load 17 true (.t 5), none, [5]⟩,
  ⟨some 14, .call 89 [.t 12, .t 13], none, []⟩,
  ⟨some 15, .un .not (.t 14), none, []⟩] [3, 4, 5, 6, 15]
theorem r57_1 : type_of% (@rr _ _ c57_1.eq_1) := rr c57_1.eq_1
def c57_2 : ACode := .ops [⟨some 8, .mv (.c (.bool false)), none, []⟩] [8]
theorem r57_2 : type_of% (@rr _ _ c57_2.eq_1) := rr c57_2.eq_1
def c57_3 : ACode := .seq c57_2 .ret
theorem r57_3 : type_of% (@rr _ _ c57_3.eq_1) := rr c57_3.eq_1
def c57_4 : ACode := .cond (.t 15) c57_3 .skip
theorem r57_4 : type_of% (@rr _ _ c57_4.eq_1) := rr c57_4.eq_1
def c57_5 : ACode := .seq c57_1 c57_4
theorem r57_5 : type_of% (@rr _ _ c57_5.eq_1) := rr c57_5.eq_1
def c57_6 : ACode := .ops [⟨some 16, .load 6 true (.t 4), none, [4]⟩,
  ⟨some 17, .fad (.t 5) 1, none, [5]⟩,
  ⟨some 18, .load 1 false (.t 17), none, [5]⟩,
  ⟨some 19, .load 4 true (.t 6), none, [6]⟩,
  ⟨some 20, .call 28 [.t 16, .t 18, .t 19], none, []⟩,
  ⟨some 9, .mv (.t 20), none, []⟩] [3, 4, 5, 6, 9]
theorem r57_6 : type_of% (@rr _ _ c57_6.eq_1) := rr c57_6.eq_1
def c57_7 : ACode := .ops [⟨some 21, .fad (.t 5) 0, none, [5]⟩,
  ⟨some 22, .load 1 false (.t 21), none, [5]⟩] [3, 4, 5, 6, 9, 22]
theorem r57_7 : type_of% (@rr _ _ c57_7.eq_1) := rr c57_7.eq_1
def c57_8 : ACode := .ops [⟨some 24, .bin .eql (.t 22) (.c (.int .i64 1)), none, []⟩,
  ⟨some 23, .mv (.t 24), none, []⟩] [3, 4, 5, 6, 9, 22, 23]
theorem r57_8 : type_of% (@rr _ _ c57_8.eq_1) := rr c57_8.eq_1
def c57_9 : ACode := .ops [⟨some 25, .fad (.t 5) 12, none, [5]⟩,
  ⟨some 26, .load 1 false (.t 25), none, [5]⟩,
  ⟨some 27, .fad (.t 5) 13, none, [5]⟩,
  ⟨some 28, .load 1 false (.t 27), none, [5]⟩,
  ⟨some 29, .build [.int .i64 0, .int .i64 0] [(0, 1, .t 26), (1, 1, .t 28)], none, []⟩,
  ⟨some 30, .mv (.t 9), none, []⟩,
  ⟨some 31, .call 108 [.t 29, .t 30], none, []⟩,
  ⟨some 32, .un .not (.t 31), none, []⟩,
  ⟨some 8, .mv (.t 32), none, []⟩] [8]
theorem r57_9 : type_of% (@rr _ _ c57_9.eq_1) := rr c57_9.eq_1
def c57_10 : ACode := .seq c57_9 .ret
theorem r57_10 : type_of% (@rr _ _ c57_10.eq_1) := rr c57_10.eq_1
def c57_11 : ACode := .ops [⟨some 34, .bin .eql (.t 22) (.c (.int .i64 2)), none, []⟩,
  ⟨some 33, .mv (.t 34), none, []⟩] [3, 4, 5, 6, 9, 33]
theorem r57_11 : type_of% (@rr _ _ c57_11.eq_1) := rr c57_11.eq_1
def c57_12 : ACode := .ops [⟨some 35, .fad (.t 4) 1, none, [4]⟩,
  ⟨some 36, .load 1 false (.t 35), none, [4]⟩,
  ⟨some 37, .mv (.c (.int .i64 0)), none, []⟩] [4, 5, 6, 9, 36, 37]
theorem r57_12 : type_of% (@rr _ _ c57_12.eq_1) := rr c57_12.eq_1
def c57_13 : ACode := .ops [⟨some 38, .bin .lss (.t 37) (.t 36), none, []⟩] [4, 5, 6, 9, 36, 37, 38]
theorem r57_13 : type_of% (@rr _ _ c57_13.eq_1) := rr c57_13.eq_1
def c57_14 : ACode := .cond (.t 38) .skip (.exit 1)
theorem r57_14 : type_of% (@rr _ _ c57_14.eq_1) := rr c57_14.eq_1
def c57_15 : ACode := .ops [⟨some 39, .mv (.t 37), none, []⟩,
  ⟨some 10, .mv (.t 39), none, []⟩] [4, 5, 6, 9, 10, 36, 37]
theorem r57_15 : type_of% (@rr _ _ c57_15.eq_1) := rr c57_15.eq_1
def c57_16 : ACode := .ops [⟨some 40, .mv (.t 10), none, []⟩,
  ⟨some 41, .fad (.t 5) 1, none, [5]⟩,
  ⟨some 42, .load 1 false (.t 41), none, [5]⟩,
  ⟨some 43, .bin .neq (.t 40) (.t 42), none, []⟩,
  ⟨some 44, .mv (.t 43), none, []⟩,
  ⟨some 45, .load 6 true (.t 4), some (44, true), [4]⟩,
  ⟨some 46, .mv (.t 10), some (44, true), []⟩,
  ⟨some 47, .load 4 true (.t 6), some (44, true), [6]⟩,
  ⟨some 48, .call 28 [.t 45, .t 46, .t 47], some (44, true), []⟩,
  ⟨some 49, .mv (.t 9), some (44, true), []⟩,
  ⟨some 50, .bin .geq (.t 48) (.t 49), some (44, true), []⟩,
  ⟨some 51, .pick (.t 44) (.t 50) (.c (.bool false)), none, []⟩] [4, 5, 6, 9, 36, 37, 51]
theorem r57_16 : type_of% (@rr _ _ c57_16.eq_1) := rr c57_16.eq_1
def c57_17 : ACode := .ops [⟨some 8, .mv (.c (.bool true)), none, []⟩] [8]
theorem r57_17 : type_of% (@rr _ _ c57_17.eq_1) := rr c57_17.eq_1
def c57_18 : ACode := .seq c57_17 .ret
theorem r57_18 : type_of% (@rr _ _ c57_18.eq_1) := rr c57_18.eq_1
def c57_19 : ACode := .cond (.t 51) c57_18 .skip
theorem r57_19 : type_of% (@rr _ _ c57_19.eq_1) := rr c57_19.eq_1
def c57_20 : ACode := .seq c57_16 c57_19
theorem r57_20 : type_of% (@rr _ _ c57_20.eq_1) := rr c57_20.eq_1
def c57_21 : ACode := .seq c57_15 c57_20
theorem r57_21 : type_of% (@rr _ _ c57_21.eq_1) := rr c57_21.eq_1
def c57_22 : ACode := .block 2 c57_21
theorem r57_22 : type_of% (@rr _ _ c57_22.eq_1) := rr c57_22.eq_1
def c57_23 : ACode := .ops [⟨some 52, .bin .add (.t 37) (.c (.int .i64 1)), none, []⟩,
  ⟨some 37, .mv (.t 52), none, []⟩] [4, 5, 6, 9, 36, 37]
theorem r57_23 : type_of% (@rr _ _ c57_23.eq_1) := rr c57_23.eq_1
def c57_24 : ACode := .seq c57_22 c57_23
theorem r57_24 : type_of% (@rr _ _ c57_24.eq_1) := rr c57_24.eq_1
def c57_25 : ACode := .seq c57_14 c57_24
theorem r57_25 : type_of% (@rr _ _ c57_25.eq_1) := rr c57_25.eq_1
def c57_26 : ACode := .seq c57_13 c57_25
theorem r57_26 : type_of% (@rr _ _ c57_26.eq_1) := rr c57_26.eq_1
def c57_27 : ACode := .keep [4, 5, 6, 9, 36, 37] [4, 5, 6] c57_26
theorem r57_27 : type_of% (@rr _ _ c57_27.eq_1) := rr c57_27.eq_1
def c57_28 : ACode := .loop c57_27
theorem r57_28 : type_of% (@rr _ _ c57_28.eq_1) := rr c57_28.eq_1
def c57_29 : ACode := .block 1 c57_28
theorem r57_29 : type_of% (@rr _ _ c57_29.eq_1) := rr c57_29.eq_1
def c57_30 : ACode := .seq c57_12 c57_29
theorem r57_30 : type_of% (@rr _ _ c57_30.eq_1) := rr c57_30.eq_1
def c57_31 : ACode := .ops [⟨some 8, .mv (.c (.bool false)), none, []⟩] [8]
theorem r57_31 : type_of% (@rr _ _ c57_31.eq_1) := rr c57_31.eq_1
def c57_32 : ACode := .seq c57_31 .ret
theorem r57_32 : type_of% (@rr _ _ c57_32.eq_1) := rr c57_32.eq_1
def c57_33 : ACode := .seq c57_30 c57_32
theorem r57_33 : type_of% (@rr _ _ c57_33.eq_1) := rr c57_33.eq_1
def c57_34 : ACode := .cond (.t 33) c57_33 .skip
theorem r57_34 : type_of% (@rr _ _ c57_34.eq_1) := rr c57_34.eq_1
def c57_35 : ACode := .seq c57_11 c57_34
theorem r57_35 : type_of% (@rr _ _ c57_35.eq_1) := rr c57_35.eq_1
def c57_36 : ACode := .cond (.t 23) c57_10 c57_35
theorem r57_36 : type_of% (@rr _ _ c57_36.eq_1) := rr c57_36.eq_1
def c57_37 : ACode := .seq c57_8 c57_36
theorem r57_37 : type_of% (@rr _ _ c57_37.eq_1) := rr c57_37.eq_1
def c57_38 : ACode := .block 0 c57_37
theorem r57_38 : type_of% (@rr _ _ c57_38.eq_1) := rr c57_38.eq_1
def c57_39 : ACode := .seq c57_7 c57_38
theorem r57_39 : type_of% (@rr _ _ c57_39.eq_1) := rr c57_39.eq_1
def c57_40 : ACode := .ops [⟨some 53, .fad (.t 5) 14, none, [5]⟩,
  ⟨some 54, .load 1 false (.t 53), none, [5]⟩,
  ⟨some 55, .iad (.t 6) (.t 54) 1 4, none, [6]⟩,
  ⟨some 56, .load 1 false (.t 55), none, [6]⟩,
  ⟨some 57, .mv (.t 3), none, []⟩,
  ⟨some 58, .bin .geq (.t 56) (.t 57), none, []⟩] [3, 4, 5, 6, 9, 58]
theorem r57_40 : type_of% (@rr _ _ c57_40.eq_1) := rr c57_40.eq_1
def c57_41 : ACode := .ops [⟨some 8, .mv (.c (.bool false)), none, []⟩] [8]
theorem r57_41 : type_of% (@rr _ _ c57_41.eq_1) := rr c57_41.eq_1
def c57_42 : ACode := .seq c57_41 .ret
theorem r57_42 : type_of% (@rr _ _ c57_42.eq_1) := rr c57_42.eq_1
def c57_43 : ACode := .cond (.t 58) c57_42 .skip
theorem r57_43 : type_of% (@rr _ _ c57_43.eq_1) := rr c57_43.eq_1
def c57_44 : ACode := .seq c57_40 c57_43
theorem r57_44 : type_of% (@rr _ _ c57_44.eq_1) := rr c57_44.eq_1
def c57_45 : ACode := .ops [⟨some 59, .load 6 true (.t 4), none, [4]⟩,
  ⟨some 60, .fad (.t 5) 1, none, [5]⟩,
  ⟨some 61, .load 1 false (.t 60), none, [5]⟩,
  ⟨some 62, .load 17 true (.t 5), none, [5]⟩,
  ⟨some 63, .load 4 true (.t 6), none, [6]⟩,
  ⟨some 64, .mv (.t 3), none, []⟩,
  ⟨some 65, .call 109 [.t 62, .t 63, .t 64], none, []⟩,
  ⟨some 66, .call 28 [.t 59, .t 61, .t 65], none, []⟩,
  ⟨some 11, .mv (.t 66), none, []⟩] [5, 9, 11]
theorem r57_45 : type_of% (@rr _ _ c57_45.eq_1) := rr c57_45.eq_1
def c57_46 : ACode := .ops [⟨some 67, .fad (.t 5) 15, none, [5]⟩,
  ⟨some 68, .load 1 false (.t 67), none, [5]⟩] [9, 11, 68]
theorem r57_46 : type_of% (@rr _ _ c57_46.eq_1) := rr c57_46.eq_1
def c57_47 : ACode := .ops [⟨some 69, .mv (.t 11), none, []⟩,
  ⟨some 70, .mv (.t 9), none, []⟩,
  ⟨some 71, .bin .gtr (.t 69) (.t 70), none, []⟩,
  ⟨some 8, .mv (.t 71), none, []⟩] [8]
theorem r57_47 : type_of% (@rr _ _ c57_47.eq_1) := rr c57_47.eq_1
def c57_48 : ACode := .seq c57_47 .ret
theorem r57_48 : type_of% (@rr _ _ c57_48.eq_1) := rr c57_48.eq_1
def c57_49 : ACode := .cond (.t 68) c57_48 .skip
theorem r57_49 : type_of% (@rr _ _ c57_49.eq_1) := rr c57_49.eq_1
def c57_50 : ACode := .seq c57_46 c57_49
theorem r57_50 : type_of% (@rr _ _ c57_50.eq_1) := rr c57_50.eq_1
def c57_51 : ACode := .ops [⟨some 72, .mv (.t 11), none, []⟩,
  ⟨some 73, .mv (.t 9), none, []⟩,
  ⟨some 74, .bin .lss (.t 72) (.t 73), none, []⟩,
  ⟨some 8, .mv (.t 74), none, []⟩] [8]
theorem r57_51 : type_of% (@rr _ _ c57_51.eq_1) := rr c57_51.eq_1
def c57_52 : ACode := .seq c57_51 .ret
theorem r57_52 : type_of% (@rr _ _ c57_52.eq_1) := rr c57_52.eq_1
def c57_53 : ACode := .seq c57_50 c57_52
theorem r57_53 : type_of% (@rr _ _ c57_53.eq_1) := rr c57_53.eq_1
def c57_54 : ACode := .seq c57_45 c57_53
theorem r57_54 : type_of% (@rr _ _ c57_54.eq_1) := rr c57_54.eq_1
def c57_55 : ACode := .seq c57_44 c57_54
theorem r57_55 : type_of% (@rr _ _ c57_55.eq_1) := rr c57_55.eq_1
def c57_56 : ACode := .seq c57_39 c57_55
theorem r57_56 : type_of% (@rr _ _ c57_56.eq_1) := rr c57_56.eq_1
def c57_57 : ACode := .seq c57_6 c57_56
theorem r57_57 : type_of% (@rr _ _ c57_57.eq_1) := rr c57_57.eq_1
def c57_58 : ACode := .seq c57_5 c57_57
theorem r57_58 : type_of% (@rr _ _ c57_58.eq_1) := rr c57_58.eq_1
def c57_59 : ACode := .seq c57_0 c57_58
theorem r57_59 : type_of% (@rr _ _ c57_59.eq_1) := rr c57_59.eq_1
def a57 : AFun := ⟨4, 75, c57_59, [.t 8]⟩
attribute [simp] r57_0 r57_1 r57_2 r57_3 r57_4 r57_5 r57_6 r57_7 r57_8 r57_9 r57_10 r57_11 r57_12 r57_13 r57_14 r57_15 r57_16 r57_17 r57_18 r57_19 r57_20 r57_21 r57_22 r57_23 r57_24 r57_25 r57_26 r57_27 r57_28 r57_29 r57_30 r57_31 r57_32 r57_33 r57_34 r57_35 r57_36 r57_37 r57_38 r57_39 r57_40 r57_41 r57_42 r57_43 r57_44 r57_45 r57_46 r57_47 r57_48 r57_49 r57_50 r57_51 r57_52 r57_53 r57_54 r57_55 r57_56 r57_57 r57_58 r57_59
theorem m57 : mFun Try.prog Try.f57 a57 = true := by decide +kernel
theorem okQuery_spec {m : Model} {q : Query} (h : okQuery m q = true) : 0 ≤ q.cls ∧ q.cls < m.classes ∧ 0 ≤ q.budget ∧ q.budget ≤ 65536 ∧ okRegion q.region m.dim = true ∧ okKind m q = true := by
  unfold okQuery at h
  simp only [Bool.and_eq_true, decide_eq_true_eq] at h
  exact ⟨h.1.1.1.1.1, h.1.1.1.1.2, h.1.1.1.2, h.1.1.2, h.1.2, h.2⟩
theorem okKind_spec {m : Model} {q : Query} (h : okKind m q = true) :
    (q.kind = 1 ∧ q.lo ≤ q.hi ∧ q.feature = 0 ∧ q.falls = false) ∨ (q.kind = 2 ∧ 2 ≤ m.classes ∧ q.lo = 0 ∧ q.hi = 0 ∧ q.feature = 0 ∧ q.falls = false) ∨ (q.kind = 3 ∧ 0 ≤ q.feature ∧ q.feature < m.dim ∧ q.lo = 0 ∧ q.hi = 0) := by
  unfold okKind at h
  split at h
  · simp only [Bool.and_eq_true, decide_eq_true_eq, Bool.not_eq_true'] at h
    exact .inl ⟨‹_›, h.1.1, h.1.2, h.2⟩
  · split at h
    · simp only [Bool.and_eq_true, decide_eq_true_eq, Bool.not_eq_true'] at h
      exact .inr (.inl ⟨‹_›, h.1.1.1.1, h.1.1.1.2, h.1.1.2, h.1.2, h.2⟩)
    · split at h
      · simp only [Bool.and_eq_true, decide_eq_true_eq] at h
        exact .inr (.inr ⟨‹_›, h.1.1.1, h.1.1.2, h.1.2, h.2⟩)
      · cases h
noncomputable def BreaksC (m : Model) (q : Query) (p : Point) (t : Int) : Option Bool := Part (RM m) (breaks m q p t)
set_option maxRecDepth 8000 in
theorem runs_Breaks (m : Model) (q : Query) (p : Point) (t : Int) (c : Bool) (h : BreaksC m q p t = some c) :
    Runs (tbl [(89, sp2 QRight), (28, sp3 Eval), (108, sp2 fun (s : Span) n => some (s.has n)), (109, sp3 fun q p t => some (secondOf q p t))]) a57 [Arg.enc m, Arg.enc q, Arg.enc p, Arg.enc t] (Arg.enc c) := by
  obtain ⟨hr, rfl⟩ := part_some h
  refine ⟨rfl, fun g => run_def ?_⟩
  unfold a57
  have hM : QRight m q = some (okQuery m q) := by unfold QRight; rw [if_neg (by have := hr.dim; omega)]; exact part_of hr _
  cases hq : okQuery m q
  case false => simp -implicitDefEqProofs [hM, hq, breaks]
  have hs := okQuery_spec hq
  have hE := eval_of hr hs.1 hs.2.1 p
  have hc3 := hr.classes
  have hks := okKind_spec hs.2.2.2.2.2
  obtain ⟨kind, cls, region, lo, hi, feature, falls, budget⟩ := q
  simp only at hE hks hs
  rcases hks with ⟨k, _⟩ | ⟨k, k2, _⟩ | ⟨k, f0, f1, _⟩
  · subst k
    simp -implicitDefEqProofs [hM, hq, breaks, hE]
  · subst k
    have e0 := eval_of hr (c := 0) (by omega) (by omega) p
    have e1 := eval_of hr (c := 1) (by omega) (by omega) p
    obtain ⟨dim, classes, bias, trees⟩ := m
    simp only at hE hc3 k2 hs
    have hcl : classes = 2 ∨ classes = 3 := by omega
    have hcs : cls = 0 ∨ cls = 1 ∨ cls = 2 := by omega
    have rg2 : List.range 2 = [0, 1] := rfl
    have rg3 : List.range 3 = [0, 1, 2] := rfl
    rcases hcl with rfl | rfl
    · have hcs : cls = 0 ∨ cls = 1 := by omega
      rcases hcs with rfl | rfl
      · by_cases g0 : evalM (⟨dim, 2, bias, trees⟩ : Model) 0 p ≤ evalM (⟨dim, 2, bias, trees⟩ : Model) 1 p <;> simp -implicitDefEqProofs [hM, hq, breaks, e0, e1, g0, run_round, beaten, rg2]
      · by_cases g0 : evalM (⟨dim, 2, bias, trees⟩ : Model) 1 p ≤ evalM (⟨dim, 2, bias, trees⟩ : Model) 0 p <;> simp -implicitDefEqProofs [hM, hq, breaks, e0, e1, g0, run_round, beaten, rg2]
    · have e2 := eval_of hr (c := 2) (by omega) (by simp) p
      rcases hcs with rfl | rfl | rfl
      · by_cases g0 : evalM (⟨dim, 3, bias, trees⟩ : Model) 0 p ≤ evalM (⟨dim, 3, bias, trees⟩ : Model) 1 p <;> by_cases g1 : evalM (⟨dim, 3, bias, trees⟩ : Model) 0 p ≤ evalM (⟨dim, 3, bias, trees⟩ : Model) 2 p <;> simp -implicitDefEqProofs [hM, hq, breaks, e0, e1, e2, g0, g1, run_round, beaten, rg3]
      · by_cases g0 : evalM (⟨dim, 3, bias, trees⟩ : Model) 1 p ≤ evalM (⟨dim, 3, bias, trees⟩ : Model) 0 p <;> by_cases g1 : evalM (⟨dim, 3, bias, trees⟩ : Model) 1 p ≤ evalM (⟨dim, 3, bias, trees⟩ : Model) 2 p <;> simp -implicitDefEqProofs [hM, hq, breaks, e0, e1, e2, g0, g1, run_round, beaten, rg3]
      · by_cases g0 : evalM (⟨dim, 3, bias, trees⟩ : Model) 2 p ≤ evalM (⟨dim, 3, bias, trees⟩ : Model) 0 p <;> by_cases g1 : evalM (⟨dim, 3, bias, trees⟩ : Model) 2 p ≤ evalM (⟨dim, 3, bias, trees⟩ : Model) 1 p <;> simp -implicitDefEqProofs [hM, hq, breaks, e0, e1, e2, g0, g1, run_round, beaten, rg3]
  · subst k
    have f2 : feature < 4 := by have := hr.dim; omega
    have hE2 := eval_of hr hs.1 hs.2.1 (secondOf ⟨3, cls, region, lo, hi, feature, falls, budget⟩ p t)
    by_cases g1 : t ≤ p.get feature
    · have g2 : ¬ p.get feature < t := by omega
      simp -implicitDefEqProofs [hM, hq, breaks, hE, f0, f2, g1, g2]
    · have g2 : p.get feature < t := by omega
      cases falls
      · simp -implicitDefEqProofs [hM, hq, breaks, hE, hE2, f0, f2, g1, g2]
      · simp -implicitDefEqProofs [hM, hq, breaks, hE, hE2, f0, f2, g1, g2]
theorem c_Breaks : Contract Try.prog 57 (sp4 BreaksC) :=
  contract_of_runs mixed (tbl_cons c_qRight (tbl_cons c_Eval (tbl_cons c_sHas (tbl_cons c_Second tbl_nil)))) Try.func57 m57 (sp4_runs runs_Breaks)
end Go.Co
