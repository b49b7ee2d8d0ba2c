/- CO: what breaks in a cell breaks at its corner; parts of a region. -/
import Derived.Test.YtbjnmbbhlaghaaaCoHo
import Derived.Test.YtbjnmbbhlaghaaaCoLev
namespace Go.Co
open Go.Am Go.Proofs
set_option linter.unusedSimpArgs false
set_option linter.unusedVariables false
attribute [-simp] Go.Am.eff_gcall
instance {α : Type} [Row α] [Sh α] : Sh (List α) where
  ss := [.sl (Sh.ss α)]
  good l := (∀ a ∈ l, Sh.good a) ∧ l.length ≤ maxLen
  len := rfl
  read xs h := by
    obtain ⟨x0, xs, rfl, h0, h⟩ := okR_cons h
    obtain rfl := okR_nil h
    obtain ⟨l, rfl, hg, hl⟩ := okS_list h0
    exact ⟨l, rfl, hg, hl⟩
def c87_0 : ACode := .ops [⟨some 3, .box (.t 0) 10, none, []⟩,
  ⟨some 4, .box (.t 1) 4, none, []⟩,
  ⟨some 6, .mv (.c (.bool false)), none, []⟩] [2, 3, 4]
theorem r87_0 : type_of% (@rr _ _ c87_0.eq_1) := rr c87_0.eq_1
def c87_1 : ACode := .ops [⟨some 9, .load 4 true (.t 4), none, [4]⟩,
  ⟨some 10, .mv (.c (.int .i64 0)), none, []⟩] [2, 3, 9, 10]
theorem r87_1 : type_of% (@rr _ _ c87_1.eq_1) := rr c87_1.eq_1
def c87_2 : ACode := .ops [⟨some 11, .bin .lss (.t 10) (.c (.int .i64 4)), none, []⟩] [2, 3, 9, 10, 11]
theorem r87_2 : type_of% (@rr _ _ c87_2.eq_1) := rr c87_2.eq_1
def c87_3 : ACode := .cond (.t 11) .skip (.exit 0)
theorem r87_3 : type_of% (@rr _ _ c87_3.eq_1) := rr c87_3.eq_1
def c87_4 : ACode := .ops [⟨some 12, .mv (.t 10), none, []⟩,
  ⟨some 13, .idx (.t 9) (.t 10) 1 4 false, none, []⟩,
  ⟨some 7, .mv (.t 12), none, []⟩,
  ⟨some 8, .mv (.t 13), none, []⟩] [2, 3, 7, 8, 9, 10]
theorem r87_4 : type_of% (@rr _ _ c87_4.eq_1) := rr c87_4.eq_1
def c87_5 : ACode := .ops [⟨some 14, .mv (.t 7), none, []⟩,
  ⟨some 15, .iad (.t 3) (.t 14) 2 5, none, [3]⟩,
  ⟨some 16, .load 2 true (.t 15), none, [3]⟩,
  ⟨some 17, .mv (.t 8), none, []⟩,
  ⟨some 18, .call 117 [.t 16, .t 17], none, []⟩,
  ⟨some 19, .un .not (.t 18), none, []⟩] [2, 3, 9, 10, 19]
theorem r87_5 : type_of% (@rr _ _ c87_5.eq_1) := rr c87_5.eq_1
def c87_6 : ACode := .ops [⟨some 6, .mv (.c (.bool false)), none, []⟩] [6]
theorem r87_6 : type_of% (@rr _ _ c87_6.eq_1) := rr c87_6.eq_1
def c87_7 : ACode := .seq c87_6 .ret
theorem r87_7 : type_of% (@rr _ _ c87_7.eq_1) := rr c87_7.eq_1
def c87_8 : ACode := .cond (.t 19) c87_7 .skip
theorem r87_8 : type_of% (@rr _ _ c87_8.eq_1) := rr c87_8.eq_1
def c87_9 : ACode := .seq c87_5 c87_8
theorem r87_9 : type_of% (@rr _ _ c87_9.eq_1) := rr c87_9.eq_1
def c87_10 : ACode := .seq c87_4 c87_9
theorem r87_10 : type_of% (@rr _ _ c87_10.eq_1) := rr c87_10.eq_1
def c87_11 : ACode := .block 1 c87_10
theorem r87_11 : type_of% (@rr _ _ c87_11.eq_1) := rr c87_11.eq_1
def c87_12 : ACode := .ops [⟨some 20, .bin .add (.t 10) (.c (.int .i64 1)), none, []⟩,
  ⟨some 10, .mv (.t 20), none, []⟩] [2, 3, 9, 10]
theorem r87_12 : type_of% (@rr _ _ c87_12.eq_1) := rr c87_12.eq_1
def c87_13 : ACode := .seq c87_11 c87_12
theorem r87_13 : type_of% (@rr _ _ c87_13.eq_1) := rr c87_13.eq_1
def c87_14 : ACode := .seq c87_3 c87_13
theorem r87_14 : type_of% (@rr _ _ c87_14.eq_1) := rr c87_14.eq_1
def c87_15 : ACode := .seq c87_2 c87_14
theorem r87_15 : type_of% (@rr _ _ c87_15.eq_1) := rr c87_15.eq_1
def c87_16 : ACode := .keep [2, 3, 9, 10] [3] c87_15
theorem r87_16 : type_of% (@rr _ _ c87_16.eq_1) := rr c87_16.eq_1
def c87_17 : ACode := .loop c87_16
theorem r87_17 : type_of% (@rr _ _ c87_17.eq_1) := rr c87_17.eq_1
def c87_18 : ACode := .block 0 c87_17
theorem r87_18 : type_of% (@rr _ _ c87_18.eq_1) := rr c87_18.eq_1
def c87_19 : ACode := .seq c87_1 c87_18
theorem r87_19 : type_of% (@rr _ _ c87_19.eq_1) := rr c87_19.eq_1
def c87_20 : ACode := .ops [⟨some 21, .iad (.t 3) (.c (.int .i64 4)) 2 5, none, [3]⟩,
  ⟨some 22, .load 2 true (.t 21), none, [3]⟩,
  ⟨some 23, .mv (.t 2), none, []⟩,
  ⟨some 24, .call 117 [.t 22, .t 23], none, []⟩,
  ⟨some 6, .mv (.t 24), none, []⟩] [6]
theorem r87_20 : type_of% (@rr _ _ c87_20.eq_1) := rr c87_20.eq_1
def c87_21 : ACode := .seq c87_20 .ret
theorem r87_21 : type_of% (@rr _ _ c87_21.eq_1) := rr c87_21.eq_1
def c87_22 : ACode := .seq c87_19 c87_21
theorem r87_22 : type_of% (@rr _ _ c87_22.eq_1) := rr c87_22.eq_1
def c87_23 : ACode := .seq c87_0 c87_22
theorem r87_23 : type_of% (@rr _ _ c87_23.eq_1) := rr c87_23.eq_1
def a87 : AFun := ⟨3, 25, c87_23, [.t 6]⟩
attribute [simp] r87_0 r87_1 r87_2 r87_3 r87_4 r87_5 r87_6 r87_7 r87_8 r87_9 r87_10 r87_11 r87_12 r87_13 r87_14 r87_15 r87_16 r87_17 r87_18 r87_19 r87_20 r87_21 r87_22 r87_23
theorem m87 : mFun Try.prog Try.f87 a87 = true := by decide +kernel
def c155_0 : ACode := .ops [⟨some 2, .box (.t 0) 2, none, []⟩,
  ⟨some 3, .box (.t 1) 2, none, []⟩,
  ⟨some 4, .mv (.c (.bool false)), none, []⟩] [2, 3]
theorem r155_0 : type_of% (@rr _ _ c155_0.eq_1) := rr c155_0.eq_1
def c155_1 : ACode := .ops [⟨some 5, .load 2 true (.t 2), none, [2]⟩,
  ⟨some 6, .call 121 [.t 5], none, []⟩,
  ⟨some 7, .mv (.t 6), none, []⟩,
  ⟨some 8, .fad (.t 3) 0, some (7, false), [3]⟩,
  ⟨some 9, .load 1 false (.t 8), some (7, false), [3]⟩,
  ⟨some 10, .fad (.t 2) 0, some (7, false), [2]⟩,
  ⟨some 11, .load 1 false (.t 10), some (7, false), [2]⟩,
  ⟨some 12, .bin .leq (.t 9) (.t 11), some (7, false), []⟩,
  ⟨some 13, .mv (.t 12), some (7, false), []⟩,
  ⟨some 14, .fad (.t 2) 1, some (13, true), [2]⟩,
  ⟨some 15, .load 1 false (.t 14), some (13, true), [2]⟩,
  ⟨some 16, .fad (.t 3) 1, some (13, true), [3]⟩,
  ⟨some 17, .load 1 false (.t 16), some (13, true), [3]⟩,
  ⟨some 18, .bin .leq (.t 15) (.t 17), some (13, true), []⟩,
  ⟨some 19, .pick (.t 13) (.t 18) (.c (.bool false)), some (7, false), []⟩,
  ⟨some 20, .pick (.t 7) (.c (.bool true)) (.t 19), none, []⟩,
  ⟨some 4, .mv (.t 20), none, []⟩] [4]
theorem r155_1 : type_of% (@rr _ _ c155_1.eq_1) := rr c155_1.eq_1
def c155_2 : ACode := .seq c155_1 .ret
theorem r155_2 : type_of% (@rr _ _ c155_2.eq_1) := rr c155_2.eq_1
def c155_3 : ACode := .seq c155_0 c155_2
theorem r155_3 : type_of% (@rr _ _ c155_3.eq_1) := rr c155_3.eq_1
def a155 : AFun := ⟨2, 21, c155_3, [.t 4]⟩
attribute [simp] r155_0 r155_1 r155_2 r155_3
theorem m155 : mFun Try.prog Try.f155 a155 = true := by decide +kernel
def c107_0 : ACode := .ops [⟨some 2, .box (.t 0) 10, none, []⟩,
  ⟨some 3, .box (.t 1) 10, none, []⟩,
  ⟨some 4, .mv (.c (.bool false)), none, []⟩] [2, 3]
theorem r107_0 : type_of% (@rr _ _ c107_0.eq_1) := rr c107_0.eq_1
def c107_1 : ACode := .ops [⟨some 6, .load 10 true (.t 2), none, [2]⟩,
  ⟨some 7, .call 68 [.t 6], none, []⟩] [2, 3, 7]
theorem r107_1 : type_of% (@rr _ _ c107_1.eq_1) := rr c107_1.eq_1
def c107_2 : ACode := .ops [⟨some 4, .mv (.c (.bool true)), none, []⟩] [4]
theorem r107_2 : type_of% (@rr _ _ c107_2.eq_1) := rr c107_2.eq_1
def c107_3 : ACode := .seq c107_2 .ret
theorem r107_3 : type_of% (@rr _ _ c107_3.eq_1) := rr c107_3.eq_1
def c107_4 : ACode := .cond (.t 7) c107_3 .skip
theorem r107_4 : type_of% (@rr _ _ c107_4.eq_1) := rr c107_4.eq_1
def c107_5 : ACode := .seq c107_1 c107_4
theorem r107_5 : type_of% (@rr _ _ c107_5.eq_1) := rr c107_5.eq_1
def c107_6 : ACode := .ops [⟨some 8, .mv (.c (.int .i64 0)), none, []⟩] [2, 3, 8]
theorem r107_6 : type_of% (@rr _ _ c107_6.eq_1) := rr c107_6.eq_1
def c107_7 : ACode := .ops [⟨some 9, .bin .lss (.t 8) (.c (.int .i64 5)), none, []⟩] [2, 3, 8, 9]
theorem r107_7 : type_of% (@rr _ _ c107_7.eq_1) := rr c107_7.eq_1
def c107_8 : ACode := .cond (.t 9) .skip (.exit 0)
theorem r107_8 : type_of% (@rr _ _ c107_8.eq_1) := rr c107_8.eq_1
def c107_9 : ACode := .ops [⟨some 10, .mv (.t 8), none, []⟩,
  ⟨some 5, .mv (.t 10), none, []⟩] [2, 3, 5, 8]
theorem r107_9 : type_of% (@rr _ _ c107_9.eq_1) := rr c107_9.eq_1
def c107_10 : ACode := .ops [⟨some 11, .mv (.t 5), none, []⟩,
  ⟨some 12, .iad (.t 2) (.t 11) 2 5, none, [2]⟩,
  ⟨some 13, .load 2 true (.t 12), none, [2]⟩,
  ⟨some 14, .mv (.t 5), none, []⟩,
  ⟨some 15, .iad (.t 3) (.t 14) 2 5, none, [3]⟩,
  ⟨some 16, .load 2 true (.t 15), none, [3]⟩,
  ⟨some 17, .call 155 [.t 13, .t 16], none, []⟩,
  ⟨some 18, .un .not (.t 17), none, []⟩] [2, 3, 8, 18]
theorem r107_10 : type_of% (@rr _ _ c107_10.eq_1) := rr c107_10.eq_1
def c107_11 : ACode := .ops [⟨some 4, .mv (.c (.bool false)), none, []⟩] [4]
theorem r107_11 : type_of% (@rr _ _ c107_11.eq_1) := rr c107_11.eq_1
def c107_12 : ACode := .seq c107_11 .ret
theorem r107_12 : type_of% (@rr _ _ c107_12.eq_1) := rr c107_12.eq_1
def c107_13 : ACode := .cond (.t 18) c107_12 .skip
theorem r107_13 : type_of% (@rr _ _ c107_13.eq_1) := rr c107_13.eq_1
def c107_14 : ACode := .seq c107_10 c107_13
theorem r107_14 : type_of% (@rr _ _ c107_14.eq_1) := rr c107_14.eq_1
def c107_15 : ACode := .seq c107_9 c107_14
theorem r107_15 : type_of% (@rr _ _ c107_15.eq_1) := rr c107_15.eq_1
def c107_16 : ACode := .block 1 c107_15
theorem r107_16 : type_of% (@rr _ _ c107_16.eq_1) := rr c107_16.eq_1
def c107_17 : ACode := .ops [⟨some 19, .bin .add (.t 8) (.c (.int .i64 1)), none, []⟩,
  ⟨some 8, .mv (.t 19), none, []⟩] [2, 3, 8]
theorem r107_17 : type_of% (@rr _ _ c107_17.eq_1) := rr c107_17.eq_1
def c107_18 : ACode := .seq c107_16 c107_17
theorem r107_18 : type_of% (@rr _ _ c107_18.eq_1) := rr c107_18.eq_1
def c107_19 : ACode := .seq c107_8 c107_18
theorem r107_19 : type_of% (@rr _ _ c107_19.eq_1) := rr c107_19.eq_1
def c107_20 : ACode := .seq c107_7 c107_19
theorem r107_20 : type_of% (@rr _ _ c107_20.eq_1) := rr c107_20.eq_1
def c107_21 : ACode := .keep [2, 3, 8] [2, 3] c107_20
theorem r107_21 : type_of% (@rr _ _ c107_21.eq_1) := rr c107_21.eq_1
def c107_22 : ACode := .loop c107_21
theorem r107_22 : type_of% (@rr _ _ c107_22.eq_1) := rr c107_22.eq_1
def c107_23 : ACode := .block 0 c107_22
theorem r107_23 : type_of% (@rr _ _ c107_23.eq_1) := rr c107_23.eq_1
def c107_24 : ACode := .seq c107_6 c107_23
theorem r107_24 : type_of% (@rr _ _ c107_24.eq_1) := rr c107_24.eq_1
def c107_25 : ACode := .ops [⟨some 4, .mv (.c (.bool true)), none, []⟩] [4]
theorem r107_25 : type_of% (@rr _ _ c107_25.eq_1) := rr c107_25.eq_1
def c107_26 : ACode := .seq c107_25 .ret
theorem r107_26 : type_of% (@rr _ _ c107_26.eq_1) := rr c107_26.eq_1
def c107_27 : ACode := .seq c107_24 c107_26
theorem r107_27 : type_of% (@rr _ _ c107_27.eq_1) := rr c107_27.eq_1
def c107_28 : ACode := .seq c107_5 c107_27
theorem r107_28 : type_of% (@rr _ _ c107_28.eq_1) := rr c107_28.eq_1
def c107_29 : ACode := .seq c107_0 c107_28
theorem r107_29 : type_of% (@rr _ _ c107_29.eq_1) := rr c107_29.eq_1
def a107 : AFun := ⟨2, 20, c107_29, [.t 4]⟩
attribute [simp] r107_0 r107_1 r107_2 r107_3 r107_4 r107_5 r107_6 r107_7 r107_8 r107_9 r107_10 r107_11 r107_12 r107_13 r107_14 r107_15 r107_16 r107_17 r107_18 r107_19 r107_20 r107_21 r107_22 r107_23 r107_24 r107_25 r107_26 r107_27 r107_28 r107_29
theorem m107 : mFun Try.prog Try.f107 a107 = true := by decide +kernel
/-! ### has, within -/
def hasB (b : Box) (p : Point) (t : Int) : Bool := b.s0.has p.p0 && b.s1.has p.p1 && b.s2.has p.p2 && b.s3.has p.p3 && b.s4.has t
theorem hasB_iff {b : Box} {p : Point} {t : Int} : hasB b p t = true ↔ InB b p t := by
  unfold hasB Span.has InB InS
  simp only [Bool.and_eq_true, decide_eq_true_eq]
  constructor
  · rintro ⟨⟨⟨⟨h0, h1⟩, h2⟩, h3⟩, h4⟩; exact ⟨h0, h1, h2, h3, h4⟩
  · rintro ⟨h0, h1, h2, h3, h4⟩; exact ⟨⟨⟨⟨h0, h1⟩, h2⟩, h3⟩, h4⟩
set_option maxRecDepth 100000 in
theorem runs_Has (b : Box) (p : Point) (t : Int) (c : Bool) (h : some (hasB b p t) = some c) : Runs (tbl [(117, sp2 fun (s : Span) n => some (s.has n))]) a87 [Arg.enc b, Arg.enc p, Arg.enc t] (Arg.enc c) := by
  cases h
  refine ⟨rfl, fun g => run_def ?_⟩
  unfold a87
  cases h0 : b.s0.has p.p0
  case false => simp -implicitDefEqProofs [hasB, run_round, h0]
  cases h1 : b.s1.has p.p1
  case false => simp -implicitDefEqProofs [hasB, run_round, h0, h1]
  cases h2 : b.s2.has p.p2
  case false => simp -implicitDefEqProofs [hasB, run_round, h0, h1, h2]
  cases h3 : b.s3.has p.p3
  case false => simp -implicitDefEqProofs [hasB, run_round, h0, h1, h2, h3]
  simp -implicitDefEqProofs [hasB, run_round, h0, h1, h2, h3]
theorem c_Has : Contract Try.prog 87 (sp3 fun b p t => some (hasB b p t)) :=
  contract_of_runs mixed (tbl_cons c_sHas tbl_nil) Try.func87 m87 (sp3_runs runs_Has)
def sWithin (a b : Span) : Bool := a.empty || (decide (b.lo ≤ a.lo) && decide (a.hi ≤ b.hi))
theorem runs_sWithin (a b : Span) (c : Bool) (h : some (sWithin a b) = some c) : Runs (tbl [(121, sp1 fun (s : Span) => some s.empty)]) a155 [Arg.enc a, Arg.enc b] (Arg.enc c) := by
  cases h
  refine ⟨rfl, fun g => run_def ?_⟩
  unfold a155 sWithin
  cases h0 : a.empty
  case true => simp -implicitDefEqProofs [h0]
  by_cases h1 : b.lo ≤ a.lo
  · simp -implicitDefEqProofs [h0, h1]
  · simp -implicitDefEqProofs [h0, h1]
theorem c_sWithin : Contract Try.prog 155 (sp2 fun a b => some (sWithin a b)) :=
  contract_of_runs mixed (tbl_cons c_sEmpty tbl_nil) Try.func155 m155 (sp2_runs runs_sWithin)
def bWithin (a b : Box) : Bool := a.empty || (sWithin a.s0 b.s0 && sWithin a.s1 b.s1 && sWithin a.s2 b.s2 && sWithin a.s3 b.s3 && sWithin a.s4 b.s4)
set_option maxRecDepth 100000 in
theorem runs_bWithin (a b : Box) (c : Bool) (h : some (bWithin a b) = some c) : Runs (tbl [(68, sp1 fun (b : Box) => some b.empty), (155, sp2 fun a b => some (sWithin a b))]) a107 [Arg.enc a, Arg.enc b] (Arg.enc c) := by
  cases h
  refine ⟨rfl, fun g => run_def ?_⟩
  unfold a107 bWithin
  cases he : a.empty
  case true => simp -implicitDefEqProofs [he]
  cases h0 : sWithin a.s0 b.s0
  case false => simp -implicitDefEqProofs [he, run_round, h0]
  cases h1 : sWithin a.s1 b.s1
  case false => simp -implicitDefEqProofs [he, run_round, h0, h1]
  cases h2 : sWithin a.s2 b.s2
  case false => simp -implicitDefEqProofs [he, run_round, h0, h1, h2]
  cases h3 : sWithin a.s3 b.s3
  case false => simp -implicitDefEqProofs [he, run_round, h0, h1, h2, h3]
  cases h4 : sWithin a.s4 b.s4 <;> simp -implicitDefEqProofs [he, run_round, h0, h1, h2, h3, h4]
theorem c_bWithin : Contract Try.prog 107 (sp2 fun a b => some (bWithin a b)) :=
  contract_of_runs mixed (tbl_cons c_bEmpty (tbl_cons c_sWithin tbl_nil)) Try.func107 m107 (sp2_runs runs_bWithin)
theorem bWithin_of {a b : Box} (h : ∀ i : Int, 0 ≤ i → i < 5 → (b.get i).lo ≤ (a.get i).lo ∧ (a.get i).hi ≤ (b.get i).hi) : bWithin a b = true := by
  have h0 := h 0 (by omega) (by omega)
  have h1 := h 1 (by omega) (by omega)
  have h2 := h 2 (by omega) (by omega)
  have h3 := h 3 (by omega) (by omega)
  have h4 := h 4 (by omega) (by omega)
  simp only [Box.get, Int.reduceEq, if_true, if_false] at h0 h1 h2 h3 h4
  unfold bWithin sWithin
  simp [h0, h1, h2, h3, h4]
end Go.Co
