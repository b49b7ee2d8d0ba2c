/- CO: a point of a box, by numbers. -/
import Derived.Test.YtcjflbmpfmibbaaCoM
import Derived.Test.YtcjflbmpfmibbaaCoI
namespace Go.Co
open Go.Am Go.Proofs
set_option linter.unusedSimpArgs false
set_option linter.unusedVariables false
def c26_0 : ACode := .ops [⟨some 2, .box (.t 0) 10, none, []⟩,
  ⟨some 4, .alloc [.int .i64 0, .int .i64 0, .int .i64 0, .int .i64 0], none, []⟩] [1, 2, 4]
theorem r26_0 : type_of% (@rr _ _ c26_0.eq_1) := rr c26_0.eq_1
def c26_1 : ACode := .ops [⟨some 5, .alloc [.int .i64 0, .int .i64 0, .int .i64 0, .int .i64 0], none, []⟩] [1, 2, 4, 5]
theorem r26_1 : type_of% (@rr _ _ c26_1.eq_1) := rr c26_1.eq_1
def c26_2 : ACode := .ops [⟨some 7, .mv (.c (.int .i64 0)), none, []⟩] [1, 2, 4, 5, 7]
theorem r26_2 : type_of% (@rr _ _ c26_2.eq_1) := rr c26_2.eq_1
def c26_3 : ACode := .ops [⟨some 8, .bin .lss (.t 7) (.c (.int .i64 4)), none, []⟩] [1, 2, 4, 5, 7, 8]
theorem r26_3 : type_of% (@rr _ _ c26_3.eq_1) := rr c26_3.eq_1
def c26_4 : ACode := .cond (.t 8) .skip (.exit 0)
theorem r26_4 : type_of% (@rr _ _ c26_4.eq_1) := rr c26_4.eq_1
def c26_5 : ACode := .ops [⟨some 9, .mv (.t 7), none, []⟩,
  ⟨some 6, .mv (.t 9), none, []⟩] [1, 2, 4, 5, 6, 7]
theorem r26_5 : type_of% (@rr _ _ c26_5.eq_1) := rr c26_5.eq_1
def c26_6 : ACode := .ops [⟨some 10, .mv (.t 6), none, []⟩,
  ⟨some 11, .mv (.t 1), none, []⟩,
  ⟨some 12, .mv (.t 6), none, []⟩,
  ⟨some 13, .call 65 [.t 11, .t 12], none, []⟩,
  ⟨some 14, .mv (.t 6), none, []⟩,
  ⟨some 15, .iad (.t 2) (.t 14) 2 5, none, [2]⟩,
  ⟨some 16, .fad (.t 15) 0, none, [2]⟩,
  ⟨some 17, .load 1 false (.t 16), none, [2]⟩,
  ⟨some 18, .mv (.t 6), none, []⟩,
  ⟨some 19, .iad (.t 2) (.t 18) 2 5, none, [2]⟩,
  ⟨some 20, .fad (.t 19) 0, none, [2]⟩,
  ⟨some 21, .load 1 false (.t 20), none, [2]⟩,
  ⟨some 22, .mv (.t 6), none, []⟩,
  ⟨some 23, .iad (.t 2) (.t 22) 2 5, none, [2]⟩,
  ⟨some 24, .fad (.t 23) 1, none, [2]⟩,
  ⟨some 25, .load 1 false (.t 24), none, [2]⟩,
  ⟨some 26, .mnmx true (.t 21) (.t 25), none, []⟩,
  ⟨some 27, .call 24 [.t 13, .t 17, .t 26], none, []⟩,
  ⟨some 28, .iad (.t 5) (.t 10) 1 4, none, [5]⟩,
  ⟨none, .store (.t 28) 1 (.t 27), none, [5]⟩] [1, 2, 4, 5, 7]
theorem r26_6 : type_of% (@rr _ _ c26_6.eq_1) := rr c26_6.eq_1
def c26_7 : ACode := .seq c26_5 c26_6
theorem r26_7 : type_of% (@rr _ _ c26_7.eq_1) := rr c26_7.eq_1
def c26_8 : ACode := .block 1 c26_7
theorem r26_8 : type_of% (@rr _ _ c26_8.eq_1) := rr c26_8.eq_1
def c26_9 : ACode := .ops [⟨some 29, .bin .add (.t 7) (.c (.int .i64 1)), none, []⟩,
  ⟨some 7, .mv (.t 29), none, []⟩] [1, 2, 4, 5, 7]
theorem r26_9 : type_of% (@rr _ _ c26_9.eq_1) := rr c26_9.eq_1
def c26_10 : ACode := .seq c26_8 c26_9
theorem r26_10 : type_of% (@rr _ _ c26_10.eq_1) := rr c26_10.eq_1
def c26_11 : ACode := .seq c26_4 c26_10
theorem r26_11 : type_of% (@rr _ _ c26_11.eq_1) := rr c26_11.eq_1
def c26_12 : ACode := .seq c26_3 c26_11
theorem r26_12 : type_of% (@rr _ _ c26_12.eq_1) := rr c26_12.eq_1
def c26_13 : ACode := .keep [1, 2, 4, 5, 7] [2, 4, 5] c26_12
theorem r26_13 : type_of% (@rr _ _ c26_13.eq_1) := rr c26_13.eq_1
def c26_14 : ACode := .loop c26_13
theorem r26_14 : type_of% (@rr _ _ c26_14.eq_1) := rr c26_14.eq_1
def c26_15 : ACode := .block 0 c26_14
theorem r26_15 : type_of% (@rr _ _ c26_15.eq_1) := rr c26_15.eq_1
def c26_16 : ACode := .seq c26_2 c26_15
theorem r26_16 : type_of% (@rr _ _ c26_16.eq_1) := rr c26_16.eq_1
def c26_17 : ACode := .ops [⟨some 30, .load 4 true (.t 5), none, [5]⟩,
  ⟨none, .store (.t 4) 4 (.t 30), none, [4]⟩] [4]
theorem r26_17 : type_of% (@rr _ _ c26_17.eq_1) := rr c26_17.eq_1
def c26_18 : ACode := .seq c26_17 .ret
theorem r26_18 : type_of% (@rr _ _ c26_18.eq_1) := rr c26_18.eq_1
def c26_19 : ACode := .seq c26_16 c26_18
theorem r26_19 : type_of% (@rr _ _ c26_19.eq_1) := rr c26_19.eq_1
def c26_20 : ACode := .seq c26_1 c26_19
theorem r26_20 : type_of% (@rr _ _ c26_20.eq_1) := rr c26_20.eq_1
def c26_21 : ACode := .seq c26_0 c26_20
theorem r26_21 : type_of% (@rr _ _ c26_21.eq_1) := rr c26_21.eq_1
def a26 : AFun := ⟨2, 31, c26_21, [.cell 4 4 true]⟩
attribute [simp] r26_0 r26_1 r26_2 r26_3 r26_4 r26_5 r26_6 r26_7 r26_8 r26_9 r26_10 r26_11 r26_12 r26_13 r26_14 r26_15 r26_16 r26_17 r26_18 r26_19 r26_20 r26_21
theorem m26 : mFun Try.prog Try.f26 a26 = true := by decide +kernel
def small (s : Span) : Prop := -1125899906842624 ≤ s.lo ∧ s.lo ≤ 1125899906842624 ∧ s.hi ≤ 1125899906842624
def ins (s : Span) (l : List Int) (i : Nat) : Int := within (pick l i) s.lo (max2 s.lo s.hi)
def insideOf (b : Box) (l : List Int) : Point := ⟨ins b.s0 l 0, ins b.s1 l 1, ins b.s2 l 2, ins b.s3 l 3⟩
theorem ins_in {s : Span} (h : s.empty = false) (l : List Int) (i : Nat) : InS s (ins s l i) := by
  unfold Span.empty at h
  rw [decide_eq_false_iff_not] at h
  have hm := max2_le (a := s.lo) (b := s.hi)
  have := within_le (pick l i) s.lo (max2 s.lo s.hi) hm.1
  unfold InS ins
  omega
theorem empty_spec {b : Box} (h : b.empty = false) : b.s0.empty = false ∧ b.s1.empty = false ∧ b.s2.empty = false ∧ b.s3.empty = false ∧ b.s4.empty = false := by
  unfold Box.empty at h
  simp only [Bool.or_eq_false_iff] at h
  exact ⟨h.1.1.1.1, h.1.1.1.2, h.1.1.2, h.1.2, h.2⟩
theorem inside_in {b : Box} (h : b.empty = false) (l : List Int) : InB b (insideOf b l) b.s4.lo := by
  have := empty_spec h
  refine ⟨ins_in this.1 l 0, ins_in this.2.1 l 1, ins_in this.2.2.1 l 2, ins_in this.2.2.2.1 l 3, ?_⟩
  have h4 := this.2.2.2.2
  unfold Span.empty at h4
  rw [decide_eq_false_iff_not] at h4
  unfold InS
  omega
noncomputable def InsideC (b : Box) (l : List Int) : Option Point := Part (small b.s0 ∧ small b.s1 ∧ small b.s2 ∧ small b.s3) (insideOf b l)
set_option maxRecDepth 8000 in
set_option maxHeartbeats 1000000 in
theorem runs_Inside (b : Box) (l : List Int) (c : Point) (h : InsideC b l = some c) : Runs (tbl [(65, sp2 Pick), (24, sp3 Within)]) a26 [Arg.enc b, Arg.enc l] (Arg.enc c) := by
  obtain ⟨⟨h0, h1, h2, h3⟩, rfl⟩ := part_some h
  refine ⟨rfl, fun g => run_def ?_⟩
  unfold a26
  have p1 : Pick l 1 = some (pick l 1) := pick_of l 1
  have p2 : Pick l 2 = some (pick l 2) := pick_of l 2
  have p3 : Pick l 3 = some (pick l 3) := pick_of l 3
  have key : ∀ (s : Span) (i : Nat), small s → Within (pick l i) s.lo (if s.lo < s.hi then s.hi else s.lo) = some (ins s l i) := by
    intro s i hs
    unfold small at hs
    have := within_of (pick l i) s.lo (if s.lo < s.hi then s.hi else s.lo) (by split <;> omega)
    rw [this]
    rfl
  have v0 := key b.s0 0 h0
  have v1 := key b.s1 1 h1
  have v2 := key b.s2 2 h2
  have v3 := key b.s3 3 h3
  simp -implicitDefEqProofs [pick_0, p1, p2, p3, v0, v1, v2, v3, run_round, insideOf]
theorem c_Inside : Contract Try.prog 26 (sp2 InsideC) :=
  contract_of_runs mixed (tbl_cons c_pick (tbl_cons c_Within tbl_nil)) Try.func26 m26 (sp2_runs runs_Inside)
end Go.Co
