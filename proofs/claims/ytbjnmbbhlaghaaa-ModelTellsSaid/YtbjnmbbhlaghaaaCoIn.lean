/- CO: a point of a box, by numbers. -/
import Derived.Test.YtbjnmbbhlaghaaaCoM
import Derived.Test.YtbjnmbbhlaghaaaCoI
namespace Go.Co
open Go.Am Go.Proofs
set_option linter.unusedSimpArgs false
set_option linter.unusedVariables false

/- copse/copsekeep.Inside -/
def c66_0 : ACode := .ops [⟨some 2, .box (.t 0) 10, none, []⟩,
  ⟨some 4, .alloc [.int .i64 0, .int .i64 0, .int .i64 0, .int .i64 0], none, []⟩] [1, 2, 4]
theorem r66_0 {C : Cs} {k : List Fr} {s : St} {Q : Post} : run C c66_0 k s Q = run C (.ops [⟨some 2, .box (.t 0) 10, none, []⟩,
  ⟨some 4, .alloc [.int .i64 0, .int .i64 0, .int .i64 0, .int .i64 0], none, []⟩] [1, 2, 4]) k s Q := rfl
def c66_1 : ACode := .ops [⟨some 5, .alloc [.int .i64 0, .int .i64 0, .int .i64 0, .int .i64 0], none, []⟩] [1, 2, 4, 5]
theorem r66_1 {C : Cs} {k : List Fr} {s : St} {Q : Post} : run C c66_1 k s Q = run C (.ops [⟨some 5, .alloc [.int .i64 0, .int .i64 0, .int .i64 0, .int .i64 0], none, []⟩] [1, 2, 4, 5]) k s Q := rfl
def c66_2 : ACode := .ops [⟨some 7, .mv (.c (.int .i64 0)), none, []⟩] [1, 2, 4, 5, 7]
theorem r66_2 {C : Cs} {k : List Fr} {s : St} {Q : Post} : run C c66_2 k s Q = run C (.ops [⟨some 7, .mv (.c (.int .i64 0)), none, []⟩] [1, 2, 4, 5, 7]) k s Q := rfl
def c66_3 : ACode := .ops [⟨some 8, .bin .lss (.t 7) (.c (.int .i64 4)), none, []⟩] [1, 2, 4, 5, 7, 8]
theorem r66_3 {C : Cs} {k : List Fr} {s : St} {Q : Post} : run C c66_3 k s Q = run C (.ops [⟨some 8, .bin .lss (.t 7) (.c (.int .i64 4)), none, []⟩] [1, 2, 4, 5, 7, 8]) k s Q := rfl
def c66_4 : ACode := .cond (.t 8) .skip (.exit 0)
theorem r66_4 {C : Cs} {k : List Fr} {s : St} {Q : Post} : run C c66_4 k s Q = run C (.cond (.t 8) .skip (.exit 0)) k s Q := rfl
def c66_5 : ACode := .ops [⟨some 9, .mv (.t 7), none, []⟩,
  ⟨some 6, .mv (.t 9), none, []⟩] [1, 2, 4, 5, 6, 7]
theorem r66_5 {C : Cs} {k : List Fr} {s : St} {Q : Post} : run C c66_5 k s Q = run C (.ops [⟨some 9, .mv (.t 7), none, []⟩,
  ⟨some 6, .mv (.t 9), none, []⟩] [1, 2, 4, 5, 6, 7]) k s Q := rfl
def c66_6 : ACode := .ops [⟨some 10, .mv (.t 6), none, []⟩,
  ⟨some 11, .mv (.t 1), none, []⟩,
  ⟨some 12, .mv (.t 6), none, []⟩,
  ⟨some 13, .call 112 [.t 11, .t 12], none, []⟩,
  ⟨some 14, .mv (.t 6), none, []⟩,
  ⟨some 15, .iad (.t 2) (.t 14) 2 5, none, [2]⟩,
  ⟨some 16, .fad (.t 15) 0, none, [2]⟩,
  ⟨some 17, .load 1 false (.t 16), none, [2]⟩,
  ⟨some 18, .mv (.t 6), none, []⟩,
  ⟨some 19, .iad (.t 2) (.t 18) 2 5, none, [2]⟩,
  ⟨some 20, .fad (.t 19) 0, none, [2]⟩,
  ⟨some 21, .load 1 false (.t 20), none, [2]⟩,
  ⟨some 22, .mv (.t 6), none, []⟩,
  ⟨some 23, .iad (.t 2) (.t 22) 2 5, none, [2]⟩,
  ⟨some 24, .fad (.t 23) 1, none, [2]⟩,
  ⟨some 25, .load 1 false (.t 24), none, [2]⟩,
  ⟨some 26, .mnmx true (.t 21) (.t 25), none, []⟩,
  ⟨some 27, .call 63 [.t 13, .t 17, .t 26], none, []⟩,
  ⟨some 28, .iad (.t 5) (.t 10) 1 4, none, [5]⟩,
  ⟨none, .store (.t 28) 1 (.t 27), none, [5]⟩] [1, 2, 4, 5, 7]
theorem r66_6 {C : Cs} {k : List Fr} {s : St} {Q : Post} : run C c66_6 k s Q = run C (.ops [⟨some 10, .mv (.t 6), none, []⟩,
  ⟨some 11, .mv (.t 1), none, []⟩,
  ⟨some 12, .mv (.t 6), none, []⟩,
  ⟨some 13, .call 112 [.t 11, .t 12], none, []⟩,
  ⟨some 14, .mv (.t 6), none, []⟩,
  ⟨some 15, .iad (.t 2) (.t 14) 2 5, none, [2]⟩,
  ⟨some 16, .fad (.t 15) 0, none, [2]⟩,
  ⟨some 17, .load 1 false (.t 16), none, [2]⟩,
  ⟨some 18, .mv (.t 6), none, []⟩,
  ⟨some 19, .iad (.t 2) (.t 18) 2 5, none, [2]⟩,
  ⟨some 20, .fad (.t 19) 0, none, [2]⟩,
  ⟨some 21, .load 1 false (.t 20), none, [2]⟩,
  ⟨some 22, .mv (.t 6), none, []⟩,
  ⟨some 23, .iad (.t 2) (.t 22) 2 5, none, [2]⟩,
  ⟨some 24, .fad (.t 23) 1, none, [2]⟩,
  ⟨some 25, .load 1 false (.t 24), none, [2]⟩,
  ⟨some 26, .mnmx true (.t 21) (.t 25), none, []⟩,
  ⟨some 27, .call 63 [.t 13, .t 17, .t 26], none, []⟩,
  ⟨some 28, .iad (.t 5) (.t 10) 1 4, none, [5]⟩,
  ⟨none, .store (.t 28) 1 (.t 27), none, [5]⟩] [1, 2, 4, 5, 7]) k s Q := rfl
def c66_7 : ACode := .seq c66_5 c66_6
theorem r66_7 {C : Cs} {k : List Fr} {s : St} {Q : Post} : run C c66_7 k s Q = run C (.seq c66_5 c66_6) k s Q := rfl
def c66_8 : ACode := .block 1 c66_7
theorem r66_8 {C : Cs} {k : List Fr} {s : St} {Q : Post} : run C c66_8 k s Q = run C (.block 1 c66_7) k s Q := rfl
def c66_9 : ACode := .ops [⟨some 29, .bin .add (.t 7) (.c (.int .i64 1)), none, []⟩,
  ⟨some 7, .mv (.t 29), none, []⟩] [1, 2, 4, 5, 7]
theorem r66_9 {C : Cs} {k : List Fr} {s : St} {Q : Post} : run C c66_9 k s Q = run C (.ops [⟨some 29, .bin .add (.t 7) (.c (.int .i64 1)), none, []⟩,
  ⟨some 7, .mv (.t 29), none, []⟩] [1, 2, 4, 5, 7]) k s Q := rfl
def c66_10 : ACode := .seq c66_8 c66_9
theorem r66_10 {C : Cs} {k : List Fr} {s : St} {Q : Post} : run C c66_10 k s Q = run C (.seq c66_8 c66_9) k s Q := rfl
def c66_11 : ACode := .seq c66_4 c66_10
theorem r66_11 {C : Cs} {k : List Fr} {s : St} {Q : Post} : run C c66_11 k s Q = run C (.seq c66_4 c66_10) k s Q := rfl
def c66_12 : ACode := .seq c66_3 c66_11
theorem r66_12 {C : Cs} {k : List Fr} {s : St} {Q : Post} : run C c66_12 k s Q = run C (.seq c66_3 c66_11) k s Q := rfl
def c66_13 : ACode := .keep [1, 2, 4, 5, 7] [2, 4, 5] c66_12
theorem r66_13 {C : Cs} {k : List Fr} {s : St} {Q : Post} : run C c66_13 k s Q = run C (.keep [1, 2, 4, 5, 7] [2, 4, 5] c66_12) k s Q := rfl
def c66_14 : ACode := .loop c66_13
theorem r66_14 {C : Cs} {k : List Fr} {s : St} {Q : Post} : run C c66_14 k s Q = run C (.loop c66_13) k s Q := rfl
def c66_15 : ACode := .block 0 c66_14
theorem r66_15 {C : Cs} {k : List Fr} {s : St} {Q : Post} : run C c66_15 k s Q = run C (.block 0 c66_14) k s Q := rfl
def c66_16 : ACode := .seq c66_2 c66_15
theorem r66_16 {C : Cs} {k : List Fr} {s : St} {Q : Post} : run C c66_16 k s Q = run C (.seq c66_2 c66_15) k s Q := rfl
def c66_17 : ACode := .ops [⟨some 30, .load 4 true (.t 5), none, [5]⟩,
  ⟨none, .store (.t 4) 4 (.t 30), none, [4]⟩] [4]
theorem r66_17 {C : Cs} {k : List Fr} {s : St} {Q : Post} : run C c66_17 k s Q = run C (.ops [⟨some 30, .load 4 true (.t 5), none, [5]⟩,
  ⟨none, .store (.t 4) 4 (.t 30), none, [4]⟩] [4]) k s Q := rfl
def c66_18 : ACode := .seq c66_17 .ret
theorem r66_18 {C : Cs} {k : List Fr} {s : St} {Q : Post} : run C c66_18 k s Q = run C (.seq c66_17 .ret) k s Q := rfl
def c66_19 : ACode := .seq c66_16 c66_18
theorem r66_19 {C : Cs} {k : List Fr} {s : St} {Q : Post} : run C c66_19 k s Q = run C (.seq c66_16 c66_18) k s Q := rfl
def c66_20 : ACode := .seq c66_1 c66_19
theorem r66_20 {C : Cs} {k : List Fr} {s : St} {Q : Post} : run C c66_20 k s Q = run C (.seq c66_1 c66_19) k s Q := rfl
def c66_21 : ACode := .seq c66_0 c66_20
theorem r66_21 {C : Cs} {k : List Fr} {s : St} {Q : Post} : run C c66_21 k s Q = run C (.seq c66_0 c66_20) k s Q := rfl
def a66 : AFun := ⟨2, 31, c66_21, [.cell 4 4 true]⟩
attribute [simp] r66_0 r66_1 r66_2 r66_3 r66_4 r66_5 r66_6 r66_7 r66_8 r66_9 r66_10 r66_11 r66_12 r66_13 r66_14 r66_15 r66_16 r66_17 r66_18 r66_19 r66_20 r66_21
theorem m66 : mFun Try.prog Try.f66 a66 = true := by decide +kernel


def small (s : Span) : Prop := -1125899906842624 ≤ s.lo ∧ s.lo ≤ 1125899906842624 ∧ s.hi ≤ 1125899906842624
def ins (s : Span) (l : List Int) (i : Nat) : Int := within (pick l i) s.lo (max2 s.lo s.hi)
def insideOf (b : Box) (l : List Int) : Point := ⟨ins b.s0 l 0, ins b.s1 l 1, ins b.s2 l 2, ins b.s3 l 3⟩
theorem ins_in {s : Span} (h : s.empty = false) (l : List Int) (i : Nat) : InS s (ins s l i) := by
  unfold Span.empty at h
  rw [decide_eq_false_iff_not] at h
  have hm := max2_le (a := s.lo) (b := s.hi)
  have := within_le (pick l i) s.lo (max2 s.lo s.hi) hm.1
  unfold InS ins
  omega
theorem ins_small {s : Span} (h : small s) (l : List Int) (i : Nat) : -1125899906842624 ≤ ins s l i ∧ ins s l i ≤ 1125899906842624 := by
  have hm := max2_le (a := s.lo) (b := s.hi)
  have := within_le (pick l i) s.lo (max2 s.lo s.hi) hm.1
  unfold small at h
  unfold ins
  omega
theorem empty_spec {b : Box} (h : b.empty = false) : b.s0.empty = false ∧ b.s1.empty = false ∧ b.s2.empty = false ∧ b.s3.empty = false ∧ b.s4.empty = false := by
  unfold Box.empty at h
  simp only [Bool.or_eq_false_iff] at h
  exact ⟨h.1.1.1.1, h.1.1.1.2, h.1.1.2, h.1.2, h.2⟩
theorem inside_in {b : Box} (h : b.empty = false) (l : List Int) : InB b (insideOf b l) b.s4.lo := by
  have := empty_spec h
  refine ⟨ins_in this.1 l 0, ins_in this.2.1 l 1, ins_in this.2.2.1 l 2, ins_in this.2.2.2.1 l 3, ?_⟩
  have h4 := this.2.2.2.2
  unfold Span.empty at h4
  rw [decide_eq_false_iff_not] at h4
  unfold InS
  omega

noncomputable def InsideC (b : Box) (l : List Int) : Option Point := Part (small b.s0 ∧ small b.s1 ∧ small b.s2 ∧ small b.s3) (insideOf b l)
set_option maxRecDepth 8000 in
set_option maxHeartbeats 1000000 in
theorem runs_Inside (b : Box) (l : List Int) (c : Point) (h : InsideC b l = some c) : Runs (tbl [(112, sp2 Pick), (63, sp3 Within)]) a66 [Arg.enc b, Arg.enc l] (Arg.enc c) := by
  obtain ⟨⟨h0, h1, h2, h3⟩, rfl⟩ := part_some h
  refine ⟨rfl, fun g => run_def ?_⟩
  unfold a66
  have p1 : Pick l 1 = some (pick l 1) := pick_of l 1
  have p2 : Pick l 2 = some (pick l 2) := pick_of l 2
  have p3 : Pick l 3 = some (pick l 3) := pick_of l 3
  have key : ∀ (s : Span) (i : Nat), small s → Within (pick l i) s.lo (if s.lo < s.hi then s.hi else s.lo) = some (ins s l i) := by
    intro s i hs
    unfold small at hs
    have := within_of (pick l i) s.lo (if s.lo < s.hi then s.hi else s.lo) (by split <;> omega)
    rw [this]
    rfl
  have v0 := key b.s0 0 h0
  have v1 := key b.s1 1 h1
  have v2 := key b.s2 2 h2
  have v3 := key b.s3 3 h3
  simp -implicitDefEqProofs [pick_0, p1, p2, p3, v0, v1, v2, v3, run_round, insideOf]
theorem c_Inside : Contract Try.prog 66 (sp2 InsideC) :=
  contract_of_runs mixed (tbl_cons c_pick (tbl_cons c_Within tbl_nil)) Try.func66 m66 (sp2_runs runs_Inside)

theorem okB_region (dim : Int) (l : List Int) : okB (regionOf dim l) ∧ (regionOf dim l).empty = false ∧ small (regionOf dim l).s0 ∧ small (regionOf dim l).s1 ∧ small (regionOf dim l).s2 ∧ small (regionOf dim l).s3 := by
  have h0 := rSpan_le dim l 0
  have h1 := rSpan_le dim l 1
  have h2 := rSpan_le dim l 2
  have h3 := rSpan_le dim l 3
  unfold regionOf small
  simp only
  refine ⟨?_, ?_, by omega, by omega, by omega, by omega⟩
  · unfold okB okS64 ok64
    simp only
    omega
  · unfold Box.empty Span.empty
    simp only [Bool.or_eq_false_iff, decide_eq_false_iff_not]
    omega
/-- a box of one point -/
def oneB (p : Point) : Box := ⟨⟨p.p0, p.p0⟩, ⟨p.p1, p.p1⟩, ⟨p.p2, p.p2⟩, ⟨p.p3, p.p3⟩, ⟨0, 0⟩⟩
theorem one_in (p : Point) : InB (oneB p) p 0 := by unfold InB InS oneB; simp only; omega
theorem one_only (p q : Point) (t : Int) (h : InB (oneB p) q t) : q = p := by
  obtain ⟨a, b, c, d⟩ := p
  obtain ⟨a', b', c', d'⟩ := q
  unfold InB InS oneB at h
  simp only at h
  simp only [Point.mk.injEq]
  omega
theorem one_empty (p : Point) : (oneB p).empty = false := empty_false.2 ⟨p, 0, one_in p⟩
end Go.Co
