/- CO: a part of a box, by numbers. -/
import Derived.Test.YtagfmcachoaacaaCoGo
namespace Go.Co
open Go.Am Go.Proofs
set_option linter.unusedSimpArgs false
set_option linter.unusedVariables false
attribute [-simp] Go.Am.eff_gcall
def c9_0 : ACode := .ops [⟨some 2, .box (.t 0) 10, none, []⟩,
  ⟨some 4, .alloc [.int .i64 0, .int .i64 0, .int .i64 0, .int .i64 0, .int .i64 0, .int .i64 0, .int .i64 0, .int .i64 0, .int .i64 0, .int .i64 0], none, []⟩] [1, 2, 4]
theorem r9_0 : type_of% (@rr _ _ c9_0.eq_1) := rr c9_0.eq_1
def c9_1 : ACode := .ops [⟨some 5, .mv (.c (.int .i64 0)), none, []⟩] [1, 2, 4, 5]
theorem r9_1 : type_of% (@rr _ _ c9_1.eq_1) := rr c9_1.eq_1
def c9_2 : ACode := .ops [⟨some 6, .mv (.t 5), none, []⟩,
  ⟨some 7, .mv (.t 1), none, []⟩,
  ⟨some 8, .len (.t 7), none, []⟩,
  ⟨some 9, .bin .lss (.t 6) (.t 8), none, []⟩,
  ⟨some 10, .mv (.t 9), none, []⟩,
  ⟨some 11, .mv (.t 5), some (10, true), []⟩,
  ⟨some 12, .bin .lss (.t 11) (.c (.int .i64 5)), some (10, true), []⟩,
  ⟨some 13, .pick (.t 10) (.t 12) (.c (.bool false)), none, []⟩] [1, 2, 4, 5, 13]
theorem r9_2 : type_of% (@rr _ _ c9_2.eq_1) := rr c9_2.eq_1
def c9_3 : ACode := .cond (.t 13) .skip (.exit 0)
theorem r9_3 : type_of% (@rr _ _ c9_3.eq_1) := rr c9_3.eq_1
def c9_4 : ACode := .seq c9_2 c9_3
theorem r9_4 : type_of% (@rr _ _ c9_4.eq_1) := rr c9_4.eq_1
def c9_5 : ACode := .ops [⟨some 16, .mv (.t 1), none, []⟩,
  ⟨some 17, .mv (.t 5), none, []⟩,
  ⟨some 18, .ias (.t 16) (.t 17) 1, none, []⟩,
  ⟨some 19, .load 1 false (.t 18), none, []⟩,
  ⟨some 20, .bin .and (.t 19) (.c (.int .i64 1)), none, []⟩,
  ⟨some 21, .bin .eql (.t 20) (.c (.int .i64 0)), none, []⟩] [1, 2, 4, 5, 21]
theorem r9_5 : type_of% (@rr _ _ c9_5.eq_1) := rr c9_5.eq_1
def c9_6 : ACode := .ops [⟨some 22, .mv (.t 5), none, []⟩,
  ⟨some 23, .mv (.t 1), none, []⟩,
  ⟨some 24, .mv (.t 5), none, []⟩,
  ⟨some 25, .ias (.t 23) (.t 24) 1, none, []⟩,
  ⟨some 26, .load 1 false (.t 25), none, []⟩,
  ⟨some 27, .bin .quo (.t 26) (.c (.int .i64 2)), none, []⟩,
  ⟨some 28, .mv (.t 5), none, []⟩,
  ⟨some 29, .iad (.t 2) (.t 28) 2 5, none, [2]⟩,
  ⟨some 30, .fad (.t 29) 0, none, [2]⟩,
  ⟨some 31, .load 1 false (.t 30), none, [2]⟩,
  ⟨some 32, .mv (.t 5), none, []⟩,
  ⟨some 33, .iad (.t 2) (.t 32) 2 5, none, [2]⟩,
  ⟨some 34, .fad (.t 33) 1, none, [2]⟩,
  ⟨some 35, .load 1 false (.t 34), none, [2]⟩,
  ⟨some 36, .call 14 [.t 27, .t 31, .t 35], none, []⟩,
  ⟨some 37, .iad (.t 2) (.t 22) 2 5, none, [2]⟩,
  ⟨some 38, .fad (.t 37) 0, none, [2]⟩,
  ⟨none, .store (.t 38) 1 (.t 36), none, [2]⟩] [1, 2, 4, 5]
theorem r9_6 : type_of% (@rr _ _ c9_6.eq_1) := rr c9_6.eq_1
def c9_7 : ACode := .ops [⟨some 39, .mv (.t 5), none, []⟩,
  ⟨some 40, .mv (.t 1), none, []⟩,
  ⟨some 41, .mv (.t 5), none, []⟩,
  ⟨some 42, .ias (.t 40) (.t 41) 1, none, []⟩,
  ⟨some 43, .load 1 false (.t 42), none, []⟩,
  ⟨some 44, .bin .quo (.t 43) (.c (.int .i64 2)), none, []⟩,
  ⟨some 45, .mv (.t 5), none, []⟩,
  ⟨some 46, .iad (.t 2) (.t 45) 2 5, none, [2]⟩,
  ⟨some 47, .fad (.t 46) 0, none, [2]⟩,
  ⟨some 48, .load 1 false (.t 47), none, [2]⟩,
  ⟨some 49, .mv (.t 5), none, []⟩,
  ⟨some 50, .iad (.t 2) (.t 49) 2 5, none, [2]⟩,
  ⟨some 51, .fad (.t 50) 1, none, [2]⟩,
  ⟨some 52, .load 1 false (.t 51), none, [2]⟩,
  ⟨some 53, .call 14 [.t 44, .t 48, .t 52], none, []⟩,
  ⟨some 54, .iad (.t 2) (.t 39) 2 5, none, [2]⟩,
  ⟨some 55, .fad (.t 54) 1, none, [2]⟩,
  ⟨none, .store (.t 55) 1 (.t 53), none, [2]⟩] [1, 2, 4, 5]
theorem r9_7 : type_of% (@rr _ _ c9_7.eq_1) := rr c9_7.eq_1
def c9_8 : ACode := .cond (.t 21) c9_6 c9_7
theorem r9_8 : type_of% (@rr _ _ c9_8.eq_1) := rr c9_8.eq_1
def c9_9 : ACode := .seq c9_5 c9_8
theorem r9_9 : type_of% (@rr _ _ c9_9.eq_1) := rr c9_9.eq_1
def c9_10 : ACode := .block 1 c9_9
theorem r9_10 : type_of% (@rr _ _ c9_10.eq_1) := rr c9_10.eq_1
def c9_11 : ACode := .ops [⟨some 14, .mv (.t 5), none, []⟩,
  ⟨some 15, .bin .add (.t 14) (.c (.int .i64 1)), none, []⟩,
  ⟨some 5, .mv (.t 15), none, []⟩] [1, 2, 4, 5]
theorem r9_11 : type_of% (@rr _ _ c9_11.eq_1) := rr c9_11.eq_1
def c9_12 : ACode := .seq c9_10 c9_11
theorem r9_12 : type_of% (@rr _ _ c9_12.eq_1) := rr c9_12.eq_1
def c9_13 : ACode := .seq c9_4 c9_12
theorem r9_13 : type_of% (@rr _ _ c9_13.eq_1) := rr c9_13.eq_1
def c9_14 : ACode := .keep [1, 2, 4, 5] [2, 4] c9_13
theorem r9_14 : type_of% (@rr _ _ c9_14.eq_1) := rr c9_14.eq_1
def c9_15 : ACode := .loop c9_14
theorem r9_15 : type_of% (@rr _ _ c9_15.eq_1) := rr c9_15.eq_1
def c9_16 : ACode := .block 0 c9_15
theorem r9_16 : type_of% (@rr _ _ c9_16.eq_1) := rr c9_16.eq_1
def c9_17 : ACode := .seq c9_1 c9_16
theorem r9_17 : type_of% (@rr _ _ c9_17.eq_1) := rr c9_17.eq_1
def c9_18 : ACode := .ops [⟨some 56, .load 10 true (.t 2), none, [2]⟩,
  ⟨none, .store (.t 4) 10 (.t 56), none, [4]⟩] [4]
theorem r9_18 : type_of% (@rr _ _ c9_18.eq_1) := rr c9_18.eq_1
def c9_19 : ACode := .seq c9_18 .ret
theorem r9_19 : type_of% (@rr _ _ c9_19.eq_1) := rr c9_19.eq_1
def c9_20 : ACode := .seq c9_17 c9_19
theorem r9_20 : type_of% (@rr _ _ c9_20.eq_1) := rr c9_20.eq_1
def c9_21 : ACode := .seq c9_0 c9_20
theorem r9_21 : type_of% (@rr _ _ c9_21.eq_1) := rr c9_21.eq_1
def a9 : AFun := ⟨2, 57, c9_21, [.cell 4 10 true]⟩
attribute [simp] r9_0 r9_1 r9_2 r9_3 r9_4 r9_5 r9_6 r9_7 r9_8 r9_9 r9_10 r9_11 r9_12 r9_13 r9_14 r9_15 r9_16 r9_17 r9_18 r9_19 r9_20 r9_21
theorem m9 : mFun Try.prog Try.f9 a9 = true := by decide +kernel
theorem rd_nlo (b : Box) (i : Nat) (h : i < 5) : rd [.int .i64 b.s0.lo, .int .i64 b.s0.hi, .int .i64 b.s1.lo, .int .i64 b.s1.hi, .int .i64 b.s2.lo, .int .i64 b.s2.hi, .int .i64 b.s3.lo, .int .i64 b.s3.hi, .int .i64 b.s4.lo, .int .i64 b.s4.hi] (i * 2) 1 false = some (.int .i64 (b.get i).lo) := by
  have hf : i = 0 ∨ i = 1 ∨ i = 2 ∨ i = 3 ∨ i = 4 := by omega
  rcases hf with rfl | rfl | rfl | rfl | rfl <;> rfl
theorem rd_nhi (b : Box) (i : Nat) (h : i < 5) : rd [.int .i64 b.s0.lo, .int .i64 b.s0.hi, .int .i64 b.s1.lo, .int .i64 b.s1.hi, .int .i64 b.s2.lo, .int .i64 b.s2.hi, .int .i64 b.s3.lo, .int .i64 b.s3.hi, .int .i64 b.s4.lo, .int .i64 b.s4.hi] (i * 2 + 1) 1 false = some (.int .i64 (b.get i).hi) := by
  have hf : i = 0 ∨ i = 1 ∨ i = 2 ∨ i = 3 ∨ i = 4 := by omega
  rcases hf with rfl | rfl | rfl | rfl | rfl <;> rfl
theorem wr_nlo (b : Box) (i : Nat) (h : i < 5) (x : Int) : wr [.int .i64 b.s0.lo, .int .i64 b.s0.hi, .int .i64 b.s1.lo, .int .i64 b.s1.hi, .int .i64 b.s2.lo, .int .i64 b.s2.hi, .int .i64 b.s3.lo, .int .i64 b.s3.hi, .int .i64 b.s4.lo, .int .i64 b.s4.hi] (i * 2) [.int .i64 x] = Row.enc (b.set i ⟨x, (b.get i).hi⟩) := by
  have hf : i = 0 ∨ i = 1 ∨ i = 2 ∨ i = 3 ∨ i = 4 := by omega
  rcases hf with rfl | rfl | rfl | rfl | rfl <;> rfl
theorem wr_nhi (b : Box) (i : Nat) (h : i < 5) (x : Int) : wr [.int .i64 b.s0.lo, .int .i64 b.s0.hi, .int .i64 b.s1.lo, .int .i64 b.s1.hi, .int .i64 b.s2.lo, .int .i64 b.s2.hi, .int .i64 b.s3.lo, .int .i64 b.s3.hi, .int .i64 b.s4.lo, .int .i64 b.s4.hi] (i * 2 + 1) [.int .i64 x] = Row.enc (b.set i ⟨(b.get i).lo, x⟩) := by
  have hf : i = 0 ∨ i = 1 ∨ i = 2 ∨ i = 3 ∨ i = 4 := by omega
  rcases hf with rfl | rfl | rfl | rfl | rfl <;> rfl
def evenB (x : Int) : Prop := iand IntKind.i64 x 1 = 0
noncomputable def partStep (b : Box) (i : Nat) (x : Int) : Box := open Classical in
  if evenB x then b.set i ⟨within (IntKind.i64.wrap (x.tdiv 2)) (b.get i).lo (b.get i).hi, (b.get i).hi⟩ else b.set i ⟨(b.get i).lo, within (IntKind.i64.wrap (x.tdiv 2)) (b.get i).lo (b.get i).hi⟩
noncomputable def partTo (b : Box) (l : List Int) : Nat → Box
  | 0 => b
  | j + 1 => if h : j < l.length then partStep (partTo b l j) j l[j] else partTo b l j
structure PartOk (b x : Box) : Prop where
  some : x.empty = false
  sub : ∀ i : Int, 0 ≤ i → i < 5 → (b.get i).lo ≤ (x.get i).lo ∧ (x.get i).hi ≤ (b.get i).hi
theorem PartOk.set {b x : Box} (h : PartOk b x) {i : Nat} (hi : i < 5) {s : Span} (h1 : s.lo ≤ s.hi) (h2 : (x.get i).lo ≤ s.lo) (h3 : s.hi ≤ (x.get i).hi) : PartOk b (x.set i s) := by
  refine ⟨empty_get.2 fun j j0 j5 => ?_, fun j j0 j5 => ?_⟩
  · rw [set_get_ite x s (by omega) (by omega) j0 j5]
    split
    · exact h1
    · exact get_spans h.some j
  · rw [set_get_ite x s (by omega) (by omega) j0 j5]
    have := h.sub j j0 j5
    split
    · rename_i e; subst e; omega
    · exact this
theorem partStep_ok {b x : Box} (h : PartOk b x) {i : Nat} (hi : i < 5) (n : Int) : PartOk b (partStep x i n) := by
  have hl := get_spans h.some (i : Int)
  have hw := within_le (IntKind.i64.wrap (n.tdiv 2)) (x.get i).lo (x.get i).hi hl
  unfold partStep
  split
  · exact h.set hi (by simp only; omega) (by simp only; omega) (by simp only; omega)
  · exact h.set hi (by simp only; omega) (by simp only; omega) (by simp only; omega)
theorem partTo_ok {b : Box} (hb : b.empty = false) (l : List Int) : ∀ {j : Nat}, j ≤ 5 → PartOk b (partTo b l j)
  | 0, _ => ⟨hb, fun i _ _ => ⟨Int.le_refl _, Int.le_refl _⟩⟩
  | j + 1, h => by
    unfold partTo
    split
    · exact partStep_ok (partTo_ok hb l (by omega)) (by omega) _
    · exact partTo_ok hb l (by omega)
theorem PartOk.small {b x : Box} (h : PartOk b x) (hb : smallB b) : smallB x := by
  have key : ∀ i : Int, 0 ≤ i → i < 5 → Co.small (x.get i) := fun i i0 i5 => by
    have h1 := get_small hb i
    have h2 := h.sub i i0 i5
    have h3 := get_spans h.some i
    unfold Co.small at *
    omega
  exact ⟨key 0 (by omega) (by omega), key 1 (by omega) (by omega), key 2 (by omega) (by omega), key 3 (by omega) (by omega), key 4 (by omega) (by omega)⟩
theorem small_ok {b : Box} (h : smallB b) (he : b.empty = false) : okB b := by
  have key : ∀ i : Int, 0 ≤ i → i < 5 → okS64 (b.get i) := fun i i0 i5 => by
    have h1 := get_small h i
    have h2 := get_spans he i
    unfold Co.small at h1
    unfold okS64 ok64
    omega
  exact ⟨key 0 (by omega) (by omega), key 1 (by omega) (by omega), key 2 (by omega) (by omega), key 3 (by omega) (by omega), key 4 (by omega) (by omega)⟩
noncomputable def PartC (b : Box) (l : List Int) : Option Box := Part (smallB b ∧ b.empty = false) (partTo b l 5)
set_option maxHeartbeats 2000000 in
set_option maxRecDepth 8000 in
theorem runs_part (b : Box) (l : List Int) (r : Box) (h : PartC b l = some r) : Runs (tbl [(14, sp3 Within)]) a9 [Arg.enc b, Arg.enc l] (Arg.enc r) := by
  obtain ⟨⟨hs, he⟩, rfl⟩ := part_some h
  clear h
  refine ⟨rfl, fun g => run_def ?_⟩
  unfold a9
  simp -implicitDefEqProofs []
  refine run_while (c := c9_13) (fun n s => ∃ (j : Nat) (g : Nat → Nat), j + n = 5 ∧ s = ⟨[(1, .lst l.length (encL l)), (2, .ptr 2 (g 2) 0), (4, .ptr 4 (g 4) 0), (5, .int .i64 j)], [(2, ⟨Row.enc (partTo b l j), false, 0⟩), (4, ⟨Row.enc zeroB, false, 0⟩)], g⟩) 5 ⟨0, bump 4 (bump 2 g), by omega, by simp [partTo, zeroB]⟩ ?_
  rintro n s ⟨j, g, hj, rfl⟩
  have w1 : IntKind.i64.wrap ((j : Int) + 1) = (j : Int) + 1 := wrap64 (by omega) (by omega)
  by_cases h1 : j < l.length ∧ j < 5
  case pos =>
    have c1 : j < l.length := h1.1
    have c2 : (j : Int) < 5 := by omega
    have c3 : j < 5 := h1.2
    have c4 : j * 2 ≤ 9 := by omega
    have c5 : j * 2 ≤ 8 := by omega
    have hrow := rd_ints l j c1
    have hx := partTo_ok he l (j := j) (by omega)
    have hstep : partTo b l (j + 1) = partStep (partTo b l j) j l[j] := by rw [partTo, dif_pos c1]
    have hxs := get_small (hx.small hs) (j : Int)
    have hxl := get_spans hx.some (j : Int)
    generalize l[j] = n0 at *
    generalize partTo b l j = x at *
    unfold small at hxs
    have hW := within_of (IntKind.i64.wrap (n0.tdiv 2)) (x.get j).lo (x.get j).hi (by omega)
    have r1 := rd_nlo x j c3
    have r2 := rd_nhi x j c3
    have q1 := wr_nlo x j c3 (within (IntKind.i64.wrap (n0.tdiv 2)) (x.get j).lo (x.get j).hi)
    have q2 := wr_nhi x j c3 (within (IntKind.i64.wrap (n0.tdiv 2)) (x.get j).lo (x.get j).hi)
    unfold partStep at hstep
    by_cases hev : evenB n0
    · rw [if_pos hev] at hstep
      unfold evenB at hev
      simp -implicitDefEqProofs [c1, c2, c3, hrow, w1, hW, r1, r2, q1, hev, c4, c5]
      exact fun _ => ⟨n - 1, by omega, j + 1, by omega, by omega, by rw [hstep], by rw [hstep], by rw [hstep], by rw [hstep], by rw [hstep], by rw [hstep], by rw [hstep], by rw [hstep], by rw [hstep], by rw [hstep]⟩
    · rw [if_neg hev] at hstep
      unfold evenB at hev
      simp -implicitDefEqProofs [c1, c2, c3, hrow, w1, hW, r1, r2, q2, hev, c4, c5]
      exact fun _ => ⟨n - 1, by omega, j + 1, by omega, by omega, by rw [hstep], by rw [hstep], by rw [hstep], by rw [hstep], by rw [hstep], by rw [hstep], by rw [hstep], by rw [hstep], by rw [hstep], by rw [hstep]⟩
  case neg =>
    have hfin : partTo b l j = partTo b l 5 := by
      have key : ∀ k, j ≤ k → k ≤ 5 → partTo b l k = partTo b l j := by
        intro k hk
        induction k with
        | zero => intro _; rw [show j = 0 by omega]
        | succ k ih =>
          intro h5
          by_cases e : j = k + 1
          · rw [e]
          · rw [partTo, dif_neg (by omega)]
            exact ih (by omega) (by omega)
      exact (key 5 (by omega) (by omega)).symm
    by_cases c1 : j < l.length
    · have c2 : ¬ (j : Int) < 5 := by omega
      rw [hfin]
      simp -implicitDefEqProofs [c1, c2]
    · rw [hfin]
      simp -implicitDefEqProofs [c1]
theorem c_part : Contract Try.prog 9 (sp2 PartC) :=
  contract_of_runs mixed (tbl_cons c_Within tbl_nil) Try.func9 m9 (sp2_runs runs_part)
theorem below_len : ∀ {L : List Int}, L.Pairwise (· < ·) → ∀ {j : Nat} (h : j < L.length), (L.filter fun t => decide (t < L[j])).length = j ∧ (L.filter fun t => decide (L[j] < t)).length = L.length - 1 - j
  | [], _, j, h => by simp at h
  | x :: L, hs, j, h => by
    have hx : ∀ y ∈ L, x < y := fun y hy => List.rel_of_pairwise_cons hs hy
    have hs' := List.Pairwise.of_cons hs
    cases j with
    | zero =>
      have e1 : L.filter (fun t => decide (t < x)) = [] := by
        rw [List.filter_eq_nil_iff]
        intro y hy
        have := hx y hy
        simp
        omega
      have e2 : L.filter (fun t => decide (x < t)) = L := by
        rw [List.filter_eq_self]
        intro y hy
        simpa using hx y hy
      simp [e1, e2]
    | succ j =>
      have hj : j < L.length := by simpa using h
      obtain ⟨h1, h2⟩ := below_len hs' hj
      have hxj := hx L[j] (List.getElem_mem hj)
      have d1 : decide (x < (x :: L)[j + 1]) = true := by simpa using hxj
      have d2 : decide ((x :: L)[j + 1] < x) = false := by simp; omega
      rw [List.filter_cons, if_pos d1, List.filter_cons, if_neg (by rw [d2]; simp)]
      simp only [List.getElem_cons_succ, List.length_cons]
      refine ⟨by rw [h1], by rw [h2]; omega⟩
theorem split_cuts (m : Model) (q : Query) (b : Box) (hb : b.empty = false) {k : Int} (h0 : 0 ≤ k) (h5 : k < 5) (hne : cutsL m q b k ≠ []) :
    (cutsL m q (cutB b k (midL (cutsL m q b k))).1 k).length = ((cutsL m q b k).length - 1) / 2 ∧ (cutsL m q (cutB b k (midL (cutsL m q b k))).2 k).length = (cutsL m q b k).length - 1 - ((cutsL m q b k).length - 1) / 2 ∧
    (cutB b k (midL (cutsL m q b k))).1.empty = false ∧ (cutB b k (midL (cutsL m q b k))).2.empty = false ∧ (∀ i : Int, 0 ≤ i → i < 5 → i ≠ k → cutsL m q (cutB b k (midL (cutsL m q b k))).1 i = cutsL m q b i) := by
  have hlen : 0 < (cutsL m q b k).length := List.length_pos_iff.2 hne
  have hj : ((cutsL m q b k).length - 1) / 2 < (cutsL m q b k).length := by omega
  have hmid : midL (cutsL m q b k) = (cutsL m q b k)[((cutsL m q b k).length - 1) / 2] := by unfold midL; simp [hj]
  have hin := cuts_in (m := m) (q := q) (b := b) (k := k) _ (List.getElem_mem hj)
  rw [← hmid] at hin
  obtain ⟨b1, b2⟩ := below_len (cuts_sorted m q b k) hj
  rw [← hmid] at b1 b2
  generalize midL (cutsL m q b k) = at_ at *
  rw [cutB_set b h0 h5 hin.1 (by omega), if_pos hin.2]
  simp only
  have hf : ¬ featOf q k < 0 := by
    intro hf
    apply hne
    unfold cutsL
    rw [if_pos hf]
  refine ⟨?_, ?_, ?_, ?_, ?_⟩
  · rw [← b1]
    congr 1
    unfold cutsL
    rw [if_neg hf, if_neg hf, set_get_ite b _ h0 h5 h0 h5, if_pos rfl, List.filter_filter]
    refine List.filter_congr fun t _ => ?_
    rw [Bool.eq_iff_iff]
    simp [outS]
    omega
  · rw [← b2]
    congr 1
    unfold cutsL
    rw [if_neg hf, if_neg hf, set_get_ite b _ h0 h5 h0 h5, if_pos rfl, List.filter_filter]
    refine List.filter_congr fun t _ => ?_
    rw [Bool.eq_iff_iff]
    simp [outS]
    omega
  · rw [set_empty hb k _ h0 h5]
    simp [Span.empty]
    omega
  · rw [set_empty hb k _ h0 h5]
    simp [Span.empty]
    omega
  · intro i i0 i5 hik
    unfold cutsL
    rw [set_get_ite b _ h0 h5 i0 i5, if_neg hik]
end Go.Co
