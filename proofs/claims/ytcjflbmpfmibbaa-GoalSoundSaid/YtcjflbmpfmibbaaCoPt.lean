/- CO: a part of a box, by numbers. -/
import Derived.Test.YtcjflbmpfmibbaaCoGo
namespace Go.Co
open Go.Am Go.Proofs
set_option linter.unusedSimpArgs false
set_option linter.unusedVariables false
attribute [-simp] Go.Am.eff_gcall
def c55_0 : ACode := .ops [⟨some 2, .box (.t 0) 10, none, []⟩,
  ⟨some 4, .alloc [.int .i64 0, .int .i64 0, .int .i64 0, .int .i64 0, .int .i64 0, .int .i64 0, .int .i64 0, .int .i64 0, .int .i64 0, .int .i64 0], none, []⟩] [1, 2, 4]
theorem r55_0 : type_of% (@rr _ _ c55_0.eq_1) := rr c55_0.eq_1
def c55_1 : ACode := .ops [⟨some 5, .mv (.c (.int .i64 0)), none, []⟩] [1, 2, 4, 5]
theorem r55_1 : type_of% (@rr _ _ c55_1.eq_1) := rr c55_1.eq_1
def c55_2 : ACode := .ops [⟨some 6, .mv (.t 5), none, []⟩,
  ⟨some 7, .mv (.t 1), none, []⟩,
  ⟨some 8, .len (.t 7), none, []⟩,
  ⟨some 9, .bin .lss (.t 6) (.t 8), none, []⟩,
  ⟨some 10, .mv (.t 9), none, []⟩,
  ⟨some 11, .mv (.t 5), some (10, true), []⟩,
  ⟨some 12, .bin .lss (.t 11) (.c (.int .i64 5)), some (10, true), []⟩,
  ⟨some 13, .pick (.t 10) (.t 12) (.c (.bool false)), none, []⟩] [1, 2, 4, 5, 13]
theorem r55_2 : type_of% (@rr _ _ c55_2.eq_1) := rr c55_2.eq_1
def c55_3 : ACode := .cond (.t 13) .skip (.exit 0)
theorem r55_3 : type_of% (@rr _ _ c55_3.eq_1) := rr c55_3.eq_1
def c55_4 : ACode := .seq c55_2 c55_3
theorem r55_4 : type_of% (@rr _ _ c55_4.eq_1) := rr c55_4.eq_1
def c55_5 : ACode := .ops [⟨some 16, .mv (.t 1), none, []⟩,
  ⟨some 17, .mv (.t 5), none, []⟩,
  ⟨some 18, .ias (.t 16) (.t 17) 1, none, []⟩,
  ⟨some 19, .load 1 false (.t 18), none, []⟩,
  ⟨some 20, .bin .and (.t 19) (.c (.int .i64 1)), none, []⟩,
  ⟨some 21, .bin .eql (.t 20) (.c (.int .i64 0)), none, []⟩] [1, 2, 4, 5, 21]
theorem r55_5 : type_of% (@rr _ _ c55_5.eq_1) := rr c55_5.eq_1
def c55_6 : ACode := .ops [⟨some 22, .mv (.t 5), none, []⟩,
  ⟨some 23, .mv (.t 1), none, []⟩,
  ⟨some 24, .mv (.t 5), none, []⟩,
  ⟨some 25, .ias (.t 23) (.t 24) 1, none, []⟩,
  ⟨some 26, .load 1 false (.t 25), none, []⟩,
  ⟨some 27, .bin .quo (.t 26) (.c (.int .i64 2)), none, []⟩,
  ⟨some 28, .mv (.t 5), none, []⟩,
  ⟨some 29, .iad (.t 2) (.t 28) 2 5, none, [2]⟩,
  ⟨some 30, .fad (.t 29) 0, none, [2]⟩,
  ⟨some 31, .load 1 false (.t 30), none, [2]⟩,
  ⟨some 32, .mv (.t 5), none, []⟩,
  ⟨some 33, .iad (.t 2) (.t 32) 2 5, none, [2]⟩,
  ⟨some 34, .fad (.t 33) 1, none, [2]⟩,
  ⟨some 35, .load 1 false (.t 34), none, [2]⟩,
  ⟨some 36, .call 24 [.t 27, .t 31, .t 35], none, []⟩,
  ⟨some 37, .iad (.t 2) (.t 22) 2 5, none, [2]⟩,
  ⟨some 38, .fad (.t 37) 0, none, [2]⟩,
  ⟨none, .store (.t 38) 1 (.t 36), none, [2]⟩] [1, 2, 4, 5]
theorem r55_6 : type_of% (@rr _ _ c55_6.eq_1) := rr c55_6.eq_1
def c55_7 : ACode := .ops [⟨some 39, .mv (.t 5), none, []⟩,
  ⟨some 40, .mv (.t 1), none, []⟩,
  ⟨some 41, .mv (.t 5), none, []⟩,
  ⟨some 42, .ias (.t 40) (.t 41) 1, none, []⟩,
  ⟨some 43, .load 1 false (.t 42), none, []⟩,
  ⟨some 44, .bin .quo (.t 43) (.c (.int .i64 2)), none, []⟩,
  ⟨some 45, .mv (.t 5), none, []⟩,
  ⟨some 46, .iad (.t 2) (.t 45) 2 5, none, [2]⟩,
  ⟨some 47, .fad (.t 46) 0, none, [2]⟩,
  ⟨some 48, .load 1 false (.t 47), none, [2]⟩,
  ⟨some 49, .mv (.t 5), none, []⟩,
  ⟨some 50, .iad (.t 2) (.t 49) 2 5, none, [2]⟩,
  ⟨some 51, .fad (.t 50) 1, none, [2]⟩,
  ⟨some 52, .load 1 false (.t 51), none, [2]⟩,
  ⟨some 53, .call 24 [.t 44, .t 48, .t 52], none, []⟩,
  ⟨some 54, .iad (.t 2) (.t 39) 2 5, none, [2]⟩,
  ⟨some 55, .fad (.t 54) 1, none, [2]⟩,
  ⟨none, .store (.t 55) 1 (.t 53), none, [2]⟩] [1, 2, 4, 5]
theorem r55_7 : type_of% (@rr _ _ c55_7.eq_1) := rr c55_7.eq_1
def c55_8 : ACode := .cond (.t 21) c55_6 c55_7
theorem r55_8 : type_of% (@rr _ _ c55_8.eq_1) := rr c55_8.eq_1
def c55_9 : ACode := .seq c55_5 c55_8
theorem r55_9 : type_of% (@rr _ _ c55_9.eq_1) := rr c55_9.eq_1
def c55_10 : ACode := .block 1 c55_9
theorem r55_10 : type_of% (@rr _ _ c55_10.eq_1) := rr c55_10.eq_1
def c55_11 : ACode := .ops [⟨some 14, .mv (.t 5), none, []⟩,
  ⟨some 15, .bin .add (.t 14) (.c (.int .i64 1)), none, []⟩,
  ⟨some 5, .mv (.t 15), none, []⟩] [1, 2, 4, 5]
theorem r55_11 : type_of% (@rr _ _ c55_11.eq_1) := rr c55_11.eq_1
def c55_12 : ACode := .seq c55_10 c55_11
theorem r55_12 : type_of% (@rr _ _ c55_12.eq_1) := rr c55_12.eq_1
def c55_13 : ACode := .seq c55_4 c55_12
theorem r55_13 : type_of% (@rr _ _ c55_13.eq_1) := rr c55_13.eq_1
def c55_14 : ACode := .keep [1, 2, 4, 5] [2, 4] c55_13
theorem r55_14 : type_of% (@rr _ _ c55_14.eq_1) := rr c55_14.eq_1
def c55_15 : ACode := .loop c55_14
theorem r55_15 : type_of% (@rr _ _ c55_15.eq_1) := rr c55_15.eq_1
def c55_16 : ACode := .block 0 c55_15
theorem r55_16 : type_of% (@rr _ _ c55_16.eq_1) := rr c55_16.eq_1
def c55_17 : ACode := .seq c55_1 c55_16
theorem r55_17 : type_of% (@rr _ _ c55_17.eq_1) := rr c55_17.eq_1
def c55_18 : ACode := .ops [⟨some 56, .load 10 true (.t 2), none, [2]⟩,
  ⟨none, .store (.t 4) 10 (.t 56), none, [4]⟩] [4]
theorem r55_18 : type_of% (@rr _ _ c55_18.eq_1) := rr c55_18.eq_1
def c55_19 : ACode := .seq c55_18 .ret
theorem r55_19 : type_of% (@rr _ _ c55_19.eq_1) := rr c55_19.eq_1
def c55_20 : ACode := .seq c55_17 c55_19
theorem r55_20 : type_of% (@rr _ _ c55_20.eq_1) := rr c55_20.eq_1
def c55_21 : ACode := .seq c55_0 c55_20
theorem r55_21 : type_of% (@rr _ _ c55_21.eq_1) := rr c55_21.eq_1
def a55 : AFun := ⟨2, 57, c55_21, [.cell 4 10 true]⟩
attribute [simp] r55_0 r55_1 r55_2 r55_3 r55_4 r55_5 r55_6 r55_7 r55_8 r55_9 r55_10 r55_11 r55_12 r55_13 r55_14 r55_15 r55_16 r55_17 r55_18 r55_19 r55_20 r55_21
theorem m55 : mFun Try.prog Try.f55 a55 = true := by decide +kernel
theorem rd_nlo (b : Box) (i : Nat) (h : i < 5) : rd [.int .i64 b.s0.lo, .int .i64 b.s0.hi, .int .i64 b.s1.lo, .int .i64 b.s1.hi, .int .i64 b.s2.lo, .int .i64 b.s2.hi, .int .i64 b.s3.lo, .int .i64 b.s3.hi, .int .i64 b.s4.lo, .int .i64 b.s4.hi] (i * 2) 1 false = some (.int .i64 (b.get i).lo) := by
  have hf : i = 0 ∨ i = 1 ∨ i = 2 ∨ i = 3 ∨ i = 4 := by omega
  rcases hf with rfl | rfl | rfl | rfl | rfl <;> rfl
theorem rd_nhi (b : Box) (i : Nat) (h : i < 5) : rd [.int .i64 b.s0.lo, .int .i64 b.s0.hi, .int .i64 b.s1.lo, .int .i64 b.s1.hi, .int .i64 b.s2.lo, .int .i64 b.s2.hi, .int .i64 b.s3.lo, .int .i64 b.s3.hi, .int .i64 b.s4.lo, .int .i64 b.s4.hi] (i * 2 + 1) 1 false = some (.int .i64 (b.get i).hi) := by
  have hf : i = 0 ∨ i = 1 ∨ i = 2 ∨ i = 3 ∨ i = 4 := by omega
  rcases hf with rfl | rfl | rfl | rfl | rfl <;> rfl
theorem wr_nlo (b : Box) (i : Nat) (h : i < 5) (x : Int) : wr [.int .i64 b.s0.lo, .int .i64 b.s0.hi, .int .i64 b.s1.lo, .int .i64 b.s1.hi, .int .i64 b.s2.lo, .int .i64 b.s2.hi, .int .i64 b.s3.lo, .int .i64 b.s3.hi, .int .i64 b.s4.lo, .int .i64 b.s4.hi] (i * 2) [.int .i64 x] = Row.enc (b.set i ⟨x, (b.get i).hi⟩) := by
  have hf : i = 0 ∨ i = 1 ∨ i = 2 ∨ i = 3 ∨ i = 4 := by omega
  rcases hf with rfl | rfl | rfl | rfl | rfl <;> rfl
theorem wr_nhi (b : Box) (i : Nat) (h : i < 5) (x : Int) : wr [.int .i64 b.s0.lo, .int .i64 b.s0.hi, .int .i64 b.s1.lo, .int .i64 b.s1.hi, .int .i64 b.s2.lo, .int .i64 b.s2.hi, .int .i64 b.s3.lo, .int .i64 b.s3.hi, .int .i64 b.s4.lo, .int .i64 b.s4.hi] (i * 2 + 1) [.int .i64 x] = Row.enc (b.set i ⟨(b.get i).lo, x⟩) := by
  have hf : i = 0 ∨ i = 1 ∨ i = 2 ∨ i = 3 ∨ i = 4 := by omega
  rcases hf with rfl | rfl | rfl | rfl | rfl <;> rfl
def evenB (x : Int) : Prop := iand IntKind.i64 x 1 = 0
noncomputable def partStep (b : Box) (i : Nat) (x : Int) : Box := open Classical in
  if evenB x then b.set i ⟨within (IntKind.i64.wrap (x.tdiv 2)) (b.get i).lo (b.get i).hi, (b.get i).hi⟩ else b.set i ⟨(b.get i).lo, within (IntKind.i64.wrap (x.tdiv 2)) (b.get i).lo (b.get i).hi⟩
noncomputable def partTo (b : Box) (l : List Int) : Nat → Box
  | 0 => b
  | j + 1 => if h : j < l.length then partStep (partTo b l j) j l[j] else partTo b l j
structure PartOk (b x : Box) : Prop where
  some : x.empty = false
  sub : ∀ i : Int, 0 ≤ i → i < 5 → (b.get i).lo ≤ (x.get i).lo ∧ (x.get i).hi ≤ (b.get i).hi
theorem PartOk.set {b x : Box} (h : PartOk b x) {i : Nat} (hi : i < 5) {s : Span} (h1 : s.lo ≤ s.hi) (h2 : (x.get i).lo ≤ s.lo) (h3 : s.hi ≤ (x.get i).hi) : PartOk b (x.set i s) := by
  refine ⟨empty_get.2 fun j j0 j5 => ?_, fun j j0 j5 => ?_⟩
  · rw [set_get_ite x s (by omega) (by omega) j0 j5]
    split
    · exact h1
    · exact get_spans h.some j
  · rw [set_get_ite x s (by omega) (by omega) j0 j5]
    have := h.sub j j0 j5
    split
    · rename_i e; subst e; omega
    · exact this
theorem partStep_ok {b x : Box} (h : PartOk b x) {i : Nat} (hi : i < 5) (n : Int) : PartOk b (partStep x i n) := by
  have hl := get_spans h.some (i : Int)
  have hw := within_le (IntKind.i64.wrap (n.tdiv 2)) (x.get i).lo (x.get i).hi hl
  unfold partStep
  split
  · exact h.set hi (by simp only; omega) (by simp only; omega) (by simp only; omega)
  · exact h.set hi (by simp only; omega) (by simp only; omega) (by simp only; omega)
theorem partTo_ok {b : Box} (hb : b.empty = false) (l : List Int) : ∀ {j : Nat}, j ≤ 5 → PartOk b (partTo b l j)
  | 0, _ => ⟨hb, fun i _ _ => ⟨Int.le_refl _, Int.le_refl _⟩⟩
  | j + 1, h => by
    unfold partTo
    split
    · exact partStep_ok (partTo_ok hb l (by omega)) (by omega) _
    · exact partTo_ok hb l (by omega)
theorem PartOk.small {b x : Box} (h : PartOk b x) (hb : smallB b) : smallB x := by
  have key : ∀ i : Int, 0 ≤ i → i < 5 → Co.small (x.get i) := fun i i0 i5 => by
    have h1 := get_small hb i
    have h2 := h.sub i i0 i5
    have h3 := get_spans h.some i
    unfold Co.small at *
    omega
  exact ⟨key 0 (by omega) (by omega), key 1 (by omega) (by omega), key 2 (by omega) (by omega), key 3 (by omega) (by omega), key 4 (by omega) (by omega)⟩
theorem small_ok {b : Box} (h : smallB b) (he : b.empty = false) : okB b := by
  have key : ∀ i : Int, 0 ≤ i → i < 5 → okS64 (b.get i) := fun i i0 i5 => by
    have h1 := get_small h i
    have h2 := get_spans he i
    unfold Co.small at h1
    unfold okS64 ok64
    omega
  exact ⟨key 0 (by omega) (by omega), key 1 (by omega) (by omega), key 2 (by omega) (by omega), key 3 (by omega) (by omega), key 4 (by omega) (by omega)⟩
noncomputable def PartC (b : Box) (l : List Int) : Option Box := Part (smallB b ∧ b.empty = false) (partTo b l 5)
set_option maxHeartbeats 2000000 in
set_option maxRecDepth 8000 in
theorem runs_part (b : Box) (l : List Int) (r : Box) (h : PartC b l = some r) : Runs (tbl [(24, sp3 Within)]) a55 [Arg.enc b, Arg.enc l] (Arg.enc r) := by
  obtain ⟨⟨hs, he⟩, rfl⟩ := part_some h
  clear h
  refine ⟨rfl, fun g => run_def ?_⟩
  unfold a55
  simp -implicitDefEqProofs []
  refine run_while (c := c55_13) (fun n s => ∃ (j : Nat) (g : Nat → Nat), j + n = 5 ∧ s = ⟨[(1, .lst l.length (encL l)), (2, .ptr 2 (g 2) 0), (4, .ptr 4 (g 4) 0), (5, .int .i64 j)], [(2, ⟨Row.enc (partTo b l j), false, 0⟩), (4, ⟨Row.enc zeroB, false, 0⟩)], g⟩) 5 ⟨0, bump 4 (bump 2 g), by omega, by simp [partTo, zeroB]⟩ ?_
  rintro n s ⟨j, g, hj, rfl⟩
  have w1 : IntKind.i64.wrap ((j : Int) + 1) = (j : Int) + 1 := wrap64 (by omega) (by omega)
  by_cases h1 : j < l.length ∧ j < 5
  case pos =>
    have c1 : j < l.length := h1.1
    have c2 : (j : Int) < 5 := by omega
    have c3 : j < 5 := h1.2
    have c4 : j * 2 ≤ 9 := by omega
    have c5 : j * 2 ≤ 8 := by omega
    have hrow := rd_ints l j c1
    have hx := partTo_ok he l (j := j) (by omega)
    have hstep : partTo b l (j + 1) = partStep (partTo b l j) j l[j] := by rw [partTo, dif_pos c1]
    have hxs := get_small (hx.small hs) (j : Int)
    have hxl := get_spans hx.some (j : Int)
    generalize l[j] = n0 at *
    generalize partTo b l j = x at *
    unfold small at hxs
    have hW := within_of (IntKind.i64.wrap (n0.tdiv 2)) (x.get j).lo (x.get j).hi (by omega)
    have r1 := rd_nlo x j c3
    have r2 := rd_nhi x j c3
    have q1 := wr_nlo x j c3 (within (IntKind.i64.wrap (n0.tdiv 2)) (x.get j).lo (x.get j).hi)
    have q2 := wr_nhi x j c3 (within (IntKind.i64.wrap (n0.tdiv 2)) (x.get j).lo (x.get j).hi)
    unfold partStep at hstep
    by_cases hev : evenB n0
    · rw [if_pos hev] at hstep
      unfold evenB at hev
      simp -implicitDefEqProofs [c1, c2, c3, hrow, w1, hW, r1, r2, q1, hev, c4, c5]
      exact fun _ => ⟨n - 1, by omega, j + 1, by omega, by omega, by rw [hstep], by rw [hstep], by rw [hstep], by rw [hstep], by rw [hstep], by rw [hstep], by rw [hstep], by rw [hstep], by rw [hstep], by rw [hstep]⟩
    · rw [if_neg hev] at hstep
      unfold evenB at hev
      simp -implicitDefEqProofs [c1, c2, c3, hrow, w1, hW, r1, r2, q2, hev, c4, c5]
      exact fun _ => ⟨n - 1, by omega, j + 1, by omega, by omega, by rw [hstep], by rw [hstep], by rw [hstep], by rw [hstep], by rw [hstep], by rw [hstep], by rw [hstep], by rw [hstep], by rw [hstep], by rw [hstep]⟩
  case neg =>
    have hfin : partTo b l j = partTo b l 5 := by
      have key : ∀ k, j ≤ k → k ≤ 5 → partTo b l k = partTo b l j := by
        intro k hk
        induction k with
        | zero => intro _; rw [show j = 0 by omega]
        | succ k ih =>
          intro h5
          by_cases e : j = k + 1
          · rw [e]
          · rw [partTo, dif_neg (by omega)]
            exact ih (by omega) (by omega)
      exact (key 5 (by omega) (by omega)).symm
    by_cases c1 : j < l.length
    · have c2 : ¬ (j : Int) < 5 := by omega
      rw [hfin]
      simp -implicitDefEqProofs [c1, c2]
    · rw [hfin]
      simp -implicitDefEqProofs [c1]
theorem c_part : Contract Try.prog 55 (sp2 PartC) :=
  contract_of_runs mixed (tbl_cons c_Within tbl_nil) Try.func55 m55 (sp2_runs runs_part)
theorem cut_sub (b : Box) {k : Int} (h0 : 0 ≤ k) (h5 : k < 5) (n : Int) : (∀ p t, InB (cutB b k n).1 p t → InB b p t) ∧ (∀ p t, InB (cutB b k n).2 p t → InB b p t) := by
  unfold cutB
  rw [if_pos ⟨h0, h5⟩]
  constructor
  · intro p t h
    rw [inB_pt] at h ⊢
    intro i i0 i5
    have := h i i0 i5
    simp only at this
    rw [set_get_ite b _ h0 h5 i0 i5] at this
    split at this
    · rename_i e
      subst e
      exact ((cutS_1 _ _ _).1 this).1
    · exact this
  · intro p t h
    rw [inB_pt] at h ⊢
    intro i i0 i5
    have := h i i0 i5
    simp only at this
    rw [set_get_ite b _ h0 h5 i0 i5] at this
    split at this
    · rename_i e
      subst e
      exact ((cutS_2 _ _ _).1 this).1
    · exact this
def sp7 {α0 α1 α2 α3 α4 α5 α6 γ : Type} [Arg α0] [Arg α1] [Arg α2] [Arg α3] [Arg α4] [Arg α5] [Arg α6] [Arg γ] (F : α0 → α1 → α2 → α3 → α4 → α5 → α6 → Option γ) : List AV → Option AV
  | [x0, x1, x2, x3, x4, x5, x6] => (Arg.dec x0).bind fun a0 => (Arg.dec x1).bind fun a1 => (Arg.dec x2).bind fun a2 => (Arg.dec x3).bind fun a3 => (Arg.dec x4).bind fun a4 => (Arg.dec x5).bind fun a5 => (Arg.dec x6).bind fun a6 => (F a0 a1 a2 a3 a4 a5 a6).map Arg.enc
  | _ => none
theorem sp7_runs {α0 α1 α2 α3 α4 α5 α6 γ : Type} [Arg α0] [Arg α1] [Arg α2] [Arg α3] [Arg α4] [Arg α5] [Arg α6] [Arg γ] {F : α0 → α1 → α2 → α3 → α4 → α5 → α6 → Option γ} {C : Cs} {A : AFun} (h : ∀ a0 a1 a2 a3 a4 a5 a6 c, F a0 a1 a2 a3 a4 a5 a6 = some c → Runs C A [Arg.enc a0, Arg.enc a1, Arg.enc a2, Arg.enc a3, Arg.enc a4, Arg.enc a5, Arg.enc a6] (Arg.enc c)) : ∀ args r, sp7 F args = some r → Runs C A args r := by
  intro args r hr
  unfold sp7 at hr
  split at hr
  · rw [Option.bind_eq_some_iff] at hr
    obtain ⟨a0, h0, hr⟩ := hr
    rw [Option.bind_eq_some_iff] at hr
    obtain ⟨a1, h1, hr⟩ := hr
    rw [Option.bind_eq_some_iff] at hr
    obtain ⟨a2, h2, hr⟩ := hr
    rw [Option.bind_eq_some_iff] at hr
    obtain ⟨a3, h3, hr⟩ := hr
    rw [Option.bind_eq_some_iff] at hr
    obtain ⟨a4, h4, hr⟩ := hr
    rw [Option.bind_eq_some_iff] at hr
    obtain ⟨a5, h5, hr⟩ := hr
    rw [Option.bind_eq_some_iff] at hr
    obtain ⟨a6, h6, hr⟩ := hr
    rw [Option.map_eq_some_iff] at hr
    obtain ⟨c, hc, rfl⟩ := hr
    rw [Arg.enc_dec _ _ h0]
    rw [Arg.enc_dec _ _ h1]
    rw [Arg.enc_dec _ _ h2]
    rw [Arg.enc_dec _ _ h3]
    rw [Arg.enc_dec _ _ h4]
    rw [Arg.enc_dec _ _ h5]
    rw [Arg.enc_dec _ _ h6]
    exact h a0 a1 a2 a3 a4 a5 a6 c hc
  · cases hr
end Go.Co
