/- CO: the pieces of a tree within a box. -/
import Derived.Test.YtcjflbmpfmibbaaCoF
namespace Go.Co
open Go.Am Go.Proofs
set_option linter.unusedSimpArgs false
set_option linter.unusedVariables false
def c29_0 : ACode := .ops [⟨some 3, .box (.t 1) 10, none, []⟩,
  ⟨some 4, .mv (.c (.nils)), none, []⟩] [0, 3]
theorem r29_0 : type_of% (@rr _ _ c29_0.eq_1) := rr c29_0.eq_1
def c29_1 : ACode := .ops [⟨some 11, .mv (.t 0), none, []⟩,
  ⟨some 12, .call 19 [.t 11, .c (.int .i64 4)], none, []⟩,
  ⟨some 13, .un .not (.t 12), none, []⟩,
  ⟨some 14, .mv (.t 13), none, []⟩,
  ⟨some 15, .load 10 true (.t 3), some (14, false), [3]⟩,
  ⟨some 16, .call 66 [.t 15], some (14, false), []⟩,
  ⟨some 17, .pick (.t 14) (.c (.bool true)) (.t 16), none, []⟩] [0, 3, 17]
theorem r29_1 : type_of% (@rr _ _ c29_1.eq_1) := rr c29_1.eq_1
def c29_2 : ACode := .ops [⟨some 4, .mv (.c (.nils)), none, []⟩] [4]
theorem r29_2 : type_of% (@rr _ _ c29_2.eq_1) := rr c29_2.eq_1
def c29_3 : ACode := .seq c29_2 .ret
theorem r29_3 : type_of% (@rr _ _ c29_3.eq_1) := rr c29_3.eq_1
def c29_4 : ACode := .cond (.t 17) c29_3 .skip
theorem r29_4 : type_of% (@rr _ _ c29_4.eq_1) := rr c29_4.eq_1
def c29_5 : ACode := .seq c29_1 c29_4
theorem r29_5 : type_of% (@rr _ _ c29_5.eq_1) := rr c29_5.eq_1
def c29_6 : ACode := .ops [⟨some 18, .mv (.t 0), none, []⟩,
  ⟨some 19, .len (.t 18), none, []⟩,
  ⟨some 20, .mks 5 (.t 19) 10 [.int .i64 0, .int .i64 0, .int .i64 0, .int .i64 0, .int .i64 0, .int .i64 0, .int .i64 0, .int .i64 0, .int .i64 0, .int .i64 0], none, []⟩,
  ⟨some 5, .mv (.t 20), none, []⟩] [0, 3, 5]
theorem r29_6 : type_of% (@rr _ _ c29_6.eq_1) := rr c29_6.eq_1
def c29_7 : ACode := .ops [⟨some 21, .mv (.t 5), none, []⟩,
  ⟨some 22, .load 10 true (.t 3), none, [3]⟩,
  ⟨some 23, .ias (.t 21) (.c (.int .i64 0)) 10, none, [5]⟩,
  ⟨none, .store (.t 23) 10 (.t 22), none, [5]⟩] [0, 5]
theorem r29_7 : type_of% (@rr _ _ c29_7.eq_1) := rr c29_7.eq_1
def c29_8 : ACode := .ops [⟨some 6, .nil0 6 11, none, []⟩] [0, 5, 6]
theorem r29_8 : type_of% (@rr _ _ c29_8.eq_1) := rr c29_8.eq_1
def c29_9 : ACode := .ops [⟨some 24, .mv (.t 0), none, []⟩,
  ⟨some 25, .len (.t 24), none, []⟩,
  ⟨some 26, .mv (.c (.int .i64 0)), none, []⟩] [5, 6, 24, 25, 26]
theorem r29_9 : type_of% (@rr _ _ c29_9.eq_1) := rr c29_9.eq_1
def c29_10 : ACode := .ops [⟨some 27, .bin .lss (.t 26) (.t 25), none, []⟩] [5, 6, 24, 25, 26, 27]
theorem r29_10 : type_of% (@rr _ _ c29_10.eq_1) := rr c29_10.eq_1
def c29_11 : ACode := .cond (.t 27) .skip (.exit 0)
theorem r29_11 : type_of% (@rr _ _ c29_11.eq_1) := rr c29_11.eq_1
def c29_12 : ACode := .ops [⟨some 28, .mv (.t 26), none, []⟩,
  ⟨some 29, .ias (.t 24) (.t 26) 1, none, []⟩,
  ⟨some 30, .load 1 false (.t 29), none, []⟩,
  ⟨some 7, .mv (.t 28), none, []⟩,
  ⟨some 8, .mv (.t 30), none, []⟩] [5, 6, 7, 8, 24, 25, 26]
theorem r29_12 : type_of% (@rr _ _ c29_12.eq_1) := rr c29_12.eq_1
def c29_13 : ACode := .ops [⟨some 32, .mv (.t 8), none, []⟩,
  ⟨some 33, .call 20 [.t 32], none, []⟩,
  ⟨some 31, .mv (.t 33), none, []⟩,
  ⟨some 34, .ext (.t 31) 0, none, []⟩,
  ⟨some 35, .ext (.t 31) 1, none, []⟩,
  ⟨some 9, .alloc [.bool false, .int .i64 0, .int .i64 0, .int .i64 0, .int .i64 0, .int .i64 0], none, []⟩,
  ⟨none, .store (.t 9) 6 (.t 34), none, [9]⟩,
  ⟨some 10, .mv (.t 35), none, []⟩] [5, 6, 7, 9, 24, 25, 26]
theorem r29_13 : type_of% (@rr _ _ c29_13.eq_1) := rr c29_13.eq_1
def c29_14 : ACode := .ops [⟨some 37, .fad (.t 9) 0, none, [9]⟩,
  ⟨some 38, .load 1 false (.t 37), none, [9]⟩,
  ⟨some 39, .un .not (.t 38), none, []⟩,
  ⟨some 36, .mv (.t 39), none, []⟩] [5, 6, 7, 9, 24, 25, 26, 36]
theorem r29_14 : type_of% (@rr _ _ c29_14.eq_1) := rr c29_14.eq_1
def c29_15 : ACode := .ops [⟨some 41, .mv (.t 5), none, []⟩,
  ⟨some 42, .fad (.t 9) 4, none, [9]⟩,
  ⟨some 43, .load 1 false (.t 42), none, [9]⟩,
  ⟨some 44, .mv (.t 5), none, []⟩,
  ⟨some 45, .fad (.t 9) 5, none, [9]⟩,
  ⟨some 46, .load 1 false (.t 45), none, [9]⟩,
  ⟨some 47, .mv (.t 5), none, []⟩,
  ⟨some 48, .mv (.t 7), none, []⟩,
  ⟨some 49, .ias (.t 47) (.t 48) 10, none, [5]⟩,
  ⟨some 50, .load 10 true (.t 49), none, [5]⟩,
  ⟨some 51, .fad (.t 9) 2, none, [9]⟩,
  ⟨some 52, .load 1 false (.t 51), none, [9]⟩,
  ⟨some 53, .fad (.t 9) 3, none, [9]⟩,
  ⟨some 54, .load 1 false (.t 53), none, [9]⟩,
  ⟨some 55, .call 58 [.t 50, .t 52, .t 54], none, []⟩,
  ⟨some 40, .mv (.t 55), none, []⟩,
  ⟨some 56, .ext (.t 40) 0, none, []⟩,
  ⟨some 57, .ext (.t 40) 1, none, []⟩,
  ⟨some 58, .ias (.t 41) (.t 43) 10, none, [5]⟩,
  ⟨none, .store (.t 58) 10 (.t 56), none, [5]⟩,
  ⟨some 59, .ias (.t 44) (.t 46) 10, none, [5]⟩,
  ⟨none, .store (.t 59) 10 (.t 57), none, [5]⟩] [5, 6, 24, 25, 26]
theorem r29_15 : type_of% (@rr _ _ c29_15.eq_1) := rr c29_15.eq_1
def c29_16 : ACode := .ops [⟨some 61, .mv (.t 5), none, []⟩,
  ⟨some 62, .mv (.t 7), none, []⟩,
  ⟨some 63, .ias (.t 61) (.t 62) 10, none, [5]⟩,
  ⟨some 64, .load 10 true (.t 63), none, [5]⟩,
  ⟨some 65, .call 66 [.t 64], none, []⟩,
  ⟨some 66, .un .not (.t 65), none, []⟩,
  ⟨some 60, .mv (.t 66), none, []⟩] [5, 6, 7, 9, 24, 25, 26, 60]
theorem r29_16 : type_of% (@rr _ _ c29_16.eq_1) := rr c29_16.eq_1
def c29_17 : ACode := .ops [⟨some 67, .mv (.t 6), none, []⟩,
  ⟨some 68, .mv (.t 5), none, []⟩,
  ⟨some 69, .mv (.t 7), none, []⟩,
  ⟨some 70, .ias (.t 68) (.t 69) 10, none, [5]⟩,
  ⟨some 71, .load 10 true (.t 70), none, [5]⟩,
  ⟨some 72, .fad (.t 9) 1, none, [9]⟩,
  ⟨some 73, .load 1 false (.t 72), none, [9]⟩,
  ⟨some 74, .build [.int .i64 0, .int .i64 0, .int .i64 0, .int .i64 0, .int .i64 0, .int .i64 0, .int .i64 0, .int .i64 0, .int .i64 0, .int .i64 0, .int .i64 0] [(0, 10, .t 71), (10, 1, .t 73)], none, []⟩,
  ⟨some 75, .mkrow 75 1 11 [.int .i64 0, .int .i64 0, .int .i64 0, .int .i64 0, .int .i64 0, .int .i64 0, .int .i64 0, .int .i64 0, .int .i64 0, .int .i64 0, .int .i64 0] [(0, 11, .t 74)], none, []⟩,
  ⟨some 76, .app 6 [6] (.t 67) (.t 75) 11, none, [6, 75]⟩,
  ⟨some 6, .mv (.t 76), none, []⟩] [5, 6, 24, 25, 26]
theorem r29_17 : type_of% (@rr _ _ c29_17.eq_1) := rr c29_17.eq_1
def c29_18 : ACode := .cond (.t 60) c29_17 .skip
theorem r29_18 : type_of% (@rr _ _ c29_18.eq_1) := rr c29_18.eq_1
def c29_19 : ACode := .seq c29_16 c29_18
theorem r29_19 : type_of% (@rr _ _ c29_19.eq_1) := rr c29_19.eq_1
def c29_20 : ACode := .cond (.t 36) c29_15 c29_19
theorem r29_20 : type_of% (@rr _ _ c29_20.eq_1) := rr c29_20.eq_1
def c29_21 : ACode := .seq c29_14 c29_20
theorem r29_21 : type_of% (@rr _ _ c29_21.eq_1) := rr c29_21.eq_1
def c29_22 : ACode := .block 2 c29_21
theorem r29_22 : type_of% (@rr _ _ c29_22.eq_1) := rr c29_22.eq_1
def c29_23 : ACode := .seq c29_13 c29_22
theorem r29_23 : type_of% (@rr _ _ c29_23.eq_1) := rr c29_23.eq_1
def c29_24 : ACode := .seq c29_12 c29_23
theorem r29_24 : type_of% (@rr _ _ c29_24.eq_1) := rr c29_24.eq_1
def c29_25 : ACode := .block 1 c29_24
theorem r29_25 : type_of% (@rr _ _ c29_25.eq_1) := rr c29_25.eq_1
def c29_26 : ACode := .ops [⟨some 77, .bin .add (.t 26) (.c (.int .i64 1)), none, []⟩,
  ⟨some 26, .mv (.t 77), none, []⟩] [5, 6, 24, 25, 26]
theorem r29_26 : type_of% (@rr _ _ c29_26.eq_1) := rr c29_26.eq_1
def c29_27 : ACode := .seq c29_25 c29_26
theorem r29_27 : type_of% (@rr _ _ c29_27.eq_1) := rr c29_27.eq_1
def c29_28 : ACode := .seq c29_11 c29_27
theorem r29_28 : type_of% (@rr _ _ c29_28.eq_1) := rr c29_28.eq_1
def c29_29 : ACode := .seq c29_10 c29_28
theorem r29_29 : type_of% (@rr _ _ c29_29.eq_1) := rr c29_29.eq_1
def c29_30 : ACode := .keep [5, 6, 24, 25, 26] [5, 6] c29_29
theorem r29_30 : type_of% (@rr _ _ c29_30.eq_1) := rr c29_30.eq_1
def c29_31 : ACode := .loop c29_30
theorem r29_31 : type_of% (@rr _ _ c29_31.eq_1) := rr c29_31.eq_1
def c29_32 : ACode := .block 0 c29_31
theorem r29_32 : type_of% (@rr _ _ c29_32.eq_1) := rr c29_32.eq_1
def c29_33 : ACode := .seq c29_9 c29_32
theorem r29_33 : type_of% (@rr _ _ c29_33.eq_1) := rr c29_33.eq_1
def c29_34 : ACode := .ops [⟨some 78, .mv (.t 6), none, []⟩,
  ⟨some 4, .mv (.t 78), none, []⟩] [4]
theorem r29_34 : type_of% (@rr _ _ c29_34.eq_1) := rr c29_34.eq_1
def c29_35 : ACode := .seq c29_34 .ret
theorem r29_35 : type_of% (@rr _ _ c29_35.eq_1) := rr c29_35.eq_1
def c29_36 : ACode := .seq c29_33 c29_35
theorem r29_36 : type_of% (@rr _ _ c29_36.eq_1) := rr c29_36.eq_1
def c29_37 : ACode := .seq c29_8 c29_36
theorem r29_37 : type_of% (@rr _ _ c29_37.eq_1) := rr c29_37.eq_1
def c29_38 : ACode := .seq c29_7 c29_37
theorem r29_38 : type_of% (@rr _ _ c29_38.eq_1) := rr c29_38.eq_1
def c29_39 : ACode := .seq c29_6 c29_38
theorem r29_39 : type_of% (@rr _ _ c29_39.eq_1) := rr c29_39.eq_1
def c29_40 : ACode := .seq c29_5 c29_39
theorem r29_40 : type_of% (@rr _ _ c29_40.eq_1) := rr c29_40.eq_1
def c29_41 : ACode := .seq c29_0 c29_40
theorem r29_41 : type_of% (@rr _ _ c29_41.eq_1) := rr c29_41.eq_1
def a29 : AFun := ⟨2, 79, c29_41, [.t 4]⟩
attribute [simp] r29_0 r29_1 r29_2 r29_3 r29_4 r29_5 r29_6 r29_7 r29_8 r29_9 r29_10 r29_11 r29_12 r29_13 r29_14 r29_15 r29_16 r29_17 r29_18 r29_19 r29_20 r29_21 r29_22 r29_23 r29_24 r29_25 r29_26 r29_27 r29_28 r29_29 r29_30 r29_31 r29_32 r29_33 r29_34 r29_35 r29_36 r29_37 r29_38 r29_39 r29_40 r29_41
theorem m29 : mFun Try.prog Try.f29 a29 = true := by decide +kernel
def okS64 (s : Span) : Prop := ok64 s.lo ∧ ok64 s.hi
def okB (b : Box) : Prop := okS64 b.s0 ∧ okS64 b.s1 ∧ okS64 b.s2 ∧ okS64 b.s3 ∧ okS64 b.s4
theorem okS_of {lo hi : Int} (h : ok64 lo) (h' : ok64 hi) : okS64 (ofS lo hi) := by
  unfold ofS
  split
  · unfold okS64 ok64 noneS; simp only; omega
  · exact ⟨h, h'⟩
theorem okS_cut {s : Span} (h : okS64 s) {n : Int} (hn : ok64 n) : okS64 (cutS s n).1 ∧ okS64 (cutS s n).2 := by
  unfold cutS
  split
  · exact ⟨okS_of h.1 h.2, by unfold okS64 ok64 noneS; simp only; omega⟩
  · refine ⟨okS_of h.1 hn, okS_of ?_ h.2⟩
    have := h.1
    have := h.2
    unfold ok64 at *
    split <;> omega
theorem okB_get {b : Box} (h : okB b) (i : Int) : okS64 (b.get i) := by
  obtain ⟨h0, h1, h2, h3, h4⟩ := h
  unfold Box.get
  split
  · exact h0
  · split
    · exact h1
    · split
      · exact h2
      · split
        · exact h3
        · exact h4
theorem okB_set {b : Box} (h : okB b) (i : Int) {s : Span} (hs : okS64 s) : okB (b.set i s) := by
  obtain ⟨h0, h1, h2, h3, h4⟩ := h
  unfold Box.set
  split
  · exact ⟨hs, h1, h2, h3, h4⟩
  · split
    · exact ⟨h0, hs, h2, h3, h4⟩
    · split
      · exact ⟨h0, h1, hs, h3, h4⟩
      · split
        · exact ⟨h0, h1, h2, hs, h4⟩
        · exact ⟨h0, h1, h2, h3, hs⟩
theorem okB_cut {b : Box} (h : okB b) (i : Int) {n : Int} (hn : ok64 n) : okB (cutB b i n).1 ∧ okB (cutB b i n).2 := by
  unfold cutB
  split
  · have := okS_cut (okB_get h i) hn
    exact ⟨okB_set h i this.1, okB_set h i this.2⟩
  · exact ⟨h, h⟩
theorem ok64_fits {n : Int} (h : fits n = true) : ok64 n := by have := of_fits h; unfold ok64; omega
theorem okB_zero : okB zeroB := by unfold okB okS64 ok64 zeroB; simp only; omega
theorem okB_own {l : List Word} {dim : Int} (hr : RT l dim) {b : Box} (hb : okB b) : ∀ (i j : Nat), i ≤ l.length → okB (ownF l b i j)
  | 0, j, _ => by
    unfold ownF up
    split
    · exact hb
    · exact okB_zero
  | i + 1, j, hi => by
    unfold ownF
    have h0 := fun j => okB_own hr hb i j (by omega)
    split
    · exact h0 j
    · have hc := okB_cut (h0 i) (ndAt l i).feature (ok64_fits (hr.cutOk (show i < l.length by omega)))
      unfold up
      split
      · exact hc.2
      · split
        · exact hc.1
        · exact h0 j
theorem cutB_of {b : Box} (h : okB b) (i : Int) {n : Int} (hn : ok64 n) : CutB b i n = some (cutB b i n) := by
  unfold CutB
  rw [if_pos ⟨hn, (okB_get h i).2⟩]
theorem RT.four {l : List Word} {dim : Int} (h : RT l dim) : RT l 4 := by
  refine ⟨h.ok, h.pos, h.le, fun i hi hl => ?_, h.once⟩
  have h1 := h.inner i hi hl
  have h2 := h.feature hi (by rw [ndAt_lt hi]; exact hl)
  rw [ndAt_lt hi] at h2
  exact ⟨h2.2, h1.2⟩
def ownL (l : List Word) (b : Box) (i : Nat) : List Box := (List.range l.length).map (ownF l b i)
theorem ownL_len (l : List Word) (b : Box) (i : Nat) : (ownL l b i).length = l.length := by simp [ownL]
theorem ownL_get (l : List Word) (b : Box) (i j : Nat) (h : j < (ownL l b i).length) : (ownL l b i)[j] = ownF l b i j := by simp [ownL]
theorem ownL_zero (l : List Word) (b : Box) (h : 0 < l.length) : ownL l b 0 = (List.replicate l.length zeroB).set 0 b := by
  apply List.ext_getElem
  · simp [ownL]
  · intro j h1 h2
    rw [ownL_get, List.getElem_set]
    unfold ownF up
    by_cases hj : j = 0
    · subst hj; simp
    · rw [if_neg hj, if_neg (Ne.symm hj)]; simp
theorem ownL_leaf {l : List Word} (b : Box) {i : Nat} (hl : (ndAt l i).leaf = true) : ownL l b (i + 1) = ownL l b i := by
  unfold ownL
  congr 1
  funext j
  rw [ownF, hl]
  rfl
theorem ownL_inner {l : List Word} (b : Box) {i : Nat} (hl : (ndAt l i).leaf = false) : ownL l b (i + 1) =
    ((ownL l b i).set (ndAt l i).left.toNat (cutB (own l b i) (ndAt l i).feature (ndAt l i).cut).1).set (ndAt l i).right.toNat (cutB (own l b i) (ndAt l i).feature (ndAt l i).cut).2 := by
  apply List.ext_getElem
  · simp [ownL]
  · intro j h1 h2
    rw [ownL_get, List.getElem_set, List.getElem_set, ownF, hl]
    simp only [Bool.false_eq_true, if_false, up, ownL_get]
    by_cases e1 : j = (ndAt l i).right.toNat
    · rw [if_pos e1, if_pos e1.symm]; rfl
    · rw [if_neg e1, if_neg (Ne.symm e1)]
      by_cases e2 : j = (ndAt l i).left.toNat
      · rw [if_pos e2, if_pos e2.symm]; rfl
      · rw [if_neg e2, if_neg (Ne.symm e2)]
def piecesTo (l : List Word) (b : Box) (i : Nat) : List Piece := (List.range i).filterMap (pieceAt l b)
theorem piecesTo_succ (l : List Word) (b : Box) (i : Nat) : piecesTo l b (i + 1) = piecesTo l b i ++ (pieceAt l b i).toList := by
  unfold piecesTo
  rw [List.range_succ, List.filterMap_append]
  congr 1
theorem piecesTo_len (l : List Word) (b : Box) (i : Nat) : (piecesTo l b i).length ≤ i := by
  unfold piecesTo
  have := List.length_filterMap_le (pieceAt l b) (List.range i)
  simpa using this
theorem rd_box (l : List Box) (i : Nat) (h : i < l.length) : rd (encL l) (i * 10) 10 true = some (Arg.enc l[i]) := rd_row l i h
theorem wr_box (l : List Box) (i : Nat) (h : i < l.length) (b : Box) : wr (encL l) (i * 10) [.int .i64 b.s0.lo, .int .i64 b.s0.hi, .int .i64 b.s1.lo, .int .i64 b.s1.hi, .int .i64 b.s2.lo, .int .i64 b.s2.hi, .int .i64 b.s3.lo, .int .i64 b.s3.hi, .int .i64 b.s4.lo, .int .i64 b.s4.hi] = encL (l.set i b) := wr_row l i h b
noncomputable def ListC (l : List Word) (b : Box) : Option (List Piece) := Part ((∃ d, RT l d) ∧ okB b) (if b.empty then [] else pieces l b)
set_option maxHeartbeats 1000000 in
theorem runs_List (l : List Word) (b : Box) (c : List Piece) (h : ListC l b = some c) : Runs (tbl [(19, sp2 TreeRight), (66, sp1 fun (b : Box) => some b.empty), (20, sp1 Unpack), (58, sp3 CutB)]) a29 [Arg.enc l, Arg.enc b] (Arg.enc c) := by
  obtain ⟨⟨⟨d, hr⟩, hb⟩, rfl⟩ := part_some h
  refine ⟨rfl, fun g => run_def ?_⟩
  unfold a29
  have hT : TreeRight l 4 = some true := part_of hr.four _
  cases he : b.empty
  case true => simp -implicitDefEqProofs [hT, he, encL_nil]
  have hp := hr.pos
  have hle := hr.le
  have b3 : l.length ≤ maxN := by unfold maxN; omega
  have b4 : (l.length : Int) ≤ 1099511627776 := by omega
  have b5 : (0 : Int) < l.length := by omega
  have hz : rep l.length [.int .i64 0, .int .i64 0, .int .i64 0, .int .i64 0, .int .i64 0, .int .i64 0, .int .i64 0, .int .i64 0, .int .i64 0, .int .i64 0] = encL (List.replicate l.length zeroB) := rep_enc l.length zeroB
  have hw0 : wr (encL (List.replicate l.length zeroB)) 0 [.int .i64 b.s0.lo, .int .i64 b.s0.hi, .int .i64 b.s1.lo, .int .i64 b.s1.hi, .int .i64 b.s2.lo, .int .i64 b.s2.hi, .int .i64 b.s3.lo, .int .i64 b.s3.hi, .int .i64 b.s4.lo, .int .i64 b.s4.hi] = encL (ownL l b 0) := by
    rw [ownL_zero l b (by omega)]
    exact wr_box (List.replicate l.length zeroB) 0 (by simp; omega) b
  have hlen : 10 ≤ (encL (List.replicate l.length zeroB)).length := by rw [encL_length]; simp; omega
  have b6 : 0 < l.length := by omega
  simp -implicitDefEqProofs [hT, he, b3, b4, b6, hp, hz, hw0, hlen, -Go.Am.rep]
  refine run_while (c := c29_29) (fun n s => ∃ (i : Nat) (g : Nat → Nat), i + n = l.length ∧ s = ⟨[(5, .own 5 (g 5) 0 l.length), (6, .own 6 (g 6) 0 (piecesTo l b i).length), (24, .lst l.length (encL l)), (25, .int .i64 l.length), (26, .int .i64 i)],
    [(5, ⟨encL (ownL l b i), false, 10⟩), (6, ⟨encL (piecesTo l b i), false, 11⟩)], g⟩) l.length ⟨0, bump 6 (bump 5 (bump 3 g)), by omega, by simp [piecesTo, encL_nil]⟩ ?_
  rintro n s ⟨i, g, hi, rfl⟩
  have w1 : IntKind.i64.wrap ((i : Int) + 1) = (i : Int) + 1 := wrap64 (by omega) (by omega)
  by_cases h1 : i < l.length
  case pos =>
    have hU := unpack_at hr h1
    have hlen : i * 10 + 10 ≤ (encL (ownL l b i)).length := by rw [encL_length, ownL_len]; simp; omega
    have hrow : rd (encL (ownL l b i)) (i * 10) 10 true = some (Arg.enc (own l b i)) := by
      rw [rd_box _ _ (by rw [ownL_len]; exact h1), ownL_get]
      rfl
    cases hl : (ndAt l i).leaf
    case true =>
      cases hE : (own l b i).empty
      case true =>
        have hp1 : piecesTo l b (i + 1) = piecesTo l b i := by rw [piecesTo_succ, pieceAt, hl, hE]; simp
        have ho := ownL_leaf b hl
        simp -implicitDefEqProofs [h1, rd_words, hU, hl, w1, hrow, hE]
        exact ⟨n - 1, by omega, i + 1, by omega, ⟨by rw [hp1], by omega⟩, by rw [ho], by rw [hp1]⟩
      case false =>
        have hp1 : piecesTo l b (i + 1) = piecesTo l b i ++ [⟨own l b i, (ndAt l i).value⟩] := by rw [piecesTo_succ, pieceAt, hl, hE]; simp
        have ho := ownL_leaf b hl
        have hpl := piecesTo_len l b i
        have c1 : (piecesTo l b i).length * 11 ≤ (encL (piecesTo l b i)).length := by rw [encL_length]; simp
        have c2 : (piecesTo l b i).length ≤ 1099511627775 := by omega
        have htk : List.take ((piecesTo l b i).length * 11) (encL (piecesTo l b i)) = encL (piecesTo l b i) := take_rows _ _ (by simp)
        simp -implicitDefEqProofs [h1, rd_words, hU, hl, w1, hrow, hE, c1, c2, htk]
        exact ⟨n - 1, by omega, i + 1, by omega, ⟨by rw [hp1]; simp, by omega⟩, by rw [ho], by rw [hp1, encL_append]; rfl⟩
    case false =>
      have ha := hr.at h1 hl
      have f1 : 0 ≤ (ndAt l i).left := by omega
      have f2 : (ndAt l i).left < l.length := by omega
      have f3 : 0 ≤ (ndAt l i).right := by omega
      have f4 : (ndAt l i).right < l.length := by omega
      have f5 : (ndAt l i).left.toNat < l.length := by omega
      have f6 : (ndAt l i).right.toNat < l.length := by omega
      have hC := cutB_of (okB_own hr hb i i (by omega)) (ndAt l i).feature (ok64_fits (hr.cutOk h1))
      have hC : CutB (own l b i) (ndAt l i).feature (ndAt l i).cut = some (cutB (own l b i) (ndAt l i).feature (ndAt l i).cut) := hC
      have ho := ownL_inner b hl
      have hp1 : piecesTo l b (i + 1) = piecesTo l b i := by rw [piecesTo_succ, pieceAt, hl]; simp
      generalize cutB (own l b i) (ndAt l i).feature (ndAt l i).cut = z at *
      have hwA := wr_box (ownL l b i) (ndAt l i).left.toNat (by rw [ownL_len]; exact f5) z.1
      have hwB := wr_box ((ownL l b i).set (ndAt l i).left.toNat z.1) (ndAt l i).right.toNat (by rw [List.length_set, ownL_len]; exact f6) z.2
      simp -implicitDefEqProofs [h1, rd_words, hU, hl, w1, hrow, hC, f1, f2, f3, f4, hwA, hwB, encL_length, ownL_len]
      exact ⟨fun _ => ⟨fun _ => ⟨n - 1, by omega, i + 1, by omega, ⟨by rw [hp1], by omega⟩, by rw [ho], by rw [hp1]⟩, by omega⟩, by omega⟩
  case neg =>
    have hil : i = l.length := by omega
    subst hil
    have hpp : piecesTo l b l.length = pieces l b := rfl
    have c1 : (pieces l b).length * 11 ≤ (encL (pieces l b)).length := by rw [encL_length]; simp
    have htk : List.take ((pieces l b).length * 11) (encL (pieces l b)) = encL (pieces l b) := take_rows _ _ (by simp)
    simp -implicitDefEqProofs [h1, hpp, c1, htk]
theorem c_List : Contract Try.prog 29 (sp2 ListC) :=
  contract_of_runs mixed (tbl_cons c_tRight (tbl_cons c_bEmpty (tbl_cons c_Unpack (tbl_cons c_bCut tbl_nil)))) Try.func29 m29 (sp2_runs runs_List)
end Go.Co
