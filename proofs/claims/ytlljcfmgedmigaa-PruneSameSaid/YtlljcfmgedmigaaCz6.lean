/- CO: texts of this claim, one behind the other. -/
import Derived.Test.YtlljcfmgedmigaaCz4
import Derived.Test.YtlljcfmgedmigaaCz1
import Derived.Test.YtlljcfmgedmigaaCz5
import Derived.Test.YtlljcfmgedmigaaCz3
/- CO: the pieces of a tree within a box. -/
set_option maxHeartbeats 16000000
set_option maxRecDepth 100000
namespace Go.Co
open Go.Am Go.Proofs
set_option linter.unusedSimpArgs false
set_option linter.unusedVariables false
def c27_0 : ACode := .ops [⟨some 3, .box (.t 1) 10, none, []⟩,⟨some 4, .mv (.c (.nils)), none, []⟩] [0, 3]
theorem r27_0 : type_of% (@rr _ _ c27_0.eq_1) := rr rfl
def c27_1 : ACode := .ops [⟨some 11, .mv (.t 0), none, []⟩,⟨some 12, .call 14 [.t 11, .c (.int .i64 4)], none, []⟩,⟨some 13, .un .not (.t 12), none, []⟩,⟨some 14, .mv (.t 13), none, []⟩,⟨some 15, .load 10 true (.t 3), some (14, false), [3]⟩,⟨some 16, .call 49 [.t 15], some (14, false), []⟩,⟨some 17, .pick (.t 14) (.c (.bool true)) (.t 16), none, []⟩] [0, 3, 17]
theorem r27_1 : type_of% (@rr _ _ c27_1.eq_1) := rr rfl
def c27_2 : ACode := .ops [⟨some 4, .mv (.c (.nils)), none, []⟩] [4]
theorem r27_2 : type_of% (@rr _ _ c27_2.eq_1) := rr rfl
def c27_3 : ACode := .seq c27_2 .ret
theorem r27_3 : type_of% (@rr _ _ c27_3.eq_1) := rr rfl
def c27_4 : ACode := .cond (.t 17) c27_3 .skip
theorem r27_4 : type_of% (@rr _ _ c27_4.eq_1) := rr rfl
def c27_5 : ACode := .seq c27_1 c27_4
theorem r27_5 : type_of% (@rr _ _ c27_5.eq_1) := rr rfl
def c27_6 : ACode := .ops [⟨some 18, .mv (.t 0), none, []⟩,⟨some 19, .len (.t 18), none, []⟩,⟨some 20, .mks 5 (.t 19) 10 [.int .i64 0, .int .i64 0, .int .i64 0, .int .i64 0, .int .i64 0, .int .i64 0, .int .i64 0, .int .i64 0, .int .i64 0, .int .i64 0], none, []⟩,⟨some 5, .mv (.t 20), none, []⟩] [0, 3, 5]
theorem r27_6 : type_of% (@rr _ _ c27_6.eq_1) := rr rfl
def c27_7 : ACode := .ops [⟨some 21, .mv (.t 5), none, []⟩,⟨some 22, .load 10 true (.t 3), none, [3]⟩,⟨some 23, .ias (.t 21) (.c (.int .i64 0)) 10, none, [5]⟩,⟨none, .store (.t 23) 10 (.t 22), none, [5]⟩] [0, 5]
theorem r27_7 : type_of% (@rr _ _ c27_7.eq_1) := rr rfl
def c27_8 : ACode := .ops [⟨some 6, .nil0 6 11, none, []⟩] [0, 5, 6]
theorem r27_8 : type_of% (@rr _ _ c27_8.eq_1) := rr rfl
def c27_9 : ACode := .ops [⟨some 24, .mv (.t 0), none, []⟩,⟨some 25, .len (.t 24), none, []⟩,⟨some 26, .mv (.c (.int .i64 0)), none, []⟩] [5, 6, 24, 25, 26]
theorem r27_9 : type_of% (@rr _ _ c27_9.eq_1) := rr rfl
def c27_10 : ACode := .ops [⟨some 27, .bin .lss (.t 26) (.t 25), none, []⟩] [5, 6, 24, 25, 26, 27]
theorem r27_10 : type_of% (@rr _ _ c27_10.eq_1) := rr rfl
def c27_11 : ACode := .cond (.t 27) .skip (.exit 0)
theorem r27_11 : type_of% (@rr _ _ c27_11.eq_1) := rr rfl
def c27_12 : ACode := .ops [⟨some 28, .mv (.t 26), none, []⟩,⟨some 29, .ias (.t 24) (.t 26) 1, none, []⟩,⟨some 30, .load 1 false (.t 29), none, []⟩,⟨some 7, .mv (.t 28), none, []⟩,⟨some 8, .mv (.t 30), none, []⟩] [5, 6, 7, 8, 24, 25, 26]
theorem r27_12 : type_of% (@rr _ _ c27_12.eq_1) := rr rfl
def c27_13 : ACode := .ops [⟨some 32, .mv (.t 8), none, []⟩,⟨some 33, .call 15 [.t 32], none, []⟩,⟨some 31, .mv (.t 33), none, []⟩,⟨some 34, .ext (.t 31) 0, none, []⟩,⟨some 35, .ext (.t 31) 1, none, []⟩,⟨some 9, .alloc [.bool false, .int .i64 0, .int .i64 0, .int .i64 0, .int .i64 0, .int .i64 0], none, []⟩,⟨none, .store (.t 9) 6 (.t 34), none, [9]⟩,⟨some 10, .mv (.t 35), none, []⟩] [5, 6, 7, 9, 24, 25, 26]
theorem r27_13 : type_of% (@rr _ _ c27_13.eq_1) := rr rfl
def c27_14 : ACode := .ops [⟨some 37, .fad (.t 9) 0, none, [9]⟩,⟨some 38, .load 1 false (.t 37), none, [9]⟩,⟨some 39, .un .not (.t 38), none, []⟩,⟨some 36, .mv (.t 39), none, []⟩] [5, 6, 7, 9, 24, 25, 26, 36]
theorem r27_14 : type_of% (@rr _ _ c27_14.eq_1) := rr rfl
def c27_15 : ACode := .ops [⟨some 41, .mv (.t 5), none, []⟩,⟨some 42, .fad (.t 9) 4, none, [9]⟩,⟨some 43, .load 1 false (.t 42), none, [9]⟩,⟨some 44, .mv (.t 5), none, []⟩,⟨some 45, .fad (.t 9) 5, none, [9]⟩,⟨some 46, .load 1 false (.t 45), none, [9]⟩,⟨some 47, .mv (.t 5), none, []⟩,⟨some 48, .mv (.t 7), none, []⟩,⟨some 49, .ias (.t 47) (.t 48) 10, none, [5]⟩,⟨some 50, .load 10 true (.t 49), none, [5]⟩,⟨some 51, .fad (.t 9) 2, none, [9]⟩,⟨some 52, .load 1 false (.t 51), none, [9]⟩,⟨some 53, .fad (.t 9) 3, none, [9]⟩,⟨some 54, .load 1 false (.t 53), none, [9]⟩,⟨some 55, .call 63 [.t 50, .t 52, .t 54], none, []⟩,⟨some 40, .mv (.t 55), none, []⟩,⟨some 56, .ext (.t 40) 0, none, []⟩,⟨some 57, .ext (.t 40) 1, none, []⟩,⟨some 58, .ias (.t 41) (.t 43) 10, none, [5]⟩,⟨none, .store (.t 58) 10 (.t 56), none, [5]⟩,⟨some 59, .ias (.t 44) (.t 46) 10, none, [5]⟩,⟨none, .store (.t 59) 10 (.t 57), none, [5]⟩] [5, 6, 24, 25, 26]
theorem r27_15 : type_of% (@rr _ _ c27_15.eq_1) := rr rfl
def c27_16 : ACode := .ops [⟨some 61, .mv (.t 5), none, []⟩,⟨some 62, .mv (.t 7), none, []⟩,⟨some 63, .ias (.t 61) (.t 62) 10, none, [5]⟩,⟨some 64, .load 10 true (.t 63), none, [5]⟩,⟨some 65, .call 49 [.t 64], none, []⟩,⟨some 66, .un .not (.t 65), none, []⟩,⟨some 60, .mv (.t 66), none, []⟩] [5, 6, 7, 9, 24, 25, 26, 60]
theorem r27_16 : type_of% (@rr _ _ c27_16.eq_1) := rr rfl
def c27_17 : ACode := .ops [⟨some 67, .mv (.t 6), none, []⟩,⟨some 68, .mv (.t 5), none, []⟩,⟨some 69, .mv (.t 7), none, []⟩,⟨some 70, .ias (.t 68) (.t 69) 10, none, [5]⟩,⟨some 71, .load 10 true (.t 70), none, [5]⟩,⟨some 72, .fad (.t 9) 1, none, [9]⟩,⟨some 73, .load 1 false (.t 72), none, [9]⟩,⟨some 74, .build [.int .i64 0, .int .i64 0, .int .i64 0, .int .i64 0, .int .i64 0, .int .i64 0, .int .i64 0, .int .i64 0, .int .i64 0, .int .i64 0, .int .i64 0] [(0, 10, .t 71), (10, 1, .t 73)], none, []⟩,⟨some 75, .mkrow 75 1 11 [.int .i64 0, .int .i64 0, .int .i64 0, .int .i64 0, .int .i64 0, .int .i64 0, .int .i64 0, .int .i64 0, .int .i64 0, .int .i64 0, .int .i64 0] [(0, 11, .t 74)], none, []⟩,⟨some 76, .app 6 [6] (.t 67) (.t 75) 11, none, [6, 75]⟩,⟨some 6, .mv (.t 76), none, []⟩] [5, 6, 24, 25, 26]
theorem r27_17 : type_of% (@rr _ _ c27_17.eq_1) := rr rfl
def c27_18 : ACode := .cond (.t 60) c27_17 .skip
theorem r27_18 : type_of% (@rr _ _ c27_18.eq_1) := rr rfl
def c27_19 : ACode := .seq c27_16 c27_18
theorem r27_19 : type_of% (@rr _ _ c27_19.eq_1) := rr rfl
def c27_20 : ACode := .cond (.t 36) c27_15 c27_19
theorem r27_20 : type_of% (@rr _ _ c27_20.eq_1) := rr rfl
def c27_21 : ACode := .seq c27_14 c27_20
theorem r27_21 : type_of% (@rr _ _ c27_21.eq_1) := rr rfl
def c27_22 : ACode := .block 2 c27_21
theorem r27_22 : type_of% (@rr _ _ c27_22.eq_1) := rr rfl
def c27_23 : ACode := .seq c27_13 c27_22
theorem r27_23 : type_of% (@rr _ _ c27_23.eq_1) := rr rfl
def c27_24 : ACode := .seq c27_12 c27_23
theorem r27_24 : type_of% (@rr _ _ c27_24.eq_1) := rr rfl
def c27_25 : ACode := .block 1 c27_24
theorem r27_25 : type_of% (@rr _ _ c27_25.eq_1) := rr rfl
def c27_26 : ACode := .ops [⟨some 77, .bin .add (.t 26) (.c (.int .i64 1)), none, []⟩,⟨some 26, .mv (.t 77), none, []⟩] [5, 6, 24, 25, 26]
theorem r27_26 : type_of% (@rr _ _ c27_26.eq_1) := rr rfl
def c27_27 : ACode := .seq c27_25 c27_26
theorem r27_27 : type_of% (@rr _ _ c27_27.eq_1) := rr rfl
def c27_28 : ACode := .seq c27_11 c27_27
theorem r27_28 : type_of% (@rr _ _ c27_28.eq_1) := rr rfl
def c27_29 : ACode := .seq c27_10 c27_28
theorem r27_29 : type_of% (@rr _ _ c27_29.eq_1) := rr rfl
def c27_30 : ACode := .keep [5, 6, 24, 25, 26] [5, 6] c27_29
theorem r27_30 : type_of% (@rr _ _ c27_30.eq_1) := rr rfl
def c27_31 : ACode := .loop c27_30
theorem r27_31 : type_of% (@rr _ _ c27_31.eq_1) := rr rfl
def c27_32 : ACode := .block 0 c27_31
theorem r27_32 : type_of% (@rr _ _ c27_32.eq_1) := rr rfl
def c27_33 : ACode := .seq c27_9 c27_32
theorem r27_33 : type_of% (@rr _ _ c27_33.eq_1) := rr rfl
def c27_34 : ACode := .ops [⟨some 78, .mv (.t 6), none, []⟩,⟨some 4, .mv (.t 78), none, []⟩] [4]
theorem r27_34 : type_of% (@rr _ _ c27_34.eq_1) := rr rfl
def c27_35 : ACode := .seq c27_34 .ret
theorem r27_35 : type_of% (@rr _ _ c27_35.eq_1) := rr rfl
def c27_36 : ACode := .seq c27_33 c27_35
theorem r27_36 : type_of% (@rr _ _ c27_36.eq_1) := rr rfl
def c27_37 : ACode := .seq c27_8 c27_36
theorem r27_37 : type_of% (@rr _ _ c27_37.eq_1) := rr rfl
def c27_38 : ACode := .seq c27_7 c27_37
theorem r27_38 : type_of% (@rr _ _ c27_38.eq_1) := rr rfl
def c27_39 : ACode := .seq c27_6 c27_38
theorem r27_39 : type_of% (@rr _ _ c27_39.eq_1) := rr rfl
def c27_40 : ACode := .seq c27_5 c27_39
theorem r27_40 : type_of% (@rr _ _ c27_40.eq_1) := rr rfl
def c27_41 : ACode := .seq c27_0 c27_40
theorem r27_41 : type_of% (@rr _ _ c27_41.eq_1) := rr rfl
def a27 : AFun := ⟨2, 79, c27_41, [.t 4]⟩
attribute [simp] r27_0 r27_1 r27_2 r27_3 r27_4 r27_5 r27_6 r27_7 r27_8 r27_9 r27_10 r27_11 r27_12 r27_13 r27_14 r27_15 r27_16 r27_17 r27_18 r27_19 r27_20 r27_21 r27_22 r27_23 r27_24 r27_25 r27_26 r27_27 r27_28 r27_29 r27_30 r27_31 r27_32 r27_33 r27_34 r27_35 r27_36 r27_37 r27_38 r27_39 r27_40 r27_41
theorem m27 : mFun Try.prog Try.f27 a27 = true := by decide +kernel
def okS64 (s : Span) : Prop := ok64 s.lo ∧ ok64 s.hi
def okB (b : Box) : Prop := okS64 b.s0 ∧ okS64 b.s1 ∧ okS64 b.s2 ∧ okS64 b.s3 ∧ okS64 b.s4
theorem okS_of {lo hi : Int} (h : ok64 lo) (h' : ok64 hi) : okS64 (ofS lo hi) := by
  unfold ofS
  split
  · unfold okS64 ok64 noneS; simp only; omega
  · exact ⟨h, h'⟩
theorem okS_cut {s : Span} (h : okS64 s) {n : Int} (hn : ok64 n) : okS64 (cutS s n).1 ∧ okS64 (cutS s n).2 := by
  unfold cutS
  split
  · exact ⟨okS_of h.1 h.2, by unfold okS64 ok64 noneS; simp only; omega⟩
  · refine ⟨okS_of h.1 hn, okS_of ?_ h.2⟩
    have := h.1
    have := h.2
    unfold ok64 at *
    split <;> omega
theorem okB_get {b : Box} (h : okB b) (i : Int) : okS64 (b.get i) := by
  obtain ⟨h0, h1, h2, h3, h4⟩ := h
  unfold Box.get
  split
  · exact h0
  · split
    · exact h1
    · split
      · exact h2
      · split
        · exact h3
        · exact h4
theorem okB_set {b : Box} (h : okB b) (i : Int) {s : Span} (hs : okS64 s) : okB (b.set i s) := by
  obtain ⟨h0, h1, h2, h3, h4⟩ := h
  unfold Box.set
  split
  · exact ⟨hs, h1, h2, h3, h4⟩
  · split
    · exact ⟨h0, hs, h2, h3, h4⟩
    · split
      · exact ⟨h0, h1, hs, h3, h4⟩
      · split
        · exact ⟨h0, h1, h2, hs, h4⟩
        · exact ⟨h0, h1, h2, h3, hs⟩
theorem okB_cut {b : Box} (h : okB b) (i : Int) {n : Int} (hn : ok64 n) : okB (cutB b i n).1 ∧ okB (cutB b i n).2 := by
  unfold cutB
  split
  · have := okS_cut (okB_get h i) hn
    exact ⟨okB_set h i this.1, okB_set h i this.2⟩
  · exact ⟨h, h⟩
theorem ok64_fits {n : Int} (h : fits n = true) : ok64 n := by have := of_fits h; unfold ok64; omega
theorem okB_zero : okB zeroB := by unfold okB okS64 ok64 zeroB; simp only; omega
theorem okB_own {l : List Word} {dim : Int} (hr : RT l dim) {b : Box} (hb : okB b) : ∀ (i j : Nat), i ≤ l.length → okB (ownF l b i j)
  | 0, j, _ => by
    unfold ownF up
    split
    · exact hb
    · exact okB_zero
  | i + 1, j, hi => by
    unfold ownF
    have h0 := fun j => okB_own hr hb i j (by omega)
    split
    · exact h0 j
    · have hc := okB_cut (h0 i) (ndAt l i).feature (ok64_fits (hr.cutOk (show i < l.length by omega)))
      unfold up
      split
      · exact hc.2
      · split
        · exact hc.1
        · exact h0 j
theorem cutB_of {b : Box} (h : okB b) (i : Int) {n : Int} (hn : ok64 n) : CutB b i n = some (cutB b i n) := by
  unfold CutB
  rw [if_pos ⟨hn, (okB_get h i).2⟩]
theorem RT.four {l : List Word} {dim : Int} (h : RT l dim) : RT l 4 := by
  refine ⟨h.ok, h.pos, h.le, fun i hi hl => ?_, h.once⟩
  have h1 := h.inner i hi hl
  have h2 := h.feature hi (by rw [ndAt_lt hi]; exact hl)
  rw [ndAt_lt hi] at h2
  exact ⟨h2.2, h1.2⟩
def ownL (l : List Word) (b : Box) (i : Nat) : List Box := (List.range l.length).map (ownF l b i)
theorem ownL_len (l : List Word) (b : Box) (i : Nat) : (ownL l b i).length = l.length := by simp [ownL]
theorem ownL_get (l : List Word) (b : Box) (i j : Nat) (h : j < (ownL l b i).length) : (ownL l b i)[j] = ownF l b i j := by simp [ownL]
theorem ownL_zero (l : List Word) (b : Box) (h : 0 < l.length) : ownL l b 0 = (List.replicate l.length zeroB).set 0 b := by
  apply List.ext_getElem
  · simp [ownL]
  · intro j h1 h2
    rw [ownL_get, List.getElem_set]
    unfold ownF up
    by_cases hj : j = 0
    · subst hj; simp
    · rw [if_neg hj, if_neg (Ne.symm hj)]; simp
theorem ownL_leaf {l : List Word} (b : Box) {i : Nat} (hl : (ndAt l i).leaf = true) : ownL l b (i + 1) = ownL l b i := by
  unfold ownL
  congr 1
  funext j
  rw [ownF, hl]
  rfl
theorem ownL_inner {l : List Word} (b : Box) {i : Nat} (hl : (ndAt l i).leaf = false) : ownL l b (i + 1) =
    ((ownL l b i).set (ndAt l i).left.toNat (cutB (own l b i) (ndAt l i).feature (ndAt l i).cut).1).set (ndAt l i).right.toNat (cutB (own l b i) (ndAt l i).feature (ndAt l i).cut).2 := by
  apply List.ext_getElem
  · simp [ownL]
  · intro j h1 h2
    rw [ownL_get, List.getElem_set, List.getElem_set, ownF, hl]
    simp only [Bool.false_eq_true, if_false, up, ownL_get]
    by_cases e1 : j = (ndAt l i).right.toNat
    · rw [if_pos e1, if_pos e1.symm]; rfl
    · rw [if_neg e1, if_neg (Ne.symm e1)]
      by_cases e2 : j = (ndAt l i).left.toNat
      · rw [if_pos e2, if_pos e2.symm]; rfl
      · rw [if_neg e2, if_neg (Ne.symm e2)]
def piecesTo (l : List Word) (b : Box) (i : Nat) : List Piece := (List.range i).filterMap (pieceAt l b)
theorem piecesTo_succ (l : List Word) (b : Box) (i : Nat) : piecesTo l b (i + 1) = piecesTo l b i ++ (pieceAt l b i).toList := by
  unfold piecesTo
  rw [List.range_succ, List.filterMap_append]
  congr 1
theorem piecesTo_len (l : List Word) (b : Box) (i : Nat) : (piecesTo l b i).length ≤ i := by
  unfold piecesTo
  have := List.length_filterMap_le (pieceAt l b) (List.range i)
  simpa using this
theorem rd_box (l : List Box) (i : Nat) (h : i < l.length) : rd (encL l) (i * 10) 10 true = some (Arg.enc l[i]) := rd_row l i h
theorem wr_box (l : List Box) (i : Nat) (h : i < l.length) (b : Box) : wr (encL l) (i * 10) [.int .i64 b.s0.lo, .int .i64 b.s0.hi, .int .i64 b.s1.lo, .int .i64 b.s1.hi, .int .i64 b.s2.lo, .int .i64 b.s2.hi, .int .i64 b.s3.lo, .int .i64 b.s3.hi, .int .i64 b.s4.lo, .int .i64 b.s4.hi] = encL (l.set i b) := wr_row l i h b
noncomputable def ListC (l : List Word) (b : Box) : Option (List Piece) := Part ((∃ d, RT l d) ∧ okB b) (if b.empty then [] else pieces l b)
theorem runs_List (l : List Word) (b : Box) (c : List Piece) (h : ListC l b = some c) : Runs (tbl [(14, sp2 TreeRight), (49, sp1 fun (b : Box) => some b.empty), (15, sp1 Unpack), (63, sp3 CutB)]) a27 [Arg.enc l, Arg.enc b] (Arg.enc c) := by
  obtain ⟨⟨⟨d, hr⟩, hb⟩, rfl⟩ := part_some h
  refine ⟨rfl, fun g => run_def ?_⟩
  unfold a27
  have hT : TreeRight l 4 = some true := part_of hr.four _
  cases he : b.empty
  case true => simp -implicitDefEqProofs [hT, he, encL_nil]
  have hp := hr.pos
  have hle := hr.le
  have b3 : l.length ≤ maxN := by unfold maxN; omega
  have b4 : (l.length : Int) ≤ 1099511627776 := by omega
  have b5 : (0 : Int) < l.length := by omega
  have hz : rep l.length [.int .i64 0, .int .i64 0, .int .i64 0, .int .i64 0, .int .i64 0, .int .i64 0, .int .i64 0, .int .i64 0, .int .i64 0, .int .i64 0] = encL (List.replicate l.length zeroB) := rep_enc l.length zeroB
  have hw0 : wr (encL (List.replicate l.length zeroB)) 0 [.int .i64 b.s0.lo, .int .i64 b.s0.hi, .int .i64 b.s1.lo, .int .i64 b.s1.hi, .int .i64 b.s2.lo, .int .i64 b.s2.hi, .int .i64 b.s3.lo, .int .i64 b.s3.hi, .int .i64 b.s4.lo, .int .i64 b.s4.hi] = encL (ownL l b 0) := by
    rw [ownL_zero l b (by omega)]
    exact wr_box (List.replicate l.length zeroB) 0 (by simp; omega) b
  have hlen : 10 ≤ (encL (List.replicate l.length zeroB)).length := by rw [encL_length]; simp; omega
  have b6 : 0 < l.length := by omega
  simp -implicitDefEqProofs [hT, he, b3, b4, b6, hp, hz, hw0, hlen, -Go.Am.rep]
  refine run_while (c := c27_29) (fun n s => ∃ (i : Nat) (g : Nat → Nat), i + n = l.length ∧ s = ⟨[(5, .own 5 (g 5) 0 l.length), (6, .own 6 (g 6) 0 (piecesTo l b i).length), (24, .lst l.length (encL l)), (25, .int .i64 l.length), (26, .int .i64 i)],
    [(5, ⟨encL (ownL l b i), false, 10⟩), (6, ⟨encL (piecesTo l b i), false, 11⟩)], g⟩) l.length ⟨0, bump 6 (bump 5 (bump 3 g)), by omega, by simp [piecesTo, encL_nil]⟩ ?_
  rintro n s ⟨i, g, hi, rfl⟩
  have w1 : IntKind.i64.wrap ((i : Int) + 1) = (i : Int) + 1 := wrap64 (by omega) (by omega)
  by_cases h1 : i < l.length
  case pos =>
    have hU := unpack_at hr h1
    have hlen : i * 10 + 10 ≤ (encL (ownL l b i)).length := by rw [encL_length, ownL_len]; simp; omega
    have hrow : rd (encL (ownL l b i)) (i * 10) 10 true = some (Arg.enc (own l b i)) := by
      rw [rd_box _ _ (by rw [ownL_len]; exact h1), ownL_get]
      rfl
    cases hl : (ndAt l i).leaf
    case true =>
      cases hE : (own l b i).empty
      case true =>
        have hp1 : piecesTo l b (i + 1) = piecesTo l b i := by rw [piecesTo_succ, pieceAt, hl, hE]; simp
        have ho := ownL_leaf b hl
        simp -implicitDefEqProofs [h1, rd_words, hU, hl, w1, hrow, hE]
        exact ⟨n - 1, by omega, i + 1, by omega, ⟨by rw [hp1], by omega⟩, by rw [ho], by rw [hp1]⟩
      case false =>
        have hp1 : piecesTo l b (i + 1) = piecesTo l b i ++ [⟨own l b i, (ndAt l i).value⟩] := by rw [piecesTo_succ, pieceAt, hl, hE]; simp
        have ho := ownL_leaf b hl
        have hpl := piecesTo_len l b i
        have c1 : (piecesTo l b i).length * 11 ≤ (encL (piecesTo l b i)).length := by rw [encL_length]; simp
        have c2 : (piecesTo l b i).length ≤ 1099511627775 := by omega
        have htk : List.take ((piecesTo l b i).length * 11) (encL (piecesTo l b i)) = encL (piecesTo l b i) := take_rows _ _ (by simp)
        simp -implicitDefEqProofs [h1, rd_words, hU, hl, w1, hrow, hE, c1, c2, htk]
        exact ⟨n - 1, by omega, i + 1, by omega, ⟨by rw [hp1]; simp, by omega⟩, by rw [ho], by rw [hp1, encL_append]; rfl⟩
    case false =>
      have ha := hr.at h1 hl
      have f1 : 0 ≤ (ndAt l i).left := by omega
      have f2 : (ndAt l i).left < l.length := by omega
      have f3 : 0 ≤ (ndAt l i).right := by omega
      have f4 : (ndAt l i).right < l.length := by omega
      have f5 : (ndAt l i).left.toNat < l.length := by omega
      have f6 : (ndAt l i).right.toNat < l.length := by omega
      have hC := cutB_of (okB_own hr hb i i (by omega)) (ndAt l i).feature (ok64_fits (hr.cutOk h1))
      have hC : CutB (own l b i) (ndAt l i).feature (ndAt l i).cut = some (cutB (own l b i) (ndAt l i).feature (ndAt l i).cut) := hC
      have ho := ownL_inner b hl
      have hp1 : piecesTo l b (i + 1) = piecesTo l b i := by rw [piecesTo_succ, pieceAt, hl]; simp
      generalize cutB (own l b i) (ndAt l i).feature (ndAt l i).cut = z at *
      have hwA := wr_box (ownL l b i) (ndAt l i).left.toNat (by rw [ownL_len]; exact f5) z.1
      have hwB := wr_box ((ownL l b i).set (ndAt l i).left.toNat z.1) (ndAt l i).right.toNat (by rw [List.length_set, ownL_len]; exact f6) z.2
      simp -implicitDefEqProofs [h1, rd_words, hU, hl, w1, hrow, hC, f1, f2, f3, f4, hwA, hwB, encL_length, ownL_len]
      exact ⟨fun _ => ⟨fun _ => ⟨n - 1, by omega, i + 1, by omega, ⟨by rw [hp1], by omega⟩, by rw [ho], by rw [hp1]⟩, by omega⟩, by omega⟩
  case neg =>
    have hil : i = l.length := by omega
    subst hil
    have hpp : piecesTo l b l.length = pieces l b := rfl
    have c1 : (pieces l b).length * 11 ≤ (encL (pieces l b)).length := by rw [encL_length]; simp
    have htk : List.take ((pieces l b).length * 11) (encL (pieces l b)) = encL (pieces l b) := take_rows _ _ (by simp)
    simp -implicitDefEqProofs [h1, hpp, c1, htk]
theorem c_List : Contract Try.prog 27 (sp2 ListC) :=
  contract_of_runs mixed (tbl_cons c_tRight (tbl_cons c_bEmpty (tbl_cons c_Unpack (tbl_cons c_bCut tbl_nil)))) Try.func27 m27 (sp2_runs runs_List)
end Go.Co
/- CO: bounds. -/
namespace Go.Co
open Go.Am Go.Proofs
set_option linter.unusedSimpArgs false
set_option linter.unusedVariables false
@[simp 5000] theorem rd_biasN (a b : Int) (x : Bias) (y : AV) (k : Nat) (h : k < 3) : rd [.int .i64 a, .int .i64 b, .int .i64 x.b0, .int .i64 x.b1, .int .i64 x.b2, y] (2 + k) 1 false = some (.int .i64 (x.get k)) := by
  have := rd_bias a b x y k (by omega) (by omega)
  simpa using this
end Go.Co
/- CO: maps of numbers as lists of pairs. -/
namespace Go.Co
open Go.Am
def flatA : List (Int × Int) → List AV
  | [] => []
  | (k, v) :: l => .int .i64 k :: .int .i64 v :: flatA l
def getA (n : Int) : List (Int × Int) → Int
  | [] => 0
  | (k, v) :: l => if n = k then v else getA n l
def setA (n v : Int) : List (Int × Int) → List (Int × Int)
  | [] => [(n, v)]
  | (k, u) :: l => if n = k then (k, v) :: l else (k, u) :: setA n v l
theorem mfind_flat (n : Int) : ∀ (l : List (Int × Int)) (i : Nat), (∃ j v, mfind n (flatA l) i = some (i + j, .int .i64 v) ∧ getA n l = v ∧ (∀ u, wr (flatA l) (2 * j + 1) [.int .i64 u] = flatA (setA n u l))) ∨ (mfind n (flatA l) i = none ∧ getA n l = 0 ∧ ∀ u, flatA l ++ [.int .i64 n, .int .i64 u] = flatA (setA n u l))
  | [], i => .inr ⟨rfl, rfl, fun _ => rfl⟩
  | (k, v) :: l, i => by
    unfold flatA mfind getA setA
    by_cases h : n = k
    · refine .inl ⟨0, v, by simp [h], by simp [h], fun u => ?_⟩
      rw [if_pos h]
      simp [wr, flatA]
    · rw [if_neg h, if_neg h]
      rcases mfind_flat n l (i + 1) with ⟨j, w, h1, h2, h3⟩ | ⟨h1, h2, h3⟩
      · refine .inl ⟨j + 1, w, by rw [h1]; congr 2; omega, h2, fun u => ?_⟩
        rw [if_neg h]
        have e2 : 2 * (j + 1) + 1 = (2 * j + 1) + 1 + 1 := by omega
        unfold wr
        simp only [e2, List.take_succ_cons, List.cons_append, List.length_cons, List.length_nil, Nat.zero_add]
        rw [show 2 * j + 1 + 1 + 1 + 1 = (2 * j + 1 + 1) + 1 + 1 by omega, List.drop_succ_cons, List.drop_succ_cons]
        have := h3 u
        unfold wr at this
        simp only [List.length_cons, List.length_nil, Nat.zero_add] at this
        rw [this]
      · refine .inr ⟨h1, h2, fun u => ?_⟩
        rw [if_neg h]
        simp only [List.cons_append, h3 u]
@[simp] theorem mget_flat (n : Int) (l : List (Int × Int)) : mgetV n (flatA l) (.int .i64 0) = .int .i64 (getA n l) := by
  unfold mgetV
  rcases mfind_flat n l 0 with ⟨j, v, h1, h2, _⟩ | ⟨h1, h2, _⟩
  · rw [h1, h2]
  · rw [h1, h2]
@[simp] theorem mput_flat (n v : Int) (l : List (Int × Int)) : mputV n (flatA l) (.int .i64 v) = flatA (setA n v l) := by
  unfold mputV
  rcases mfind_flat n l 0 with ⟨j, w, h1, _, h3⟩ | ⟨h1, _, h3⟩
  · rw [h1]
    simp only [Nat.zero_add]
    exact h3 v
  · rw [h1]
    exact h3 v
@[simp] theorem isIt_nil : isIt [] = false := rfl
@[simp] theorem isA_nil : isA [] = false := rfl
@[simp] theorem isA_flat (l : List (Int × Int)) : isA (flatA l) = false := by cases l <;> rfl
@[simp] theorem isIt_flat (l : List (Int × Int)) : isIt (flatA l) = false := by
  cases l with
  | nil => rfl
  | cons p l => obtain ⟨k, v⟩ := p; rfl
def flatB : List Int → List AV
  | [] => []
  | k :: l => .int .i64 k :: .bool true :: flatB l
def insB (n : Int) (l : List Int) : List Int := if n ∈ l then l else l ++ [n]
@[simp] theorem isIt_flatB (l : List Int) : isIt (flatB l) = false := by cases l <;> rfl
@[simp] theorem isA_flatB (l : List Int) : isA (flatB l) = false := by cases l <;> rfl
@[simp] theorem flatB_len (l : List Int) : (flatB l).length = 2 * l.length := by
  induction l with
  | nil => rfl
  | cons k l ih => simp only [flatB, List.length_cons, ih]; omega
theorem flatB_append (l : List Int) (n : Int) : flatB (l ++ [n]) = flatB l ++ [.int .i64 n, .bool true] := by
  induction l with
  | nil => rfl
  | cons k l ih => simp only [List.cons_append, flatB, ih]
theorem mfind_flatB (n : Int) : ∀ (l : List Int) (i : Nat), (n ∈ l ∧ ∃ j, mfind n (flatB l) i = some (i + j, .bool true) ∧ wr (flatB l) (2 * j + 1) [.bool true] = flatB l) ∨ (n ∉ l ∧ mfind n (flatB l) i = none)
  | [], i => .inr ⟨by simp, rfl⟩
  | k :: l, i => by
    unfold flatB mfind
    by_cases h : n = k
    · refine .inl ⟨by simp [h], 0, by simp [h], ?_⟩
      simp [wr]
    · rw [if_neg h]
      rcases mfind_flatB n l (i + 1) with ⟨h0, j, h1, h2⟩ | ⟨h0, h1⟩
      · refine .inl ⟨by simp [h0], j + 1, by rw [h1]; congr 2; omega, ?_⟩
        have e2 : 2 * (j + 1) + 1 = (2 * j + 1) + 1 + 1 := by omega
        unfold wr
        simp only [e2, List.take_succ_cons, List.cons_append, List.length_cons, List.length_nil, Nat.zero_add]
        rw [show 2 * j + 1 + 1 + 1 + 1 = (2 * j + 1 + 1) + 1 + 1 by omega, List.drop_succ_cons, List.drop_succ_cons]
        unfold wr at h2
        simp only [List.length_cons, List.length_nil, Nat.zero_add] at h2
        rw [h2]
      · exact .inr ⟨by simp [h, h0], h1⟩
@[simp] theorem mput_flatB (n : Int) (l : List Int) : mputV n (flatB l) (.bool true) = flatB (insB n l) := by
  unfold mputV insB
  rcases mfind_flatB n l 0 with ⟨h0, j, h1, h2⟩ | ⟨h0, h1⟩
  · rw [h1, if_pos h0]
    simp only [Nat.zero_add]
    exact h2
  · rw [h1, if_neg h0, flatB_append]
end Go.Co
/- CO: the document's own answers: trees and models. -/
namespace Go.Co
open Go.Am Go.Proofs
set_option linter.unusedSimpArgs false
set_option linter.unusedVariables false
end Go.Co
/- CO: the region and the query that numbers make. -/
set_option maxHeartbeats 16000000
set_option maxRecDepth 100000
namespace Go.Co
open Go.Am Go.Proofs
set_option linter.unusedSimpArgs false
set_option linter.unusedVariables false
def c11_0 : ACode := .ops [⟨some 2, .box (.t 0) 6, none, []⟩,⟨some 4, .alloc [.int .i64 0, .int .i64 0, .int .i64 0, .int .i64 0, .int .i64 0, .int .i64 0, .int .i64 0, .int .i64 0, .int .i64 0, .int .i64 0], none, []⟩] [1, 2, 4]
theorem r11_0 : type_of% (@rr _ _ c11_0.eq_1) := rr rfl
def c11_1 : ACode := .ops [⟨some 5, .alloc [.int .i64 0, .int .i64 0, .int .i64 0, .int .i64 0, .int .i64 0, .int .i64 0, .int .i64 0, .int .i64 0, .int .i64 0, .int .i64 0], none, []⟩] [1, 2, 4, 5]
theorem r11_1 : type_of% (@rr _ _ c11_1.eq_1) := rr rfl
def c11_2 : ACode := .ops [⟨some 8, .fad (.t 2) 0, none, [2]⟩,⟨some 9, .load 1 false (.t 8), none, [2]⟩,⟨some 10, .mv (.c (.int .i64 0)), none, []⟩] [1, 4, 5, 9, 10]
theorem r11_2 : type_of% (@rr _ _ c11_2.eq_1) := rr rfl
def c11_3 : ACode := .ops [⟨some 11, .bin .lss (.t 10) (.t 9), none, []⟩] [1, 4, 5, 9, 10, 11]
theorem r11_3 : type_of% (@rr _ _ c11_3.eq_1) := rr rfl
def c11_4 : ACode := .cond (.t 11) .skip (.exit 0)
theorem r11_4 : type_of% (@rr _ _ c11_4.eq_1) := rr rfl
def c11_5 : ACode := .ops [⟨some 12, .mv (.t 10), none, []⟩,⟨some 6, .mv (.t 12), none, []⟩] [1, 4, 5, 6, 9, 10]
theorem r11_5 : type_of% (@rr _ _ c11_5.eq_1) := rr rfl
def c11_6 : ACode := .ops [⟨some 13, .mv (.t 1), none, []⟩,⟨some 14, .mv (.t 6), none, []⟩,⟨some 15, .bin .mul (.c (.int .i64 2)) (.t 14), none, []⟩,⟨some 16, .call 48 [.t 13, .t 15], none, []⟩,⟨some 17, .call 19 [.t 16, .c (.int .i64 (-2)), .c (.int .i64 9)], none, []⟩,⟨some 7, .mv (.t 17), none, []⟩] [1, 4, 5, 6, 7, 9, 10]
theorem r11_6 : type_of% (@rr _ _ c11_6.eq_1) := rr rfl
def c11_7 : ACode := .ops [⟨some 18, .mv (.t 6), none, []⟩,⟨some 19, .mv (.t 7), none, []⟩,⟨some 20, .mv (.t 7), none, []⟩,⟨some 21, .mv (.t 1), none, []⟩,⟨some 22, .mv (.t 6), none, []⟩,⟨some 23, .bin .mul (.c (.int .i64 2)) (.t 22), none, []⟩,⟨some 24, .bin .add (.t 23) (.c (.int .i64 1)), none, []⟩,⟨some 25, .call 48 [.t 21, .t 24], none, []⟩,⟨some 26, .call 19 [.t 25, .c (.int .i64 0), .c (.int .i64 11)], none, []⟩,⟨some 27, .bin .add (.t 20) (.t 26), none, []⟩,⟨some 28, .build [.int .i64 0, .int .i64 0] [(0, 1, .t 19), (1, 1, .t 27)], none, []⟩,⟨some 29, .iad (.t 5) (.t 18) 2 5, none, [5]⟩,⟨none, .store (.t 29) 2 (.t 28), none, [5]⟩] [1, 4, 5, 9, 10]
theorem r11_7 : type_of% (@rr _ _ c11_7.eq_1) := rr rfl
def c11_8 : ACode := .seq c11_6 c11_7
theorem r11_8 : type_of% (@rr _ _ c11_8.eq_1) := rr rfl
def c11_9 : ACode := .seq c11_5 c11_8
theorem r11_9 : type_of% (@rr _ _ c11_9.eq_1) := rr rfl
def c11_10 : ACode := .block 1 c11_9
theorem r11_10 : type_of% (@rr _ _ c11_10.eq_1) := rr rfl
def c11_11 : ACode := .ops [⟨some 30, .bin .add (.t 10) (.c (.int .i64 1)), none, []⟩,⟨some 10, .mv (.t 30), none, []⟩] [1, 4, 5, 9, 10]
theorem r11_11 : type_of% (@rr _ _ c11_11.eq_1) := rr rfl
def c11_12 : ACode := .seq c11_10 c11_11
theorem r11_12 : type_of% (@rr _ _ c11_12.eq_1) := rr rfl
def c11_13 : ACode := .seq c11_4 c11_12
theorem r11_13 : type_of% (@rr _ _ c11_13.eq_1) := rr rfl
def c11_14 : ACode := .seq c11_3 c11_13
theorem r11_14 : type_of% (@rr _ _ c11_14.eq_1) := rr rfl
def c11_15 : ACode := .keep [1, 4, 5, 9, 10] [4, 5] c11_14
theorem r11_15 : type_of% (@rr _ _ c11_15.eq_1) := rr rfl
def c11_16 : ACode := .loop c11_15
theorem r11_16 : type_of% (@rr _ _ c11_16.eq_1) := rr rfl
def c11_17 : ACode := .block 0 c11_16
theorem r11_17 : type_of% (@rr _ _ c11_17.eq_1) := rr rfl
def c11_18 : ACode := .seq c11_2 c11_17
theorem r11_18 : type_of% (@rr _ _ c11_18.eq_1) := rr rfl
def c11_19 : ACode := .ops [⟨some 31, .load 10 true (.t 5), none, [5]⟩,⟨none, .store (.t 4) 10 (.t 31), none, [4]⟩] [4]
theorem r11_19 : type_of% (@rr _ _ c11_19.eq_1) := rr rfl
def c11_20 : ACode := .seq c11_19 .ret
theorem r11_20 : type_of% (@rr _ _ c11_20.eq_1) := rr rfl
def c11_21 : ACode := .seq c11_18 c11_20
theorem r11_21 : type_of% (@rr _ _ c11_21.eq_1) := rr rfl
def c11_22 : ACode := .seq c11_1 c11_21
theorem r11_22 : type_of% (@rr _ _ c11_22.eq_1) := rr rfl
def c11_23 : ACode := .seq c11_0 c11_22
theorem r11_23 : type_of% (@rr _ _ c11_23.eq_1) := rr rfl
def a11 : AFun := ⟨2, 32, c11_23, [.cell 4 10 true]⟩
attribute [simp] r11_0 r11_1 r11_2 r11_3 r11_4 r11_5 r11_6 r11_7 r11_8 r11_9 r11_10 r11_11 r11_12 r11_13 r11_14 r11_15 r11_16 r11_17 r11_18 r11_19 r11_20 r11_21 r11_22 r11_23
theorem m11 : mFun Try.prog Try.f11 a11 = true := by decide +kernel
noncomputable def RegionC (m : Model) (l : List Int) : Option Box := Part (1 ≤ m.dim ∧ m.dim ≤ 4) (regionOf m.dim l)
theorem runs_Region (m : Model) (l : List Int) (c : Box) (h : RegionC m l = some c) : Runs (tbl [(48, sp2 Pick), (19, sp3 Within)]) a11 [Arg.enc m, Arg.enc l] (Arg.enc c) := by
  obtain ⟨⟨d1, d2⟩, rfl⟩ := part_some h
  refine ⟨rfl, fun g => run_def ?_⟩
  unfold a11
  have p0 : Pick l 0 = some (pick l 0) := pick_of l 0
  have p1 : Pick l 1 = some (pick l 1) := pick_of l 1
  have p2 : Pick l 2 = some (pick l 2) := pick_of l 2
  have p3 : Pick l 3 = some (pick l 3) := pick_of l 3
  have p4 : Pick l 4 = some (pick l 4) := pick_of l 4
  have p5 : Pick l 5 = some (pick l 5) := pick_of l 5
  have p6 : Pick l 6 = some (pick l 6) := pick_of l 6
  have p7 : Pick l 7 = some (pick l 7) := pick_of l 7
  have v0 := within_of (pick l 0) (-2) 9 (by omega)
  have u0 := within_of (pick l 1) 0 11 (by omega)
  have a0 := within_le (pick l 0) (-2) 9 (by omega)
  have b0 := within_le (pick l 1) 0 11 (by omega)
  have w0 : IntKind.i64.wrap (within (pick l 0) (-2) 9 + within (pick l 1) 0 11) = within (pick l 0) (-2) 9 + within (pick l 1) 0 11 := wrap64 (by omega) (by omega)
  have v1 := within_of (pick l 2) (-2) 9 (by omega)
  have u1 := within_of (pick l 3) 0 11 (by omega)
  have a1 := within_le (pick l 2) (-2) 9 (by omega)
  have b1 := within_le (pick l 3) 0 11 (by omega)
  have w1 : IntKind.i64.wrap (within (pick l 2) (-2) 9 + within (pick l 3) 0 11) = within (pick l 2) (-2) 9 + within (pick l 3) 0 11 := wrap64 (by omega) (by omega)
  have v2 := within_of (pick l 4) (-2) 9 (by omega)
  have u2 := within_of (pick l 5) 0 11 (by omega)
  have a2 := within_le (pick l 4) (-2) 9 (by omega)
  have b2 := within_le (pick l 5) 0 11 (by omega)
  have w2 : IntKind.i64.wrap (within (pick l 4) (-2) 9 + within (pick l 5) 0 11) = within (pick l 4) (-2) 9 + within (pick l 5) 0 11 := wrap64 (by omega) (by omega)
  have v3 := within_of (pick l 6) (-2) 9 (by omega)
  have u3 := within_of (pick l 7) 0 11 (by omega)
  have a3 := within_le (pick l 6) (-2) 9 (by omega)
  have b3 := within_le (pick l 7) 0 11 (by omega)
  have w3 : IntKind.i64.wrap (within (pick l 6) (-2) 9 + within (pick l 7) 0 11) = within (pick l 6) (-2) 9 + within (pick l 7) 0 11 := wrap64 (by omega) (by omega)
  have hd : m.dim = 1 ∨ m.dim = 2 ∨ m.dim = 3 ∨ m.dim = 4 := by omega
  rcases hd with hd | hd | hd | hd <;>
    simp -implicitDefEqProofs [hd, run_round, p0, p1, p2, p3, p4, p5, p6, p7, v0, v1, v2, v3, u0, u1, u2, u3, w0, w1, w2, w3, regionOf, rSpan]
theorem c_Region : Contract Try.prog 11 (sp2 RegionC) :=
  contract_of_runs mixed (tbl_cons c_pick (tbl_cons c_Within tbl_nil)) Try.func11 m11 (sp2_runs runs_Region)
end Go.Co
/- CO: a point of a box, by numbers. -/
set_option maxHeartbeats 16000000
set_option maxRecDepth 100000
namespace Go.Co
open Go.Am Go.Proofs
set_option linter.unusedSimpArgs false
set_option linter.unusedVariables false
def c23_0 : ACode := .ops [⟨some 2, .box (.t 0) 10, none, []⟩,⟨some 4, .alloc [.int .i64 0, .int .i64 0, .int .i64 0, .int .i64 0], none, []⟩] [1, 2, 4]
theorem r23_0 : type_of% (@rr _ _ c23_0.eq_1) := rr rfl
def c23_1 : ACode := .ops [⟨some 5, .alloc [.int .i64 0, .int .i64 0, .int .i64 0, .int .i64 0], none, []⟩] [1, 2, 4, 5]
theorem r23_1 : type_of% (@rr _ _ c23_1.eq_1) := rr rfl
def c23_2 : ACode := .ops [⟨some 7, .mv (.c (.int .i64 0)), none, []⟩] [1, 2, 4, 5, 7]
theorem r23_2 : type_of% (@rr _ _ c23_2.eq_1) := rr rfl
def c23_3 : ACode := .ops [⟨some 8, .bin .lss (.t 7) (.c (.int .i64 4)), none, []⟩] [1, 2, 4, 5, 7, 8]
theorem r23_3 : type_of% (@rr _ _ c23_3.eq_1) := rr rfl
def c23_4 : ACode := .cond (.t 8) .skip (.exit 0)
theorem r23_4 : type_of% (@rr _ _ c23_4.eq_1) := rr rfl
def c23_5 : ACode := .ops [⟨some 9, .mv (.t 7), none, []⟩,⟨some 6, .mv (.t 9), none, []⟩] [1, 2, 4, 5, 6, 7]
theorem r23_5 : type_of% (@rr _ _ c23_5.eq_1) := rr rfl
def c23_6 : ACode := .ops [⟨some 10, .mv (.t 6), none, []⟩,⟨some 11, .mv (.t 1), none, []⟩,⟨some 12, .mv (.t 6), none, []⟩,⟨some 13, .call 48 [.t 11, .t 12], none, []⟩,⟨some 14, .mv (.t 6), none, []⟩,⟨some 15, .iad (.t 2) (.t 14) 2 5, none, [2]⟩,⟨some 16, .fad (.t 15) 0, none, [2]⟩,⟨some 17, .load 1 false (.t 16), none, [2]⟩,⟨some 18, .mv (.t 6), none, []⟩,⟨some 19, .iad (.t 2) (.t 18) 2 5, none, [2]⟩,⟨some 20, .fad (.t 19) 0, none, [2]⟩,⟨some 21, .load 1 false (.t 20), none, [2]⟩,⟨some 22, .mv (.t 6), none, []⟩,⟨some 23, .iad (.t 2) (.t 22) 2 5, none, [2]⟩,⟨some 24, .fad (.t 23) 1, none, [2]⟩,⟨some 25, .load 1 false (.t 24), none, [2]⟩,⟨some 26, .mnmx true (.t 21) (.t 25), none, []⟩,⟨some 27, .call 19 [.t 13, .t 17, .t 26], none, []⟩,⟨some 28, .iad (.t 5) (.t 10) 1 4, none, [5]⟩,⟨none, .store (.t 28) 1 (.t 27), none, [5]⟩] [1, 2, 4, 5, 7]
theorem r23_6 : type_of% (@rr _ _ c23_6.eq_1) := rr rfl
def c23_7 : ACode := .seq c23_5 c23_6
theorem r23_7 : type_of% (@rr _ _ c23_7.eq_1) := rr rfl
def c23_8 : ACode := .block 1 c23_7
theorem r23_8 : type_of% (@rr _ _ c23_8.eq_1) := rr rfl
def c23_9 : ACode := .ops [⟨some 29, .bin .add (.t 7) (.c (.int .i64 1)), none, []⟩,⟨some 7, .mv (.t 29), none, []⟩] [1, 2, 4, 5, 7]
theorem r23_9 : type_of% (@rr _ _ c23_9.eq_1) := rr rfl
def c23_10 : ACode := .seq c23_8 c23_9
theorem r23_10 : type_of% (@rr _ _ c23_10.eq_1) := rr rfl
def c23_11 : ACode := .seq c23_4 c23_10
theorem r23_11 : type_of% (@rr _ _ c23_11.eq_1) := rr rfl
def c23_12 : ACode := .seq c23_3 c23_11
theorem r23_12 : type_of% (@rr _ _ c23_12.eq_1) := rr rfl
def c23_13 : ACode := .keep [1, 2, 4, 5, 7] [2, 4, 5] c23_12
theorem r23_13 : type_of% (@rr _ _ c23_13.eq_1) := rr rfl
def c23_14 : ACode := .loop c23_13
theorem r23_14 : type_of% (@rr _ _ c23_14.eq_1) := rr rfl
def c23_15 : ACode := .block 0 c23_14
theorem r23_15 : type_of% (@rr _ _ c23_15.eq_1) := rr rfl
def c23_16 : ACode := .seq c23_2 c23_15
theorem r23_16 : type_of% (@rr _ _ c23_16.eq_1) := rr rfl
def c23_17 : ACode := .ops [⟨some 30, .load 4 true (.t 5), none, [5]⟩,⟨none, .store (.t 4) 4 (.t 30), none, [4]⟩] [4]
theorem r23_17 : type_of% (@rr _ _ c23_17.eq_1) := rr rfl
def c23_18 : ACode := .seq c23_17 .ret
theorem r23_18 : type_of% (@rr _ _ c23_18.eq_1) := rr rfl
def c23_19 : ACode := .seq c23_16 c23_18
theorem r23_19 : type_of% (@rr _ _ c23_19.eq_1) := rr rfl
def c23_20 : ACode := .seq c23_1 c23_19
theorem r23_20 : type_of% (@rr _ _ c23_20.eq_1) := rr rfl
def c23_21 : ACode := .seq c23_0 c23_20
theorem r23_21 : type_of% (@rr _ _ c23_21.eq_1) := rr rfl
def a23 : AFun := ⟨2, 31, c23_21, [.cell 4 4 true]⟩
attribute [simp] r23_0 r23_1 r23_2 r23_3 r23_4 r23_5 r23_6 r23_7 r23_8 r23_9 r23_10 r23_11 r23_12 r23_13 r23_14 r23_15 r23_16 r23_17 r23_18 r23_19 r23_20 r23_21
theorem m23 : mFun Try.prog Try.f23 a23 = true := by decide +kernel
def small (s : Span) : Prop := -1125899906842624 ≤ s.lo ∧ s.lo ≤ 1125899906842624 ∧ s.hi ≤ 1125899906842624
def ins (s : Span) (l : List Int) (i : Nat) : Int := within (pick l i) s.lo (max2 s.lo s.hi)
def insideOf (b : Box) (l : List Int) : Point := ⟨ins b.s0 l 0, ins b.s1 l 1, ins b.s2 l 2, ins b.s3 l 3⟩
theorem ins_in {s : Span} (h : s.empty = false) (l : List Int) (i : Nat) : InS s (ins s l i) := by
  unfold Span.empty at h
  rw [decide_eq_false_iff_not] at h
  have hm := max2_le (a := s.lo) (b := s.hi)
  have := within_le (pick l i) s.lo (max2 s.lo s.hi) hm.1
  unfold InS ins
  omega
theorem empty_spec {b : Box} (h : b.empty = false) : b.s0.empty = false ∧ b.s1.empty = false ∧ b.s2.empty = false ∧ b.s3.empty = false ∧ b.s4.empty = false := by
  unfold Box.empty at h
  simp only [Bool.or_eq_false_iff] at h
  exact ⟨h.1.1.1.1, h.1.1.1.2, h.1.1.2, h.1.2, h.2⟩
theorem inside_in {b : Box} (h : b.empty = false) (l : List Int) : InB b (insideOf b l) b.s4.lo := by
  have := empty_spec h
  refine ⟨ins_in this.1 l 0, ins_in this.2.1 l 1, ins_in this.2.2.1 l 2, ins_in this.2.2.2.1 l 3, ?_⟩
  have h4 := this.2.2.2.2
  unfold Span.empty at h4
  rw [decide_eq_false_iff_not] at h4
  unfold InS
  omega
noncomputable def InsideC (b : Box) (l : List Int) : Option Point := Part (small b.s0 ∧ small b.s1 ∧ small b.s2 ∧ small b.s3) (insideOf b l)
theorem runs_Inside (b : Box) (l : List Int) (c : Point) (h : InsideC b l = some c) : Runs (tbl [(48, sp2 Pick), (19, sp3 Within)]) a23 [Arg.enc b, Arg.enc l] (Arg.enc c) := by
  obtain ⟨⟨h0, h1, h2, h3⟩, rfl⟩ := part_some h
  refine ⟨rfl, fun g => run_def ?_⟩
  unfold a23
  have p1 : Pick l 1 = some (pick l 1) := pick_of l 1
  have p2 : Pick l 2 = some (pick l 2) := pick_of l 2
  have p3 : Pick l 3 = some (pick l 3) := pick_of l 3
  have key : ∀ (s : Span) (i : Nat), small s → Within (pick l i) s.lo (if s.lo < s.hi then s.hi else s.lo) = some (ins s l i) := by
    intro s i hs
    unfold small at hs
    have := within_of (pick l i) s.lo (if s.lo < s.hi then s.hi else s.lo) (by split <;> omega)
    rw [this]
    rfl
  have v0 := key b.s0 0 h0
  have v1 := key b.s1 1 h1
  have v2 := key b.s2 2 h2
  have v3 := key b.s3 3 h3
  simp -implicitDefEqProofs [pick_0, p1, p2, p3, v0, v1, v2, v3, run_round, insideOf]
theorem c_Inside : Contract Try.prog 23 (sp2 InsideC) :=
  contract_of_runs mixed (tbl_cons c_pick (tbl_cons c_Within tbl_nil)) Try.func23 m23 (sp2_runs runs_Inside)
theorem okB_region (dim : Int) (l : List Int) : okB (regionOf dim l) ∧ (regionOf dim l).empty = false ∧ small (regionOf dim l).s0 ∧ small (regionOf dim l).s1 ∧ small (regionOf dim l).s2 ∧ small (regionOf dim l).s3 := by
  have h0 := rSpan_le dim l 0
  have h1 := rSpan_le dim l 1
  have h2 := rSpan_le dim l 2
  have h3 := rSpan_le dim l 3
  unfold regionOf small
  simp only
  refine ⟨?_, ?_, by omega, by omega, by omega, by omega⟩
  · unfold okB okS64 ok64
    simp only
    omega
  · unfold Box.empty Span.empty
    simp only [Bool.or_eq_false_iff, decide_eq_false_iff_not]
    omega
end Go.Co
/- CO: margins, the best class (written by mkCoO.py). -/
namespace Go.Co
open Go.Am Go.Proofs
set_option linter.unusedSimpArgs false
set_option linter.unusedVariables false
end Go.Co
/- CO: right trees and right models: told of any. -/
set_option maxHeartbeats 16000000
set_option maxRecDepth 100000
namespace Go.Co
open Go.Am Go.Proofs
set_option linter.unusedSimpArgs false
set_option linter.unusedVariables false
open Classical in
noncomputable def rightT (l : List Word) (dim : Int) : Bool := decide (RT l dim)
theorem rightT_true {l : List Word} {dim : Int} : rightT l dim = true ↔ RT l dim := by unfold rightT; simp
theorem rightT_false {l : List Word} {dim : Int} : rightT l dim = false ↔ ¬ RT l dim := by unfold rightT; simp
def okL (l : List Word) : Prop := ∀ w ∈ l, okW w.v
noncomputable def TreeRightT (l : List Word) (dim : Int) : Option Bool := Part (okL l ∧ l.length ≤ maxN) (rightT l dim)
def Pre (l : List Word) (dim : Int) (n : Nat) : Prop := ∀ (i : Nat) (h : i < l.length), i < n → (unpack l[i]).2 = true ∧ ((nd l[i]).leaf = false → (nd l[i]).feature < dim ∧ (nd l[i]).left ≠ (nd l[i]).right ∧ (i : Int) < (nd l[i]).left ∧ (nd l[i]).left < l.length ∧ (i : Int) < (nd l[i]).right ∧ (nd l[i]).right < l.length)
theorem Pre.zero {l : List Word} {dim : Int} : Pre l dim 0 := fun i h hi => by omega
theorem Pre.leaf {l : List Word} {dim : Int} {i : Nat} (h : Pre l dim i) (hi : i < l.length) (hok : (unpack l[i]).2 = true) (hl : (ndAt l i).leaf = true) : Pre l dim (i + 1) := by
  intro j hj hji
  by_cases e : j = i
  · subst e
    rw [ndAt_lt hi] at hl
    exact ⟨hok, fun h => by rw [hl] at h; cases h⟩
  · exact h j hj (by omega)
theorem Pre.inner {l : List Word} {dim : Int} {i : Nat} (h : Pre l dim i) (hi : i < l.length) (hok : (unpack l[i]).2 = true) (ha : (ndAt l i).feature < dim ∧ (ndAt l i).left ≠ (ndAt l i).right ∧ (i : Int) < (ndAt l i).left ∧ (ndAt l i).left < l.length ∧ (i : Int) < (ndAt l i).right ∧ (ndAt l i).right < l.length) : Pre l dim (i + 1) := by
  intro j hj hji
  by_cases e : j = i
  · subst e
    rw [ndAt_lt hi] at ha
    exact ⟨hok, fun _ => ha⟩
  · exact h j hj (by omega)
theorem cnts_innerT {l : List Word} {i : Nat} (h : i < l.length) (hl : (ndAt l i).leaf = false) (ha : (ndAt l i).left ≠ (ndAt l i).right ∧ (i : Int) < (ndAt l i).left ∧ (ndAt l i).left < l.length ∧ (i : Int) < (ndAt l i).right ∧ (ndAt l i).right < l.length) :
    cnts l (i + 1) = ((cnts l i).set (ndAt l i).left.toNat (cnt l i (ndAt l i).left.toNat + 1)).set (ndAt l i).right.toNat (cnt l i (ndAt l i).right.toNat + 1) := by
  apply List.ext_getElem
  · simp [cnts]
  · intro j h1 h2
    rw [cnts_get, cnt_succ h, List.getElem_set, List.getElem_set]
    simp only [cnts_get, names, hl, Bool.not_false, Bool.true_and, Bool.or_eq_true, decide_eq_true_eq]
    by_cases e1 : (ndAt l i).right.toNat = j
    · rw [if_pos e1, if_pos (by omega), e1]
    · rw [if_neg e1]
      by_cases e2 : (ndAt l i).left.toNat = j
      · rw [if_pos e2, if_pos (by omega), e2]
      · rw [if_neg e2, if_neg (by omega)]
        omega
theorem unpackT {l : List Word} (h : okL l) {i : Nat} (hi : i < l.length) : Unpack ⟨l[i].v⟩ = some (ndAt l i, (unpack l[i]).2) := by
  have h1 := h l[i] (List.getElem_mem hi)
  unfold Unpack
  have h1' : 0 ≤ (⟨l[i].v⟩ : Word).v ∧ (⟨l[i].v⟩ : Word).v < 18446744073709551616 := h1
  rw [if_pos h1']
  have e : (⟨l[i].v⟩ : Word) = l[i] := rfl
  rw [e, ndAt_lt hi]
  rfl
theorem rt_of {l : List Word} {dim : Int} (hw : okL l) (h1 : 1 ≤ l.length) (h2 : l.length ≤ 31) (hp : Pre l dim l.length) (ho : ∀ j : Nat, 1 ≤ j → j < l.length → cnt l l.length j = 1) : RT l dim where
  ok := fun i h => ⟨hw _ (List.getElem_mem h), (hp i h h).1⟩
  pos := h1
  le := h2
  inner := fun i h hl => (hp i h h).2 hl
  once := fun j hj hj2 => by
    have := ho j hj hj2
    unfold cnt at this
    rw [List.take_length] at this
    omega
theorem runs_tRightT (l : List Word) (dim : Int) (c : Bool) (h : TreeRightT l dim = some c) : Runs (tbl [(15, sp1 Unpack)]) a14 [Arg.enc l, Arg.enc dim] (Arg.enc c) := by
  obtain ⟨⟨hw, hmx⟩, rfl⟩ := part_some h
  clear h
  cases hc : rightT l dim
  case true => exact runs_tRight l dim true (part_of (rightT_true.1 hc) _)
  have hn := rightT_false.1 hc
  refine ⟨rfl, fun g => run_def ?_⟩
  unfold a14
  by_cases b1 : (l.length : Int) < 1
  case pos => simp -implicitDefEqProofs [b1, hmx]
  by_cases b2 : (l.length : Int) > 31
  case pos =>
    have b2' : (31 : Int) < l.length := b2
    simp -implicitDefEqProofs [b1, b2', hmx]
  have b3 : l.length ≤ maxN := by unfold maxN; omega
  have b4 : (l.length : Int) ≤ 1099511627776 := by omega
  simp -implicitDefEqProofs [b1, b2, b3, b4, rep_ints]
  rw [rep_cells]
  refine run_while (c := c14_37) (fun m s => ∃ (i : Nat) (g : Nat → Nat), i + m = l.length ∧ Pre l dim i ∧ s = ⟨[(0, .lst l.length (encL l)), (1, .int .i64 dim), (5, .own 5 (g 5) 0 l.length), (23, .lst l.length (encL l)), (24, .int .i64 l.length), (25, .int .i64 i)], [(5, ⟨encL (cnts l i), false, 1⟩)], g⟩) l.length ⟨0, bump 5 g, by omega, Pre.zero, by simp [cnts_zero]⟩ ?_
  rintro m s ⟨i, g, hi, hpre, rfl⟩
  by_cases h1 : i < l.length
  case pos =>
    have hU := unpackT hw h1
    have w1 : IntKind.i64.wrap ((i : Int) + 1) = (i : Int) + 1 := wrap64 (by omega) (by omega)
    cases hok : (unpack l[i]).2
    case false =>
      rw [hok] at hU
      simp -implicitDefEqProofs [h1, rd_words, hU, w1]
    rw [hok] at hU
    cases hl : (ndAt l i).leaf
    case true =>
      simp -implicitDefEqProofs [h1, rd_words, hU, hl, w1]
      exact ⟨m - 1, by omega, i + 1, by omega, hpre.leaf h1 hok hl, by omega, by rw [cnts_leaf h1 hl]⟩
    case false =>
      by_cases e1 : dim ≤ (ndAt l i).feature
      case pos => simp -implicitDefEqProofs [h1, rd_words, hU, hl, w1, e1]
      by_cases e2 : (ndAt l i).left = (ndAt l i).right
      case pos => simp -implicitDefEqProofs [h1, rd_words, hU, hl, w1, e1, e2]
      by_cases e3 : (if (ndAt l i).right < (ndAt l i).left then (ndAt l i).right else (ndAt l i).left) ≤ (i : Int)
      case pos => simp -implicitDefEqProofs [h1, rd_words, hU, hl, w1, e1, e2, e3]
      by_cases e4 : (l.length : Int) ≤ (if (ndAt l i).left < (ndAt l i).right then (ndAt l i).right else (ndAt l i).left)
      case pos => simp -implicitDefEqProofs [h1, rd_words, hU, hl, w1, b3, e1, e2, e3, e4]
      have f0 : (i : Int) < (ndAt l i).left ∧ (i : Int) < (ndAt l i).right := by split at e3 <;> omega
      have f0' : (ndAt l i).left < l.length ∧ (ndAt l i).right < l.length := by split at e4 <;> omega
      have e5 : ¬ (ndAt l i).left.toNat = (ndAt l i).right.toNat := by omega
      have f1 : 0 ≤ (ndAt l i).left := by omega
      have f2 : (ndAt l i).left < l.length := by omega
      have f3 : 0 ≤ (ndAt l i).right := by omega
      have f4 : (ndAt l i).right < l.length := by omega
      have f5 : (ndAt l i).left.toNat < l.length := by omega
      have f6 : (ndAt l i).right.toNat < l.length := by omega
      have n1 := cnt_le l i (ndAt l i).left.toNat
      have n2 := cnt_le l i (ndAt l i).right.toNat
      have w2 : IntKind.i64.wrap (cnt l i (ndAt l i).left.toNat + 1) = cnt l i (ndAt l i).left.toNat + 1 := wrap64 (by omega) (by omega)
      have w3 : IntKind.i64.wrap (cnt l i (ndAt l i).right.toNat + 1) = cnt l i (ndAt l i).right.toNat + 1 := wrap64 (by omega) (by omega)
      simp -implicitDefEqProofs [h1, rd_words, hU, hl, w1, b3, e1, e2, e3, e4, e5, f1, f2, f3, f4, f5, f6, cnts_len, cnts_get, rd_ints, wr_ints, encL_length, w2, w3]
      exact ⟨fun _ => ⟨fun _ => ⟨m - 1, by omega, i + 1, by omega, hpre.inner h1 hok ⟨by omega, e2, f0.1, f0'.1, f0.2, f0'.2⟩, by omega, by rw [cnts_innerT h1 hl ⟨e2, f0.1, f0'.1, f0.2, f0'.2⟩]⟩, by omega⟩, by omega⟩
  case neg =>
    have hil : i = l.length := by omega
    subst hil
    have p1 : (1 : Int) ≤ l.length := by omega
    have p2 : l.length - 1 ≤ maxN := by omega
    simp -implicitDefEqProofs [p1, p2]
    refine run_while (c := c14_56) (fun m s => ∃ (i : Nat), i + m = l.length - 1 ∧ (∀ j : Nat, 1 ≤ j → j ≤ i → cnt l l.length j = 1) ∧ s = ⟨[(85, .own 5 (g 5) 1 (l.length - 1)), (86, .int .i64 (l.length - 1 : Nat)), (87, .int .i64 i)], [(5, ⟨encL (cnts l l.length), false, 1⟩)], g⟩) (l.length - 1) ⟨0, by omega, fun j _ _ => by omega, by simp⟩ ?_
    rintro m s ⟨i, hi, hon, rfl⟩
    by_cases h1 : (i : Int) < (l.length - 1 : Nat)
    case pos =>
      have w1 : IntKind.i64.wrap ((i : Int) + 1) = (i : Int) + 1 := wrap64 (by omega) (by omega)
      have q1 : 1 + i < l.length := by omega
      by_cases hc : cnt l l.length (1 + i) = 1
      case pos =>
        simp -implicitDefEqProofs [h1, rd_ints, cnts_len, cnts_get, w1, q1, hc]
        refine ⟨m - 1, by omega, i + 1, by omega, fun j hj1 hj2 => ?_, by omega⟩
        by_cases e : j = 1 + i
        · rw [e]; exact hc
        · exact hon j hj1 (by omega)
      case neg => simp -implicitDefEqProofs [h1, rd_ints, cnts_len, cnts_get, w1, q1, hc]
    case neg =>
      exact absurd (rt_of hw (by omega) (by omega) hpre (fun j hj1 hj2 => hon j hj1 (by omega))) hn
theorem c_tRightT : Contract Try.prog 14 (sp2 TreeRightT) :=
  contract_of_runs mixed (tbl_cons c_Unpack tbl_nil) Try.func14 m14 (sp2_runs runs_tRightT)
def c20_0 : ACode := .ops [⟨some 1, .box (.t 0) 6, none, []⟩,⟨some 2, .mv (.c (.int .i64 0)), none, []⟩] [1]
theorem r20_0 : type_of% (@rr _ _ c20_0.eq_1) := rr rfl
def c20_1 : ACode := .ops [⟨some 3, .mv (.c (.int .i64 0)), none, []⟩] [1, 3]
theorem r20_1 : type_of% (@rr _ _ c20_1.eq_1) := rr rfl
def c20_2 : ACode := .ops [⟨some 6, .fad (.t 1) 5, none, [1]⟩,⟨some 7, .load 1 false (.t 6), none, [1]⟩,⟨some 8, .len (.t 7), none, []⟩,⟨some 9, .mv (.c (.int .i64 0)), none, []⟩] [3, 7, 8, 9]
theorem r20_2 : type_of% (@rr _ _ c20_2.eq_1) := rr rfl
def c20_3 : ACode := .ops [⟨some 10, .bin .lss (.t 9) (.t 8), none, []⟩] [3, 7, 8, 9, 10]
theorem r20_3 : type_of% (@rr _ _ c20_3.eq_1) := rr rfl
def c20_4 : ACode := .cond (.t 10) .skip (.exit 0)
theorem r20_4 : type_of% (@rr _ _ c20_4.eq_1) := rr rfl
def c20_5 : ACode := .ops [⟨some 11, .ias (.t 7) (.t 9) 2, none, []⟩,⟨some 12, .load 2 true (.t 11), none, []⟩,⟨some 5, .alloc [.int .i64 0, .nils], none, []⟩,⟨none, .store (.t 5) 2 (.t 12), none, [5]⟩] [3, 5, 7, 8, 9]
theorem r20_5 : type_of% (@rr _ _ c20_5.eq_1) := rr rfl
def c20_6 : ACode := .ops [⟨some 13, .mv (.t 3), none, []⟩,⟨some 14, .fad (.t 5) 1, none, [5]⟩,⟨some 15, .load 1 false (.t 14), none, [5]⟩,⟨some 16, .len (.t 15), none, []⟩,⟨some 17, .bin .add (.t 13) (.t 16), none, []⟩,⟨some 3, .mv (.t 17), none, []⟩] [3, 7, 8, 9]
theorem r20_6 : type_of% (@rr _ _ c20_6.eq_1) := rr rfl
def c20_7 : ACode := .seq c20_5 c20_6
theorem r20_7 : type_of% (@rr _ _ c20_7.eq_1) := rr rfl
def c20_8 : ACode := .block 1 c20_7
theorem r20_8 : type_of% (@rr _ _ c20_8.eq_1) := rr rfl
def c20_9 : ACode := .ops [⟨some 18, .bin .add (.t 9) (.c (.int .i64 1)), none, []⟩,⟨some 9, .mv (.t 18), none, []⟩] [3, 7, 8, 9]
theorem r20_9 : type_of% (@rr _ _ c20_9.eq_1) := rr rfl
def c20_10 : ACode := .seq c20_8 c20_9
theorem r20_10 : type_of% (@rr _ _ c20_10.eq_1) := rr rfl
def c20_11 : ACode := .seq c20_4 c20_10
theorem r20_11 : type_of% (@rr _ _ c20_11.eq_1) := rr rfl
def c20_12 : ACode := .seq c20_3 c20_11
theorem r20_12 : type_of% (@rr _ _ c20_12.eq_1) := rr rfl
def c20_13 : ACode := .keep [3, 7, 8, 9] [] c20_12
theorem r20_13 : type_of% (@rr _ _ c20_13.eq_1) := rr rfl
def c20_14 : ACode := .loop c20_13
theorem r20_14 : type_of% (@rr _ _ c20_14.eq_1) := rr rfl
def c20_15 : ACode := .block 0 c20_14
theorem r20_15 : type_of% (@rr _ _ c20_15.eq_1) := rr rfl
def c20_16 : ACode := .seq c20_2 c20_15
theorem r20_16 : type_of% (@rr _ _ c20_16.eq_1) := rr rfl
def c20_17 : ACode := .ops [⟨some 19, .mv (.t 3), none, []⟩,⟨some 2, .mv (.t 19), none, []⟩] [2]
theorem r20_17 : type_of% (@rr _ _ c20_17.eq_1) := rr rfl
def c20_18 : ACode := .seq c20_17 .ret
theorem r20_18 : type_of% (@rr _ _ c20_18.eq_1) := rr rfl
def c20_19 : ACode := .seq c20_16 c20_18
theorem r20_19 : type_of% (@rr _ _ c20_19.eq_1) := rr rfl
def c20_20 : ACode := .seq c20_1 c20_19
theorem r20_20 : type_of% (@rr _ _ c20_20.eq_1) := rr rfl
def c20_21 : ACode := .seq c20_0 c20_20
theorem r20_21 : type_of% (@rr _ _ c20_21.eq_1) := rr rfl
def a20 : AFun := ⟨1, 20, c20_21, [.t 2]⟩
attribute [simp] r20_0 r20_1 r20_2 r20_3 r20_4 r20_5 r20_6 r20_7 r20_8 r20_9 r20_10 r20_11 r20_12 r20_13 r20_14 r20_15 r20_16 r20_17 r20_18 r20_19 r20_20 r20_21
theorem m20 : mFun Try.prog Try.f20 a20 = true := by decide +kernel
def lenF (n : Int) (t : Tree) : Int := n + (t.nodes.length : Int)
def sizeM (m : Model) : Int := m.trees.foldl lenF 0
theorem size_le (l : List Tree) : ∀ (n : Int), (∀ t ∈ l, t.nodes.length ≤ 1099511627776) → n ≤ l.foldl lenF n ∧ l.foldl lenF n ≤ n + (l.length : Int) * 1099511627776 := by
  induction l with
  | nil => intro n _; simp
  | cons t l ih =>
    intro n h
    have h1 := h t (by simp)
    have h2 := ih (lenF n t) fun x hx => h x (by simp [hx])
    simp only [List.foldl_cons, List.length_cons]
    unfold lenF at h2 ⊢
    omega
noncomputable def SizeC (m : Model) : Option Int := Part (m.trees.length ≤ 100 ∧ ∀ t ∈ m.trees, t.nodes.length ≤ 1099511627776) (sizeM m)
theorem runs_Size (m : Model) (r : Int) (h : SizeC m = some r) : Runs (tbl []) a20 [Arg.enc m] (Arg.enc r) := by
  obtain ⟨⟨hl, ht⟩, rfl⟩ := part_some h
  clear h
  refine ⟨rfl, fun g => run_def ?_⟩
  unfold a20
  have b3 : m.trees.length ≤ maxN := by unfold maxN; omega
  simp -implicitDefEqProofs [b3]
  refine run_while (c := c20_12) (fun n s => ∃ (i : Nat) (g : Nat → Nat), i + n = m.trees.length ∧ s = ⟨[(3, .int .i64 ((m.trees.take i).foldl lenF 0)), (7, .lst m.trees.length (encL m.trees)), (8, .int .i64 m.trees.length), (9, .int .i64 i)], [], g⟩) m.trees.length ⟨0, bump 1 g, by omega, by simp⟩ ?_
  rintro n s ⟨i, g, hi, rfl⟩
  by_cases h1 : i < m.trees.length
  case pos =>
    have w1 : IntKind.i64.wrap ((i : Int) + 1) = (i : Int) + 1 := wrap64 (by omega) (by omega)
    have hrow := rd_tree m.trees i h1
    have hb := size_le (m.trees.take (i + 1)) 0 (fun t h => ht t (List.mem_of_mem_take h))
    have hn : m.trees[i].nodes.length ≤ maxN := by have := ht _ (List.getElem_mem h1); unfold maxN; omega
    have hs : (m.trees.take (i + 1)).foldl lenF 0 = (m.trees.take i).foldl lenF 0 + (m.trees[i].nodes.length : Int) := by
      rw [List.take_succ_eq_append_getElem h1, List.foldl_append]
      rfl
    have hll : (m.trees.take (i + 1)).length ≤ 100 := by simp; omega
    have w2 : IntKind.i64.wrap ((m.trees.take i).foldl lenF 0 + (m.trees[i].nodes.length : Int)) = (m.trees.take (i + 1)).foldl lenF 0 := by rw [← hs]; exact wrap64 (by omega) (by omega)
    simp -implicitDefEqProofs [h1, hrow, hn, w1, w2]
    exact ⟨n - 1, by omega, i + 1, by omega, rfl, by omega⟩
  case neg =>
    have hil : i = m.trees.length := by omega
    subst hil
    simp -implicitDefEqProofs [h1, sizeM]
theorem c_Size : Contract Try.prog 20 (sp1 SizeC) :=
  contract_of_runs mixed tbl_nil Try.func20 m20 (sp1_runs runs_Size)
theorem RM.size {m : Model} (h : RM m) : SizeC m = some (sizeM m) := part_of ⟨by have := h.trees; omega, fun t ht => by have := (h.tree t ht).2.2.le; omega⟩ _
end Go.Co
/- CO: thresholds of a feature. -/
namespace Go.Co
open Go.Am Go.Proofs
set_option linter.unusedSimpArgs false
set_option linter.unusedVariables false
attribute [-simp] Go.Am.eff_gcall
def cutF (j : Int) (w : Word) : Option Int := if (nd w).leaf = false ∧ (nd w).feature = j then some (nd w).cut else none
def rawW (j : Int) (l : List Word) : List Int := l.filterMap (cutF j)
def rawM (l : List Tree) (j : Int) : List Int := l.flatMap fun t => rawW j t.nodes
def thrL (m : Model) (j : Int) : List Int := Go.Lib.compact (isort (rawM m.trees j))
@[simp] theorem iv_plain (a : List Int) : (iv a).all AV.plain = true := by simp [iv]
@[simp] theorem iv_cell (a : List Int) : (iv a).all AV.isCell = true := by simp [iv]
theorem iv_enc (a : List Int) : iv a = encL a := by
  induction a with
  | nil => rfl
  | cons x xs ih =>
    have : encL (x :: xs) = .int .i64 x :: encL xs := rfl
    rw [this, ← ih]
    rfl
@[simp] theorem len_iv (a : List Int) : (iv a).length = a.length := iv_len a
end Go.Co
/- CO: cuts of a box, how many cells. -/
namespace Go.Co
open Go.Am Go.Proofs
set_option linter.unusedSimpArgs false
set_option linter.unusedVariables false
attribute [-simp] Go.Am.eff_gcall
def featOf (q : Query) (place : Int) : Int := if 0 ≤ place ∧ place < 4 then place else if place = 4 ∧ q.kind = 3 then q.feature else -1
def outS (s : Span) (t : Int) : Bool := decide (t < s.lo) || decide (s.hi ≤ t)
@[simp] theorem dec_ref_span (lo hi : Int) : (Arg.dec (.ipt 0 [.int .i64 lo, .int .i64 hi]) : Option (Ref Span)) = some ⟨⟨lo, hi⟩⟩ := Arg.dec_enc (⟨⟨lo, hi⟩⟩ : Ref Span)
def cutsL (m : Model) (q : Query) (b : Box) (place : Int) : List Int := if featOf q place < 0 then [] else (thrL m (featOf q place)).filter fun t => !outS (b.get place) t
end Go.Co
/- CO: thresholds rise; cuts of parts. -/
namespace Go.Co
open Go.Am Go.Proofs
set_option linter.unusedSimpArgs false
set_option linter.unusedVariables false
end Go.Co
/- CO: right queries (written by mkCoJ.py). -/
namespace Go.Co
open Go.Am Go.Proofs
set_option linter.unusedSimpArgs false
set_option linter.unusedVariables false
end Go.Co
/- CO: boxes of a query, cuts of boxes and their counts. -/
namespace Go.Co
open Go.Am Go.Proofs
set_option linter.unusedSimpArgs false
set_option linter.unusedVariables false
theorem get_spans {b : Box} (h : b.empty = false) (i : Int) : (b.get i).lo ≤ (b.get i).hi := by
  have := empty_spec h
  unfold Span.empty at this
  simp only [decide_eq_false_iff_not] at this
  unfold Box.get
  split
  · omega
  · split
    · omega
    · split
      · omega
      · split <;> omega
end Go.Co
/- CO: the cells of a box, by places; points of one cell come to the same. -/
namespace Go.Co
open Go.Am Go.Proofs
set_option linter.unusedSimpArgs false
set_option linter.unusedVariables false
theorem set_get_ite (b : Box) {k i : Int} (s : Span) (h0 : 0 ≤ k) (h5 : k < 5) (i0 : 0 ≤ i) (i5 : i < 5) : (b.set k s).get i = if i = k then s else b.get i := by
  have h1 : k = 0 ∨ k = 1 ∨ k = 2 ∨ k = 3 ∨ k = 4 := by omega
  have h2 : i = 0 ∨ i = 1 ∨ i = 2 ∨ i = 3 ∨ i = 4 := by omega
  rcases h1 with rfl | rfl | rfl | rfl | rfl <;> rcases h2 with rfl | rfl | rfl | rfl | rfl <;> rfl
theorem empty_get {b : Box} : b.empty = false ↔ ∀ i : Int, 0 ≤ i → i < 5 → (b.get i).lo ≤ (b.get i).hi := by
  constructor
  · intro h i _ _; exact get_spans h i
  · intro h
    have h0 := h 0 (by omega) (by omega)
    have h1 := h 1 (by omega) (by omega)
    have h2 := h 2 (by omega) (by omega)
    have h3 := h 3 (by omega) (by omega)
    have h4 := h 4 (by omega) (by omega)
    unfold Box.empty Span.empty
    simp only [Bool.or_eq_false_iff, decide_eq_false_iff_not]
    simp only [Box.get, Int.reduceEq, if_true, if_false] at h0 h1 h2 h3 h4
    omega
structure PartTo (m : Model) (q : Query) (b : Box) (j : Nat) (x : Box) : Prop where
  done : ∀ i : Int, 0 ≤ i → i < j → (x.get i).lo ≤ (x.get i).hi ∧ (b.get i).lo ≤ (x.get i).lo ∧ (x.get i).hi ≤ (b.get i).hi ∧ ∀ t ∈ cutsL m q b i, t < (x.get i).lo ∨ (x.get i).hi ≤ t
  rest : ∀ i : Int, (j : Int) ≤ i → i < 5 → x.get i = b.get i
end Go.Co
