/- CO: texts of this claim, one behind the other. -/
import Derived.Test.YtlbfmeijjgphfaaGreatCz5
import Derived.Test.YtlbfmeijjgphfaaGreatCz1
set_option linter.unusedVariables false
set_option linter.unusedSimpArgs false
/- CO: bounds. -/
set_option maxHeartbeats 16000000
set_option maxRecDepth 100000
namespace Go.Co
open Go.Am Go.Proofs
def c55_0 : ACode := .ops [⟨some 3, .box (.t 1) 10, none, []⟩,⟨some 4, .mv (.c (.int .i64 0)), none, []⟩,⟨some 5, .mv (.c (.int .i64 0)), none, []⟩,⟨some 6, .mv (.c (.bool false)), none, []⟩] [0, 3]
theorem r55_0 : type_of% (rr c55_0.eq_1) := rr rfl
def c55_1 : ACode := .ops [⟨some 12, .mv (.t 0), none, []⟩,⟨some 13, .load 10 true (.t 3), none, [3]⟩,⟨some 14, .call 81 [.t 12, .t 13], none, []⟩,⟨some 7, .mv (.t 14), none, []⟩] [7]
theorem r55_1 : type_of% (rr c55_1.eq_1) := rr rfl
def c55_2 : ACode := .ops [⟨some 15, .mv (.t 7), none, []⟩,⟨some 16, .len (.t 15), none, []⟩,⟨some 17, .bin .eql (.t 16) (.c (.int .i64 0)), none, []⟩] [7, 17]
theorem r55_2 : type_of% (rr c55_2.eq_1) := rr rfl
def c55_3 : ACode := .ops [⟨some 4, .mv (.c (.int .i64 0)), none, []⟩,⟨some 5, .mv (.c (.int .i64 0)), none, []⟩,⟨some 6, .mv (.c (.bool false)), none, []⟩] [4, 5, 6]
theorem r55_3 : type_of% (rr c55_3.eq_1) := rr rfl
def c55_4 : ACode := .seq c55_3 .ret
theorem r55_4 : type_of% (rr c55_4.eq_1) := rr rfl
def c55_5 : ACode := .cond (.t 17) c55_4 .skip
theorem r55_5 : type_of% (rr c55_5.eq_1) := rr rfl
def c55_6 : ACode := .seq c55_2 c55_5
theorem r55_6 : type_of% (rr c55_6.eq_1) := rr rfl
def c55_7 : ACode := .ops [⟨some 18, .mv (.t 7), none, []⟩,⟨some 19, .ias (.t 18) (.c (.int .i64 0)) 11, none, []⟩,⟨some 20, .fad (.t 19) 10, none, []⟩,⟨some 21, .load 1 false (.t 20), none, []⟩,⟨some 22, .mv (.t 7), none, []⟩,⟨some 23, .ias (.t 22) (.c (.int .i64 0)) 11, none, []⟩,⟨some 24, .fad (.t 23) 10, none, []⟩,⟨some 25, .load 1 false (.t 24), none, []⟩,⟨some 8, .mv (.t 21), none, []⟩,⟨some 9, .mv (.t 25), none, []⟩] [7, 8, 9]
theorem r55_7 : type_of% (rr c55_7.eq_1) := rr rfl
def c55_8 : ACode := .ops [⟨some 26, .mv (.t 7), none, []⟩,⟨some 27, .len (.t 26), none, []⟩,⟨some 28, .mv (.c (.int .i64 0)), none, []⟩] [8, 9, 26, 27, 28]
theorem r55_8 : type_of% (rr c55_8.eq_1) := rr rfl
def c55_9 : ACode := .ops [⟨some 29, .bin .lss (.t 28) (.t 27), none, []⟩] [8, 9, 26, 27, 28, 29]
theorem r55_9 : type_of% (rr c55_9.eq_1) := rr rfl
def c55_10 : ACode := .cond (.t 29) .skip (.exit 0)
theorem r55_10 : type_of% (rr c55_10.eq_1) := rr rfl
def c55_11 : ACode := .ops [⟨some 30, .ias (.t 26) (.t 28) 11, none, []⟩,⟨some 31, .load 11 true (.t 30), none, []⟩,⟨some 11, .alloc [.int .i64 0, .int .i64 0, .int .i64 0, .int .i64 0, .int .i64 0, .int .i64 0, .int .i64 0, .int .i64 0, .int .i64 0, .int .i64 0, .int .i64 0], none, []⟩,⟨none, .store (.t 11) 11 (.t 31), none, [11]⟩] [8, 9, 11, 26, 27, 28]
theorem r55_11 : type_of% (rr c55_11.eq_1) := rr rfl
def c55_12 : ACode := .ops [⟨some 32, .mv (.t 8), none, []⟩,⟨some 33, .fad (.t 11) 10, none, [11]⟩,⟨some 34, .load 1 false (.t 33), none, [11]⟩,⟨some 35, .mnmx false (.t 32) (.t 34), none, []⟩,⟨some 36, .mv (.t 9), none, []⟩,⟨some 37, .fad (.t 11) 10, none, [11]⟩,⟨some 38, .load 1 false (.t 37), none, [11]⟩,⟨some 39, .mnmx true (.t 36) (.t 38), none, []⟩,⟨some 8, .mv (.t 35), none, []⟩,⟨some 9, .mv (.t 39), none, []⟩] [8, 9, 26, 27, 28]
theorem r55_12 : type_of% (rr c55_12.eq_1) := rr rfl
def c55_13 : ACode := .seq c55_11 c55_12
theorem r55_13 : type_of% (rr c55_13.eq_1) := rr rfl
def c55_14 : ACode := .block 1 c55_13
theorem r55_14 : type_of% (rr c55_14.eq_1) := rr rfl
def c55_15 : ACode := .ops [⟨some 40, .bin .add (.t 28) (.c (.int .i64 1)), none, []⟩,⟨some 28, .mv (.t 40), none, []⟩] [8, 9, 26, 27, 28]
theorem r55_15 : type_of% (rr c55_15.eq_1) := rr rfl
def c55_16 : ACode := .seq c55_14 c55_15
theorem r55_16 : type_of% (rr c55_16.eq_1) := rr rfl
def c55_17 : ACode := .seq c55_10 c55_16
theorem r55_17 : type_of% (rr c55_17.eq_1) := rr rfl
def c55_18 : ACode := .seq c55_9 c55_17
theorem r55_18 : type_of% (rr c55_18.eq_1) := rr rfl
def c55_19 : ACode := .keep [8, 9, 26, 27, 28] [] c55_18
theorem r55_19 : type_of% (rr c55_19.eq_1) := rr rfl
def c55_20 : ACode := .loop c55_19
theorem r55_20 : type_of% (rr c55_20.eq_1) := rr rfl
def c55_21 : ACode := .block 0 c55_20
theorem r55_21 : type_of% (rr c55_21.eq_1) := rr rfl
def c55_22 : ACode := .seq c55_8 c55_21
theorem r55_22 : type_of% (rr c55_22.eq_1) := rr rfl
def c55_23 : ACode := .ops [⟨some 41, .mv (.t 8), none, []⟩,⟨some 42, .mv (.t 9), none, []⟩,⟨some 4, .mv (.t 41), none, []⟩,⟨some 5, .mv (.t 42), none, []⟩,⟨some 6, .mv (.c (.bool true)), none, []⟩] [4, 5, 6]
theorem r55_23 : type_of% (rr c55_23.eq_1) := rr rfl
def c55_24 : ACode := .seq c55_23 .ret
theorem r55_24 : type_of% (rr c55_24.eq_1) := rr rfl
def c55_25 : ACode := .seq c55_22 c55_24
theorem r55_25 : type_of% (rr c55_25.eq_1) := rr rfl
def c55_26 : ACode := .seq c55_7 c55_25
theorem r55_26 : type_of% (rr c55_26.eq_1) := rr rfl
def c55_27 : ACode := .seq c55_6 c55_26
theorem r55_27 : type_of% (rr c55_27.eq_1) := rr rfl
def c55_28 : ACode := .seq c55_1 c55_27
theorem r55_28 : type_of% (rr c55_28.eq_1) := rr rfl
def c55_29 : ACode := .seq c55_0 c55_28
theorem r55_29 : type_of% (rr c55_29.eq_1) := rr rfl
def a55 : AFun := ⟨2, 43, c55_29, [.t 4, .t 5, .t 6]⟩
attribute [simp] r55_0 r55_1 r55_2 r55_3 r55_4 r55_5 r55_6 r55_7 r55_8 r55_9 r55_10 r55_11 r55_12 r55_13 r55_14 r55_15 r55_16 r55_17 r55_18 r55_19 r55_20 r55_21 r55_22 r55_23 r55_24 r55_25 r55_26 r55_27 r55_28 r55_29
theorem m55 : mFun Tryz.prog Tryz.f55 a55 = true := by decide +kernel
def c27_0 : ACode := .ops [⟨some 3, .box (.t 0) 6, none, []⟩,⟨some 5, .box (.t 2) 10, none, []⟩,⟨some 6, .mv (.c (.int .i64 0)), none, []⟩,⟨some 7, .mv (.c (.int .i64 0)), none, []⟩,⟨some 8, .mv (.c (.bool false)), none, []⟩] [1, 3, 5]
theorem r27_0 : type_of% (rr c27_0.eq_1) := rr rfl
def c27_1 : ACode := .ops [⟨some 16, .load 6 true (.t 3), none, [3]⟩,⟨some 17, .call 43 [.t 16], none, []⟩,⟨some 18, .un .not (.t 17), none, []⟩,⟨some 19, .mv (.t 18), none, []⟩,⟨some 20, .mv (.t 1), some (19, false), []⟩,⟨some 21, .bin .lss (.t 20) (.c (.int .i64 0)), some (19, false), []⟩,⟨some 22, .pick (.t 19) (.c (.bool true)) (.t 21), none, []⟩,⟨some 23, .mv (.t 22), none, []⟩,⟨some 24, .mv (.t 1), some (23, false), []⟩,⟨some 25, .fad (.t 3) 1, some (23, false), [3]⟩,⟨some 26, .load 1 false (.t 25), some (23, false), [3]⟩,⟨some 27, .bin .geq (.t 24) (.t 26), some (23, false), []⟩,⟨some 28, .pick (.t 23) (.c (.bool true)) (.t 27), none, []⟩,⟨some 29, .mv (.t 28), none, []⟩,⟨some 30, .load 10 true (.t 5), some (29, false), [5]⟩,⟨some 31, .call 26 [.t 30], some (29, false), []⟩,⟨some 32, .pick (.t 29) (.c (.bool true)) (.t 31), none, []⟩] [1, 3, 5, 32]
theorem r27_1 : type_of% (rr c27_1.eq_1) := rr rfl
def c27_2 : ACode := .ops [⟨some 6, .mv (.c (.int .i64 0)), none, []⟩,⟨some 7, .mv (.c (.int .i64 0)), none, []⟩,⟨some 8, .mv (.c (.bool false)), none, []⟩] [6, 7, 8]
theorem r27_2 : type_of% (rr c27_2.eq_1) := rr rfl
def c27_3 : ACode := .seq c27_2 .ret
theorem r27_3 : type_of% (rr c27_3.eq_1) := rr rfl
def c27_4 : ACode := .cond (.t 32) c27_3 .skip
theorem r27_4 : type_of% (rr c27_4.eq_1) := rr rfl
def c27_5 : ACode := .seq c27_1 c27_4
theorem r27_5 : type_of% (rr c27_5.eq_1) := rr rfl
def c27_6 : ACode := .ops [⟨some 33, .mv (.t 1), none, []⟩,⟨some 34, .fad (.t 3) 2, none, [3]⟩,⟨some 35, .iad (.t 34) (.t 33) 1 3, none, [3]⟩,⟨some 36, .load 1 false (.t 35), none, [3]⟩,⟨some 37, .mv (.t 1), none, []⟩,⟨some 38, .fad (.t 3) 2, none, [3]⟩,⟨some 39, .iad (.t 38) (.t 37) 1 3, none, [3]⟩,⟨some 40, .load 1 false (.t 39), none, [3]⟩,⟨some 9, .mv (.t 36), none, []⟩,⟨some 10, .mv (.t 40), none, []⟩] [1, 3, 5, 9, 10]
theorem r27_6 : type_of% (rr c27_6.eq_1) := rr rfl
def c27_7 : ACode := .ops [⟨some 41, .fad (.t 3) 5, none, [3]⟩,⟨some 42, .load 1 false (.t 41), none, [3]⟩,⟨some 43, .len (.t 42), none, []⟩,⟨some 44, .mv (.c (.int .i64 0)), none, []⟩] [1, 5, 9, 10, 42, 43, 44]
theorem r27_7 : type_of% (rr c27_7.eq_1) := rr rfl
def c27_8 : ACode := .ops [⟨some 45, .bin .lss (.t 44) (.t 43), none, []⟩] [1, 5, 9, 10, 42, 43, 44, 45]
theorem r27_8 : type_of% (rr c27_8.eq_1) := rr rfl
def c27_9 : ACode := .cond (.t 45) .skip (.exit 0)
theorem r27_9 : type_of% (rr c27_9.eq_1) := rr rfl
def c27_10 : ACode := .ops [⟨some 46, .ias (.t 42) (.t 44) 2, none, []⟩,⟨some 47, .load 2 true (.t 46), none, []⟩,⟨some 12, .alloc [.int .i64 0, .nils], none, []⟩,⟨none, .store (.t 12) 2 (.t 47), none, [12]⟩] [1, 5, 9, 10, 12, 42, 43, 44]
theorem r27_10 : type_of% (rr c27_10.eq_1) := rr rfl
def c27_11 : ACode := .ops [⟨some 48, .fad (.t 12) 0, none, [12]⟩,⟨some 49, .load 1 false (.t 48), none, [12]⟩,⟨some 50, .mv (.t 1), none, []⟩,⟨some 51, .bin .neq (.t 49) (.t 50), none, []⟩] [1, 5, 9, 10, 12, 42, 43, 44, 51]
theorem r27_11 : type_of% (rr c27_11.eq_1) := rr rfl
def c27_12 : ACode := .cond (.t 51) (.exit 1) .skip
theorem r27_12 : type_of% (rr c27_12.eq_1) := rr rfl
def c27_13 : ACode := .seq c27_11 c27_12
theorem r27_13 : type_of% (rr c27_13.eq_1) := rr rfl
def c27_14 : ACode := .ops [⟨some 53, .fad (.t 12) 1, none, [12]⟩,⟨some 54, .load 1 false (.t 53), none, [12]⟩,⟨some 55, .load 10 true (.t 5), none, [5]⟩,⟨some 56, .call 55 [.t 54, .t 55], none, []⟩,⟨some 52, .mv (.t 56), none, []⟩,⟨some 57, .ext (.t 52) 0, none, []⟩,⟨some 58, .ext (.t 52) 1, none, []⟩,⟨some 59, .ext (.t 52) 2, none, []⟩,⟨some 13, .mv (.t 57), none, []⟩,⟨some 14, .mv (.t 58), none, []⟩,⟨some 15, .mv (.t 59), none, []⟩] [1, 5, 9, 10, 13, 14, 42, 43, 44]
theorem r27_14 : type_of% (rr c27_14.eq_1) := rr rfl
def c27_15 : ACode := .ops [⟨some 60, .mv (.t 9), none, []⟩,⟨some 61, .mv (.t 13), none, []⟩,⟨some 62, .bin .add (.t 60) (.t 61), none, []⟩,⟨some 63, .mv (.t 10), none, []⟩,⟨some 64, .mv (.t 14), none, []⟩,⟨some 65, .bin .add (.t 63) (.t 64), none, []⟩,⟨some 9, .mv (.t 62), none, []⟩,⟨some 10, .mv (.t 65), none, []⟩] [1, 5, 9, 10, 42, 43, 44]
theorem r27_15 : type_of% (rr c27_15.eq_1) := rr rfl
def c27_16 : ACode := .seq c27_14 c27_15
theorem r27_16 : type_of% (rr c27_16.eq_1) := rr rfl
def c27_17 : ACode := .seq c27_13 c27_16
theorem r27_17 : type_of% (rr c27_17.eq_1) := rr rfl
def c27_18 : ACode := .seq c27_10 c27_17
theorem r27_18 : type_of% (rr c27_18.eq_1) := rr rfl
def c27_19 : ACode := .block 1 c27_18
theorem r27_19 : type_of% (rr c27_19.eq_1) := rr rfl
def c27_20 : ACode := .ops [⟨some 66, .bin .add (.t 44) (.c (.int .i64 1)), none, []⟩,⟨some 44, .mv (.t 66), none, []⟩] [1, 5, 9, 10, 42, 43, 44]
theorem r27_20 : type_of% (rr c27_20.eq_1) := rr rfl
def c27_21 : ACode := .seq c27_19 c27_20
theorem r27_21 : type_of% (rr c27_21.eq_1) := rr rfl
def c27_22 : ACode := .seq c27_9 c27_21
theorem r27_22 : type_of% (rr c27_22.eq_1) := rr rfl
def c27_23 : ACode := .seq c27_8 c27_22
theorem r27_23 : type_of% (rr c27_23.eq_1) := rr rfl
def c27_24 : ACode := .keep [1, 5, 9, 10, 42, 43, 44] [5] c27_23
theorem r27_24 : type_of% (rr c27_24.eq_1) := rr rfl
def c27_25 : ACode := .loop c27_24
theorem r27_25 : type_of% (rr c27_25.eq_1) := rr rfl
def c27_26 : ACode := .block 0 c27_25
theorem r27_26 : type_of% (rr c27_26.eq_1) := rr rfl
def c27_27 : ACode := .seq c27_7 c27_26
theorem r27_27 : type_of% (rr c27_27.eq_1) := rr rfl
def c27_28 : ACode := .ops [⟨some 67, .mv (.t 9), none, []⟩,⟨some 68, .mv (.t 10), none, []⟩,⟨some 6, .mv (.t 67), none, []⟩,⟨some 7, .mv (.t 68), none, []⟩,⟨some 8, .mv (.c (.bool true)), none, []⟩] [6, 7, 8]
theorem r27_28 : type_of% (rr c27_28.eq_1) := rr rfl
def c27_29 : ACode := .seq c27_28 .ret
theorem r27_29 : type_of% (rr c27_29.eq_1) := rr rfl
def c27_30 : ACode := .seq c27_27 c27_29
theorem r27_30 : type_of% (rr c27_30.eq_1) := rr rfl
def c27_31 : ACode := .seq c27_6 c27_30
theorem r27_31 : type_of% (rr c27_31.eq_1) := rr rfl
def c27_32 : ACode := .seq c27_5 c27_31
theorem r27_32 : type_of% (rr c27_32.eq_1) := rr rfl
def c27_33 : ACode := .seq c27_0 c27_32
theorem r27_33 : type_of% (rr c27_33.eq_1) := rr rfl
def a27 : AFun := ⟨3, 69, c27_33, [.t 6, .t 7, .t 8]⟩
attribute [simp] r27_0 r27_1 r27_2 r27_3 r27_4 r27_5 r27_6 r27_7 r27_8 r27_9 r27_10 r27_11 r27_12 r27_13 r27_14 r27_15 r27_16 r27_17 r27_18 r27_19 r27_20 r27_21 r27_22 r27_23 r27_24 r27_25 r27_26 r27_27 r27_28 r27_29 r27_30 r27_31 r27_32 r27_33
theorem m27 : mFun Tryz.prog Tryz.f27 a27 = true := by decide +kernel
theorem rd_piece (l : List Piece) (i : Nat) (h : i < l.length) : rd (encL l) (i * 11) 11 true = some (.agg (Row.enc l[i])) := rd_row l i h
theorem rd_piece10 (l : List Piece) (i : Nat) (h : i < l.length) : rd (encL l) (i * 11 + 10) 1 false = some (.int .i64 l[i].value) := rd_cell l i 10 h (by decide)
@[simp 5000] theorem rd_biasN (a b : Int) (x : Bias) (y : AV) (k : Nat) (h : k < 3) : rd [.int .i64 a, .int .i64 b, .int .i64 x.b0, .int .i64 x.b1, .int .i64 x.b2, y] (2 + k) 1 false = some (.int .i64 (x.get k)) := by
  have := rd_bias a b x y k (by omega) (by omega)
  simpa using this
theorem piecesX (l : List Word) (b : Box) : ends (if b.empty then [] else pieces l b) = boundT l b := by
  unfold boundT
  cases b.empty <;> rfl
theorem len_pieces (l : List Word) (b : Box) : (if b.empty then [] else pieces l b).length ≤ l.length := by
  split
  · simp
  · exact piecesTo_len l b l.length
noncomputable def BoundT (l : List Word) (b : Box) : Option (Tri Int Int Bool) := Part ((∃ d, RT l d) ∧ okB b) (boundT l b)
theorem runs_bTree (l : List Word) (b : Box) (c : Tri Int Int Bool) (h : BoundT l b = some c) : Runs (tbl [(81, sp2 ListC)]) a55 [Arg.enc l, Arg.enc b] (Arg.enc c) := by
  obtain ⟨hh, rfl⟩ := part_some h
  refine ⟨rfl, fun g => run_def ?_⟩
  unfold a55
  have hL : ListC l b = some (if b.empty then [] else pieces l b) := part_of hh _
  have hl := len_pieces l b
  obtain ⟨⟨d, hr⟩, hb⟩ := hh
  have hle := hr.le
  rw [← piecesX]
  generalize (if b.empty then [] else pieces l b) = ps at *
  have b3 : ps.length ≤ maxN := by unfold maxN; omega
  cases ps with
  | nil => simp -implicitDefEqProofs [hL, ends, encL_nil]
  | cons x xs =>
    have hne : ¬ ((x :: xs).length : Int) = 0 := by simp; omega
    have hnn : x :: xs ≠ [] := by simp
    have r0 : rd (encL (x :: xs)) 10 1 false = some (.int .i64 x.value) := rd_piece10 (x :: xs) 0 (by simp)
    have hpos : 0 < (x :: xs).length := by simp
    have he : ends (x :: xs) = ⟨((x :: xs).foldl endF (x.value, x.value)).1, ((x :: xs).foldl endF (x.value, x.value)).2, true⟩ := rfl
    rw [he]
    generalize x :: xs = ps at *
    simp -implicitDefEqProofs [hL, b3, hne, r0, hpos]
    refine ⟨hnn, fun _ => ?_⟩
    refine run_while (c := c55_18) (fun n s => ∃ (i : Nat), i + n = ps.length ∧ s = ⟨[(8, .int .i64 ((ps.take i).foldl endF (x.value, x.value)).1), (9, .int .i64 ((ps.take i).foldl endF (x.value, x.value)).2), (26, .lst ps.length (encL ps)), (27, .int .i64 ps.length), (28, .int .i64 i)], [], s.g⟩) ps.length ⟨0, by omega, by simp⟩ ?_
    rintro n s ⟨i, hi, hs⟩
    rw [hs]
    have w1 : IntKind.i64.wrap ((i : Int) + 1) = (i : Int) + 1 := wrap64 (by omega) (by omega)
    by_cases h1 : i < ps.length
    case pos =>
      have hrow := rd_piece ps i h1
      have hs2 : (ps.take (i + 1)).foldl endF (x.value, x.value) = endF ((ps.take i).foldl endF (x.value, x.value)) ps[i] := by
        rw [List.take_succ_eq_append_getElem h1, List.foldl_append]
        rfl
      simp -implicitDefEqProofs [h1, hrow, w1]
      exact ⟨n - 1, by omega, i + 1, by omega, by rw [hs2]; rfl, by rw [hs2]; rfl, by omega⟩
    case neg =>
      have hil : i = ps.length := by omega
      subst hil
      simp -implicitDefEqProofs [h1]
theorem c_bTree : Contract Tryz.prog 55 (sp2 BoundT) :=
  contract_of_runs mixed (tbl_cons c_List tbl_nil) Tryz.func55 m55 (sp2_runs runs_bTree)
noncomputable def BoundS (m : Model) (c : Int) (b : Box) : Option (Tri Int Int Bool) := Part (RM m ∧ okB b) (boundM m c b)
theorem runs_bSum (m : Model) (c : Int) (b : Box) (r : Tri Int Int Bool) (h : BoundS m c b = some r) : Runs (tbl [(43, sp1 MRight), (26, sp1 fun (b : Box) => some b.empty), (55, sp2 BoundT)]) a27 [Arg.enc m, Arg.enc c, Arg.enc b] (Arg.enc r) := by
  obtain ⟨⟨hr, hb⟩, rfl⟩ := part_some h
  refine ⟨rfl, fun g => run_def ?_⟩
  unfold a27
  have hM : MRight m = some true := by unfold MRight; rw [if_neg (by have := hr.dim; omega)]; exact part_of hr _
  by_cases h0 : c < 0
  case pos => simp -implicitDefEqProofs [hM, h0, boundM]
  by_cases h1 : m.classes ≤ c
  case pos => simp -implicitDefEqProofs [hM, h0, h1, boundM]
  cases he : b.empty
  case true => simp -implicitDefEqProofs [hM, h0, h1, he, boundM]
  have hle := hr.trees
  have b3 : m.trees.length ≤ maxN := by unfold maxN; omega
  have c0 : 0 ≤ c := by omega
  have c3 : c < 3 := by have := hr.classes; omega
  have hres : boundM m c b = ⟨(boundP m c b).1, (boundP m c b).2, true⟩ := by unfold boundM; rw [if_neg (by simp [he]; omega)]
  rw [hres]
  simp -implicitDefEqProofs [hM, h0, h1, he, b3, c0, c3]
  refine run_while (c := c27_23) (fun n s => ∃ (i : Nat) (g : Nat → Nat), i + n = m.trees.length ∧ s = ⟨[(1, .int .i64 c), (5, .ptr 5 (g 5) 0), (9, .int .i64 ((m.trees.take i).foldl (boundF c b) (m.bias.get c, m.bias.get c)).1), (10, .int .i64 ((m.trees.take i).foldl (boundF c b) (m.bias.get c, m.bias.get c)).2), (42, .lst m.trees.length (encL m.trees)), (43, .int .i64 m.trees.length), (44, .int .i64 i)],
    [(5, ⟨[.int .i64 b.s0.lo, .int .i64 b.s0.hi, .int .i64 b.s1.lo, .int .i64 b.s1.hi, .int .i64 b.s2.lo, .int .i64 b.s2.hi, .int .i64 b.s3.lo, .int .i64 b.s3.hi, .int .i64 b.s4.lo, .int .i64 b.s4.hi], false, 0⟩)], g⟩) m.trees.length ⟨0, bump 5 (bump 3 g), by omega, by simp⟩ ?_
  rintro n s ⟨i, g, hi, rfl⟩
  by_cases h1 : i < m.trees.length
  case pos =>
    have w1 : IntKind.i64.wrap ((i : Int) + 1) = (i : Int) + 1 := wrap64 (by omega) (by omega)
    have hrow := rd_tree m.trees i h1
    have hrt := hr.rt (List.getElem_mem h1)
    have hV : BoundT m.trees[i].nodes b = some (boundT m.trees[i].nodes b) := part_of ⟨⟨_, hrt⟩, hb⟩ _
    have hbd := boundF_le (c := c) he (m.trees.take (i + 1)) (m.bias.get c, m.bias.get c) (fun t ht => ⟨_, hr.rt (List.mem_of_mem_take ht)⟩)
    have hb2 := of_fits (Bias.get_fits hr c)
    have hs : (m.trees.take (i + 1)).foldl (boundF c b) (m.bias.get c, m.bias.get c) = boundF c b ((m.trees.take i).foldl (boundF c b) (m.bias.get c, m.bias.get c)) m.trees[i] := by
      rw [List.take_succ_eq_append_getElem h1, List.foldl_append]
      rfl
    have hl : (m.trees.take (i + 1)).length ≤ 8 := by simp; omega
    simp only at hbd
    by_cases hc : m.trees[i].cls = c
    case pos =>
      have hs1 : ((m.trees.take (i + 1)).foldl (boundF c b) (m.bias.get c, m.bias.get c)).1 = ((m.trees.take i).foldl (boundF c b) (m.bias.get c, m.bias.get c)).1 + (boundT m.trees[i].nodes b).a := by rw [hs, boundF, if_pos hc]
      have hs2 : ((m.trees.take (i + 1)).foldl (boundF c b) (m.bias.get c, m.bias.get c)).2 = ((m.trees.take i).foldl (boundF c b) (m.bias.get c, m.bias.get c)).2 + (boundT m.trees[i].nodes b).b := by rw [hs, boundF, if_pos hc]
      have w2 : IntKind.i64.wrap (((m.trees.take i).foldl (boundF c b) (m.bias.get c, m.bias.get c)).1 + (boundT m.trees[i].nodes b).a) = ((m.trees.take (i + 1)).foldl (boundF c b) (m.bias.get c, m.bias.get c)).1 := by rw [← hs1]; exact wrap64 (by omega) (by omega)
      have w3 : IntKind.i64.wrap (((m.trees.take i).foldl (boundF c b) (m.bias.get c, m.bias.get c)).2 + (boundT m.trees[i].nodes b).b) = ((m.trees.take (i + 1)).foldl (boundF c b) (m.bias.get c, m.bias.get c)).2 := by rw [← hs2]; exact wrap64 (by omega) (by omega)
      simp -implicitDefEqProofs [h1, hrow, hc, hV, w1, w2, w3]
      exact ⟨n - 1, by omega, i + 1, by omega, rfl, rfl, by omega⟩
    case neg =>
      have hs2 : (m.trees.take (i + 1)).foldl (boundF c b) (m.bias.get c, m.bias.get c) = (m.trees.take i).foldl (boundF c b) (m.bias.get c, m.bias.get c) := by rw [hs, boundF, if_neg hc]
      simp -implicitDefEqProofs [h1, hrow, hc, hV, w1]
      exact ⟨n - 1, by omega, i + 1, by omega, by rw [hs2], by rw [hs2], by omega⟩
  case neg =>
    have hil : i = m.trees.length := by omega
    subst hil
    simp -implicitDefEqProofs [h1, boundP]
theorem c_bSum : Contract Tryz.prog 27 (sp3 BoundS) :=
  contract_of_runs mixed (tbl_cons c_mRight (tbl_cons c_bEmpty (tbl_cons c_bTree tbl_nil))) Tryz.func27 m27 (sp3_runs runs_bSum)
end Go.Co
/- CO: maps of numbers as lists of pairs. -/
namespace Go.Co
open Go.Am
def flatA : List (Int × Int) → List AV
  | [] => []
  | (k, v) :: l => .int .i64 k :: .int .i64 v :: flatA l
def getA (n : Int) : List (Int × Int) → Int
  | [] => 0
  | (k, v) :: l => if n = k then v else getA n l
def setA (n v : Int) : List (Int × Int) → List (Int × Int)
  | [] => [(n, v)]
  | (k, u) :: l => if n = k then (k, v) :: l else (k, u) :: setA n v l
theorem mfind_flat (n : Int) : ∀ (l : List (Int × Int)) (i : Nat), (∃ j v, mfind n (flatA l) i = some (i + j, .int .i64 v) ∧ getA n l = v ∧ (∀ u, wr (flatA l) (2 * j + 1) [.int .i64 u] = flatA (setA n u l))) ∨ (mfind n (flatA l) i = none ∧ getA n l = 0 ∧ ∀ u, flatA l ++ [.int .i64 n, .int .i64 u] = flatA (setA n u l))
  | [], i => .inr ⟨rfl, rfl, fun _ => rfl⟩
  | (k, v) :: l, i => by
    unfold flatA mfind getA setA
    by_cases h : n = k
    · refine .inl ⟨0, v, by simp [h], by simp [h], fun u => ?_⟩
      rw [if_pos h]
      simp [wr, flatA]
    · rw [if_neg h, if_neg h]
      rcases mfind_flat n l (i + 1) with ⟨j, w, h1, h2, h3⟩ | ⟨h1, h2, h3⟩
      · refine .inl ⟨j + 1, w, by rw [h1]; congr 2; omega, h2, fun u => ?_⟩
        rw [if_neg h]
        have e2 : 2 * (j + 1) + 1 = (2 * j + 1) + 1 + 1 := by omega
        unfold wr
        simp only [e2, List.take_succ_cons, List.cons_append, List.length_cons, List.length_nil, Nat.zero_add]
        rw [show 2 * j + 1 + 1 + 1 + 1 = (2 * j + 1 + 1) + 1 + 1 by omega, List.drop_succ_cons, List.drop_succ_cons]
        have := h3 u
        unfold wr at this
        simp only [List.length_cons, List.length_nil, Nat.zero_add] at this
        rw [this]
      · refine .inr ⟨h1, h2, fun u => ?_⟩
        rw [if_neg h]
        simp only [List.cons_append, h3 u]
@[simp] theorem mget_flat (n : Int) (l : List (Int × Int)) : mgetV n (flatA l) (.int .i64 0) = .int .i64 (getA n l) := by
  unfold mgetV
  rcases mfind_flat n l 0 with ⟨j, v, h1, h2, _⟩ | ⟨h1, h2, _⟩
  · rw [h1, h2]
  · rw [h1, h2]
@[simp] theorem mput_flat (n v : Int) (l : List (Int × Int)) : mputV n (flatA l) (.int .i64 v) = flatA (setA n v l) := by
  unfold mputV
  rcases mfind_flat n l 0 with ⟨j, w, h1, _, h3⟩ | ⟨h1, _, h3⟩
  · rw [h1]
    simp only [Nat.zero_add]
    exact h3 v
  · rw [h1]
    exact h3 v
@[simp] theorem isIt_nil : isIt [] = false := rfl
@[simp] theorem isA_nil : isA [] = false := rfl
@[simp] theorem isA_flat (l : List (Int × Int)) : isA (flatA l) = false := by cases l <;> rfl
@[simp] theorem isIt_flat (l : List (Int × Int)) : isIt (flatA l) = false := by
  cases l with
  | nil => rfl
  | cons p l => obtain ⟨k, v⟩ := p; rfl
def flatB : List Int → List AV
  | [] => []
  | k :: l => .int .i64 k :: .bool true :: flatB l
def insB (n : Int) (l : List Int) : List Int := if n ∈ l then l else l ++ [n]
@[simp] theorem isIt_flatB (l : List Int) : isIt (flatB l) = false := by cases l <;> rfl
@[simp] theorem isA_flatB (l : List Int) : isA (flatB l) = false := by cases l <;> rfl
@[simp] theorem flatB_len (l : List Int) : (flatB l).length = 2 * l.length := by
  induction l with
  | nil => rfl
  | cons k l ih => simp only [flatB, List.length_cons, ih]; omega
theorem flatB_append (l : List Int) (n : Int) : flatB (l ++ [n]) = flatB l ++ [.int .i64 n, .bool true] := by
  induction l with
  | nil => rfl
  | cons k l ih => simp only [List.cons_append, flatB, ih]
theorem mfind_flatB (n : Int) : ∀ (l : List Int) (i : Nat), (n ∈ l ∧ ∃ j, mfind n (flatB l) i = some (i + j, .bool true) ∧ wr (flatB l) (2 * j + 1) [.bool true] = flatB l) ∨ (n ∉ l ∧ mfind n (flatB l) i = none)
  | [], i => .inr ⟨by simp, rfl⟩
  | k :: l, i => by
    unfold flatB mfind
    by_cases h : n = k
    · refine .inl ⟨by simp [h], 0, by simp [h], ?_⟩
      simp [wr]
    · rw [if_neg h]
      rcases mfind_flatB n l (i + 1) with ⟨h0, j, h1, h2⟩ | ⟨h0, h1⟩
      · refine .inl ⟨by simp [h0], j + 1, by rw [h1]; congr 2; omega, ?_⟩
        have e2 : 2 * (j + 1) + 1 = (2 * j + 1) + 1 + 1 := by omega
        unfold wr
        simp only [e2, List.take_succ_cons, List.cons_append, List.length_cons, List.length_nil, Nat.zero_add]
        rw [show 2 * j + 1 + 1 + 1 + 1 = (2 * j + 1 + 1) + 1 + 1 by omega, List.drop_succ_cons, List.drop_succ_cons]
        unfold wr at h2
        simp only [List.length_cons, List.length_nil, Nat.zero_add] at h2
        rw [h2]
      · exact .inr ⟨by simp [h, h0], h1⟩
@[simp] theorem mput_flatB (n : Int) (l : List Int) : mputV n (flatB l) (.bool true) = flatB (insB n l) := by
  unfold mputV insB
  rcases mfind_flatB n l 0 with ⟨h0, j, h1, h2⟩ | ⟨h0, h1⟩
  · rw [h1, if_pos h0]
    simp only [Nat.zero_add]
    exact h2
  · rw [h1, if_neg h0, flatB_append]
end Go.Co
/- CO: the document's own answers: trees and models. -/
namespace Go.Co
open Go.Am Go.Proofs
end Go.Co
/- CO: what numbers make: trees, models, regions, queries. -/
namespace Go.Co
open Go.Am Go.Proofs
def c22_0 : ACode := .ops [⟨some 2, .box (.t 0) 5, none, []⟩,⟨some 4, .mv (.c (.nils)), none, []⟩] [1, 2]
theorem r22_0 : type_of% (rr c22_0.eq_1) := rr rfl
def c22_1 : ACode := .ops [⟨some 14, .fad (.t 2) 4, none, [2]⟩,⟨some 15, .load 1 false (.t 14), none, [2]⟩,⟨some 16, .call 21 [.t 15, .c (.int .i64 0)], none, []⟩,⟨some 17, .call 16 [.t 16, .c (.int .i64 (-3000)), .c (.int .i64 3000)], none, []⟩,⟨some 18, .build [.bool false, .int .i64 0, .int .i64 0, .int .i64 0, .int .i64 0, .int .i64 0] [(0, 1, .c (.bool true)), (1, 1, .t 17)], none, []⟩,⟨some 19, .mkrow 5 1 6 [.bool false, .int .i64 0, .int .i64 0, .int .i64 0, .int .i64 0, .int .i64 0] [(0, 6, .t 18)], none, []⟩,⟨some 5, .mv (.t 19), none, []⟩] [1, 2, 5]
theorem r22_1 : type_of% (rr c22_1.eq_1) := rr rfl
def c22_2 : ACode := .ops [⟨some 20, .mkrow 6 1 1 [.int .i64 0] [(0, 1, .c (.int .i64 0))], none, []⟩,⟨some 6, .mv (.t 20), none, []⟩] [1, 2, 5, 6]
theorem r22_2 : type_of% (rr c22_2.eq_1) := rr rfl
def c22_3 : ACode := .ops [⟨some 7, .mv (.c (.int .i64 0)), none, []⟩] [1, 2, 5, 6, 7]
theorem r22_3 : type_of% (rr c22_3.eq_1) := rr rfl
def c22_4 : ACode := .ops [⟨some 21, .mv (.t 7), none, []⟩,⟨some 22, .fad (.t 2) 1, none, [2]⟩,⟨some 23, .load 1 false (.t 22), none, [2]⟩,⟨some 24, .len (.t 23), none, []⟩,⟨some 25, .bin .lss (.t 21) (.t 24), none, []⟩,⟨some 26, .mv (.t 25), none, []⟩,⟨some 27, .mv (.t 7), some (26, true), []⟩,⟨some 28, .bin .lss (.t 27) (.c (.int .i64 7)), some (26, true), []⟩,⟨some 29, .pick (.t 26) (.t 28) (.c (.bool false)), none, []⟩] [1, 2, 5, 6, 7, 29]
theorem r22_4 : type_of% (rr c22_4.eq_1) := rr rfl
def c22_5 : ACode := .cond (.t 29) .skip (.exit 0)
theorem r22_5 : type_of% (rr c22_5.eq_1) := rr rfl
def c22_6 : ACode := .seq c22_4 c22_5
theorem r22_6 : type_of% (rr c22_6.eq_1) := rr rfl
def c22_7 : ACode := .ops [⟨some 32, .fad (.t 2) 1, none, [2]⟩,⟨some 33, .load 1 false (.t 32), none, [2]⟩,⟨some 34, .mv (.t 7), none, []⟩,⟨some 35, .ias (.t 33) (.t 34) 1, none, []⟩,⟨some 36, .load 1 false (.t 35), none, []⟩,⟨some 37, .mv (.t 6), none, []⟩,⟨some 38, .len (.t 37), none, [6]⟩,⟨some 39, .bin .sub (.t 38) (.c (.int .i64 1)), none, []⟩,⟨some 40, .call 16 [.t 36, .c (.int .i64 0), .t 39], none, []⟩,⟨some 8, .mv (.t 40), none, []⟩] [1, 2, 5, 6, 7, 8]
theorem r22_7 : type_of% (rr c22_7.eq_1) := rr rfl
def c22_8 : ACode := .ops [⟨some 41, .mv (.t 6), none, []⟩,⟨some 42, .mv (.t 8), none, []⟩,⟨some 43, .ias (.t 41) (.t 42) 1, none, [6]⟩,⟨some 44, .load 1 false (.t 43), none, [6]⟩,⟨some 9, .mv (.t 44), none, []⟩] [1, 2, 5, 6, 7, 8, 9]
theorem r22_8 : type_of% (rr c22_8.eq_1) := rr rfl
def c22_9 : ACode := .ops [⟨some 45, .mv (.t 5), none, []⟩,⟨some 46, .len (.t 45), none, [5]⟩,⟨some 10, .mv (.t 46), none, []⟩] [1, 2, 5, 6, 7, 8, 9, 10]
theorem r22_9 : type_of% (rr c22_9.eq_1) := rr rfl
def c22_10 : ACode := .ops [⟨some 47, .mv (.t 5), none, []⟩,⟨some 48, .mv (.t 9), none, []⟩,⟨some 49, .fad (.t 2) 2, none, [2]⟩,⟨some 50, .load 1 false (.t 49), none, [2]⟩,⟨some 51, .mv (.t 7), none, []⟩,⟨some 52, .call 21 [.t 50, .t 51], none, []⟩,⟨some 53, .mv (.t 1), none, []⟩,⟨some 54, .bin .sub (.t 53) (.c (.int .i64 1)), none, []⟩,⟨some 55, .call 16 [.t 52, .c (.int .i64 0), .t 54], none, []⟩,⟨some 56, .fad (.t 2) 3, none, [2]⟩,⟨some 57, .load 1 false (.t 56), none, [2]⟩,⟨some 58, .mv (.t 7), none, []⟩,⟨some 59, .call 21 [.t 57, .t 58], none, []⟩,⟨some 60, .call 16 [.t 59, .c (.int .i64 0), .c (.int .i64 9)], none, []⟩,⟨some 61, .mv (.t 10), none, []⟩,⟨some 62, .mv (.t 10), none, []⟩,⟨some 63, .bin .add (.t 62) (.c (.int .i64 1)), none, []⟩,⟨some 64, .build [.bool false, .int .i64 0, .int .i64 0, .int .i64 0, .int .i64 0, .int .i64 0] [(2, 1, .t 55), (3, 1, .t 60), (4, 1, .t 61), (5, 1, .t 63)], none, []⟩,⟨some 65, .ias (.t 47) (.t 48) 6, none, [5]⟩,⟨none, .store (.t 65) 6 (.t 64), none, [5]⟩] [1, 2, 5, 6, 7, 8, 10]
theorem r22_10 : type_of% (rr c22_10.eq_1) := rr rfl
def c22_11 : ACode := .ops [⟨some 66, .mv (.t 5), none, []⟩,⟨some 67, .fad (.t 2) 4, none, [2]⟩,⟨some 68, .load 1 false (.t 67), none, [2]⟩,⟨some 69, .mv (.t 7), none, []⟩,⟨some 70, .bin .mul (.c (.int .i64 2)) (.t 69), none, []⟩,⟨some 71, .bin .add (.t 70) (.c (.int .i64 1)), none, []⟩,⟨some 72, .call 21 [.t 68, .t 71], none, []⟩,⟨some 73, .call 16 [.t 72, .c (.int .i64 (-3000)), .c (.int .i64 3000)], none, []⟩,⟨some 74, .build [.bool false, .int .i64 0, .int .i64 0, .int .i64 0, .int .i64 0, .int .i64 0] [(0, 1, .c (.bool true)), (1, 1, .t 73)], none, []⟩,⟨some 75, .fad (.t 2) 4, none, [2]⟩,⟨some 76, .load 1 false (.t 75), none, [2]⟩,⟨some 77, .mv (.t 7), none, []⟩,⟨some 78, .bin .mul (.c (.int .i64 2)) (.t 77), none, []⟩,⟨some 79, .bin .add (.t 78) (.c (.int .i64 2)), none, []⟩,⟨some 80, .call 21 [.t 76, .t 79], none, []⟩,⟨some 81, .call 16 [.t 80, .c (.int .i64 (-3000)), .c (.int .i64 3000)], none, []⟩,⟨some 82, .build [.bool false, .int .i64 0, .int .i64 0, .int .i64 0, .int .i64 0, .int .i64 0] [(0, 1, .c (.bool true)), (1, 1, .t 81)], none, []⟩,⟨some 83, .mkrow 83 2 6 [.bool false, .int .i64 0, .int .i64 0, .int .i64 0, .int .i64 0, .int .i64 0] [(0, 6, .t 74), (6, 6, .t 82)], none, []⟩,⟨some 84, .app 5 [5] (.t 66) (.t 83) 6, none, [5, 83]⟩,⟨some 5, .mv (.t 84), none, []⟩] [1, 2, 5, 6, 7, 8, 10]
theorem r22_11 : type_of% (rr c22_11.eq_1) := rr rfl
def c22_12 : ACode := .ops [⟨some 85, .mkrow 85 0 1 [.int .i64 0] [], none, []⟩,⟨some 86, .mv (.t 6), none, []⟩,⟨some 87, .mv (.t 8), none, []⟩,⟨some 88, .sl (.t 86) none (some (.t 87)) 1, none, [6]⟩,⟨some 89, .app 89 [85] (.t 85) (.t 88) 1, none, [6, 85]⟩,⟨some 90, .mv (.t 6), none, []⟩,⟨some 91, .mv (.t 8), none, []⟩,⟨some 92, .bin .add (.t 91) (.c (.int .i64 1)), none, []⟩,⟨some 93, .sl (.t 90) (some (.t 92)) none 1, none, [6]⟩,⟨some 94, .app 94 [89] (.t 89) (.t 93) 1, none, [6, 89]⟩,⟨some 95, .mv (.t 10), none, []⟩,⟨some 96, .mv (.t 10), none, []⟩,⟨some 97, .bin .add (.t 96) (.c (.int .i64 1)), none, []⟩,⟨some 98, .mkrow 98 2 1 [.int .i64 0] [(0, 1, .t 95), (1, 1, .t 97)], none, []⟩,⟨some 99, .app 6 [94] (.t 94) (.t 98) 1, none, [94, 98]⟩,⟨some 6, .mv (.t 99), none, []⟩] [1, 2, 5, 6, 7]
theorem r22_12 : type_of% (rr c22_12.eq_1) := rr rfl
def c22_13 : ACode := .seq c22_11 c22_12
theorem r22_13 : type_of% (rr c22_13.eq_1) := rr rfl
def c22_14 : ACode := .seq c22_10 c22_13
theorem r22_14 : type_of% (rr c22_14.eq_1) := rr rfl
def c22_15 : ACode := .seq c22_9 c22_14
theorem r22_15 : type_of% (rr c22_15.eq_1) := rr rfl
def c22_16 : ACode := .seq c22_8 c22_15
theorem r22_16 : type_of% (rr c22_16.eq_1) := rr rfl
def c22_17 : ACode := .seq c22_7 c22_16
theorem r22_17 : type_of% (rr c22_17.eq_1) := rr rfl
def c22_18 : ACode := .block 1 c22_17
theorem r22_18 : type_of% (rr c22_18.eq_1) := rr rfl
def c22_19 : ACode := .ops [⟨some 30, .mv (.t 7), none, []⟩,⟨some 31, .bin .add (.t 30) (.c (.int .i64 1)), none, []⟩,⟨some 7, .mv (.t 31), none, []⟩] [1, 2, 5, 6, 7]
theorem r22_19 : type_of% (rr c22_19.eq_1) := rr rfl
def c22_20 : ACode := .seq c22_18 c22_19
theorem r22_20 : type_of% (rr c22_20.eq_1) := rr rfl
def c22_21 : ACode := .seq c22_6 c22_20
theorem r22_21 : type_of% (rr c22_21.eq_1) := rr rfl
def c22_22 : ACode := .keep [1, 2, 5, 6, 7] [2, 5, 6] c22_21
theorem r22_22 : type_of% (rr c22_22.eq_1) := rr rfl
def c22_23 : ACode := .loop c22_22
theorem r22_23 : type_of% (rr c22_23.eq_1) := rr rfl
def c22_24 : ACode := .block 0 c22_23
theorem r22_24 : type_of% (rr c22_24.eq_1) := rr rfl
def c22_25 : ACode := .seq c22_3 c22_24
theorem r22_25 : type_of% (rr c22_25.eq_1) := rr rfl
def c22_26 : ACode := .ops [⟨some 11, .nil0 11 1, none, []⟩] [5, 11]
theorem r22_26 : type_of% (rr c22_26.eq_1) := rr rfl
def c22_27 : ACode := .ops [⟨some 100, .mv (.t 5), none, []⟩,⟨some 101, .len (.t 100), none, [5]⟩,⟨some 102, .mv (.c (.int .i64 0)), none, []⟩] [11, 100, 101, 102]
theorem r22_27 : type_of% (rr c22_27.eq_1) := rr rfl
def c22_28 : ACode := .ops [⟨some 103, .bin .lss (.t 102) (.t 101), none, []⟩] [11, 100, 101, 102, 103]
theorem r22_28 : type_of% (rr c22_28.eq_1) := rr rfl
def c22_29 : ACode := .cond (.t 103) .skip (.exit 2)
theorem r22_29 : type_of% (rr c22_29.eq_1) := rr rfl
def c22_30 : ACode := .ops [⟨some 104, .ias (.t 100) (.t 102) 6, none, [5]⟩,⟨some 105, .load 6 true (.t 104), none, [5]⟩,⟨some 13, .alloc [.bool false, .int .i64 0, .int .i64 0, .int .i64 0, .int .i64 0, .int .i64 0], none, []⟩,⟨none, .store (.t 13) 6 (.t 105), none, [13]⟩] [11, 13, 100, 101, 102]
theorem r22_30 : type_of% (rr c22_30.eq_1) := rr rfl
def c22_31 : ACode := .ops [⟨some 106, .mv (.t 11), none, []⟩,⟨some 107, .load 6 true (.t 13), none, [13]⟩,⟨some 108, .call 51 [.t 107], none, []⟩,⟨some 109, .mkrow 109 1 1 [.int .u64 0] [(0, 1, .t 108)], none, []⟩,⟨some 110, .app 11 [11] (.t 106) (.t 109) 1, none, [11, 109]⟩,⟨some 11, .mv (.t 110), none, []⟩] [11, 100, 101, 102]
theorem r22_31 : type_of% (rr c22_31.eq_1) := rr rfl
def c22_32 : ACode := .seq c22_30 c22_31
theorem r22_32 : type_of% (rr c22_32.eq_1) := rr rfl
def c22_33 : ACode := .block 3 c22_32
theorem r22_33 : type_of% (rr c22_33.eq_1) := rr rfl
def c22_34 : ACode := .ops [⟨some 111, .bin .add (.t 102) (.c (.int .i64 1)), none, []⟩,⟨some 102, .mv (.t 111), none, []⟩] [11, 100, 101, 102]
theorem r22_34 : type_of% (rr c22_34.eq_1) := rr rfl
def c22_35 : ACode := .seq c22_33 c22_34
theorem r22_35 : type_of% (rr c22_35.eq_1) := rr rfl
def c22_36 : ACode := .seq c22_29 c22_35
theorem r22_36 : type_of% (rr c22_36.eq_1) := rr rfl
def c22_37 : ACode := .seq c22_28 c22_36
theorem r22_37 : type_of% (rr c22_37.eq_1) := rr rfl
def c22_38 : ACode := .keep [11, 100, 101, 102] [5, 11] c22_37
theorem r22_38 : type_of% (rr c22_38.eq_1) := rr rfl
def c22_39 : ACode := .loop c22_38
theorem r22_39 : type_of% (rr c22_39.eq_1) := rr rfl
def c22_40 : ACode := .block 2 c22_39
theorem r22_40 : type_of% (rr c22_40.eq_1) := rr rfl
def c22_41 : ACode := .seq c22_27 c22_40
theorem r22_41 : type_of% (rr c22_41.eq_1) := rr rfl
def c22_42 : ACode := .ops [⟨some 112, .mv (.t 11), none, []⟩,⟨some 4, .mv (.t 112), none, []⟩] [4]
theorem r22_42 : type_of% (rr c22_42.eq_1) := rr rfl
def c22_43 : ACode := .seq c22_42 .ret
theorem r22_43 : type_of% (rr c22_43.eq_1) := rr rfl
def c22_44 : ACode := .seq c22_41 c22_43
theorem r22_44 : type_of% (rr c22_44.eq_1) := rr rfl
def c22_45 : ACode := .seq c22_26 c22_44
theorem r22_45 : type_of% (rr c22_45.eq_1) := rr rfl
def c22_46 : ACode := .seq c22_25 c22_45
theorem r22_46 : type_of% (rr c22_46.eq_1) := rr rfl
def c22_47 : ACode := .seq c22_2 c22_46
theorem r22_47 : type_of% (rr c22_47.eq_1) := rr rfl
def c22_48 : ACode := .seq c22_1 c22_47
theorem r22_48 : type_of% (rr c22_48.eq_1) := rr rfl
def c22_49 : ACode := .seq c22_0 c22_48
theorem r22_49 : type_of% (rr c22_49.eq_1) := rr rfl
def a22 : AFun := ⟨2, 113, c22_49, [.t 4]⟩
attribute [simp] r22_0 r22_1 r22_2 r22_3 r22_4 r22_5 r22_6 r22_7 r22_8 r22_9 r22_10 r22_11 r22_12 r22_13 r22_14 r22_15 r22_16 r22_17 r22_18 r22_19 r22_20 r22_21 r22_22 r22_23 r22_24 r22_25 r22_26 r22_27 r22_28 r22_29 r22_30 r22_31 r22_32 r22_33 r22_34 r22_35 r22_36 r22_37 r22_38 r22_39 r22_40 r22_41 r22_42 r22_43 r22_44 r22_45 r22_46 r22_47 r22_48 r22_49
theorem m22 : mFun Tryz.prog Tryz.f22 a22 = true := by decide +kernel
noncomputable def NodesC (t : KTree) (dim : Int) : Option (List Word) := Part (1 ≤ dim ∧ dim ≤ 4) (treeNodes t dim)
theorem within_of (n lo hi : Int) (h : -1125899906842624 ≤ lo ∧ lo ≤ hi ∧ hi ≤ 1125899906842624) : Within n lo hi = some (within n lo hi) := by unfold Within; rw [if_pos h]
theorem pick_of (l : List Int) (i : Nat) : Pick l (i : Int) = some (pick l i) := by unfold Pick; rw [if_pos (by omega)]; simp
theorem pick_0 (l : List Int) : Pick l 0 = some (pick l 0) := pick_of l 0
theorem rd_node (l : List Node) (i : Nat) (h : i < l.length) : rd (encL l) (i * 6) 6 true = some (.agg [.bool l[i].leaf, .int .i64 l[i].value, .int .i64 l[i].feature, .int .i64 l[i].cut, .int .i64 l[i].left, .int .i64 l[i].right]) := rd_row l i h
theorem nodes_out {C : Cs} (hC : ∀ n : Node, C 51 [.agg [.bool n.leaf, .int .i64 n.value, .int .i64 n.feature, .int .i64 n.cut, .int .i64 n.left, .int .i64 n.right]] = some (.int .u64 (pack n).v)) (l : List Node) (hl : l.length ≤ 31) (g : Nat → Nat) (h : Hp)
    (hh : keepH h [5, 11] = [(5, ⟨encL l, false, 6⟩), (11, ⟨[], false, 1⟩)]) :
    run C (.loop c22_38) [Fr.blk 2, Fr.c c22_43] ⟨[(11, .own 11 (g 11) 0 0), (100, .own 5 (g 5) 0 l.length), (101, .int .i64 l.length), (102, .int .i64 0)], h, g⟩ (fin [ARes.t 4] (AV.lst l.length (encL (l.map pack)))) := by
  refine run_while (c := c22_37) (fun n s => ∃ (i : Nat) (g : Nat → Nat), i + n = l.length ∧ s = ⟨[(11, .own 11 (g 11) 0 i), (100, .own 5 (g 5) 0 l.length), (101, .int .i64 l.length), (102, .int .i64 i)], [(5, ⟨encL l, false, 6⟩), (11, ⟨encL ((l.take i).map pack), false, 1⟩)], g⟩) l.length ⟨0, g, by omega, ?_⟩ ?_
  · simp only [hh]
    simp [encL]
  rintro n s ⟨i, g, hi, rfl⟩
  by_cases h1 : i < l.length
  case pos =>
    have w1 : IntKind.i64.wrap ((i : Int) + 1) = (i : Int) + 1 := wrap64 (by omega) (by omega)
    have hr := rd_node l i h1
    have hL : ((l.take i).map pack).length = i := by simp; omega
    have htk : List.take i (encL ((l.take i).map pack)) = encL ((l.take i).map pack) := take_rows _ _ (by simp; omega)
    have c1 : i ≤ l.length := by omega
    have c2 : i ≤ 1099511627775 := by omega
    simp -implicitDefEqProofs [h1, hr, hC, w1, encL_length, c1, c2]
    refine ⟨n - 1, by omega, i + 1, by omega, ⟨rfl, by omega⟩, ?_⟩
    rw [List.take_take, Nat.min_self, ← List.map_take, ← List.map_take, List.take_succ_eq_append_getElem h1, List.map_append, encL_append]
    rfl
  case neg =>
    have hil : i = l.length := by omega
    subst hil
    have htk : List.take l.length (List.map pack l) = List.map pack l := List.take_of_length_le (by simp)
    simp -implicitDefEqProofs [h1, htk, encL_length]
theorem runs_Nodes (t : KTree) (dim : Int) (c : List Word) (h : NodesC t dim = some c) : Runs (tbl [(21, sp2 Pick), (16, sp3 Within), (51, sp1 fun n => some (pack n))]) a22 [Arg.enc t, Arg.enc dim] (Arg.enc c) := by
  obtain ⟨⟨d1, d2⟩, rfl⟩ := part_some h
  refine ⟨rfl, fun g => run_def ?_⟩
  unfold a22
  have hw0 := within_of (pick t.val 0) (-3000) 3000 (by omega)
  by_cases hm : t.part.length ≤ maxN
  case neg => simp -implicitDefEqProofs [pick_0, hw0, hm, run_round]
  simp -implicitDefEqProofs [pick_0, hw0]
  refine run_while (c := c22_21) (fun n s => ∃ (i : Nat) (g : Nat → Nat), i + n = min t.part.length 7 ∧ s = ⟨[(1, .int .i64 dim), (2, .ptr 2 (g 2) 0), (5, .own 5 (g 5) 0 (grow t dim i).nodes.length), (6, .own 6 (g 6) 0 (grow t dim i).leaves.length), (7, .int .i64 i)],
    [(2, ⟨[.int .i64 t.cls, .lst t.part.length (encL t.part), .lst t.dir.length (encL t.dir), .lst t.cut.length (encL t.cut), .lst t.val.length (encL t.val)], false, 0⟩), (5, ⟨encL (grow t dim i).nodes, false, 6⟩), (6, ⟨encL (grow t dim i).leaves, false, 1⟩)], g⟩) (min t.part.length 7) ⟨0, bump 6 (bump 5 (bump 2 g)), by omega, by simp [grow, grow0, leafN, encL]⟩ ?_
  rintro n s ⟨i, g, hi, rfl⟩
  have w1 : IntKind.i64.wrap ((i : Int) + 1) = (i : Int) + 1 := wrap64 (by omega) (by omega)
  by_cases h1 : i < min t.part.length 7
  case pos =>
    have hG := gi t dim d1 d2 i (by omega)
    have hs : grow t dim (i + 1) = growS t dim i (grow t dim i) := rfl
    generalize grow t dim i = G at *
    have L1 := hG.len
    have L2 := hG.lvs
    have c1 : i < t.part.length := by omega
    have c2 : (i : Int) < 7 := by omega
    have c3 : G.leaves.length ≤ maxN := by unfold maxN; omega
    have c4 : G.nodes.length ≤ maxN := by unfold maxN; omega
    have w2 : IntKind.i64.wrap ((G.leaves.length : Int) - 1) = (G.leaves.length : Int) - 1 := wrap64 (by omega) (by omega)
    have w3 : IntKind.i64.wrap ((G.nodes.length : Int) + 1) = (G.nodes.length : Int) + 1 := wrap64 (by omega) (by omega)
    have w4 : IntKind.i64.wrap (dim - 1) = dim - 1 := wrap64 (by omega) (by omega)
    have w5 : IntKind.i64.wrap (2 * (i : Int)) = 2 * (i : Int) := wrap64 (by omega) (by omega)
    have w6 : IntKind.i64.wrap (2 * (i : Int) + 1) = 2 * (i : Int) + 1 := wrap64 (by omega) (by omega)
    have w7 : IntKind.i64.wrap (2 * (i : Int) + 2) = 2 * (i : Int) + 2 := wrap64 (by omega) (by omega)
    have p5 : Pick t.val (2 * (i : Int) + 1) = some (pick t.val (2 * i + 1)) := pick_of t.val (2 * i + 1)
    have p6 : Pick t.val (2 * (i : Int) + 2) = some (pick t.val (2 * i + 2)) := pick_of t.val (2 * i + 2)
    have v5 := within_of (pick t.val (2 * i + 1)) (-3000) 3000 (by omega)
    have v6 := within_of (pick t.val (2 * i + 2)) (-3000) 3000 (by omega)
    have v7 := within_of (pick t.dir i) 0 (dim - 1) (by omega)
    have v8 := within_of (pick t.cut i) 0 9 (by omega)
    have v9 := within_of t.part[i] 0 ((G.leaves.length : Int) - 1) (by omega)
    have hk := within_le t.part[i] 0 ((G.leaves.length : Int) - 1) (by omega)
    have hkK : growK t i G = (within t.part[i] 0 ((G.leaves.length : Int) - 1)).toNat := by unfold growK; simp [c1]
    generalize within t.part[i] 0 ((G.leaves.length : Int) - 1) = K at *
    obtain ⟨k, rfl⟩ : ∃ k : Nat, K = k := ⟨K.toNat, by omega⟩
    simp only [Int.toNat_natCast] at hkK
    have c5 : k < G.leaves.length := by omega
    obtain ⟨hl0, hl1, hl2⟩ := hG.leaf _ (List.getElem_mem c5)
    have c6 : G.leaves[k] < G.nodes.length := by omega
    have w8 : IntKind.i64.wrap ((k : Int) + 1) = (k : Int) + 1 := wrap64 (by omega) (by omega)
    have c7 : (k : Int) + 1 ≤ G.leaves.length := by omega
    have c8 : (k : Int) ≤ G.leaves.length := by omega
    have c9 : k ≤ G.leaves.length := by omega
    have c10 : G.leaves[k].toNat * 6 + 6 ≤ G.nodes.length * 6 := by omega
    have c11 : G.nodes.length ≤ 1099511627774 := by omega
    have c12 : k ≤ 1099511627776 := by omega
    have c13 : 0 ≤ (k : Int) + 1 := by omega
    have c14 : k + 1 ≤ G.leaves.length := by omega
    have hwr : wr (encL G.nodes) (G.leaves[k].toNat * 6) [.bool false, .int .i64 0, .int .i64 (within (pick t.dir i) 0 (dim - 1)), .int .i64 (within (pick t.cut i) 0 9), .int .i64 G.nodes.length, .int .i64 (G.nodes.length + 1)] = encL (G.nodes.set G.leaves[k].toNat (growN t dim i G.nodes.length)) := wr_row G.nodes _ hl1 (growN t dim i G.nodes.length)
    have htk : List.take (G.nodes.length * 6) (encL (G.nodes.set G.leaves[k].toNat (growN t dim i G.nodes.length))) = encL (G.nodes.set G.leaves[k].toNat (growN t dim i G.nodes.length)) := take_rows _ _ (by simp)
    simp -implicitDefEqProofs [hm, c1, c2, c3, c4, c5, c6, c7, c8, c9, c10, c11, c12, c13, c14, hwr, htk, hl0, hl1, w1, w2, w3, w4, w5, w6, w7, w8, p5, p6, v5, v6, v7, v8, v9, pick_of, rd_ints, encL_length]
    have hgl : (growS t dim i G).leaves = G.leaves.take k ++ G.leaves.drop (k + 1) ++ [(G.nodes.length : Int), G.nodes.length + 1] := by unfold growS; rw [hkK]
    have hgn : (growS t dim i G).nodes = G.nodes.set G.leaves[k].toNat (growN t dim i G.nodes.length) ++ [leafN (within (pick t.val (2 * i + 1)) (-3000) 3000), leafN (within (pick t.val (2 * i + 2)) (-3000) 3000)] := by
      unfold growS
      have : G.leaves.getD k 0 = G.leaves[k] := by simp [c5]
      rw [hkK, this]
    refine ⟨fun _ => ⟨fun _ => ⟨n - 1, by omega, i + 1, by omega, ⟨?_, ?_, by omega⟩, ?_, ?_⟩, by omega⟩, by omega⟩
    · rw [hs, hgn]; simp
    · rw [hs, hgl]; simp; omega
    · rw [hs, hgn, encL_append]; rfl
    · rw [hs, hgl, encL_append, encL_append]
      rw [List.take_take, Nat.min_self, List.take_of_length_le (show (G.leaves.drop (k + 1)).length ≤ G.leaves.length - (k + 1) by simp)]
      rw [List.take_of_length_le (by rw [List.length_append, encL_length, encL_length]; simp; omega)]
      rfl
  case neg =>
    have hil : i = min t.part.length 7 := by omega
    have c1 : ¬ ((i : Int) < t.part.length ∧ (i : Int) < 7) := by omega
    have hT : treeNodes t dim = (grow t dim i).nodes.map pack := by rw [hil]; rfl
    have hG := gi t dim d1 d2 i (by omega)
    have hok : ∀ n ∈ (grow t dim i).nodes, rightNode n = true := hG.ok
    have L1 := hG.len
    rw [hT]
    generalize (grow t dim i).nodes = l at *
    have c3 : l.length ≤ maxN := by unfold maxN; omega
    have hl : l.length ≤ 31 := by omega
    by_cases c2 : (i : Int) < t.part.length
    case pos =>
      have c4 : ¬ (i : Int) < 7 := by omega
      simp -implicitDefEqProofs [hm, c2, c4, c3]
      exact nodes_out (fun n => by simp) l hl (bump 11 g) _ (by simp)
    case neg =>
      simp -implicitDefEqProofs [hm, c2, c3]
      exact nodes_out (fun n => by simp) l hl (bump 11 g) _ (by simp)
theorem c_Nodes : Contract Tryz.prog 22 (sp2 NodesC) :=
  contract_of_runs mixed (tbl_cons c_pick (tbl_cons c_Within (tbl_cons c_rPack tbl_nil))) Tryz.func22 m22 (sp2_runs runs_Nodes)
end Go.Co
/- CO: the model that numbers make. -/
set_option maxHeartbeats 16000000
set_option maxRecDepth 100000
namespace Go.Co
open Go.Am Go.Proofs
def c5_0 : ACode := .ops [⟨some 1, .box (.t 0) 4, none, []⟩,⟨some 2, .alloc [.int .i64 0, .int .i64 0, .int .i64 0, .int .i64 0, .int .i64 0, .nils], none, []⟩] [1, 2]
theorem r5_0 : type_of% (rr c5_0.eq_1) := rr rfl
def c5_1 : ACode := .ops [⟨some 6, .fad (.t 1) 0, none, [1]⟩,⟨some 7, .load 1 false (.t 6), none, [1]⟩,⟨some 8, .call 16 [.t 7, .c (.int .i64 1), .c (.int .i64 3)], none, []⟩,⟨some 9, .fad (.t 1) 1, none, [1]⟩,⟨some 10, .load 1 false (.t 9), none, [1]⟩,⟨some 11, .call 16 [.t 10, .c (.int .i64 1), .c (.int .i64 3)], none, []⟩,⟨some 12, .build [.int .i64 0, .int .i64 0, .int .i64 0, .int .i64 0, .int .i64 0, .nils] [(0, 1, .t 8), (1, 1, .t 11)], none, []⟩,⟨some 3, .alloc [.int .i64 0, .int .i64 0, .int .i64 0, .int .i64 0, .int .i64 0, .nils], none, []⟩,⟨none, .store (.t 3) 6 (.t 12), none, [3]⟩] [1, 2, 3]
theorem r5_1 : type_of% (rr c5_1.eq_1) := rr rfl
def c5_2 : ACode := .ops [⟨some 13, .fad (.t 3) 1, none, [3]⟩,⟨some 14, .load 1 false (.t 13), none, [3]⟩,⟨some 15, .mv (.c (.int .i64 0)), none, []⟩] [1, 2, 3, 14, 15]
theorem r5_2 : type_of% (rr c5_2.eq_1) := rr rfl
def c5_3 : ACode := .ops [⟨some 16, .bin .lss (.t 15) (.t 14), none, []⟩] [1, 2, 3, 14, 15, 16]
theorem r5_3 : type_of% (rr c5_3.eq_1) := rr rfl
def c5_4 : ACode := .cond (.t 16) .skip (.exit 0)
theorem r5_4 : type_of% (rr c5_4.eq_1) := rr rfl
def c5_5 : ACode := .ops [⟨some 17, .mv (.t 15), none, []⟩,⟨some 4, .mv (.t 17), none, []⟩] [1, 2, 3, 4, 14, 15]
theorem r5_5 : type_of% (rr c5_5.eq_1) := rr rfl
def c5_6 : ACode := .ops [⟨some 18, .mv (.t 4), none, []⟩,⟨some 19, .fad (.t 1) 2, none, [1]⟩,⟨some 20, .load 1 false (.t 19), none, [1]⟩,⟨some 21, .mv (.t 4), none, []⟩,⟨some 22, .call 21 [.t 20, .t 21], none, []⟩,⟨some 23, .call 16 [.t 22, .c (.int .i64 (-500)), .c (.int .i64 500)], none, []⟩,⟨some 24, .fad (.t 3) 2, none, [3]⟩,⟨some 25, .iad (.t 24) (.t 18) 1 3, none, [3]⟩,⟨none, .store (.t 25) 1 (.t 23), none, [3]⟩] [1, 2, 3, 14, 15]
theorem r5_6 : type_of% (rr c5_6.eq_1) := rr rfl
def c5_7 : ACode := .seq c5_5 c5_6
theorem r5_7 : type_of% (rr c5_7.eq_1) := rr rfl
def c5_8 : ACode := .block 1 c5_7
theorem r5_8 : type_of% (rr c5_8.eq_1) := rr rfl
def c5_9 : ACode := .ops [⟨some 26, .bin .add (.t 15) (.c (.int .i64 1)), none, []⟩,⟨some 15, .mv (.t 26), none, []⟩] [1, 2, 3, 14, 15]
theorem r5_9 : type_of% (rr c5_9.eq_1) := rr rfl
def c5_10 : ACode := .seq c5_8 c5_9
theorem r5_10 : type_of% (rr c5_10.eq_1) := rr rfl
def c5_11 : ACode := .seq c5_4 c5_10
theorem r5_11 : type_of% (rr c5_11.eq_1) := rr rfl
def c5_12 : ACode := .seq c5_3 c5_11
theorem r5_12 : type_of% (rr c5_12.eq_1) := rr rfl
def c5_13 : ACode := .keep [1, 2, 3, 14, 15] [1, 2, 3, 10305] c5_12
theorem r5_13 : type_of% (rr c5_13.eq_1) := rr rfl
def c5_14 : ACode := .loop c5_13
theorem r5_14 : type_of% (rr c5_14.eq_1) := rr rfl
def c5_15 : ACode := .block 0 c5_14
theorem r5_15 : type_of% (rr c5_15.eq_1) := rr rfl
def c5_16 : ACode := .seq c5_2 c5_15
theorem r5_16 : type_of% (rr c5_16.eq_1) := rr rfl
def c5_17 : ACode := .ops [⟨some 5, .mv (.c (.int .i64 0)), none, []⟩] [1, 2, 3, 5]
theorem r5_17 : type_of% (rr c5_17.eq_1) := rr rfl
def c5_18 : ACode := .ops [⟨some 27, .mv (.t 5), none, []⟩,⟨some 28, .fad (.t 1) 3, none, [1]⟩,⟨some 29, .load 1 false (.t 28), none, [1]⟩,⟨some 30, .len (.t 29), none, []⟩,⟨some 31, .bin .lss (.t 27) (.t 30), none, []⟩,⟨some 32, .mv (.t 31), none, []⟩,⟨some 33, .mv (.t 5), some (32, true), []⟩,⟨some 34, .bin .lss (.t 33) (.c (.int .i64 4)), some (32, true), []⟩,⟨some 35, .pick (.t 32) (.t 34) (.c (.bool false)), none, []⟩] [1, 2, 3, 5, 35]
theorem r5_18 : type_of% (rr c5_18.eq_1) := rr rfl
def c5_19 : ACode := .cond (.t 35) .skip (.exit 2)
theorem r5_19 : type_of% (rr c5_19.eq_1) := rr rfl
def c5_20 : ACode := .seq c5_18 c5_19
theorem r5_20 : type_of% (rr c5_20.eq_1) := rr rfl
def c5_21 : ACode := .ops [⟨some 38, .fad (.t 3) 5, none, [3]⟩,⟨some 39, .load 1 false (.t 38), none, [3]⟩,⟨some 40, .fad (.t 1) 3, none, [1]⟩,⟨some 41, .load 1 false (.t 40), none, [1]⟩,⟨some 42, .mv (.t 5), none, []⟩,⟨some 43, .ias (.t 41) (.t 42) 5, none, []⟩,⟨some 44, .fad (.t 43) 0, none, []⟩,⟨some 45, .load 1 false (.t 44), none, []⟩,⟨some 46, .fad (.t 3) 1, none, [3]⟩,⟨some 47, .load 1 false (.t 46), none, [3]⟩,⟨some 48, .bin .sub (.t 47) (.c (.int .i64 1)), none, []⟩,⟨some 49, .call 16 [.t 45, .c (.int .i64 0), .t 48], none, []⟩,⟨some 50, .fad (.t 1) 3, none, [1]⟩,⟨some 51, .load 1 false (.t 50), none, [1]⟩,⟨some 52, .mv (.t 5), none, []⟩,⟨some 53, .ias (.t 51) (.t 52) 5, none, []⟩,⟨some 54, .load 5 true (.t 53), none, []⟩,⟨some 55, .fad (.t 3) 0, none, [3]⟩,⟨some 56, .load 1 false (.t 55), none, [3]⟩,⟨some 57, .call 22 [.t 54, .t 56], none, []⟩,⟨some 58, .build [.int .i64 0, .nils] [(0, 1, .t 49), (1, 1, .t 57)], none, []⟩,⟨some 59, .mkrow 59 1 2 [.int .i64 0, .nils] [(0, 2, .t 58)], none, []⟩,⟨some 60, .app 10305 [10305] (.t 39) (.t 59) 2, none, [59, 10305]⟩,⟨some 61, .fad (.t 3) 5, none, [3]⟩,⟨none, .store (.t 61) 1 (.t 60), none, [3]⟩] [1, 2, 3, 5]
theorem r5_21 : type_of% (rr c5_21.eq_1) := rr rfl
def c5_22 : ACode := .block 3 c5_21
theorem r5_22 : type_of% (rr c5_22.eq_1) := rr rfl
def c5_23 : ACode := .ops [⟨some 36, .mv (.t 5), none, []⟩,⟨some 37, .bin .add (.t 36) (.c (.int .i64 1)), none, []⟩,⟨some 5, .mv (.t 37), none, []⟩] [1, 2, 3, 5]
theorem r5_23 : type_of% (rr c5_23.eq_1) := rr rfl
def c5_24 : ACode := .seq c5_22 c5_23
theorem r5_24 : type_of% (rr c5_24.eq_1) := rr rfl
def c5_25 : ACode := .seq c5_20 c5_24
theorem r5_25 : type_of% (rr c5_25.eq_1) := rr rfl
def c5_26 : ACode := .keep [1, 2, 3, 5] [1, 2, 3, 10305] c5_25
theorem r5_26 : type_of% (rr c5_26.eq_1) := rr rfl
def c5_27 : ACode := .loop c5_26
theorem r5_27 : type_of% (rr c5_27.eq_1) := rr rfl
def c5_28 : ACode := .block 2 c5_27
theorem r5_28 : type_of% (rr c5_28.eq_1) := rr rfl
def c5_29 : ACode := .seq c5_17 c5_28
theorem r5_29 : type_of% (rr c5_29.eq_1) := rr rfl
def c5_30 : ACode := .ops [⟨some 62, .load 6 true (.t 3), none, [3]⟩,⟨none, .store (.t 2) 6 (.t 62), none, [2]⟩] [2]
theorem r5_30 : type_of% (rr c5_30.eq_1) := rr rfl
def c5_31 : ACode := .seq c5_30 .ret
theorem r5_31 : type_of% (rr c5_31.eq_1) := rr rfl
def c5_32 : ACode := .seq c5_29 c5_31
theorem r5_32 : type_of% (rr c5_32.eq_1) := rr rfl
def c5_33 : ACode := .seq c5_16 c5_32
theorem r5_33 : type_of% (rr c5_33.eq_1) := rr rfl
def c5_34 : ACode := .seq c5_1 c5_33
theorem r5_34 : type_of% (rr c5_34.eq_1) := rr rfl
def c5_35 : ACode := .seq c5_0 c5_34
theorem r5_35 : type_of% (rr c5_35.eq_1) := rr rfl
def a5 : AFun := ⟨1, 63, c5_35, [.cell 2 6 true]⟩
attribute [simp] r5_0 r5_1 r5_2 r5_3 r5_4 r5_5 r5_6 r5_7 r5_8 r5_9 r5_10 r5_11 r5_12 r5_13 r5_14 r5_15 r5_16 r5_17 r5_18 r5_19 r5_20 r5_21 r5_22 r5_23 r5_24 r5_25 r5_26 r5_27 r5_28 r5_29 r5_30 r5_31 r5_32 r5_33 r5_34 r5_35
theorem m5 : mFun Tryz.prog Tryz.f5 a5 = true := by decide +kernel
theorem rd_ktree (l : List KTree) (i : Nat) (h : i < l.length) : rd (encL l) (i * 5) 5 true = some (.agg [.int .i64 l[i].cls, .lst l[i].part.length (encL l[i].part), .lst l[i].dir.length (encL l[i].dir), .lst l[i].cut.length (encL l[i].cut), .lst l[i].val.length (encL l[i].val)]) := rd_row l i h
theorem rd_ktree0 (l : List KTree) (i : Nat) (h : i < l.length) : rd (encL l) (i * 5) 1 false = some (.int .i64 l[i].cls) := rd_cell l i 0 h (by decide)
def fcells (f : Forest) : List AV := [.int .i64 f.dim, .int .i64 f.classes, .lst f.bias.length (encL f.bias), .lst f.trees.length (encL f.trees)]
theorem forest_trees {C : Cs} (hW : ∀ n lo hi : Int, C 16 [.int .i64 n, .int .i64 lo, .int .i64 hi] = (Within n lo hi).map Arg.enc)
    (hN : ∀ (t : KTree) (dim : Int), C 22 [.agg [.int .i64 t.cls, .lst t.part.length (encL t.part), .lst t.dir.length (encL t.dir), .lst t.cut.length (encL t.cut), .lst t.val.length (encL t.val)], .int .i64 dim] = (NodesC t dim).map Arg.enc)
    (f : Forest) (b : Bias) (g : Nat → Nat) (h : Hp)
    (hh : keepH h [1, 2, 3, 10305] = [(1, ⟨fcells f, false, 0⟩), (2, ⟨[.int .i64 0, .int .i64 0, .int .i64 0, .int .i64 0, .int .i64 0, .nils], false, 0⟩), (3, ⟨[.int .i64 (mDim f), .int .i64 (mClasses f), .int .i64 b.b0, .int .i64 b.b1, .int .i64 b.b2, .nils], false, 0⟩)]) :
    run C (.loop c5_26) [Fr.blk 2, Fr.c c5_31] ⟨[(1, .ptr 1 (g 1) 0), (2, .ptr 2 (g 2) 0), (3, .ptr 3 (g 3) 0), (5, .int .i64 0)], h, g⟩
      (fin [ARes.cell 2 6 true] (Arg.enc (⟨mDim f, mClasses f, b, (f.trees.take 4).map (mTree f)⟩ : Model))) := by
  have hd := mDim_le f
  have hc := mClasses_le f
  by_cases hm : f.trees.length ≤ maxN
  case neg =>
    rw [run_round]
    unfold c5_26
    rw [run_keep]
    simp only [hh]
    simp -implicitDefEqProofs [hm, fcells]
  refine run_while (c := c5_25) (fun n s => ∃ (i : Nat) (g : Nat → Nat), i + n = min f.trees.length 4 ∧ s = ⟨[(1, .ptr 1 (g 1) 0), (2, .ptr 2 (g 2) 0), (3, .ptr 3 (g 3) 0), (5, .int .i64 i)],
    (1, ⟨fcells f, false, 0⟩) :: (2, ⟨[.int .i64 0, .int .i64 0, .int .i64 0, .int .i64 0, .int .i64 0, .nils], false, 0⟩) :: (3, ⟨[.int .i64 (mDim f), .int .i64 (mClasses f), .int .i64 b.b0, .int .i64 b.b1, .int .i64 b.b2, if i = 0 then .nils else .own 10305 (g 10305) 0 i], false, 0⟩) ::
      (if i = 0 then [] else [(10305, ⟨encL ((f.trees.map (mTree f)).take i), false, 2⟩)]), g⟩) (min f.trees.length 4) ⟨0, g, by omega, ?_⟩ ?_
  · simp only [hh]
    simp
  rintro n s ⟨i, g, hi, rfl⟩
  have w1 : IntKind.i64.wrap ((i : Int) + 1) = (i : Int) + 1 := wrap64 (by omega) (by omega)
  by_cases h1 : i < min f.trees.length 4
  case pos =>
    have c1 : i < f.trees.length := by omega
    have c2 : (i : Int) < 4 := by omega
    have r1 := rd_ktree f.trees i c1
    have r0 := rd_ktree0 f.trees i c1
    have w2 : IntKind.i64.wrap (mClasses f - 1) = mClasses f - 1 := wrap64 (by omega) (by omega)
    have v1 := within_of f.trees[i].cls 0 (mClasses f - 1) (by omega)
    have v2 : NodesC f.trees[i] (mDim f) = some (treeNodes f.trees[i] (mDim f)) := part_of ⟨hd.1, by omega⟩ _
    have c3 : i ≤ 1099511627775 := by omega
    have hL : ((f.trees.map (mTree f)).take i).length = i := by simp; omega
    have c4 : i ≤ f.trees.length := by omega
    have c5 : i * 2 ≤ (encL ((f.trees.map (mTree f)).take i)).length := by rw [encL_length, hL]; exact Nat.le_refl _
    have htk : List.take (i * 2) (encL ((f.trees.map (mTree f)).take i)) = encL ((f.trees.map (mTree f)).take i) := take_rows _ _ (by rw [hL]; exact Nat.le_refl _)
    have he : encL ((f.trees.map (mTree f)).take (i + 1)) = encL ((f.trees.map (mTree f)).take i) ++ [.int .i64 (within f.trees[i].cls 0 (mClasses f - 1)), .lst (treeNodes f.trees[i] (mDim f)).length (encL (treeNodes f.trees[i] (mDim f)))] := by
      rw [List.take_succ_eq_append_getElem (show i < (f.trees.map (mTree f)).length by simpa using c1), encL_append, List.getElem_map]
      rfl
    by_cases hz : i = 0
    · subst hz
      simp -implicitDefEqProofs [hm, fcells, c1, c2, r0, r1, w1, w2, hW, hN, v1, v2]
      refine ⟨n - 1, by omega, 1, by omega, by omega, by rw [if_neg (by omega)], ?_⟩
      rw [if_neg (by omega), he]
      rfl
    · simp -implicitDefEqProofs [hm, fcells, c1, c2, r0, r1, w1, w2, hW, hN, v1, v2, hz, c3, c5, htk]
      refine ⟨n - 1, by omega, i + 1, by omega, by omega, by rw [if_neg (by omega)], ?_⟩
      rw [if_neg (by omega), he]
  case neg =>
    have hil : i = min f.trees.length 4 := by omega
    have ht : f.trees.take 4 = f.trees.take i := by
      rw [hil]
      by_cases h4 : f.trees.length ≤ 4
      · rw [List.take_of_length_le h4, List.take_of_length_le (by omega)]
      · rw [show min f.trees.length 4 = 4 by omega]
    have hT : (f.trees.take 4).map (mTree f) = (f.trees.map (mTree f)).take i := by rw [ht, List.map_take]
    have hL : ((f.trees.map (mTree f)).take i).length = i := by simp; omega
    have htk : List.take (i * 2) (encL ((f.trees.map (mTree f)).take i)) = encL ((f.trees.map (mTree f)).take i) := take_rows _ _ (by rw [hL]; exact Nat.le_refl _)
    have c5 : i * 2 ≤ (encL ((f.trees.map (mTree f)).take i)).length := by rw [encL_length, hL]; exact Nat.le_refl _
    rw [hT]
    by_cases hz : i = 0
    · subst hz
      by_cases k1 : (0 : Int) < f.trees.length
      · omega
      · have k2 : ¬ 0 < f.trees.length := by omega
        simp -implicitDefEqProofs [hm, fcells, k2]
        rfl
    · by_cases k1 : (i : Int) < f.trees.length
      · have k2 : ¬ (i : Int) < 4 := by omega
        simp -implicitDefEqProofs [hm, fcells, k1, k2, hz, c5, htk]
        omega
      · simp -implicitDefEqProofs [hm, fcells, k1, hz, c5, htk]
        omega
noncomputable def ModelC (f : Forest) : Option Model := some (modelOf f)
theorem runs_Model (f : Forest) (c : Model) (h : ModelC f = some c) : Runs (tbl [(21, sp2 Pick), (16, sp3 Within), (22, sp2 NodesC)]) a5 [Arg.enc f] (Arg.enc c) := by
  cases h
  refine ⟨rfl, fun g => run_def ?_⟩
  unfold a5
  have v1 : Within f.dim 1 3 = some (mDim f) := within_of f.dim 1 3 (by omega)
  have v2 : Within f.classes 1 3 = some (mClasses f) := within_of f.classes 1 3 (by omega)
  have hc := mClasses_le f
  have p0 := pick_of f.bias 0
  have p1 : Pick f.bias 1 = some (pick f.bias 1) := pick_of f.bias 1
  have p2 : Pick f.bias 2 = some (pick f.bias 2) := pick_of f.bias 2
  have v3 := within_of (pick f.bias 0) (-500) 500 (by omega)
  have v4 := within_of (pick f.bias 1) (-500) 500 (by omega)
  have v5 := within_of (pick f.bias 2) (-500) 500 (by omega)
  have b0 : within (pick f.bias 0) (-500) 500 = mBias f 0 := by unfold mBias; rw [if_pos (by omega)]
  rw [b0] at v3
  have hcc : mClasses f = 1 ∨ mClasses f = 2 ∨ mClasses f = 3 := by omega
  have hW : ∀ n lo hi : Int, tbl [(21, sp2 Pick), (16, sp3 Within), (22, sp2 NodesC)] 16 [.int .i64 n, .int .i64 lo, .int .i64 hi] = (Within n lo hi).map Arg.enc := fun n lo hi => by simp
  have hN : ∀ (t : KTree) (dim : Int), tbl [(21, sp2 Pick), (16, sp3 Within), (22, sp2 NodesC)] 22 [.agg [.int .i64 t.cls, .lst t.part.length (encL t.part), .lst t.dir.length (encL t.dir), .lst t.cut.length (encL t.cut), .lst t.val.length (encL t.val)], .int .i64 dim] = (NodesC t dim).map Arg.enc := fun t dim => by simp
  rcases hcc with hcc | hcc | hcc
  · have z1 : mBias f 1 = 0 := by unfold mBias; rw [if_neg (by omega)]
    have z2 : mBias f 2 = 0 := by unfold mBias; rw [if_neg (by omega)]
    simp -implicitDefEqProofs [v1, v2, v3, p0, pick_0, hcc, run_round, -r5_27]
    exact forest_trees hW hN f ⟨mBias f 0, mBias f 1, mBias f 2⟩ (bump 3 (bump 2 (bump 1 g))) _ (by simp [hcc, fcells, z1, z2])
  · have b1 : within (pick f.bias 1) (-500) 500 = mBias f 1 := by unfold mBias; rw [if_pos (by omega)]
    rw [b1] at v4
    have z2 : mBias f 2 = 0 := by unfold mBias; rw [if_neg (by omega)]
    simp -implicitDefEqProofs [v1, v2, v3, v4, p0, p1, pick_0, hcc, run_round, -r5_27]
    exact forest_trees hW hN f ⟨mBias f 0, mBias f 1, mBias f 2⟩ (bump 3 (bump 2 (bump 1 g))) _ (by simp [hcc, fcells, z2])
  · have b1 : within (pick f.bias 1) (-500) 500 = mBias f 1 := by unfold mBias; rw [if_pos (by omega)]
    have b2 : within (pick f.bias 2) (-500) 500 = mBias f 2 := by unfold mBias; rw [if_pos (by omega)]
    rw [b1] at v4
    rw [b2] at v5
    simp -implicitDefEqProofs [v1, v2, v3, v4, v5, p0, p1, p2, pick_0, hcc, run_round, -r5_27]
    exact forest_trees hW hN f ⟨mBias f 0, mBias f 1, mBias f 2⟩ (bump 3 (bump 2 (bump 1 g))) _ (by simp [hcc, fcells])
theorem c_Model : Contract Tryz.prog 5 (sp1 ModelC) :=
  contract_of_runs mixed (tbl_cons c_pick (tbl_cons c_Within (tbl_cons c_Nodes tbl_nil))) Tryz.func5 m5 (sp1_runs runs_Model)
end Go.Co
