/- CO: the pieces of a tree within a box. -/
import Derived.Test.YtbjnmbbhlaghaaaCoF
namespace Go.Co
open Go.Am Go.Proofs
set_option linter.unusedSimpArgs false
set_option linter.unusedVariables false
def c51_0 : ACode := .ops [⟨some 3, .box (.t 1) 10, none, []⟩,
  ⟨some 4, .mv (.c (.nils)), none, []⟩] [0, 3]
def c51_1 : ACode := .ops [⟨some 11, .mv (.t 0), none, []⟩,
  ⟨some 12, .call 76 [.t 11, .c (.int .i64 4)], none, []⟩,
  ⟨some 13, .un .not (.t 12), none, []⟩,
  ⟨some 14, .mv (.t 13), none, []⟩,
  ⟨some 15, .load 10 true (.t 3), some (14, false), [3]⟩,
  ⟨some 16, .call 68 [.t 15], some (14, false), []⟩,
  ⟨some 17, .pick (.t 14) (.c (.bool true)) (.t 16), none, []⟩] [0, 3, 17]
def c51_2 : ACode := .ops [⟨some 4, .mv (.c (.nils)), none, []⟩] [4]
def c51_3 : ACode := .seq c51_2 .ret
def c51_4 : ACode := .cond (.t 17) c51_3 .skip
def c51_5 : ACode := .seq c51_1 c51_4
def c51_6 : ACode := .ops [⟨some 18, .mv (.t 0), none, []⟩,
  ⟨some 19, .len (.t 18), none, []⟩,
  ⟨some 20, .mks 5 (.t 19) 10 [.int .i64 0, .int .i64 0, .int .i64 0, .int .i64 0, .int .i64 0, .int .i64 0, .int .i64 0, .int .i64 0, .int .i64 0, .int .i64 0], none, []⟩,
  ⟨some 5, .mv (.t 20), none, []⟩] [0, 3, 5]
def c51_7 : ACode := .ops [⟨some 21, .mv (.t 5), none, []⟩,
  ⟨some 22, .load 10 true (.t 3), none, [3]⟩,
  ⟨some 23, .ias (.t 21) (.c (.int .i64 0)) 10, none, [5]⟩,
  ⟨none, .store (.t 23) 10 (.t 22), none, [5]⟩] [0, 5]
def c51_8 : ACode := .ops [⟨some 6, .nil0 6 11, none, []⟩] [0, 5, 6]
def c51_9 : ACode := .ops [⟨some 24, .mv (.t 0), none, []⟩,
  ⟨some 25, .len (.t 24), none, []⟩,
  ⟨some 26, .mv (.c (.int .i64 0)), none, []⟩] [5, 6, 24, 25, 26]
def c51_10 : ACode := .ops [⟨some 27, .bin .lss (.t 26) (.t 25), none, []⟩] [5, 6, 24, 25, 26, 27]
def c51_11 : ACode := .cond (.t 27) .skip (.exit 0)
def c51_12 : ACode := .ops [⟨some 28, .mv (.t 26), none, []⟩,
  ⟨some 29, .ias (.t 24) (.t 26) 1, none, []⟩,
  ⟨some 30, .load 1 false (.t 29), none, []⟩,
  ⟨some 7, .mv (.t 28), none, []⟩,
  ⟨some 8, .mv (.t 30), none, []⟩] [5, 6, 7, 8, 24, 25, 26]
def c51_13 : ACode := .ops [⟨some 32, .mv (.t 8), none, []⟩,
  ⟨some 33, .call 77 [.t 32], none, []⟩,
  ⟨some 31, .mv (.t 33), none, []⟩,
  ⟨some 34, .ext (.t 31) 0, none, []⟩,
  ⟨some 35, .ext (.t 31) 1, none, []⟩,
  ⟨some 9, .alloc [.bool false, .int .i64 0, .int .i64 0, .int .i64 0, .int .i64 0, .int .i64 0], none, []⟩,
  ⟨none, .store (.t 9) 6 (.t 34), none, [9]⟩,
  ⟨some 10, .mv (.t 35), none, []⟩] [5, 6, 7, 9, 24, 25, 26]
def c51_14 : ACode := .ops [⟨some 37, .fad (.t 9) 0, none, [9]⟩,
  ⟨some 38, .load 1 false (.t 37), none, [9]⟩,
  ⟨some 39, .un .not (.t 38), none, []⟩,
  ⟨some 36, .mv (.t 39), none, []⟩] [5, 6, 7, 9, 24, 25, 26, 36]
def c51_15 : ACode := .ops [⟨some 41, .mv (.t 5), none, []⟩,
  ⟨some 42, .fad (.t 9) 4, none, [9]⟩,
  ⟨some 43, .load 1 false (.t 42), none, [9]⟩,
  ⟨some 44, .mv (.t 5), none, []⟩,
  ⟨some 45, .fad (.t 9) 5, none, [9]⟩,
  ⟨some 46, .load 1 false (.t 45), none, [9]⟩,
  ⟨some 47, .mv (.t 5), none, []⟩,
  ⟨some 48, .mv (.t 7), none, []⟩,
  ⟨some 49, .ias (.t 47) (.t 48) 10, none, [5]⟩,
  ⟨some 50, .load 10 true (.t 49), none, [5]⟩,
  ⟨some 51, .fad (.t 9) 2, none, [9]⟩,
  ⟨some 52, .load 1 false (.t 51), none, [9]⟩,
  ⟨some 53, .fad (.t 9) 3, none, [9]⟩,
  ⟨some 54, .load 1 false (.t 53), none, [9]⟩,
  ⟨some 55, .call 67 [.t 50, .t 52, .t 54], none, []⟩,
  ⟨some 40, .mv (.t 55), none, []⟩,
  ⟨some 56, .ext (.t 40) 0, none, []⟩,
  ⟨some 57, .ext (.t 40) 1, none, []⟩,
  ⟨some 58, .ias (.t 41) (.t 43) 10, none, [5]⟩,
  ⟨none, .store (.t 58) 10 (.t 56), none, [5]⟩,
  ⟨some 59, .ias (.t 44) (.t 46) 10, none, [5]⟩,
  ⟨none, .store (.t 59) 10 (.t 57), none, [5]⟩] [5, 6, 24, 25, 26]
def c51_16 : ACode := .ops [⟨some 61, .mv (.t 5), none, []⟩,
  ⟨some 62, .mv (.t 7), none, []⟩,
  ⟨some 63, .ias (.t 61) (.t 62) 10, none, [5]⟩,
  ⟨some 64, .load 10 true (.t 63), none, [5]⟩,
  ⟨some 65, .call 68 [.t 64], none, []⟩,
  ⟨some 66, .un .not (.t 65), none, []⟩,
  ⟨some 60, .mv (.t 66), none, []⟩] [5, 6, 7, 9, 24, 25, 26, 60]
def c51_17 : ACode := .ops [⟨some 67, .mv (.t 6), none, []⟩,
  ⟨some 68, .mv (.t 5), none, []⟩,
  ⟨some 69, .mv (.t 7), none, []⟩,
  ⟨some 70, .ias (.t 68) (.t 69) 10, none, [5]⟩,
  ⟨some 71, .load 10 true (.t 70), none, [5]⟩,
  ⟨some 72, .fad (.t 9) 1, none, [9]⟩,
  ⟨some 73, .load 1 false (.t 72), none, [9]⟩,
  ⟨some 74, .build [.int .i64 0, .int .i64 0, .int .i64 0, .int .i64 0, .int .i64 0, .int .i64 0, .int .i64 0, .int .i64 0, .int .i64 0, .int .i64 0, .int .i64 0] [(0, 10, .t 71), (10, 1, .t 73)], none, []⟩,
  ⟨some 75, .mkrow 75 1 11 [.int .i64 0, .int .i64 0, .int .i64 0, .int .i64 0, .int .i64 0, .int .i64 0, .int .i64 0, .int .i64 0, .int .i64 0, .int .i64 0, .int .i64 0] [(0, 11, .t 74)], none, []⟩,
  ⟨some 76, .app 6 [6] (.t 67) (.t 75) 11, none, [6, 75]⟩,
  ⟨some 6, .mv (.t 76), none, []⟩] [5, 6, 24, 25, 26]
def c51_18 : ACode := .cond (.t 60) c51_17 .skip
def c51_19 : ACode := .seq c51_16 c51_18
def c51_20 : ACode := .cond (.t 36) c51_15 c51_19
def c51_21 : ACode := .seq c51_14 c51_20
def c51_22 : ACode := .block 2 c51_21
def c51_23 : ACode := .seq c51_13 c51_22
def c51_24 : ACode := .seq c51_12 c51_23
def c51_25 : ACode := .block 1 c51_24
def c51_26 : ACode := .ops [⟨some 77, .bin .add (.t 26) (.c (.int .i64 1)), none, []⟩,
  ⟨some 26, .mv (.t 77), none, []⟩] [5, 6, 24, 25, 26]
def c51_27 : ACode := .seq c51_25 c51_26
def c51_28 : ACode := .seq c51_11 c51_27
def c51_29 : ACode := .seq c51_10 c51_28
def c51_30 : ACode := .keep [5, 6, 24, 25, 26] [5, 6] c51_29
def c51_31 : ACode := .loop c51_30
def c51_32 : ACode := .block 0 c51_31
def c51_33 : ACode := .seq c51_9 c51_32
def c51_34 : ACode := .ops [⟨some 78, .mv (.t 6), none, []⟩,
  ⟨some 4, .mv (.t 78), none, []⟩] [4]
def c51_35 : ACode := .seq c51_34 .ret
def c51_36 : ACode := .seq c51_33 c51_35
def c51_37 : ACode := .seq c51_8 c51_36
def c51_38 : ACode := .seq c51_7 c51_37
def c51_39 : ACode := .seq c51_6 c51_38
def c51_40 : ACode := .seq c51_5 c51_39
def c51_41 : ACode := .seq c51_0 c51_40
def a51 : AFun := ⟨2, 79, c51_41, [.t 4]⟩
def okS64 (s : Span) : Prop := ok64 s.lo ∧ ok64 s.hi
def okB (b : Box) : Prop := okS64 b.s0 ∧ okS64 b.s1 ∧ okS64 b.s2 ∧ okS64 b.s3 ∧ okS64 b.s4
theorem okS_of {lo hi : Int} (h : ok64 lo) (h' : ok64 hi) : okS64 (ofS lo hi) := by
  unfold ofS
  split
  · unfold okS64 ok64 noneS; simp only; omega
  · exact ⟨h, h'⟩
theorem okS_cut {s : Span} (h : okS64 s) {n : Int} (hn : ok64 n) : okS64 (cutS s n).1 ∧ okS64 (cutS s n).2 := by
  unfold cutS
  split
  · exact ⟨okS_of h.1 h.2, by unfold okS64 ok64 noneS; simp only; omega⟩
  · refine ⟨okS_of h.1 hn, okS_of ?_ h.2⟩
    have := h.1
    have := h.2
    unfold ok64 at *
    split <;> omega
theorem okB_get {b : Box} (h : okB b) (i : Int) : okS64 (b.get i) := by
  obtain ⟨h0, h1, h2, h3, h4⟩ := h
  unfold Box.get
  split
  · exact h0
  · split
    · exact h1
    · split
      · exact h2
      · split
        · exact h3
        · exact h4
theorem okB_set {b : Box} (h : okB b) (i : Int) {s : Span} (hs : okS64 s) : okB (b.set i s) := by
  obtain ⟨h0, h1, h2, h3, h4⟩ := h
  unfold Box.set
  split
  · exact ⟨hs, h1, h2, h3, h4⟩
  · split
    · exact ⟨h0, hs, h2, h3, h4⟩
    · split
      · exact ⟨h0, h1, hs, h3, h4⟩
      · split
        · exact ⟨h0, h1, h2, hs, h4⟩
        · exact ⟨h0, h1, h2, h3, hs⟩
theorem okB_cut {b : Box} (h : okB b) (i : Int) {n : Int} (hn : ok64 n) : okB (cutB b i n).1 ∧ okB (cutB b i n).2 := by
  unfold cutB
  split
  · have := okS_cut (okB_get h i) hn
    exact ⟨okB_set h i this.1, okB_set h i this.2⟩
  · exact ⟨h, h⟩
theorem ok64_fits {n : Int} (h : fits n = true) : ok64 n := by have := of_fits h; unfold ok64; omega
theorem cutB_of {b : Box} (h : okB b) (i : Int) {n : Int} (hn : ok64 n) : CutB b i n = some (cutB b i n) := by
  unfold CutB
  rw [if_pos ⟨hn, (okB_get h i).2⟩]
theorem rd_box (l : List Box) (i : Nat) (h : i < l.length) : rd (encL l) (i * 10) 10 true = some (Arg.enc l[i]) := rd_row l i h
end Go.Co
