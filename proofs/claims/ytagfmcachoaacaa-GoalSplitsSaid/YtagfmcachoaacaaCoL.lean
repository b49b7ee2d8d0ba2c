/- CO: the pieces of a tree within a box. -/
import Derived.Test.YtagfmcachoaacaaCoF
namespace Go.Co
open Go.Am Go.Proofs
set_option linter.unusedSimpArgs false
set_option linter.unusedVariables false
def c68_0 : ACode := .ops [⟨some 3, .box (.t 1) 10, none, []⟩,
  ⟨some 4, .mv (.c (.nils)), none, []⟩] [0, 3]
def c68_1 : ACode := .ops [⟨some 11, .mv (.t 0), none, []⟩,
  ⟨some 12, .call 73 [.t 11, .c (.int .i64 4)], none, []⟩,
  ⟨some 13, .un .not (.t 12), none, []⟩,
  ⟨some 14, .mv (.t 13), none, []⟩,
  ⟨some 15, .load 10 true (.t 3), some (14, false), [3]⟩,
  ⟨some 16, .call 20 [.t 15], some (14, false), []⟩,
  ⟨some 17, .pick (.t 14) (.c (.bool true)) (.t 16), none, []⟩] [0, 3, 17]
def c68_2 : ACode := .ops [⟨some 4, .mv (.c (.nils)), none, []⟩] [4]
def c68_3 : ACode := .seq c68_2 .ret
def c68_4 : ACode := .cond (.t 17) c68_3 .skip
def c68_5 : ACode := .seq c68_1 c68_4
def c68_6 : ACode := .ops [⟨some 18, .mv (.t 0), none, []⟩,
  ⟨some 19, .len (.t 18), none, []⟩,
  ⟨some 20, .mks 5 (.t 19) 10 [.int .i64 0, .int .i64 0, .int .i64 0, .int .i64 0, .int .i64 0, .int .i64 0, .int .i64 0, .int .i64 0, .int .i64 0, .int .i64 0], none, []⟩,
  ⟨some 5, .mv (.t 20), none, []⟩] [0, 3, 5]
def c68_7 : ACode := .ops [⟨some 21, .mv (.t 5), none, []⟩,
  ⟨some 22, .load 10 true (.t 3), none, [3]⟩,
  ⟨some 23, .ias (.t 21) (.c (.int .i64 0)) 10, none, [5]⟩,
  ⟨none, .store (.t 23) 10 (.t 22), none, [5]⟩] [0, 5]
def c68_8 : ACode := .ops [⟨some 6, .nil0 6 11, none, []⟩] [0, 5, 6]
def c68_9 : ACode := .ops [⟨some 24, .mv (.t 0), none, []⟩,
  ⟨some 25, .len (.t 24), none, []⟩,
  ⟨some 26, .mv (.c (.int .i64 0)), none, []⟩] [5, 6, 24, 25, 26]
def c68_10 : ACode := .ops [⟨some 27, .bin .lss (.t 26) (.t 25), none, []⟩] [5, 6, 24, 25, 26, 27]
def c68_11 : ACode := .cond (.t 27) .skip (.exit 0)
def c68_12 : ACode := .ops [⟨some 28, .mv (.t 26), none, []⟩,
  ⟨some 29, .ias (.t 24) (.t 26) 1, none, []⟩,
  ⟨some 30, .load 1 false (.t 29), none, []⟩,
  ⟨some 7, .mv (.t 28), none, []⟩,
  ⟨some 8, .mv (.t 30), none, []⟩] [5, 6, 7, 8, 24, 25, 26]
def c68_13 : ACode := .ops [⟨some 32, .mv (.t 8), none, []⟩,
  ⟨some 33, .call 65 [.t 32], none, []⟩,
  ⟨some 31, .mv (.t 33), none, []⟩,
  ⟨some 34, .ext (.t 31) 0, none, []⟩,
  ⟨some 35, .ext (.t 31) 1, none, []⟩,
  ⟨some 9, .alloc [.bool false, .int .i64 0, .int .i64 0, .int .i64 0, .int .i64 0, .int .i64 0], none, []⟩,
  ⟨none, .store (.t 9) 6 (.t 34), none, [9]⟩,
  ⟨some 10, .mv (.t 35), none, []⟩] [5, 6, 7, 9, 24, 25, 26]
def c68_14 : ACode := .ops [⟨some 37, .fad (.t 9) 0, none, [9]⟩,
  ⟨some 38, .load 1 false (.t 37), none, [9]⟩,
  ⟨some 39, .un .not (.t 38), none, []⟩,
  ⟨some 36, .mv (.t 39), none, []⟩] [5, 6, 7, 9, 24, 25, 26, 36]
def c68_15 : ACode := .ops [⟨some 41, .mv (.t 5), none, []⟩,
  ⟨some 42, .fad (.t 9) 4, none, [9]⟩,
  ⟨some 43, .load 1 false (.t 42), none, [9]⟩,
  ⟨some 44, .mv (.t 5), none, []⟩,
  ⟨some 45, .fad (.t 9) 5, none, [9]⟩,
  ⟨some 46, .load 1 false (.t 45), none, [9]⟩,
  ⟨some 47, .mv (.t 5), none, []⟩,
  ⟨some 48, .mv (.t 7), none, []⟩,
  ⟨some 49, .ias (.t 47) (.t 48) 10, none, [5]⟩,
  ⟨some 50, .load 10 true (.t 49), none, [5]⟩,
  ⟨some 51, .fad (.t 9) 2, none, [9]⟩,
  ⟨some 52, .load 1 false (.t 51), none, [9]⟩,
  ⟨some 53, .fad (.t 9) 3, none, [9]⟩,
  ⟨some 54, .load 1 false (.t 53), none, [9]⟩,
  ⟨some 55, .call 15 [.t 50, .t 52, .t 54], none, []⟩,
  ⟨some 40, .mv (.t 55), none, []⟩,
  ⟨some 56, .ext (.t 40) 0, none, []⟩,
  ⟨some 57, .ext (.t 40) 1, none, []⟩,
  ⟨some 58, .ias (.t 41) (.t 43) 10, none, [5]⟩,
  ⟨none, .store (.t 58) 10 (.t 56), none, [5]⟩,
  ⟨some 59, .ias (.t 44) (.t 46) 10, none, [5]⟩,
  ⟨none, .store (.t 59) 10 (.t 57), none, [5]⟩] [5, 6, 24, 25, 26]
def c68_16 : ACode := .ops [⟨some 61, .mv (.t 5), none, []⟩,
  ⟨some 62, .mv (.t 7), none, []⟩,
  ⟨some 63, .ias (.t 61) (.t 62) 10, none, [5]⟩,
  ⟨some 64, .load 10 true (.t 63), none, [5]⟩,
  ⟨some 65, .call 20 [.t 64], none, []⟩,
  ⟨some 66, .un .not (.t 65), none, []⟩,
  ⟨some 60, .mv (.t 66), none, []⟩] [5, 6, 7, 9, 24, 25, 26, 60]
def c68_17 : ACode := .ops [⟨some 67, .mv (.t 6), none, []⟩,
  ⟨some 68, .mv (.t 5), none, []⟩,
  ⟨some 69, .mv (.t 7), none, []⟩,
  ⟨some 70, .ias (.t 68) (.t 69) 10, none, [5]⟩,
  ⟨some 71, .load 10 true (.t 70), none, [5]⟩,
  ⟨some 72, .fad (.t 9) 1, none, [9]⟩,
  ⟨some 73, .load 1 false (.t 72), none, [9]⟩,
  ⟨some 74, .build [.int .i64 0, .int .i64 0, .int .i64 0, .int .i64 0, .int .i64 0, .int .i64 0, .int .i64 0, .int .i64 0, .int .i64 0, .int .i64 0, .int .i64 0] [(0, 10, .t 71), (10, 1, .t 73)], none, []⟩,
  ⟨some 75, .mkrow 75 1 11 [.int .i64 0, .int .i64 0, .int .i64 0, .int .i64 0, .int .i64 0, .int .i64 0, .int .i64 0, .int .i64 0, .int .i64 0, .int .i64 0, .int .i64 0] [(0, 11, .t 74)], none, []⟩,
  ⟨some 76, .app 6 [6] (.t 67) (.t 75) 11, none, [6, 75]⟩,
  ⟨some 6, .mv (.t 76), none, []⟩] [5, 6, 24, 25, 26]
def c68_18 : ACode := .cond (.t 60) c68_17 .skip
def c68_19 : ACode := .seq c68_16 c68_18
def c68_20 : ACode := .cond (.t 36) c68_15 c68_19
def c68_21 : ACode := .seq c68_14 c68_20
def c68_22 : ACode := .block 2 c68_21
def c68_23 : ACode := .seq c68_13 c68_22
def c68_24 : ACode := .seq c68_12 c68_23
def c68_25 : ACode := .block 1 c68_24
def c68_26 : ACode := .ops [⟨some 77, .bin .add (.t 26) (.c (.int .i64 1)), none, []⟩,
  ⟨some 26, .mv (.t 77), none, []⟩] [5, 6, 24, 25, 26]
def c68_27 : ACode := .seq c68_25 c68_26
def c68_28 : ACode := .seq c68_11 c68_27
def c68_29 : ACode := .seq c68_10 c68_28
def c68_30 : ACode := .keep [5, 6, 24, 25, 26] [5, 6] c68_29
def c68_31 : ACode := .loop c68_30
def c68_32 : ACode := .block 0 c68_31
def c68_33 : ACode := .seq c68_9 c68_32
def c68_34 : ACode := .ops [⟨some 78, .mv (.t 6), none, []⟩,
  ⟨some 4, .mv (.t 78), none, []⟩] [4]
def c68_35 : ACode := .seq c68_34 .ret
def c68_36 : ACode := .seq c68_33 c68_35
def c68_37 : ACode := .seq c68_8 c68_36
def c68_38 : ACode := .seq c68_7 c68_37
def c68_39 : ACode := .seq c68_6 c68_38
def c68_40 : ACode := .seq c68_5 c68_39
def c68_41 : ACode := .seq c68_0 c68_40
def a68 : AFun := ⟨2, 79, c68_41, [.t 4]⟩
theorem m68 : mFun Try.prog Try.f68 a68 = true := by decide +kernel
def okS64 (s : Span) : Prop := ok64 s.lo ∧ ok64 s.hi
def okB (b : Box) : Prop := okS64 b.s0 ∧ okS64 b.s1 ∧ okS64 b.s2 ∧ okS64 b.s3 ∧ okS64 b.s4
theorem okB_get {b : Box} (h : okB b) (i : Int) : okS64 (b.get i) := by
  obtain ⟨h0, h1, h2, h3, h4⟩ := h
  unfold Box.get
  split
  · exact h0
  · split
    · exact h1
    · split
      · exact h2
      · split
        · exact h3
        · exact h4
theorem ok64_fits {n : Int} (h : fits n = true) : ok64 n := by have := of_fits h; unfold ok64; omega
theorem cutB_of {b : Box} (h : okB b) (i : Int) {n : Int} (hn : ok64 n) : CutB b i n = some (cutB b i n) := by
  unfold CutB
  rw [if_pos ⟨hn, (okB_get h i).2⟩]
end Go.Co
