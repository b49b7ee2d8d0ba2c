/- CO: do sums show what is asked within a box? where is it cut? -/
import Derived.Test.YtagfmcachoaacaaCoHq
import Derived.Test.YtagfmcachoaacaaCoQ
import Derived.Test.YtagfmcachoaacaaCoO
namespace Go.Co
open Go.Am Go.Proofs
set_option linter.unusedSimpArgs false
set_option linter.unusedVariables false
attribute [-simp] Go.Am.eff_gcall
def c11_0 : ACode := .ops [⟨some 3, .box (.t 0) 6, none, []⟩,
  ⟨some 4, .box (.t 1) 17, none, []⟩,
  ⟨some 5, .box (.t 2) 10, none, []⟩,
  ⟨some 6, .mv (.c (.bool false)), none, []⟩] [3, 4, 5]
def c11_1 : ACode := .ops [⟨some 15, .load 6 true (.t 3), none, [3]⟩,
  ⟨some 16, .load 17 true (.t 4), none, [4]⟩,
  ⟨some 17, .call 30 [.t 15, .t 16], none, []⟩,
  ⟨some 18, .un .not (.t 17), none, []⟩] [3, 4, 5, 18]
def c11_2 : ACode := .ops [⟨some 6, .mv (.c (.bool false)), none, []⟩] [6]
def c11_3 : ACode := .seq c11_2 .ret
def c11_4 : ACode := .cond (.t 18) c11_3 .skip
def c11_5 : ACode := .seq c11_1 c11_4
def c11_6 : ACode := .ops [⟨some 19, .load 10 true (.t 5), none, [5]⟩,
  ⟨some 20, .call 20 [.t 19], none, []⟩] [3, 4, 5, 20]
def c11_7 : ACode := .ops [⟨some 6, .mv (.c (.bool true)), none, []⟩] [6]
def c11_8 : ACode := .seq c11_7 .ret
def c11_9 : ACode := .cond (.t 20) c11_8 .skip
def c11_10 : ACode := .seq c11_6 c11_9
def c11_11 : ACode := .ops [⟨some 21, .fad (.t 4) 0, none, [4]⟩,
  ⟨some 22, .load 1 false (.t 21), none, [4]⟩] [3, 4, 5, 22]
def c11_12 : ACode := .ops [⟨some 24, .bin .eql (.t 22) (.c (.int .i64 1)), none, []⟩,
  ⟨some 23, .mv (.t 24), none, []⟩] [3, 4, 5, 22, 23]
def c11_13 : ACode := .ops [⟨some 26, .load 6 true (.t 3), none, [3]⟩,
  ⟨some 27, .fad (.t 4) 1, none, [4]⟩,
  ⟨some 28, .load 1 false (.t 27), none, [4]⟩,
  ⟨some 29, .load 10 true (.t 5), none, [5]⟩,
  ⟨some 30, .call 23 [.t 26, .t 28, .t 29], none, []⟩,
  ⟨some 25, .mv (.t 30), none, []⟩,
  ⟨some 31, .ext (.t 25) 0, none, []⟩,
  ⟨some 32, .ext (.t 25) 1, none, []⟩,
  ⟨some 33, .ext (.t 25) 2, none, []⟩,
  ⟨some 7, .mv (.t 31), none, []⟩,
  ⟨some 8, .mv (.t 32), none, []⟩,
  ⟨some 9, .mv (.t 33), none, []⟩] [4, 7, 8, 9]
def c11_14 : ACode := .ops [⟨some 34, .mv (.t 9), none, []⟩,
  ⟨some 35, .mv (.t 34), none, []⟩,
  ⟨some 36, .fad (.t 4) 12, some (35, true), [4]⟩,
  ⟨some 37, .load 1 false (.t 36), some (35, true), [4]⟩,
  ⟨some 38, .mv (.t 7), some (35, true), []⟩,
  ⟨some 39, .bin .leq (.t 37) (.t 38), some (35, true), []⟩,
  ⟨some 40, .pick (.t 35) (.t 39) (.c (.bool false)), none, []⟩,
  ⟨some 41, .mv (.t 40), none, []⟩,
  ⟨some 42, .mv (.t 8), some (41, true), []⟩,
  ⟨some 43, .fad (.t 4) 13, some (41, true), [4]⟩,
  ⟨some 44, .load 1 false (.t 43), some (41, true), [4]⟩,
  ⟨some 45, .bin .leq (.t 42) (.t 44), some (41, true), []⟩,
  ⟨some 46, .pick (.t 41) (.t 45) (.c (.bool false)), none, []⟩,
  ⟨some 6, .mv (.t 46), none, []⟩] [6]
def c11_15 : ACode := .seq c11_14 .ret
def c11_16 : ACode := .seq c11_13 c11_15
def c11_17 : ACode := .ops [⟨some 48, .bin .eql (.t 22) (.c (.int .i64 2)), none, []⟩,
  ⟨some 47, .mv (.t 48), none, []⟩] [3, 4, 5, 47]
def c11_18 : ACode := .ops [⟨some 50, .load 6 true (.t 3), none, [3]⟩,
  ⟨some 51, .fad (.t 4) 1, none, [4]⟩,
  ⟨some 52, .load 1 false (.t 51), none, [4]⟩,
  ⟨some 53, .load 10 true (.t 5), none, [5]⟩,
  ⟨some 54, .call 31 [.t 50, .t 52, .t 53], none, []⟩,
  ⟨some 49, .mv (.t 54), none, []⟩,
  ⟨some 55, .ext (.t 49) 0, none, []⟩,
  ⟨some 56, .ext (.t 49) 1, none, []⟩,
  ⟨some 10, .mv (.t 55), none, []⟩,
  ⟨some 11, .mv (.t 56), none, []⟩] [10, 11]
def c11_19 : ACode := .ops [⟨some 57, .mv (.t 11), none, []⟩,
  ⟨some 58, .mv (.t 57), none, []⟩,
  ⟨some 59, .mv (.t 10), some (58, true), []⟩,
  ⟨some 60, .bin .gtr (.t 59) (.c (.int .i64 0)), some (58, true), []⟩,
  ⟨some 61, .pick (.t 58) (.t 60) (.c (.bool false)), none, []⟩,
  ⟨some 6, .mv (.t 61), none, []⟩] [6]
def c11_20 : ACode := .seq c11_19 .ret
def c11_21 : ACode := .seq c11_18 c11_20
def c11_22 : ACode := .cond (.t 47) c11_21 .skip
def c11_23 : ACode := .seq c11_17 c11_22
def c11_24 : ACode := .cond (.t 23) c11_16 c11_23
def c11_25 : ACode := .seq c11_12 c11_24
def c11_26 : ACode := .block 0 c11_25
def c11_27 : ACode := .seq c11_11 c11_26
def c11_28 : ACode := .ops [⟨some 62, .load 17 true (.t 4), none, [4]⟩,
  ⟨some 63, .load 10 true (.t 5), none, [5]⟩,
  ⟨some 64, .call 32 [.t 62, .t 63], none, []⟩,
  ⟨some 65, .un .not (.t 64), none, []⟩] [3, 4, 5, 65]
def c11_29 : ACode := .ops [⟨some 6, .mv (.c (.bool true)), none, []⟩] [6]
def c11_30 : ACode := .seq c11_29 .ret
def c11_31 : ACode := .cond (.t 65) c11_30 .skip
def c11_32 : ACode := .seq c11_28 c11_31
def c11_33 : ACode := .ops [⟨some 67, .load 6 true (.t 3), none, [3]⟩,
  ⟨some 68, .load 17 true (.t 4), none, [4]⟩,
  ⟨some 69, .load 10 true (.t 5), none, [5]⟩,
  ⟨some 70, .call 33 [.t 67, .t 68, .t 69], none, []⟩,
  ⟨some 66, .mv (.t 70), none, []⟩,
  ⟨some 71, .ext (.t 66) 0, none, []⟩,
  ⟨some 72, .ext (.t 66) 1, none, []⟩,
  ⟨some 73, .ext (.t 66) 2, none, []⟩,
  ⟨some 12, .mv (.t 71), none, []⟩,
  ⟨some 13, .mv (.t 72), none, []⟩,
  ⟨some 14, .mv (.t 73), none, []⟩] [4, 12, 13, 14]
def c11_34 : ACode := .ops [⟨some 74, .fad (.t 4) 15, none, [4]⟩,
  ⟨some 75, .load 1 false (.t 74), none, [4]⟩] [12, 13, 14, 75]
def c11_35 : ACode := .ops [⟨some 76, .mv (.t 14), none, []⟩,
  ⟨some 77, .mv (.t 76), none, []⟩,
  ⟨some 78, .mv (.t 13), some (77, true), []⟩,
  ⟨some 79, .bin .leq (.t 78) (.c (.int .i64 0)), some (77, true), []⟩,
  ⟨some 80, .pick (.t 77) (.t 79) (.c (.bool false)), none, []⟩,
  ⟨some 6, .mv (.t 80), none, []⟩] [6]
def c11_36 : ACode := .seq c11_35 .ret
def c11_37 : ACode := .cond (.t 75) c11_36 .skip
def c11_38 : ACode := .seq c11_34 c11_37
def c11_39 : ACode := .ops [⟨some 81, .mv (.t 14), none, []⟩,
  ⟨some 82, .mv (.t 81), none, []⟩,
  ⟨some 83, .mv (.t 12), some (82, true), []⟩,
  ⟨some 84, .bin .geq (.t 83) (.c (.int .i64 0)), some (82, true), []⟩,
  ⟨some 85, .pick (.t 82) (.t 84) (.c (.bool false)), none, []⟩,
  ⟨some 6, .mv (.t 85), none, []⟩] [6]
def c11_40 : ACode := .seq c11_39 .ret
def c11_41 : ACode := .seq c11_38 c11_40
def c11_42 : ACode := .seq c11_33 c11_41
def c11_43 : ACode := .seq c11_32 c11_42
def c11_44 : ACode := .seq c11_27 c11_43
def c11_45 : ACode := .seq c11_10 c11_44
def c11_46 : ACode := .seq c11_5 c11_45
def c11_47 : ACode := .seq c11_0 c11_46
def a11 : AFun := ⟨3, 86, c11_47, [.t 6]⟩
theorem m11 : mFun Try.prog Try.f11 a11 = true := by decide +kernel
def c16_0 : ACode := .ops [⟨some 3, .box (.t 0) 6, none, []⟩,
  ⟨some 4, .box (.t 1) 17, none, []⟩,
  ⟨some 5, .box (.t 2) 10, none, []⟩,
  ⟨some 6, .mv (.c (.int .i64 0)), none, []⟩,
  ⟨some 7, .mv (.c (.int .i64 0)), none, []⟩,
  ⟨some 8, .mv (.c (.bool false)), none, []⟩] [3, 4, 5]
theorem r16_0 : type_of% (@rr _ _ c16_0.eq_1) := rr c16_0.eq_1
def c16_1 : ACode := .ops [⟨some 11, .mv (.c (.int .i64 0)), none, []⟩] [3, 4, 5, 11]
theorem r16_1 : type_of% (@rr _ _ c16_1.eq_1) := rr c16_1.eq_1
def c16_2 : ACode := .ops [⟨some 12, .bin .lss (.t 11) (.c (.int .i64 5)), none, []⟩] [3, 4, 5, 11, 12]
theorem r16_2 : type_of% (@rr _ _ c16_2.eq_1) := rr c16_2.eq_1
def c16_3 : ACode := .cond (.t 12) .skip (.exit 0)
theorem r16_3 : type_of% (@rr _ _ c16_3.eq_1) := rr c16_3.eq_1
def c16_4 : ACode := .ops [⟨some 13, .mv (.t 11), none, []⟩,
  ⟨some 9, .mv (.t 13), none, []⟩] [3, 4, 5, 9, 11]
theorem r16_4 : type_of% (@rr _ _ c16_4.eq_1) := rr c16_4.eq_1
def c16_5 : ACode := .ops [⟨some 14, .load 6 true (.t 3), none, [3]⟩,
  ⟨some 15, .load 17 true (.t 4), none, [4]⟩,
  ⟨some 16, .load 10 true (.t 5), none, [5]⟩,
  ⟨some 17, .mv (.t 9), none, []⟩,
  ⟨some 18, .call 19 [.t 14, .t 15, .t 16, .t 17], none, []⟩,
  ⟨some 10, .mv (.t 18), none, []⟩] [3, 4, 5, 9, 10, 11]
theorem r16_5 : type_of% (@rr _ _ c16_5.eq_1) := rr c16_5.eq_1
def c16_6 : ACode := .ops [⟨some 19, .mv (.t 10), none, []⟩,
  ⟨some 20, .len (.t 19), none, []⟩,
  ⟨some 21, .bin .gtr (.t 20) (.c (.int .i64 0)), none, []⟩] [3, 4, 5, 9, 10, 11, 21]
theorem r16_6 : type_of% (@rr _ _ c16_6.eq_1) := rr c16_6.eq_1
def c16_7 : ACode := .ops [⟨some 22, .mv (.t 9), none, []⟩,
  ⟨some 23, .mv (.t 10), none, []⟩,
  ⟨some 24, .mv (.t 10), none, []⟩,
  ⟨some 25, .len (.t 24), none, []⟩,
  ⟨some 26, .bin .sub (.t 25) (.c (.int .i64 1)), none, []⟩,
  ⟨some 27, .bin .quo (.t 26) (.c (.int .i64 2)), none, []⟩,
  ⟨some 28, .ias (.t 23) (.t 27) 1, none, []⟩,
  ⟨some 29, .load 1 false (.t 28), none, []⟩,
  ⟨some 6, .mv (.t 22), none, []⟩,
  ⟨some 7, .mv (.t 29), none, []⟩,
  ⟨some 8, .mv (.c (.bool true)), none, []⟩] [6, 7, 8]
theorem r16_7 : type_of% (@rr _ _ c16_7.eq_1) := rr c16_7.eq_1
def c16_8 : ACode := .seq c16_7 .ret
theorem r16_8 : type_of% (@rr _ _ c16_8.eq_1) := rr c16_8.eq_1
def c16_9 : ACode := .cond (.t 21) c16_8 .skip
theorem r16_9 : type_of% (@rr _ _ c16_9.eq_1) := rr c16_9.eq_1
def c16_10 : ACode := .seq c16_6 c16_9
theorem r16_10 : type_of% (@rr _ _ c16_10.eq_1) := rr c16_10.eq_1
def c16_11 : ACode := .seq c16_5 c16_10
theorem r16_11 : type_of% (@rr _ _ c16_11.eq_1) := rr c16_11.eq_1
def c16_12 : ACode := .seq c16_4 c16_11
theorem r16_12 : type_of% (@rr _ _ c16_12.eq_1) := rr c16_12.eq_1
def c16_13 : ACode := .block 1 c16_12
theorem r16_13 : type_of% (@rr _ _ c16_13.eq_1) := rr c16_13.eq_1
def c16_14 : ACode := .ops [⟨some 30, .bin .add (.t 11) (.c (.int .i64 1)), none, []⟩,
  ⟨some 11, .mv (.t 30), none, []⟩] [3, 4, 5, 11]
theorem r16_14 : type_of% (@rr _ _ c16_14.eq_1) := rr c16_14.eq_1
def c16_15 : ACode := .seq c16_13 c16_14
theorem r16_15 : type_of% (@rr _ _ c16_15.eq_1) := rr c16_15.eq_1
def c16_16 : ACode := .seq c16_3 c16_15
theorem r16_16 : type_of% (@rr _ _ c16_16.eq_1) := rr c16_16.eq_1
def c16_17 : ACode := .seq c16_2 c16_16
theorem r16_17 : type_of% (@rr _ _ c16_17.eq_1) := rr c16_17.eq_1
def c16_18 : ACode := .keep [3, 4, 5, 11] [3, 4, 5] c16_17
theorem r16_18 : type_of% (@rr _ _ c16_18.eq_1) := rr c16_18.eq_1
def c16_19 : ACode := .loop c16_18
theorem r16_19 : type_of% (@rr _ _ c16_19.eq_1) := rr c16_19.eq_1
def c16_20 : ACode := .block 0 c16_19
theorem r16_20 : type_of% (@rr _ _ c16_20.eq_1) := rr c16_20.eq_1
def c16_21 : ACode := .seq c16_1 c16_20
theorem r16_21 : type_of% (@rr _ _ c16_21.eq_1) := rr c16_21.eq_1
def c16_22 : ACode := .ops [⟨some 6, .mv (.c (.int .i64 0)), none, []⟩,
  ⟨some 7, .mv (.c (.int .i64 0)), none, []⟩,
  ⟨some 8, .mv (.c (.bool false)), none, []⟩] [6, 7, 8]
theorem r16_22 : type_of% (@rr _ _ c16_22.eq_1) := rr c16_22.eq_1
def c16_23 : ACode := .seq c16_22 .ret
theorem r16_23 : type_of% (@rr _ _ c16_23.eq_1) := rr c16_23.eq_1
def c16_24 : ACode := .seq c16_21 c16_23
theorem r16_24 : type_of% (@rr _ _ c16_24.eq_1) := rr c16_24.eq_1
def c16_25 : ACode := .seq c16_0 c16_24
theorem r16_25 : type_of% (@rr _ _ c16_25.eq_1) := rr c16_25.eq_1
def a16 : AFun := ⟨3, 31, c16_25, [.t 6, .t 7, .t 8]⟩
attribute [simp] r16_0 r16_1 r16_2 r16_3 r16_4 r16_5 r16_6 r16_7 r16_8 r16_9 r16_10 r16_11 r16_12 r16_13 r16_14 r16_15 r16_16 r16_17 r16_18 r16_19 r16_20 r16_21 r16_22 r16_23 r16_24 r16_25
theorem m16 : mFun Try.prog Try.f16 a16 = true := by decide +kernel
def c17_0 : ACode := .ops [⟨some 1, .box (.t 0) 10, none, []⟩,
  ⟨some 2, .alloc [.int .i64 0, .int .i64 0, .int .i64 0, .int .i64 0], none, []⟩,
  ⟨some 3, .mv (.c (.int .i64 0)), none, []⟩] [1, 2]
def c17_1 : ACode := .ops [⟨some 4, .load 10 true (.t 1), none, [1]⟩,
  ⟨some 5, .call 37 [.t 4], none, []⟩,
  ⟨some 6, .iad (.t 1) (.c (.int .i64 4)) 2 5, none, [1]⟩,
  ⟨some 7, .fad (.t 6) 1, none, [1]⟩,
  ⟨some 8, .load 1 false (.t 7), none, [1]⟩,
  ⟨none, .store (.t 2) 4 (.t 5), none, [2]⟩,
  ⟨some 3, .mv (.t 8), none, []⟩] [2, 3]
def c17_2 : ACode := .seq c17_1 .ret
def c17_3 : ACode := .seq c17_0 c17_2
def a17 : AFun := ⟨1, 9, c17_3, [.cell 2 4 true, .t 3]⟩
theorem m17 : mFun Try.prog Try.f17 a17 = true := by decide +kernel
/-! ### points of one cell -/
/-! ### closed boxes -/
def ahead (m : Model) (c : Int) (b : Box) : Prop := ∀ o : Int, 0 ≤ o → o < m.classes → o ≠ c → 0 < marD m c b o
/-! ### where a box is cut -/
def midL (l : List Int) : Int := l.getD ((l.length - 1) / 2) 0
def splitFrom (m : Model) (q : Query) (b : Box) : List Int → Tri Int Int Bool
  | [] => ⟨0, 0, false⟩
  | k :: ks => if cutsL m q b k = [] then splitFrom m q b ks else ⟨k, midL (cutsL m q b k), true⟩
def splitM (m : Model) (q : Query) (b : Box) : Tri Int Int Bool := splitFrom m q b [0, 1, 2, 3, 4]
theorem splitFrom_spec (m : Model) (q : Query) (b : Box) : ∀ (ks : List Int), ((splitFrom m q b ks).c = false ∧ splitFrom m q b ks = ⟨0, 0, false⟩ ∧ ∀ k ∈ ks, cutsL m q b k = []) ∨
    ∃ (l r : List Int) (k : Int), ks = l ++ k :: r ∧ cutsL m q b k ≠ [] ∧ (∀ i ∈ l, cutsL m q b i = []) ∧ splitFrom m q b ks = ⟨k, midL (cutsL m q b k), true⟩
  | [] => .inl ⟨rfl, rfl, fun k hk => by simp at hk⟩
  | k :: ks => by
    unfold splitFrom
    by_cases h : cutsL m q b k = []
    · rw [if_pos h]
      rcases splitFrom_spec m q b ks with ⟨h1, h2, h3⟩ | ⟨l, r, j, h1, h2, h3, h4⟩
      · exact .inl ⟨h1, h2, fun i hi => by
          rcases List.mem_cons.1 hi with rfl | hi
          · exact h
          · exact h3 i hi⟩
      · exact .inr ⟨k :: l, r, j, by rw [h1]; rfl, h2, fun i hi => by
          rcases List.mem_cons.1 hi with rfl | hi
          · exact h
          · exact h3 i hi, h4⟩
    · rw [if_neg h]
      exact .inr ⟨[], ks, k, rfl, h, fun i hi => by simp at hi, rfl⟩
noncomputable def SplitC (m : Model) (q : Query) (b : Box) : Option (Tri Int Int Bool) := Part (RM m) (splitM m q b)
set_option maxHeartbeats 4000000 in
set_option maxRecDepth 8000 in
theorem runs_Split (m : Model) (q : Query) (b : Box) (r : Tri Int Int Bool) (h : SplitC m q b = some r) : Runs (tbl [(19, sp4 CutsC)]) a16 [Arg.enc m, Arg.enc q, Arg.enc b] (Arg.enc r) := by
  obtain ⟨hm, rfl⟩ := part_some h
  clear h
  refine ⟨rfl, fun g => run_def ?_⟩
  unfold a16 splitM
  have hK : ∀ i : Int, 0 ≤ i → i ≤ 4 → CutsC m q b i = some (cutsL m q b i) := fun i i0 i5 => part_of ⟨hm, .inr ⟨i0, i5⟩⟩ _
  have hL : ∀ i, (cutsL m q b i).length ≤ 248 := fun i => by rw [cutsL_len]; exact cutN_le hm q b i
  have fin : ∀ (l : List Int), l.length ≤ 248 → l ≠ [] → 0 < l.length ∧ l.length ≤ maxN ∧ IntKind.i64.wrap ((l.length : Int) - 1) = ((l.length - 1 : Nat) : Int) ∧ ∃ x : Nat, IntKind.i64.wrap (((l.length - 1 : Nat) : Int) / 2) = (x : Int) ∧ x < l.length ∧ rd (encL l) x 1 false = some (.int .i64 (midL l)) := by
    intro l hl hne
    have hp : 0 < l.length := List.length_pos_iff.2 hne
    have hlt : (l.length - 1) / 2 < l.length := by omega
    refine ⟨by omega, by unfold maxN; omega, ?_, (l.length - 1) / 2, ?_, hlt, ?_⟩
    · rw [show (l.length : Int) - 1 = ((l.length - 1 : Nat) : Int) by omega]
      exact wrap64 (by omega) (by omega)
    · rw [show ((l.length - 1 : Nat) : Int) / 2 = (((l.length - 1) / 2 : Nat) : Int) by omega]
      exact wrap64 (by omega) (by omega)
    · rw [rd_ints l _ hlt]
      unfold midL
      simp [hlt]
  have K0 := hK 0 (by omega) (by omega)
  have K1 := hK 1 (by omega) (by omega)
  have K2 := hK 2 (by omega) (by omega)
  have K3 := hK 3 (by omega) (by omega)
  have K4 := hK 4 (by omega) (by omega)
  have L0 := fin _ (hL 0)
  have L1 := fin _ (hL 1)
  have L2 := fin _ (hL 2)
  have L3 := fin _ (hL 3)
  have L4 := fin _ (hL 4)
  clear hK hL fin
  unfold splitFrom splitFrom splitFrom splitFrom splitFrom splitFrom
  generalize cutsL m q b 0 = l0 at *
  generalize cutsL m q b 1 = l1 at *
  generalize cutsL m q b 2 = l2 at *
  generalize cutsL m q b 3 = l3 at *
  generalize cutsL m q b 4 = l4 at *
  by_cases h0 : l0 = []
  case neg =>
    obtain ⟨a1, a2, a3, x, a4, a5, a6⟩ := L0 h0
    simp -implicitDefEqProofs [run_round, K0, h0, a1, a2, a3, a4, a5, a6, encL_nil]
  subst h0
  by_cases h1 : l1 = []
  case neg =>
    obtain ⟨a1, a2, a3, x, a4, a5, a6⟩ := L1 h1
    simp -implicitDefEqProofs [run_round, K0, K1, h1, a1, a2, a3, a4, a5, a6, encL_nil]
  subst h1
  by_cases h2 : l2 = []
  case neg =>
    obtain ⟨a1, a2, a3, x, a4, a5, a6⟩ := L2 h2
    simp -implicitDefEqProofs [run_round, K0, K1, K2, h2, a1, a2, a3, a4, a5, a6, encL_nil]
  subst h2
  by_cases h3 : l3 = []
  case neg =>
    obtain ⟨a1, a2, a3, x, a4, a5, a6⟩ := L3 h3
    simp -implicitDefEqProofs [run_round, K0, K1, K2, K3, h3, a1, a2, a3, a4, a5, a6, encL_nil]
  subst h3
  by_cases h4 : l4 = []
  case neg =>
    obtain ⟨a1, a2, a3, x, a4, a5, a6⟩ := L4 h4
    simp -implicitDefEqProofs [run_round, K0, K1, K2, K3, K4, h4, a1, a2, a3, a4, a5, a6, encL_nil]
  subst h4
  simp -implicitDefEqProofs [run_round, K0, K1, K2, K3, K4, encL_nil]
theorem c_Split : Contract Try.prog 16 (sp3 SplitC) :=
  contract_of_runs mixed (tbl_cons c_Cuts tbl_nil) Try.func16 m16 (sp3_runs runs_Split)
end Go.Co
