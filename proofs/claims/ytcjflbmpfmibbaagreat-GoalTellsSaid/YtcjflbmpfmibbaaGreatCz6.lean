/- CO: texts of this claim, one behind the other. -/
import Derived.Test.YtcjflbmpfmibbaaGreatCz1
import Derived.Test.YtcjflbmpfmibbaaGreatCz5
/- CO: maps of numbers as lists of pairs. -/
namespace Go.Co
open Go.Am
def flatA : List (Int × Int) → List AV
  | [] => []
  | (k, v) :: l => .int .i64 k :: .int .i64 v :: flatA l
def getA (n : Int) : List (Int × Int) → Int
  | [] => 0
  | (k, v) :: l => if n = k then v else getA n l
def setA (n v : Int) : List (Int × Int) → List (Int × Int)
  | [] => [(n, v)]
  | (k, u) :: l => if n = k then (k, v) :: l else (k, u) :: setA n v l
theorem getA_setA (n v j : Int) : ∀ l, getA j (setA n v l) = if j = n then v else getA j l
  | [] => by simp [setA, getA]
  | (k, u) :: l => by
    unfold setA
    by_cases h : n = k
    · rw [if_pos h]
      subst h
      unfold getA
      by_cases hj : j = n <;> simp [hj]
    · rw [if_neg h]
      unfold getA
      by_cases hj : j = k
      · subst hj
        rw [if_pos rfl, if_neg (Ne.symm h), if_pos rfl]
      · rw [if_neg hj, if_neg hj, getA_setA n v j l]
theorem mfind_flat (n : Int) : ∀ (l : List (Int × Int)) (i : Nat), (∃ j v, mfind n (flatA l) i = some (i + j, .int .i64 v) ∧ getA n l = v ∧ (∀ u, wr (flatA l) (2 * j + 1) [.int .i64 u] = flatA (setA n u l))) ∨ (mfind n (flatA l) i = none ∧ getA n l = 0 ∧ ∀ u, flatA l ++ [.int .i64 n, .int .i64 u] = flatA (setA n u l))
  | [], i => .inr ⟨rfl, rfl, fun _ => rfl⟩
  | (k, v) :: l, i => by
    unfold flatA mfind getA setA
    by_cases h : n = k
    · refine .inl ⟨0, v, by simp [h], by simp [h], fun u => ?_⟩
      rw [if_pos h]
      simp [wr, flatA]
    · rw [if_neg h, if_neg h]
      rcases mfind_flat n l (i + 1) with ⟨j, w, h1, h2, h3⟩ | ⟨h1, h2, h3⟩
      · refine .inl ⟨j + 1, w, by rw [h1]; congr 2; omega, h2, fun u => ?_⟩
        rw [if_neg h]
        have e2 : 2 * (j + 1) + 1 = (2 * j + 1) + 1 + 1 := by omega
        unfold wr
        simp only [e2, List.take_succ_cons, List.cons_append, List.length_cons, List.length_nil, Nat.zero_add]
        rw [show 2 * j + 1 + 1 + 1 + 1 = (2 * j + 1 + 1) + 1 + 1 by omega, List.drop_succ_cons, List.drop_succ_cons]
        have := h3 u
        unfold wr at this
        simp only [List.length_cons, List.length_nil, Nat.zero_add] at this
        rw [this]
      · refine .inr ⟨h1, h2, fun u => ?_⟩
        rw [if_neg h]
        simp only [List.cons_append, h3 u]
@[simp] theorem mget_flat (n : Int) (l : List (Int × Int)) : mgetV n (flatA l) (.int .i64 0) = .int .i64 (getA n l) := by
  unfold mgetV
  rcases mfind_flat n l 0 with ⟨j, v, h1, h2, _⟩ | ⟨h1, h2, _⟩
  · rw [h1, h2]
  · rw [h1, h2]
@[simp] theorem mput_flat (n v : Int) (l : List (Int × Int)) : mputV n (flatA l) (.int .i64 v) = flatA (setA n v l) := by
  unfold mputV
  rcases mfind_flat n l 0 with ⟨j, w, h1, _, h3⟩ | ⟨h1, _, h3⟩
  · rw [h1]
    simp only [Nat.zero_add]
    exact h3 v
  · rw [h1]
    exact h3 v
@[simp] theorem isIt_nil : isIt [] = false := rfl
@[simp] theorem isIt_flat (l : List (Int × Int)) : isIt (flatA l) = false := by
  cases l with
  | nil => rfl
  | cons p l => obtain ⟨k, v⟩ := p; rfl
/-! ### sets of numbers: maps to true -/
def flatB : List Int → List AV
  | [] => []
  | k :: l => .int .i64 k :: .bool true :: flatB l
def insB (n : Int) (l : List Int) : List Int := if n ∈ l then l else l ++ [n]
@[simp] theorem isIt_flatB (l : List Int) : isIt (flatB l) = false := by cases l <;> rfl
@[simp] theorem flatB_len (l : List Int) : (flatB l).length = 2 * l.length := by
  induction l with
  | nil => rfl
  | cons k l ih => simp only [flatB, List.length_cons, ih]; omega
theorem flatB_append (l : List Int) (n : Int) : flatB (l ++ [n]) = flatB l ++ [.int .i64 n, .bool true] := by
  induction l with
  | nil => rfl
  | cons k l ih => simp only [List.cons_append, flatB, ih]
theorem flatB_get (l : List Int) : ∀ (i : Nat) (h : i < l.length), (flatB l)[2 * i]? = some (.int .i64 l[i]) ∧ (flatB l)[2 * i + 1]? = some (.bool true) := by
  induction l with
  | nil => intro i h; simp at h
  | cons k l ih =>
    intro i h
    cases i with
    | zero => exact ⟨rfl, rfl⟩
    | succ i =>
      have := ih i (by simpa using h)
      rw [show 2 * (i + 1) = 2 * i + 1 + 1 by omega]
      simpa [flatB] using this
theorem mfind_flatB (n : Int) : ∀ (l : List Int) (i : Nat), (n ∈ l ∧ ∃ j, mfind n (flatB l) i = some (i + j, .bool true) ∧ wr (flatB l) (2 * j + 1) [.bool true] = flatB l) ∨ (n ∉ l ∧ mfind n (flatB l) i = none)
  | [], i => .inr ⟨by simp, rfl⟩
  | k :: l, i => by
    unfold flatB mfind
    by_cases h : n = k
    · refine .inl ⟨by simp [h], 0, by simp [h], ?_⟩
      simp [wr]
    · rw [if_neg h]
      rcases mfind_flatB n l (i + 1) with ⟨h0, j, h1, h2⟩ | ⟨h0, h1⟩
      · refine .inl ⟨by simp [h0], j + 1, by rw [h1]; congr 2; omega, ?_⟩
        have e2 : 2 * (j + 1) + 1 = (2 * j + 1) + 1 + 1 := by omega
        unfold wr
        simp only [e2, List.take_succ_cons, List.cons_append, List.length_cons, List.length_nil, Nat.zero_add]
        rw [show 2 * j + 1 + 1 + 1 + 1 = (2 * j + 1 + 1) + 1 + 1 by omega, List.drop_succ_cons, List.drop_succ_cons]
        unfold wr at h2
        simp only [List.length_cons, List.length_nil, Nat.zero_add] at h2
        rw [h2]
      · exact .inr ⟨by simp [h, h0], h1⟩
@[simp] theorem mput_flatB (n : Int) (l : List Int) : mputV n (flatB l) (.bool true) = flatB (insB n l) := by
  unfold mputV insB
  rcases mfind_flatB n l 0 with ⟨h0, j, h1, h2⟩ | ⟨h0, h1⟩
  · rw [h1, if_pos h0]
    simp only [Nat.zero_add]
    exact h2
  · rw [h1, if_neg h0, flatB_append]
end Go.Co
/- CO: the document's own answers: trees and models. -/
namespace Go.Co
open Go.Am Go.Proofs
set_option linter.unusedSimpArgs false
set_option linter.unusedVariables false
def c82_0 : ACode := .ops [⟨some 4, .mv (.c (.bool false)), none, []⟩] [0, 1]
theorem r82_0 : type_of% (@rr _ _ c82_0.eq_1) := rr c82_0.eq_1
def c82_1 : ACode := .ops [⟨some 11, .mv (.t 0), none, []⟩,
  ⟨some 12, .len (.t 11), none, []⟩,
  ⟨some 13, .bin .lss (.t 12) (.c (.int .i64 1)), none, []⟩,
  ⟨some 14, .mv (.t 13), none, []⟩,
  ⟨some 15, .mv (.t 0), some (14, false), []⟩,
  ⟨some 16, .len (.t 15), some (14, false), []⟩,
  ⟨some 17, .bin .gtr (.t 16) (.c (.int .i64 31)), some (14, false), []⟩,
  ⟨some 18, .pick (.t 14) (.c (.bool true)) (.t 17), none, []⟩] [0, 1, 18]
theorem r82_1 : type_of% (@rr _ _ c82_1.eq_1) := rr c82_1.eq_1
def c82_2 : ACode := .ops [⟨some 4, .mv (.c (.bool false)), none, []⟩] [4]
theorem r82_2 : type_of% (@rr _ _ c82_2.eq_1) := rr c82_2.eq_1
def c82_3 : ACode := .seq c82_2 .ret
theorem r82_3 : type_of% (@rr _ _ c82_3.eq_1) := rr c82_3.eq_1
def c82_4 : ACode := .cond (.t 18) c82_3 .skip
theorem r82_4 : type_of% (@rr _ _ c82_4.eq_1) := rr c82_4.eq_1
def c82_5 : ACode := .seq c82_1 c82_4
theorem r82_5 : type_of% (@rr _ _ c82_5.eq_1) := rr c82_5.eq_1
def c82_6 : ACode := .ops [⟨some 19, .mkmap, none, []⟩,
  ⟨some 5, .mv (.t 19), none, []⟩] [0, 1, 5]
theorem r82_6 : type_of% (@rr _ _ c82_6.eq_1) := rr c82_6.eq_1
def c82_7 : ACode := .ops [⟨some 20, .mv (.t 0), none, []⟩,
  ⟨some 21, .len (.t 20), none, []⟩,
  ⟨some 22, .mv (.c (.int .i64 0)), none, []⟩] [0, 1, 5, 20, 21, 22]
theorem r82_7 : type_of% (@rr _ _ c82_7.eq_1) := rr c82_7.eq_1
def c82_8 : ACode := .ops [⟨some 23, .bin .lss (.t 22) (.t 21), none, []⟩] [0, 1, 5, 20, 21, 22, 23]
theorem r82_8 : type_of% (@rr _ _ c82_8.eq_1) := rr c82_8.eq_1
def c82_9 : ACode := .cond (.t 23) .skip (.exit 0)
theorem r82_9 : type_of% (@rr _ _ c82_9.eq_1) := rr c82_9.eq_1
def c82_10 : ACode := .ops [⟨some 24, .mv (.t 22), none, []⟩,
  ⟨some 25, .ias (.t 20) (.t 22) 1, none, []⟩,
  ⟨some 26, .load 1 false (.t 25), none, []⟩,
  ⟨some 6, .mv (.t 24), none, []⟩,
  ⟨some 7, .mv (.t 26), none, []⟩] [0, 1, 5, 6, 7, 20, 21, 22]
theorem r82_10 : type_of% (@rr _ _ c82_10.eq_1) := rr c82_10.eq_1
def c82_11 : ACode := .ops [⟨some 28, .mv (.t 7), none, []⟩,
  ⟨some 29, .call 68 [.t 28], none, []⟩,
  ⟨some 27, .mv (.t 29), none, []⟩,
  ⟨some 30, .ext (.t 27) 0, none, []⟩,
  ⟨some 31, .ext (.t 27) 1, none, []⟩,
  ⟨some 8, .alloc [.bool false, .int .i64 0, .int .i64 0, .int .i64 0, .int .i64 0, .int .i64 0], none, []⟩,
  ⟨none, .store (.t 8) 6 (.t 30), none, [8]⟩,
  ⟨some 9, .mv (.t 31), none, []⟩] [0, 1, 5, 6, 8, 9, 20, 21, 22]
theorem r82_11 : type_of% (@rr _ _ c82_11.eq_1) := rr c82_11.eq_1
def c82_12 : ACode := .ops [⟨some 32, .mv (.t 9), none, []⟩,
  ⟨some 33, .un .not (.t 32), none, []⟩] [0, 1, 5, 6, 8, 20, 21, 22, 33]
theorem r82_12 : type_of% (@rr _ _ c82_12.eq_1) := rr c82_12.eq_1
def c82_13 : ACode := .ops [⟨some 4, .mv (.c (.bool false)), none, []⟩] [4]
theorem r82_13 : type_of% (@rr _ _ c82_13.eq_1) := rr c82_13.eq_1
def c82_14 : ACode := .seq c82_13 .ret
theorem r82_14 : type_of% (@rr _ _ c82_14.eq_1) := rr c82_14.eq_1
def c82_15 : ACode := .cond (.t 33) c82_14 .skip
theorem r82_15 : type_of% (@rr _ _ c82_15.eq_1) := rr c82_15.eq_1
def c82_16 : ACode := .seq c82_12 c82_15
theorem r82_16 : type_of% (@rr _ _ c82_16.eq_1) := rr c82_16.eq_1
def c82_17 : ACode := .ops [⟨some 34, .fad (.t 8) 0, none, [8]⟩,
  ⟨some 35, .load 1 false (.t 34), none, [8]⟩] [0, 1, 5, 6, 8, 20, 21, 22, 35]
theorem r82_17 : type_of% (@rr _ _ c82_17.eq_1) := rr c82_17.eq_1
def c82_18 : ACode := .cond (.t 35) (.exit 1) .skip
theorem r82_18 : type_of% (@rr _ _ c82_18.eq_1) := rr c82_18.eq_1
def c82_19 : ACode := .seq c82_17 c82_18
theorem r82_19 : type_of% (@rr _ _ c82_19.eq_1) := rr c82_19.eq_1
def c82_20 : ACode := .ops [⟨some 36, .fad (.t 8) 2, none, [8]⟩,
  ⟨some 37, .load 1 false (.t 36), none, [8]⟩,
  ⟨some 38, .mv (.t 1), none, []⟩,
  ⟨some 39, .bin .geq (.t 37) (.t 38), none, []⟩,
  ⟨some 40, .mv (.t 39), none, []⟩,
  ⟨some 41, .fad (.t 8) 4, some (40, false), [8]⟩,
  ⟨some 42, .load 1 false (.t 41), some (40, false), [8]⟩,
  ⟨some 43, .mv (.t 6), some (40, false), []⟩,
  ⟨some 44, .bin .leq (.t 42) (.t 43), some (40, false), []⟩,
  ⟨some 45, .pick (.t 40) (.c (.bool true)) (.t 44), none, []⟩,
  ⟨some 46, .mv (.t 45), none, []⟩,
  ⟨some 47, .fad (.t 8) 5, some (46, false), [8]⟩,
  ⟨some 48, .load 1 false (.t 47), some (46, false), [8]⟩,
  ⟨some 49, .mv (.t 6), some (46, false), []⟩,
  ⟨some 50, .bin .leq (.t 48) (.t 49), some (46, false), []⟩,
  ⟨some 51, .pick (.t 46) (.c (.bool true)) (.t 50), none, []⟩,
  ⟨some 52, .mv (.t 51), none, []⟩,
  ⟨some 53, .fad (.t 8) 4, some (52, false), [8]⟩,
  ⟨some 54, .load 1 false (.t 53), some (52, false), [8]⟩,
  ⟨some 55, .mv (.t 0), some (52, false), []⟩,
  ⟨some 56, .len (.t 55), some (52, false), []⟩,
  ⟨some 57, .bin .geq (.t 54) (.t 56), some (52, false), []⟩,
  ⟨some 58, .pick (.t 52) (.c (.bool true)) (.t 57), none, []⟩,
  ⟨some 59, .mv (.t 58), none, []⟩,
  ⟨some 60, .fad (.t 8) 5, some (59, false), [8]⟩,
  ⟨some 61, .load 1 false (.t 60), some (59, false), [8]⟩,
  ⟨some 62, .mv (.t 0), some (59, false), []⟩,
  ⟨some 63, .len (.t 62), some (59, false), []⟩,
  ⟨some 64, .bin .geq (.t 61) (.t 63), some (59, false), []⟩,
  ⟨some 65, .pick (.t 59) (.c (.bool true)) (.t 64), none, []⟩,
  ⟨some 66, .mv (.t 65), none, []⟩,
  ⟨some 67, .fad (.t 8) 4, some (66, false), [8]⟩,
  ⟨some 68, .load 1 false (.t 67), some (66, false), [8]⟩,
  ⟨some 69, .fad (.t 8) 5, some (66, false), [8]⟩,
  ⟨some 70, .load 1 false (.t 69), some (66, false), [8]⟩,
  ⟨some 71, .bin .eql (.t 68) (.t 70), some (66, false), []⟩,
  ⟨some 72, .pick (.t 66) (.c (.bool true)) (.t 71), none, []⟩] [0, 1, 5, 8, 20, 21, 22, 72]
theorem r82_20 : type_of% (@rr _ _ c82_20.eq_1) := rr c82_20.eq_1
def c82_21 : ACode := .ops [⟨some 4, .mv (.c (.bool false)), none, []⟩] [4]
theorem r82_21 : type_of% (@rr _ _ c82_21.eq_1) := rr c82_21.eq_1
def c82_22 : ACode := .seq c82_21 .ret
theorem r82_22 : type_of% (@rr _ _ c82_22.eq_1) := rr c82_22.eq_1
def c82_23 : ACode := .cond (.t 72) c82_22 .skip
theorem r82_23 : type_of% (@rr _ _ c82_23.eq_1) := rr c82_23.eq_1
def c82_24 : ACode := .seq c82_20 c82_23
theorem r82_24 : type_of% (@rr _ _ c82_24.eq_1) := rr c82_24.eq_1
def c82_25 : ACode := .ops [⟨some 73, .mv (.t 5), none, []⟩,
  ⟨some 74, .fad (.t 8) 4, none, [8]⟩,
  ⟨some 75, .load 1 false (.t 74), none, [8]⟩,
  ⟨some 76, .mget (.t 73) (.t 75) (.int .i64 0), none, [19]⟩,
  ⟨some 77, .bin .add (.t 76) (.c (.int .i64 1)), none, []⟩,
  ⟨none, .mupd (.t 73) (.t 75) (.t 77), none, [19]⟩] [0, 1, 5, 8, 20, 21, 22]
theorem r82_25 : type_of% (@rr _ _ c82_25.eq_1) := rr c82_25.eq_1
def c82_26 : ACode := .ops [⟨some 78, .mv (.t 5), none, []⟩,
  ⟨some 79, .fad (.t 8) 5, none, [8]⟩,
  ⟨some 80, .load 1 false (.t 79), none, [8]⟩,
  ⟨some 81, .mget (.t 78) (.t 80) (.int .i64 0), none, [19]⟩,
  ⟨some 82, .bin .add (.t 81) (.c (.int .i64 1)), none, []⟩,
  ⟨none, .mupd (.t 78) (.t 80) (.t 82), none, [19]⟩] [0, 1, 5, 20, 21, 22]
theorem r82_26 : type_of% (@rr _ _ c82_26.eq_1) := rr c82_26.eq_1
def c82_27 : ACode := .seq c82_25 c82_26
theorem r82_27 : type_of% (@rr _ _ c82_27.eq_1) := rr c82_27.eq_1
def c82_28 : ACode := .seq c82_24 c82_27
theorem r82_28 : type_of% (@rr _ _ c82_28.eq_1) := rr c82_28.eq_1
def c82_29 : ACode := .seq c82_19 c82_28
theorem r82_29 : type_of% (@rr _ _ c82_29.eq_1) := rr c82_29.eq_1
def c82_30 : ACode := .seq c82_16 c82_29
theorem r82_30 : type_of% (@rr _ _ c82_30.eq_1) := rr c82_30.eq_1
def c82_31 : ACode := .seq c82_11 c82_30
theorem r82_31 : type_of% (@rr _ _ c82_31.eq_1) := rr c82_31.eq_1
def c82_32 : ACode := .seq c82_10 c82_31
theorem r82_32 : type_of% (@rr _ _ c82_32.eq_1) := rr c82_32.eq_1
def c82_33 : ACode := .block 1 c82_32
theorem r82_33 : type_of% (@rr _ _ c82_33.eq_1) := rr c82_33.eq_1
def c82_34 : ACode := .ops [⟨some 83, .bin .add (.t 22) (.c (.int .i64 1)), none, []⟩,
  ⟨some 22, .mv (.t 83), none, []⟩] [0, 1, 5, 20, 21, 22]
theorem r82_34 : type_of% (@rr _ _ c82_34.eq_1) := rr c82_34.eq_1
def c82_35 : ACode := .seq c82_33 c82_34
theorem r82_35 : type_of% (@rr _ _ c82_35.eq_1) := rr c82_35.eq_1
def c82_36 : ACode := .seq c82_9 c82_35
theorem r82_36 : type_of% (@rr _ _ c82_36.eq_1) := rr c82_36.eq_1
def c82_37 : ACode := .seq c82_8 c82_36
theorem r82_37 : type_of% (@rr _ _ c82_37.eq_1) := rr c82_37.eq_1
def c82_38 : ACode := .keep [0, 1, 5, 20, 21, 22] [19] c82_37
theorem r82_38 : type_of% (@rr _ _ c82_38.eq_1) := rr c82_38.eq_1
def c82_39 : ACode := .loop c82_38
theorem r82_39 : type_of% (@rr _ _ c82_39.eq_1) := rr c82_39.eq_1
def c82_40 : ACode := .block 0 c82_39
theorem r82_40 : type_of% (@rr _ _ c82_40.eq_1) := rr c82_40.eq_1
def c82_41 : ACode := .seq c82_7 c82_40
theorem r82_41 : type_of% (@rr _ _ c82_41.eq_1) := rr c82_41.eq_1
def c82_42 : ACode := .ops [⟨some 10, .mv (.c (.int .i64 1)), none, []⟩] [0, 5, 10]
theorem r82_42 : type_of% (@rr _ _ c82_42.eq_1) := rr c82_42.eq_1
def c82_43 : ACode := .ops [⟨some 84, .mv (.t 10), none, []⟩,
  ⟨some 85, .mv (.t 0), none, []⟩,
  ⟨some 86, .len (.t 85), none, []⟩,
  ⟨some 87, .bin .lss (.t 84) (.t 86), none, []⟩] [0, 5, 10, 87]
theorem r82_43 : type_of% (@rr _ _ c82_43.eq_1) := rr c82_43.eq_1
def c82_44 : ACode := .cond (.t 87) .skip (.exit 2)
theorem r82_44 : type_of% (@rr _ _ c82_44.eq_1) := rr c82_44.eq_1
def c82_45 : ACode := .seq c82_43 c82_44
theorem r82_45 : type_of% (@rr _ _ c82_45.eq_1) := rr c82_45.eq_1
def c82_46 : ACode := .ops [⟨some 90, .mv (.t 5), none, []⟩,
  ⟨some 91, .mv (.t 10), none, []⟩,
  ⟨some 92, .mget (.t 90) (.t 91) (.int .i64 0), none, [19]⟩,
  ⟨some 93, .bin .neq (.t 92) (.c (.int .i64 1)), none, []⟩] [0, 5, 10, 93]
theorem r82_46 : type_of% (@rr _ _ c82_46.eq_1) := rr c82_46.eq_1
def c82_47 : ACode := .ops [⟨some 4, .mv (.c (.bool false)), none, []⟩] [4]
theorem r82_47 : type_of% (@rr _ _ c82_47.eq_1) := rr c82_47.eq_1
def c82_48 : ACode := .seq c82_47 .ret
theorem r82_48 : type_of% (@rr _ _ c82_48.eq_1) := rr c82_48.eq_1
def c82_49 : ACode := .cond (.t 93) c82_48 .skip
theorem r82_49 : type_of% (@rr _ _ c82_49.eq_1) := rr c82_49.eq_1
def c82_50 : ACode := .seq c82_46 c82_49
theorem r82_50 : type_of% (@rr _ _ c82_50.eq_1) := rr c82_50.eq_1
def c82_51 : ACode := .block 3 c82_50
theorem r82_51 : type_of% (@rr _ _ c82_51.eq_1) := rr c82_51.eq_1
def c82_52 : ACode := .ops [⟨some 88, .mv (.t 10), none, []⟩,
  ⟨some 89, .bin .add (.t 88) (.c (.int .i64 1)), none, []⟩,
  ⟨some 10, .mv (.t 89), none, []⟩] [0, 5, 10]
theorem r82_52 : type_of% (@rr _ _ c82_52.eq_1) := rr c82_52.eq_1
def c82_53 : ACode := .seq c82_51 c82_52
theorem r82_53 : type_of% (@rr _ _ c82_53.eq_1) := rr c82_53.eq_1
def c82_54 : ACode := .seq c82_45 c82_53
theorem r82_54 : type_of% (@rr _ _ c82_54.eq_1) := rr c82_54.eq_1
def c82_55 : ACode := .keep [0, 5, 10] [19] c82_54
theorem r82_55 : type_of% (@rr _ _ c82_55.eq_1) := rr c82_55.eq_1
def c82_56 : ACode := .loop c82_55
theorem r82_56 : type_of% (@rr _ _ c82_56.eq_1) := rr c82_56.eq_1
def c82_57 : ACode := .block 2 c82_56
theorem r82_57 : type_of% (@rr _ _ c82_57.eq_1) := rr c82_57.eq_1
def c82_58 : ACode := .seq c82_42 c82_57
theorem r82_58 : type_of% (@rr _ _ c82_58.eq_1) := rr c82_58.eq_1
def c82_59 : ACode := .ops [⟨some 4, .mv (.c (.bool true)), none, []⟩] [4]
theorem r82_59 : type_of% (@rr _ _ c82_59.eq_1) := rr c82_59.eq_1
def c82_60 : ACode := .seq c82_59 .ret
theorem r82_60 : type_of% (@rr _ _ c82_60.eq_1) := rr c82_60.eq_1
def c82_61 : ACode := .seq c82_58 c82_60
theorem r82_61 : type_of% (@rr _ _ c82_61.eq_1) := rr c82_61.eq_1
def c82_62 : ACode := .seq c82_41 c82_61
theorem r82_62 : type_of% (@rr _ _ c82_62.eq_1) := rr c82_62.eq_1
def c82_63 : ACode := .seq c82_6 c82_62
theorem r82_63 : type_of% (@rr _ _ c82_63.eq_1) := rr c82_63.eq_1
def c82_64 : ACode := .seq c82_5 c82_63
theorem r82_64 : type_of% (@rr _ _ c82_64.eq_1) := rr c82_64.eq_1
def c82_65 : ACode := .seq c82_0 c82_64
theorem r82_65 : type_of% (@rr _ _ c82_65.eq_1) := rr c82_65.eq_1
def a82 : AFun := ⟨2, 94, c82_65, [.t 4]⟩
attribute [simp] r82_0 r82_1 r82_2 r82_3 r82_4 r82_5 r82_6 r82_7 r82_8 r82_9 r82_10 r82_11 r82_12 r82_13 r82_14 r82_15 r82_16 r82_17 r82_18 r82_19 r82_20 r82_21 r82_22 r82_23 r82_24 r82_25 r82_26 r82_27 r82_28 r82_29 r82_30 r82_31 r82_32 r82_33 r82_34 r82_35 r82_36 r82_37 r82_38 r82_39 r82_40 r82_41 r82_42 r82_43 r82_44 r82_45 r82_46 r82_47 r82_48 r82_49 r82_50 r82_51 r82_52 r82_53 r82_54 r82_55 r82_56 r82_57 r82_58 r82_59 r82_60 r82_61 r82_62 r82_63 r82_64 r82_65
theorem m82 : mFun Tryz.prog Tryz.f82 a82 = true := by decide +kernel
theorem runs_rRT (l : List Word) (dim : Int) (c : Bool) (h : TreeRight l dim = some c) : Runs (tbl [(68, sp1 Unpack)]) a82 [Arg.enc l, Arg.enc dim] (Arg.enc c) := by
  obtain ⟨hr, rfl⟩ := part_some h
  refine ⟨rfl, fun g => run_def ?_⟩
  unfold a82
  have hp := hr.pos
  have hle := hr.le
  have b1 : ¬ (l.length : Int) < 1 := by omega
  have b2 : ¬ (l.length : Int) > 31 := by omega
  have b3 : l.length ≤ maxN := by unfold maxN; omega
  simp -implicitDefEqProofs [b1, b2, b3]
  refine run_while (c := c82_37) (fun n s => ∃ (i : Nat) (A : List (Int × Int)) (g : Nat → Nat), i + n = l.length ∧ (∀ j : Nat, getA j A = cnt l i j) ∧ s = ⟨[(0, .lst l.length (encL l)), (1, .int .i64 dim), (5, .mp 19 (g 19)), (20, .lst l.length (encL l)), (21, .int .i64 l.length), (22, .int .i64 i)], [(19, ⟨flatA A, false, mapTag⟩)], g⟩) l.length ⟨0, [], bump 19 g, by omega, fun j => by simp [getA, cnt], by simp [flatA]⟩ ?_
  rintro n s ⟨i, A, g, hi, hA, rfl⟩
  by_cases h1 : i < l.length
  case pos =>
    have hU := unpack_at hr h1
    have w1 : IntKind.i64.wrap ((i : Int) + 1) = (i : Int) + 1 := wrap64 (by omega) (by omega)
    cases hl : (ndAt l i).leaf
    case true =>
      simp -implicitDefEqProofs [h1, rd_words, hU, hl, w1]
      exact ⟨n - 1, by omega, i + 1, by omega, A, fun j => by rw [hA, cnt_succ h1]; simp [names, hl], by omega, rfl⟩
    case false =>
      have ha := hr.at h1 hl
      have e1 : ¬ dim ≤ (ndAt l i).feature := by omega
      have e2 : ¬ (ndAt l i).left = (ndAt l i).right := ha.2.1
      have f1 : ¬ (ndAt l i).left ≤ i := by omega
      have f2 : ¬ (l.length : Int) ≤ (ndAt l i).left := by omega
      have f3 : ¬ (ndAt l i).right ≤ i := by omega
      have f4 : ¬ (l.length : Int) ≤ (ndAt l i).right := by omega
      have n1 := cnt_le l i (ndAt l i).left.toNat
      have n2 := cnt_le l i (ndAt l i).right.toNat
      have a1 : getA (ndAt l i).left A = cnt l i (ndAt l i).left.toNat := by rw [← hA, show (((ndAt l i).left.toNat : Nat) : Int) = (ndAt l i).left by omega]
      have a2 : getA (ndAt l i).right (setA (ndAt l i).left (cnt l i (ndAt l i).left.toNat + 1) A) = cnt l i (ndAt l i).right.toNat := by
        rw [getA_setA, if_neg (Ne.symm e2), ← hA, show (((ndAt l i).right.toNat : Nat) : Int) = (ndAt l i).right by omega]
      have w2 : IntKind.i64.wrap (cnt l i (ndAt l i).left.toNat + 1) = cnt l i (ndAt l i).left.toNat + 1 := wrap64 (by omega) (by omega)
      have w3 : IntKind.i64.wrap (cnt l i (ndAt l i).right.toNat + 1) = cnt l i (ndAt l i).right.toNat + 1 := wrap64 (by omega) (by omega)
      simp -implicitDefEqProofs [h1, rd_words, hU, hl, w1, b3, e1, e2, f1, f2, f3, f4, a1, a2, w2, w3]
      refine ⟨n - 1, by omega, i + 1, by omega, _, fun j => ?_, by omega, rfl⟩
      rw [getA_setA, getA_setA, cnt_succ h1, hA]
      unfold names
      rw [hl]
      by_cases q1 : (j : Int) = (ndAt l i).right
      · rw [if_pos q1, show (ndAt l i).right.toNat = j by omega]
        simp [q1]
      · rw [if_neg q1]
        by_cases q2 : (j : Int) = (ndAt l i).left
        · rw [if_pos q2, show (ndAt l i).left.toNat = j by omega]
          simp [q2]
        · rw [if_neg q2]
          have q3 : ¬ (ndAt l i).right = (j : Int) := fun e => q1 e.symm
          have q4 : ¬ (ndAt l i).left = (j : Int) := fun e => q2 e.symm
          simp [q3, q4]
  case neg =>
    have hil : i = l.length := by omega
    subst hil
    simp -implicitDefEqProofs [h1]
    refine run_while (c := c82_54) (fun n s => ∃ (i : Nat), i + n = l.length ∧ 1 ≤ i ∧ s = ⟨[(0, .lst l.length (encL l)), (5, .mp 19 (g 19)), (10, .int .i64 i)], [(19, ⟨flatA A, false, mapTag⟩)], g⟩) (l.length - 1) ⟨1, by omega, by omega, by simp⟩ ?_
    rintro n s ⟨i, hi, hi1, rfl⟩
    by_cases h1 : i < l.length
    case pos =>
      have w1 : IntKind.i64.wrap ((i : Int) + 1) = (i : Int) + 1 := wrap64 (by omega) (by omega)
      have hc : getA i A = 1 := by
        rw [hA]
        unfold cnt
        rw [List.take_length, hr.once i hi1 h1]
        rfl
      simp -implicitDefEqProofs [h1, b3, hc, w1]
      exact ⟨n - 1, by omega, i + 1, by omega, by omega, by omega⟩
    case neg =>
      simp -implicitDefEqProofs [h1, b3]
theorem c_rRT : Contract Tryz.prog 82 (sp2 TreeRight) :=
  contract_of_runs mixed (tbl_cons c_rUnpack tbl_nil) Tryz.func82 m82 (sp2_runs runs_rRT)
def c59_0 : ACode := .ops [⟨some 1, .box (.t 0) 6, none, []⟩,
  ⟨some 2, .mv (.c (.bool false)), none, []⟩] [1]
theorem r59_0 : type_of% (@rr _ _ c59_0.eq_1) := rr c59_0.eq_1
def c59_1 : ACode := .ops [⟨some 7, .fad (.t 1) 0, none, [1]⟩,
  ⟨some 8, .load 1 false (.t 7), none, [1]⟩,
  ⟨some 9, .bin .lss (.t 8) (.c (.int .i64 1)), none, []⟩,
  ⟨some 10, .mv (.t 9), none, []⟩,
  ⟨some 11, .fad (.t 1) 0, some (10, false), [1]⟩,
  ⟨some 12, .load 1 false (.t 11), some (10, false), [1]⟩,
  ⟨some 13, .bin .gtr (.t 12) (.c (.int .i64 4)), some (10, false), []⟩,
  ⟨some 14, .pick (.t 10) (.c (.bool true)) (.t 13), none, []⟩,
  ⟨some 15, .mv (.t 14), none, []⟩,
  ⟨some 16, .fad (.t 1) 1, some (15, false), [1]⟩,
  ⟨some 17, .load 1 false (.t 16), some (15, false), [1]⟩,
  ⟨some 18, .bin .lss (.t 17) (.c (.int .i64 1)), some (15, false), []⟩,
  ⟨some 19, .pick (.t 15) (.c (.bool true)) (.t 18), none, []⟩,
  ⟨some 20, .mv (.t 19), none, []⟩,
  ⟨some 21, .fad (.t 1) 1, some (20, false), [1]⟩,
  ⟨some 22, .load 1 false (.t 21), some (20, false), [1]⟩,
  ⟨some 23, .bin .gtr (.t 22) (.c (.int .i64 3)), some (20, false), []⟩,
  ⟨some 24, .pick (.t 20) (.c (.bool true)) (.t 23), none, []⟩,
  ⟨some 25, .mv (.t 24), none, []⟩,
  ⟨some 26, .fad (.t 1) 5, some (25, false), [1]⟩,
  ⟨some 27, .load 1 false (.t 26), some (25, false), [1]⟩,
  ⟨some 28, .len (.t 27), some (25, false), []⟩,
  ⟨some 29, .bin .gtr (.t 28) (.c (.int .i64 8)), some (25, false), []⟩,
  ⟨some 30, .pick (.t 25) (.c (.bool true)) (.t 29), none, []⟩] [1, 30]
theorem r59_1 : type_of% (@rr _ _ c59_1.eq_1) := rr c59_1.eq_1
def c59_2 : ACode := .ops [⟨some 2, .mv (.c (.bool false)), none, []⟩] [2]
theorem r59_2 : type_of% (@rr _ _ c59_2.eq_1) := rr c59_2.eq_1
def c59_3 : ACode := .seq c59_2 .ret
theorem r59_3 : type_of% (@rr _ _ c59_3.eq_1) := rr c59_3.eq_1
def c59_4 : ACode := .cond (.t 30) c59_3 .skip
theorem r59_4 : type_of% (@rr _ _ c59_4.eq_1) := rr c59_4.eq_1
def c59_5 : ACode := .seq c59_1 c59_4
theorem r59_5 : type_of% (@rr _ _ c59_5.eq_1) := rr c59_5.eq_1
def c59_6 : ACode := .ops [⟨some 31, .fad (.t 1) 2, none, [1]⟩,
  ⟨some 32, .load 3 true (.t 31), none, [1]⟩,
  ⟨some 33, .mv (.c (.int .i64 0)), none, []⟩] [1, 32, 33]
theorem r59_6 : type_of% (@rr _ _ c59_6.eq_1) := rr c59_6.eq_1
def c59_7 : ACode := .ops [⟨some 34, .bin .lss (.t 33) (.c (.int .i64 3)), none, []⟩] [1, 32, 33, 34]
theorem r59_7 : type_of% (@rr _ _ c59_7.eq_1) := rr c59_7.eq_1
def c59_8 : ACode := .cond (.t 34) .skip (.exit 0)
theorem r59_8 : type_of% (@rr _ _ c59_8.eq_1) := rr c59_8.eq_1
def c59_9 : ACode := .ops [⟨some 35, .mv (.t 33), none, []⟩,
  ⟨some 36, .idx (.t 32) (.t 33) 1 3 false, none, []⟩,
  ⟨some 3, .mv (.t 35), none, []⟩,
  ⟨some 4, .mv (.t 36), none, []⟩] [1, 3, 4, 32, 33]
theorem r59_9 : type_of% (@rr _ _ c59_9.eq_1) := rr c59_9.eq_1
def c59_10 : ACode := .ops [⟨some 37, .mv (.t 4), none, []⟩,
  ⟨some 38, .call 60 [.t 37, .c (.int .i64 32)], none, []⟩,
  ⟨some 39, .un .not (.t 38), none, []⟩,
  ⟨some 40, .mv (.t 39), none, []⟩,
  ⟨some 41, .mv (.t 3), some (40, false), []⟩,
  ⟨some 42, .fad (.t 1) 1, some (40, false), [1]⟩,
  ⟨some 43, .load 1 false (.t 42), some (40, false), [1]⟩,
  ⟨some 44, .bin .geq (.t 41) (.t 43), some (40, false), []⟩,
  ⟨some 45, .mv (.t 44), some (40, false), []⟩,
  ⟨some 46, .mv (.t 4), some (45, true), []⟩,
  ⟨some 47, .bin .neq (.t 46) (.c (.int .i64 0)), some (45, true), []⟩,
  ⟨some 48, .pick (.t 45) (.t 47) (.c (.bool false)), some (40, false), []⟩,
  ⟨some 49, .pick (.t 40) (.c (.bool true)) (.t 48), none, []⟩] [1, 32, 33, 49]
theorem r59_10 : type_of% (@rr _ _ c59_10.eq_1) := rr c59_10.eq_1
def c59_11 : ACode := .ops [⟨some 2, .mv (.c (.bool false)), none, []⟩] [2]
theorem r59_11 : type_of% (@rr _ _ c59_11.eq_1) := rr c59_11.eq_1
def c59_12 : ACode := .seq c59_11 .ret
theorem r59_12 : type_of% (@rr _ _ c59_12.eq_1) := rr c59_12.eq_1
def c59_13 : ACode := .cond (.t 49) c59_12 .skip
theorem r59_13 : type_of% (@rr _ _ c59_13.eq_1) := rr c59_13.eq_1
def c59_14 : ACode := .seq c59_10 c59_13
theorem r59_14 : type_of% (@rr _ _ c59_14.eq_1) := rr c59_14.eq_1
def c59_15 : ACode := .seq c59_9 c59_14
theorem r59_15 : type_of% (@rr _ _ c59_15.eq_1) := rr c59_15.eq_1
def c59_16 : ACode := .block 1 c59_15
theorem r59_16 : type_of% (@rr _ _ c59_16.eq_1) := rr c59_16.eq_1
def c59_17 : ACode := .ops [⟨some 50, .bin .add (.t 33) (.c (.int .i64 1)), none, []⟩,
  ⟨some 33, .mv (.t 50), none, []⟩] [1, 32, 33]
theorem r59_17 : type_of% (@rr _ _ c59_17.eq_1) := rr c59_17.eq_1
def c59_18 : ACode := .seq c59_16 c59_17
theorem r59_18 : type_of% (@rr _ _ c59_18.eq_1) := rr c59_18.eq_1
def c59_19 : ACode := .seq c59_8 c59_18
theorem r59_19 : type_of% (@rr _ _ c59_19.eq_1) := rr c59_19.eq_1
def c59_20 : ACode := .seq c59_7 c59_19
theorem r59_20 : type_of% (@rr _ _ c59_20.eq_1) := rr c59_20.eq_1
def c59_21 : ACode := .keep [1, 32, 33] [1] c59_20
theorem r59_21 : type_of% (@rr _ _ c59_21.eq_1) := rr c59_21.eq_1
def c59_22 : ACode := .loop c59_21
theorem r59_22 : type_of% (@rr _ _ c59_22.eq_1) := rr c59_22.eq_1
def c59_23 : ACode := .block 0 c59_22
theorem r59_23 : type_of% (@rr _ _ c59_23.eq_1) := rr c59_23.eq_1
def c59_24 : ACode := .seq c59_6 c59_23
theorem r59_24 : type_of% (@rr _ _ c59_24.eq_1) := rr c59_24.eq_1
def c59_25 : ACode := .ops [⟨some 51, .fad (.t 1) 5, none, [1]⟩,
  ⟨some 52, .load 1 false (.t 51), none, [1]⟩,
  ⟨some 53, .len (.t 52), none, []⟩,
  ⟨some 54, .mv (.c (.int .i64 0)), none, []⟩] [1, 52, 53, 54]
theorem r59_25 : type_of% (@rr _ _ c59_25.eq_1) := rr c59_25.eq_1
def c59_26 : ACode := .ops [⟨some 55, .bin .lss (.t 54) (.t 53), none, []⟩] [1, 52, 53, 54, 55]
theorem r59_26 : type_of% (@rr _ _ c59_26.eq_1) := rr c59_26.eq_1
def c59_27 : ACode := .cond (.t 55) .skip (.exit 2)
theorem r59_27 : type_of% (@rr _ _ c59_27.eq_1) := rr c59_27.eq_1
def c59_28 : ACode := .ops [⟨some 56, .ias (.t 52) (.t 54) 2, none, []⟩,
  ⟨some 57, .load 2 true (.t 56), none, []⟩,
  ⟨some 6, .alloc [.int .i64 0, .nils], none, []⟩,
  ⟨none, .store (.t 6) 2 (.t 57), none, [6]⟩] [1, 6, 52, 53, 54]
theorem r59_28 : type_of% (@rr _ _ c59_28.eq_1) := rr c59_28.eq_1
def c59_29 : ACode := .ops [⟨some 58, .fad (.t 6) 0, none, [6]⟩,
  ⟨some 59, .load 1 false (.t 58), none, [6]⟩,
  ⟨some 60, .bin .lss (.t 59) (.c (.int .i64 0)), none, []⟩,
  ⟨some 61, .mv (.t 60), none, []⟩,
  ⟨some 62, .fad (.t 6) 0, some (61, false), [6]⟩,
  ⟨some 63, .load 1 false (.t 62), some (61, false), [6]⟩,
  ⟨some 64, .fad (.t 1) 1, some (61, false), [1]⟩,
  ⟨some 65, .load 1 false (.t 64), some (61, false), [1]⟩,
  ⟨some 66, .bin .geq (.t 63) (.t 65), some (61, false), []⟩,
  ⟨some 67, .pick (.t 61) (.c (.bool true)) (.t 66), none, []⟩,
  ⟨some 68, .mv (.t 67), none, []⟩,
  ⟨some 69, .fad (.t 6) 1, some (68, false), [6]⟩,
  ⟨some 70, .load 1 false (.t 69), some (68, false), [6]⟩,
  ⟨some 71, .fad (.t 1) 0, some (68, false), [1]⟩,
  ⟨some 72, .load 1 false (.t 71), some (68, false), [1]⟩,
  ⟨some 73, .call 82 [.t 70, .t 72], some (68, false), []⟩,
  ⟨some 74, .un .not (.t 73), some (68, false), []⟩,
  ⟨some 75, .pick (.t 68) (.c (.bool true)) (.t 74), none, []⟩] [1, 52, 53, 54, 75]
theorem r59_29 : type_of% (@rr _ _ c59_29.eq_1) := rr c59_29.eq_1
def c59_30 : ACode := .ops [⟨some 2, .mv (.c (.bool false)), none, []⟩] [2]
theorem r59_30 : type_of% (@rr _ _ c59_30.eq_1) := rr c59_30.eq_1
def c59_31 : ACode := .seq c59_30 .ret
theorem r59_31 : type_of% (@rr _ _ c59_31.eq_1) := rr c59_31.eq_1
def c59_32 : ACode := .cond (.t 75) c59_31 .skip
theorem r59_32 : type_of% (@rr _ _ c59_32.eq_1) := rr c59_32.eq_1
def c59_33 : ACode := .seq c59_29 c59_32
theorem r59_33 : type_of% (@rr _ _ c59_33.eq_1) := rr c59_33.eq_1
def c59_34 : ACode := .seq c59_28 c59_33
theorem r59_34 : type_of% (@rr _ _ c59_34.eq_1) := rr c59_34.eq_1
def c59_35 : ACode := .block 3 c59_34
theorem r59_35 : type_of% (@rr _ _ c59_35.eq_1) := rr c59_35.eq_1
def c59_36 : ACode := .ops [⟨some 76, .bin .add (.t 54) (.c (.int .i64 1)), none, []⟩,
  ⟨some 54, .mv (.t 76), none, []⟩] [1, 52, 53, 54]
theorem r59_36 : type_of% (@rr _ _ c59_36.eq_1) := rr c59_36.eq_1
def c59_37 : ACode := .seq c59_35 c59_36
theorem r59_37 : type_of% (@rr _ _ c59_37.eq_1) := rr c59_37.eq_1
def c59_38 : ACode := .seq c59_27 c59_37
theorem r59_38 : type_of% (@rr _ _ c59_38.eq_1) := rr c59_38.eq_1
def c59_39 : ACode := .seq c59_26 c59_38
theorem r59_39 : type_of% (@rr _ _ c59_39.eq_1) := rr c59_39.eq_1
def c59_40 : ACode := .keep [1, 52, 53, 54] [1] c59_39
theorem r59_40 : type_of% (@rr _ _ c59_40.eq_1) := rr c59_40.eq_1
def c59_41 : ACode := .loop c59_40
theorem r59_41 : type_of% (@rr _ _ c59_41.eq_1) := rr c59_41.eq_1
def c59_42 : ACode := .block 2 c59_41
theorem r59_42 : type_of% (@rr _ _ c59_42.eq_1) := rr c59_42.eq_1
def c59_43 : ACode := .seq c59_25 c59_42
theorem r59_43 : type_of% (@rr _ _ c59_43.eq_1) := rr c59_43.eq_1
def c59_44 : ACode := .ops [⟨some 2, .mv (.c (.bool true)), none, []⟩] [2]
theorem r59_44 : type_of% (@rr _ _ c59_44.eq_1) := rr c59_44.eq_1
def c59_45 : ACode := .seq c59_44 .ret
theorem r59_45 : type_of% (@rr _ _ c59_45.eq_1) := rr c59_45.eq_1
def c59_46 : ACode := .seq c59_43 c59_45
theorem r59_46 : type_of% (@rr _ _ c59_46.eq_1) := rr c59_46.eq_1
def c59_47 : ACode := .seq c59_24 c59_46
theorem r59_47 : type_of% (@rr _ _ c59_47.eq_1) := rr c59_47.eq_1
def c59_48 : ACode := .seq c59_5 c59_47
theorem r59_48 : type_of% (@rr _ _ c59_48.eq_1) := rr c59_48.eq_1
def c59_49 : ACode := .seq c59_0 c59_48
theorem r59_49 : type_of% (@rr _ _ c59_49.eq_1) := rr c59_49.eq_1
def a59 : AFun := ⟨1, 77, c59_49, [.t 2]⟩
attribute [simp] r59_0 r59_1 r59_2 r59_3 r59_4 r59_5 r59_6 r59_7 r59_8 r59_9 r59_10 r59_11 r59_12 r59_13 r59_14 r59_15 r59_16 r59_17 r59_18 r59_19 r59_20 r59_21 r59_22 r59_23 r59_24 r59_25 r59_26 r59_27 r59_28 r59_29 r59_30 r59_31 r59_32 r59_33 r59_34 r59_35 r59_36 r59_37 r59_38 r59_39 r59_40 r59_41 r59_42 r59_43 r59_44 r59_45 r59_46 r59_47 r59_48 r59_49
theorem m59 : mFun Tryz.prog Tryz.f59 a59 = true := by decide +kernel
noncomputable def RModel (m : Model) : Option Bool := Part (RM m) true
set_option maxRecDepth 100000 in
set_option maxHeartbeats 2000000 in
theorem runs_rModel (m : Model) (c : Bool) (h : RModel m = some c) : Runs (tbl [(60, sp2 Fits), (82, sp2 TreeRight)]) a59 [Arg.enc m] (Arg.enc c) := by
  obtain ⟨hr, rfl⟩ := part_some h
  clear h
  refine ⟨rfl, fun g => run_def ?_⟩
  unfold a59
  have b3 : m.trees.length ≤ maxN := by have := hr.trees; unfold maxN; omega
  have e0 : ¬ m.dim < 1 := by have := hr.dim; omega
  have e1 : ¬ 4 < m.dim := by have := hr.dim; omega
  have e2 : ¬ m.classes < 1 := by have := hr.classes; omega
  have e3 : ¬ 3 < m.classes := by have := hr.classes; omega
  have e4 : ¬ (8 : Int) < m.trees.length := by have := hr.trees; omega
  have e5 : ¬ m.classes ≤ 0 := by omega
  have hb := hr.bias
  have f0 := hb.1
  have f1 := hb.2.1
  have f2 := hb.2.2
  have n1 := hr.none1
  have n2 := hr.none2
  have fz : fits 0 = true := rfl
  have z1 : m.classes ≤ 1 → decide (m.bias.b1 = 0) = true := fun h => by simp [n1 h]
  have z2 : m.classes ≤ 2 → decide (m.bias.b2 = 0) = true := fun h => by simp [n2 h]
  have key : ∀ (g : Nat → Nat) (h : Hp), keepH h [1] = [(1, ⟨Row.enc m, false, 0⟩)] → run (tbl [(60, sp2 Fits), (82, sp2 TreeRight)]) (.loop c59_40) [Fr.blk 2, Fr.c c59_45] ⟨[(1, .ptr 1 (g 1) 0), (52, .lst m.trees.length (encL m.trees)), (53, .int .i64 m.trees.length), (54, .int .i64 0)], h, g⟩ (fin [ARes.t 2] (AV.bool true)) := by
    intro g h hh
    refine run_while (c := c59_39) (fun n s => ∃ (i : Nat) (g : Nat → Nat), i + n = m.trees.length ∧ s = ⟨[(1, .ptr 1 (g 1) 0), (52, .lst m.trees.length (encL m.trees)), (53, .int .i64 m.trees.length), (54, .int .i64 i)], [(1, ⟨Row.enc m, false, 0⟩)], g⟩) m.trees.length ⟨0, g, by omega, by simp only [hh]; rfl⟩ ?_
    rintro n s ⟨i, g, hi, rfl⟩
    by_cases h1 : i < m.trees.length
    case pos =>
      have w1 : IntKind.i64.wrap ((i : Int) + 1) = (i : Int) + 1 := wrap64 (by omega) (by omega)
      have hrow := rd_tree m.trees i h1
      have ht := hr.tree _ (List.getElem_mem h1)
      have hT : TreeRight m.trees[i].nodes m.dim = some true := part_of ht.2.2 _
      have c1 : ¬ m.trees[i].cls < 0 := by omega
      have c2 : ¬ m.classes ≤ m.trees[i].cls := by omega
      simp -implicitDefEqProofs [h1, hrow, hT, c1, c2, w1]
      exact ⟨n - 1, by omega, i + 1, by omega, by omega⟩
    case neg =>
      simp -implicitDefEqProofs [h1]
  by_cases k1 : m.classes ≤ 1 <;> by_cases k2 : m.classes ≤ 2
  · have z1 := z1 k1
    have z2 := z2 k2
    simp -implicitDefEqProofs [run_round, b3, e0, e1, e2, e3, e4, e5, Fits, fz, f0, f1, f2, k1, k2, z1, z2, -r59_41]
    exact key (bump 1 g) _ (by simp)
  · omega
  · have z2 := z2 k2
    simp -implicitDefEqProofs [run_round, b3, e0, e1, e2, e3, e4, e5, Fits, fz, f0, f1, f2, k1, k2, z2, -r59_41]
    exact key (bump 1 g) _ (by simp)
  · simp -implicitDefEqProofs [run_round, b3, e0, e1, e2, e3, e4, e5, Fits, fz, f0, f1, f2, k1, k2, -r59_41]
    exact key (bump 1 g) _ (by simp)
theorem c_rModel : Contract Tryz.prog 59 (sp1 RModel) :=
  contract_of_runs mixed (tbl_cons c_rFits (tbl_cons c_rRT tbl_nil)) Tryz.func59 m59 (sp1_runs runs_rModel)
end Go.Co
/- CO: what numbers make: trees, models, regions, queries. -/
namespace Go.Co
open Go.Am Go.Proofs
set_option linter.unusedSimpArgs false
set_option linter.unusedVariables false
/- (copse/copsekeep.Tree).Nodes -/
def c22_0 : ACode := .ops [⟨some 2, .box (.t 0) 5, none, []⟩,
  ⟨some 4, .mv (.c (.nils)), none, []⟩] [1, 2]
theorem r22_0 : type_of% (@rr _ _ c22_0.eq_1) := rr c22_0.eq_1
def c22_1 : ACode := .ops [⟨some 14, .fad (.t 2) 4, none, [2]⟩,
  ⟨some 15, .load 1 false (.t 14), none, [2]⟩,
  ⟨some 16, .call 21 [.t 15, .c (.int .i64 0)], none, []⟩,
  ⟨some 17, .call 16 [.t 16, .c (.int .i64 (-3000)), .c (.int .i64 3000)], none, []⟩,
  ⟨some 18, .build [.bool false, .int .i64 0, .int .i64 0, .int .i64 0, .int .i64 0, .int .i64 0] [(0, 1, .c (.bool true)), (1, 1, .t 17)], none, []⟩,
  ⟨some 19, .mkrow 5 1 6 [.bool false, .int .i64 0, .int .i64 0, .int .i64 0, .int .i64 0, .int .i64 0] [(0, 6, .t 18)], none, []⟩,
  ⟨some 5, .mv (.t 19), none, []⟩] [1, 2, 5]
theorem r22_1 : type_of% (@rr _ _ c22_1.eq_1) := rr c22_1.eq_1
def c22_2 : ACode := .ops [⟨some 20, .mkrow 6 1 1 [.int .i64 0] [(0, 1, .c (.int .i64 0))], none, []⟩,
  ⟨some 6, .mv (.t 20), none, []⟩] [1, 2, 5, 6]
theorem r22_2 : type_of% (@rr _ _ c22_2.eq_1) := rr c22_2.eq_1
def c22_3 : ACode := .ops [⟨some 7, .mv (.c (.int .i64 0)), none, []⟩] [1, 2, 5, 6, 7]
theorem r22_3 : type_of% (@rr _ _ c22_3.eq_1) := rr c22_3.eq_1
def c22_4 : ACode := .ops [⟨some 21, .mv (.t 7), none, []⟩,
  ⟨some 22, .fad (.t 2) 1, none, [2]⟩,
  ⟨some 23, .load 1 false (.t 22), none, [2]⟩,
  ⟨some 24, .len (.t 23), none, []⟩,
  ⟨some 25, .bin .lss (.t 21) (.t 24), none, []⟩,
  ⟨some 26, .mv (.t 25), none, []⟩,
  ⟨some 27, .mv (.t 7), some (26, true), []⟩,
  ⟨some 28, .bin .lss (.t 27) (.c (.int .i64 7)), some (26, true), []⟩,
  ⟨some 29, .pick (.t 26) (.t 28) (.c (.bool false)), none, []⟩] [1, 2, 5, 6, 7, 29]
theorem r22_4 : type_of% (@rr _ _ c22_4.eq_1) := rr c22_4.eq_1
def c22_5 : ACode := .cond (.t 29) .skip (.exit 0)
theorem r22_5 : type_of% (@rr _ _ c22_5.eq_1) := rr c22_5.eq_1
def c22_6 : ACode := .seq c22_4 c22_5
theorem r22_6 : type_of% (@rr _ _ c22_6.eq_1) := rr c22_6.eq_1
def c22_7 : ACode := .ops [⟨some 32, .fad (.t 2) 1, none, [2]⟩,
  ⟨some 33, .load 1 false (.t 32), none, [2]⟩,
  ⟨some 34, .mv (.t 7), none, []⟩,
  ⟨some 35, .ias (.t 33) (.t 34) 1, none, []⟩,
  ⟨some 36, .load 1 false (.t 35), none, []⟩,
  ⟨some 37, .mv (.t 6), none, []⟩,
  ⟨some 38, .len (.t 37), none, [6]⟩,
  ⟨some 39, .bin .sub (.t 38) (.c (.int .i64 1)), none, []⟩,
  ⟨some 40, .call 16 [.t 36, .c (.int .i64 0), .t 39], none, []⟩,
  ⟨some 8, .mv (.t 40), none, []⟩] [1, 2, 5, 6, 7, 8]
theorem r22_7 : type_of% (@rr _ _ c22_7.eq_1) := rr c22_7.eq_1
def c22_8 : ACode := .ops [⟨some 41, .mv (.t 6), none, []⟩,
  ⟨some 42, .mv (.t 8), none, []⟩,
  ⟨some 43, .ias (.t 41) (.t 42) 1, none, [6]⟩,
  ⟨some 44, .load 1 false (.t 43), none, [6]⟩,
  ⟨some 9, .mv (.t 44), none, []⟩] [1, 2, 5, 6, 7, 8, 9]
theorem r22_8 : type_of% (@rr _ _ c22_8.eq_1) := rr c22_8.eq_1
def c22_9 : ACode := .ops [⟨some 45, .mv (.t 5), none, []⟩,
  ⟨some 46, .len (.t 45), none, [5]⟩,
  ⟨some 10, .mv (.t 46), none, []⟩] [1, 2, 5, 6, 7, 8, 9, 10]
theorem r22_9 : type_of% (@rr _ _ c22_9.eq_1) := rr c22_9.eq_1
def c22_10 : ACode := .ops [⟨some 47, .mv (.t 5), none, []⟩,
  ⟨some 48, .mv (.t 9), none, []⟩,
  ⟨some 49, .fad (.t 2) 2, none, [2]⟩,
  ⟨some 50, .load 1 false (.t 49), none, [2]⟩,
  ⟨some 51, .mv (.t 7), none, []⟩,
  ⟨some 52, .call 21 [.t 50, .t 51], none, []⟩,
  ⟨some 53, .mv (.t 1), none, []⟩,
  ⟨some 54, .bin .sub (.t 53) (.c (.int .i64 1)), none, []⟩,
  ⟨some 55, .call 16 [.t 52, .c (.int .i64 0), .t 54], none, []⟩,
  ⟨some 56, .fad (.t 2) 3, none, [2]⟩,
  ⟨some 57, .load 1 false (.t 56), none, [2]⟩,
  ⟨some 58, .mv (.t 7), none, []⟩,
  ⟨some 59, .call 21 [.t 57, .t 58], none, []⟩,
  ⟨some 60, .call 16 [.t 59, .c (.int .i64 0), .c (.int .i64 9)], none, []⟩,
  ⟨some 61, .mv (.t 10), none, []⟩,
  ⟨some 62, .mv (.t 10), none, []⟩,
  ⟨some 63, .bin .add (.t 62) (.c (.int .i64 1)), none, []⟩,
  ⟨some 64, .build [.bool false, .int .i64 0, .int .i64 0, .int .i64 0, .int .i64 0, .int .i64 0] [(2, 1, .t 55), (3, 1, .t 60), (4, 1, .t 61), (5, 1, .t 63)], none, []⟩,
  ⟨some 65, .ias (.t 47) (.t 48) 6, none, [5]⟩,
  ⟨none, .store (.t 65) 6 (.t 64), none, [5]⟩] [1, 2, 5, 6, 7, 8, 10]
theorem r22_10 : type_of% (@rr _ _ c22_10.eq_1) := rr c22_10.eq_1
def c22_11 : ACode := .ops [⟨some 66, .mv (.t 5), none, []⟩,
  ⟨some 67, .fad (.t 2) 4, none, [2]⟩,
  ⟨some 68, .load 1 false (.t 67), none, [2]⟩,
  ⟨some 69, .mv (.t 7), none, []⟩,
  ⟨some 70, .bin .mul (.c (.int .i64 2)) (.t 69), none, []⟩,
  ⟨some 71, .bin .add (.t 70) (.c (.int .i64 1)), none, []⟩,
  ⟨some 72, .call 21 [.t 68, .t 71], none, []⟩,
  ⟨some 73, .call 16 [.t 72, .c (.int .i64 (-3000)), .c (.int .i64 3000)], none, []⟩,
  ⟨some 74, .build [.bool false, .int .i64 0, .int .i64 0, .int .i64 0, .int .i64 0, .int .i64 0] [(0, 1, .c (.bool true)), (1, 1, .t 73)], none, []⟩,
  ⟨some 75, .fad (.t 2) 4, none, [2]⟩,
  ⟨some 76, .load 1 false (.t 75), none, [2]⟩,
  ⟨some 77, .mv (.t 7), none, []⟩,
  ⟨some 78, .bin .mul (.c (.int .i64 2)) (.t 77), none, []⟩,
  ⟨some 79, .bin .add (.t 78) (.c (.int .i64 2)), none, []⟩,
  ⟨some 80, .call 21 [.t 76, .t 79], none, []⟩,
  ⟨some 81, .call 16 [.t 80, .c (.int .i64 (-3000)), .c (.int .i64 3000)], none, []⟩,
  ⟨some 82, .build [.bool false, .int .i64 0, .int .i64 0, .int .i64 0, .int .i64 0, .int .i64 0] [(0, 1, .c (.bool true)), (1, 1, .t 81)], none, []⟩,
  ⟨some 83, .mkrow 83 2 6 [.bool false, .int .i64 0, .int .i64 0, .int .i64 0, .int .i64 0, .int .i64 0] [(0, 6, .t 74), (6, 6, .t 82)], none, []⟩,
  ⟨some 84, .app 5 [5] (.t 66) (.t 83) 6, none, [5, 83]⟩,
  ⟨some 5, .mv (.t 84), none, []⟩] [1, 2, 5, 6, 7, 8, 10]
theorem r22_11 : type_of% (@rr _ _ c22_11.eq_1) := rr c22_11.eq_1
def c22_12 : ACode := .ops [⟨some 85, .mkrow 85 0 1 [.int .i64 0] [], none, []⟩,
  ⟨some 86, .mv (.t 6), none, []⟩,
  ⟨some 87, .mv (.t 8), none, []⟩,
  ⟨some 88, .sl (.t 86) none (some (.t 87)) 1, none, [6]⟩,
  ⟨some 89, .app 89 [85] (.t 85) (.t 88) 1, none, [6, 85]⟩,
  ⟨some 90, .mv (.t 6), none, []⟩,
  ⟨some 91, .mv (.t 8), none, []⟩,
  ⟨some 92, .bin .add (.t 91) (.c (.int .i64 1)), none, []⟩,
  ⟨some 93, .sl (.t 90) (some (.t 92)) none 1, none, [6]⟩,
  ⟨some 94, .app 94 [89] (.t 89) (.t 93) 1, none, [6, 89]⟩,
  ⟨some 95, .mv (.t 10), none, []⟩,
  ⟨some 96, .mv (.t 10), none, []⟩,
  ⟨some 97, .bin .add (.t 96) (.c (.int .i64 1)), none, []⟩,
  ⟨some 98, .mkrow 98 2 1 [.int .i64 0] [(0, 1, .t 95), (1, 1, .t 97)], none, []⟩,
  ⟨some 99, .app 6 [94] (.t 94) (.t 98) 1, none, [94, 98]⟩,
  ⟨some 6, .mv (.t 99), none, []⟩] [1, 2, 5, 6, 7]
theorem r22_12 : type_of% (@rr _ _ c22_12.eq_1) := rr c22_12.eq_1
def c22_13 : ACode := .seq c22_11 c22_12
theorem r22_13 : type_of% (@rr _ _ c22_13.eq_1) := rr c22_13.eq_1
def c22_14 : ACode := .seq c22_10 c22_13
theorem r22_14 : type_of% (@rr _ _ c22_14.eq_1) := rr c22_14.eq_1
def c22_15 : ACode := .seq c22_9 c22_14
theorem r22_15 : type_of% (@rr _ _ c22_15.eq_1) := rr c22_15.eq_1
def c22_16 : ACode := .seq c22_8 c22_15
theorem r22_16 : type_of% (@rr _ _ c22_16.eq_1) := rr c22_16.eq_1
def c22_17 : ACode := .seq c22_7 c22_16
theorem r22_17 : type_of% (@rr _ _ c22_17.eq_1) := rr c22_17.eq_1
def c22_18 : ACode := .block 1 c22_17
theorem r22_18 : type_of% (@rr _ _ c22_18.eq_1) := rr c22_18.eq_1
def c22_19 : ACode := .ops [⟨some 30, .mv (.t 7), none, []⟩,
  ⟨some 31, .bin .add (.t 30) (.c (.int .i64 1)), none, []⟩,
  ⟨some 7, .mv (.t 31), none, []⟩] [1, 2, 5, 6, 7]
theorem r22_19 : type_of% (@rr _ _ c22_19.eq_1) := rr c22_19.eq_1
def c22_20 : ACode := .seq c22_18 c22_19
theorem r22_20 : type_of% (@rr _ _ c22_20.eq_1) := rr c22_20.eq_1
def c22_21 : ACode := .seq c22_6 c22_20
theorem r22_21 : type_of% (@rr _ _ c22_21.eq_1) := rr c22_21.eq_1
def c22_22 : ACode := .keep [1, 2, 5, 6, 7] [2, 5, 6] c22_21
theorem r22_22 : type_of% (@rr _ _ c22_22.eq_1) := rr c22_22.eq_1
def c22_23 : ACode := .loop c22_22
theorem r22_23 : type_of% (@rr _ _ c22_23.eq_1) := rr c22_23.eq_1
def c22_24 : ACode := .block 0 c22_23
theorem r22_24 : type_of% (@rr _ _ c22_24.eq_1) := rr c22_24.eq_1
def c22_25 : ACode := .seq c22_3 c22_24
theorem r22_25 : type_of% (@rr _ _ c22_25.eq_1) := rr c22_25.eq_1
def c22_26 : ACode := .ops [⟨some 11, .nil0 11 1, none, []⟩] [5, 11]
theorem r22_26 : type_of% (@rr _ _ c22_26.eq_1) := rr c22_26.eq_1
def c22_27 : ACode := .ops [⟨some 100, .mv (.t 5), none, []⟩,
  ⟨some 101, .len (.t 100), none, [5]⟩,
  ⟨some 102, .mv (.c (.int .i64 0)), none, []⟩] [11, 100, 101, 102]
theorem r22_27 : type_of% (@rr _ _ c22_27.eq_1) := rr c22_27.eq_1
def c22_28 : ACode := .ops [⟨some 103, .bin .lss (.t 102) (.t 101), none, []⟩] [11, 100, 101, 102, 103]
theorem r22_28 : type_of% (@rr _ _ c22_28.eq_1) := rr c22_28.eq_1
def c22_29 : ACode := .cond (.t 103) .skip (.exit 2)
theorem r22_29 : type_of% (@rr _ _ c22_29.eq_1) := rr c22_29.eq_1
def c22_30 : ACode := .ops [⟨some 104, .ias (.t 100) (.t 102) 6, none, [5]⟩,
  ⟨some 105, .load 6 true (.t 104), none, [5]⟩,
  ⟨some 13, .alloc [.bool false, .int .i64 0, .int .i64 0, .int .i64 0, .int .i64 0, .int .i64 0], none, []⟩,
  ⟨none, .store (.t 13) 6 (.t 105), none, [13]⟩] [11, 13, 100, 101, 102]
theorem r22_30 : type_of% (@rr _ _ c22_30.eq_1) := rr c22_30.eq_1
def c22_31 : ACode := .ops [⟨some 106, .mv (.t 11), none, []⟩,
  ⟨some 107, .load 6 true (.t 13), none, [13]⟩,
  ⟨some 108, .call 51 [.t 107], none, []⟩,
  ⟨some 109, .mkrow 109 1 1 [.int .u64 0] [(0, 1, .t 108)], none, []⟩,
  ⟨some 110, .app 11 [11] (.t 106) (.t 109) 1, none, [11, 109]⟩,
  ⟨some 11, .mv (.t 110), none, []⟩] [11, 100, 101, 102]
theorem r22_31 : type_of% (@rr _ _ c22_31.eq_1) := rr c22_31.eq_1
def c22_32 : ACode := .seq c22_30 c22_31
theorem r22_32 : type_of% (@rr _ _ c22_32.eq_1) := rr c22_32.eq_1
def c22_33 : ACode := .block 3 c22_32
theorem r22_33 : type_of% (@rr _ _ c22_33.eq_1) := rr c22_33.eq_1
def c22_34 : ACode := .ops [⟨some 111, .bin .add (.t 102) (.c (.int .i64 1)), none, []⟩,
  ⟨some 102, .mv (.t 111), none, []⟩] [11, 100, 101, 102]
theorem r22_34 : type_of% (@rr _ _ c22_34.eq_1) := rr c22_34.eq_1
def c22_35 : ACode := .seq c22_33 c22_34
theorem r22_35 : type_of% (@rr _ _ c22_35.eq_1) := rr c22_35.eq_1
def c22_36 : ACode := .seq c22_29 c22_35
theorem r22_36 : type_of% (@rr _ _ c22_36.eq_1) := rr c22_36.eq_1
def c22_37 : ACode := .seq c22_28 c22_36
theorem r22_37 : type_of% (@rr _ _ c22_37.eq_1) := rr c22_37.eq_1
def c22_38 : ACode := .keep [11, 100, 101, 102] [5, 11] c22_37
theorem r22_38 : type_of% (@rr _ _ c22_38.eq_1) := rr c22_38.eq_1
def c22_39 : ACode := .loop c22_38
theorem r22_39 : type_of% (@rr _ _ c22_39.eq_1) := rr c22_39.eq_1
def c22_40 : ACode := .block 2 c22_39
theorem r22_40 : type_of% (@rr _ _ c22_40.eq_1) := rr c22_40.eq_1
def c22_41 : ACode := .seq c22_27 c22_40
theorem r22_41 : type_of% (@rr _ _ c22_41.eq_1) := rr c22_41.eq_1
def c22_42 : ACode := .ops [⟨some 112, .mv (.t 11), none, []⟩,
  ⟨some 4, .mv (.t 112), none, []⟩] [4]
theorem r22_42 : type_of% (@rr _ _ c22_42.eq_1) := rr c22_42.eq_1
def c22_43 : ACode := .seq c22_42 .ret
theorem r22_43 : type_of% (@rr _ _ c22_43.eq_1) := rr c22_43.eq_1
def c22_44 : ACode := .seq c22_41 c22_43
theorem r22_44 : type_of% (@rr _ _ c22_44.eq_1) := rr c22_44.eq_1
def c22_45 : ACode := .seq c22_26 c22_44
theorem r22_45 : type_of% (@rr _ _ c22_45.eq_1) := rr c22_45.eq_1
def c22_46 : ACode := .seq c22_25 c22_45
theorem r22_46 : type_of% (@rr _ _ c22_46.eq_1) := rr c22_46.eq_1
def c22_47 : ACode := .seq c22_2 c22_46
theorem r22_47 : type_of% (@rr _ _ c22_47.eq_1) := rr c22_47.eq_1
def c22_48 : ACode := .seq c22_1 c22_47
theorem r22_48 : type_of% (@rr _ _ c22_48.eq_1) := rr c22_48.eq_1
def c22_49 : ACode := .seq c22_0 c22_48
theorem r22_49 : type_of% (@rr _ _ c22_49.eq_1) := rr c22_49.eq_1
def a22 : AFun := ⟨2, 113, c22_49, [.t 4]⟩
attribute [simp] r22_0 r22_1 r22_2 r22_3 r22_4 r22_5 r22_6 r22_7 r22_8 r22_9 r22_10 r22_11 r22_12 r22_13 r22_14 r22_15 r22_16 r22_17 r22_18 r22_19 r22_20 r22_21 r22_22 r22_23 r22_24 r22_25 r22_26 r22_27 r22_28 r22_29 r22_30 r22_31 r22_32 r22_33 r22_34 r22_35 r22_36 r22_37 r22_38 r22_39 r22_40 r22_41 r22_42 r22_43 r22_44 r22_45 r22_46 r22_47 r22_48 r22_49
theorem m22 : mFun Tryz.prog Tryz.f22 a22 = true := by decide +kernel
noncomputable def NodesC (t : KTree) (dim : Int) : Option (List Word) := Part (1 ≤ dim ∧ dim ≤ 4) (treeNodes t dim)
theorem within_of (n lo hi : Int) (h : -1125899906842624 ≤ lo ∧ lo ≤ hi ∧ hi ≤ 1125899906842624) : Within n lo hi = some (within n lo hi) := by unfold Within; rw [if_pos h]
theorem pick_of (l : List Int) (i : Nat) : Pick l (i : Int) = some (pick l i) := by unfold Pick; rw [if_pos (by omega)]; simp
theorem pick_0 (l : List Int) : Pick l 0 = some (pick l 0) := pick_of l 0
theorem rd_node (l : List Node) (i : Nat) (h : i < l.length) : rd (encL l) (i * 6) 6 true = some (.agg [.bool l[i].leaf, .int .i64 l[i].value, .int .i64 l[i].feature, .int .i64 l[i].cut, .int .i64 l[i].left, .int .i64 l[i].right]) := rd_row l i h
theorem nodes_out {C : Cs} (hC : ∀ n : Node, C 51 [.agg [.bool n.leaf, .int .i64 n.value, .int .i64 n.feature, .int .i64 n.cut, .int .i64 n.left, .int .i64 n.right]] = some (.int .u64 (pack n).v)) (l : List Node) (hl : l.length ≤ 31) (g : Nat → Nat) (h : Hp)
    (hh : keepH h [5, 11] = [(5, ⟨encL l, false, 6⟩), (11, ⟨[], false, 1⟩)]) :
    run C (.loop c22_38) [Fr.blk 2, Fr.c c22_43] ⟨[(11, .own 11 (g 11) 0 0), (100, .own 5 (g 5) 0 l.length), (101, .int .i64 l.length), (102, .int .i64 0)], h, g⟩ (fin [ARes.t 4] (AV.lst l.length (encL (l.map pack)))) := by
  refine run_while (c := c22_37) (fun n s => ∃ (i : Nat) (g : Nat → Nat), i + n = l.length ∧ s = ⟨[(11, .own 11 (g 11) 0 i), (100, .own 5 (g 5) 0 l.length), (101, .int .i64 l.length), (102, .int .i64 i)], [(5, ⟨encL l, false, 6⟩), (11, ⟨encL ((l.take i).map pack), false, 1⟩)], g⟩) l.length ⟨0, g, by omega, ?_⟩ ?_
  · simp only [hh]
    simp [encL]
  rintro n s ⟨i, g, hi, rfl⟩
  by_cases h1 : i < l.length
  case pos =>
    have w1 : IntKind.i64.wrap ((i : Int) + 1) = (i : Int) + 1 := wrap64 (by omega) (by omega)
    have hr := rd_node l i h1
    have hL : ((l.take i).map pack).length = i := by simp; omega
    have htk : List.take i (encL ((l.take i).map pack)) = encL ((l.take i).map pack) := take_rows _ _ (by simp; omega)
    have c1 : i ≤ l.length := by omega
    have c2 : i ≤ 1099511627775 := by omega
    simp -implicitDefEqProofs [h1, hr, hC, w1, encL_length, c1, c2]
    refine ⟨n - 1, by omega, i + 1, by omega, ⟨rfl, by omega⟩, ?_⟩
    rw [List.take_take, Nat.min_self, ← List.map_take, ← List.map_take, List.take_succ_eq_append_getElem h1, List.map_append, encL_append]
    rfl
  case neg =>
    have hil : i = l.length := by omega
    subst hil
    have htk : List.take l.length (List.map pack l) = List.map pack l := List.take_of_length_le (by simp)
    simp -implicitDefEqProofs [h1, htk, encL_length]
theorem runs_Nodes (t : KTree) (dim : Int) (c : List Word) (h : NodesC t dim = some c) : Runs (tbl [(21, sp2 Pick), (16, sp3 Within), (51, sp1 fun n => some (pack n))]) a22 [Arg.enc t, Arg.enc dim] (Arg.enc c) := by
  obtain ⟨⟨d1, d2⟩, rfl⟩ := part_some h
  refine ⟨rfl, fun g => run_def ?_⟩
  unfold a22
  have hw0 := within_of (pick t.val 0) (-3000) 3000 (by omega)
  by_cases hm : t.part.length ≤ maxN
  case neg => simp -implicitDefEqProofs [pick_0, hw0, hm, run_round]
  simp -implicitDefEqProofs [pick_0, hw0]
  refine run_while (c := c22_21) (fun n s => ∃ (i : Nat) (g : Nat → Nat), i + n = min t.part.length 7 ∧ s = ⟨[(1, .int .i64 dim), (2, .ptr 2 (g 2) 0), (5, .own 5 (g 5) 0 (grow t dim i).nodes.length), (6, .own 6 (g 6) 0 (grow t dim i).leaves.length), (7, .int .i64 i)],
    [(2, ⟨[.int .i64 t.cls, .lst t.part.length (encL t.part), .lst t.dir.length (encL t.dir), .lst t.cut.length (encL t.cut), .lst t.val.length (encL t.val)], false, 0⟩), (5, ⟨encL (grow t dim i).nodes, false, 6⟩), (6, ⟨encL (grow t dim i).leaves, false, 1⟩)], g⟩) (min t.part.length 7) ⟨0, bump 6 (bump 5 (bump 2 g)), by omega, by simp [grow, grow0, leafN, encL]⟩ ?_
  rintro n s ⟨i, g, hi, rfl⟩
  have w1 : IntKind.i64.wrap ((i : Int) + 1) = (i : Int) + 1 := wrap64 (by omega) (by omega)
  by_cases h1 : i < min t.part.length 7
  case pos =>
    have hG := gi t dim d1 d2 i (by omega)
    have hs : grow t dim (i + 1) = growS t dim i (grow t dim i) := rfl
    generalize grow t dim i = G at *
    have L1 := hG.len
    have L2 := hG.lvs
    have c1 : i < t.part.length := by omega
    have c2 : (i : Int) < 7 := by omega
    have c3 : G.leaves.length ≤ maxN := by unfold maxN; omega
    have c4 : G.nodes.length ≤ maxN := by unfold maxN; omega
    have w2 : IntKind.i64.wrap ((G.leaves.length : Int) - 1) = (G.leaves.length : Int) - 1 := wrap64 (by omega) (by omega)
    have w3 : IntKind.i64.wrap ((G.nodes.length : Int) + 1) = (G.nodes.length : Int) + 1 := wrap64 (by omega) (by omega)
    have w4 : IntKind.i64.wrap (dim - 1) = dim - 1 := wrap64 (by omega) (by omega)
    have w5 : IntKind.i64.wrap (2 * (i : Int)) = 2 * (i : Int) := wrap64 (by omega) (by omega)
    have w6 : IntKind.i64.wrap (2 * (i : Int) + 1) = 2 * (i : Int) + 1 := wrap64 (by omega) (by omega)
    have w7 : IntKind.i64.wrap (2 * (i : Int) + 2) = 2 * (i : Int) + 2 := wrap64 (by omega) (by omega)
    have p5 : Pick t.val (2 * (i : Int) + 1) = some (pick t.val (2 * i + 1)) := pick_of t.val (2 * i + 1)
    have p6 : Pick t.val (2 * (i : Int) + 2) = some (pick t.val (2 * i + 2)) := pick_of t.val (2 * i + 2)
    have v5 := within_of (pick t.val (2 * i + 1)) (-3000) 3000 (by omega)
    have v6 := within_of (pick t.val (2 * i + 2)) (-3000) 3000 (by omega)
    have v7 := within_of (pick t.dir i) 0 (dim - 1) (by omega)
    have v8 := within_of (pick t.cut i) 0 9 (by omega)
    have v9 := within_of t.part[i] 0 ((G.leaves.length : Int) - 1) (by omega)
    have hk := within_le t.part[i] 0 ((G.leaves.length : Int) - 1) (by omega)
    have hkK : growK t i G = (within t.part[i] 0 ((G.leaves.length : Int) - 1)).toNat := by unfold growK; simp [c1]
    generalize within t.part[i] 0 ((G.leaves.length : Int) - 1) = K at *
    obtain ⟨k, rfl⟩ : ∃ k : Nat, K = k := ⟨K.toNat, by omega⟩
    simp only [Int.toNat_natCast] at hkK
    have c5 : k < G.leaves.length := by omega
    obtain ⟨hl0, hl1, hl2⟩ := hG.leaf _ (List.getElem_mem c5)
    have c6 : G.leaves[k] < G.nodes.length := by omega
    have w8 : IntKind.i64.wrap ((k : Int) + 1) = (k : Int) + 1 := wrap64 (by omega) (by omega)
    have c7 : (k : Int) + 1 ≤ G.leaves.length := by omega
    have c8 : (k : Int) ≤ G.leaves.length := by omega
    have c9 : k ≤ G.leaves.length := by omega
    have c10 : G.leaves[k].toNat * 6 + 6 ≤ G.nodes.length * 6 := by omega
    have c11 : G.nodes.length ≤ 1099511627774 := by omega
    have c12 : k ≤ 1099511627776 := by omega
    have c13 : 0 ≤ (k : Int) + 1 := by omega
    have c14 : k + 1 ≤ G.leaves.length := by omega
    have hwr : wr (encL G.nodes) (G.leaves[k].toNat * 6) [.bool false, .int .i64 0, .int .i64 (within (pick t.dir i) 0 (dim - 1)), .int .i64 (within (pick t.cut i) 0 9), .int .i64 G.nodes.length, .int .i64 (G.nodes.length + 1)] = encL (G.nodes.set G.leaves[k].toNat (growN t dim i G.nodes.length)) := wr_row G.nodes _ hl1 (growN t dim i G.nodes.length)
    have htk : List.take (G.nodes.length * 6) (encL (G.nodes.set G.leaves[k].toNat (growN t dim i G.nodes.length))) = encL (G.nodes.set G.leaves[k].toNat (growN t dim i G.nodes.length)) := take_rows _ _ (by simp)
    simp -implicitDefEqProofs [hm, c1, c2, c3, c4, c5, c6, c7, c8, c9, c10, c11, c12, c13, c14, hwr, htk, hl0, hl1, w1, w2, w3, w4, w5, w6, w7, w8, p5, p6, v5, v6, v7, v8, v9, pick_of, rd_ints, encL_length]
    have hgl : (growS t dim i G).leaves = G.leaves.take k ++ G.leaves.drop (k + 1) ++ [(G.nodes.length : Int), G.nodes.length + 1] := by unfold growS; rw [hkK]
    have hgn : (growS t dim i G).nodes = G.nodes.set G.leaves[k].toNat (growN t dim i G.nodes.length) ++ [leafN (within (pick t.val (2 * i + 1)) (-3000) 3000), leafN (within (pick t.val (2 * i + 2)) (-3000) 3000)] := by
      unfold growS
      have : G.leaves.getD k 0 = G.leaves[k] := by simp [c5]
      rw [hkK, this]
    refine ⟨fun _ => ⟨fun _ => ⟨n - 1, by omega, i + 1, by omega, ⟨?_, ?_, by omega⟩, ?_, ?_⟩, by omega⟩, by omega⟩
    · rw [hs, hgn]; simp
    · rw [hs, hgl]; simp; omega
    · rw [hs, hgn, encL_append]; rfl
    · rw [hs, hgl, encL_append, encL_append]
      rw [List.take_take, Nat.min_self, List.take_of_length_le (show (G.leaves.drop (k + 1)).length ≤ G.leaves.length - (k + 1) by simp)]
      rw [List.take_of_length_le (by rw [List.length_append, encL_length, encL_length]; simp; omega)]
      rfl
  case neg =>
    have hil : i = min t.part.length 7 := by omega
    have c1 : ¬ ((i : Int) < t.part.length ∧ (i : Int) < 7) := by omega
    have hT : treeNodes t dim = (grow t dim i).nodes.map pack := by rw [hil]; rfl
    have hG := gi t dim d1 d2 i (by omega)
    have hok : ∀ n ∈ (grow t dim i).nodes, rightNode n = true := hG.ok
    have L1 := hG.len
    rw [hT]
    generalize (grow t dim i).nodes = l at *
    have c3 : l.length ≤ maxN := by unfold maxN; omega
    have hl : l.length ≤ 31 := by omega
    by_cases c2 : (i : Int) < t.part.length
    case pos =>
      have c4 : ¬ (i : Int) < 7 := by omega
      simp -implicitDefEqProofs [hm, c2, c4, c3]
      exact nodes_out (fun n => by simp) l hl (bump 11 g) _ (by simp)
    case neg =>
      simp -implicitDefEqProofs [hm, c2, c3]
      exact nodes_out (fun n => by simp) l hl (bump 11 g) _ (by simp)
theorem c_Nodes : Contract Tryz.prog 22 (sp2 NodesC) :=
  contract_of_runs mixed (tbl_cons c_pick (tbl_cons c_Within (tbl_cons c_rPack tbl_nil))) Tryz.func22 m22 (sp2_runs runs_Nodes)
end Go.Co
