/- CO: maps of numbers as lists of pairs. -/
import Derived.Test.YtcjflbmpfmibbaaCoRun
namespace Go.Co
open Go.Am
def flatA : List (Int × Int) → List AV
  | [] => []
  | (k, v) :: l => .int .i64 k :: .int .i64 v :: flatA l
def getA (n : Int) : List (Int × Int) → Int
  | [] => 0
  | (k, v) :: l => if n = k then v else getA n l
def setA (n v : Int) : List (Int × Int) → List (Int × Int)
  | [] => [(n, v)]
  | (k, u) :: l => if n = k then (k, v) :: l else (k, u) :: setA n v l
theorem mfind_flat (n : Int) : ∀ (l : List (Int × Int)) (i : Nat), (∃ j v, mfind n (flatA l) i = some (i + j, .int .i64 v) ∧ getA n l = v ∧ (∀ u, wr (flatA l) (2 * j + 1) [.int .i64 u] = flatA (setA n u l))) ∨ (mfind n (flatA l) i = none ∧ getA n l = 0 ∧ ∀ u, flatA l ++ [.int .i64 n, .int .i64 u] = flatA (setA n u l))
  | [], i => .inr ⟨rfl, rfl, fun _ => rfl⟩
  | (k, v) :: l, i => by
    unfold flatA mfind getA setA
    by_cases h : n = k
    · refine .inl ⟨0, v, by simp [h], by simp [h], fun u => ?_⟩
      rw [if_pos h]
      simp [wr, flatA]
    · rw [if_neg h, if_neg h]
      rcases mfind_flat n l (i + 1) with ⟨j, w, h1, h2, h3⟩ | ⟨h1, h2, h3⟩
      · refine .inl ⟨j + 1, w, by rw [h1]; congr 2; omega, h2, fun u => ?_⟩
        rw [if_neg h]
        have e2 : 2 * (j + 1) + 1 = (2 * j + 1) + 1 + 1 := by omega
        unfold wr
        simp only [e2, List.take_succ_cons, List.cons_append, List.length_cons, List.length_nil, Nat.zero_add]
        rw [show 2 * j + 1 + 1 + 1 + 1 = (2 * j + 1 + 1) + 1 + 1 by omega, List.drop_succ_cons, List.drop_succ_cons]
        have := h3 u
        unfold wr at this
        simp only [List.length_cons, List.length_nil, Nat.zero_add] at this
        rw [this]
      · refine .inr ⟨h1, h2, fun u => ?_⟩
        rw [if_neg h]
        simp only [List.cons_append, h3 u]
@[simp] theorem mget_flat (n : Int) (l : List (Int × Int)) : mgetV n (flatA l) (.int .i64 0) = .int .i64 (getA n l) := by
  unfold mgetV
  rcases mfind_flat n l 0 with ⟨j, v, h1, h2, _⟩ | ⟨h1, h2, _⟩
  · rw [h1, h2]
  · rw [h1, h2]
@[simp] theorem mput_flat (n v : Int) (l : List (Int × Int)) : mputV n (flatA l) (.int .i64 v) = flatA (setA n v l) := by
  unfold mputV
  rcases mfind_flat n l 0 with ⟨j, w, h1, _, h3⟩ | ⟨h1, _, h3⟩
  · rw [h1]
    simp only [Nat.zero_add]
    exact h3 v
  · rw [h1]
    exact h3 v
@[simp] theorem isIt_nil : isIt [] = false := rfl
@[simp] theorem isIt_flat (l : List (Int × Int)) : isIt (flatA l) = false := by
  cases l with
  | nil => rfl
  | cons p l => obtain ⟨k, v⟩ := p; rfl
/-! ### sets of numbers: maps to true -/
def flatB : List Int → List AV
  | [] => []
  | k :: l => .int .i64 k :: .bool true :: flatB l
def insB (n : Int) (l : List Int) : List Int := if n ∈ l then l else l ++ [n]
@[simp] theorem isIt_flatB (l : List Int) : isIt (flatB l) = false := by cases l <;> rfl
@[simp] theorem flatB_len (l : List Int) : (flatB l).length = 2 * l.length := by
  induction l with
  | nil => rfl
  | cons k l ih => simp only [flatB, List.length_cons, ih]; omega
theorem flatB_append (l : List Int) (n : Int) : flatB (l ++ [n]) = flatB l ++ [.int .i64 n, .bool true] := by
  induction l with
  | nil => rfl
  | cons k l ih => simp only [List.cons_append, flatB, ih]
theorem mfind_flatB (n : Int) : ∀ (l : List Int) (i : Nat), (n ∈ l ∧ ∃ j, mfind n (flatB l) i = some (i + j, .bool true) ∧ wr (flatB l) (2 * j + 1) [.bool true] = flatB l) ∨ (n ∉ l ∧ mfind n (flatB l) i = none)
  | [], i => .inr ⟨by simp, rfl⟩
  | k :: l, i => by
    unfold flatB mfind
    by_cases h : n = k
    · refine .inl ⟨by simp [h], 0, by simp [h], ?_⟩
      simp [wr]
    · rw [if_neg h]
      rcases mfind_flatB n l (i + 1) with ⟨h0, j, h1, h2⟩ | ⟨h0, h1⟩
      · refine .inl ⟨by simp [h0], j + 1, by rw [h1]; congr 2; omega, ?_⟩
        have e2 : 2 * (j + 1) + 1 = (2 * j + 1) + 1 + 1 := by omega
        unfold wr
        simp only [e2, List.take_succ_cons, List.cons_append, List.length_cons, List.length_nil, Nat.zero_add]
        rw [show 2 * j + 1 + 1 + 1 + 1 = (2 * j + 1 + 1) + 1 + 1 by omega, List.drop_succ_cons, List.drop_succ_cons]
        unfold wr at h2
        simp only [List.length_cons, List.length_nil, Nat.zero_add] at h2
        rw [h2]
      · exact .inr ⟨by simp [h, h0], h1⟩
@[simp] theorem mput_flatB (n : Int) (l : List Int) : mputV n (flatB l) (.bool true) = flatB (insB n l) := by
  unfold mputV insB
  rcases mfind_flatB n l 0 with ⟨h0, j, h1, h2⟩ | ⟨h0, h1⟩
  · rw [h1, if_pos h0]
    simp only [Nat.zero_add]
    exact h2
  · rw [h1, if_neg h0, flatB_append]
end Go.Co
