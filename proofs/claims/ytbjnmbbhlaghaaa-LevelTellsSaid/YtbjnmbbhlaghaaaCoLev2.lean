/- CO: facts of levels. -/
import Derived.Test.YtbjnmbbhlaghaaaCoLev
namespace Go.Co
open Go.Am
set_option linter.unusedSimpArgs false
set_option linter.unusedVariables false

theorem counts_head (most : Int) : ∀ (f : Nat) (gs : List (List Piece)), ∃ r, (climbP most f gs).2 = (gs.length : Int) :: r
  | 0, gs => ⟨[], rfl⟩
  | f + 1, gs => by
    rw [climbP]
    split
    · exact ⟨_, rfl⟩
    · exact ⟨_, rfl⟩
theorem counts_step (most : Int) : ∀ (f : Nat) (gs : List (List Piece)) (i : Nat) (h : i + 1 < (climbP most f gs).2.length), (climbP most f gs).2[i + 1] < (climbP most f gs).2[i] ∧ (climbP most f gs).2[i] ≤ 2 * (climbP most f gs).2[i + 1]
  | 0, gs, i, h => by simp [climbP] at h
  | f + 1, gs, i, h => by
    have hl := level_len (most := most) gs
    by_cases hm : (levelP most gs).2 = true
    · have e : climbP most (f + 1) gs = ((climbP most f (levelP most gs).1).1, (gs.length : Int) :: (climbP most f (levelP most gs).1).2) := by rw [climbP, if_pos hm]
      simp only [e] at h ⊢
      cases i with
      | zero =>
        obtain ⟨r, hr⟩ := counts_head most f (levelP most gs).1
        have := hl.2.2.1 hm
        simp only [hr, List.getElem_cons_succ, List.getElem_cons_zero]
        omega
      | succ i =>
        have := counts_step most f (levelP most gs).1 i (by simpa using h)
        simpa using this
    · have e : climbP most (f + 1) gs = (gs, [(gs.length : Int)]) := by rw [climbP, if_neg hm]
      rw [e] at h
      simp at h
theorem counts_last (most : Int) : ∀ (f : Nat) (gs : List (List Piece)), (climbP most f gs).2.getLast? = some ((climbP most f gs).1.length : Int)
  | 0, gs => rfl
  | f + 1, gs => by
    by_cases hm : (levelP most gs).2 = true
    · have e : climbP most (f + 1) gs = ((climbP most f (levelP most gs).1).1, (gs.length : Int) :: (climbP most f (levelP most gs).1).2) := by rw [climbP, if_pos hm]
      obtain ⟨r, hr⟩ := counts_head most f (levelP most gs).1
      have ih := counts_last most f (levelP most gs).1
      rw [e]
      simp only
      rw [hr] at ih ⊢
      rw [List.getLast?_cons_cons]
      exact ih
    · have e : climbP most (f + 1) gs = (gs, [(gs.length : Int)]) := by rw [climbP, if_neg hm]
      rw [e]
      rfl
/-- what is known of the counts of all levels -/
theorem counts_all {most : Int} {gs : List (List Piece)} {l : List Int} (h : l = (climb most gs).2) : ∃ (h0 : 0 < l.length), l[0] = gs.length ∧ (∀ i (h : i + 1 < l.length), l[i + 1] < l[i] ∧ l[i] ≤ 2 * l[i + 1]) ∧ l[l.length - 1] = (climb most gs).1.length := by
  subst h
  obtain ⟨r, hr⟩ := counts_head most gs.length gs
  have h1 := counts_step most gs.length gs
  have h2 := counts_last most gs.length gs
  have h3 : 0 < (climb most gs).2.length := by unfold climb; rw [hr]; simp
  refine ⟨h3, ?_, fun i h => h1 i h, ?_⟩
  · unfold climb
    simp [hr]
  · have h4 : (climb most gs).2.getLast? = some ((climb most gs).1.length : Int) := h2
    rw [List.getLast?_eq_getElem?, List.getElem?_eq_getElem (by omega)] at h4
    exact Option.some.inj h4
theorem counts_le {most : Int} : ∀ (f : Nat) (gs : List (List Piece)), gs.length ≤ f → ∀ x ∈ (climbP most f gs).2, 0 ≤ x ∧ x ≤ gs.length
  | 0, gs, _, x, hx => by simp [climbP] at hx; omega
  | f + 1, gs, hf, x, hx => by
    have hl := level_len (most := most) gs
    by_cases hm : (levelP most gs).2 = true
    · have e : climbP most (f + 1) gs = ((climbP most f (levelP most gs).1).1, (gs.length : Int) :: (climbP most f (levelP most gs).1).2) := by rw [climbP, if_pos hm]
      have h1 := hl.2.2.1 hm
      rw [e] at hx
      rcases List.mem_cons.1 hx with rfl | hx
      · omega
      · have := counts_le f (levelP most gs).1 (by omega) x hx
        omega
    · have e : climbP most (f + 1) gs = (gs, [(gs.length : Int)]) := by rw [climbP, if_neg hm]
      rw [e] at hx
      simp at hx
      omega
theorem counts_len {most : Int} : ∀ (f : Nat) (gs : List (List Piece)), (climbP most f gs).2.length ≤ f + 1
  | 0, gs => by simp [climbP]
  | f + 1, gs => by
    have := counts_len (most := most) f (levelP most gs).1
    rw [climbP]
    split
    · simpa using this
    · simp

/-- a point is in some piece of each group -/
def Covers (p : Point) (t : Int) (gs : List (List Piece)) : Prop := ∀ g ∈ gs, ∃ x ∈ g, InB x.box p t
theorem Covers.prod {p : Point} {t : Int} {a b : List Piece} (ha : ∃ x ∈ a, InB x.box p t) (hb : ∃ x ∈ b, InB x.box p t) : ∃ x ∈ prod a b, InB x.box p t := by
  obtain ⟨x, hx, h1⟩ := ha
  obtain ⟨y, hy, h2⟩ := hb
  have h3 : InB (meetB x.box y.box) p t := inB_meet.2 ⟨h1, h2⟩
  exact ⟨_, mem_prod.2 ⟨x, hx, y, hy, empty_false.2 ⟨p, t, h3⟩, rfl⟩, h3⟩
theorem Covers.level {p : Point} {t : Int} {most : Int} : ∀ (gs : List (List Piece)), Covers p t gs → Covers p t (levelP most gs).1
  | [], h => h
  | [g], h => h
  | g1 :: g2 :: gs, h => by
    rw [levelP]
    split
    · intro g hg
      rcases List.mem_cons.1 hg with rfl | hg
      · exact Covers.prod (h g1 (by simp)) (h g2 (by simp))
      · exact Covers.level gs (fun g hg => h g (by simp [hg])) g hg
    · intro g hg
      rcases List.mem_cons.1 hg with rfl | hg
      · exact h _ (by simp)
      · exact Covers.level (g2 :: gs) (fun g hg => h g (by simp at hg; simp [hg])) g hg
theorem Covers.climb {p : Point} {t : Int} {most : Int} : ∀ (f : Nat) (gs : List (List Piece)), Covers p t gs → Covers p t (climbP most f gs).1
  | 0, gs, h => h
  | f + 1, gs, h => by
    rw [climbP]
    split
    · exact Covers.climb f _ (Covers.level gs h)
    · exact h
theorem level_none {p : Point} {t : Int} : ∀ (gs : List (List Piece)), Covers p t gs → levelP 0 gs = (gs, false)
  | [], h => rfl
  | [g], h => rfl
  | g1 :: g2 :: gs, h => by
    obtain ⟨x, hx, _⟩ := Covers.prod (h g1 (by simp)) (h g2 (by simp))
    have hp : ¬ ((Co.prod g1 g2).length : Int) ≤ 0 := by
      have := List.length_pos_of_mem hx
      omega
    have ih := level_none (g2 :: gs) (fun g hg => h g (by simp at hg; simp [hg]))
    rw [levelP, if_neg hp, ih]
theorem climb_none {p : Point} {t : Int} {gs : List (List Piece)} (h : Covers p t gs) : climb 0 gs = (gs, [(gs.length : Int)]) := by
  unfold Co.climb
  cases hl : gs.length with
  | zero => rw [climbP, hl]
  | succ f => rw [climbP, level_none gs h, if_neg (by simp), hl]

theorem prod_len (a b : List Piece) : (prod a b).length ≤ a.length * b.length := by
  induction a with
  | nil => simp [prod]
  | cons x a ih =>
    have h1 : prod (x :: a) b = row x b ++ prod a b := by simp [prod]
    have h2 : (row x b).length ≤ b.length := List.length_filterMap_le _ _
    rw [h1, List.length_append, List.length_cons, Nat.succ_mul]
    omega
theorem all_meet {gs : List (List Piece)} (h4 : gs.length ≤ 4) (hw : ∀ g ∈ gs, g.length ≤ 31) : (climb 1073741824 gs).1.length = min gs.length 1 := by
  have two : ∀ (a b : List Piece) (x y : Nat), a.length ≤ x → b.length ≤ y → (prod a b).length ≤ x * y := fun a b x y h1 h2 => Nat.le_trans (prod_len a b) (Nat.mul_le_mul h1 h2)
  match gs, h4, hw with
  | [], _, _ => rfl
  | [a], _, _ => rfl
  | [a, b], _, hw =>
    have h1 := two a b 31 31 (hw a (by simp)) (hw b (by simp))
    have c1 : ((prod a b).length : Int) ≤ 1073741824 := by omega
    simp [climb, climbP, levelP, c1]
  | [a, b, c], _, hw =>
    have h1 := two a b 31 31 (hw a (by simp)) (hw b (by simp))
    have h2 := two (prod a b) c 961 31 h1 (hw c (by simp))
    have c1 : ((prod a b).length : Int) ≤ 1073741824 := by omega
    have c2 : ((prod (prod a b) c).length : Int) ≤ 1073741824 := by omega
    simp [climb, climbP, levelP, c1, c2]
  | [a, b, c, d], _, hw =>
    have h1 := two a b 31 31 (hw a (by simp)) (hw b (by simp))
    have h2 := two c d 31 31 (hw c (by simp)) (hw d (by simp))
    have h3 := two (prod a b) (prod c d) 961 961 h1 h2
    have c1 : ((prod a b).length : Int) ≤ 1073741824 := by omega
    have c2 : ((prod c d).length : Int) ≤ 1073741824 := by omega
    have c3 : ((prod (prod a b) (prod c d)).length : Int) ≤ 1073741824 := by omega
    simp [climb, climbP, levelP, c1, c2, c3]
  | _ :: _ :: _ :: _ :: _ :: _, h, _ =>
    exact absurd h (by simp)

theorem startG_covers {m : Model} (h : RM m) (c : Int) {b : Box} {p : Point} {t : Int} (hp : InB b p t) : Covers p t (startG m c b) := by
  intro g hg
  unfold startG at hg
  simp only [List.mem_map, List.mem_filter, decide_eq_true_eq] at hg
  obtain ⟨tr, ⟨ht, hc⟩, rfl⟩ := hg
  obtain ⟨x, hx, h1, h2⟩ := piece_of (h.rt ht) hp
  exact ⟨x, hx, h1⟩
theorem range_start {c : Int} {b : Box} (he : b.empty = false) : ∀ (l : List Tree) (a : Int × Int), ((l.filter fun t => decide (t.cls = c)).map fun t => pieces t.nodes b).foldl rangeF a = l.foldl (boundF c b) a
  | [], a => rfl
  | t :: l, a => by
    rw [List.foldl_cons, List.filter_cons]
    by_cases h : t.cls = c
    · have e : boundF c b a t = rangeF a (pieces t.nodes b) := by
        unfold boundF rangeF boundT
        rw [if_pos h, he]
        rfl
      rw [if_pos (by simpa using h), e, List.map_cons, List.foldl_cons, range_start he l]
    · have e : boundF c b a t = a := by unfold boundF; rw [if_neg h]
      rw [if_neg (by simpa using h), e, range_start he l]
theorem range_none {m : Model} (h : RM m) {c : Int} {b : Box} (he : b.empty = false) (h0 : 0 ≤ c) (h1 : c < m.classes) : rangeP m c b 0 = ⟨(boundP m c b).1, (boundP m c b).2, decide (((startG m c b).length : Int) ≤ 1)⟩ := by
  obtain ⟨p, t, hp⟩ := empty_false.1 he
  unfold rangeP
  rw [if_neg (by simp [he]; omega), climb_none (startG_covers h c hp)]
  simp only
  have := range_start (c := c) he m.trees (m.bias.get c, m.bias.get c)
  unfold boundP
  unfold startG
  rw [this]
end Go.Co
