/- CO: facts of levels. -/
import Derived.Test.YtcjflbmpfmibbaaCoLev
namespace Go.Co
open Go.Am
set_option linter.unusedSimpArgs false
set_option linter.unusedVariables false
def Covers (p : Point) (t : Int) (gs : List (List Piece)) : Prop := ∀ g ∈ gs, ∃ x ∈ g, InB x.box p t
theorem Covers.prod {p : Point} {t : Int} {a b : List Piece} (ha : ∃ x ∈ a, InB x.box p t) (hb : ∃ x ∈ b, InB x.box p t) : ∃ x ∈ prod a b, InB x.box p t := by
  obtain ⟨x, hx, h1⟩ := ha
  obtain ⟨y, hy, h2⟩ := hb
  have h3 : InB (meetB x.box y.box) p t := inB_meet.2 ⟨h1, h2⟩
  exact ⟨_, mem_prod.2 ⟨x, hx, y, hy, empty_false.2 ⟨p, t, h3⟩, rfl⟩, h3⟩
theorem Covers.level {p : Point} {t : Int} {most : Int} : ∀ (gs : List (List Piece)), Covers p t gs → Covers p t (levelP most gs).1
  | [], h => h
  | [g], h => h
  | g1 :: g2 :: gs, h => by
    rw [levelP]
    split
    · intro g hg
      rcases List.mem_cons.1 hg with rfl | hg
      · exact Covers.prod (h g1 (by simp)) (h g2 (by simp))
      · exact Covers.level gs (fun g hg => h g (by simp [hg])) g hg
    · intro g hg
      rcases List.mem_cons.1 hg with rfl | hg
      · exact h _ (by simp)
      · exact Covers.level (g2 :: gs) (fun g hg => h g (by simp at hg; simp [hg])) g hg
theorem Covers.climb {p : Point} {t : Int} {most : Int} : ∀ (f : Nat) (gs : List (List Piece)), Covers p t gs → Covers p t (climbP most f gs).1
  | 0, gs, h => h
  | f + 1, gs, h => by
    rw [climbP]
    split
    · exact Covers.climb f _ (Covers.level gs h)
    · exact h
end Go.Co
