/- CO: boxes of a query, cuts of boxes and their counts. -/
import Derived.Test.YtcjflbmpfmibbaaCoGp
import Derived.Test.YtcjflbmpfmibbaaCoIn
import Derived.Test.YtcjflbmpfmibbaaCoJ
import Derived.Test.YtcjflbmpfmibbaaCoL
namespace Go.Co
open Go.Am Go.Proofs
set_option linter.unusedSimpArgs false
set_option linter.unusedVariables false
def smallB (b : Box) : Prop := small b.s0 ∧ small b.s1 ∧ small b.s2 ∧ small b.s3 ∧ small b.s4
theorem get_spans {b : Box} (h : b.empty = false) (i : Int) : (b.get i).lo ≤ (b.get i).hi := by
  have := empty_spec h
  unfold Span.empty at this
  simp only [decide_eq_false_iff_not] at this
  unfold Box.get
  split
  · omega
  · split
    · omega
    · split
      · omega
      · split <;> omega
theorem set_get (b : Box) {i : Int} (h0 : 0 ≤ i) (h5 : i < 5) : b.set i (b.get i) = b := by
  have : i = 0 ∨ i = 1 ∨ i = 2 ∨ i = 3 ∨ i = 4 := by omega
  rcases this with rfl | rfl | rfl | rfl | rfl <;> rfl
theorem cutB_set (b : Box) {k n : Int} (h0 : 0 ≤ k) (h5 : k < 5) (h1 : (b.get k).lo ≤ n) (h2 : n ≤ (b.get k).hi) :
    cutB b k n = (b.set k ⟨(b.get k).lo, n⟩, b.set k (if n < (b.get k).hi then ⟨n + 1, (b.get k).hi⟩ else noneS)) := by
  unfold cutB
  rw [if_pos ⟨h0, h5⟩]
  unfold cutS
  by_cases h : (b.get k).hi ≤ n
  · have e : n = (b.get k).hi := by omega
    rw [if_pos h, if_neg (by omega)]
    unfold ofS
    rw [if_neg (by omega), ← e]
  · rw [if_neg h, if_pos (by omega)]
    unfold ofS
    rw [if_neg (show ¬ n < (b.get k).lo by omega), if_neg (show ¬ (b.get k).hi < n + 1 by omega), if_pos (show n < (b.get k).hi by omega)]
end Go.Co
