/- CO: boxes of a query, cuts of boxes and their counts. -/
import Derived.Test.YtcjflbmpfmibbaaCoGp
import Derived.Test.YtcjflbmpfmibbaaCoIn
import Derived.Test.YtcjflbmpfmibbaaCoJ
import Derived.Test.YtcjflbmpfmibbaaCoL
namespace Go.Co
open Go.Am Go.Proofs
set_option linter.unusedSimpArgs false
set_option linter.unusedVariables false
def smallB (b : Box) : Prop := small b.s0 ∧ small b.s1 ∧ small b.s2 ∧ small b.s3 ∧ small b.s4
theorem start_facts (m : Model) (a : Ask) : smallB (startOf (queryOf m a)) ∧ okB (startOf (queryOf m a)) ∧ (startOf (queryOf m a)).empty = false := by
  have hreg : (queryOf m a).region = regionOf m.dim a.spans := rfl
  generalize queryOf m a = q at *
  have h0 := rSpan_le m.dim a.spans 0
  have h1 := rSpan_le m.dim a.spans 1
  have h2 := rSpan_le m.dim a.spans 2
  have h3 := rSpan_le m.dim a.spans 3
  unfold startOf
  rw [hreg]
  by_cases hp : paired q = true
  · rw [if_pos hp]
    have hf := paired_feature hp
    unfold smallB small okB okS64 ok64 Box.empty Span.empty regionOf Box.get
    simp only [Bool.or_eq_false_iff, decide_eq_false_iff_not]
    rcases hf with e | e | e | e <;> rw [e] <;> simp <;> omega
  · rw [if_neg hp]
    unfold smallB small okB okS64 ok64 Box.empty Span.empty regionOf
    simp only [Bool.or_eq_false_iff, decide_eq_false_iff_not]
    omega
theorem get_spans {b : Box} (h : b.empty = false) (i : Int) : (b.get i).lo ≤ (b.get i).hi := by
  have := empty_spec h
  unfold Span.empty at this
  simp only [decide_eq_false_iff_not] at this
  unfold Box.get
  split
  · omega
  · split
    · omega
    · split
      · omega
      · split <;> omega
theorem get_small {b : Box} (h : smallB b) (i : Int) : small (b.get i) := by
  obtain ⟨h0, h1, h2, h3, h4⟩ := h
  unfold Box.get
  split
  · exact h0
  · split
    · exact h1
    · split
      · exact h2
      · split
        · exact h3
        · exact h4
end Go.Co
