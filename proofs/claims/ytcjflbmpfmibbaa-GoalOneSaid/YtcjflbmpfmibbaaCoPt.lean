/- CO: a part of a box, by numbers. -/
import Derived.Test.YtcjflbmpfmibbaaCoGo
namespace Go.Co
open Go.Am Go.Proofs
set_option linter.unusedSimpArgs false
set_option linter.unusedVariables false
attribute [-simp] Go.Am.eff_gcall
structure PartOk (b x : Box) : Prop where
  some : x.empty = false
  sub : ∀ i : Int, 0 ≤ i → i < 5 → (b.get i).lo ≤ (x.get i).lo ∧ (x.get i).hi ≤ (b.get i).hi
theorem PartOk.set {b x : Box} (h : PartOk b x) {i : Nat} (hi : i < 5) {s : Span} (h1 : s.lo ≤ s.hi) (h2 : (x.get i).lo ≤ s.lo) (h3 : s.hi ≤ (x.get i).hi) : PartOk b (x.set i s) := by
  refine ⟨empty_get.2 fun j j0 j5 => ?_, fun j j0 j5 => ?_⟩
  · rw [set_get_ite x s (by omega) (by omega) j0 j5]
    split
    · exact h1
    · exact get_spans h.some j
  · rw [set_get_ite x s (by omega) (by omega) j0 j5]
    have := h.sub j j0 j5
    split
    · rename_i e; subst e; omega
    · exact this
theorem PartOk.small {b x : Box} (h : PartOk b x) (hb : smallB b) : smallB x := by
  have key : ∀ i : Int, 0 ≤ i → i < 5 → Co.small (x.get i) := fun i i0 i5 => by
    have h1 := get_small hb i
    have h2 := h.sub i i0 i5
    have h3 := get_spans h.some i
    unfold Co.small at *
    omega
  exact ⟨key 0 (by omega) (by omega), key 1 (by omega) (by omega), key 2 (by omega) (by omega), key 3 (by omega) (by omega), key 4 (by omega) (by omega)⟩
end Go.Co
