/- CO: the cells of a box, by places; points of one cell come to the same. -/
import Derived.Test.YtagfmcachoaacaaCoGq
namespace Go.Co
open Go.Am Go.Proofs
set_option linter.unusedSimpArgs false
set_option linter.unusedVariables false
theorem cuts_ok {m : Model} (hm : RM m) {q : Query} {b : Box} {i : Int} : ∀ t ∈ cutsL m q b i, ok64 t := by
  intro t ht
  unfold cutsL at ht
  split at ht
  · simp at ht
  · rw [List.mem_filter] at ht
    obtain ⟨ht, _⟩ := ht
    obtain ⟨tr, htr, w, hw, hl, _, rfl⟩ := mem_thr.1 ht
    have hr := hm.rt htr
    obtain ⟨j, hj, rfl⟩ := List.mem_iff_getElem.1 hw
    have := ok64_fits (hr.cutOk hj)
    rwa [ndAt_lt hj] at this
/-! ### points that no threshold parts -/
/-! ### places of boxes -/
theorem set_get_ite (b : Box) {k i : Int} (s : Span) (h0 : 0 ≤ k) (h5 : k < 5) (i0 : 0 ≤ i) (i5 : i < 5) : (b.set k s).get i = if i = k then s else b.get i := by
  have h1 : k = 0 ∨ k = 1 ∨ k = 2 ∨ k = 3 ∨ k = 4 := by omega
  have h2 : i = 0 ∨ i = 1 ∨ i = 2 ∨ i = 3 ∨ i = 4 := by omega
  rcases h1 with rfl | rfl | rfl | rfl | rfl <;> rcases h2 with rfl | rfl | rfl | rfl | rfl <;> rfl
theorem empty_get {b : Box} : b.empty = false ↔ ∀ i : Int, 0 ≤ i → i < 5 → (b.get i).lo ≤ (b.get i).hi := by
  constructor
  · intro h i _ _; exact get_spans h i
  · intro h
    have h0 := h 0 (by omega) (by omega)
    have h1 := h 1 (by omega) (by omega)
    have h2 := h 2 (by omega) (by omega)
    have h3 := h 3 (by omega) (by omega)
    have h4 := h 4 (by omega) (by omega)
    unfold Box.empty Span.empty
    simp only [Bool.or_eq_false_iff, decide_eq_false_iff_not]
    simp only [Box.get, Int.reduceEq, if_true, if_false] at h0 h1 h2 h3 h4
    omega
/-! ### one place -/
/-! ### all places -/
theorem cuts_sorted (m : Model) (q : Query) (b : Box) (k : Int) : (cutsL m q b k).Pairwise (· < ·) := by
  unfold cutsL
  split
  · exact .nil
  · exact (thr_sorted m _).filter _
theorem cuts_in {m : Model} {q : Query} {b : Box} {k : Int} : ∀ t ∈ cutsL m q b k, (b.get k).lo ≤ t ∧ t < (b.get k).hi := by
  intro t ht
  unfold cutsL at ht
  split at ht
  · simp at ht
  · rw [List.mem_filter] at ht
    have := ht.2
    simp only [outS, Bool.not_eq_true', Bool.or_eq_false_iff, decide_eq_false_iff_not] at this
    omega
structure PartTo (m : Model) (q : Query) (b : Box) (j : Nat) (x : Box) : Prop where
  done : ∀ i : Int, 0 ≤ i → i < j → (x.get i).lo ≤ (x.get i).hi ∧ (b.get i).lo ≤ (x.get i).lo ∧ (x.get i).hi ≤ (b.get i).hi ∧ ∀ t ∈ cutsL m q b i, t < (x.get i).lo ∨ (x.get i).hi ≤ t
  rest : ∀ i : Int, (j : Int) ≤ i → i < 5 → x.get i = b.get i
def lowB (b : Box) : Point := ⟨b.s0.lo, b.s1.lo, b.s2.lo, b.s3.lo⟩
end Go.Co
