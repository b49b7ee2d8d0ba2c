/- CO: the cells of a box, by places; points of one cell come to the same. -/
import Derived.Test.YtcjflbmpfmibbaaCoGq
namespace Go.Co
open Go.Am Go.Proofs
set_option linter.unusedSimpArgs false
set_option linter.unusedVariables false
/-! ### points that no threshold parts -/
theorem walk_same {l : List Word} {dim : Int} (h : RT l dim) {p o : Point} (hs : ∀ i, i < l.length → (ndAt l i).leaf = false → (p.get (ndAt l i).feature ≤ (ndAt l i).cut ↔ o.get (ndAt l i).feature ≤ (ndAt l i).cut)) : ∀ (f i : Nat), i < l.length → walk l p f i = walk l o f i
  | 0, _, _ => rfl
  | f + 1, i, hi => by
    unfold walk
    cases hl : (ndAt l i).leaf
    · simp only [Bool.false_eq_true, if_false]
      have e : nxt (ndAt l i) p = nxt (ndAt l i) o := by
        unfold nxt
        have := hs i hi hl
        by_cases h1 : p.get (ndAt l i).feature ≤ (ndAt l i).cut
        · rw [if_pos h1, if_pos (this.1 h1)]
        · rw [if_neg h1, if_neg (fun h2 => h1 (this.2 h2))]
      rw [← e]
      exact walk_same h hs f _ (nxt_lt h hi hl p).2
    · simp only [if_true]
/-! ### places of boxes -/
theorem set_get_ite (b : Box) {k i : Int} (s : Span) (h0 : 0 ≤ k) (h5 : k < 5) (i0 : 0 ≤ i) (i5 : i < 5) : (b.set k s).get i = if i = k then s else b.get i := by
  have h1 : k = 0 ∨ k = 1 ∨ k = 2 ∨ k = 3 ∨ k = 4 := by omega
  have h2 : i = 0 ∨ i = 1 ∨ i = 2 ∨ i = 3 ∨ i = 4 := by omega
  rcases h1 with rfl | rfl | rfl | rfl | rfl <;> rcases h2 with rfl | rfl | rfl | rfl | rfl <;> rfl
def ptG (p : Point) (t : Int) (i : Int) : Int := if i < 4 then p.get i else t
theorem inB_pt {b : Box} {p : Point} {t : Int} : InB b p t ↔ ∀ i : Int, 0 ≤ i → i < 5 → InS (b.get i) (ptG p t i) := by
  constructor
  · rintro ⟨h0, h1, h2, h3, h4⟩ i i0 i5
    have h1 : i = 0 ∨ i = 1 ∨ i = 2 ∨ i = 3 ∨ i = 4 := by omega
    rcases h1 with rfl | rfl | rfl | rfl | rfl <;> assumption
  · intro h
    exact ⟨h 0 (by omega) (by omega), h 1 (by omega) (by omega), h 2 (by omega) (by omega), h 3 (by omega) (by omega), h 4 (by omega) (by omega)⟩
theorem empty_get {b : Box} : b.empty = false ↔ ∀ i : Int, 0 ≤ i → i < 5 → (b.get i).lo ≤ (b.get i).hi := by
  constructor
  · intro h i _ _; exact get_spans h i
  · intro h
    have h0 := h 0 (by omega) (by omega)
    have h1 := h 1 (by omega) (by omega)
    have h2 := h 2 (by omega) (by omega)
    have h3 := h 3 (by omega) (by omega)
    have h4 := h 4 (by omega) (by omega)
    unfold Box.empty Span.empty
    simp only [Bool.or_eq_false_iff, decide_eq_false_iff_not]
    simp only [Box.get, Int.reduceEq, if_true, if_false] at h0 h1 h2 h3 h4
    omega
/-! ### one place -/
/-! ### all places -/
structure PartTo (m : Model) (q : Query) (b : Box) (j : Nat) (x : Box) : Prop where
  done : ∀ i : Int, 0 ≤ i → i < j → (x.get i).lo ≤ (x.get i).hi ∧ (b.get i).lo ≤ (x.get i).lo ∧ (x.get i).hi ≤ (b.get i).hi ∧ ∀ t ∈ cutsL m q b i, t < (x.get i).lo ∨ (x.get i).hi ≤ t
  rest : ∀ i : Int, (j : Int) ≤ i → i < 5 → x.get i = b.get i
theorem uncut {m : Model} {q : Query} {x : Box} {k : Int} (h : cutsL m q x k = []) (hf : ¬ featOf q k < 0) {n o : Int} (hn : InS (x.get k) n) (ho : InS (x.get k) o) : ∀ t ∈ thrL m (featOf q k), (n ≤ t ↔ o ≤ t) := by
  intro t ht
  unfold InS at hn ho
  by_cases hc : (x.get k).lo ≤ t ∧ t < (x.get k).hi
  · have : t ∈ cutsL m q x k := by
      unfold cutsL
      rw [if_neg hf, List.mem_filter]
      refine ⟨ht, ?_⟩
      simp only [outS, Bool.not_eq_true', Bool.or_eq_false_iff, decide_eq_false_iff_not]
      omega
    rw [h] at this
    simp at this
  · omega
theorem featOf_lt (q : Query) {k : Int} (h0 : 0 ≤ k) (h4 : k < 4) : featOf q k = k := by unfold featOf; rw [if_pos ⟨h0, h4⟩]
def lowB (b : Box) : Point := ⟨b.s0.lo, b.s1.lo, b.s2.lo, b.s3.lo⟩
theorem low_in {x : Box} (h : x.empty = false) : InB x (lowB x) x.s4.hi := by
  have := empty_spec h
  unfold Span.empty at this
  simp only [decide_eq_false_iff_not] at this
  unfold InB InS lowB
  simp only
  omega
end Go.Co
