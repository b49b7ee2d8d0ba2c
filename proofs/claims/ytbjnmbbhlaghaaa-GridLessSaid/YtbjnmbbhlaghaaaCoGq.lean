/- CO: boxes of a query, cuts of boxes and their counts. -/
import Derived.Test.YtbjnmbbhlaghaaaCoGp
import Derived.Test.YtbjnmbbhlaghaaaCoIn
import Derived.Test.YtbjnmbbhlaghaaaCoJ
import Derived.Test.YtbjnmbbhlaghaaaCoL
namespace Go.Co
open Go.Am Go.Proofs
set_option linter.unusedSimpArgs false
set_option linter.unusedVariables false
def smallB (b : Box) : Prop := small b.s0 ∧ small b.s1 ∧ small b.s2 ∧ small b.s3 ∧ small b.s4
theorem start_facts (m : Model) (a : Ask) : smallB (startOf (queryOf m a)) ∧ okB (startOf (queryOf m a)) ∧ (startOf (queryOf m a)).empty = false := by
  have hreg : (queryOf m a).region = regionOf m.dim a.spans := rfl
  generalize queryOf m a = q at *
  have h0 := rSpan_le m.dim a.spans 0
  have h1 := rSpan_le m.dim a.spans 1
  have h2 := rSpan_le m.dim a.spans 2
  have h3 := rSpan_le m.dim a.spans 3
  unfold startOf
  rw [hreg]
  by_cases hp : paired q = true
  · rw [if_pos hp]
    have hf := paired_feature hp
    unfold smallB small okB okS64 ok64 Box.empty Span.empty regionOf Box.get
    simp only [Bool.or_eq_false_iff, decide_eq_false_iff_not]
    rcases hf with e | e | e | e <;> rw [e] <;> simp <;> omega
  · rw [if_neg hp]
    unfold smallB small okB okS64 ok64 Box.empty Span.empty regionOf
    simp only [Bool.or_eq_false_iff, decide_eq_false_iff_not]
    omega
theorem get_spans {b : Box} (h : b.empty = false) (i : Int) : (b.get i).lo ≤ (b.get i).hi := by
  have := empty_spec h
  unfold Span.empty at this
  simp only [decide_eq_false_iff_not] at this
  unfold Box.get
  split
  · omega
  · split
    · omega
    · split
      · omega
      · split <;> omega
theorem get_small {b : Box} (h : smallB b) (i : Int) : small (b.get i) := by
  obtain ⟨h0, h1, h2, h3, h4⟩ := h
  unfold Box.get
  split
  · exact h0
  · split
    · exact h1
    · split
      · exact h2
      · split
        · exact h3
        · exact h4
theorem set_get (b : Box) {i : Int} (h0 : 0 ≤ i) (h5 : i < 5) : b.set i (b.get i) = b := by
  have : i = 0 ∨ i = 1 ∨ i = 2 ∨ i = 3 ∨ i = 4 := by omega
  rcases this with rfl | rfl | rfl | rfl | rfl <;> rfl
theorem set_empty {b : Box} (h : b.empty = false) (i : Int) (s : Span) (h0 : 0 ≤ i) (h5 : i < 5) : (b.set i s).empty = s.empty := by
  obtain ⟨e0, e1, e2, e3, e4⟩ := empty_spec h
  have : i = 0 ∨ i = 1 ∨ i = 2 ∨ i = 3 ∨ i = 4 := by omega
  rcases this with rfl | rfl | rfl | rfl | rfl <;> simp [Box.set, Box.empty, e0, e1, e2, e3, e4]
theorem cutB_set (b : Box) {k n : Int} (h0 : 0 ≤ k) (h5 : k < 5) (h1 : (b.get k).lo ≤ n) (h2 : n ≤ (b.get k).hi) :
    cutB b k n = (b.set k ⟨(b.get k).lo, n⟩, b.set k (if n < (b.get k).hi then ⟨n + 1, (b.get k).hi⟩ else noneS)) := by
  unfold cutB
  rw [if_pos ⟨h0, h5⟩]
  unfold cutS
  by_cases h : (b.get k).hi ≤ n
  · have e : n = (b.get k).hi := by omega
    rw [if_pos h, if_neg (by omega)]
    unfold ofS
    rw [if_neg (by omega), ← e]
  · rw [if_neg h, if_pos (by omega)]
    unfold ofS
    rw [if_neg (show ¬ n < (b.get k).lo by omega), if_neg (show ¬ (b.get k).hi < n + 1 by omega), if_pos (show n < (b.get k).hi by omega)]
def cutK (m : Model) (q : Query) (k : Int) (s : Span) : Nat := if featOf q k < 0 then 0 else inN (thrL m (featOf q k)) s.lo s.hi
theorem count_set (m : Model) (hm : RM m) (q : Query) (b : Box) {k : Int} (h0 : 0 ≤ k) (h5 : k < 5) : ∃ A : Int, 1 ≤ A ∧ ∀ s : Span, countM m q (b.set k s) = A * (1 + (cutK m q k s : Int)) := by
  have k0 := (kN_le hm q b 0).1
  have k1 := (kN_le hm q b 1).1
  have k2 := (kN_le hm q b 2).1
  have k3 := (kN_le hm q b 3).1
  have k4 := (kN_le hm q b 4).1
  have pos : ∀ x y : Int, 1 ≤ x → 1 ≤ y → 1 ≤ x * y := fun x y hx hy => by
    have := Int.mul_le_mul hx hy (by omega) (by omega)
    omega
  have : k = 0 ∨ k = 1 ∨ k = 2 ∨ k = 3 ∨ k = 4 := by omega
  rcases this with rfl | rfl | rfl | rfl | rfl
  · refine ⟨kN m q b 1 * kN m q b 2 * kN m q b 3 * kN m q b 4, pos _ _ (pos _ _ (pos _ _ k1 k2) k3) k4, fun s => ?_⟩
    unfold countM
    rw [show kN m q (b.set 0 s) 0 = 1 + (cutK m q 0 s : Int) from rfl, show kN m q (b.set 0 s) 1 = kN m q b 1 from rfl, show kN m q (b.set 0 s) 2 = kN m q b 2 from rfl, show kN m q (b.set 0 s) 3 = kN m q b 3 from rfl, show kN m q (b.set 0 s) 4 = kN m q b 4 from rfl]
    generalize kN m q b 1 = x1
    generalize kN m q b 2 = x2
    generalize kN m q b 3 = x3
    generalize kN m q b 4 = x4
    generalize 1 + (cutK m q 0 s : Int) = y
    ac_rfl
  · refine ⟨kN m q b 0 * kN m q b 2 * kN m q b 3 * kN m q b 4, pos _ _ (pos _ _ (pos _ _ k0 k2) k3) k4, fun s => ?_⟩
    unfold countM
    rw [show kN m q (b.set 1 s) 1 = 1 + (cutK m q 1 s : Int) from rfl, show kN m q (b.set 1 s) 0 = kN m q b 0 from rfl, show kN m q (b.set 1 s) 2 = kN m q b 2 from rfl, show kN m q (b.set 1 s) 3 = kN m q b 3 from rfl, show kN m q (b.set 1 s) 4 = kN m q b 4 from rfl]
    generalize kN m q b 0 = x1
    generalize kN m q b 2 = x2
    generalize kN m q b 3 = x3
    generalize kN m q b 4 = x4
    generalize 1 + (cutK m q 1 s : Int) = y
    ac_rfl
  · refine ⟨kN m q b 0 * kN m q b 1 * kN m q b 3 * kN m q b 4, pos _ _ (pos _ _ (pos _ _ k0 k1) k3) k4, fun s => ?_⟩
    unfold countM
    rw [show kN m q (b.set 2 s) 2 = 1 + (cutK m q 2 s : Int) from rfl, show kN m q (b.set 2 s) 0 = kN m q b 0 from rfl, show kN m q (b.set 2 s) 1 = kN m q b 1 from rfl, show kN m q (b.set 2 s) 3 = kN m q b 3 from rfl, show kN m q (b.set 2 s) 4 = kN m q b 4 from rfl]
    generalize kN m q b 0 = x1
    generalize kN m q b 1 = x2
    generalize kN m q b 3 = x3
    generalize kN m q b 4 = x4
    generalize 1 + (cutK m q 2 s : Int) = y
    ac_rfl
  · refine ⟨kN m q b 0 * kN m q b 1 * kN m q b 2 * kN m q b 4, pos _ _ (pos _ _ (pos _ _ k0 k1) k2) k4, fun s => ?_⟩
    unfold countM
    rw [show kN m q (b.set 3 s) 3 = 1 + (cutK m q 3 s : Int) from rfl, show kN m q (b.set 3 s) 0 = kN m q b 0 from rfl, show kN m q (b.set 3 s) 1 = kN m q b 1 from rfl, show kN m q (b.set 3 s) 2 = kN m q b 2 from rfl, show kN m q (b.set 3 s) 4 = kN m q b 4 from rfl]
    generalize kN m q b 0 = x1
    generalize kN m q b 1 = x2
    generalize kN m q b 2 = x3
    generalize kN m q b 4 = x4
    generalize 1 + (cutK m q 3 s : Int) = y
    ac_rfl
  · refine ⟨kN m q b 0 * kN m q b 1 * kN m q b 2 * kN m q b 3, pos _ _ (pos _ _ (pos _ _ k0 k1) k2) k3, fun s => ?_⟩
    unfold countM
    rw [show kN m q (b.set 4 s) 4 = 1 + (cutK m q 4 s : Int) from rfl, show kN m q (b.set 4 s) 0 = kN m q b 0 from rfl, show kN m q (b.set 4 s) 1 = kN m q b 1 from rfl, show kN m q (b.set 4 s) 2 = kN m q b 2 from rfl, show kN m q (b.set 4 s) 3 = kN m q b 3 from rfl]
theorem count_pos {m : Model} (hm : RM m) (q : Query) (b : Box) : 1 ≤ countM m q b := by
  have pos : ∀ x y : Int, 1 ≤ x → 1 ≤ y → 1 ≤ x * y := fun x y hx hy => by
    have := Int.mul_le_mul hx hy (by omega) (by omega)
    omega
  exact pos _ _ (pos _ _ (pos _ _ (pos _ _ (kN_le hm q b 0).1 (kN_le hm q b 1).1) (kN_le hm q b 2).1) (kN_le hm q b 3).1) (kN_le hm q b 4).1
theorem count_one (m : Model) (q : Query) (a b c d e : Int) : countM m q ⟨⟨a, a⟩, ⟨b, b⟩, ⟨c, c⟩, ⟨d, d⟩, ⟨e, e⟩⟩ = 1 := by
  have key : ∀ (x : Box) (k : Int), (x.get k).lo = (x.get k).hi → kN m q x k = 1 := fun x k h => by
    unfold kN cutN
    split
    · rfl
    · rw [inN_none _ (by omega)]; rfl
  unfold countM
  rw [key _ 0 rfl, key _ 1 rfl, key _ 2 rfl, key _ 3 rfl, key _ 4 rfl]
  rfl
theorem cutK_split (m : Model) (q : Query) (k : Int) {s : Span} {n : Int} (h1 : s.lo ≤ n) (h2 : n ≤ s.hi) : cutK m q k ⟨s.lo, n⟩ ≤ cutK m q k s ∧ cutK m q k ⟨n + 1, s.hi⟩ ≤ cutK m q k s ∧ cutK m q k s ≤ cutK m q k ⟨s.lo, n⟩ + cutK m q k ⟨n + 1, s.hi⟩ + 1 ∧ (n = s.hi → cutK m q k ⟨s.lo, n⟩ = cutK m q k s) := by
  unfold cutK
  by_cases h : featOf q k < 0
  · rw [if_pos h, if_pos h, if_pos h]; omega
  · rw [if_neg h, if_neg h, if_neg h]
    have := inN_split (thr_sorted m (featOf q k)) h1 h2
    exact ⟨by simp only at *; omega, by simp only at *; omega, this.2, fun e => by rw [e]⟩
theorem count_cut {m : Model} (hm : RM m) (q : Query) {b : Box} (hb : b.empty = false) {k n : Int} (h0 : 0 ≤ k) (h5 : k < 5) (h1 : (b.get k).lo ≤ n) (h2 : n ≤ (b.get k).hi) :
    countM m q (cutB b k n).1 ≤ countM m q b ∧ ((cutB b k n).2.empty = true → countM m q (cutB b k n).1 = countM m q b) ∧
    ((cutB b k n).2.empty = false → countM m q (cutB b k n).2 ≤ countM m q b ∧ countM m q b ≤ countM m q (cutB b k n).1 + countM m q (cutB b k n).2) := by
  obtain ⟨A, hA, hs⟩ := count_set m hm q b h0 h5
  have hb0 : countM m q b = A * (1 + (cutK m q k (b.get k) : Int)) := by rw [← hs, set_get b h0 h5]
  obtain ⟨c1, c2, c3, c4⟩ := cutK_split m q k h1 h2
  rw [cutB_set b h0 h5 h1 h2]
  simp only
  rw [hs, hb0]
  have mono : ∀ x y : Nat, x ≤ y → A * (1 + (x : Int)) ≤ A * (1 + (y : Int)) := fun x y h => Int.mul_le_mul_of_nonneg_left (by omega) (by omega)
  refine ⟨mono _ _ c1, ?_, ?_⟩
  · rw [set_empty hb k _ h0 h5]
    intro he
    have hn : n = (b.get k).hi := by
      apply Classical.byContradiction
      intro hne
      rw [if_pos (by omega)] at he
      unfold Span.empty at he
      simp only [decide_eq_true_eq] at he
      omega
    rw [c4 hn]
  · rw [set_empty hb k _ h0 h5]
    intro he
    have hn : n < (b.get k).hi := by
      apply Classical.byContradiction
      intro hne
      rw [if_neg hne] at he
      simp [Span.empty, noneS] at he
    rw [if_pos hn, hs]
    refine ⟨mono _ _ c2, ?_⟩
    rw [← Int.mul_add]
    exact Int.mul_le_mul_of_nonneg_left (by omega) (by omega)
end Go.Co
