/- CO: right models, right queries; what numbers make is right. -/
import Derived.Test.YtcjflbmpfmibbaaCoTree
namespace Go.Co
/-! ### models -/
def Bias.get (b : Bias) (c : Int) : Int := if c = 0 then b.b0 else if c = 1 then b.b1 else b.b2
structure RM (m : Model) : Prop where
  dim : 1 ≤ m.dim ∧ m.dim ≤ 4
  classes : 1 ≤ m.classes ∧ m.classes ≤ 3
  bias : fits m.bias.b0 = true ∧ fits m.bias.b1 = true ∧ fits m.bias.b2 = true
  none1 : m.classes ≤ 1 → m.bias.b1 = 0
  none2 : m.classes ≤ 2 → m.bias.b2 = 0
  trees : m.trees.length ≤ 8
  tree : ∀ t ∈ m.trees, 0 ≤ t.cls ∧ t.cls < m.classes ∧ RT t.nodes m.dim
def mDim (f : Forest) : Int := within f.dim 1 3
def mClasses (f : Forest) : Int := within f.classes 1 3
def mBias (f : Forest) (c : Nat) : Int := if (c : Int) < mClasses f then within (pick f.bias c) (-500) 500 else 0
def mTree (f : Forest) (t : KTree) : Tree := ⟨within t.cls 0 (mClasses f - 1), treeNodes t (mDim f)⟩
def modelOf (f : Forest) : Model := ⟨mDim f, mClasses f, ⟨mBias f 0, mBias f 1, mBias f 2⟩, (f.trees.take 4).map (mTree f)⟩
theorem mDim_le (f : Forest) : 1 ≤ mDim f ∧ mDim f ≤ 3 := within_le _ _ _ (by omega)
theorem mClasses_le (f : Forest) : 1 ≤ mClasses f ∧ mClasses f ≤ 3 := within_le _ _ _ (by omega)
theorem mBias_le (f : Forest) (c : Nat) : -500 ≤ mBias f c ∧ mBias f c ≤ 500 := by
  unfold mBias
  split
  · exact within_le _ _ _ (by omega)
  · omega
theorem fits_of {n : Int} (h : -2147483648 ≤ n ∧ n ≤ 2147483647) : fits n = true := by
  unfold fits
  rw [Bool.and_eq_true, decide_eq_true_eq, decide_eq_true_eq]
  exact h
theorem of_fits {n : Int} (h : fits n = true) : -2147483648 ≤ n ∧ n ≤ 2147483647 := by
  unfold fits at h
  rw [Bool.and_eq_true, decide_eq_true_eq, decide_eq_true_eq] at h
  exact h
theorem rm_modelOf (f : Forest) : RM (modelOf f) := by
  have hd := mDim_le f
  have hc := mClasses_le f
  have hb : ∀ c, fits (mBias f c) = true := fun c => fits_of (by have := mBias_le f c; omega)
  refine ⟨⟨hd.1, show mDim f ≤ 4 by omega⟩, hc, ⟨hb 0, hb 1, hb 2⟩, ?_, ?_, ?_, ?_⟩
  · intro h
    show mBias f 1 = 0
    have h : mClasses f ≤ 1 := h
    unfold mBias
    rw [if_neg (by omega)]
  · intro h
    show mBias f 2 = 0
    have h : mClasses f ≤ 2 := h
    unfold mBias
    rw [if_neg (by omega)]
  · simp [modelOf]
    omega
  · intro t ht
    simp only [modelOf, List.mem_map] at ht
    obtain ⟨k, hk, rfl⟩ := ht
    have := within_le k.cls 0 (mClasses f - 1) (by omega)
    refine ⟨this.1, ?_, rt_treeNodes k (mDim f) hd.1 (by omega)⟩
    show within k.cls 0 (mClasses f - 1) < mClasses f
    omega
/-! ### regions, queries -/
def rSpan (dim : Int) (l : List Int) (i : Nat) : Span :=
  if (i : Int) < dim then ⟨within (pick l (2 * i)) (-2) 9, within (pick l (2 * i)) (-2) 9 + within (pick l (2 * i + 1)) 0 11⟩ else ⟨0, 0⟩
def regionOf (dim : Int) (l : List Int) : Box := ⟨rSpan dim l 0, rSpan dim l 1, rSpan dim l 2, rSpan dim l 3, ⟨0, 0⟩⟩
theorem rSpan_le (dim : Int) (l : List Int) (i : Nat) : -2 ≤ (rSpan dim l i).lo ∧ (rSpan dim l i).lo ≤ (rSpan dim l i).hi ∧ (rSpan dim l i).hi ≤ 20 := by
  have h1 := within_le (pick l (2 * i)) (-2) 9 (by omega)
  have h2 := within_le (pick l (2 * i + 1)) 0 11 (by omega)
  unfold rSpan
  split
  · simp only
    omega
  · simp only
    omega
theorem rSpan_out {dim : Int} (l : List Int) {i : Nat} (h : dim ≤ i) : rSpan dim l i = ⟨0, 0⟩ := by
  unfold rSpan
  rw [if_neg (by omega)]
def okSpan (dim : Int) (i : Int) (s : Span) : Bool := (decide (i < dim) || decide (s = ⟨0, 0⟩)) && !s.empty && fits s.lo && fits s.hi
def okRegion (b : Box) (dim : Int) : Bool := okSpan dim 0 b.s0 && okSpan dim 1 b.s1 && okSpan dim 2 b.s2 && okSpan dim 3 b.s3 && okSpan dim 4 b.s4
def okKind (m : Model) (q : Query) : Bool :=
  if q.kind = 1 then decide (q.lo ≤ q.hi) && decide (q.feature = 0) && !q.falls
  else if q.kind = 2 then decide (2 ≤ m.classes) && decide (q.lo = 0) && decide (q.hi = 0) && decide (q.feature = 0) && !q.falls
  else if q.kind = 3 then decide (0 ≤ q.feature) && decide (q.feature < m.dim) && decide (q.lo = 0) && decide (q.hi = 0)
  else false
def okQuery (m : Model) (q : Query) : Bool := decide (0 ≤ q.cls) && decide (q.cls < m.classes) && decide (0 ≤ q.budget) && decide (q.budget ≤ 65536) && okRegion q.region m.dim && okKind m q
theorem okRegion_regionOf (dim : Int) (l : List Int) (h : dim ≤ 4) : okRegion (regionOf dim l) dim = true := by
  have key : ∀ i : Nat, okSpan dim i (rSpan dim l i) = true := by
    intro i
    have h1 := rSpan_le dim l i
    unfold okSpan
    have h2 : (rSpan dim l i).empty = false := by
      unfold Span.empty
      rw [decide_eq_false_iff_not]
      omega
    rw [h2, fits_of (n := (rSpan dim l i).lo) (by omega), fits_of (n := (rSpan dim l i).hi) (by omega)]
    by_cases h3 : (i : Int) < dim
    · simp [h3]
    · have := rSpan_out (dim := dim) l (i := i) (by omega)
      simp [this]
  have k0 := key 0
  have k1 := key 1
  have k2 := key 2
  have k3 := key 3
  have k4 : okSpan dim 4 ⟨0, 0⟩ = true := by
    have : fits 0 = true := rfl
    simp [okSpan, Span.empty, this]
  unfold okRegion regionOf
  simp only [k4, Bool.and_true, Bool.and_eq_true]
  exact ⟨⟨⟨k0, k1⟩, k2⟩, k3⟩
end Go.Co
