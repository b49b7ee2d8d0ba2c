/- CO: texts of this claim, one behind the other. -/
import Derived.Test.YtlbfmeijjgphfaaGreatCz3
set_option linter.unusedVariables false
set_option linter.unusedSimpArgs false
/- CO: right models, right queries; what numbers make is right. -/
namespace Go.Co
def Bias.get (b : Bias) (c : Int) : Int := if c = 0 then b.b0 else if c = 1 then b.b1 else b.b2
structure RM (m : Model) : Prop where
  dim : 1 ≤ m.dim ∧ m.dim ≤ 4
  classes : 1 ≤ m.classes ∧ m.classes ≤ 3
  bias : fits m.bias.b0 = true ∧ fits m.bias.b1 = true ∧ fits m.bias.b2 = true
  none1 : m.classes ≤ 1 → m.bias.b1 = 0
  none2 : m.classes ≤ 2 → m.bias.b2 = 0
  trees : m.trees.length ≤ 8
  tree : ∀ t ∈ m.trees, 0 ≤ t.cls ∧ t.cls < m.classes ∧ RT t.nodes m.dim
def mDim (f : Forest) : Int := within f.dim 1 3
def mClasses (f : Forest) : Int := within f.classes 1 3
def mBias (f : Forest) (c : Nat) : Int := if (c : Int) < mClasses f then within (pick f.bias c) (-500) 500 else 0
def mTree (f : Forest) (t : KTree) : Tree := ⟨within t.cls 0 (mClasses f - 1), treeNodes t (mDim f)⟩
def modelOf (f : Forest) : Model := ⟨mDim f, mClasses f, ⟨mBias f 0, mBias f 1, mBias f 2⟩, (f.trees.take 4).map (mTree f)⟩
theorem mDim_le (f : Forest) : 1 ≤ mDim f ∧ mDim f ≤ 3 := within_le _ _ _ (by omega)
theorem mClasses_le (f : Forest) : 1 ≤ mClasses f ∧ mClasses f ≤ 3 := within_le _ _ _ (by omega)
theorem mBias_le (f : Forest) (c : Nat) : -500 ≤ mBias f c ∧ mBias f c ≤ 500 := by
  unfold mBias
  split
  · exact within_le _ _ _ (by omega)
  · omega
theorem fits_of {n : Int} (h : -2147483648 ≤ n ∧ n ≤ 2147483647) : fits n = true := by
  unfold fits
  rw [Bool.and_eq_true, decide_eq_true_eq, decide_eq_true_eq]
  exact h
theorem of_fits {n : Int} (h : fits n = true) : -2147483648 ≤ n ∧ n ≤ 2147483647 := by
  unfold fits at h
  rw [Bool.and_eq_true, decide_eq_true_eq, decide_eq_true_eq] at h
  exact h
theorem rm_modelOf (f : Forest) : RM (modelOf f) := by
  have hd := mDim_le f
  have hc := mClasses_le f
  have hb : ∀ c, fits (mBias f c) = true := fun c => fits_of (by have := mBias_le f c; omega)
  refine ⟨⟨hd.1, show mDim f ≤ 4 by omega⟩, hc, ⟨hb 0, hb 1, hb 2⟩, ?_, ?_, ?_, ?_⟩
  · intro h
    show mBias f 1 = 0
    have h : mClasses f ≤ 1 := h
    unfold mBias
    rw [if_neg (by omega)]
  · intro h
    show mBias f 2 = 0
    have h : mClasses f ≤ 2 := h
    unfold mBias
    rw [if_neg (by omega)]
  · simp [modelOf]
    omega
  · intro t ht
    simp only [modelOf, List.mem_map] at ht
    obtain ⟨k, hk, rfl⟩ := ht
    have := within_le k.cls 0 (mClasses f - 1) (by omega)
    refine ⟨this.1, ?_, rt_treeNodes k (mDim f) hd.1 (by omega)⟩
    show within k.cls 0 (mClasses f - 1) < mClasses f
    omega
def rSpan (dim : Int) (l : List Int) (i : Nat) : Span :=
  if (i : Int) < dim then ⟨within (pick l (2 * i)) (-2) 9, within (pick l (2 * i)) (-2) 9 + within (pick l (2 * i + 1)) 0 11⟩ else ⟨0, 0⟩
def regionOf (dim : Int) (l : List Int) : Box := ⟨rSpan dim l 0, rSpan dim l 1, rSpan dim l 2, rSpan dim l 3, ⟨0, 0⟩⟩
theorem rSpan_le (dim : Int) (l : List Int) (i : Nat) : -2 ≤ (rSpan dim l i).lo ∧ (rSpan dim l i).lo ≤ (rSpan dim l i).hi ∧ (rSpan dim l i).hi ≤ 20 := by
  have h1 := within_le (pick l (2 * i)) (-2) 9 (by omega)
  have h2 := within_le (pick l (2 * i + 1)) 0 11 (by omega)
  unfold rSpan
  split
  · simp only
    omega
  · simp only
    omega
theorem rSpan_out {dim : Int} (l : List Int) {i : Nat} (h : dim ≤ i) : rSpan dim l i = ⟨0, 0⟩ := by
  unfold rSpan
  rw [if_neg (by omega)]
def okSpan (dim : Int) (i : Int) (s : Span) : Bool := (decide (i < dim) || decide (s = ⟨0, 0⟩)) && !s.empty && fits s.lo && fits s.hi
def okRegion (b : Box) (dim : Int) : Bool := okSpan dim 0 b.s0 && okSpan dim 1 b.s1 && okSpan dim 2 b.s2 && okSpan dim 3 b.s3 && okSpan dim 4 b.s4
def okKind (m : Model) (q : Query) : Bool :=
  if q.kind = 1 then decide (q.lo ≤ q.hi) && decide (q.feature = 0) && !q.falls
  else if q.kind = 2 then decide (2 ≤ m.classes) && decide (q.lo = 0) && decide (q.hi = 0) && decide (q.feature = 0) && !q.falls
  else if q.kind = 3 then decide (0 ≤ q.feature) && decide (q.feature < m.dim) && decide (q.lo = 0) && decide (q.hi = 0)
  else false
def okQuery (m : Model) (q : Query) : Bool := decide (0 ≤ q.cls) && decide (q.cls < m.classes) && decide (0 ≤ q.budget) && decide (q.budget ≤ 65536) && okRegion q.region m.dim && okKind m q
def qKind (m : Model) (a : Ask) : Int := if within a.kind 1 3 = 2 ∧ m.classes < 2 then 1 else within a.kind 1 3
def queryOf (m : Model) (a : Ask) : Query where
  kind := qKind m a
  cls := within a.cls 0 (m.classes - 1)
  region := regionOf m.dim a.spans
  lo := if qKind m a = 1 then within a.lo (-9000) 9000 else 0
  hi := if qKind m a = 1 then within a.lo (-9000) 9000 + within a.size 0 18000 else 0
  feature := if qKind m a = 3 then within a.feature 0 (m.dim - 1) else 0
  falls := if qKind m a = 3 then a.falls else false
  budget := within a.budget 0 65536
theorem okRegion_regionOf (dim : Int) (l : List Int) (h : dim ≤ 4) : okRegion (regionOf dim l) dim = true := by
  have key : ∀ i : Nat, okSpan dim i (rSpan dim l i) = true := by
    intro i
    have h1 := rSpan_le dim l i
    unfold okSpan
    have h2 : (rSpan dim l i).empty = false := by
      unfold Span.empty
      rw [decide_eq_false_iff_not]
      omega
    rw [h2, fits_of (n := (rSpan dim l i).lo) (by omega), fits_of (n := (rSpan dim l i).hi) (by omega)]
    by_cases h3 : (i : Int) < dim
    · simp [h3]
    · have := rSpan_out (dim := dim) l (i := i) (by omega)
      simp [this]
  have k0 := key 0
  have k1 := key 1
  have k2 := key 2
  have k3 := key 3
  have k4 : okSpan dim 4 ⟨0, 0⟩ = true := by
    have : fits 0 = true := rfl
    simp [okSpan, Span.empty, this]
  unfold okRegion regionOf
  simp only [k4, Bool.and_true, Bool.and_eq_true]
  exact ⟨⟨⟨k0, k1⟩, k2⟩, k3⟩
theorem qKind_le (m : Model) (a : Ask) : 1 ≤ qKind m a ∧ qKind m a ≤ 3 := by
  have := within_le a.kind 1 3 (by omega)
  unfold qKind
  split <;> omega
theorem ok_queryOf (m : Model) (a : Ask) (h : RM m) : okQuery m (queryOf m a) = true := by
  have h1 := within_le a.cls 0 (m.classes - 1) (by have := h.classes; omega)
  have h2 := within_le a.budget 0 65536 (by omega)
  have h3 := okRegion_regionOf m.dim a.spans h.dim.2
  have h4 : okKind m (queryOf m a) = true := by
    have h5 := qKind_le m a
    have h6 : qKind m a = 1 ∨ qKind m a = 2 ∨ qKind m a = 3 := by omega
    have h7 := within_le a.size 0 18000 (by omega)
    have h8 := within_le a.feature 0 (m.dim - 1) (by have := h.dim; omega)
    unfold okKind queryOf
    rcases h6 with e | e | e
    · simp [e]
      omega
    · simp [e]
      unfold qKind at e
      split at e <;> omega
    · simp [e]
      omega
  unfold okQuery
  rw [h4]
  simp [queryOf, h3]
  omega
end Go.Co
/- CO: walks through right trees; the pieces of a tree within a box. -/
namespace Go.Co
def Point.get (p : Point) (i : Int) : Int := if i = 0 then p.p0 else if i = 1 then p.p1 else if i = 2 then p.p2 else p.p3
def Point.set (p : Point) (i n : Int) : Point := if i = 0 then { p with p0 := n } else if i = 1 then { p with p1 := n } else if i = 2 then { p with p2 := n } else { p with p3 := n }
def InS (s : Span) (n : Int) : Prop := s.lo ≤ n ∧ n ≤ s.hi
def InB (b : Box) (p : Point) (t : Int) : Prop := InS b.s0 p.p0 ∧ InS b.s1 p.p1 ∧ InS b.s2 p.p2 ∧ InS b.s3 p.p3 ∧ InS b.s4 t
theorem cutS_1 (s : Span) (c n : Int) : InS (cutS s c).1 n ↔ InS s n ∧ n ≤ c := by
  unfold cutS
  split
  · unfold ofS InS
    split
    · simp only [noneS]; omega
    · simp only; omega
  · unfold ofS InS
    split
    · simp only [noneS]; omega
    · simp only; omega
theorem cutS_2 (s : Span) (c n : Int) : InS (cutS s c).2 n ↔ InS s n ∧ c < n := by
  unfold cutS
  split
  · unfold InS
    simp only [noneS]
    omega
  · unfold ofS InS
    simp only
    split <;> split <;> simp only [noneS] <;> omega
theorem empty_false {b : Box} : b.empty = false ↔ ∃ p t, InB b p t := by
  constructor
  · intro h
    unfold Box.empty Span.empty at h
    simp only [Bool.or_eq_false_iff, decide_eq_false_iff_not] at h
    exact ⟨⟨b.s0.lo, b.s1.lo, b.s2.lo, b.s3.lo⟩, b.s4.lo, by unfold InB InS; simp only; omega⟩
  · rintro ⟨p, t, h⟩
    unfold Box.empty Span.empty
    simp only [Bool.or_eq_false_iff, decide_eq_false_iff_not]
    unfold InB InS at h
    omega
theorem empty_true {b : Box} : b.empty = true ↔ ∀ p t, ¬ InB b p t := by
  constructor
  · intro h p t hp
    have := empty_false.2 ⟨p, t, hp⟩
    rw [h] at this
    cases this
  · intro h
    cases he : b.empty
    · obtain ⟨p, t, hp⟩ := empty_false.1 he
      exact (h p t hp).elim
    · rfl
theorem get_set {b : Box} {i : Int} {s : Span} (h : 0 ≤ i ∧ i < 4) (p : Point) (t : Int) : InB (b.set i s) p t ↔ InS s (p.get i) ∧ ∀ j, 0 ≤ j → j < 4 → j ≠ i → InS (b.get j) (p.get j) ∧ InS b.s4 t := by
  have hp : i = 0 ∨ i = 1 ∨ i = 2 ∨ i = 3 := by omega
  constructor
  · intro hi
    rcases hp with rfl | rfl | rfl | rfl <;> simp [Box.set, InB, Point.get] at hi ⊢ <;> refine ⟨by simp [hi], ?_⟩ <;> intro j h1 h2 h3 <;>
      (have hj : j = 0 ∨ j = 1 ∨ j = 2 ∨ j = 3 := by omega) <;> rcases hj with rfl | rfl | rfl | rfl <;> simp_all [Box.get, Point.get]
  · rintro ⟨h1, h2⟩
    have k0 := h2 0 (by omega) (by omega)
    have k1 := h2 1 (by omega) (by omega)
    have k2 := h2 2 (by omega) (by omega)
    have k3 := h2 3 (by omega) (by omega)
    rcases hp with rfl | rfl | rfl | rfl <;> simp [Box.set, InB, Point.get, Box.get] at * <;> simp_all
theorem inB_get {b : Box} {p : Point} {t : Int} : InB b p t ↔ ∀ j, 0 ≤ j → j < 4 → InS (b.get j) (p.get j) ∧ InS b.s4 t := by
  constructor
  · intro h j h1 h2
    have hj : j = 0 ∨ j = 1 ∨ j = 2 ∨ j = 3 := by omega
    rcases hj with rfl | rfl | rfl | rfl <;> simp_all [InB, Box.get, Point.get]
  · intro h2
    have k0 := h2 0 (by omega) (by omega)
    have k1 := h2 1 (by omega) (by omega)
    have k2 := h2 2 (by omega) (by omega)
    have k3 := h2 3 (by omega) (by omega)
    simp [InB, Point.get, Box.get] at *
    simp_all
theorem cutB_1 (b : Box) {i : Int} (h : 0 ≤ i ∧ i < 4) (c : Int) (p : Point) (t : Int) : InB (cutB b i c).1 p t ↔ InB b p t ∧ p.get i ≤ c := by
  unfold cutB
  rw [if_pos (by omega)]
  simp only
  rw [get_set h, cutS_1, inB_get]
  constructor
  · rintro ⟨⟨h1, h2⟩, h3⟩
    refine ⟨fun j hj hj2 => ?_, h2⟩
    by_cases e : j = i
    · subst e
      by_cases e0 : j = 0
      · exact ⟨h1, (h3 1 (by omega) (by omega) (by omega)).2⟩
      · exact ⟨h1, (h3 0 (by omega) (by omega) (by omega)).2⟩
    · exact h3 j hj hj2 e
  · rintro ⟨h1, h2⟩
    exact ⟨⟨(h1 i h.1 h.2).1, h2⟩, fun j hj hj2 _ => h1 j hj hj2⟩
theorem cutB_2 (b : Box) {i : Int} (h : 0 ≤ i ∧ i < 4) (c : Int) (p : Point) (t : Int) : InB (cutB b i c).2 p t ↔ InB b p t ∧ c < p.get i := by
  unfold cutB
  rw [if_pos (by omega)]
  simp only
  rw [get_set h, cutS_2, inB_get]
  constructor
  · rintro ⟨⟨h1, h2⟩, h3⟩
    refine ⟨fun j hj hj2 => ?_, h2⟩
    by_cases e : j = i
    · subst e
      by_cases e0 : j = 0
      · exact ⟨h1, (h3 1 (by omega) (by omega) (by omega)).2⟩
      · exact ⟨h1, (h3 0 (by omega) (by omega) (by omega)).2⟩
    · exact h3 j hj hj2 e
  · rintro ⟨h1, h2⟩
    exact ⟨⟨(h1 i h.1 h.2).1, h2⟩, fun j hj hj2 _ => h1 j hj hj2⟩
def ndAt (l : List Word) (i : Nat) : Node := nd (l.getD i default)
theorem ndAt_lt {l : List Word} {i : Nat} (h : i < l.length) : ndAt l i = nd l[i] := by unfold ndAt; simp [h]
def nxt (n : Node) (p : Point) : Nat := if p.get n.feature ≤ n.cut then n.left.toNat else n.right.toNat
def walk (l : List Word) (p : Point) : Nat → Nat → Nat
  | 0, i => i
  | f + 1, i => if (ndAt l i).leaf then i else walk l p f (nxt (ndAt l i) p)
def leafOf (l : List Word) (p : Point) : Nat := walk l p 31 0
def valueAt (l : List Word) (p : Point) : Int := (ndAt l (leafOf l p)).value
theorem RT.at {l : List Word} {dim : Int} (h : RT l dim) {i : Nat} (hi : i < l.length) (hl : (ndAt l i).leaf = false) :
    (ndAt l i).feature < dim ∧ (ndAt l i).left ≠ (ndAt l i).right ∧ (i : Int) < (ndAt l i).left ∧ (ndAt l i).left < l.length ∧ (i : Int) < (ndAt l i).right ∧ (ndAt l i).right < l.length := by
  rw [ndAt_lt hi] at *
  exact h.inner i hi hl
theorem RT.node {l : List Word} {dim : Int} (h : RT l dim) {i : Nat} (hi : i < l.length) : rightNode (ndAt l i) = true := by
  rw [ndAt_lt hi]
  exact (unpack_true (h.ok i hi).2).1
theorem RT.feature {l : List Word} {dim : Int} (h : RT l dim) {i : Nat} (hi : i < l.length) (hl : (ndAt l i).leaf = false) : 0 ≤ (ndAt l i).feature ∧ (ndAt l i).feature < 4 := by
  have := h.node hi
  unfold rightNode at this
  rw [hl] at this
  simp only [Bool.false_eq_true, if_false, Bool.and_eq_true, decide_eq_true_eq] at this
  omega
theorem RT.value {l : List Word} {dim : Int} (h : RT l dim) {i : Nat} (hi : i < l.length) : fits (ndAt l i).value = true := by
  have := h.node hi
  unfold rightNode at this
  cases hl : (ndAt l i).leaf
  · rw [hl] at this
    simp only [Bool.false_eq_true, if_false, Bool.and_eq_true, decide_eq_true_eq] at this
    rw [this.1.1.1.1.1.1.1]
    rfl
  · rw [hl] at this
    simp only [if_true, Bool.and_eq_true, decide_eq_true_eq] at this
    exact this.1.1.1.1
theorem RT.cutOk {l : List Word} {dim : Int} (h : RT l dim) {i : Nat} (hi : i < l.length) : fits (ndAt l i).cut = true := by
  have := h.node hi
  unfold rightNode at this
  cases hl : (ndAt l i).leaf
  · rw [hl] at this
    simp only [Bool.false_eq_true, if_false, Bool.and_eq_true, decide_eq_true_eq] at this
    exact this.1.1.1.1.2
  · rw [hl] at this
    simp only [if_true, Bool.and_eq_true, decide_eq_true_eq] at this
    rw [this.1.1.2]
    rfl
theorem nxt_lt {l : List Word} {dim : Int} (h : RT l dim) {i : Nat} (hi : i < l.length) (hl : (ndAt l i).leaf = false) (p : Point) : i < nxt (ndAt l i) p ∧ nxt (ndAt l i) p < l.length := by
  have := h.at hi hl
  unfold nxt
  split <;> omega
theorem walk_leaf {l : List Word} {dim : Int} (h : RT l dim) (p : Point) : ∀ (f i : Nat), i < l.length → l.length ≤ f + i → walk l p f i < l.length ∧ (ndAt l (walk l p f i)).leaf = true
  | 0, i, h1, h2 => by omega
  | f + 1, i, h1, h2 => by
    unfold walk
    cases hl : (ndAt l i).leaf
    · simp only [Bool.false_eq_true, if_false]
      have := nxt_lt h h1 hl p
      exact walk_leaf h p f _ this.2 (by omega)
    · simp only [if_true]
      exact ⟨h1, hl⟩
theorem leafOf_lt {l : List Word} {dim : Int} (h : RT l dim) (p : Point) : leafOf l p < l.length ∧ (ndAt l (leafOf l p)).leaf = true :=
  walk_leaf h p 31 0 (by have := h.pos; omega) (by have := h.le; omega)
theorem valueAt_fits {l : List Word} {dim : Int} (h : RT l dim) (p : Point) : fits (valueAt l p) = true := h.value (leafOf_lt h p).1
inductive Reach (l : List Word) (p : Point) : Nat → Prop
  | root : Reach l p 0
  | step {i : Nat} : Reach l p i → (ndAt l i).leaf = false → Reach l p (nxt (ndAt l i) p)
theorem Reach.lt {l : List Word} {dim : Int} (h : RT l dim) {p : Point} {j : Nat} (hr : Reach l p j) : j < l.length := by
  induction hr with
  | root => have := h.pos; omega
  | step hr hl ih => exact (nxt_lt h ih hl p).2
theorem Reach.walk {l : List Word} {dim : Int} (h : RT l dim) {p : Point} {j : Nat} (hr : Reach l p j) : ∃ f, 31 ≤ f + j ∧ leafOf l p = walk l p f j := by
  induction hr with
  | root => exact ⟨31, by omega, rfl⟩
  | @step i hr hl ih =>
    obtain ⟨f, hf, hw⟩ := ih
    have hi := hr.lt h
    have hle := h.le
    cases f with
    | zero => omega
    | succ f =>
      refine ⟨f, ?_, ?_⟩
      · have := (nxt_lt h hi hl p).1
        omega
      · rw [hw, Co.walk, hl]
        rfl
theorem Reach.leaf {l : List Word} {dim : Int} (h : RT l dim) {p : Point} {j : Nat} (hr : Reach l p j) (hl : (ndAt l j).leaf = true) : leafOf l p = j := by
  obtain ⟨f, hf, hw⟩ := hr.walk h
  rw [hw]
  cases f with
  | zero => rfl
  | succ f => rw [Co.walk, hl]; rfl
theorem reach_walk {l : List Word} {p : Point} : ∀ (f i : Nat), Reach l p i → Reach l p (walk l p f i)
  | 0, _, h => h
  | f + 1, i, h => by
    unfold walk
    cases hl : (ndAt l i).leaf
    · simp only [Bool.false_eq_true, if_false]
      exact reach_walk f _ (h.step hl)
    · simp only [if_true]
      exact h
theorem reach_leaf (l : List Word) (p : Point) : Reach l p (leafOf l p) := reach_walk 31 0 .root
theorem countP_one {α : Type} (f : α → Bool) : ∀ (l : List α) (i k : Nat) (hi : i < l.length) (hk : k < l.length), f l[i] = true → f l[k] = true → l.countP f = 1 → i = k
  | [], i, _, hi, _, _, _, _ => by simp at hi
  | a :: l, i, k, hi, hk, h1, h2, h => by
    rw [List.countP_cons] at h
    by_cases ha : f a = true
    · have h0 : l.countP f = 0 := by simp [ha] at h; simpa using h
      rw [List.countP_eq_zero] at h0
      cases i with
      | zero => cases k with
        | zero => rfl
        | succ k => exact (h0 _ (List.getElem_mem _) h2).elim
      | succ i => exact (h0 _ (List.getElem_mem _) h1).elim
    · cases i with
      | zero => exact (ha h1).elim
      | succ i => cases k with
        | zero => exact (ha h2).elim
        | succ k =>
          have : l.countP f = 1 := by simp [ha] at h; exact h
          rw [countP_one f l i k (by simpa using hi) (by simpa using hk) h1 h2 this]
theorem RT.unique {l : List Word} {dim : Int} (h : RT l dim) {i k j : Nat} (hi : i < l.length) (hk : k < l.length) (hj : 1 ≤ j) (hj2 : j < l.length) (h1 : names (ndAt l i) j = true) (h2 : names (ndAt l k) j = true) : i = k := by
  rw [ndAt_lt hi] at h1
  rw [ndAt_lt hk] at h2
  exact countP_one (fun w => names (nd w) j) l i k hi hk h1 h2 (h.once j hj hj2)
theorem RT.parent {l : List Word} {dim : Int} (h : RT l dim) {j : Nat} (hj : 1 ≤ j) (hj2 : j < l.length) : ∃ i, i < j ∧ (ndAt l i).leaf = false ∧ ((ndAt l i).left = j ∨ (ndAt l i).right = j) := by
  have h1 := h.once j hj hj2
  have h2 : 0 < l.countP (fun w => names (nd w) j) := by omega
  rw [List.countP_pos_iff] at h2
  obtain ⟨w, hw, hn⟩ := h2
  obtain ⟨i, hi, rfl⟩ := List.getElem_of_mem hw
  rw [← ndAt_lt hi] at hn
  unfold names at hn
  simp only [Bool.and_eq_true, Bool.not_eq_true', Bool.or_eq_true, decide_eq_true_eq] at hn
  have := h.at hi hn.1
  exact ⟨i, by omega, hn.1, hn.2⟩
def up (f : Nat → Box) (i : Nat) (b : Box) : Nat → Box := fun j => if j = i then b else f j
def zeroB : Box := ⟨⟨0, 0⟩, ⟨0, 0⟩, ⟨0, 0⟩, ⟨0, 0⟩, ⟨0, 0⟩⟩
def ownF (l : List Word) (b : Box) : Nat → Nat → Box
  | 0 => up (fun _ => zeroB) 0 b
  | i + 1 => if (ndAt l i).leaf then ownF l b i else
      up (up (ownF l b i) (ndAt l i).left.toNat (cutB (ownF l b i i) (ndAt l i).feature (ndAt l i).cut).1) (ndAt l i).right.toNat (cutB (ownF l b i i) (ndAt l i).feature (ndAt l i).cut).2
def own (l : List Word) (b : Box) (j : Nat) : Box := ownF l b j j
theorem own_root {l : List Word} (b : Box) : own l b 0 = b := rfl
theorem own_child {l : List Word} {dim : Int} (h : RT l dim) (b : Box) {i : Nat} (hi : i < l.length) (hl : (ndAt l i).leaf = false) :
    own l b (ndAt l i).left.toNat = (cutB (own l b i) (ndAt l i).feature (ndAt l i).cut).1 ∧ own l b (ndAt l i).right.toNat = (cutB (own l b i) (ndAt l i).feature (ndAt l i).cut).2 := by
  have ha := h.at hi hl
  have key : ∀ (j : Nat), names (ndAt l i) j = true → i < j → j < l.length → ∀ m, i + 1 + m ≤ l.length → ownF l b (i + 1 + m) j = ownF l b (i + 1) j := by
    intro j hn hj hj2 m hm
    induction m with
    | zero => rfl
    | succ m ih =>
      have h0 := ih (by omega)
      rw [← h0]
      have h1 : names (ndAt l (i + 1 + m)) j = false := by
        cases hc : names (ndAt l (i + 1 + m)) j
        · rfl
        · have := h.unique hi (show i + 1 + m < l.length by omega) (show 1 ≤ j by omega) hj2 hn hc
          omega
      show ownF l b (i + 1 + m + 1) j = _
      rw [ownF]
      cases hl2 : (ndAt l (i + 1 + m)).leaf
      · have h2 := h.at (show i + 1 + m < l.length by omega) hl2
        simp only [names, hl2, Bool.not_false, Bool.true_and, Bool.or_eq_false_iff, decide_eq_false_iff_not] at h1
        simp only [Bool.false_eq_true, if_false, up]
        rw [if_neg (by omega), if_neg (by omega)]
      · simp only [if_true]
  have k1 := key (ndAt l i).left.toNat (by simp [names, hl]; omega) (by omega) (by omega) ((ndAt l i).left.toNat - (i + 1)) (by omega)
  have k2 := key (ndAt l i).right.toNat (by simp [names, hl]; omega) (by omega) (by omega) ((ndAt l i).right.toNat - (i + 1)) (by omega)
  rw [show i + 1 + ((ndAt l i).left.toNat - (i + 1)) = (ndAt l i).left.toNat by omega] at k1
  rw [show i + 1 + ((ndAt l i).right.toNat - (i + 1)) = (ndAt l i).right.toNat by omega] at k2
  unfold own
  rw [k1, k2, ownF, hl]
  simp only [Bool.false_eq_true, if_false, up]
  rw [if_neg (by omega)]
  simp
theorem own_iff {l : List Word} {dim : Int} (h : RT l dim) (b : Box) (p : Point) (t : Int) : ∀ j, j < l.length → (InB (own l b j) p t ↔ InB b p t ∧ Reach l p j) := by
  intro j
  induction j using Nat.strongRecOn with
  | _ j ih =>
    intro hj
    by_cases h0 : j = 0
    · subst h0
      rw [own_root]
      exact ⟨fun hb => ⟨hb, .root⟩, fun hb => hb.1⟩
    · obtain ⟨i, hi, hl, hn⟩ := h.parent (show 1 ≤ j by omega) hj
      have hi2 : i < l.length := by omega
      have hc := own_child h b hi2 hl
      have hf := h.feature hi2 hl
      have ha := h.at hi2 hl
      have hnm : names (ndAt l i) j = true := by
        unfold names
        simp only [hl, Bool.not_false, Bool.true_and, Bool.or_eq_true, decide_eq_true_eq]
        exact hn
      have back : Reach l p j → Reach l p i ∧ nxt (ndAt l i) p = j := by
        intro hr
        cases hr with
        | root => exact (h0 rfl).elim
        | @step i' hr hl' =>
          have hi' := hr.lt h
          have ha' := h.at hi' hl'
          have h3 : names (ndAt l i') (nxt (ndAt l i') p) = true := by
            unfold names nxt
            simp only [hl', Bool.not_false, Bool.true_and, Bool.or_eq_true, decide_eq_true_eq]
            split
            · exact Or.inl (by omega)
            · exact Or.inr (by omega)
          have := h.unique hi2 hi' (by omega) hj hnm h3
          subst this
          exact ⟨hr, rfl⟩
      rcases hn with hn | hn
      · have e : j = (ndAt l i).left.toNat := by omega
        have h4 : own l b j = (cutB (own l b i) (ndAt l i).feature (ndAt l i).cut).1 := by rw [e]; exact hc.1
        rw [h4, cutB_1 _ hf, ih i hi hi2]
        constructor
        · rintro ⟨⟨h5, h6⟩, h7⟩
          refine ⟨h5, ?_⟩
          have := h6.step hl
          unfold nxt at this
          rw [if_pos h7] at this
          rw [e]
          exact this
        · rintro ⟨h5, h6⟩
          obtain ⟨h7, h8⟩ := back h6
          refine ⟨⟨h5, h7⟩, ?_⟩
          unfold nxt at h8
          split at h8
          · assumption
          · omega
      · have e : j = (ndAt l i).right.toNat := by omega
        have h4 : own l b j = (cutB (own l b i) (ndAt l i).feature (ndAt l i).cut).2 := by rw [e]; exact hc.2
        rw [h4, cutB_2 _ hf, ih i hi hi2]
        constructor
        · rintro ⟨⟨h5, h6⟩, h7⟩
          refine ⟨h5, ?_⟩
          have := h6.step hl
          unfold nxt at this
          rw [if_neg (by omega)] at this
          rw [e]
          exact this
        · rintro ⟨h5, h6⟩
          obtain ⟨h7, h8⟩ := back h6
          refine ⟨⟨h5, h7⟩, ?_⟩
          unfold nxt at h8
          split at h8
          · omega
          · omega
def pieceAt (l : List Word) (b : Box) (i : Nat) : Option Piece := if (ndAt l i).leaf && !(own l b i).empty then some ⟨own l b i, (ndAt l i).value⟩ else none
def pieces (l : List Word) (b : Box) : List Piece := (List.range l.length).filterMap (pieceAt l b)
theorem mem_pieces {l : List Word} {b : Box} {x : Piece} : x ∈ pieces l b ↔ ∃ i, i < l.length ∧ (ndAt l i).leaf = true ∧ (own l b i).empty = false ∧ x = ⟨own l b i, (ndAt l i).value⟩ := by
  unfold pieces
  rw [List.mem_filterMap]
  constructor
  · rintro ⟨i, hi, h⟩
    rw [List.mem_range] at hi
    unfold pieceAt at h
    split at h
    · rename_i hc
      simp only [Bool.and_eq_true, Bool.not_eq_true'] at hc
      cases h
      exact ⟨i, hi, hc.1, hc.2, rfl⟩
    · cases h
  · rintro ⟨i, hi, h1, h2, rfl⟩
    refine ⟨i, List.mem_range.2 hi, ?_⟩
    unfold pieceAt
    rw [h1, h2]
    rfl
theorem piece_of {l : List Word} {dim : Int} (h : RT l dim) {b : Box} {p : Point} {t : Int} (hp : InB b p t) : ∃ x ∈ pieces l b, InB x.box p t ∧ x.value = valueAt l p := by
  have h1 := leafOf_lt h p
  have h2 := (own_iff h b p t _ h1.1).2 ⟨hp, reach_leaf l p⟩
  exact ⟨⟨own l b (leafOf l p), valueAt l p⟩, mem_pieces.2 ⟨_, h1.1, h1.2, empty_false.2 ⟨p, t, h2⟩, rfl⟩, h2, rfl⟩
theorem piece_in {l : List Word} {dim : Int} (h : RT l dim) {b : Box} {x : Piece} (hx : x ∈ pieces l b) {p : Point} {t : Int} (hp : InB x.box p t) : InB b p t ∧ valueAt l p = x.value := by
  obtain ⟨i, hi, hl, he, rfl⟩ := mem_pieces.1 hx
  have := (own_iff h b p t i hi).1 hp
  refine ⟨this.1, ?_⟩
  unfold valueAt
  rw [this.2.leaf h hl]
theorem piece_some {l : List Word} {b : Box} {x : Piece} (hx : x ∈ pieces l b) : x.box.empty = false := by
  obtain ⟨i, hi, hl, he, rfl⟩ := mem_pieces.1 hx
  exact he
theorem pieces_ne {l : List Word} {dim : Int} (h : RT l dim) {b : Box} (hb : b.empty = false) : pieces l b ≠ [] := by
  obtain ⟨p, t, hp⟩ := empty_false.1 hb
  obtain ⟨x, hx, _⟩ := piece_of h hp
  intro e
  rw [e] at hx
  cases hx
end Go.Co
/- CO: sums, bounds. -/
namespace Go.Co
theorem max2_le {a b : Int} : a ≤ max2 a b ∧ b ≤ max2 a b ∧ (max2 a b = a ∨ max2 a b = b) := by unfold max2; split <;> omega
theorem min2_le {a b : Int} : min2 a b ≤ a ∧ min2 a b ≤ b ∧ (min2 a b = a ∨ min2 a b = b) := by unfold min2; split <;> omega
def evalF (c : Int) (p : Point) (s : Int) (t : Tree) : Int := if t.cls = c then s + valueAt t.nodes p else s
def evalM (m : Model) (c : Int) (p : Point) : Int := m.trees.foldl (evalF c p) (m.bias.get c)
theorem Bias.get_fits {m : Model} (h : RM m) (c : Int) : fits (m.bias.get c) = true := by
  unfold Bias.get
  have := h.bias
  split
  · exact this.1
  · split
    · exact this.2.1
    · exact this.2.2
theorem evalF_le {c : Int} {p : Point} : ∀ (l : List Tree) (s : Int), (∀ t ∈ l, ∃ d, RT t.nodes d) →
    s - 2147483648 * l.length ≤ l.foldl (evalF c p) s ∧ l.foldl (evalF c p) s ≤ s + 2147483647 * l.length
  | [], s, _ => by simp
  | t :: l, s, h => by
    obtain ⟨d, hd⟩ := h t (by simp)
    have h1 := of_fits (valueAt_fits hd p)
    have h2 := evalF_le (c := c) (p := p) l (evalF c p s t) (fun t ht => h t (by simp [ht]))
    have h3 : evalF c p s t = s ∨ evalF c p s t = s + valueAt t.nodes p := by unfold evalF; split <;> simp
    rw [List.foldl_cons, List.length_cons]
    rcases h3 with h3 | h3 <;> rw [h3] at h2 ⊢ <;> omega
theorem RM.rt {m : Model} (h : RM m) {t : Tree} (ht : t ∈ m.trees) : RT t.nodes m.dim := (h.tree t ht).2.2
def endF (a : Int × Int) (x : Piece) : Int × Int := (min2 a.1 x.value, max2 a.2 x.value)
def ends (ps : List Piece) : Tri Int Int Bool := match ps with
  | [] => ⟨0, 0, false⟩
  | x :: _ => ⟨(ps.foldl endF (x.value, x.value)).1, (ps.foldl endF (x.value, x.value)).2, true⟩
theorem endF_le : ∀ (l : List Piece) (a : Int × Int), (l.foldl endF a).1 ≤ a.1 ∧ a.2 ≤ (l.foldl endF a).2 ∧ (∀ x ∈ l, (l.foldl endF a).1 ≤ x.value ∧ x.value ≤ (l.foldl endF a).2)
    ∧ ((l.foldl endF a).1 = a.1 ∨ ∃ x ∈ l, x.value = (l.foldl endF a).1) ∧ ((l.foldl endF a).2 = a.2 ∨ ∃ x ∈ l, x.value = (l.foldl endF a).2)
  | [], a => by simp
  | x :: l, a => by
    obtain ⟨h1, h2, h3, h4, h5⟩ := endF_le l (endF a x)
    have k1 := min2_le (a := a.1) (b := x.value)
    have k2 := max2_le (a := a.2) (b := x.value)
    rw [List.foldl_cons]
    unfold endF at h1 h2 h4 h5
    simp only at h1 h2 h4 h5
    refine ⟨by unfold endF; omega, by unfold endF; omega, ?_, ?_, ?_⟩
    · intro y hy
      rcases List.mem_cons.1 hy with rfl | hy
      · unfold endF; omega
      · exact h3 y hy
    · rcases h4 with h4 | ⟨y, hy, h4⟩
      · rcases k1.2.2 with e | e
        · exact Or.inl (by unfold endF; omega)
        · exact Or.inr ⟨x, by simp, by unfold endF; omega⟩
      · exact Or.inr ⟨y, by simp [hy], by unfold endF; exact h4⟩
    · rcases h5 with h5 | ⟨y, hy, h5⟩
      · rcases k2.2.2 with e | e
        · exact Or.inl (by unfold endF; omega)
        · exact Or.inr ⟨x, by simp, by unfold endF; omega⟩
      · exact Or.inr ⟨y, by simp [hy], by unfold endF; exact h5⟩
theorem ends_spec {ps : List Piece} (h : ps ≠ []) : (ends ps).c = true ∧ (∀ x ∈ ps, (ends ps).a ≤ x.value ∧ x.value ≤ (ends ps).b) ∧ (∃ x ∈ ps, x.value = (ends ps).a) ∧ ∃ x ∈ ps, x.value = (ends ps).b := by
  cases ps with
  | nil => exact (h rfl).elim
  | cons x l =>
    obtain ⟨h1, h2, h3, h4, h5⟩ := endF_le (x :: l) (x.value, x.value)
    refine ⟨rfl, h3, ?_, ?_⟩
    · rcases h4 with h4 | h4
      · exact ⟨x, by simp, h4.symm⟩
      · exact h4
    · rcases h5 with h5 | h5
      · exact ⟨x, by simp, h5.symm⟩
      · exact h5
def boundT (l : List Word) (b : Box) : Tri Int Int Bool := if b.empty then ⟨0, 0, false⟩ else ends (pieces l b)
theorem boundT_spec {l : List Word} {dim : Int} (h : RT l dim) {b : Box} (hb : b.empty = false) : (boundT l b).c = true ∧ (∀ p t, InB b p t → (boundT l b).a ≤ valueAt l p ∧ valueAt l p ≤ (boundT l b).b)
    ∧ (∃ p t, InB b p t ∧ valueAt l p = (boundT l b).a) ∧ ∃ p t, InB b p t ∧ valueAt l p = (boundT l b).b := by
  obtain ⟨h1, h2, ⟨x, hx, h3⟩, ⟨y, hy, h4⟩⟩ := ends_spec (pieces_ne h hb)
  unfold boundT
  rw [hb]
  simp only [Bool.false_eq_true, if_false]
  refine ⟨h1, ?_, ?_, ?_⟩
  · intro p t hp
    obtain ⟨z, hz, _, hv⟩ := piece_of h hp
    rw [← hv]
    exact h2 z hz
  · obtain ⟨p, t, hp⟩ := empty_false.1 (piece_some hx)
    have := piece_in h hx hp
    exact ⟨p, t, this.1, by rw [this.2, h3]⟩
  · obtain ⟨p, t, hp⟩ := empty_false.1 (piece_some hy)
    have := piece_in h hy hp
    exact ⟨p, t, this.1, by rw [this.2, h4]⟩
theorem boundT_fits {l : List Word} {dim : Int} (h : RT l dim) {b : Box} (hb : b.empty = false) : fits (boundT l b).a = true ∧ fits (boundT l b).b = true ∧ (boundT l b).a ≤ (boundT l b).b := by
  obtain ⟨h1, h2, ⟨p, t, hp, h3⟩, ⟨q, u, hq, h4⟩⟩ := boundT_spec h hb
  refine ⟨by rw [← h3]; exact valueAt_fits h p, by rw [← h4]; exact valueAt_fits h q, ?_⟩
  have := h2 p t hp
  omega
def boundF (c : Int) (b : Box) (a : Int × Int) (t : Tree) : Int × Int := if t.cls = c then (a.1 + (boundT t.nodes b).a, a.2 + (boundT t.nodes b).b) else a
def boundP (m : Model) (c : Int) (b : Box) : Int × Int := m.trees.foldl (boundF c b) (m.bias.get c, m.bias.get c)
def boundM (m : Model) (c : Int) (b : Box) : Tri Int Int Bool :=
  if c < 0 ∨ m.classes ≤ c ∨ b.empty = true then ⟨0, 0, false⟩ else ⟨(boundP m c b).1, (boundP m c b).2, true⟩
theorem boundF_le {c : Int} {b : Box} (hb : b.empty = false) : ∀ (l : List Tree) (a : Int × Int), (∀ t ∈ l, ∃ d, RT t.nodes d) →
    a.1 - 2147483648 * l.length ≤ (l.foldl (boundF c b) a).1 ∧ (l.foldl (boundF c b) a).2 ≤ a.2 + 2147483647 * l.length ∧ (l.foldl (boundF c b) a).2 - (l.foldl (boundF c b) a).1 ≥ a.2 - a.1
  | [], s, _ => by simp
  | t :: l, s, h => by
    obtain ⟨d, hd⟩ := h t (by simp)
    have h0 := boundT_fits hd hb
    have h1 := of_fits h0.1
    have h1' := of_fits h0.2.1
    have h2 := boundF_le (c := c) hb l (boundF c b s t) (fun t ht => h t (by simp [ht]))
    rw [List.foldl_cons, List.length_cons]
    have h3 : boundF c b s t = s ∨ boundF c b s t = (s.1 + (boundT t.nodes b).a, s.2 + (boundT t.nodes b).b) := by unfold boundF; split <;> simp
    rcases h3 with h3 | h3 <;> rw [h3] at h2 ⊢ <;> (try simp only at h2) <;> omega
theorem boundP_le {m : Model} (h : RM m) (c : Int) {b : Box} (hb : b.empty = false) : -19327352832 ≤ (boundP m c b).1 ∧ (boundP m c b).1 ≤ (boundP m c b).2 ∧ (boundP m c b).2 ≤ 19327352823 := by
  have h1 := of_fits (Bias.get_fits h c)
  have h2 := boundF_le (c := c) hb m.trees (m.bias.get c, m.bias.get c) (fun t ht => ⟨_, h.rt ht⟩)
  have h3 := h.trees
  unfold boundP
  simp only at h2
  omega
theorem bound_fold {c : Int} {b : Box} {p : Point} {t0 : Int} (hp : InB b p t0) : ∀ (l : List Tree) (a : Int × Int) (s : Int), (∀ t ∈ l, ∃ d, RT t.nodes d) → a.1 ≤ s → s ≤ a.2 →
    (l.foldl (boundF c b) a).1 ≤ l.foldl (evalF c p) s ∧ l.foldl (evalF c p) s ≤ (l.foldl (boundF c b) a).2
  | [], a, s, _, h1, h2 => ⟨h1, h2⟩
  | t :: l, a, s, h, h1, h2 => by
    obtain ⟨d, hd⟩ := h t (by simp)
    have hb := boundT_spec hd (empty_false.2 ⟨p, t0, hp⟩)
    have h3 := hb.2.1 p t0 hp
    rw [List.foldl_cons, List.foldl_cons]
    refine bound_fold hp l _ _ (fun t ht => h t (by simp [ht])) ?_ ?_
    · unfold boundF evalF; split <;> (try simp only) <;> omega
    · unfold boundF evalF; split <;> (try simp only) <;> omega
theorem bound_sound {m : Model} (h : RM m) (c : Int) {b : Box} {p : Point} {t : Int} (hp : InB b p t) : (boundP m c b).1 ≤ evalM m c p ∧ evalM m c p ≤ (boundP m c b).2 :=
  bound_fold hp m.trees _ _ (fun t ht => ⟨_, h.rt ht⟩) (Int.le_refl _) (Int.le_refl _)
def paired (q : Query) : Bool := decide (q.kind = 3) && decide (0 ≤ q.feature) && decide (q.feature < 4)
def startOf (q : Query) : Box := { q.region with s4 := if paired q then q.region.get q.feature else ⟨0, 0⟩ }
def secondOf (q : Query) (p : Point) (t : Int) : Point := if paired q then p.set q.feature t else p
def Span.has (s : Span) (n : Int) : Bool := decide (s.lo ≤ n) && decide (n ≤ s.hi)
def beaten (m : Model) (q : Query) (p : Point) : Bool := (List.range m.classes.toNat).any fun c => decide ((c : Int) ≠ q.cls) && decide (evalM m q.cls p ≤ evalM m c p)
def breaks (m : Model) (q : Query) (p : Point) (t : Int) : Bool :=
  if okQuery m q then
    if q.kind = 1 then !(Span.has ⟨q.lo, q.hi⟩ (evalM m q.cls p))
    else if q.kind = 2 then beaten m q p
    else if p.get q.feature < t then (if q.falls then decide (evalM m q.cls p < evalM m q.cls (secondOf q p t)) else decide (evalM m q.cls (secondOf q p t) < evalM m q.cls p)) else false
  else false
end Go.Co
/- CO: trees of words. -/
namespace Go.Co
open Go.Am Go.Proofs
def c74_0 : ACode := .ops [⟨some 4, .mv (.c (.bool false)), none, []⟩] [0, 1]
theorem r74_0 : type_of% (rr c74_0.eq_1) := rr rfl
def c74_1 : ACode := .ops [⟨some 12, .mv (.t 0), none, []⟩,⟨some 13, .len (.t 12), none, []⟩,⟨some 14, .bin .lss (.t 13) (.c (.int .i64 1)), none, []⟩,⟨some 15, .mv (.t 14), none, []⟩,⟨some 16, .mv (.t 0), some (15, false), []⟩,⟨some 17, .len (.t 16), some (15, false), []⟩,⟨some 18, .bin .gtr (.t 17) (.c (.int .i64 31)), some (15, false), []⟩,⟨some 19, .pick (.t 15) (.c (.bool true)) (.t 18), none, []⟩] [0, 1, 19]
theorem r74_1 : type_of% (rr c74_1.eq_1) := rr rfl
def c74_2 : ACode := .ops [⟨some 4, .mv (.c (.bool false)), none, []⟩] [4]
theorem r74_2 : type_of% (rr c74_2.eq_1) := rr rfl
def c74_3 : ACode := .seq c74_2 .ret
theorem r74_3 : type_of% (rr c74_3.eq_1) := rr rfl
def c74_4 : ACode := .cond (.t 19) c74_3 .skip
theorem r74_4 : type_of% (rr c74_4.eq_1) := rr rfl
def c74_5 : ACode := .seq c74_1 c74_4
theorem r74_5 : type_of% (rr c74_5.eq_1) := rr rfl
def c74_6 : ACode := .ops [⟨some 20, .mv (.t 0), none, []⟩,⟨some 21, .len (.t 20), none, []⟩,⟨some 22, .mks 5 (.t 21) 1 [.int .i64 0], none, []⟩,⟨some 5, .mv (.t 22), none, []⟩] [0, 1, 5]
theorem r74_6 : type_of% (rr c74_6.eq_1) := rr rfl
def c74_7 : ACode := .ops [⟨some 23, .mv (.t 0), none, []⟩,⟨some 24, .len (.t 23), none, []⟩,⟨some 25, .mv (.c (.int .i64 0)), none, []⟩] [0, 1, 5, 23, 24, 25]
theorem r74_7 : type_of% (rr c74_7.eq_1) := rr rfl
def c74_8 : ACode := .ops [⟨some 26, .bin .lss (.t 25) (.t 24), none, []⟩] [0, 1, 5, 23, 24, 25, 26]
theorem r74_8 : type_of% (rr c74_8.eq_1) := rr rfl
def c74_9 : ACode := .cond (.t 26) .skip (.exit 0)
theorem r74_9 : type_of% (rr c74_9.eq_1) := rr rfl
def c74_10 : ACode := .ops [⟨some 27, .mv (.t 25), none, []⟩,⟨some 28, .ias (.t 23) (.t 25) 1, none, []⟩,⟨some 29, .load 1 false (.t 28), none, []⟩,⟨some 6, .mv (.t 27), none, []⟩,⟨some 7, .mv (.t 29), none, []⟩] [0, 1, 5, 6, 7, 23, 24, 25]
theorem r74_10 : type_of% (rr c74_10.eq_1) := rr rfl
def c74_11 : ACode := .ops [⟨some 31, .mv (.t 7), none, []⟩,⟨some 32, .call 85 [.t 31], none, []⟩,⟨some 30, .mv (.t 32), none, []⟩,⟨some 33, .ext (.t 30) 0, none, []⟩,⟨some 34, .ext (.t 30) 1, none, []⟩,⟨some 8, .alloc [.bool false, .int .i64 0, .int .i64 0, .int .i64 0, .int .i64 0, .int .i64 0], none, []⟩,⟨none, .store (.t 8) 6 (.t 33), none, [8]⟩,⟨some 9, .mv (.t 34), none, []⟩] [0, 1, 5, 6, 8, 9, 23, 24, 25]
theorem r74_11 : type_of% (rr c74_11.eq_1) := rr rfl
def c74_12 : ACode := .ops [⟨some 35, .mv (.t 9), none, []⟩,⟨some 36, .un .not (.t 35), none, []⟩] [0, 1, 5, 6, 8, 23, 24, 25, 36]
theorem r74_12 : type_of% (rr c74_12.eq_1) := rr rfl
def c74_13 : ACode := .ops [⟨some 4, .mv (.c (.bool false)), none, []⟩] [4]
theorem r74_13 : type_of% (rr c74_13.eq_1) := rr rfl
def c74_14 : ACode := .seq c74_13 .ret
theorem r74_14 : type_of% (rr c74_14.eq_1) := rr rfl
def c74_15 : ACode := .cond (.t 36) c74_14 .skip
theorem r74_15 : type_of% (rr c74_15.eq_1) := rr rfl
def c74_16 : ACode := .seq c74_12 c74_15
theorem r74_16 : type_of% (rr c74_16.eq_1) := rr rfl
def c74_17 : ACode := .ops [⟨some 37, .fad (.t 8) 0, none, [8]⟩,⟨some 38, .load 1 false (.t 37), none, [8]⟩] [0, 1, 5, 6, 8, 23, 24, 25, 38]
theorem r74_17 : type_of% (rr c74_17.eq_1) := rr rfl
def c74_18 : ACode := .cond (.t 38) (.exit 1) .skip
theorem r74_18 : type_of% (rr c74_18.eq_1) := rr rfl
def c74_19 : ACode := .seq c74_17 c74_18
theorem r74_19 : type_of% (rr c74_19.eq_1) := rr rfl
def c74_20 : ACode := .ops [⟨some 39, .fad (.t 8) 2, none, [8]⟩,⟨some 40, .load 1 false (.t 39), none, [8]⟩,⟨some 41, .mv (.t 1), none, []⟩,⟨some 42, .bin .geq (.t 40) (.t 41), none, []⟩,⟨some 43, .mv (.t 42), none, []⟩,⟨some 44, .fad (.t 8) 4, some (43, false), [8]⟩,⟨some 45, .load 1 false (.t 44), some (43, false), [8]⟩,⟨some 46, .fad (.t 8) 5, some (43, false), [8]⟩,⟨some 47, .load 1 false (.t 46), some (43, false), [8]⟩,⟨some 48, .bin .eql (.t 45) (.t 47), some (43, false), []⟩,⟨some 49, .pick (.t 43) (.c (.bool true)) (.t 48), none, []⟩,⟨some 50, .mv (.t 49), none, []⟩,⟨some 51, .fad (.t 8) 4, some (50, false), [8]⟩,⟨some 52, .load 1 false (.t 51), some (50, false), [8]⟩,⟨some 53, .fad (.t 8) 5, some (50, false), [8]⟩,⟨some 54, .load 1 false (.t 53), some (50, false), [8]⟩,⟨some 55, .mnmx false (.t 52) (.t 54), some (50, false), []⟩,⟨some 56, .mv (.t 6), some (50, false), []⟩,⟨some 57, .bin .leq (.t 55) (.t 56), some (50, false), []⟩,⟨some 58, .pick (.t 50) (.c (.bool true)) (.t 57), none, []⟩,⟨some 59, .mv (.t 58), none, []⟩,⟨some 60, .fad (.t 8) 4, some (59, false), [8]⟩,⟨some 61, .load 1 false (.t 60), some (59, false), [8]⟩,⟨some 62, .fad (.t 8) 5, some (59, false), [8]⟩,⟨some 63, .load 1 false (.t 62), some (59, false), [8]⟩,⟨some 64, .mnmx true (.t 61) (.t 63), some (59, false), []⟩,⟨some 65, .mv (.t 0), some (59, false), []⟩,⟨some 66, .len (.t 65), some (59, false), []⟩,⟨some 67, .bin .geq (.t 64) (.t 66), some (59, false), []⟩,⟨some 68, .pick (.t 59) (.c (.bool true)) (.t 67), none, []⟩] [0, 1, 5, 8, 23, 24, 25, 68]
theorem r74_20 : type_of% (rr c74_20.eq_1) := rr rfl
def c74_21 : ACode := .ops [⟨some 4, .mv (.c (.bool false)), none, []⟩] [4]
theorem r74_21 : type_of% (rr c74_21.eq_1) := rr rfl
def c74_22 : ACode := .seq c74_21 .ret
theorem r74_22 : type_of% (rr c74_22.eq_1) := rr rfl
def c74_23 : ACode := .cond (.t 68) c74_22 .skip
theorem r74_23 : type_of% (rr c74_23.eq_1) := rr rfl
def c74_24 : ACode := .seq c74_20 c74_23
theorem r74_24 : type_of% (rr c74_24.eq_1) := rr rfl
def c74_25 : ACode := .ops [⟨some 69, .mv (.t 5), none, []⟩,⟨some 70, .fad (.t 8) 4, none, [8]⟩,⟨some 71, .load 1 false (.t 70), none, [8]⟩,⟨some 72, .ias (.t 69) (.t 71) 1, none, [5]⟩,⟨some 73, .load 1 false (.t 72), none, [5]⟩,⟨some 74, .bin .add (.t 73) (.c (.int .i64 1)), none, []⟩,⟨some 75, .ias (.t 69) (.t 71) 1, none, [5]⟩,⟨none, .store (.t 75) 1 (.t 74), none, [5]⟩] [0, 1, 5, 8, 23, 24, 25]
theorem r74_25 : type_of% (rr c74_25.eq_1) := rr rfl
def c74_26 : ACode := .ops [⟨some 76, .mv (.t 5), none, []⟩,⟨some 77, .fad (.t 8) 5, none, [8]⟩,⟨some 78, .load 1 false (.t 77), none, [8]⟩,⟨some 79, .ias (.t 76) (.t 78) 1, none, [5]⟩,⟨some 80, .load 1 false (.t 79), none, [5]⟩,⟨some 81, .bin .add (.t 80) (.c (.int .i64 1)), none, []⟩,⟨some 82, .ias (.t 76) (.t 78) 1, none, [5]⟩,⟨none, .store (.t 82) 1 (.t 81), none, [5]⟩] [0, 1, 5, 23, 24, 25]
theorem r74_26 : type_of% (rr c74_26.eq_1) := rr rfl
def c74_27 : ACode := .seq c74_25 c74_26
theorem r74_27 : type_of% (rr c74_27.eq_1) := rr rfl
def c74_28 : ACode := .seq c74_24 c74_27
theorem r74_28 : type_of% (rr c74_28.eq_1) := rr rfl
def c74_29 : ACode := .seq c74_19 c74_28
theorem r74_29 : type_of% (rr c74_29.eq_1) := rr rfl
def c74_30 : ACode := .seq c74_16 c74_29
theorem r74_30 : type_of% (rr c74_30.eq_1) := rr rfl
def c74_31 : ACode := .seq c74_11 c74_30
theorem r74_31 : type_of% (rr c74_31.eq_1) := rr rfl
def c74_32 : ACode := .seq c74_10 c74_31
theorem r74_32 : type_of% (rr c74_32.eq_1) := rr rfl
def c74_33 : ACode := .block 1 c74_32
theorem r74_33 : type_of% (rr c74_33.eq_1) := rr rfl
def c74_34 : ACode := .ops [⟨some 83, .bin .add (.t 25) (.c (.int .i64 1)), none, []⟩,⟨some 25, .mv (.t 83), none, []⟩] [0, 1, 5, 23, 24, 25]
theorem r74_34 : type_of% (rr c74_34.eq_1) := rr rfl
def c74_35 : ACode := .seq c74_33 c74_34
theorem r74_35 : type_of% (rr c74_35.eq_1) := rr rfl
def c74_36 : ACode := .seq c74_9 c74_35
theorem r74_36 : type_of% (rr c74_36.eq_1) := rr rfl
def c74_37 : ACode := .seq c74_8 c74_36
theorem r74_37 : type_of% (rr c74_37.eq_1) := rr rfl
def c74_38 : ACode := .keep [0, 1, 5, 23, 24, 25] [5] c74_37
theorem r74_38 : type_of% (rr c74_38.eq_1) := rr rfl
def c74_39 : ACode := .loop c74_38
theorem r74_39 : type_of% (rr c74_39.eq_1) := rr rfl
def c74_40 : ACode := .block 0 c74_39
theorem r74_40 : type_of% (rr c74_40.eq_1) := rr rfl
def c74_41 : ACode := .seq c74_7 c74_40
theorem r74_41 : type_of% (rr c74_41.eq_1) := rr rfl
def c74_42 : ACode := .ops [⟨some 84, .mv (.t 5), none, []⟩,⟨some 85, .sl (.t 84) (some (.c (.int .i64 1))) none 1, none, [5]⟩,⟨some 86, .len (.t 85), none, [5]⟩,⟨some 87, .mv (.c (.int .i64 0)), none, []⟩] [85, 86, 87]
theorem r74_42 : type_of% (rr c74_42.eq_1) := rr rfl
def c74_43 : ACode := .ops [⟨some 88, .bin .lss (.t 87) (.t 86), none, []⟩] [85, 86, 87, 88]
theorem r74_43 : type_of% (rr c74_43.eq_1) := rr rfl
def c74_44 : ACode := .cond (.t 88) .skip (.exit 2)
theorem r74_44 : type_of% (rr c74_44.eq_1) := rr rfl
def c74_45 : ACode := .ops [⟨some 89, .ias (.t 85) (.t 87) 1, none, [5]⟩,⟨some 90, .load 1 false (.t 89), none, [5]⟩,⟨some 11, .mv (.t 90), none, []⟩] [11, 85, 86, 87]
theorem r74_45 : type_of% (rr c74_45.eq_1) := rr rfl
def c74_46 : ACode := .ops [⟨some 91, .mv (.t 11), none, []⟩,⟨some 92, .bin .neq (.t 91) (.c (.int .i64 1)), none, []⟩] [85, 86, 87, 92]
theorem r74_46 : type_of% (rr c74_46.eq_1) := rr rfl
def c74_47 : ACode := .ops [⟨some 4, .mv (.c (.bool false)), none, []⟩] [4]
theorem r74_47 : type_of% (rr c74_47.eq_1) := rr rfl
def c74_48 : ACode := .seq c74_47 .ret
theorem r74_48 : type_of% (rr c74_48.eq_1) := rr rfl
def c74_49 : ACode := .cond (.t 92) c74_48 .skip
theorem r74_49 : type_of% (rr c74_49.eq_1) := rr rfl
def c74_50 : ACode := .seq c74_46 c74_49
theorem r74_50 : type_of% (rr c74_50.eq_1) := rr rfl
def c74_51 : ACode := .seq c74_45 c74_50
theorem r74_51 : type_of% (rr c74_51.eq_1) := rr rfl
def c74_52 : ACode := .block 3 c74_51
theorem r74_52 : type_of% (rr c74_52.eq_1) := rr rfl
def c74_53 : ACode := .ops [⟨some 93, .bin .add (.t 87) (.c (.int .i64 1)), none, []⟩,⟨some 87, .mv (.t 93), none, []⟩] [85, 86, 87]
theorem r74_53 : type_of% (rr c74_53.eq_1) := rr rfl
def c74_54 : ACode := .seq c74_52 c74_53
theorem r74_54 : type_of% (rr c74_54.eq_1) := rr rfl
def c74_55 : ACode := .seq c74_44 c74_54
theorem r74_55 : type_of% (rr c74_55.eq_1) := rr rfl
def c74_56 : ACode := .seq c74_43 c74_55
theorem r74_56 : type_of% (rr c74_56.eq_1) := rr rfl
def c74_57 : ACode := .keep [85, 86, 87] [5] c74_56
theorem r74_57 : type_of% (rr c74_57.eq_1) := rr rfl
def c74_58 : ACode := .loop c74_57
theorem r74_58 : type_of% (rr c74_58.eq_1) := rr rfl
def c74_59 : ACode := .block 2 c74_58
theorem r74_59 : type_of% (rr c74_59.eq_1) := rr rfl
def c74_60 : ACode := .seq c74_42 c74_59
theorem r74_60 : type_of% (rr c74_60.eq_1) := rr rfl
def c74_61 : ACode := .ops [⟨some 4, .mv (.c (.bool true)), none, []⟩] [4]
theorem r74_61 : type_of% (rr c74_61.eq_1) := rr rfl
def c74_62 : ACode := .seq c74_61 .ret
theorem r74_62 : type_of% (rr c74_62.eq_1) := rr rfl
def c74_63 : ACode := .seq c74_60 c74_62
theorem r74_63 : type_of% (rr c74_63.eq_1) := rr rfl
def c74_64 : ACode := .seq c74_41 c74_63
theorem r74_64 : type_of% (rr c74_64.eq_1) := rr rfl
def c74_65 : ACode := .seq c74_6 c74_64
theorem r74_65 : type_of% (rr c74_65.eq_1) := rr rfl
def c74_66 : ACode := .seq c74_5 c74_65
theorem r74_66 : type_of% (rr c74_66.eq_1) := rr rfl
def c74_67 : ACode := .seq c74_0 c74_66
theorem r74_67 : type_of% (rr c74_67.eq_1) := rr rfl
def a74 : AFun := ⟨2, 94, c74_67, [.t 4]⟩
attribute [simp] r74_0 r74_1 r74_2 r74_3 r74_4 r74_5 r74_6 r74_7 r74_8 r74_9 r74_10 r74_11 r74_12 r74_13 r74_14 r74_15 r74_16 r74_17 r74_18 r74_19 r74_20 r74_21 r74_22 r74_23 r74_24 r74_25 r74_26 r74_27 r74_28 r74_29 r74_30 r74_31 r74_32 r74_33 r74_34 r74_35 r74_36 r74_37 r74_38 r74_39 r74_40 r74_41 r74_42 r74_43 r74_44 r74_45 r74_46 r74_47 r74_48 r74_49 r74_50 r74_51 r74_52 r74_53 r74_54 r74_55 r74_56 r74_57 r74_58 r74_59 r74_60 r74_61 r74_62 r74_63 r74_64 r74_65 r74_66 r74_67
theorem m74 : mFun Tryz.prog Tryz.f74 a74 = true := by decide +kernel
noncomputable def TreeRight (l : List Word) (dim : Int) : Option Bool := Part (RT l dim) true
def cnt (l : List Word) (i j : Nat) : Int := ((l.take i).countP (fun w => names (nd w) j) : Nat)
def cnts (l : List Word) (i : Nat) : List Int := (List.range l.length).map (cnt l i)
theorem cnts_len (l : List Word) (i : Nat) : (cnts l i).length = l.length := by simp [cnts]
theorem cnts_get (l : List Word) (i j : Nat) (h : j < (cnts l i).length) : (cnts l i)[j] = cnt l i j := by simp [cnts]
theorem cnt_succ {l : List Word} {i : Nat} (h : i < l.length) (j : Nat) : cnt l (i + 1) j = cnt l i j + (if names (ndAt l i) j then 1 else 0) := by
  unfold cnt
  rw [List.take_succ_eq_append_getElem h, List.countP_append, ndAt_lt h]
  simp only [List.countP_cons, List.countP_nil]
  split <;> simp
theorem cnt_le (l : List Word) (i j : Nat) : 0 ≤ cnt l i j ∧ cnt l i j ≤ l.length := by
  unfold cnt
  have := List.countP_le_length (p := fun w => names (nd w) j) (l := l.take i)
  simp at this
  omega
theorem cnts_zero (l : List Word) : cnts l 0 = List.replicate l.length 0 := by
  apply List.ext_getElem
  · simp [cnts]
  · intro j h1 h2
    rw [cnts_get]
    simp [cnt]
theorem cnts_leaf {l : List Word} {i : Nat} (h : i < l.length) (hl : (ndAt l i).leaf = true) : cnts l (i + 1) = cnts l i := by
  apply List.ext_getElem
  · simp [cnts]
  · intro j h1 h2
    rw [cnts_get, cnts_get, cnt_succ h]
    simp [names, hl]
theorem cnts_inner {l : List Word} {dim : Int} (hr : RT l dim) {i : Nat} (h : i < l.length) (hl : (ndAt l i).leaf = false) :
    cnts l (i + 1) = ((cnts l i).set (ndAt l i).left.toNat (cnt l i (ndAt l i).left.toNat + 1)).set (ndAt l i).right.toNat (cnt l i (ndAt l i).right.toNat + 1) := by
  have ha := hr.at h hl
  apply List.ext_getElem
  · simp [cnts]
  · intro j h1 h2
    rw [cnts_get, cnt_succ h, List.getElem_set, List.getElem_set]
    simp only [cnts_get, names, hl, Bool.not_false, Bool.true_and, Bool.or_eq_true, decide_eq_true_eq]
    by_cases e1 : (ndAt l i).right.toNat = j
    · rw [if_pos e1, if_pos (by omega), e1]
    · rw [if_neg e1]
      by_cases e2 : (ndAt l i).left.toNat = j
      · rw [if_pos e2, if_pos (by omega), e2]
      · rw [if_neg e2, if_neg (by omega)]
        omega
theorem unpack_at {l : List Word} {dim : Int} (h : RT l dim) {i : Nat} (hi : i < l.length) : Unpack ⟨l[i].v⟩ = some (ndAt l i, true) := by
  have := h.ok i hi
  unfold Unpack
  have h1 : 0 ≤ (⟨l[i].v⟩ : Word).v ∧ (⟨l[i].v⟩ : Word).v < 18446744073709551616 := this.1
  rw [if_pos h1]
  have e : (⟨l[i].v⟩ : Word) = l[i] := rfl
  rw [e]
  congr 1
  rw [ndAt_lt hi]
  exact Prod.ext rfl this.2
theorem runs_tRight (l : List Word) (dim : Int) (c : Bool) (h : TreeRight l dim = some c) : Runs (tbl [(85, sp1 Unpack)]) a74 [Arg.enc l, Arg.enc dim] (Arg.enc c) := by
  obtain ⟨hr, rfl⟩ := part_some h
  refine ⟨rfl, fun g => run_def ?_⟩
  unfold a74
  have hp := hr.pos
  have hle := hr.le
  have b1 : ¬ (l.length : Int) < 1 := by omega
  have b2 : ¬ (l.length : Int) > 31 := by omega
  have b3 : l.length ≤ maxN := by unfold maxN; omega
  have b4 : (l.length : Int) ≤ 1099511627776 := by omega
  simp -implicitDefEqProofs [b1, b2, b3, b4, rep_ints]
  rw [rep_cells]
  refine run_while (c := c74_37) (fun m s => ∃ (i : Nat) (g : Nat → Nat), i + m = l.length ∧ s = ⟨[(0, .lst l.length (encL l)), (1, .int .i64 dim), (5, .own 5 (g 5) 0 l.length), (23, .lst l.length (encL l)), (24, .int .i64 l.length), (25, .int .i64 i)], [(5, ⟨encL (cnts l i), false, 1⟩)], g⟩) l.length ⟨0, bump 5 g, by omega, by simp [cnts_zero]⟩ ?_
  rintro m s ⟨i, g, hi, rfl⟩
  by_cases h1 : i < l.length
  case pos =>
    have hU := unpack_at hr h1
    have w1 : IntKind.i64.wrap ((i : Int) + 1) = (i : Int) + 1 := wrap64 (by omega) (by omega)
    cases hl : (ndAt l i).leaf
    case true =>
      simp -implicitDefEqProofs [h1, rd_words, hU, hl, w1]
      exact ⟨m - 1, by omega, i + 1, by omega, by omega, by rw [cnts_leaf h1 hl]⟩
    case false =>
      have ha := hr.at h1 hl
      have e1 : ¬ dim ≤ (ndAt l i).feature := by omega
      have e2 : ¬ (ndAt l i).left = (ndAt l i).right := ha.2.1
      have e3 : ¬ (if (ndAt l i).right < (ndAt l i).left then (ndAt l i).right else (ndAt l i).left) ≤ (i : Int) := by split <;> omega
      have e4 : ¬ (l.length : Int) ≤ (if (ndAt l i).left < (ndAt l i).right then (ndAt l i).right else (ndAt l i).left) := by split <;> omega
      have e5 : ¬ (ndAt l i).left.toNat = (ndAt l i).right.toNat := by omega
      have f1 : 0 ≤ (ndAt l i).left := by omega
      have f2 : (ndAt l i).left < l.length := by omega
      have f3 : 0 ≤ (ndAt l i).right := by omega
      have f4 : (ndAt l i).right < l.length := by omega
      have f5 : (ndAt l i).left.toNat < l.length := by omega
      have f6 : (ndAt l i).right.toNat < l.length := by omega
      have n1 := cnt_le l i (ndAt l i).left.toNat
      have n2 := cnt_le l i (ndAt l i).right.toNat
      have w2 : IntKind.i64.wrap (cnt l i (ndAt l i).left.toNat + 1) = cnt l i (ndAt l i).left.toNat + 1 := wrap64 (by omega) (by omega)
      have w3 : IntKind.i64.wrap (cnt l i (ndAt l i).right.toNat + 1) = cnt l i (ndAt l i).right.toNat + 1 := wrap64 (by omega) (by omega)
      simp -implicitDefEqProofs [h1, rd_words, hU, hl, w1, b3, e1, e2, e3, e4, e5, f1, f2, f3, f4, f5, f6, cnts_len, cnts_get, rd_ints, wr_ints, encL_length, w2, w3]
      exact ⟨fun _ => ⟨fun _ => ⟨m - 1, by omega, i + 1, by omega, by omega, by rw [cnts_inner hr h1 hl]⟩, by omega⟩, by omega⟩
  case neg =>
    have hil : i = l.length := by omega
    subst hil
    have p1 : (1 : Int) ≤ l.length := by omega
    have p2 : l.length - 1 ≤ maxN := by omega
    simp -implicitDefEqProofs [p1, p2]
    refine run_while (c := c74_56) (fun m s => ∃ (i : Nat), i + m = l.length - 1 ∧ s = ⟨[(85, .own 5 (g 5) 1 (l.length - 1)), (86, .int .i64 (l.length - 1 : Nat)), (87, .int .i64 i)], [(5, ⟨encL (cnts l l.length), false, 1⟩)], g⟩) (l.length - 1) ⟨0, by omega, by simp⟩ ?_
    rintro m s ⟨i, hi, rfl⟩
    by_cases h1 : (i : Int) < (l.length - 1 : Nat)
    case pos =>
      have w1 : IntKind.i64.wrap ((i : Int) + 1) = (i : Int) + 1 := wrap64 (by omega) (by omega)
      have q1 : 1 + i < l.length := by omega
      have hc : cnt l l.length (1 + i) = 1 := by
        unfold cnt
        rw [List.take_length, hr.once (1 + i) (by omega) q1]
        rfl
      simp -implicitDefEqProofs [h1, rd_ints, cnts_len, cnts_get, w1, q1, hc]
      exact ⟨m - 1, by omega, i + 1, by omega, by omega⟩
    case neg =>
      simp -implicitDefEqProofs [h1]
theorem c_tRight : Contract Tryz.prog 74 (sp2 TreeRight) :=
  contract_of_runs mixed (tbl_cons c_Unpack tbl_nil) Tryz.func74 m74 (sp2_runs runs_tRight)
end Go.Co
