/- CO: walks through right trees; the pieces of a tree within a box. -/
import Derived.Test.YtcjflbmpfmibbaaCoModel
namespace Go.Co
/-! ### points, spans, boxes -/
def Point.get (p : Point) (i : Int) : Int := if i = 0 then p.p0 else if i = 1 then p.p1 else if i = 2 then p.p2 else p.p3
def Point.set (p : Point) (i n : Int) : Point := if i = 0 then { p with p0 := n } else if i = 1 then { p with p1 := n } else if i = 2 then { p with p2 := n } else { p with p3 := n }
def InS (s : Span) (n : Int) : Prop := s.lo ≤ n ∧ n ≤ s.hi
def InB (b : Box) (p : Point) (t : Int) : Prop := InS b.s0 p.p0 ∧ InS b.s1 p.p1 ∧ InS b.s2 p.p2 ∧ InS b.s3 p.p3 ∧ InS b.s4 t
theorem cutS_1 (s : Span) (c n : Int) : InS (cutS s c).1 n ↔ InS s n ∧ n ≤ c := by
  unfold cutS
  split
  · unfold ofS InS
    split
    · simp only [noneS]; omega
    · simp only; omega
  · unfold ofS InS
    split
    · simp only [noneS]; omega
    · simp only; omega
theorem cutS_2 (s : Span) (c n : Int) : InS (cutS s c).2 n ↔ InS s n ∧ c < n := by
  unfold cutS
  split
  · unfold InS
    simp only [noneS]
    omega
  · unfold ofS InS
    simp only
    split <;> split <;> simp only [noneS] <;> omega
theorem empty_false {b : Box} : b.empty = false ↔ ∃ p t, InB b p t := by
  constructor
  · intro h
    unfold Box.empty Span.empty at h
    simp only [Bool.or_eq_false_iff, decide_eq_false_iff_not] at h
    exact ⟨⟨b.s0.lo, b.s1.lo, b.s2.lo, b.s3.lo⟩, b.s4.lo, by unfold InB InS; simp only; omega⟩
  · rintro ⟨p, t, h⟩
    unfold Box.empty Span.empty
    simp only [Bool.or_eq_false_iff, decide_eq_false_iff_not]
    unfold InB InS at h
    omega
theorem get_set {b : Box} {i : Int} {s : Span} (h : 0 ≤ i ∧ i < 4) (p : Point) (t : Int) : InB (b.set i s) p t ↔ InS s (p.get i) ∧ ∀ j, 0 ≤ j → j < 4 → j ≠ i → InS (b.get j) (p.get j) ∧ InS b.s4 t := by
  have hp : i = 0 ∨ i = 1 ∨ i = 2 ∨ i = 3 := by omega
  constructor
  · intro hi
    rcases hp with rfl | rfl | rfl | rfl <;> simp [Box.set, InB, Point.get] at hi ⊢ <;> refine ⟨by simp [hi], ?_⟩ <;> intro j h1 h2 h3 <;>
      (have hj : j = 0 ∨ j = 1 ∨ j = 2 ∨ j = 3 := by omega) <;> rcases hj with rfl | rfl | rfl | rfl <;> simp_all [Box.get, Point.get]
  · rintro ⟨h1, h2⟩
    have k0 := h2 0 (by omega) (by omega)
    have k1 := h2 1 (by omega) (by omega)
    have k2 := h2 2 (by omega) (by omega)
    have k3 := h2 3 (by omega) (by omega)
    rcases hp with rfl | rfl | rfl | rfl <;> simp [Box.set, InB, Point.get, Box.get] at * <;> simp_all
theorem inB_get {b : Box} {p : Point} {t : Int} : InB b p t ↔ ∀ j, 0 ≤ j → j < 4 → InS (b.get j) (p.get j) ∧ InS b.s4 t := by
  constructor
  · intro h j h1 h2
    have hj : j = 0 ∨ j = 1 ∨ j = 2 ∨ j = 3 := by omega
    rcases hj with rfl | rfl | rfl | rfl <;> simp_all [InB, Box.get, Point.get]
  · intro h2
    have k0 := h2 0 (by omega) (by omega)
    have k1 := h2 1 (by omega) (by omega)
    have k2 := h2 2 (by omega) (by omega)
    have k3 := h2 3 (by omega) (by omega)
    simp [InB, Point.get, Box.get] at *
    simp_all
theorem cutB_1 (b : Box) {i : Int} (h : 0 ≤ i ∧ i < 4) (c : Int) (p : Point) (t : Int) : InB (cutB b i c).1 p t ↔ InB b p t ∧ p.get i ≤ c := by
  unfold cutB
  rw [if_pos (by omega)]
  simp only
  rw [get_set h, cutS_1, inB_get]
  constructor
  · rintro ⟨⟨h1, h2⟩, h3⟩
    refine ⟨fun j hj hj2 => ?_, h2⟩
    by_cases e : j = i
    · subst e
      by_cases e0 : j = 0
      · exact ⟨h1, (h3 1 (by omega) (by omega) (by omega)).2⟩
      · exact ⟨h1, (h3 0 (by omega) (by omega) (by omega)).2⟩
    · exact h3 j hj hj2 e
  · rintro ⟨h1, h2⟩
    exact ⟨⟨(h1 i h.1 h.2).1, h2⟩, fun j hj hj2 _ => h1 j hj hj2⟩
theorem cutB_2 (b : Box) {i : Int} (h : 0 ≤ i ∧ i < 4) (c : Int) (p : Point) (t : Int) : InB (cutB b i c).2 p t ↔ InB b p t ∧ c < p.get i := by
  unfold cutB
  rw [if_pos (by omega)]
  simp only
  rw [get_set h, cutS_2, inB_get]
  constructor
  · rintro ⟨⟨h1, h2⟩, h3⟩
    refine ⟨fun j hj hj2 => ?_, h2⟩
    by_cases e : j = i
    · subst e
      by_cases e0 : j = 0
      · exact ⟨h1, (h3 1 (by omega) (by omega) (by omega)).2⟩
      · exact ⟨h1, (h3 0 (by omega) (by omega) (by omega)).2⟩
    · exact h3 j hj hj2 e
  · rintro ⟨h1, h2⟩
    exact ⟨⟨(h1 i h.1 h.2).1, h2⟩, fun j hj hj2 _ => h1 j hj hj2⟩
/-! ### walks -/
def ndAt (l : List Word) (i : Nat) : Node := nd (l.getD i default)
theorem ndAt_lt {l : List Word} {i : Nat} (h : i < l.length) : ndAt l i = nd l[i] := by unfold ndAt; simp [h]
def nxt (n : Node) (p : Point) : Nat := if p.get n.feature ≤ n.cut then n.left.toNat else n.right.toNat
def walk (l : List Word) (p : Point) : Nat → Nat → Nat
  | 0, i => i
  | f + 1, i => if (ndAt l i).leaf then i else walk l p f (nxt (ndAt l i) p)
def leafOf (l : List Word) (p : Point) : Nat := walk l p 31 0
def valueAt (l : List Word) (p : Point) : Int := (ndAt l (leafOf l p)).value
theorem RT.at {l : List Word} {dim : Int} (h : RT l dim) {i : Nat} (hi : i < l.length) (hl : (ndAt l i).leaf = false) :
    (ndAt l i).feature < dim ∧ (ndAt l i).left ≠ (ndAt l i).right ∧ (i : Int) < (ndAt l i).left ∧ (ndAt l i).left < l.length ∧ (i : Int) < (ndAt l i).right ∧ (ndAt l i).right < l.length := by
  rw [ndAt_lt hi] at *
  exact h.inner i hi hl
theorem RT.node {l : List Word} {dim : Int} (h : RT l dim) {i : Nat} (hi : i < l.length) : rightNode (ndAt l i) = true := by
  rw [ndAt_lt hi]
  exact (unpack_true (h.ok i hi).2).1
theorem RT.feature {l : List Word} {dim : Int} (h : RT l dim) {i : Nat} (hi : i < l.length) (hl : (ndAt l i).leaf = false) : 0 ≤ (ndAt l i).feature ∧ (ndAt l i).feature < 4 := by
  have := h.node hi
  unfold rightNode at this
  rw [hl] at this
  simp only [Bool.false_eq_true, if_false, Bool.and_eq_true, decide_eq_true_eq] at this
  omega
theorem RT.value {l : List Word} {dim : Int} (h : RT l dim) {i : Nat} (hi : i < l.length) : fits (ndAt l i).value = true := by
  have := h.node hi
  unfold rightNode at this
  cases hl : (ndAt l i).leaf
  · rw [hl] at this
    simp only [Bool.false_eq_true, if_false, Bool.and_eq_true, decide_eq_true_eq] at this
    rw [this.1.1.1.1.1.1.1]
    rfl
  · rw [hl] at this
    simp only [if_true, Bool.and_eq_true, decide_eq_true_eq] at this
    exact this.1.1.1.1
theorem RT.cutOk {l : List Word} {dim : Int} (h : RT l dim) {i : Nat} (hi : i < l.length) : fits (ndAt l i).cut = true := by
  have := h.node hi
  unfold rightNode at this
  cases hl : (ndAt l i).leaf
  · rw [hl] at this
    simp only [Bool.false_eq_true, if_false, Bool.and_eq_true, decide_eq_true_eq] at this
    exact this.1.1.1.1.2
  · rw [hl] at this
    simp only [if_true, Bool.and_eq_true, decide_eq_true_eq] at this
    rw [this.1.1.2]
    rfl
theorem nxt_lt {l : List Word} {dim : Int} (h : RT l dim) {i : Nat} (hi : i < l.length) (hl : (ndAt l i).leaf = false) (p : Point) : i < nxt (ndAt l i) p ∧ nxt (ndAt l i) p < l.length := by
  have := h.at hi hl
  unfold nxt
  split <;> omega
theorem walk_leaf {l : List Word} {dim : Int} (h : RT l dim) (p : Point) : ∀ (f i : Nat), i < l.length → l.length ≤ f + i → walk l p f i < l.length ∧ (ndAt l (walk l p f i)).leaf = true
  | 0, i, h1, h2 => by omega
  | f + 1, i, h1, h2 => by
    unfold walk
    cases hl : (ndAt l i).leaf
    · simp only [Bool.false_eq_true, if_false]
      have := nxt_lt h h1 hl p
      exact walk_leaf h p f _ this.2 (by omega)
    · simp only [if_true]
      exact ⟨h1, hl⟩
theorem leafOf_lt {l : List Word} {dim : Int} (h : RT l dim) (p : Point) : leafOf l p < l.length ∧ (ndAt l (leafOf l p)).leaf = true :=
  walk_leaf h p 31 0 (by have := h.pos; omega) (by have := h.le; omega)
theorem valueAt_fits {l : List Word} {dim : Int} (h : RT l dim) (p : Point) : fits (valueAt l p) = true := h.value (leafOf_lt h p).1
inductive Reach (l : List Word) (p : Point) : Nat → Prop
  | root : Reach l p 0
  | step {i : Nat} : Reach l p i → (ndAt l i).leaf = false → Reach l p (nxt (ndAt l i) p)
theorem Reach.lt {l : List Word} {dim : Int} (h : RT l dim) {p : Point} {j : Nat} (hr : Reach l p j) : j < l.length := by
  induction hr with
  | root => have := h.pos; omega
  | step hr hl ih => exact (nxt_lt h ih hl p).2
theorem Reach.walk {l : List Word} {dim : Int} (h : RT l dim) {p : Point} {j : Nat} (hr : Reach l p j) : ∃ f, 31 ≤ f + j ∧ leafOf l p = walk l p f j := by
  induction hr with
  | root => exact ⟨31, by omega, rfl⟩
  | @step i hr hl ih =>
    obtain ⟨f, hf, hw⟩ := ih
    have hi := hr.lt h
    have hle := h.le
    cases f with
    | zero => omega
    | succ f =>
      refine ⟨f, ?_, ?_⟩
      · have := (nxt_lt h hi hl p).1
        omega
      · rw [hw, Co.walk, hl]
        rfl
theorem Reach.leaf {l : List Word} {dim : Int} (h : RT l dim) {p : Point} {j : Nat} (hr : Reach l p j) (hl : (ndAt l j).leaf = true) : leafOf l p = j := by
  obtain ⟨f, hf, hw⟩ := hr.walk h
  rw [hw]
  cases f with
  | zero => rfl
  | succ f => rw [Co.walk, hl]; rfl
theorem reach_walk {l : List Word} {p : Point} : ∀ (f i : Nat), Reach l p i → Reach l p (walk l p f i)
  | 0, _, h => h
  | f + 1, i, h => by
    unfold walk
    cases hl : (ndAt l i).leaf
    · simp only [Bool.false_eq_true, if_false]
      exact reach_walk f _ (h.step hl)
    · simp only [if_true]
      exact h
theorem reach_leaf (l : List Word) (p : Point) : Reach l p (leafOf l p) := reach_walk 31 0 .root
/-! ### who names a place -/
theorem countP_one {α : Type} (f : α → Bool) : ∀ (l : List α) (i k : Nat) (hi : i < l.length) (hk : k < l.length), f l[i] = true → f l[k] = true → l.countP f = 1 → i = k
  | [], i, _, hi, _, _, _, _ => by simp at hi
  | a :: l, i, k, hi, hk, h1, h2, h => by
    rw [List.countP_cons] at h
    by_cases ha : f a = true
    · have h0 : l.countP f = 0 := by simp [ha] at h; simpa using h
      rw [List.countP_eq_zero] at h0
      cases i with
      | zero => cases k with
        | zero => rfl
        | succ k => exact (h0 _ (List.getElem_mem _) h2).elim
      | succ i => exact (h0 _ (List.getElem_mem _) h1).elim
    · cases i with
      | zero => exact (ha h1).elim
      | succ i => cases k with
        | zero => exact (ha h2).elim
        | succ k =>
          have : l.countP f = 1 := by simp [ha] at h; exact h
          rw [countP_one f l i k (by simpa using hi) (by simpa using hk) h1 h2 this]
theorem RT.unique {l : List Word} {dim : Int} (h : RT l dim) {i k j : Nat} (hi : i < l.length) (hk : k < l.length) (hj : 1 ≤ j) (hj2 : j < l.length) (h1 : names (ndAt l i) j = true) (h2 : names (ndAt l k) j = true) : i = k := by
  rw [ndAt_lt hi] at h1
  rw [ndAt_lt hk] at h2
  exact countP_one (fun w => names (nd w) j) l i k hi hk h1 h2 (h.once j hj hj2)
theorem RT.parent {l : List Word} {dim : Int} (h : RT l dim) {j : Nat} (hj : 1 ≤ j) (hj2 : j < l.length) : ∃ i, i < j ∧ (ndAt l i).leaf = false ∧ ((ndAt l i).left = j ∨ (ndAt l i).right = j) := by
  have h1 := h.once j hj hj2
  have h2 : 0 < l.countP (fun w => names (nd w) j) := by omega
  rw [List.countP_pos_iff] at h2
  obtain ⟨w, hw, hn⟩ := h2
  obtain ⟨i, hi, rfl⟩ := List.getElem_of_mem hw
  rw [← ndAt_lt hi] at hn
  unfold names at hn
  simp only [Bool.and_eq_true, Bool.not_eq_true', Bool.or_eq_true, decide_eq_true_eq] at hn
  have := h.at hi hn.1
  exact ⟨i, by omega, hn.1, hn.2⟩
/-! ### what of a box comes to each node -/
def up (f : Nat → Box) (i : Nat) (b : Box) : Nat → Box := fun j => if j = i then b else f j
def zeroB : Box := ⟨⟨0, 0⟩, ⟨0, 0⟩, ⟨0, 0⟩, ⟨0, 0⟩, ⟨0, 0⟩⟩
def ownF (l : List Word) (b : Box) : Nat → Nat → Box
  | 0 => up (fun _ => zeroB) 0 b
  | i + 1 => if (ndAt l i).leaf then ownF l b i else
      up (up (ownF l b i) (ndAt l i).left.toNat (cutB (ownF l b i i) (ndAt l i).feature (ndAt l i).cut).1) (ndAt l i).right.toNat (cutB (ownF l b i i) (ndAt l i).feature (ndAt l i).cut).2
def own (l : List Word) (b : Box) (j : Nat) : Box := ownF l b j j
theorem own_root {l : List Word} (b : Box) : own l b 0 = b := rfl
theorem own_child {l : List Word} {dim : Int} (h : RT l dim) (b : Box) {i : Nat} (hi : i < l.length) (hl : (ndAt l i).leaf = false) :
    own l b (ndAt l i).left.toNat = (cutB (own l b i) (ndAt l i).feature (ndAt l i).cut).1 ∧ own l b (ndAt l i).right.toNat = (cutB (own l b i) (ndAt l i).feature (ndAt l i).cut).2 := by
  have ha := h.at hi hl
  have key : ∀ (j : Nat), names (ndAt l i) j = true → i < j → j < l.length → ∀ m, i + 1 + m ≤ l.length → ownF l b (i + 1 + m) j = ownF l b (i + 1) j := by
    intro j hn hj hj2 m hm
    induction m with
    | zero => rfl
    | succ m ih =>
      have h0 := ih (by omega)
      rw [← h0]
      have h1 : names (ndAt l (i + 1 + m)) j = false := by
        cases hc : names (ndAt l (i + 1 + m)) j
        · rfl
        · have := h.unique hi (show i + 1 + m < l.length by omega) (show 1 ≤ j by omega) hj2 hn hc
          omega
      show ownF l b (i + 1 + m + 1) j = _
      rw [ownF]
      cases hl2 : (ndAt l (i + 1 + m)).leaf
      · have h2 := h.at (show i + 1 + m < l.length by omega) hl2
        simp only [names, hl2, Bool.not_false, Bool.true_and, Bool.or_eq_false_iff, decide_eq_false_iff_not] at h1
        simp only [Bool.false_eq_true, if_false, up]
        rw [if_neg (by omega), if_neg (by omega)]
      · simp only [if_true]
  have k1 := key (ndAt l i).left.toNat (by simp [names, hl]; omega) (by omega) (by omega) ((ndAt l i).left.toNat - (i + 1)) (by omega)
  have k2 := key (ndAt l i).right.toNat (by simp [names, hl]; omega) (by omega) (by omega) ((ndAt l i).right.toNat - (i + 1)) (by omega)
  rw [show i + 1 + ((ndAt l i).left.toNat - (i + 1)) = (ndAt l i).left.toNat by omega] at k1
  rw [show i + 1 + ((ndAt l i).right.toNat - (i + 1)) = (ndAt l i).right.toNat by omega] at k2
  unfold own
  rw [k1, k2, ownF, hl]
  simp only [Bool.false_eq_true, if_false, up]
  rw [if_neg (by omega)]
  simp
theorem own_iff {l : List Word} {dim : Int} (h : RT l dim) (b : Box) (p : Point) (t : Int) : ∀ j, j < l.length → (InB (own l b j) p t ↔ InB b p t ∧ Reach l p j) := by
  intro j
  induction j using Nat.strongRecOn with
  | _ j ih =>
    intro hj
    by_cases h0 : j = 0
    · subst h0
      rw [own_root]
      exact ⟨fun hb => ⟨hb, .root⟩, fun hb => hb.1⟩
    · obtain ⟨i, hi, hl, hn⟩ := h.parent (show 1 ≤ j by omega) hj
      have hi2 : i < l.length := by omega
      have hc := own_child h b hi2 hl
      have hf := h.feature hi2 hl
      have ha := h.at hi2 hl
      have hnm : names (ndAt l i) j = true := by
        unfold names
        simp only [hl, Bool.not_false, Bool.true_and, Bool.or_eq_true, decide_eq_true_eq]
        exact hn
      have back : Reach l p j → Reach l p i ∧ nxt (ndAt l i) p = j := by
        intro hr
        cases hr with
        | root => exact (h0 rfl).elim
        | @step i' hr hl' =>
          have hi' := hr.lt h
          have ha' := h.at hi' hl'
          have h3 : names (ndAt l i') (nxt (ndAt l i') p) = true := by
            unfold names nxt
            simp only [hl', Bool.not_false, Bool.true_and, Bool.or_eq_true, decide_eq_true_eq]
            split
            · exact Or.inl (by omega)
            · exact Or.inr (by omega)
          have := h.unique hi2 hi' (by omega) hj hnm h3
          subst this
          exact ⟨hr, rfl⟩
      rcases hn with hn | hn
      · have e : j = (ndAt l i).left.toNat := by omega
        have h4 : own l b j = (cutB (own l b i) (ndAt l i).feature (ndAt l i).cut).1 := by rw [e]; exact hc.1
        rw [h4, cutB_1 _ hf, ih i hi hi2]
        constructor
        · rintro ⟨⟨h5, h6⟩, h7⟩
          refine ⟨h5, ?_⟩
          have := h6.step hl
          unfold nxt at this
          rw [if_pos h7] at this
          rw [e]
          exact this
        · rintro ⟨h5, h6⟩
          obtain ⟨h7, h8⟩ := back h6
          refine ⟨⟨h5, h7⟩, ?_⟩
          unfold nxt at h8
          split at h8
          · assumption
          · omega
      · have e : j = (ndAt l i).right.toNat := by omega
        have h4 : own l b j = (cutB (own l b i) (ndAt l i).feature (ndAt l i).cut).2 := by rw [e]; exact hc.2
        rw [h4, cutB_2 _ hf, ih i hi hi2]
        constructor
        · rintro ⟨⟨h5, h6⟩, h7⟩
          refine ⟨h5, ?_⟩
          have := h6.step hl
          unfold nxt at this
          rw [if_neg (by omega)] at this
          rw [e]
          exact this
        · rintro ⟨h5, h6⟩
          obtain ⟨h7, h8⟩ := back h6
          refine ⟨⟨h5, h7⟩, ?_⟩
          unfold nxt at h8
          split at h8
          · omega
          · omega
/-! ### pieces -/
def pieceAt (l : List Word) (b : Box) (i : Nat) : Option Piece := if (ndAt l i).leaf && !(own l b i).empty then some ⟨own l b i, (ndAt l i).value⟩ else none
def pieces (l : List Word) (b : Box) : List Piece := (List.range l.length).filterMap (pieceAt l b)
theorem mem_pieces {l : List Word} {b : Box} {x : Piece} : x ∈ pieces l b ↔ ∃ i, i < l.length ∧ (ndAt l i).leaf = true ∧ (own l b i).empty = false ∧ x = ⟨own l b i, (ndAt l i).value⟩ := by
  unfold pieces
  rw [List.mem_filterMap]
  constructor
  · rintro ⟨i, hi, h⟩
    rw [List.mem_range] at hi
    unfold pieceAt at h
    split at h
    · rename_i hc
      simp only [Bool.and_eq_true, Bool.not_eq_true'] at hc
      cases h
      exact ⟨i, hi, hc.1, hc.2, rfl⟩
    · cases h
  · rintro ⟨i, hi, h1, h2, rfl⟩
    refine ⟨i, List.mem_range.2 hi, ?_⟩
    unfold pieceAt
    rw [h1, h2]
    rfl
theorem piece_of {l : List Word} {dim : Int} (h : RT l dim) {b : Box} {p : Point} {t : Int} (hp : InB b p t) : ∃ x ∈ pieces l b, InB x.box p t ∧ x.value = valueAt l p := by
  have h1 := leafOf_lt h p
  have h2 := (own_iff h b p t _ h1.1).2 ⟨hp, reach_leaf l p⟩
  exact ⟨⟨own l b (leafOf l p), valueAt l p⟩, mem_pieces.2 ⟨_, h1.1, h1.2, empty_false.2 ⟨p, t, h2⟩, rfl⟩, h2, rfl⟩
theorem piece_in {l : List Word} {dim : Int} (h : RT l dim) {b : Box} {x : Piece} (hx : x ∈ pieces l b) {p : Point} {t : Int} (hp : InB x.box p t) : InB b p t ∧ valueAt l p = x.value := by
  obtain ⟨i, hi, hl, he, rfl⟩ := mem_pieces.1 hx
  have := (own_iff h b p t i hi).1 hp
  refine ⟨this.1, ?_⟩
  unfold valueAt
  rw [this.2.leaf h hl]
theorem piece_some {l : List Word} {b : Box} {x : Piece} (hx : x ∈ pieces l b) : x.box.empty = false := by
  obtain ⟨i, hi, hl, he, rfl⟩ := mem_pieces.1 hx
  exact he
theorem piece_fits {l : List Word} {dim : Int} (h : RT l dim) {b : Box} {x : Piece} (hx : x ∈ pieces l b) : fits x.value = true := by
  obtain ⟨i, hi, hl, he, rfl⟩ := mem_pieces.1 hx
  exact h.value hi
theorem pieces_ne {l : List Word} {dim : Int} (h : RT l dim) {b : Box} (hb : b.empty = false) : pieces l b ≠ [] := by
  obtain ⟨p, t, hp⟩ := empty_false.1 hb
  obtain ⟨x, hx, _⟩ := piece_of h hp
  intro e
  rw [e] at hx
  cases hx
end Go.Co
