/- CO: sums, bounds. -/
import Derived.Test.YtcjflbmpfmibbaaCoWalk
namespace Go.Co
theorem max2_le {a b : Int} : a ≤ max2 a b ∧ b ≤ max2 a b ∧ (max2 a b = a ∨ max2 a b = b) := by unfold max2; split <;> omega
theorem min2_le {a b : Int} : min2 a b ≤ a ∧ min2 a b ≤ b ∧ (min2 a b = a ∨ min2 a b = b) := by unfold min2; split <;> omega
/-! ### sums -/
def evalF (c : Int) (p : Point) (s : Int) (t : Tree) : Int := if t.cls = c then s + valueAt t.nodes p else s
def evalM (m : Model) (c : Int) (p : Point) : Int := m.trees.foldl (evalF c p) (m.bias.get c)
theorem Bias.get_fits {m : Model} (h : RM m) (c : Int) : fits (m.bias.get c) = true := by
  unfold Bias.get
  have := h.bias
  split
  · exact this.1
  · split
    · exact this.2.1
    · exact this.2.2
theorem evalF_le {c : Int} {p : Point} : ∀ (l : List Tree) (s : Int), (∀ t ∈ l, ∃ d, RT t.nodes d) →
    s - 2147483648 * l.length ≤ l.foldl (evalF c p) s ∧ l.foldl (evalF c p) s ≤ s + 2147483647 * l.length
  | [], s, _ => by simp
  | t :: l, s, h => by
    obtain ⟨d, hd⟩ := h t (by simp)
    have h1 := of_fits (valueAt_fits hd p)
    have h2 := evalF_le (c := c) (p := p) l (evalF c p s t) (fun t ht => h t (by simp [ht]))
    have h3 : evalF c p s t = s ∨ evalF c p s t = s + valueAt t.nodes p := by unfold evalF; split <;> simp
    rw [List.foldl_cons, List.length_cons]
    rcases h3 with h3 | h3 <;> rw [h3] at h2 ⊢ <;> omega
theorem RM.rt {m : Model} (h : RM m) {t : Tree} (ht : t ∈ m.trees) : RT t.nodes m.dim := (h.tree t ht).2.2
/-! ### the least and the greatest of pieces -/
def endF (a : Int × Int) (x : Piece) : Int × Int := (min2 a.1 x.value, max2 a.2 x.value)
def ends (ps : List Piece) : Tri Int Int Bool := match ps with
  | [] => ⟨0, 0, false⟩
  | x :: _ => ⟨(ps.foldl endF (x.value, x.value)).1, (ps.foldl endF (x.value, x.value)).2, true⟩
theorem endF_le : ∀ (l : List Piece) (a : Int × Int), (l.foldl endF a).1 ≤ a.1 ∧ a.2 ≤ (l.foldl endF a).2 ∧ (∀ x ∈ l, (l.foldl endF a).1 ≤ x.value ∧ x.value ≤ (l.foldl endF a).2)
    ∧ ((l.foldl endF a).1 = a.1 ∨ ∃ x ∈ l, x.value = (l.foldl endF a).1) ∧ ((l.foldl endF a).2 = a.2 ∨ ∃ x ∈ l, x.value = (l.foldl endF a).2)
  | [], a => by simp
  | x :: l, a => by
    obtain ⟨h1, h2, h3, h4, h5⟩ := endF_le l (endF a x)
    have k1 := min2_le (a := a.1) (b := x.value)
    have k2 := max2_le (a := a.2) (b := x.value)
    rw [List.foldl_cons]
    unfold endF at h1 h2 h4 h5
    simp only at h1 h2 h4 h5
    refine ⟨by unfold endF; omega, by unfold endF; omega, ?_, ?_, ?_⟩
    · intro y hy
      rcases List.mem_cons.1 hy with rfl | hy
      · unfold endF; omega
      · exact h3 y hy
    · rcases h4 with h4 | ⟨y, hy, h4⟩
      · rcases k1.2.2 with e | e
        · exact Or.inl (by unfold endF; omega)
        · exact Or.inr ⟨x, by simp, by unfold endF; omega⟩
      · exact Or.inr ⟨y, by simp [hy], by unfold endF; exact h4⟩
    · rcases h5 with h5 | ⟨y, hy, h5⟩
      · rcases k2.2.2 with e | e
        · exact Or.inl (by unfold endF; omega)
        · exact Or.inr ⟨x, by simp, by unfold endF; omega⟩
      · exact Or.inr ⟨y, by simp [hy], by unfold endF; exact h5⟩
theorem ends_spec {ps : List Piece} (h : ps ≠ []) : (ends ps).c = true ∧ (∀ x ∈ ps, (ends ps).a ≤ x.value ∧ x.value ≤ (ends ps).b) ∧ (∃ x ∈ ps, x.value = (ends ps).a) ∧ ∃ x ∈ ps, x.value = (ends ps).b := by
  cases ps with
  | nil => exact (h rfl).elim
  | cons x l =>
    obtain ⟨h1, h2, h3, h4, h5⟩ := endF_le (x :: l) (x.value, x.value)
    refine ⟨rfl, h3, ?_, ?_⟩
    · rcases h4 with h4 | h4
      · exact ⟨x, by simp, h4.symm⟩
      · exact h4
    · rcases h5 with h5 | h5
      · exact ⟨x, by simp, h5.symm⟩
      · exact h5
def boundT (l : List Word) (b : Box) : Tri Int Int Bool := if b.empty then ⟨0, 0, false⟩ else ends (pieces l b)
theorem boundT_spec {l : List Word} {dim : Int} (h : RT l dim) {b : Box} (hb : b.empty = false) : (boundT l b).c = true ∧ (∀ p t, InB b p t → (boundT l b).a ≤ valueAt l p ∧ valueAt l p ≤ (boundT l b).b)
    ∧ (∃ p t, InB b p t ∧ valueAt l p = (boundT l b).a) ∧ ∃ p t, InB b p t ∧ valueAt l p = (boundT l b).b := by
  obtain ⟨h1, h2, ⟨x, hx, h3⟩, ⟨y, hy, h4⟩⟩ := ends_spec (pieces_ne h hb)
  unfold boundT
  rw [hb]
  simp only [Bool.false_eq_true, if_false]
  refine ⟨h1, ?_, ?_, ?_⟩
  · intro p t hp
    obtain ⟨z, hz, _, hv⟩ := piece_of h hp
    rw [← hv]
    exact h2 z hz
  · obtain ⟨p, t, hp⟩ := empty_false.1 (piece_some hx)
    have := piece_in h hx hp
    exact ⟨p, t, this.1, by rw [this.2, h3]⟩
  · obtain ⟨p, t, hp⟩ := empty_false.1 (piece_some hy)
    have := piece_in h hy hp
    exact ⟨p, t, this.1, by rw [this.2, h4]⟩
theorem boundT_fits {l : List Word} {dim : Int} (h : RT l dim) {b : Box} (hb : b.empty = false) : fits (boundT l b).a = true ∧ fits (boundT l b).b = true ∧ (boundT l b).a ≤ (boundT l b).b := by
  obtain ⟨h1, h2, ⟨p, t, hp, h3⟩, ⟨q, u, hq, h4⟩⟩ := boundT_spec h hb
  refine ⟨by rw [← h3]; exact valueAt_fits h p, by rw [← h4]; exact valueAt_fits h q, ?_⟩
  have := h2 p t hp
  omega
def boundF (c : Int) (b : Box) (a : Int × Int) (t : Tree) : Int × Int := if t.cls = c then (a.1 + (boundT t.nodes b).a, a.2 + (boundT t.nodes b).b) else a
def boundP (m : Model) (c : Int) (b : Box) : Int × Int := m.trees.foldl (boundF c b) (m.bias.get c, m.bias.get c)
def boundM (m : Model) (c : Int) (b : Box) : Tri Int Int Bool :=
  if c < 0 ∨ m.classes ≤ c ∨ b.empty = true then ⟨0, 0, false⟩ else ⟨(boundP m c b).1, (boundP m c b).2, true⟩
theorem boundF_le {c : Int} {b : Box} (hb : b.empty = false) : ∀ (l : List Tree) (a : Int × Int), (∀ t ∈ l, ∃ d, RT t.nodes d) →
    a.1 - 2147483648 * l.length ≤ (l.foldl (boundF c b) a).1 ∧ (l.foldl (boundF c b) a).2 ≤ a.2 + 2147483647 * l.length ∧ (l.foldl (boundF c b) a).2 - (l.foldl (boundF c b) a).1 ≥ a.2 - a.1
  | [], s, _ => by simp
  | t :: l, s, h => by
    obtain ⟨d, hd⟩ := h t (by simp)
    have h0 := boundT_fits hd hb
    have h1 := of_fits h0.1
    have h1' := of_fits h0.2.1
    have h2 := boundF_le (c := c) hb l (boundF c b s t) (fun t ht => h t (by simp [ht]))
    rw [List.foldl_cons, List.length_cons]
    have h3 : boundF c b s t = s ∨ boundF c b s t = (s.1 + (boundT t.nodes b).a, s.2 + (boundT t.nodes b).b) := by unfold boundF; split <;> simp
    rcases h3 with h3 | h3 <;> rw [h3] at h2 ⊢ <;> (try simp only at h2) <;> omega
theorem boundP_le {m : Model} (h : RM m) (c : Int) {b : Box} (hb : b.empty = false) : -19327352832 ≤ (boundP m c b).1 ∧ (boundP m c b).1 ≤ (boundP m c b).2 ∧ (boundP m c b).2 ≤ 19327352823 := by
  have h1 := of_fits (Bias.get_fits h c)
  have h2 := boundF_le (c := c) hb m.trees (m.bias.get c, m.bias.get c) (fun t ht => ⟨_, h.rt ht⟩)
  have h3 := h.trees
  unfold boundP
  simp only at h2
  omega
/-! ### queries' words -/
def paired (q : Query) : Bool := decide (q.kind = 3) && decide (0 ≤ q.feature) && decide (q.feature < 4)
def startOf (q : Query) : Box := { q.region with s4 := if paired q then q.region.get q.feature else ⟨0, 0⟩ }
def secondOf (q : Query) (p : Point) (t : Int) : Point := if paired q then p.set q.feature t else p
def Span.has (s : Span) (n : Int) : Bool := decide (s.lo ≤ n) && decide (n ≤ s.hi)
def beaten (m : Model) (q : Query) (p : Point) : Bool := (List.range m.classes.toNat).any fun c => decide ((c : Int) ≠ q.cls) && decide (evalM m q.cls p ≤ evalM m c p)
def breaks (m : Model) (q : Query) (p : Point) (t : Int) : Bool :=
  if okQuery m q then
    if q.kind = 1 then !(Span.has ⟨q.lo, q.hi⟩ (evalM m q.cls p))
    else if q.kind = 2 then beaten m q p
    else if p.get q.feature < t then (if q.falls then decide (evalM m q.cls p < evalM m q.cls (secondOf q p t)) else decide (evalM m q.cls (secondOf q p t) < evalM m q.cls p)) else false
  else false
end Go.Co
