/- CO: sums, bounds. -/
import Derived.Test.YtbjnmbbhlaghaaaCoWalk
namespace Go.Co
theorem max2_le {a b : Int} : a ≤ max2 a b ∧ b ≤ max2 a b ∧ (max2 a b = a ∨ max2 a b = b) := by unfold max2; split <;> omega
/-! ### sums -/
def evalF (c : Int) (p : Point) (s : Int) (t : Tree) : Int := if t.cls = c then s + valueAt t.nodes p else s
def evalM (m : Model) (c : Int) (p : Point) : Int := m.trees.foldl (evalF c p) (m.bias.get c)
theorem Bias.get_fits {m : Model} (h : RM m) (c : Int) : fits (m.bias.get c) = true := by
  unfold Bias.get
  have := h.bias
  split
  · exact this.1
  · split
    · exact this.2.1
    · exact this.2.2
theorem evalF_le {c : Int} {p : Point} : ∀ (l : List Tree) (s : Int), (∀ t ∈ l, ∃ d, RT t.nodes d) →
    s - 2147483648 * l.length ≤ l.foldl (evalF c p) s ∧ l.foldl (evalF c p) s ≤ s + 2147483647 * l.length
  | [], s, _ => by simp
  | t :: l, s, h => by
    obtain ⟨d, hd⟩ := h t (by simp)
    have h1 := of_fits (valueAt_fits hd p)
    have h2 := evalF_le (c := c) (p := p) l (evalF c p s t) (fun t ht => h t (by simp [ht]))
    have h3 : evalF c p s t = s ∨ evalF c p s t = s + valueAt t.nodes p := by unfold evalF; split <;> simp
    rw [List.foldl_cons, List.length_cons]
    rcases h3 with h3 | h3 <;> rw [h3] at h2 ⊢ <;> omega
theorem RM.rt {m : Model} (h : RM m) {t : Tree} (ht : t ∈ m.trees) : RT t.nodes m.dim := (h.tree t ht).2.2
/-! ### the least and the greatest of pieces -/
def endF (a : Int × Int) (x : Piece) : Int × Int := (min2 a.1 x.value, max2 a.2 x.value)
def ends (ps : List Piece) : Tri Int Int Bool := match ps with
  | [] => ⟨0, 0, false⟩
  | x :: _ => ⟨(ps.foldl endF (x.value, x.value)).1, (ps.foldl endF (x.value, x.value)).2, true⟩
/-! ### queries' words -/
def paired (q : Query) : Bool := decide (q.kind = 3) && decide (0 ≤ q.feature) && decide (q.feature < 4)
def startOf (q : Query) : Box := { q.region with s4 := if paired q then q.region.get q.feature else ⟨0, 0⟩ }
def secondOf (q : Query) (p : Point) (t : Int) : Point := if paired q then p.set q.feature t else p
def Span.has (s : Span) (n : Int) : Bool := decide (s.lo ≤ n) && decide (n ≤ s.hi)
def beaten (m : Model) (q : Query) (p : Point) : Bool := (List.range m.classes.toNat).any fun c => decide ((c : Int) ≠ q.cls) && decide (evalM m q.cls p ≤ evalM m c p)
def breaks (m : Model) (q : Query) (p : Point) (t : Int) : Bool :=
  if okQuery m q then
    if q.kind = 1 then !(Span.has ⟨q.lo, q.hi⟩ (evalM m q.cls p))
    else if q.kind = 2 then beaten m q p
    else if p.get q.feature < t then (if q.falls then decide (evalM m q.cls p < evalM m q.cls (secondOf q p t)) else decide (evalM m q.cls (secondOf q p t) < evalM m q.cls p)) else false
  else false
end Go.Co
