/- CO: sums, bounds. -/
import Derived.Test.YtagfmcachoaacaaCoWalk
namespace Go.Co
/-! ### sums -/
def evalF (c : Int) (p : Point) (s : Int) (t : Tree) : Int := if t.cls = c then s + valueAt t.nodes p else s
def evalM (m : Model) (c : Int) (p : Point) : Int := m.trees.foldl (evalF c p) (m.bias.get c)
theorem RM.rt {m : Model} (h : RM m) {t : Tree} (ht : t ∈ m.trees) : RT t.nodes m.dim := (h.tree t ht).2.2
/-! ### the least and the greatest of pieces -/
def endF (a : Int × Int) (x : Piece) : Int × Int := (min2 a.1 x.value, max2 a.2 x.value)
def ends (ps : List Piece) : Tri Int Int Bool := match ps with
  | [] => ⟨0, 0, false⟩
  | x :: _ => ⟨(ps.foldl endF (x.value, x.value)).1, (ps.foldl endF (x.value, x.value)).2, true⟩
def boundT (l : List Word) (b : Box) : Tri Int Int Bool := if b.empty then ⟨0, 0, false⟩ else ends (pieces l b)
def boundF (c : Int) (b : Box) (a : Int × Int) (t : Tree) : Int × Int := if t.cls = c then (a.1 + (boundT t.nodes b).a, a.2 + (boundT t.nodes b).b) else a
def boundP (m : Model) (c : Int) (b : Box) : Int × Int := m.trees.foldl (boundF c b) (m.bias.get c, m.bias.get c)
/-! ### queries' words -/
def paired (q : Query) : Bool := decide (q.kind = 3) && decide (0 ≤ q.feature) && decide (q.feature < 4)
def startOf (q : Query) : Box := { q.region with s4 := if paired q then q.region.get q.feature else ⟨0, 0⟩ }
def secondOf (q : Query) (p : Point) (t : Int) : Point := if paired q then p.set q.feature t else p
def Span.has (s : Span) (n : Int) : Bool := decide (s.lo ≤ n) && decide (n ≤ s.hi)
def beaten (m : Model) (q : Query) (p : Point) : Bool := (List.range m.classes.toNat).any fun c => decide ((c : Int) ≠ q.cls) && decide (evalM m q.cls p ≤ evalM m c p)
def breaks (m : Model) (q : Query) (p : Point) (t : Int) : Bool :=
  if okQuery m q then
    if q.kind = 1 then !(Span.has ⟨q.lo, q.hi⟩ (evalM m q.cls p))
    else if q.kind = 2 then beaten m q p
    else if p.get q.feature < t then (if q.falls then decide (evalM m q.cls p < evalM m q.cls (secondOf q p t)) else decide (evalM m q.cls (secondOf q p t) < evalM m q.cls p)) else false
  else false
end Go.Co
