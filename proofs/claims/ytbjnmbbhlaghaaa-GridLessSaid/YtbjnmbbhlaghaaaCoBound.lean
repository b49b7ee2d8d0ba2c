/- CO: sums, bounds. -/
import Derived.Test.YtbjnmbbhlaghaaaCoWalk
namespace Go.Co
/-! ### sums -/
theorem RM.rt {m : Model} (h : RM m) {t : Tree} (ht : t ∈ m.trees) : RT t.nodes m.dim := (h.tree t ht).2.2
/-! ### the least and the greatest of pieces -/
def endF (a : Int × Int) (x : Piece) : Int × Int := (min2 a.1 x.value, max2 a.2 x.value)
def ends (ps : List Piece) : Tri Int Int Bool := match ps with
  | [] => ⟨0, 0, false⟩
  | x :: _ => ⟨(ps.foldl endF (x.value, x.value)).1, (ps.foldl endF (x.value, x.value)).2, true⟩
/-! ### queries' words -/
def paired (q : Query) : Bool := decide (q.kind = 3) && decide (0 ≤ q.feature) && decide (q.feature < 4)
def startOf (q : Query) : Box := { q.region with s4 := if paired q then q.region.get q.feature else ⟨0, 0⟩ }
def Span.has (s : Span) (n : Int) : Bool := decide (s.lo ≤ n) && decide (n ≤ s.hi)
end Go.Co
