/- CO: what the small functions compute. -/
import Derived.Test.YtcjflbmpfmibbaaCoTypes
namespace Go.Co
noncomputable def Part {γ : Type} (p : Prop) (v : γ) : Option γ := open Classical in if p then some v else none
theorem part_some {γ : Type} {p : Prop} {v c : γ} (h : Part p v = some c) : p ∧ v = c := by
  unfold Part at h
  split at h
  · cases h; exact ⟨‹_›, rfl⟩
  · cases h
theorem part_of {γ : Type} {p : Prop} (h : p) (v : γ) : Part p v = some v := by unfold Part; rw [if_pos h]
def within (n lo hi : Int) : Int := lo + n % (hi - lo + 1)
def pick (l : List Int) (i : Nat) : Int := l.getD (i % l.length) 0
def fits (n : Int) : Bool := decide (-2147483648 ≤ n) && decide (n ≤ 2147483647)
def wrap32 (n : Int) : Int := (n + 2147483648) % 4294967296 - 2147483648
def rightNode (n : Node) : Bool :=
  if n.leaf then fits n.value && decide (n.feature = 0) && decide (n.cut = 0) && decide (n.left = 0) && decide (n.right = 0)
  else decide (n.value = 0) && decide (0 ≤ n.feature) && decide (n.feature < 4) && fits n.cut && decide (1 ≤ n.left) && decide (n.left < 31) && decide (1 ≤ n.right) && decide (n.right < 31)
def pack (n : Node) : Word :=
  if rightNode n then (if n.leaf then ⟨9223372036854775808 + n.value % 4294967296⟩ else ⟨n.cut % 4294967296 + n.feature * 4294967296 + n.left * 1099511627776 + n.right * 281474976710656⟩)
  else ⟨0⟩
def raw (w : Int) : Node :=
  if w / 9223372036854775808 = 1 then ⟨true, wrap32 (w % 4294967296), 0, 0, 0, 0⟩
  else ⟨false, 0, w / 4294967296 % 16, wrap32 (w % 4294967296), w / 1099511627776 % 256, w / 281474976710656 % 256⟩
def unpack (w : Word) : Node × Bool := if rightNode (raw w.v) && decide (pack (raw w.v) = w) then (raw w.v, true) else (⟨false, 0, 0, 0, 0, 0⟩, false)
def Span.empty (s : Span) : Bool := decide (s.hi < s.lo)
def noneS : Span := ⟨1, 0⟩
def ofS (lo hi : Int) : Span := if hi < lo then noneS else ⟨lo, hi⟩
def cutS (s : Span) (n : Int) : Span × Span := if s.hi ≤ n then (ofS s.lo s.hi, noneS) else (ofS s.lo n, ofS (if n + 1 > s.lo then n + 1 else s.lo) s.hi)
def ok64 (n : Int) : Prop := -9223372036854775808 ≤ n ∧ n ≤ 9223372036854775807
instance (n : Int) : Decidable (ok64 n) := by unfold ok64; exact inferInstance
def Box.empty (b : Box) : Bool := b.s0.empty || b.s1.empty || b.s2.empty || b.s3.empty || b.s4.empty
def Box.get (b : Box) (i : Int) : Span := if i = 0 then b.s0 else if i = 1 then b.s1 else if i = 2 then b.s2 else if i = 3 then b.s3 else b.s4
def Box.set (b : Box) (i : Int) (s : Span) : Box :=
  if i = 0 then { b with s0 := s } else if i = 1 then { b with s1 := s } else if i = 2 then { b with s2 := s } else if i = 3 then { b with s3 := s } else { b with s4 := s }
def cutB (b : Box) (p n : Int) : Box × Box := if 0 ≤ p ∧ p < 5 then (b.set p (cutS (b.get p) n).1, b.set p (cutS (b.get p) n).2) else (b, b)
def max2 (a b : Int) : Int := if b > a then b else a
def min2 (a b : Int) : Int := if b < a then b else a
def meetS (a b : Span) : Span := ofS (max2 a.lo b.lo) (min2 a.hi b.hi)
end Go.Co
