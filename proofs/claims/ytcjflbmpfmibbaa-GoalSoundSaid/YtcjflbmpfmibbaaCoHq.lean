/- CO: what breaks in a cell breaks at its corner; parts of a region. -/
import Derived.Test.YtcjflbmpfmibbaaCoHo
import Derived.Test.YtcjflbmpfmibbaaCoLev
namespace Go.Co
open Go.Am Go.Proofs
set_option linter.unusedSimpArgs false
set_option linter.unusedVariables false
attribute [-simp] Go.Am.eff_gcall
instance {α : Type} [Row α] [Sh α] : Sh (List α) where
  ss := [.sl (Sh.ss α)]
  good l := (∀ a ∈ l, Sh.good a) ∧ l.length ≤ maxLen
  len := rfl
  read xs h := by
    obtain ⟨x0, xs, rfl, h0, h⟩ := okR_cons h
    obtain rfl := okR_nil h
    obtain ⟨l, rfl, hg, hl⟩ := okS_list h0
    exact ⟨l, rfl, hg, hl⟩
theorem point_set_get (p : Point) {k i : Int} (n : Int) (h0 : 0 ≤ k) (h4 : k < 4) (i0 : 0 ≤ i) (i4 : i < 4) : (p.set k n).get i = if i = k then n else p.get i := by
  have h1 : k = 0 ∨ k = 1 ∨ k = 2 ∨ k = 3 := by omega
  have h2 : i = 0 ∨ i = 1 ∨ i = 2 ∨ i = 3 := by omega
  rcases h1 with rfl | rfl | rfl | rfl <;> rcases h2 with rfl | rfl | rfl | rfl <;> rfl
/-! ### has, within -/
end Go.Co
