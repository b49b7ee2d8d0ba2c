/- CO: what breaks in a cell breaks at its corner; parts of a region. -/
import Derived.Test.YtcjflbmpfmibbaaCoHo
import Derived.Test.YtcjflbmpfmibbaaCoLev
namespace Go.Co
open Go.Am Go.Proofs
set_option linter.unusedSimpArgs false
set_option linter.unusedVariables false
attribute [-simp] Go.Am.eff_gcall
instance {α : Type} [Row α] [Sh α] : Sh (List α) where
  ss := [.sl (Sh.ss α)]
  good l := (∀ a ∈ l, Sh.good a) ∧ l.length ≤ maxLen
  len := rfl
  read xs h := by
    obtain ⟨x0, xs, rfl, h0, h⟩ := okR_cons h
    obtain rfl := okR_nil h
    obtain ⟨l, rfl, hg, hl⟩ := okS_list h0
    exact ⟨l, rfl, hg, hl⟩
theorem point_set_get (p : Point) {k i : Int} (n : Int) (h0 : 0 ≤ k) (h4 : k < 4) (i0 : 0 ≤ i) (i4 : i < 4) : (p.set k n).get i = if i = k then n else p.get i := by
  have h1 : k = 0 ∨ k = 1 ∨ k = 2 ∨ k = 3 := by omega
  have h2 : i = 0 ∨ i = 1 ∨ i = 2 ∨ i = 3 := by omega
  rcases h1 with rfl | rfl | rfl | rfl <;> rcases h2 with rfl | rfl | rfl | rfl <;> rfl
theorem beaten_same {m : Model} {q : Query} {p o : Point} (h : ∀ c, evalM m c p = evalM m c o) : beaten m q p = beaten m q o := by
  unfold beaten
  simp only [h]
theorem breaks_corner {m : Model} (hm : RM m) {q : Query} {x : Box} (hn : ∀ i : Int, 0 ≤ i → i < 5 → cutsL m q x i = []) {p : Point} {t : Int} (hp : InB x p t) (h : breaks m q p t = true) : corner m q x = true := by
  have he : x.empty = false := empty_false.2 ⟨p, t, hp⟩
  have hl := low_in he
  have hE : ∀ c, evalM m c p = evalM m c (lowB x) := fun c => cell_eval hm hn hp hl c
  unfold corner
  unfold breaks at h ⊢
  cases hq : okQuery m q
  · rw [hq] at h
    simp at h
  rw [hq] at h
  simp only [if_true] at h ⊢
  by_cases k1 : q.kind = 1
  · rw [if_pos k1] at h ⊢
    rw [← hE]
    exact h
  rw [if_neg k1] at h ⊢
  by_cases k2 : q.kind = 2
  · rw [if_pos k2] at h ⊢
    rw [← beaten_same hE]
    exact h
  rw [if_neg k2] at h ⊢
  have hks := okKind_spec (okQuery_spec hq).2.2.2.2.2
  have hk : q.kind = 3 ∧ 0 ≤ q.feature ∧ q.feature < m.dim := by omega
  have hd := hm.dim
  have hpr : paired q = true := by unfold paired; simp; omega
  by_cases hlt : p.get q.feature < t
  case neg => rw [if_neg hlt] at h; cases h
  rw [if_pos hlt] at h
  have h1 := (inB_get.1 hp q.feature hk.2.1 (by omega)).1
  have h2 := (inB_get.1 hl q.feature hk.2.1 (by omega)).1
  have h3 : InS x.s4 t := hp.2.2.2.2
  have h4 : InS x.s4 x.s4.hi := hl.2.2.2.2
  have hlo : (lowB x).get q.feature = (x.get q.feature).lo := by
    have : q.feature = 0 ∨ q.feature = 1 ∨ q.feature = 2 ∨ q.feature = 3 := by omega
    rcases this with e | e | e | e <;> rw [e] <;> rfl
  have hc : (lowB x).get q.feature < x.s4.hi := by
    rw [hlo]
    unfold InS at h1 h3
    omega
  rw [if_pos hc]
  have hS : ∀ c, evalM m c (secondOf q p t) = evalM m c (secondOf q (lowB x) x.s4.hi) := fun c => by
    refine eval_same hm (fun j j0 j4 => ?_) c
    unfold secondOf
    rw [if_pos hpr, if_pos hpr, point_set_get p t hk.2.1 (by omega) j0 j4, point_set_get (lowB x) x.s4.hi hk.2.1 (by omega) j0 j4]
    by_cases e : j = q.feature
    · rw [if_pos e, if_pos e]
      have f4 : featOf q 4 = q.feature := by unfold featOf; rw [if_neg (by omega), if_pos ⟨rfl, hk.1⟩]
      have := uncut (hn 4 (by omega) (by omega)) (by rw [f4]; omega) (n := t) (o := x.s4.hi) h3 h4
      rwa [f4, ← e] at this
    · rw [if_neg e, if_neg e]
      have g1 := (inB_get.1 hp j j0 j4).1
      have g2 := (inB_get.1 hl j j0 j4).1
      have := uncut (hn j j0 (by omega)) (by rw [featOf_lt q j0 j4]; omega) g1 g2
      rwa [featOf_lt q j0 j4] at this
  rw [← hE, ← hS]
  exact h
theorem holds_iff {m : Model} (hm : RM m) {q : Query} (hb : (startOf q).empty = false) : holdsM m q = true ↔ ∀ p t, InB (startOf q) p t → breaks m q p t = false := by
  unfold holdsM
  rw [Bool.not_eq_true', List.any_eq_false]
  constructor
  · intro h p t hp
    obtain ⟨x, hx, hpx⟩ := cell_of (m := m) (q := q) hp
    cases hbr : breaks m q p t
    · rfl
    · exact absurd (breaks_corner hm (cell_spec hb hx).2.2 hpx hbr) (h x hx)
  · intro h x hx
    obtain ⟨h1, h2, _⟩ := cell_spec hb hx
    have := h _ _ (within_inB h2 (low_in h1))
    unfold corner
    rw [this]
    simp
/-! ### has, within -/
end Go.Co
