/- CO: what changes of pairs are. -/
import Derived.Test.YtcjflbmpfmibbaaCoP
namespace Go.Co
open Go.Am Go.Proofs
set_option linter.unusedSimpArgs false
set_option linter.unusedVariables false
theorem first_in {q : Query} (hp : paired q = true) {b : Box} {p : Point} {t : Int} : InB (firstB q b) p t ↔ (t = 0 ∧ InS b.s0 p.p0 ∧ InS b.s1 p.p1 ∧ InS b.s2 p.p2 ∧ InS b.s3 p.p3) := by
  unfold firstB InB
  rw [if_pos hp]
  simp only
  constructor
  · rintro ⟨h0, h1, h2, h3, h4⟩
    exact ⟨by unfold InS at h4; simp only at h4; omega, h0, h1, h2, h3⟩
  · rintro ⟨rfl, h0, h1, h2, h3⟩
    exact ⟨h0, h1, h2, h3, by unfold InS; simp⟩
theorem second_in {q : Query} (hp : paired q = true) {b : Box} {p : Point} {t : Int} (h : InB b p t) : InB (secondB q b) (p.set q.feature t) 0 := by
  have hf := paired_feature hp
  obtain ⟨h0, h1, h2, h3, h4⟩ := h
  have z : InS ⟨0, 0⟩ 0 := by unfold InS; simp
  unfold secondB
  rw [if_pos hp]
  rcases hf with hf | hf | hf | hf <;> rw [hf] <;> simp only [Box.set, Point.set, InB, if_true, Int.reduceEq, if_false, reduceIte]
  · exact ⟨h4, h1, h2, h3, z⟩
  · exact ⟨h0, h4, h2, h3, z⟩
  · exact ⟨h0, h1, h4, h3, z⟩
  · exact ⟨h0, h1, h2, h4, z⟩
theorem second_back {q : Query} (hp : paired q = true) {b : Box} (he : b.empty = false) {p : Point} {t : Int} (h : InB (secondB q b) p t) : t = 0 ∧ ∃ p' t', InB b p' t' ∧ p = p'.set q.feature t' := by
  have hf := paired_feature hp
  obtain ⟨p0, t0, h0, h1, h2, h3, h4⟩ := empty_false.1 he
  unfold secondB at h
  rw [if_pos hp] at h
  rcases hf with hf | hf | hf | hf <;> rw [hf] at h ⊢ <;> simp only [Box.set, InB, if_true, Int.reduceEq, if_false, reduceIte] at h <;> obtain ⟨k0, k1, k2, k3, k4⟩ := h <;>
    refine ⟨by unfold InS at k4; simp only at k4; omega, ?_⟩
  · exact ⟨⟨p0.p0, p.p1, p.p2, p.p3⟩, p.p0, ⟨h0, k1, k2, k3, k0⟩, rfl⟩
  · exact ⟨⟨p.p0, p0.p1, p.p2, p.p3⟩, p.p1, ⟨k0, h1, k2, k3, k1⟩, rfl⟩
  · exact ⟨⟨p.p0, p.p1, p0.p2, p.p3⟩, p.p2, ⟨k0, k1, h2, k3, k2⟩, rfl⟩
  · exact ⟨⟨p.p0, p.p1, p.p2, p0.p3⟩, p.p3, ⟨k0, k1, k2, h3, k3⟩, rfl⟩
theorem first_some {q : Query} (hp : paired q = true) {b : Box} (he : b.empty = false) : (firstB q b).empty = false := by
  obtain ⟨p, t, h0, h1, h2, h3, h4⟩ := empty_false.1 he
  exact empty_false.2 ⟨p, 0, (first_in hp).2 ⟨rfl, h0, h1, h2, h3⟩⟩
theorem second_some {q : Query} (hp : paired q = true) {b : Box} (he : b.empty = false) : (secondB q b).empty = false := by
  obtain ⟨p, t, h⟩ := empty_false.1 he
  exact empty_false.2 ⟨_, _, second_in hp h⟩
theorem change_some {m : Model} {q : Query} (hp : paired q = true) (h0 : 0 ≤ q.cls) (h1 : q.cls < m.classes) {b : Box} (he : b.empty = false) :
    changeM m q b = ⟨(boundP m q.cls (secondB q b)).1 - (boundP m q.cls (firstB q b)).2, (boundP m q.cls (secondB q b)).2 - (boundP m q.cls (firstB q b)).1, true⟩ := by
  have e1 := first_some hp he
  have e2 := second_some hp he
  have a1 : boundM m q.cls (firstB q b) = ⟨(boundP m q.cls (firstB q b)).1, (boundP m q.cls (firstB q b)).2, true⟩ := by unfold boundM; rw [if_neg (by simp [e1]; omega)]
  have a2 : boundM m q.cls (secondB q b) = ⟨(boundP m q.cls (secondB q b)).1, (boundP m q.cls (secondB q b)).2, true⟩ := by unfold boundM; rw [if_neg (by simp [e2]; omega)]
  unfold changeM
  rw [a1, a2, hp]
  rfl
theorem change_part {m : Model} (hm : RM m) {q : Query} (hp : paired q = true) (h0 : 0 ≤ q.cls) (h1 : q.cls < m.classes) {b z : Box} (hz : z.empty = false) (hsub : ∀ p t, InB z p t → InB b p t) :
    (changeM m q z).c = true ∧ (changeM m q b).a ≤ (changeM m q z).a ∧ (changeM m q z).b ≤ (changeM m q b).b := by
  have hb : b.empty = false := by
    obtain ⟨p, t, h⟩ := empty_false.1 hz
    exact empty_false.2 ⟨p, t, hsub p t h⟩
  rw [change_some hp h0 h1 hz, change_some hp h0 h1 hb]
  have hf := bound_part hm q.cls (first_some hp hz) (b := firstB q b) (fun p t h => by
    obtain ⟨rfl, k0, k1, k2, k3⟩ := (first_in hp).1 h
    obtain ⟨p0, t0, hh⟩ := empty_false.1 hz
    have := hsub p t0 ⟨k0, k1, k2, k3, hh.2.2.2.2⟩
    exact (first_in hp).2 ⟨rfl, this.1, this.2.1, this.2.2.1, this.2.2.2.1⟩)
  have hs := bound_part hm q.cls (second_some hp hz) (b := secondB q b) (fun p t h => by
    obtain ⟨rfl, p', t', h', rfl⟩ := second_back hp hz h
    exact second_in hp (hsub p' t' h'))
  refine ⟨rfl, ?_, ?_⟩
  · simp only; omega
  · simp only; omega
theorem change_sound {m : Model} (hm : RM m) {q : Query} (hp : paired q = true) (h0 : 0 ≤ q.cls) (h1 : q.cls < m.classes) {b : Box} {p : Point} {t : Int} (h : InB b p t) :
    (changeM m q b).a ≤ evalM m q.cls (p.set q.feature t) - evalM m q.cls p ∧ evalM m q.cls (p.set q.feature t) - evalM m q.cls p ≤ (changeM m q b).b := by
  rw [change_some hp h0 h1 (empty_false.2 ⟨p, t, h⟩)]
  have k1 := bound_sound hm q.cls ((first_in hp (b := b) (p := p) (t := 0)).2 ⟨rfl, h.1, h.2.1, h.2.2.1, h.2.2.2.1⟩)
  have k2 := bound_sound hm q.cls (second_in hp h)
  simp only
  omega
end Go.Co
