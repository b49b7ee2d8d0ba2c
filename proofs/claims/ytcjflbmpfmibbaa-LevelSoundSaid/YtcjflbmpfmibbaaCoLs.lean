/- CO: what a range of levels says of points. -/
import Derived.Test.YtcjflbmpfmibbaaCoLev2
namespace Go.Co
open Go.Am
set_option linter.unusedSimpArgs false
set_option linter.unusedVariables false
structure GOk (b : Box) (g : List Piece) (f : Point → Int) (L U : Int) : Prop where
  some : ∀ x ∈ g, x.box.empty = false
  val : ∀ x ∈ g, ∀ p t, InB x.box p t → InB b p t ∧ x.value = f p
  cov : ∀ p t, InB b p t → ∃ x ∈ g, InB x.box p t
  lo : ∀ p t, InB b p t → L ≤ f p
  hi : ∀ p t, InB b p t → f p ≤ U
theorem GOk.prod {b : Box} {g h : List Piece} {f k : Point → Int} {L U L' U' : Int} (hg : GOk b g f L U) (hh : GOk b h k L' U') : GOk b (prod g h) (fun p => f p + k p) (L + L') (U + U') := by
  refine ⟨fun z hz => ?_, fun z hz p t hp => ?_, fun p t hp => ?_, fun p t hp => ?_, fun p t hp => ?_⟩
  · obtain ⟨x, hx, y, hy, he, rfl⟩ := mem_prod.1 hz
    exact he
  · obtain ⟨x, hx, y, hy, he, rfl⟩ := mem_prod.1 hz
    have := inB_meet.1 hp
    have h1 := hg.val x hx p t this.1
    have h2 := hh.val y hy p t this.2
    exact ⟨h1.1, by simp only; rw [h1.2, h2.2]⟩
  · exact Covers.prod (hg.cov p t hp) (hh.cov p t hp)
  · have := hg.lo p t hp; have := hh.lo p t hp; omega
  · have := hg.hi p t hp; have := hh.hi p t hp; omega
inductive GsOk (b : Box) : List (List Piece) → (Point → Int) → Int → Int → Prop
  | nil : GsOk b [] (fun _ => 0) 0 0
  | cons {g : List Piece} {gs : List (List Piece)} {f k : Point → Int} {L U L' U' : Int} : GOk b g f L U → GsOk b gs k L' U' → GsOk b (g :: gs) (fun p => f p + k p) (L + L') (U + U')
theorem GsOk.same {b : Box} {gs : List (List Piece)} {f k : Point → Int} {L U L' U' : Int} (h : GsOk b gs f L U) (h1 : ∀ p, f p = k p) (h2 : L = L') (h3 : U = U') : GsOk b gs k L' U' := by
  have : f = k := funext h1
  subst this h2 h3
  exact h
theorem GsOk.level {b : Box} {most : Int} : ∀ (gs : List (List Piece)) {f : Point → Int} {L U : Int}, GsOk b gs f L U → GsOk b (levelP most gs).1 f L U
  | [], f, L, U, h => by rw [levelP]; exact h
  | [g], f, L, U, h => by rw [levelP]; exact h
  | g1 :: g2 :: gs, f, L, U, h => by
    cases h with
    | @cons _ _ f1 k1 L1 U1 L1' U1' h1 h2 =>
      cases h2 with
      | @cons _ _ f2 k2 L2 U2 L2' U2' h3 h4 =>
        rw [levelP]
        split
        · exact (GsOk.cons (h1.prod h3) (GsOk.level gs h4)).same (fun p => by simp only; omega) (by omega) (by omega)
        · exact GsOk.cons h1 (GsOk.level (g2 :: gs) (GsOk.cons h3 h4))
theorem GsOk.climb {b : Box} {most : Int} : ∀ (n : Nat) (gs : List (List Piece)) {f : Point → Int} {L U : Int}, GsOk b gs f L U → GsOk b (climbP most n gs).1 f L U
  | 0, gs, f, L, U, h => by rw [climbP]; exact h
  | n + 1, gs, f, L, U, h => by
    rw [climbP]
    split
    · exact GsOk.climb n _ (GsOk.level gs h)
    · exact h
theorem pieces_ok {l : List Word} {dim : Int} (h : RT l dim) {b : Box} (hb : b.empty = false) : GOk b (pieces l b) (valueAt l) (boundT l b).a (boundT l b).b := by
  obtain ⟨_, h2, _, _⟩ := boundT_spec h hb
  refine ⟨fun x hx => piece_some hx, fun x hx p t hp => ?_, fun p t hp => ?_, fun p t hp => (h2 p t hp).1, fun p t hp => (h2 p t hp).2⟩
  · have := piece_in h hx hp
    exact ⟨this.1, this.2.symm⟩
  · obtain ⟨x, hx, h1, _⟩ := piece_of h hp
    exact ⟨x, hx, h1⟩
theorem start_ok {m : Model} (hm : RM m) (c : Int) {b : Box} (hb : b.empty = false) : ∃ f L U, GsOk b (startG m c b) f L U ∧ (∀ p, evalM m c p = m.bias.get c + f p) ∧ boundP m c b = (m.bias.get c + L, m.bias.get c + U) := by
  have key : ∀ (l : List Tree), (∀ t ∈ l, ∃ d, RT t.nodes d) → ∃ f L U, GsOk b ((l.filter fun t => decide (t.cls = c)).map fun t => pieces t.nodes b) f L U ∧ (∀ p s, l.foldl (evalF c p) s = s + f p) ∧ ∀ s, l.foldl (boundF c b) s = (s.1 + L, s.2 + U) := by
    intro l
    induction l with
    | nil => intro _; exact ⟨_, _, _, .nil, fun p s => by simp, fun s => by simp⟩
    | cons t l ih =>
      intro h
      obtain ⟨f, L, U, h1, h2, h3⟩ := ih fun t ht => h t (by simp [ht])
      obtain ⟨d, hd⟩ := h t (by simp)
      by_cases hc : t.cls = c
      · refine ⟨fun p => valueAt t.nodes p + f p, (boundT t.nodes b).a + L, (boundT t.nodes b).b + U, ?_, fun p s => ?_, fun s => ?_⟩
        · rw [List.filter_cons, if_pos (by simpa using hc), List.map_cons]
          exact .cons (pieces_ok hd hb) h1
        · rw [List.foldl_cons, h2, evalF, if_pos hc]
          simp only
          omega
        · rw [List.foldl_cons, h3, boundF, if_pos hc]
          simp only [Prod.mk.injEq]
          omega
      · refine ⟨f, L, U, ?_, fun p s => ?_, fun s => ?_⟩
        · rw [List.filter_cons, if_neg (by simpa using hc)]
          exact h1
        · rw [List.foldl_cons, h2, evalF, if_neg hc]
        · rw [List.foldl_cons, h3, boundF, if_neg hc]
  obtain ⟨f, L, U, h1, h2, h3⟩ := key m.trees fun t ht => ⟨_, hm.rt ht⟩
  exact ⟨f, L, U, h1, fun p => h2 p _, h3 _⟩
theorem ends_ok {b : Box} {g : List Piece} {f : Point → Int} {L U : Int} (h : GOk b g f L U) (hb : b.empty = false) : (∀ p t, InB b p t → (ends g).a ≤ f p ∧ f p ≤ (ends g).b) ∧ L ≤ (ends g).a ∧ (ends g).b ≤ U ∧
    (∃ p t, InB b p t ∧ f p = (ends g).a) ∧ ∃ p t, InB b p t ∧ f p = (ends g).b := by
  obtain ⟨p0, t0, hp0⟩ := empty_false.1 hb
  obtain ⟨x0, hx0, _⟩ := h.cov p0 t0 hp0
  have hne : g ≠ [] := by intro e; rw [e] at hx0; simp at hx0
  obtain ⟨_, h2, ⟨x, hx, h3⟩, ⟨y, hy, h4⟩⟩ := ends_spec hne
  obtain ⟨p, t, hp⟩ := empty_false.1 (h.some x hx)
  obtain ⟨q, u, hq⟩ := empty_false.1 (h.some y hy)
  have e1 := h.val x hx p t hp
  have e2 := h.val y hy q u hq
  refine ⟨fun p t hp => ?_, ?_, ?_, ⟨p, t, e1.1, by omega⟩, ⟨q, u, e2.1, by omega⟩⟩
  · obtain ⟨z, hz, hpz⟩ := h.cov p t hp
    have := h2 z hz
    have e := (h.val z hz p t hpz).2
    omega
  · have := h.lo p t e1.1; omega
  · have := h.hi q u e2.1; omega
theorem range_fold {b : Box} (hb : b.empty = false) : ∀ {gs : List (List Piece)} {f : Point → Int} {L U : Int}, GsOk b gs f L U → ∀ (a : Int × Int), a.1 + L ≤ (gs.foldl rangeF a).1 ∧ (gs.foldl rangeF a).2 ≤ a.2 + U ∧
    (∀ p t, InB b p t → (gs.foldl rangeF a).1 - a.1 ≤ f p ∧ f p ≤ (gs.foldl rangeF a).2 - a.2) ∧
    (gs.length ≤ 1 → (∃ p t, InB b p t ∧ f p = (gs.foldl rangeF a).1 - a.1) ∧ ∃ p t, InB b p t ∧ f p = (gs.foldl rangeF a).2 - a.2)
  | _, _, _, _, .nil, a => by
    obtain ⟨p0, t0, hp0⟩ := empty_false.1 hb
    refine ⟨by simp, by simp, fun p t _ => by simp, fun _ => ⟨⟨p0, t0, hp0, by simp⟩, ⟨p0, t0, hp0, by simp⟩⟩⟩
  | _, _, _, _, @GsOk.cons _ g gs f k L U L' U' h1 h2, a => by
    obtain ⟨e1, e2, e3, e4, e5⟩ := ends_ok h1 hb
    obtain ⟨r1, r2, r3, r4⟩ := range_fold hb h2 (rangeF a g)
    rw [List.foldl_cons]
    have q1 : (rangeF a g).1 = a.1 + (ends g).a := rfl
    have q2 : (rangeF a g).2 = a.2 + (ends g).b := rfl
    refine ⟨by omega, by omega, fun p t hp => ?_, fun hl => ?_⟩
    · have := e1 p t hp
      have := r3 p t hp
      simp only
      omega
    · have hgs : gs = [] := by
        cases gs with
        | nil => rfl
        | cons x xs => simp at hl
      subst hgs
      cases h2
      obtain ⟨p, t, hp, e4⟩ := e4
      obtain ⟨q, u, hq, e5⟩ := e5
      rw [List.foldl_nil]
      exact ⟨⟨p, t, hp, by simp only; omega⟩, ⟨q, u, hq, by simp only; omega⟩⟩
theorem range_spec {m : Model} (hm : RM m) {c : Int} (h0 : 0 ≤ c) (h1 : c < m.classes) {b : Box} (hb : b.empty = false) (most : Int) :
    (boundP m c b).1 ≤ (rangeP m c b most).a ∧ (rangeP m c b most).b ≤ (boundP m c b).2 ∧ (∀ p t, InB b p t → (rangeP m c b most).a ≤ evalM m c p ∧ evalM m c p ≤ (rangeP m c b most).b) ∧
    ((rangeP m c b most).c = true → (∃ p t, InB b p t ∧ evalM m c p = (rangeP m c b most).a) ∧ ∃ p t, InB b p t ∧ evalM m c p = (rangeP m c b most).b) := by
  obtain ⟨f, L, U, hg, he, hB⟩ := start_ok hm c hb
  have hcl : GsOk b (climb most (startG m c b)).1 f L U := GsOk.climb _ _ hg
  obtain ⟨r1, r2, r3, r4⟩ := range_fold hb hcl (m.bias.get c, m.bias.get c)
  unfold rangeP
  rw [if_neg (by simp [hb]; omega), hB]
  simp only at *
  refine ⟨r1, r2, fun p t hp => ?_, fun hc => ?_⟩
  · have := r3 p t hp
    rw [he]
    omega
  · obtain ⟨⟨p, t, hp, e1⟩, ⟨q, u, hq, e2⟩⟩ := r4 (by have := of_decide_eq_true hc; omega)
    exact ⟨⟨p, t, hp, by rw [he]; omega⟩, ⟨q, u, hq, by rw [he]; omega⟩⟩
end Go.Co
