/- CO: the cells of a box, by places; points of one cell come to the same. -/
import Derived.Test.YtcjflbmpfmibbaaCoGq
namespace Go.Co
open Go.Am Go.Proofs
set_option linter.unusedSimpArgs false
set_option linter.unusedVariables false
def splitC (k : Int) : List Int → Box → List Box
  | [], c => [c]
  | t :: ts, c => (cutB c k t).1 :: splitC k ts (cutB c k t).2
def stageC (m : Model) (q : Query) (b : Box) : Nat → List Box
  | 0 => [b]
  | j + 1 => (stageC m q b j).flatMap (splitC j (cutsL m q b j))
theorem splitC_len (k : Int) : ∀ (ts : List Int) (c : Box), (splitC k ts c).length = ts.length + 1
  | [], _ => rfl
  | _ :: ts, c => by rw [splitC, List.length_cons, splitC_len k ts, List.length_cons]
theorem flat_len {k : Int} {ts : List Int} (l : List Box) : (l.flatMap (splitC k ts)).length = l.length * (ts.length + 1) := by
  induction l with
  | nil => simp
  | cons x l ih => rw [List.flatMap_cons, List.length_append, splitC_len, ih, List.length_cons, Nat.add_mul]; omega
theorem stage_len (m : Model) (q : Query) (b : Box) (j : Nat) : ((stageC m q b (j + 1)).length : Int) = (stageC m q b j).length * kN m q b j := by
  rw [stageC, flat_len, cutsL_len]
  unfold kN
  rw [Int.natCast_mul]
  congr 1
  omega
theorem stage_le {m : Model} (hm : RM m) (q : Query) (b : Box) (j : Nat) : (stageC m q b j).length ≤ (stageC m q b (j + 1)).length := by
  rw [stageC, flat_len]
  exact Nat.le_mul_of_pos_right _ (by omega)
theorem stage_five (m : Model) (q : Query) (b : Box) : ((stageC m q b 5).length : Int) = countM m q b := by
  rw [stage_len, stage_len, stage_len, stage_len, stage_len]
  unfold countM
  rw [show ((stageC m q b 0).length : Int) = 1 from rfl, Int.one_mul]
  rfl
theorem stage_count {m : Model} (hm : RM m) (q : Query) (b : Box) {j : Nat} (h : j ≤ 5) : ((stageC m q b j).length : Int) ≤ countM m q b := by
  have h0 : (stageC m q b 0).length ≤ (stageC m q b 1).length := stage_le hm q b 0
  have h1 : (stageC m q b 1).length ≤ (stageC m q b 2).length := stage_le hm q b 1
  have h2 : (stageC m q b 2).length ≤ (stageC m q b 3).length := stage_le hm q b 2
  have h3 : (stageC m q b 3).length ≤ (stageC m q b 4).length := stage_le hm q b 3
  have h4 : (stageC m q b 4).length ≤ (stageC m q b 5).length := stage_le hm q b 4
  have h5 := stage_five m q b
  have : j = 0 ∨ j = 1 ∨ j = 2 ∨ j = 3 ∨ j = 4 ∨ j = 5 := by omega
  rcases this with rfl | rfl | rfl | rfl | rfl | rfl <;> omega
theorem split_ok {k : Int} : ∀ {ts : List Int} (hts : ∀ t ∈ ts, ok64 t) {c : Box} (hc : okB c), ∀ x ∈ splitC k ts c, okB x
  | [], _, c, hc, x, hx => by rw [splitC, List.mem_singleton] at hx; rw [hx]; exact hc
  | t :: ts, hts, c, hc, x, hx => by
    have h := okB_cut hc k (hts t (by simp))
    rw [splitC, List.mem_cons] at hx
    rcases hx with rfl | hx
    · exact h.1
    · exact split_ok (fun t ht => hts t (by simp [ht])) h.2 x hx
theorem cuts_ok {m : Model} (hm : RM m) {q : Query} {b : Box} {i : Int} : ∀ t ∈ cutsL m q b i, ok64 t := by
  intro t ht
  unfold cutsL at ht
  split at ht
  · simp at ht
  · rw [List.mem_filter] at ht
    obtain ⟨ht, _⟩ := ht
    obtain ⟨tr, htr, w, hw, hl, _, rfl⟩ := mem_thr.1 ht
    have hr := hm.rt htr
    obtain ⟨j, hj, rfl⟩ := List.mem_iff_getElem.1 hw
    have := ok64_fits (hr.cutOk hj)
    rwa [ndAt_lt hj] at this
theorem stage_ok {m : Model} (hm : RM m) {q : Query} {b : Box} (hb : okB b) : ∀ (j : Nat), ∀ x ∈ stageC m q b j, okB x
  | 0, x, hx => by rw [stageC, List.mem_singleton] at hx; rw [hx]; exact hb
  | j + 1, x, hx => by
    rw [stageC, List.mem_flatMap] at hx
    obtain ⟨c, hc, hx⟩ := hx
    exact split_ok (cuts_ok hm) (stage_ok hm hb j c hc) x hx
/-! ### points that no threshold parts -/
theorem walk_same {l : List Word} {dim : Int} (h : RT l dim) {p o : Point} (hs : ∀ i, i < l.length → (ndAt l i).leaf = false → (p.get (ndAt l i).feature ≤ (ndAt l i).cut ↔ o.get (ndAt l i).feature ≤ (ndAt l i).cut)) : ∀ (f i : Nat), i < l.length → walk l p f i = walk l o f i
  | 0, _, _ => rfl
  | f + 1, i, hi => by
    unfold walk
    cases hl : (ndAt l i).leaf
    · simp only [Bool.false_eq_true, if_false]
      have e : nxt (ndAt l i) p = nxt (ndAt l i) o := by
        unfold nxt
        have := hs i hi hl
        by_cases h1 : p.get (ndAt l i).feature ≤ (ndAt l i).cut
        · rw [if_pos h1, if_pos (this.1 h1)]
        · rw [if_neg h1, if_neg (fun h2 => h1 (this.2 h2))]
      rw [← e]
      exact walk_same h hs f _ (nxt_lt h hi hl p).2
    · simp only [if_true]
theorem eval_same {m : Model} (hm : RM m) {p o : Point} (h : ∀ j, 0 ≤ j → j < 4 → ∀ t ∈ thrL m j, (p.get j ≤ t ↔ o.get j ≤ t)) (c : Int) : evalM m c p = evalM m c o := by
  have key : ∀ t ∈ m.trees, valueAt t.nodes p = valueAt t.nodes o := by
    intro t ht
    have hr := hm.rt ht
    unfold valueAt leafOf
    rw [walk_same hr (fun i hi hl => ?_) 31 0 hr.pos]
    have hf := hr.feature hi hl
    exact h _ hf.1 hf.2 _ (mem_thr.2 ⟨t, ht, t.nodes[i], List.getElem_mem hi, by rw [← ndAt_lt hi]; exact hl, by rw [← ndAt_lt hi], by rw [← ndAt_lt hi]⟩)
  have fold : ∀ (l : List Tree) (s : Int), (∀ t ∈ l, valueAt t.nodes p = valueAt t.nodes o) → l.foldl (evalF c p) s = l.foldl (evalF c o) s := by
    intro l
    induction l with
    | nil => intro s _; rfl
    | cons t l ih =>
      intro s hl
      rw [List.foldl_cons, List.foldl_cons, show evalF c p s t = evalF c o s t by unfold evalF; rw [hl t (by simp)]]
      exact ih _ fun t ht => hl t (by simp [ht])
  exact fold m.trees _ key
/-! ### places of boxes -/
theorem set_get_ite (b : Box) {k i : Int} (s : Span) (h0 : 0 ≤ k) (h5 : k < 5) (i0 : 0 ≤ i) (i5 : i < 5) : (b.set k s).get i = if i = k then s else b.get i := by
  have h1 : k = 0 ∨ k = 1 ∨ k = 2 ∨ k = 3 ∨ k = 4 := by omega
  have h2 : i = 0 ∨ i = 1 ∨ i = 2 ∨ i = 3 ∨ i = 4 := by omega
  rcases h1 with rfl | rfl | rfl | rfl | rfl <;> rcases h2 with rfl | rfl | rfl | rfl | rfl <;> rfl
theorem set_set (b : Box) {k : Int} (s s' : Span) (h0 : 0 ≤ k) (h5 : k < 5) : (b.set k s).set k s' = b.set k s' := by
  have h1 : k = 0 ∨ k = 1 ∨ k = 2 ∨ k = 3 ∨ k = 4 := by omega
  rcases h1 with rfl | rfl | rfl | rfl | rfl <;> rfl
def ptG (p : Point) (t : Int) (i : Int) : Int := if i < 4 then p.get i else t
theorem inB_pt {b : Box} {p : Point} {t : Int} : InB b p t ↔ ∀ i : Int, 0 ≤ i → i < 5 → InS (b.get i) (ptG p t i) := by
  constructor
  · rintro ⟨h0, h1, h2, h3, h4⟩ i i0 i5
    have h1 : i = 0 ∨ i = 1 ∨ i = 2 ∨ i = 3 ∨ i = 4 := by omega
    rcases h1 with rfl | rfl | rfl | rfl | rfl <;> assumption
  · intro h
    exact ⟨h 0 (by omega) (by omega), h 1 (by omega) (by omega), h 2 (by omega) (by omega), h 3 (by omega) (by omega), h 4 (by omega) (by omega)⟩
theorem empty_get {b : Box} : b.empty = false ↔ ∀ i : Int, 0 ≤ i → i < 5 → (b.get i).lo ≤ (b.get i).hi := by
  constructor
  · intro h i _ _; exact get_spans h i
  · intro h
    have h0 := h 0 (by omega) (by omega)
    have h1 := h 1 (by omega) (by omega)
    have h2 := h 2 (by omega) (by omega)
    have h3 := h 3 (by omega) (by omega)
    have h4 := h 4 (by omega) (by omega)
    unfold Box.empty Span.empty
    simp only [Bool.or_eq_false_iff, decide_eq_false_iff_not]
    simp only [Box.get, Int.reduceEq, if_true, if_false] at h0 h1 h2 h3 h4
    omega
/-! ### one place -/
theorem split_spec {k : Int} (h0 : 0 ≤ k) (h5 : k < 5) : ∀ {ts : List Int}, ts.Pairwise (· < ·) → ∀ {c : Box}, (c.get k).lo ≤ (c.get k).hi → (∀ t ∈ ts, (c.get k).lo ≤ t ∧ t < (c.get k).hi) →
    ∀ x ∈ splitC k ts c, ∃ s : Span, x = c.set k s ∧ s.lo ≤ s.hi ∧ (c.get k).lo ≤ s.lo ∧ s.hi ≤ (c.get k).hi ∧ ∀ t ∈ ts, t < s.lo ∨ s.hi ≤ t
  | [], _, c, hc, _, x, hx => by
    rw [splitC, List.mem_singleton] at hx
    exact ⟨c.get k, by rw [hx, set_get c h0 h5], hc, by omega, by omega, fun t ht => by simp at ht⟩
  | t :: ts, hs, c, hc, hin, x, hx => by
    have ht := hin t (by simp)
    have hlt : ∀ u ∈ ts, t < u := fun u hu => List.rel_of_pairwise_cons hs hu
    rw [splitC, cutB_set c h0 h5 ht.1 (by omega), if_pos ht.2] at hx
    simp only [List.mem_cons] at hx
    have hg : (c.set k ⟨t + 1, (c.get k).hi⟩).get k = ⟨t + 1, (c.get k).hi⟩ := by rw [set_get_ite c _ h0 h5 h0 h5, if_pos rfl]
    rcases hx with rfl | hx
    · exact ⟨⟨(c.get k).lo, t⟩, rfl, ht.1, Int.le_refl _, by simp only; omega, fun u hu => by
        rcases List.mem_cons.1 hu with rfl | hu
        · exact .inr (Int.le_refl _)
        · exact .inr (by have := hlt u hu; simp only; omega)⟩
    · obtain ⟨s, rfl, e1, e2, e3, e4⟩ := split_spec h0 h5 (List.Pairwise.of_cons hs) (c := c.set k ⟨t + 1, (c.get k).hi⟩) (by rw [hg]; simp only; omega) (fun u hu => by rw [hg]; have := hlt u hu; have := hin u (by simp [hu]); simp only; omega) x hx
      rw [hg] at e2 e3
      simp only at e2 e3
      refine ⟨s, set_set c _ _ h0 h5, e1, by omega, e3, fun u hu => ?_⟩
      rcases List.mem_cons.1 hu with rfl | hu
      · exact .inl (by omega)
      · exact e4 u hu
theorem split_one {k : Int} (h0 : 0 ≤ k) (h5 : k < 5) : ∀ {ts : List Int}, ts.Pairwise (· < ·) → ∀ {c : Box} {n : Int}, (c.get k).lo ≤ n → n ≤ (c.get k).hi → (∀ t ∈ ts, (c.get k).lo ≤ t ∧ t < (c.get k).hi) →
    (splitC k ts c).countP (fun x => (x.get k).has n) = 1
  | [], _, c, n, h1, h2, _ => by
    rw [splitC]
    simp [Span.has, h1, h2]
  | t :: ts, hs, c, n, h1, h2, hin => by
    have ht := hin t (by simp)
    have hlt : ∀ u ∈ ts, t < u := fun u hu => List.rel_of_pairwise_cons hs hu
    rw [splitC, cutB_set c h0 h5 ht.1 (by omega), if_pos ht.2]
    simp only
    have hg : (c.set k ⟨t + 1, (c.get k).hi⟩).get k = ⟨t + 1, (c.get k).hi⟩ := by rw [set_get_ite c _ h0 h5 h0 h5, if_pos rfl]
    have hg2 : (c.set k ⟨(c.get k).lo, t⟩).get k = ⟨(c.get k).lo, t⟩ := by rw [set_get_ite c _ h0 h5 h0 h5, if_pos rfl]
    have hin2 : ∀ u ∈ ts, ((c.set k ⟨t + 1, (c.get k).hi⟩).get k).lo ≤ u ∧ u < ((c.set k ⟨t + 1, (c.get k).hi⟩).get k).hi := fun u hu => by rw [hg]; have := hlt u hu; have := hin u (by simp [hu]); simp only; omega
    rw [List.countP_cons, hg2]
    by_cases hn : n ≤ t
    · have hz : (splitC k ts (c.set k ⟨t + 1, (c.get k).hi⟩)).countP (fun x => (x.get k).has n) = 0 := by
        rw [List.countP_eq_zero]
        intro x hx
        obtain ⟨s, rfl, e1, e2, e3, e4⟩ := split_spec h0 h5 (List.Pairwise.of_cons hs) (c := c.set k ⟨t + 1, (c.get k).hi⟩) (by rw [hg]; simp only; omega) hin2 x hx
        rw [hg] at e2
        simp only at e2
        rw [set_get_ite _ _ h0 h5 h0 h5, if_pos rfl]
        simp [Span.has]
        omega
      rw [hz]
      simp [Span.has, h1, hn]
    · rw [split_one h0 h5 (List.Pairwise.of_cons hs) (c := c.set k ⟨t + 1, (c.get k).hi⟩) (n := n) (by rw [hg]; simp only; omega) (by rw [hg]; exact h2) hin2]
      simp [Span.has, hn]
/-! ### all places -/
theorem cuts_sorted (m : Model) (q : Query) (b : Box) (k : Int) : (cutsL m q b k).Pairwise (· < ·) := by
  unfold cutsL
  split
  · exact .nil
  · exact (thr_sorted m _).filter _
theorem cuts_in {m : Model} {q : Query} {b : Box} {k : Int} : ∀ t ∈ cutsL m q b k, (b.get k).lo ≤ t ∧ t < (b.get k).hi := by
  intro t ht
  unfold cutsL at ht
  split at ht
  · simp at ht
  · rw [List.mem_filter] at ht
    have := ht.2
    simp only [outS, Bool.not_eq_true', Bool.or_eq_false_iff, decide_eq_false_iff_not] at this
    omega
structure PartTo (m : Model) (q : Query) (b : Box) (j : Nat) (x : Box) : Prop where
  done : ∀ i : Int, 0 ≤ i → i < j → (x.get i).lo ≤ (x.get i).hi ∧ (b.get i).lo ≤ (x.get i).lo ∧ (x.get i).hi ≤ (b.get i).hi ∧ ∀ t ∈ cutsL m q b i, t < (x.get i).lo ∨ (x.get i).hi ≤ t
  rest : ∀ i : Int, (j : Int) ≤ i → i < 5 → x.get i = b.get i
theorem stage_part {m : Model} {q : Query} {b : Box} (hb : b.empty = false) : ∀ {j : Nat}, j ≤ 5 → ∀ x ∈ stageC m q b j, PartTo m q b j x
  | 0, _, x, hx => by
    rw [stageC, List.mem_singleton] at hx
    subst hx
    exact ⟨fun i h0 h1 => by omega, fun i _ _ => rfl⟩
  | j + 1, hj, x, hx => by
    rw [stageC, List.mem_flatMap] at hx
    obtain ⟨c, hc, hx⟩ := hx
    have hp := stage_part hb (by omega) c hc
    have hcj := hp.rest j (by omega) (by omega)
    have hbj := get_spans hb (j : Int)
    obtain ⟨s, rfl, e1, e2, e3, e4⟩ := split_spec (k := j) (by omega) (by omega) (cuts_sorted m q b j) (c := c) (by rw [hcj]; exact hbj) (fun t ht => by rw [hcj]; exact cuts_in t ht) x hx
    rw [hcj] at e2 e3
    refine ⟨fun i i0 i1 => ?_, fun i i0 i1 => ?_⟩
    · rw [set_get_ite c s (by omega) (by omega) i0 (by omega)]
      by_cases e : i = j
      · subst e
        rw [if_pos rfl]
        exact ⟨e1, e2, e3, e4⟩
      · rw [if_neg e]
        exact hp.done i i0 (by omega)
    · rw [set_get_ite c s (by omega) (by omega) (by omega) i1, if_neg (by omega)]
      exact hp.rest i (by omega) i1
def hasN (p : Point) (t : Int) (j : Nat) (x : Box) : Bool := (List.range j).all fun (i : Nat) => (x.get i).has (ptG p t i)
theorem hasN_succ (p : Point) (t : Int) (j : Nat) (x : Box) : hasN p t (j + 1) x = (hasN p t j x && (x.get j).has (ptG p t j)) := by
  unfold hasN
  rw [List.range_succ, List.all_append]
  simp
theorem stage_one {m : Model} {q : Query} {b : Box} {p : Point} {t : Int} (hp : InB b p t) : ∀ {j : Nat}, j ≤ 5 → (stageC m q b j).countP (hasN p t j) = 1
  | 0, _ => by simp [stageC, hasN]
  | j + 1, hj => by
    have hb : b.empty = false := empty_false.2 ⟨p, t, hp⟩
    rw [stageC]
    have key : ∀ (l : List Box), (∀ c ∈ l, PartTo m q b j c) → (l.flatMap (splitC j (cutsL m q b j))).countP (hasN p t (j + 1)) = l.countP (hasN p t j) := by
      intro l
      induction l with
      | nil => intro _; rfl
      | cons c l ih =>
        intro hl
        rw [List.flatMap_cons, List.countP_append, ih (fun c hc => hl c (by simp [hc])), List.countP_cons, Nat.add_comm]
        congr 1
        have hc := hl c (by simp)
        have hcj := hc.rest j (by omega) (by omega)
        have hbj := get_spans hb (j : Int)
        have hpj := inB_pt.1 hp j (by omega) (by omega)
        have hin : ∀ t ∈ cutsL m q b j, (c.get j).lo ≤ t ∧ t < (c.get j).hi := fun t ht => by rw [hcj]; exact cuts_in t ht
        have hsame : ∀ x ∈ splitC j (cutsL m q b j) c, hasN p t (j + 1) x = (hasN p t j c && (x.get j).has (ptG p t j)) := by
          intro x hx
          obtain ⟨s, rfl, _⟩ := split_spec (k := j) (by omega) (by omega) (cuts_sorted m q b j) (c := c) (by rw [hcj]; exact hbj) hin x hx
          rw [hasN_succ]
          congr 1
          unfold hasN
          rw [List.all_eq, List.all_eq]
          congr 1
          apply propext
          constructor
          · intro h i hi
            have := h i hi
            rw [List.mem_range] at hi
            rwa [set_get_ite c s (by omega) (by omega) (by omega) (by omega), if_neg (by omega)] at this
          · intro h i hi
            have := h i hi
            rw [List.mem_range] at hi
            rwa [set_get_ite c s (by omega) (by omega) (by omega) (by omega), if_neg (by omega)]
        have hone := split_one (k := j) (by omega) (by omega) (cuts_sorted m q b j) (c := c) (n := ptG p t j) (by rw [hcj]; exact hpj.1) (by rw [hcj]; exact hpj.2) hin
        rw [List.countP_congr (q := fun x => hasN p t j c && (x.get j).has (ptG p t j)) (fun x hx => by rw [hsame x hx])]
        cases hh : hasN p t j c
        · simp
        · simpa using hone
    exact (key _ fun c hc => stage_part hb (by omega) c hc).trans (stage_one hp (by omega))
theorem hasN_five {p : Point} {t : Int} {x : Box} : hasN p t 5 x = true ↔ InB x p t := by
  have key : ∀ i : Int, 0 ≤ i → i < 5 → i = 0 ∨ i = 1 ∨ i = 2 ∨ i = 3 ∨ i = 4 := fun i _ _ => by omega
  rw [inB_pt]
  unfold hasN
  rw [List.all_eq_true]
  constructor
  · intro h i i0 i5
    have := h i.toNat (by rw [List.mem_range]; omega)
    rw [show ((i.toNat : Nat) : Int) = i by omega] at this
    simpa [Span.has, InS] using this
  · intro h i hi
    rw [List.mem_range] at hi
    have := h i (by omega) (by omega)
    simpa [Span.has, InS] using this
theorem cell_spec {m : Model} {q : Query} {b : Box} (hb : b.empty = false) {x : Box} (hx : x ∈ stageC m q b 5) :
    x.empty = false ∧ (∀ i : Int, 0 ≤ i → i < 5 → (b.get i).lo ≤ (x.get i).lo ∧ (x.get i).hi ≤ (b.get i).hi) ∧ ∀ i : Int, 0 ≤ i → i < 5 → cutsL m q x i = [] := by
  have hp := stage_part hb (Nat.le_refl 5) x hx
  refine ⟨empty_get.2 fun i i0 i5 => (hp.done i i0 i5).1, fun i i0 i5 => ⟨(hp.done i i0 i5).2.1, (hp.done i i0 i5).2.2.1⟩, fun i i0 i5 => ?_⟩
  rw [List.eq_nil_iff_forall_not_mem]
  intro t ht
  have hd := hp.done i i0 i5
  have hti := cuts_in t ht
  have htb : t ∈ cutsL m q b i := by
    unfold cutsL at ht ⊢
    split at ht
    · simp at ht
    · rename_i hf
      rw [if_neg hf]
      rw [List.mem_filter] at ht ⊢
      refine ⟨ht.1, ?_⟩
      simp only [outS, Bool.not_eq_true', Bool.or_eq_false_iff, decide_eq_false_iff_not]
      omega
  have := hd.2.2.2 t htb
  omega
theorem cell_of {m : Model} {q : Query} {b : Box} {p : Point} {t : Int} (hp : InB b p t) : ∃ x ∈ stageC m q b 5, InB x p t := by
  have h := stage_one (m := m) (q := q) hp (Nat.le_refl 5)
  have h2 : 0 < (stageC m q b 5).countP (hasN p t 5) := by omega
  rw [List.countP_pos_iff] at h2
  obtain ⟨x, hx, hh⟩ := h2
  exact ⟨x, hx, hasN_five.1 hh⟩
theorem within_inB {b x : Box} (h : ∀ i : Int, 0 ≤ i → i < 5 → (b.get i).lo ≤ (x.get i).lo ∧ (x.get i).hi ≤ (b.get i).hi) {p : Point} {t : Int} (hp : InB x p t) : InB b p t := by
  rw [inB_pt] at hp ⊢
  intro i i0 i5
  have h1 := h i i0 i5
  have h2 := hp i i0 i5
  unfold InS at *
  omega
theorem uncut {m : Model} {q : Query} {x : Box} {k : Int} (h : cutsL m q x k = []) (hf : ¬ featOf q k < 0) {n o : Int} (hn : InS (x.get k) n) (ho : InS (x.get k) o) : ∀ t ∈ thrL m (featOf q k), (n ≤ t ↔ o ≤ t) := by
  intro t ht
  unfold InS at hn ho
  by_cases hc : (x.get k).lo ≤ t ∧ t < (x.get k).hi
  · have : t ∈ cutsL m q x k := by
      unfold cutsL
      rw [if_neg hf, List.mem_filter]
      refine ⟨ht, ?_⟩
      simp only [outS, Bool.not_eq_true', Bool.or_eq_false_iff, decide_eq_false_iff_not]
      omega
    rw [h] at this
    simp at this
  · omega
theorem featOf_lt (q : Query) {k : Int} (h0 : 0 ≤ k) (h4 : k < 4) : featOf q k = k := by unfold featOf; rw [if_pos ⟨h0, h4⟩]
theorem cell_eval {m : Model} (hm : RM m) {q : Query} {x : Box} (hn : ∀ i : Int, 0 ≤ i → i < 5 → cutsL m q x i = []) {p o : Point} {t u : Int} (hp : InB x p t) (ho : InB x o u) (c : Int) : evalM m c p = evalM m c o := by
  refine eval_same hm (fun j j0 j4 => ?_) c
  have h1 := (inB_get.1 hp j j0 j4).1
  have h2 := (inB_get.1 ho j j0 j4).1
  have := uncut (hn j j0 (by omega)) (by rw [featOf_lt q j0 j4]; omega) h1 h2
  rwa [featOf_lt q j0 j4] at this
def lowB (b : Box) : Point := ⟨b.s0.lo, b.s1.lo, b.s2.lo, b.s3.lo⟩
theorem low_in {x : Box} (h : x.empty = false) : InB x (lowB x) x.s4.hi := by
  have := empty_spec h
  unfold Span.empty at this
  simp only [decide_eq_false_iff_not] at this
  unfold InB InS lowB
  simp only
  omega
end Go.Co
