/- CO: texts of this claim, one behind the other. -/
import Derived.Test.YtlbfmeijjgphfaaGreatCz15
import Derived.Test.YtlbfmeijjgphfaaGreatCz5
import Derived.Test.YtlbfmeijjgphfaaGreatCz7
import Derived.Test.YtlbfmeijjgphfaaGreatCz14
set_option linter.unusedVariables false
set_option linter.unusedSimpArgs false
/- CO: a pruned tree's nodes stand in the order in which they are gone through. -/
namespace Go.Co
open Go.Am Go.Proofs
inductive PT
  | leaf (n : Node)
  | node (f c : Int) (l r : PT)
def PT.size : PT → Nat
  | .leaf _ => 1
  | .node _ _ l r => 1 + l.size + r.size
def PT.ser : PT → Nat → List Node
  | .leaf n, _ => [n]
  | .node f c l r, o => ⟨false, 0, f, c, ((o + 1 : Nat) : Int), ((o + 1 + l.size : Nat) : Int)⟩ :: (l.ser (o + 1) ++ r.ser (o + 1 + l.size))
def PT.ok (dim : Int) : PT → Prop
  | .leaf n => n.leaf = true ∧ rightNode n = true
  | .node f c l r => 0 ≤ f ∧ f < dim ∧ f < 4 ∧ fits c = true ∧ l.ok dim ∧ r.ok dim
theorem PT.pos : ∀ p : PT, 1 ≤ p.size
  | .leaf _ => by simp [PT.size]
  | .node _ _ l r => by simp only [PT.size]; omega
theorem ser_len : ∀ (p : PT) (o : Nat), (p.ser o).length = p.size
  | .leaf _, _ => rfl
  | .node _ _ l r, o => by
    simp only [PT.ser, PT.size, List.length_cons, List.length_append, ser_len l, ser_len r]
    omega
theorem ser_right {dim : Int} : ∀ (p : PT) (o : Nat), p.ok dim → o + p.size ≤ 31 → ∀ n ∈ p.ser o, rightNode n = true
  | .leaf n, o, h, _, x, hx => by
    simp only [PT.ser, List.mem_singleton] at hx
    subst hx
    exact h.2
  | .node f c l r, o, h, hs, x, hx => by
    obtain ⟨h1, h2, h3, h4, h5, h6⟩ := h
    have pl := l.pos
    have pr := r.pos
    simp only [PT.size] at hs
    simp only [PT.ser, List.mem_cons, List.mem_append] at hx
    rcases hx with rfl | hx | hx
    · unfold rightNode
      simp only [Bool.false_eq_true, if_false, Bool.and_eq_true, decide_eq_true_eq]
      refine ⟨⟨⟨⟨⟨⟨⟨trivial, h1⟩, h3⟩, h4⟩, ?_⟩, ?_⟩, ?_⟩, ?_⟩ <;> omega
    · exact ser_right l (o + 1) h5 (by omega) x hx
    · exact ser_right r (o + 1 + l.size) h6 (by omega) x hx
theorem ser_inner {dim : Int} : ∀ (p : PT) (o : Nat), p.ok dim → ∀ (i : Nat) (hi : i < (p.ser o).length), (p.ser o)[i].leaf = false →
    (p.ser o)[i].feature < dim ∧ (p.ser o)[i].left = ((o + i + 1 : Nat) : Int) ∧ (p.ser o)[i].left < (p.ser o)[i].right ∧ (p.ser o)[i].right < ((o + p.size : Nat) : Int)
  | .leaf n, o, h, i, hi, hl => by
    simp only [PT.ser, List.length_singleton] at hi
    have : i = 0 := by omega
    subst this
    simp only [PT.ser, List.getElem_cons_zero] at hl
    rw [h.1] at hl
    cases hl
  | .node f c l r, o, h, i, hi, hl => by
    obtain ⟨h1, h2, h3, h4, h5, h6⟩ := h
    have pl := l.pos
    have pr := r.pos
    have ll := ser_len l (o + 1)
    have lr := ser_len r (o + 1 + l.size)
    simp only [PT.ser] at hi hl ⊢
    simp only [PT.size]
    cases i with
    | zero =>
      simp only [List.getElem_cons_zero]
      refine ⟨h2, ?_, ?_, ?_⟩ <;> (try dsimp only) <;> omega
    | succ i =>
      simp only [List.length_cons, List.length_append] at hi
      simp only [List.getElem_cons_succ] at hl ⊢
      by_cases hi2 : i < (l.ser (o + 1)).length
      · rw [List.getElem_append_left hi2] at hl ⊢
        have := ser_inner l (o + 1) h5 i hi2 hl
        refine ⟨this.1, by omega, this.2.2.1, by omega⟩
      · rw [List.getElem_append_right (by omega)] at hl ⊢
        have hi3 : i - (l.ser (o + 1)).length < (r.ser (o + 1 + l.size)).length := by omega
        have := ser_inner r (o + 1 + l.size) h6 (i - (l.ser (o + 1)).length) hi3 hl
        refine ⟨this.1, by omega, this.2.2.1, by omega⟩
theorem ser_once {dim : Int} : ∀ (p : PT) (o : Nat), p.ok dim → ∀ j : Nat, (p.ser o).countP (fun n => names n j) = if o < j ∧ j < o + p.size then 1 else 0
  | .leaf n, o, h, j => by
    have hz : (PT.leaf n).size = 1 := rfl
    have hs : (PT.leaf n).ser o = [n] := rfl
    rw [hz, hs, if_neg (by omega)]
    simp [names, h.1]
  | .node f c l r, o, h, j => by
    obtain ⟨h1, h2, h3, h4, h5, h6⟩ := h
    have pl := l.pos
    have pr := r.pos
    have hz : (PT.node f c l r).size = 1 + l.size + r.size := rfl
    have hs : (PT.node f c l r).ser o = ⟨false, 0, f, c, ((o + 1 : Nat) : Int), ((o + 1 + l.size : Nat) : Int)⟩ :: (l.ser (o + 1) ++ r.ser (o + 1 + l.size)) := rfl
    have e : names ⟨false, 0, f, c, ((o + 1 : Nat) : Int), ((o + 1 + l.size : Nat) : Int)⟩ j = (decide (j = o + 1) || decide (j = o + 1 + l.size)) := by
      unfold names
      simp only [Bool.not_false, Bool.true_and]
      congr 1 <;> (apply decide_eq_decide.2; omega)
    rw [hz, hs, List.countP_cons, List.countP_append, ser_once l (o + 1) h5 j, ser_once r (o + 1 + l.size) h6 j, e]
    simp only [Bool.or_eq_true, decide_eq_true_eq]
    repeat' split
    all_goals omega
theorem ser_nt {dim : Int} {p : PT} (h : p.ok dim) (hs : p.size ≤ 31) : NT (p.ser 0) dim where
  ok := ser_right p 0 h (by omega)
  pos := by rw [ser_len]; exact p.pos
  le := by rw [ser_len]; exact hs
  inner i hi hl := by
    have := ser_inner p 0 h i hi hl
    rw [ser_len]
    refine ⟨this.1, by omega, by omega, by omega, by omega, by omega⟩
  once j h1 h2 := by
    rw [ser_len] at h2
    rw [ser_once p 0 h j, if_pos (by omega)]
def prPT (old : List Word) : Nat → Nat → Box → PT
  | 0, i, _ => .leaf (ndAt old i)
  | n + 1, i, b =>
    if (ndAt old i).leaf then .leaf (ndAt old i) else
    if (cutB b (ndAt old i).feature (ndAt old i).cut).1.empty then prPT old n (ndAt old i).right.toNat (cutB b (ndAt old i).feature (ndAt old i).cut).2 else
    if (cutB b (ndAt old i).feature (ndAt old i).cut).2.empty then prPT old n (ndAt old i).left.toNat (cutB b (ndAt old i).feature (ndAt old i).cut).1 else
    .node (ndAt old i).feature (ndAt old i).cut (prPT old n (ndAt old i).left.toNat (cutB b (ndAt old i).feature (ndAt old i).cut).1) (prPT old n (ndAt old i).right.toNat (cutB b (ndAt old i).feature (ndAt old i).cut).2)
theorem pack_ndAt {l : List Word} {d : Int} (h : RT l d) {i : Nat} (hi : i < l.length) : pack (ndAt l i) = l[i] := by
  have h1 := (h.ok i hi).2
  rw [ndAt_lt hi]
  unfold nd
  unfold unpack at h1 ⊢
  split at h1
  · rename_i hc
    rw [if_pos hc]
    simp only [Bool.and_eq_true, decide_eq_true_eq] at hc
    exact hc.2
  · cases h1
theorem set_midW (a : List Word) (x y : Word) (l : List Word) : (a ++ x :: l).set a.length y = a ++ y :: l := by
  rw [List.set_append_right _ _ (Nat.le_refl _), Nat.sub_self]
  rfl
theorem stay_ser {old : List Word} {d : Int} (hr : RT old d) : ∀ (n i : Nat) (b : Box) (out : List Word) (k : Int) (out' : List Word), i < old.length → stayN old n i b out = some (k, out') → out' = out ++ ((prPT old n i b).ser out.length).map pack
  | 0, i, b, out, k, out', hi, h => by cases h
  | n + 1, i, b, out, k, out', hi, h => by
    unfold stayN at h
    have ei : ((i : Nat) : Int).toNat = i := by omega
    rw [if_pos ⟨by omega, by omega⟩, ei] at h
    unfold prPT
    cases hl : (ndAt old i).leaf
    case true =>
      rw [hl, if_pos rfl] at h
      rw [if_pos rfl]
      cases h
      rw [wdAt_lt hi, ← pack_ndAt hr hi]
      rfl
    case false =>
      rw [hl, if_neg Bool.false_ne_true] at h
      rw [if_neg Bool.false_ne_true]
      have hin := hr.at hi hl
      obtain ⟨_, _, l1, l2, r1, r2⟩ := hin
      have hv : (ndAt old i).value = 0 := by
        have := hr.node hi
        unfold rightNode at this
        rw [hl] at this
        simp only [Bool.false_eq_true, if_false, Bool.and_eq_true, decide_eq_true_eq] at this
        exact this.1.1.1.1.1.1.1
      generalize ndAt old i = nn at *
      obtain ⟨lf, val, ft, ct, lt, rt⟩ := nn
      simp only at hl hv l1 l2 r1 r2 h ⊢
      subst hl
      subst hv
      obtain ⟨ltn, rfl⟩ : ∃ t : Nat, lt = t := ⟨lt.toNat, by omega⟩
      obtain ⟨rtn, rfl⟩ : ∃ t : Nat, rt = t := ⟨rt.toNat, by omega⟩
      have e1 : ((ltn : Nat) : Int).toNat = ltn := by omega
      have e2 : ((rtn : Nat) : Int).toNat = rtn := by omega
      rw [e1, e2]
      generalize cutB b ft ct = xy at *
      obtain ⟨x, y⟩ := xy
      simp only at h ⊢
      split at h
      · rename_i hx
        rw [if_pos hx]
        exact stay_ser hr n rtn y out k out' (by omega) h
      · rename_i hx
        rw [if_neg hx]
        split at h
        · rename_i hy
          rw [if_pos hy]
          exact stay_ser hr n ltn x out k out' (by omega) h
        · rename_i hy
          rw [if_neg hy]
          rw [Option.bind_eq_some_iff] at h
          obtain ⟨⟨k1, o1⟩, h1, h⟩ := h
          rw [Option.bind_eq_some_iff] at h
          obtain ⟨⟨k2, o2⟩, h2, h⟩ := h
          have g1 := stayN_len _ _ _ _ _ _ h1
          have g2 := stayN_len _ _ _ _ _ _ h2
          have s1 := stay_ser hr n ltn x _ _ _ (by omega) h1
          have s2 := stay_ser hr n rtn y _ _ _ (by omega) h2
          simp only [Option.some.injEq, Prod.mk.injEq] at h
          obtain ⟨-, rfl⟩ := h
          have hz : (out ++ [(⟨0⟩ : Word)]).length = out.length + 1 := by simp
          rw [hz] at s1 g1
          have hlo : o1.length = out.length + 1 + (prPT old n ltn x).size := by
            rw [s1]
            simp [ser_len]
            omega
          simp only at s2 g2
          rw [hlo] at s2
          rw [s2, s1, List.append_assoc, List.append_assoc, List.singleton_append, set_midW]
          rw [g1.1, g2.1, hlo]
          simp [PT.ser]
def visN (old : List Word) : Nat → Nat → List Nat
  | 0, _ => []
  | n + 1, i => if (ndAt old i).leaf then [i] else i :: (visN old n (ndAt old i).left.toNat ++ visN old n (ndAt old i).right.toNat)
def nmN (old : List Word) (j p : Nat) : Nat := if names (ndAt old p) j then 1 else 0
theorem child_nat {old : List Word} {d : Int} (hr : RT old d) {i : Nat} (hi : i < old.length) (hl : (ndAt old i).leaf = false) :
    ∃ a b : Nat, (ndAt old i).left = a ∧ (ndAt old i).right = b ∧ i < a ∧ a < old.length ∧ i < b ∧ b < old.length ∧ a ≠ b := by
  have := hr.at hi hl
  exact ⟨(ndAt old i).left.toNat, (ndAt old i).right.toNat, by omega, by omega, by omega, by omega, by omega, by omega, by omega⟩
theorem vis_lt {old : List Word} {d : Int} (hr : RT old d) : ∀ (n i : Nat), i < old.length → ∀ x ∈ visN old n i, x < old.length
  | 0, i, hi, x, hx => by cases hx
  | n + 1, i, hi, x, hx => by
    unfold visN at hx
    cases hl : (ndAt old i).leaf
    · rw [hl, if_neg Bool.false_ne_true] at hx
      obtain ⟨a, b, ha, hb, g1, g2, g3, g4, g5⟩ := child_nat hr hi hl
      rw [ha, hb] at hx
      simp only [List.mem_cons, List.mem_append] at hx
      rcases hx with rfl | hx | hx
      · exact hi
      · exact vis_lt hr n _ (by omega) x hx
      · exact vis_lt hr n _ (by omega) x hx
    · rw [hl, if_pos rfl] at hx
      simp at hx
      omega
theorem vis_count {old : List Word} {d : Int} (hr : RT old d) (j : Nat) : ∀ (n i : Nat), i < old.length → old.length ≤ i + n → (visN old n i).count j = (if i = j then 1 else 0) + ((visN old n i).map (nmN old j)).sum
  | 0, i, hi, hn => by omega
  | n + 1, i, hi, hn => by
    unfold visN
    cases hl : (ndAt old i).leaf
    · rw [if_neg Bool.false_ne_true]
      obtain ⟨a, b, ha, hb, g1, g2, g3, g4, g5⟩ := child_nat hr hi hl
      rw [ha, hb]
      have ea : ((a : Nat) : Int).toNat = a := by omega
      have eb : ((b : Nat) : Int).toNat = b := by omega
      rw [ea, eb]
      have h1 := vis_count hr j n a (by omega) (by omega)
      have h2 := vis_count hr j n b (by omega) (by omega)
      have hnm : nmN old j i = (if a = j then 1 else 0) + (if b = j then 1 else 0) := by
        unfold nmN names
        rw [hl, ha, hb]
        by_cases x : a = j
        · subst x
          rw [if_pos rfl, if_neg (Ne.symm g5)]
          simp
        · by_cases y : b = j
          · subst y
            rw [if_neg x, if_pos rfl]
            simp
          · rw [if_neg x, if_neg y]
            have x' : ¬ (a : Int) = j := by omega
            have y' : ¬ (b : Int) = j := by omega
            simp [x', y']
      rw [List.count_cons, List.count_append, h1, h2, List.map_cons, List.map_append, List.sum_cons, List.sum_append, hnm]
      have e : (if (i == j) = true then 1 else 0) = if i = j then 1 else 0 := by simp
      rw [e]
      omega
    · rw [if_pos rfl]
      have h0 : nmN old j i = 0 := by unfold nmN names; rw [hl]; rfl
      simp [h0, List.count_cons]
theorem sum_one {p0 : Nat} : ∀ (l : List Nat) (f : Nat → Nat), (∀ p ∈ l, f p = if p = p0 then 1 else 0) → (l.map f).sum = l.count p0
  | [], f, _ => rfl
  | a :: l, f, h => by
    rw [List.map_cons, List.sum_cons, List.count_cons, sum_one l f (fun p hp => h p (by simp [hp])), h a (by simp)]
    by_cases e : a = p0
    · subst e; simp; omega
    · simp [e]
theorem sum_none : ∀ (l : List Nat), (∀ x ∈ l, x = 0) → l.sum = 0
  | [], _ => rfl
  | a :: l, h => by rw [List.sum_cons, h a (by simp), sum_none l (fun x hx => h x (by simp [hx]))]
theorem nodup_len : ∀ (N : Nat) (l : List Nat), l.Nodup → (∀ x ∈ l, x < N) → l.length ≤ N
  | 0, l, _, h => by
    have : l = [] := List.eq_nil_iff_forall_not_mem.2 fun x hx => by have := h x hx; omega
    simp [this]
  | N + 1, l, hn, h => by
    by_cases hm : N ∈ l
    · have h1 := nodup_len N (l.erase N) (hn.erase N) fun x hx => by
        have h2 := hn.mem_erase_iff.1 hx
        have := h x h2.2
        omega
      rw [List.length_erase_of_mem hm] at h1
      omega
    · have := nodup_len N l hn fun x hx => by
        have h2 := h x hx
        have : x ≠ N := fun e => hm (e ▸ hx)
        omega
      omega
theorem vis_once {old : List Word} {d : Int} (hr : RT old d) {n : Nat} (hn : old.length ≤ n) : ∀ (m j : Nat), j ≤ m → j < old.length → (visN old n 0).count j ≤ 1 := by
  intro m
  induction m with
  | zero =>
    intro j h0 hj
    have : j = 0 := by omega
    subst this
    rw [vis_count hr 0 n 0 hr.pos (by omega)]
    have hz : ((visN old n 0).map (nmN old 0)).sum = 0 := by
      have : ∀ x ∈ (visN old n 0).map (nmN old 0), x = 0 := by
        intro x hx
        obtain ⟨p, hp, rfl⟩ := List.mem_map.1 hx
        have hpl := vis_lt hr n 0 hr.pos p hp
        unfold nmN names
        cases hl : (ndAt old p).leaf
        · obtain ⟨a, b, ha, hb, g1, g2, g3, g4, g5⟩ := child_nat hr hpl hl
          rw [ha, hb]
          have x' : ¬ (a : Int) = (0 : Nat) := by omega
          have y' : ¬ (b : Int) = (0 : Nat) := by omega
          simp [x', y']
          omega
        · rfl
      exact sum_none _ this
    rw [hz]
    simp
  | succ m ih =>
    intro j hm hj
    by_cases e : j ≤ m
    · exact ih j e hj
    · have hj1 : 1 ≤ j := by omega
      obtain ⟨p0, hp0, hl0, hc0⟩ := hr.parent hj1 hj
      have hn0 : names (ndAt old p0) j = true := by
        unfold names
        rw [hl0]
        simpa using hc0
      rw [vis_count hr j n 0 hr.pos (by omega), if_neg (by omega), Nat.zero_add, sum_one (p0 := p0) _ _ (fun p hp => ?_)]
      · exact ih p0 (by omega) (by omega)
      · have hpl := vis_lt hr n 0 hr.pos p hp
        unfold nmN
        by_cases e2 : p = p0
        · subst e2
          rw [hn0]
          simp
        · rw [if_neg e2, if_neg (fun h => e2 (hr.unique hpl (by omega) hj1 hj h hn0))]
theorem vis_len {old : List Word} {d : Int} (hr : RT old d) {n : Nat} (hn : old.length ≤ n) : (visN old n 0).length ≤ old.length := by
  have hnd : (visN old n 0).Nodup := List.nodup_iff_count.2 fun a => by
    by_cases ha : a < old.length
    · exact vis_once hr hn a a (Nat.le_refl _) ha
    · rw [List.count_eq_zero_of_not_mem (fun h => ha (vis_lt hr n 0 hr.pos a h))]
      omega
  exact nodup_len _ _ hnd (vis_lt hr n 0 hr.pos)
theorem prPT_size {old : List Word} {d : Int} (hr : RT old d) : ∀ (n i : Nat) (b : Box), i < old.length → old.length ≤ i + n → (prPT old n i b).size ≤ (visN old n i).length
  | 0, i, b, hi, hn => by omega
  | n + 1, i, b, hi, hn => by
    unfold prPT visN
    cases hl : (ndAt old i).leaf
    · rw [if_neg Bool.false_ne_true, if_neg Bool.false_ne_true]
      obtain ⟨x, y, ha, hb, g1, g2, g3, g4, g5⟩ := child_nat hr hi hl
      rw [ha, hb]
      have ea : ((x : Nat) : Int).toNat = x := by omega
      have eb : ((y : Nat) : Int).toNat = y := by omega
      rw [ea, eb]
      have h1 := fun b => prPT_size hr n x b (by omega) (by omega)
      have h2 := fun b => prPT_size hr n y b (by omega) (by omega)
      rw [List.length_cons, List.length_append]
      split
      · have := h2 (cutB b (ndAt old i).feature (ndAt old i).cut).2; omega
      · split
        · have := h1 (cutB b (ndAt old i).feature (ndAt old i).cut).1; omega
        · have := h2 (cutB b (ndAt old i).feature (ndAt old i).cut).2
          have := h1 (cutB b (ndAt old i).feature (ndAt old i).cut).1
          simp only [PT.size]
          omega
    · rw [if_pos rfl, if_pos rfl]
      simp [PT.size]
theorem prPT_ok {old : List Word} {d : Int} (hr : RT old d) : ∀ (n i : Nat) (b : Box), i < old.length → old.length ≤ i + n → (prPT old n i b).ok d
  | 0, i, b, hi, hn => by omega
  | n + 1, i, b, hi, hn => by
    unfold prPT
    cases hl : (ndAt old i).leaf
    · rw [if_neg Bool.false_ne_true]
      obtain ⟨x, y, ha, hb, g1, g2, g3, g4, g5⟩ := child_nat hr hi hl
      have hat := hr.at hi hl
      have hf := hr.feature hi hl
      have hc := hr.cutOk hi
      rw [ha, hb]
      have ea : ((x : Nat) : Int).toNat = x := by omega
      have eb : ((y : Nat) : Int).toNat = y := by omega
      rw [ea, eb]
      split
      · exact prPT_ok hr n y _ (by omega) (by omega)
      · split
        · exact prPT_ok hr n x _ (by omega) (by omega)
        · exact ⟨hf.1, hat.1, hf.2, hc, prPT_ok hr n x _ (by omega) (by omega), prPT_ok hr n y _ (by omega) (by omega)⟩
    · rw [if_pos rfl]
      exact ⟨hl, hr.node hi⟩
def prT' (l : List Word) (b : Box) : PT := prPT l 31 0 b
theorem pruneT_eq {l : List Word} {d : Int} (hr : RT l d) (b : Box) : pruneT l b = ((prT' l b).ser 0).map pack := by
  obtain ⟨k, out, h1, h2⟩ := stayN_some hr 31 0 b [] hr.pos (by have := hr.le; omega)
  have h3 := stay_ser hr 31 0 b [] k out hr.pos h1
  have h1 : stayN l 31 0 b [] = some (k, out) := h1
  unfold pruneT
  rw [h1, h3]
  rfl
theorem prT_size {l : List Word} {d : Int} (hr : RT l d) (b : Box) : (prT' l b).size ≤ l.length := by
  have h1 := prPT_size hr 31 0 b hr.pos (by have := hr.le; omega)
  have h2 := vis_len hr (n := 31) hr.le
  exact Nat.le_trans h1 h2
theorem pruneT_right {l : List Word} {d : Int} (hr : RT l d) (b : Box) : RT (pruneT l b) d := by
  rw [pruneT_eq hr b]
  exact (ser_nt (prPT_ok hr 31 0 b hr.pos (by have := hr.le; omega)) (Nat.le_trans (prT_size hr b) hr.le)).words
end Go.Co
/- CO: models held against each other: told of the same model twice. -/
namespace Go.Co
open Go.Am Go.Proofs
attribute [-simp] Go.Am.eff_gcall
def c47_0 : ACode := .ops [⟨some 2, .box (.t 0) 6, none, []⟩,⟨some 3, .box (.t 1) 6, none, []⟩,⟨some 4, .mv (.c (.bool false)), none, []⟩] [2, 3]
def c47_1 : ACode := .ops [⟨some 6, .fad (.t 2) 0, none, [2]⟩,⟨some 7, .load 1 false (.t 6), none, [2]⟩,⟨some 8, .fad (.t 3) 0, none, [3]⟩,⟨some 9, .load 1 false (.t 8), none, [3]⟩,⟨some 10, .bin .neq (.t 7) (.t 9), none, []⟩,⟨some 11, .mv (.t 10), none, []⟩,⟨some 12, .fad (.t 2) 1, some (11, false), [2]⟩,⟨some 13, .load 1 false (.t 12), some (11, false), [2]⟩,⟨some 14, .fad (.t 3) 1, some (11, false), [3]⟩,⟨some 15, .load 1 false (.t 14), some (11, false), [3]⟩,⟨some 16, .bin .neq (.t 13) (.t 15), some (11, false), []⟩,⟨some 17, .pick (.t 11) (.c (.bool true)) (.t 16), none, []⟩,⟨some 18, .mv (.t 17), none, []⟩,⟨some 19, .fad (.t 2) 2, some (18, false), [2]⟩,⟨some 20, .load 3 true (.t 19), some (18, false), [2]⟩,⟨some 21, .fad (.t 3) 2, some (18, false), [3]⟩,⟨some 22, .load 3 true (.t 21), some (18, false), [3]⟩,⟨some 23, .eqa true [false, false, false] (.t 20) (.t 22), some (18, false), []⟩,⟨some 24, .pick (.t 18) (.c (.bool true)) (.t 23), none, []⟩,⟨some 25, .mv (.t 24), none, []⟩,⟨some 26, .fad (.t 2) 5, some (25, false), [2]⟩,⟨some 27, .load 1 false (.t 26), some (25, false), [2]⟩,⟨some 28, .len (.t 27), some (25, false), []⟩,⟨some 29, .fad (.t 3) 5, some (25, false), [3]⟩,⟨some 30, .load 1 false (.t 29), some (25, false), [3]⟩,⟨some 31, .len (.t 30), some (25, false), []⟩,⟨some 32, .bin .neq (.t 28) (.t 31), some (25, false), []⟩,⟨some 33, .pick (.t 25) (.c (.bool true)) (.t 32), none, []⟩] [2, 3, 33]
def c47_2 : ACode := .ops [⟨some 4, .mv (.c (.bool false)), none, []⟩] [4]
def c47_3 : ACode := .seq c47_2 .ret
def c47_4 : ACode := .cond (.t 33) c47_3 .skip
def c47_5 : ACode := .seq c47_1 c47_4
def c47_6 : ACode := .ops [⟨some 34, .fad (.t 2) 5, none, [2]⟩,⟨some 35, .load 1 false (.t 34), none, [2]⟩,⟨some 36, .len (.t 35), none, []⟩,⟨some 37, .mv (.c (.int .i64 0)), none, []⟩] [2, 3, 36, 37]
def c47_7 : ACode := .ops [⟨some 38, .bin .lss (.t 37) (.t 36), none, []⟩] [2, 3, 36, 37, 38]
def c47_8 : ACode := .cond (.t 38) .skip (.exit 0)
def c47_9 : ACode := .ops [⟨some 39, .mv (.t 37), none, []⟩,⟨some 5, .mv (.t 39), none, []⟩] [2, 3, 5, 36, 37]
def c47_10 : ACode := .ops [⟨some 40, .fad (.t 2) 5, none, [2]⟩,⟨some 41, .load 1 false (.t 40), none, [2]⟩,⟨some 42, .mv (.t 5), none, []⟩,⟨some 43, .ias (.t 41) (.t 42) 2, none, []⟩,⟨some 44, .fad (.t 43) 0, none, []⟩,⟨some 45, .load 1 false (.t 44), none, []⟩,⟨some 46, .fad (.t 3) 5, none, [3]⟩,⟨some 47, .load 1 false (.t 46), none, [3]⟩,⟨some 48, .mv (.t 5), none, []⟩,⟨some 49, .ias (.t 47) (.t 48) 2, none, []⟩,⟨some 50, .fad (.t 49) 0, none, []⟩,⟨some 51, .load 1 false (.t 50), none, []⟩,⟨some 52, .bin .neq (.t 45) (.t 51), none, []⟩,⟨some 53, .mv (.t 52), none, []⟩,⟨some 54, .fad (.t 2) 5, some (53, false), [2]⟩,⟨some 55, .load 1 false (.t 54), some (53, false), [2]⟩,⟨some 56, .mv (.t 5), some (53, false), []⟩,⟨some 57, .ias (.t 55) (.t 56) 2, some (53, false), []⟩,⟨some 58, .fad (.t 57) 1, some (53, false), []⟩,⟨some 59, .load 1 false (.t 58), some (53, false), []⟩,⟨some 60, .fad (.t 3) 5, some (53, false), [3]⟩,⟨some 61, .load 1 false (.t 60), some (53, false), [3]⟩,⟨some 62, .mv (.t 5), some (53, false), []⟩,⟨some 63, .ias (.t 61) (.t 62) 2, some (53, false), []⟩,⟨some 64, .fad (.t 63) 1, some (53, false), []⟩,⟨some 65, .load 1 false (.t 64), some (53, false), []⟩,⟨some 66, .call 77 [.t 59, .t 65], some (53, false), []⟩,⟨some 67, .un .not (.t 66), some (53, false), []⟩,⟨some 68, .pick (.t 53) (.c (.bool true)) (.t 67), none, []⟩] [2, 3, 36, 37, 68]
def c47_11 : ACode := .ops [⟨some 4, .mv (.c (.bool false)), none, []⟩] [4]
def c47_12 : ACode := .seq c47_11 .ret
def c47_13 : ACode := .cond (.t 68) c47_12 .skip
def c47_14 : ACode := .seq c47_10 c47_13
def c47_15 : ACode := .seq c47_9 c47_14
def c47_16 : ACode := .block 1 c47_15
def c47_17 : ACode := .ops [⟨some 69, .bin .add (.t 37) (.c (.int .i64 1)), none, []⟩,⟨some 37, .mv (.t 69), none, []⟩] [2, 3, 36, 37]
def c47_18 : ACode := .seq c47_16 c47_17
def c47_19 : ACode := .seq c47_8 c47_18
def c47_20 : ACode := .seq c47_7 c47_19
def c47_21 : ACode := .keep [2, 3, 36, 37] [2, 3] c47_20
def c47_22 : ACode := .loop c47_21
def c47_23 : ACode := .block 0 c47_22
def c47_24 : ACode := .seq c47_6 c47_23
def c47_25 : ACode := .ops [⟨some 4, .mv (.c (.bool true)), none, []⟩] [4]
def c47_26 : ACode := .seq c47_25 .ret
def c47_27 : ACode := .seq c47_24 c47_26
def c47_28 : ACode := .seq c47_5 c47_27
def c47_29 : ACode := .seq c47_0 c47_28
def a47 : AFun := ⟨2, 70, c47_29, [.t 4]⟩
theorem m47 : mFun Tryz.prog Tryz.f47 a47 = true := by decide +kernel
end Go.Co
/- CO: pruning again, within a smaller box. -/
namespace Go.Co
open Go.Am Go.Proofs
def PT.prune : PT → Box → PT
  | .leaf n, _ => .leaf n
  | .node f c l r, b => if (cutB b f c).1.empty then r.prune (cutB b f c).2 else if (cutB b f c).2.empty then l.prune (cutB b f c).1 else .node f c (l.prune (cutB b f c).1) (r.prune (cutB b f c).2)
def fullPT (old : List Word) : Nat → Nat → PT
  | 0, i => .leaf (ndAt old i)
  | n + 1, i => if (ndAt old i).leaf then .leaf (ndAt old i) else .node (ndAt old i).feature (ndAt old i).cut (fullPT old n (ndAt old i).left.toNat) (fullPT old n (ndAt old i).right.toNat)
theorem prPT_full (old : List Word) : ∀ (n i : Nat) (b : Box), prPT old n i b = (fullPT old n i).prune b
  | 0, i, b => rfl
  | n + 1, i, b => by
    unfold prPT fullPT
    split
    · rfl
    · simp only [PT.prune, prPT_full old n]
theorem ndAt_mid (A : List Word) (w : Word) (C : List Word) : ndAt (A ++ w :: C) A.length = nd w := by
  rw [ndAt_lt (by simp)]
  rw [List.getElem_append_right (Nat.le_refl _)]
  simp
theorem full_ser {dim : Int} : ∀ (p : PT) (A B : List Word) (n : Nat), p.ok dim → A.length + p.size ≤ 31 → p.size ≤ n → fullPT (A ++ (p.ser A.length).map pack ++ B) n A.length = p
  | .leaf x, A, B, n, h, hs, hn => by
    have hd : ndAt (A ++ ((PT.leaf x).ser A.length).map pack ++ B) A.length = x := by
      rw [show A ++ ((PT.leaf x).ser A.length).map pack ++ B = A ++ pack x :: B by simp [PT.ser], ndAt_mid, nd_pack x h.2]
    cases n with
    | zero => simp only [fullPT, hd]
    | succ n =>
      rw [fullPT, hd, h.1, if_pos rfl]
  | .node f c l r, A, B, n, h, hs, hn => by
    have hok := h
    obtain ⟨h1, h2, h3, h4, h5, h6⟩ := h
    have pl := l.pos
    have pr := r.pos
    have hz : (PT.node f c l r).size = 1 + l.size + r.size := rfl
    rw [hz] at hs hn
    obtain ⟨n, rfl⟩ : ∃ m, n = m + 1 := ⟨n - 1, by omega⟩
    have hx := ser_right (.node f c l r) A.length hok (by rw [hz]; omega) ⟨false, 0, f, c, ((A.length + 1 : Nat) : Int), ((A.length + 1 + l.size : Nat) : Int)⟩ (by simp [PT.ser])
    have e1 : A ++ ((PT.node f c l r).ser A.length).map pack ++ B = (A ++ [pack ⟨false, 0, f, c, ((A.length + 1 : Nat) : Int), ((A.length + 1 + l.size : Nat) : Int)⟩]) ++ (l.ser (A.length + 1)).map pack ++ ((r.ser (A.length + 1 + l.size)).map pack ++ B) := by
      simp [PT.ser]
    have e2 : A ++ ((PT.node f c l r).ser A.length).map pack ++ B = (A ++ [pack ⟨false, 0, f, c, ((A.length + 1 : Nat) : Int), ((A.length + 1 + l.size : Nat) : Int)⟩] ++ (l.ser (A.length + 1)).map pack) ++ (r.ser (A.length + 1 + l.size)).map pack ++ B := by
      simp [PT.ser]
    have hd : ndAt (A ++ ((PT.node f c l r).ser A.length).map pack ++ B) A.length = ⟨false, 0, f, c, ((A.length + 1 : Nat) : Int), ((A.length + 1 + l.size : Nat) : Int)⟩ := by
      have e3 : A ++ ((PT.node f c l r).ser A.length).map pack ++ B = A ++ pack ⟨false, 0, f, c, ((A.length + 1 : Nat) : Int), ((A.length + 1 + l.size : Nat) : Int)⟩ :: ((l.ser (A.length + 1)).map pack ++ (r.ser (A.length + 1 + l.size)).map pack ++ B) := by
        simp only [PT.ser, List.map_cons, List.map_append, List.append_assoc, List.cons_append]
      rw [e3, ndAt_mid, nd_pack _ hx]
    have a1 : (A ++ [pack ⟨false, 0, f, c, ((A.length + 1 : Nat) : Int), ((A.length + 1 + l.size : Nat) : Int)⟩]).length = A.length + 1 := by simp
    have a2 : (A ++ [pack ⟨false, 0, f, c, ((A.length + 1 : Nat) : Int), ((A.length + 1 + l.size : Nat) : Int)⟩] ++ (l.ser (A.length + 1)).map pack).length = A.length + 1 + l.size := by simp [ser_len]; omega
    have g1 := full_ser l (A ++ [pack ⟨false, 0, f, c, ((A.length + 1 : Nat) : Int), ((A.length + 1 + l.size : Nat) : Int)⟩]) ((r.ser (A.length + 1 + l.size)).map pack ++ B) n h5 (by rw [a1]; omega) (by omega)
    have g2 := full_ser r (A ++ [pack ⟨false, 0, f, c, ((A.length + 1 : Nat) : Int), ((A.length + 1 + l.size : Nat) : Int)⟩] ++ (l.ser (A.length + 1)).map pack) B n h6 (by rw [a2]; omega) (by omega)
    rw [a1, ← e1] at g1
    rw [a2, ← e2] at g2
    rw [fullPT, hd]
    simp only [Bool.false_eq_true, if_false, Int.toNat_natCast]
    rw [g1, g2]
theorem full_prune {l : List Word} {d : Int} (hr : RT l d) (b : Box) : fullPT (pruneT l b) 31 0 = (fullPT l 31 0).prune b := by
  have hok := prPT_ok hr 31 0 b hr.pos (by have := hr.le; omega)
  have hs := Nat.le_trans (prT_size hr b) hr.le
  have := full_ser (prT' l b) [] [] 31 hok (by simpa using hs) hs
  have e : prPT l 31 0 b = prT' l b := rfl
  rw [pruneT_eq hr b, ← prPT_full, e]
  simpa using this
def SubB (c b : Box) : Prop := ∀ i : Int, 0 ≤ i → i < 5 → (b.get i).lo ≤ (c.get i).lo ∧ (c.get i).hi ≤ (b.get i).hi
theorem set_self (b : Box) {k : Int} (h0 : 0 ≤ k) (h5 : k < 5) : b.set k (b.get k) = b := by
  have hk : k = 0 ∨ k = 1 ∨ k = 2 ∨ k = 3 ∨ k = 4 := by omega
  rcases hk with rfl | rfl | rfl | rfl | rfl <;> rfl
theorem set_none (b : Box) {k : Int} (h0 : 0 ≤ k) (h5 : k < 5) : (b.set k noneS).empty = true := by
  cases h : (b.set k noneS).empty
  · have := empty_get.1 h k h0 h5
    rw [set_get_ite _ _ h0 h5 h0 h5, if_pos rfl] at this
    exact absurd this (by decide)
  · rfl
theorem cut_cases {b : Box} (hb : b.empty = false) {k : Int} (h0 : 0 ≤ k) (h5 : k < 5) (n : Int) :
    ((b.get k).hi ≤ n ∧ (cutB b k n).1 = b ∧ (cutB b k n).2.empty = true) ∨ (n < (b.get k).lo ∧ (cutB b k n).1.empty = true ∧ (cutB b k n).2 = b) ∨
    ((b.get k).lo ≤ n ∧ n < (b.get k).hi ∧ (cutB b k n).1.empty = false ∧ (cutB b k n).2.empty = false ∧ (cutB b k n).1 = b.set k ⟨(b.get k).lo, n⟩ ∧ (cutB b k n).2 = b.set k ⟨n + 1, (b.get k).hi⟩) := by
  have hk := empty_get.1 hb k h0 h5
  have hs : ofS (b.get k).lo (b.get k).hi = b.get k := by unfold ofS; rw [if_neg (by omega)]
  by_cases h1 : (b.get k).hi ≤ n
  · left
    have e : cutB b k n = (b.set k (b.get k), b.set k noneS) := by
      unfold cutB cutS
      rw [if_pos ⟨h0, h5⟩, if_pos h1, hs]
    rw [e]
    exact ⟨h1, set_self b h0 h5, set_none b h0 h5⟩
  · by_cases h2 : n < (b.get k).lo
    · right; left
      have e : cutB b k n = (b.set k noneS, b.set k (b.get k)) := by
        unfold cutB cutS
        rw [if_pos ⟨h0, h5⟩, if_neg h1, if_neg (show ¬ n + 1 > (b.get k).lo by omega), hs]
        have : ofS (b.get k).lo n = noneS := by unfold ofS; rw [if_pos h2]
        rw [this]
      rw [e]
      exact ⟨h2, set_none b h0 h5, set_self b h0 h5⟩
    · right; right
      have o1 : ofS (b.get k).lo n = ⟨(b.get k).lo, n⟩ := by unfold ofS; rw [if_neg h2]
      have o2 : ofS (n + 1) (b.get k).hi = ⟨n + 1, (b.get k).hi⟩ := by unfold ofS; rw [if_neg (by omega)]
      have e : cutB b k n = (b.set k ⟨(b.get k).lo, n⟩, b.set k ⟨n + 1, (b.get k).hi⟩) := by
        unfold cutB cutS
        rw [if_pos ⟨h0, h5⟩, if_neg h1, if_pos (show n + 1 > (b.get k).lo by omega), o1, o2]
      have hc : ∀ lo hi : Int, lo ≤ hi → (b.set k ⟨lo, hi⟩).empty = false := fun lo hi hl => empty_get.2 fun i i0 i5 => by
        rw [set_get_ite b _ h0 h5 i0 i5]
        split
        · exact hl
        · exact empty_get.1 hb i i0 i5
      rw [e]
      exact ⟨by omega, by omega, hc _ _ (by omega), hc _ _ (by omega), rfl, rfl⟩
theorem full_ok {old : List Word} {d : Int} (hr : RT old d) : ∀ (n i : Nat), i < old.length → old.length ≤ i + n → (fullPT old n i).ok d
  | 0, i, hi, hn => by omega
  | n + 1, i, hi, hn => by
    unfold fullPT
    cases hl : (ndAt old i).leaf
    · rw [if_neg Bool.false_ne_true]
      obtain ⟨x, y, ha, hb, g1, g2, g3, g4, g5⟩ := child_nat hr hi hl
      have hat := hr.at hi hl
      have hf := hr.feature hi hl
      have hc := hr.cutOk hi
      rw [ha, hb, Int.toNat_natCast, Int.toNat_natCast]
      exact ⟨hf.1, hat.1, hf.2, hc, full_ok hr n x (by omega) (by omega), full_ok hr n y (by omega) (by omega)⟩
    · rw [if_pos rfl]
      exact ⟨hl, hr.node hi⟩
theorem rm_prune {m : Model} (hm : RM m) (b : Box) : RM (pruneM m b) where
  dim := hm.dim
  classes := hm.classes
  bias := hm.bias
  none1 := hm.none1
  none2 := hm.none2
  trees := by
    show (m.trees.map (prF b)).length ≤ 8
    rw [List.length_map]
    exact hm.trees
  tree t ht := by
    obtain ⟨x, hx, rfl⟩ := List.mem_map.1 ht
    have := hm.tree x hx
    exact ⟨this.1, this.2.1, pruneT_right this.2.2 b⟩
end Go.Co
/- CO: a pruned tree has the same pieces, and comes to the same. -/
namespace Go.Co
open Go.Am Go.Proofs
def PT.pcs : PT → Box → List Piece
  | .leaf n, b => if b.empty then [] else [⟨b, n.value⟩]
  | .node f c l r, b => l.pcs (cutB b f c).1 ++ r.pcs (cutB b f c).2
def PT.lvs : PT → Nat
  | .leaf _ => 1
  | .node _ _ l r => l.lvs + r.lvs
theorem cut_empty {b : Box} (h : b.empty = true) {f : Int} (h0 : 0 ≤ f) (h4 : f < 4) (c : Int) : (cutB b f c).1.empty = true ∧ (cutB b f c).2.empty = true :=
  ⟨empty_true.2 fun p t hp => empty_true.1 h p t ((cutB_1 b ⟨h0, h4⟩ c p t).1 hp).1, empty_true.2 fun p t hp => empty_true.1 h p t ((cutB_2 b ⟨h0, h4⟩ c p t).1 hp).1⟩
theorem pcs_empty {dim : Int} : ∀ (p : PT), p.ok dim → ∀ (b : Box), b.empty = true → p.pcs b = []
  | .leaf n, _, b, h => by simp [PT.pcs, h]
  | .node f c l r, h, b, he => by
    obtain ⟨h1, _, h3, _, h5, h6⟩ := h
    have := cut_empty he h1 h3 c
    rw [PT.pcs, pcs_empty l h5 _ this.1, pcs_empty r h6 _ this.2]
    rfl
theorem pcs_prune {dim : Int} : ∀ (p : PT), p.ok dim → ∀ (b : Box), b.empty = false → (p.prune b).pcs b = p.pcs b ∧ (p.prune b).lvs = (p.pcs b).length
  | .leaf n, _, b, h => by simp [PT.prune, PT.pcs, PT.lvs, h]
  | .node f n l r, h, b, hb => by
    obtain ⟨h1, _, h3, _, h5, h6⟩ := h
    have f5 : f < 5 := by omega
    rcases cut_cases hb h1 f5 n with ⟨a1, a2, a3⟩ | ⟨a1, a2, a3⟩ | ⟨a0, a1, a2, a3, a4, a5⟩
    · have e1 : (PT.node f n l r).prune b = l.prune b := by rw [PT.prune, a2, hb, a3]; rfl
      have ih := pcs_prune l h5 b hb
      have e2 : (PT.node f n l r).pcs b = l.pcs b := by rw [PT.pcs, a2, pcs_empty r h6 _ a3, List.append_nil]
      rw [e1, e2]
      exact ih
    · have e1 : (PT.node f n l r).prune b = r.prune b := by rw [PT.prune, a2, a3]; rfl
      have ih := pcs_prune r h6 b hb
      have e2 : (PT.node f n l r).pcs b = r.pcs b := by rw [PT.pcs, a3, pcs_empty l h5 _ a2, List.nil_append]
      rw [e1, e2]
      exact ih
    · have e1 : (PT.node f n l r).prune b = .node f n (l.prune (cutB b f n).1) (r.prune (cutB b f n).2) := by rw [PT.prune, a2, a3]; rfl
      have i1 := pcs_prune l h5 _ a2
      have i2 := pcs_prune r h6 _ a3
      rw [e1, PT.pcs, PT.pcs, PT.lvs, i1.1, i2.1, i1.2, i2.2, List.length_append]
      exact ⟨rfl, rfl⟩
theorem sum_ge {f : Nat → Nat} {p : Nat} : ∀ {l : List Nat}, p ∈ l → f p ≤ (l.map f).sum
  | [], h => by cases h
  | a :: l, h => by
    rw [List.map_cons, List.sum_cons]
    rcases List.mem_cons.1 h with rfl | h
    · omega
    · have := sum_ge (f := f) h
      omega
theorem vis_all {old : List Word} {d : Int} (hr : RT old d) {n : Nat} (hn : old.length ≤ n) : ∀ (m j : Nat), j ≤ m → j < old.length → j ∈ visN old n 0 := by
  intro m
  induction m with
  | zero =>
    intro j h0 hj
    have : j = 0 := by omega
    subst this
    rw [← List.count_pos_iff, vis_count hr 0 n 0 hr.pos (by omega), if_pos rfl]
    omega
  | succ m ih =>
    intro j hm hj
    by_cases e : j ≤ m
    · exact ih j e hj
    · obtain ⟨p0, hp0, hl0, hc0⟩ := hr.parent (show 1 ≤ j by omega) hj
      have hn0 : names (ndAt old p0) j = true := by
        unfold names
        rw [hl0]
        simpa using hc0
      have h1 := ih p0 (by omega) (by omega)
      have h2 := sum_ge (f := nmN old j) h1
      have h3 : nmN old j p0 = 1 := by unfold nmN; rw [hn0]; rfl
      rw [← List.count_pos_iff, vis_count hr j n 0 hr.pos (by omega)]
      omega
theorem vis_perm {old : List Word} {d : Int} (hr : RT old d) {n : Nat} (hn : old.length ≤ n) : (visN old n 0).Perm (List.range old.length) := by
  have hnd : (visN old n 0).Nodup := List.nodup_iff_count.2 fun a => by
    by_cases ha : a < old.length
    · exact vis_once hr hn a a (Nat.le_refl _) ha
    · rw [List.count_eq_zero_of_not_mem (fun h => ha (vis_lt hr n 0 hr.pos a h))]
      omega
  refine (List.perm_ext_iff_of_nodup hnd List.nodup_range).2 fun a => ?_
  rw [List.mem_range]
  exact ⟨vis_lt hr n 0 hr.pos a, vis_all hr hn a a (Nat.le_refl _)⟩
theorem pcs_vis {l : List Word} {d : Int} (hr : RT l d) (b : Box) : ∀ (n i : Nat), i < l.length → l.length ≤ i + n →
    (visN l n i).filterMap (pieceAt l b) = (fullPT l n i).pcs (own l b i) ∧ ((visN l n i).filter fun j => (ndAt l j).leaf).length = (fullPT l n i).lvs
  | 0, i, hi, hn => by omega
  | n + 1, i, hi, hn => by
    unfold visN fullPT
    cases hl : (ndAt l i).leaf
    · rw [if_neg Bool.false_ne_true, if_neg Bool.false_ne_true]
      obtain ⟨x, y, ha, hb, g1, g2, g3, g4, g5⟩ := child_nat hr hi hl
      have hc := own_child hr b hi hl
      rw [ha, hb] at hc
      simp only [Int.toNat_natCast] at hc
      rw [ha, hb, Int.toNat_natCast, Int.toNat_natCast]
      have hp : pieceAt l b i = none := by unfold pieceAt; rw [hl]; rfl
      have i1 := pcs_vis hr b n x (by omega) (by omega)
      have i2 := pcs_vis hr b n y (by omega) (by omega)
      rw [List.filterMap_cons_none hp, List.filterMap_append, i1.1, i2.1, PT.pcs, hc.1, hc.2, List.filter_cons_of_neg (by rw [hl]; simp), List.filter_append, List.length_append, i1.2, i2.2]
      exact ⟨rfl, rfl⟩
    · rw [if_pos rfl, if_pos rfl]
      constructor
      · cases he : (own l b i).empty
        · simp [pieceAt, hl, he, PT.pcs]
        · simp [pieceAt, hl, he, PT.pcs]
      · simp [hl, PT.lvs]
theorem pieces_pcs {l : List Word} {d : Int} (hr : RT l d) (b : Box) : ((fullPT l 31 0).pcs b).Perm (pieces l b) := by
  have := (pcs_vis hr b 31 0 hr.pos (by have := hr.le; omega)).1
  rw [own_root] at this
  rw [← this]
  exact (vis_perm hr hr.le).filterMap _
theorem full_ok0 {l : List Word} {d : Int} (hr : RT l d) : (fullPT l 31 0).ok d := full_ok hr 31 0 hr.pos (by have := hr.le; omega)
theorem pieces_prune {l : List Word} {d : Int} (hr : RT l d) {b : Box} (hb : b.empty = false) : (pieces (pruneT l b) b).Perm (pieces l b) := by
  have h1 := pieces_pcs (pruneT_right hr b) b
  rw [full_prune hr b, (pcs_prune _ (full_ok0 hr) b hb).1] at h1
  exact h1.symm.trans (pieces_pcs hr b)
theorem value_prune {l : List Word} {d : Int} (hr : RT l d) {b : Box} {p : Point} {t : Int} (hp : InB b p t) : valueAt (pruneT l b) p = valueAt l p := by
  obtain ⟨x, hx, h1, h2⟩ := piece_of hr hp
  have hx2 := (pieces_prune hr (empty_false.2 ⟨p, t, hp⟩)).mem_iff.2 hx
  have := piece_in (pruneT_right hr b) hx2 h1
  rw [this.2, h2]
theorem evalM_prune' {m : Model} (hm : RM m) {b : Box} {p : Point} {t : Int} (hp : InB b p t) (c : Int) : evalM (pruneM m b) c p = evalM m c p := by
  have key : ∀ (l : List Tree) (n : Int), (∀ t ∈ l, RT t.nodes m.dim) → (l.map (prF b)).foldl (evalF c p) n = l.foldl (evalF c p) n := by
    intro l
    induction l with
    | nil => intro n _; rfl
    | cons x l ih =>
      intro n h
      rw [List.map_cons, List.foldl_cons, List.foldl_cons, ih _ (fun t ht => h t (by simp [ht]))]
      congr 1
      unfold evalF prF
      simp only [value_prune (h x (by simp)) hp]
  exact key m.trees _ (fun t ht => hm.rt ht)
end Go.Co
/- CO: queries whose region, budget or ends are others. -/
namespace Go.Co
open Go.Am Go.Proofs
def withBudget (q : Query) (n : Int) : Query := { q with budget := n }
theorem okQuery_budget {m : Model} {q : Query} (h : okQuery m q = true) {n : Int} (h0 : 0 ≤ n) (h1 : n ≤ 65536) : okQuery m (withBudget q n) = true := by
  have hs := okQuery_spec h
  unfold okQuery withBudget
  have h5 := hs.2.2.2.2.1
  have h6 : okKind m q = true := hs.2.2.2.2.2
  have h6' : okKind m { q with budget := n } = true := h6
  rw [h6']
  simp only [h5, Bool.and_true, Bool.and_eq_true, decide_eq_true_eq]
  exact ⟨⟨⟨hs.1, hs.2.1⟩, h0⟩, h1⟩
end Go.Co
/- CO: how deep proofs go; a search's proof is one; boxes that numbers cut. -/
namespace Go.Co
open Go.Am Go.Proofs
attribute [-simp] Go.Am.eff_gcall
def wS (s : Span) : Nat := (s.hi - s.lo).toNat
def wide (b : Box) : Nat := wS b.s0 + wS b.s1 + wS b.s2 + wS b.s3 + wS b.s4
theorem wide_set (b : Box) {k : Int} (h0 : 0 ≤ k) (h5 : k < 5) (s : Span) : wide (b.set k s) + wS (b.get k) = wide b + wS s := by
  have hc : k = 0 ∨ k = 1 ∨ k = 2 ∨ k = 3 ∨ k = 4 := by omega
  rcases hc with rfl | rfl | rfl | rfl | rfl <;> simp only [Box.set, Box.get, reduceIte, Int.reduceEq, wide] <;> omega
theorem wide_cut {b : Box} {k n : Int} (h0 : 0 ≤ k) (h5 : k < 5) (h1 : (b.get k).lo ≤ n) (h2 : n < (b.get k).hi) : wide (cutB b k n).1 + 1 ≤ wide b ∧ wide (cutB b k n).2 + 1 ≤ wide b := by
  rw [cutB_halves h0 h5 h1 h2]
  have e1 := wide_set b h0 h5 ⟨(b.get k).lo, n⟩
  have e2 := wide_set b h0 h5 ⟨n + 1, (b.get k).hi⟩
  unfold wS at e1 e2
  simp only at e1 e2 ⊢
  omega
def WI (W : Nat) : List Box → Prop
  | [] => True
  | x :: R => R.length + wide x ≤ W ∧ WI W R
theorem WI.cut {W : Nat} {x : Box} {R : List Box} (h : WI W (x :: R)) {k n : Int} (h0 : 0 ≤ k) (h5 : k < 5) (h1 : (x.get k).lo ≤ n) (h2 : n < (x.get k).hi) : WI W ((cutB x k n).1 :: (cutB x k n).2 :: R) := by
  obtain ⟨g1, g2⟩ := h
  have hw := wide_cut h0 h5 h1 h2
  exact ⟨by rw [List.length_cons]; omega, by omega, g2⟩
theorem wide_start (m : Model) (a : Ask) : wide (startOf (queryOf m a)) ≤ 199 := by
  have k0 := rSpan_le m.dim a.spans 0
  have k1 := rSpan_le m.dim a.spans 1
  have k2 := rSpan_le m.dim a.spans 2
  have k3 := rSpan_le m.dim a.spans 3
  have e0 : (startOf (queryOf m a)).s0 = rSpan m.dim a.spans 0 := rfl
  have e1 : (startOf (queryOf m a)).s1 = rSpan m.dim a.spans 1 := rfl
  have e2 : (startOf (queryOf m a)).s2 = rSpan m.dim a.spans 2 := rfl
  have e3 : (startOf (queryOf m a)).s3 = rSpan m.dim a.spans 3 := rfl
  have e4 : (startOf (queryOf m a)).s4.hi - (startOf (queryOf m a)).s4.lo ≤ 22 := by
    unfold startOf
    simp only
    split
    · rename_i hp
      have hf := paired_feature hp
      rcases hf with hf | hf | hf | hf <;> rw [hf] <;> simp only [Box.get, reduceIte, Int.reduceEq] <;> simp only [queryOf, regionOf] <;> omega
    · simp
  unfold wide wS
  rw [e0, e1, e2, e3]
  omega
theorem checkN_cut {m : Model} {q : Query} {x : Box} {bs : List Box} (hd : bs.length < 200) {k n : Int} (h0 : 0 ≤ k) (h5 : k < 5) (h1 : (x.get k).lo ≤ n) (h2 : n < (x.get k).hi) (l : List Step) :
    checkN m q (x :: bs) (⟨false, k, n⟩ :: l) = checkN m q ((cutB x k n).1 :: (cutB x k n).2 :: bs) l := by
  rw [checkN, if_neg (by omega)]
  simp only [Bool.false_eq_true, if_false]
  rw [if_pos ⟨h0, by omega⟩, if_pos ⟨h1, h2⟩]
theorem checkN_sum {m : Model} {q : Query} {x : Box} {bs : List Box} (hd : bs.length < 200) (hc : closedM m q x = true) (l : List Step) : checkN m q (x :: bs) (sumS :: l) = checkN m q bs l := by
  rw [checkN, if_neg (by omega)]
  unfold sumS
  simp [hc]
theorem search_check {m : Model} {q : Query} : ∀ (n : Nat) (sp : Int) (bs : List Box) (pf : List Step), WI 199 bs → (searchN m q n sp bs pf).kind = 1 →
    ∃ l, (searchN m q n sp bs pf).proof = pf ++ l ∧ l.length ≤ n ∧ checkN m q bs l = true
  | n, sp, [], pf, _, h => by
    rw [searchN_nil]
    exact ⟨[], by simp, by simp, rfl⟩
  | 0, sp, b :: bs, pf, _, h => by cases h
  | n + 1, sp, b :: bs, pf, hw, h => by
    have hd : bs.length < 200 := by have := hw.1; omega
    rw [searchN_cons] at h ⊢
    split
    · rename_i hc
      rw [if_pos hc] at h
      obtain ⟨l, h1, h2, h3⟩ := search_check n _ bs _ hw.2 h
      refine ⟨sumS :: l, by rw [h1, List.append_assoc]; rfl, by simp; omega, ?_⟩
      rw [checkN_sum hd hc]
      exact h3
    · rename_i hc
      rw [if_neg hc] at h
      split
      · rename_i hco; rw [if_pos hco] at h; cases h
      · rename_i hco
        rw [if_neg hco] at h
        split
        · rename_i hs
          rw [if_pos hs] at h
          obtain ⟨s0, s5, s1, s2⟩ := splitM_in hs
          obtain ⟨l, h1, h2, h3⟩ := search_check n _ _ _ (hw.cut s0 s5 s1 s2) h
          refine ⟨⟨false, (splitM m q b).a, (splitM m q b).b⟩ :: l, by rw [h1, List.append_assoc]; rfl, by simp; omega, ?_⟩
          rw [checkN_cut hd s0 s5 s1 s2]
          exact h3
        · rename_i hs
          rw [if_neg hs] at h
          cases h
theorem holds_checked {m : Model} {q : Query} (h : okQuery m q = true) (hw : wide (startOf q) ≤ 199) (hk : (searchM m q).kind = 1) : checkN m q [startOf q] (searchM m q).proof = true ∧ ((searchM m q).proof.length : Int) ≤ q.budget := by
  rw [searchM_eq h] at hk ⊢
  have hb := okQuery_spec h
  obtain ⟨l, h1, h2, h3⟩ := search_check _ _ _ _ (show WI 199 [startOf q] from ⟨by simp; omega, trivial⟩) hk
  rw [h1, List.nil_append]
  exact ⟨h3, by omega⟩
theorem check_proven {m : Model} (hm : RM m) {q : Query} (h : okQuery m q = true) {l : List Step} (h1 : checkN m q [startOf q] l = true) (h2 : l.length ≤ 65536) (p : Point) (t s : Int) : provesM m q ⟨1, l, p, t, s⟩ = true := by
  unfold provesM
  simp only [if_true]
  rw [holds_check hm]
  unfold checkM
  rw [h, h1]
  simp [h2]
theorem proven_sound {m : Model} (hm : RM m) {q : Query} {v : Verdict} (hk : v.kind = 1) (h : provesM m q v = true) : okQuery m q = true ∧ ∀ p t, InB (startOf q) p t → breaks m q p t = false := by
  unfold provesM at h
  rw [if_pos hk, holds_check hm] at h
  unfold checkM at h
  simp only [Bool.and_eq_true] at h
  exact ⟨h.1.1, fun p t hp => check_sound hm _ _ h.2 _ (by simp) p t hp⟩
def cutK' (c : Cutting) (n : Nat) : Int := within (pick c.place n) 0 5
def stopS (c : Cutting) (x : Box) (cuts n : Nat) : Prop := cutK' c n = 5 ∨ 20 ≤ cuts ∨ c.place.length = 0 ∨ (x.get (cutK' c n)).hi ≤ (x.get (cutK' c n)).lo
instance (c : Cutting) (x : Box) (cuts n : Nat) : Decidable (stopS c x cuts n) := by unfold stopS; exact inferInstance
end Go.Co
/- CO: a query is asked of a pruned model as of the whole one. -/
namespace Go.Co
open Go.Am Go.Proofs
theorem bound_same {l l' : List Word} {d : Int} (h : RT l d) (h' : RT l' d) {b : Box} (hb : b.empty = false) (hv : ∀ p t, InB b p t → valueAt l' p = valueAt l p) : (boundT l' b).a = (boundT l b).a ∧ (boundT l' b).b = (boundT l b).b := by
  obtain ⟨_, h2, ⟨p, t, hp, h3⟩, ⟨q, u, hq, h4⟩⟩ := boundT_spec h hb
  obtain ⟨_, k2, ⟨p', t', hp', k3⟩, ⟨q', u', hq', k4⟩⟩ := boundT_spec h' hb
  have a1 := (k2 p t hp).1
  have a2 := (h2 p' t' hp').1
  have a3 := (k2 q u hq).2
  have a4 := (h2 q' u' hq').2
  rw [hv p t hp] at a1
  rw [← hv p' t' hp'] at a2
  rw [hv q u hq] at a3
  rw [← hv q' u' hq'] at a4
  omega
def In4 (r b : Box) : Prop := ∀ p t, InB b p t → ∃ u, InB r p u
theorem boundP_prune {m : Model} (hm : RM m) {r b : Box} (hb : b.empty = false) (hs : In4 r b) (c : Int) : boundP (pruneM m r) c b = boundP m c b := by
  have key : ∀ (l : List Tree) (n : Int × Int), (∀ t ∈ l, RT t.nodes m.dim) → (l.map (prF r)).foldl (boundF c b) n = l.foldl (boundF c b) n := by
    intro l
    induction l with
    | nil => intro n _; rfl
    | cons x l ih =>
      intro n h
      rw [List.map_cons, List.foldl_cons, List.foldl_cons, ih _ (fun t ht => h t (by simp [ht]))]
      congr 1
      have hx := h x (by simp)
      have hsame := bound_same hx (pruneT_right hx r) hb (fun p t hp => by
        obtain ⟨u, hu⟩ := hs p t hp
        exact value_prune hx hu)
      unfold boundF prF
      simp only [hsame.1, hsame.2]
  exact key m.trees _ (fun t ht => hm.rt ht)
theorem boundM_prune {m : Model} (hm : RM m) {r b : Box} (hs : In4 r b) (c : Int) : boundM (pruneM m r) c b = boundM m c b := by
  unfold boundM
  cases hb : b.empty
  · rw [boundP_prune hm hb hs]
    rfl
  · rw [if_pos (by simp), if_pos (by simp)]
theorem okQuery_prune (m : Model) (r : Box) (q : Query) : okQuery (pruneM m r) q = okQuery m q := rfl
theorem closed_prune {m : Model} (hm : RM m) {r : Box} {q : Query} {b : Box} (h1 : In4 r b) (h2 : In4 r (firstB q b)) (h3 : In4 r (secondB q b)) : closedM (pruneM m r) q b = closedM m q b := by
  unfold closedM
  rw [okQuery_prune]
  cases hb : b.empty
  · have e1 := boundM_prune hm h1 q.cls
    have e2 : margin (pruneM m r) q.cls b = margin m q.cls b := by
      unfold margin marD
      rw [boundP_prune hm hb h1, boundP_prune hm hb h1, boundP_prune hm hb h1]
      rfl
    have e3 : changeM (pruneM m r) q b = changeM m q b := by
      unfold changeM
      rw [boundM_prune hm h2, boundM_prune hm h3]
    rw [e1, e2, e3]
  · rfl
theorem evalM_in {m : Model} (hm : RM m) {r : Box} {p : Point} (h : ∃ u, InB r p u) (c : Int) : evalM (pruneM m r) c p = evalM m c p := by
  obtain ⟨u, hu⟩ := h
  exact evalM_prune' hm hu c
theorem region_in {q : Query} {m : Model} (h : okQuery m q = true) {p : Point} (hp : ∀ j : Int, 0 ≤ j → j < 4 → InS (q.region.get j) (p.get j)) : ∃ u, InB q.region p u := by
  have hs := (okQuery_spec h).2.2.2.2.1
  unfold okRegion okSpan at hs
  simp only [Bool.and_eq_true, Bool.not_eq_true'] at hs
  have he := hs.2.1.1.2
  refine ⟨q.region.s4.lo, inB_get.2 fun j j0 j4 => ⟨hp j j0 j4, ?_⟩⟩
  unfold Span.empty at he
  rw [decide_eq_false_iff_not] at he
  unfold InS
  omega
theorem start_get4 (q : Query) {j : Int} (j0 : 0 ≤ j) (j4 : j < 4) : (startOf q).get j = q.region.get j := by
  have hj : j = 0 ∨ j = 1 ∨ j = 2 ∨ j = 3 := by omega
  rcases hj with rfl | rfl | rfl | rfl <;> rfl
theorem start_get_twin {q : Query} (hp : paired q = true) : (startOf q).get 4 = q.region.get q.feature := by
  unfold startOf
  simp only [hp, if_true]
  rfl
theorem sub_in {q : Query} {m : Model} (h : okQuery m q = true) {b : Box} (hs : SubB b (startOf q)) : In4 q.region b ∧ In4 q.region (firstB q b) ∧ In4 q.region (secondB q b) := by
  have key : ∀ (j : Int), 0 ≤ j → j < 4 → ∀ n, InS (b.get j) n → InS (q.region.get j) n := fun j j0 j4 n hn => by
    have := hs j j0 (by omega)
    rw [start_get4 q j0 j4] at this
    unfold InS at *
    omega
  refine ⟨fun p t hp => region_in h fun j j0 j4 => key j j0 j4 _ (inB_get.1 hp j j0 j4).1, fun p t hp => region_in h fun j j0 j4 => ?_, fun p t hp => region_in h fun j j0 j4 => ?_⟩
  · have := (inB_get.1 hp j j0 j4).1
    refine key j j0 j4 _ ?_
    unfold firstB at this
    split at this
    · have hj : j = 0 ∨ j = 1 ∨ j = 2 ∨ j = 3 := by omega
      rcases hj with rfl | rfl | rfl | rfl <;> exact this
    · exact this
  · have := (inB_get.1 hp j j0 j4).1
    unfold secondB at this
    split at this
    · rename_i hpd
      have hf := paired_feature hpd
      have e : ({ b.set q.feature b.s4 with s4 := (⟨0, 0⟩ : Span) } : Box).get j = (b.set q.feature b.s4).get j := by
        have hj : j = 0 ∨ j = 1 ∨ j = 2 ∨ j = 3 := by omega
        rcases hj with rfl | rfl | rfl | rfl <;> rfl
      rw [e, set_get_ite b _ (by omega) (by omega) j0 (by omega)] at this
      split at this
      · rename_i hjf
        subst hjf
        have h4 := hs 4 (by omega) (by omega)
        rw [start_get_twin hpd] at h4
        have e4 : b.get 4 = b.s4 := rfl
        rw [e4] at h4
        unfold InS at *
        omega
      · exact key j j0 j4 _ this
    · exact key j j0 j4 _ this
theorem breaks_prune {m : Model} (hm : RM m) {q : Query} (h : okQuery m q = true) {p : Point} {t : Int} (hp : InB (startOf q) p t) : breaks (pruneM m q.region) q p t = breaks m q p t := by
  have h1 : ∃ u, InB q.region p u := region_in h fun j j0 j4 => by
    have := (inB_get.1 hp j j0 j4).1
    rwa [start_get4 q j0 j4] at this
  have h2 : ∃ u, InB q.region (secondOf q p t) u := by
    refine region_in h fun j j0 j4 => ?_
    have := inB_get.1 hp j j0 j4
    rw [start_get4 q j0 j4] at this
    unfold secondOf
    split
    · rename_i hpd
      have hf := paired_feature hpd
      rw [point_set_get p t (by omega) (by omega) j0 j4]
      split
      · rename_i hjf
        subst hjf
        have e := start_get_twin hpd
        have e4 : (startOf q).get 4 = (startOf q).s4 := rfl
        rw [← e, e4]
        exact this.2
      · exact this.1
    · exact this.1
  have e1 := fun c => evalM_in hm h1 c
  have e2 := fun c => evalM_in hm h2 c
  unfold breaks
  rw [okQuery_prune]
  have e3 : beaten (pruneM m q.region) q p = beaten m q p := by
    unfold beaten
    simp only [e1]
    rfl
  rw [e1, e2, e3]
theorem subB_cut {b s : Box} (hs : SubB b s) {k n : Int} (h0 : 0 ≤ k) (h5 : k < 5) (h1 : (b.get k).lo ≤ n) (h2 : n < (b.get k).hi) : SubB (cutB b k n).1 s ∧ SubB (cutB b k n).2 s := by
  have o1 : ofS (b.get k).lo n = ⟨(b.get k).lo, n⟩ := by unfold ofS; rw [if_neg (by omega)]
  have o2 : ofS (n + 1) (b.get k).hi = ⟨n + 1, (b.get k).hi⟩ := by unfold ofS; rw [if_neg (by omega)]
  have e : cutB b k n = (b.set k ⟨(b.get k).lo, n⟩, b.set k ⟨n + 1, (b.get k).hi⟩) := by
    unfold cutB cutS
    rw [if_pos ⟨h0, h5⟩, if_neg (by omega), if_pos (by omega), o1, o2]
  rw [e]
  constructor
  · intro i i0 i5
    have := hs i i0 i5
    rw [set_get_ite b _ h0 h5 i0 i5]
    split
    · subst i; exact ⟨this.1, by show n ≤ _; omega⟩
    · exact this
  · intro i i0 i5
    have := hs i i0 i5
    rw [set_get_ite b _ h0 h5 i0 i5]
    split
    · subst i; exact ⟨by show _ ≤ n + 1; omega, this.2⟩
    · exact this
theorem checkN_prune {m : Model} (hm : RM m) {q : Query} (h : okQuery m q = true) : ∀ (l : List Step) (bs : List Box), (∀ b ∈ bs, SubB b (startOf q)) → checkN (pruneM m q.region) q bs l = checkN m q bs l
  | [], [], _ => rfl
  | [], _ :: _, _ => rfl
  | _ :: _, [], _ => rfl
  | s :: l, b :: bs, hs => by
    have hb := sub_in h (hs b (by simp))
    have hc := closed_prune hm hb.1 hb.2.1 hb.2.2
    have ih1 := checkN_prune hm h l bs (fun x hx => hs x (by simp [hx]))
    simp only [checkN, hc, ih1]
    split
    · rfl
    · split
      · rfl
      · split
        · rename_i hpl
          split
          · rename_i hcut
            have h2 := subB_cut (hs b (by simp)) (by omega) (by omega) hcut.1 hcut.2
            exact checkN_prune hm h l _ (fun x hx => by
              simp only [List.mem_cons] at hx
              rcases hx with rfl | rfl | hx
              · exact h2.1
              · exact h2.2
              · exact hs x (by simp [hx]))
          · rfl
        · rfl
theorem subB_refl (b : Box) : SubB b b := fun i _ _ => ⟨Int.le_refl _, Int.le_refl _⟩
theorem proves_prune {m : Model} (hm : RM m) {q : Query} (h : okQuery m q = true) (v : Verdict) : provesM (pruneM m q.region) q v = provesM m q v := by
  have hr := rm_prune hm q.region
  have hh : holdsV (pruneM m q.region) q v.proof = holdsV m q v.proof := by
    have h1 := holds_check hr (q := q) v.proof
    have h2 := holds_check hm (q := q) v.proof
    unfold checkM at h1 h2
    rw [okQuery_prune, h] at h1
    rw [h] at h2
    simp only [Bool.true_and] at h1 h2
    rw [h1, h2, checkN_prune hm h v.proof [startOf q] (fun b hb => by simp at hb; subst hb; exact subB_refl _)]
  unfold provesM
  rw [okQuery_prune, hh]
  by_cases hw : hasB (startOf q) v.witness v.twin = true
  · rw [breaks_prune hm h (hasB_iff.1 hw)]
  · have : hasB (startOf q) v.witness v.twin = false := by simpa using hw
    rw [this]
    rfl
theorem search_proven {m : Model} (hm : RM m) {q : Query} (h : okQuery m q = true) (hw : wide (startOf q) ≤ 199) (hk : (searchM m q).kind = 1 ∨ (searchM m q).kind = 2) : provesM m q (searchM m q) = true := by
  rcases hk with hk | hk
  · have h1 := holds_checked h hw hk
    have h2 := check_proven hm h h1.1 (by have := h1.2; have := (okQuery_spec h).2.2.2.1; omega) (searchM m q).witness (searchM m q).twin (searchM m q).spent
    unfold provesM at h2 ⊢
    rw [hk]
    exact h2
  · exact (fails_proven h hk).1
theorem searchN_kind (m : Model) (q : Query) : ∀ (n : Nat) (sp : Int) (bs : List Box) (pf : List Step), (searchN m q n sp bs pf).kind = 1 ∨ (searchN m q n sp bs pf).kind = 2 ∨ (searchN m q n sp bs pf).kind = 3
  | n, sp, [], pf => by rw [searchN_nil]; simp
  | 0, sp, _ :: _, pf => by unfold searchN; simp
  | n + 1, sp, b :: bs, pf => by
    rw [searchN_cons]
    split
    · exact searchN_kind m q n _ _ _
    · split
      · simp
      · split
        · exact searchN_kind m q n _ _ _
        · simp
theorem search_kind {m : Model} {q : Query} (h : okQuery m q = true) (h3 : (searchM m q).kind ≠ 3) : (searchM m q).kind = 1 ∨ (searchM m q).kind = 2 := by
  rw [searchM_eq h] at h3 ⊢
  rcases searchN_kind m q q.budget.toNat 0 [startOf q] [] with e | e | e
  · exact .inl e
  · exact .inr e
  · exact absurd e h3
theorem search_sound {m : Model} (hm : RM m) {q : Query} (h : okQuery m q = true) (hw : wide (startOf q) ≤ 199) (hk : (searchM m q).kind = 1) : ∀ p t, InB (startOf q) p t → breaks m q p t = false :=
  (proven_sound hm hk (search_proven hm h hw (.inl hk))).2
theorem search_prune {m : Model} (hm : RM m) {q : Query} (h : okQuery m q = true) (hw : wide (startOf q) ≤ 199) (h1 : (searchM m q).kind ≠ 3) (h2 : (searchM (pruneM m q.region) q).kind ≠ 3) :
    (searchM m q).kind = (searchM (pruneM m q.region) q).kind ∧ provesM m q (searchM (pruneM m q.region) q) = true ∧ provesM (pruneM m q.region) q (searchM m q) = true := by
  have hr := rm_prune hm q.region
  have hq : okQuery (pruneM m q.region) q = true := h
  have k1 := search_kind h h1
  have k2 := search_kind hq h2
  have p1 := search_proven hm h hw k1
  have p2 := search_proven hr hq hw k2
  refine ⟨?_, by rw [← proves_prune hm h]; exact p2, by rw [proves_prune hm h]; exact p1⟩
  rcases k1 with k1 | k1 <;> rcases k2 with k2 | k2
  · rw [k1, k2]
  · exfalso
    obtain ⟨_, f1, f2⟩ := fails_proven hq k2
    rw [breaks_prune hm h f1, search_sound hm h hw k1 _ _ f1] at f2
    cases f2
  · exfalso
    obtain ⟨_, f1, f2⟩ := fails_proven h k1
    rw [← breaks_prune hm h f1, search_sound hr hq hw k2 _ _ f1] at f2
    cases f2
  · rw [k1, k2]
end Go.Co
