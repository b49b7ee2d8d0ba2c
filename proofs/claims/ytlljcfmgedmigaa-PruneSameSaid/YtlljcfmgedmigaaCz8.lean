/- CO: texts of this claim, one behind the other. -/
import Derived.Test.YtlljcfmgedmigaaCz7
import Derived.Test.YtlljcfmgedmigaaCz6
import Derived.Test.YtlljcfmgedmigaaCz1
import Derived.Test.YtlljcfmgedmigaaAm4
/- CO: pruning again, within a smaller box. -/
namespace Go.Co
open Go.Am Go.Proofs
set_option linter.unusedSimpArgs false
set_option linter.unusedVariables false
def PT.prune : PT → Box → PT
  | .leaf n, _ => .leaf n
  | .node f c l r, b => if (cutB b f c).1.empty then r.prune (cutB b f c).2 else if (cutB b f c).2.empty then l.prune (cutB b f c).1 else .node f c (l.prune (cutB b f c).1) (r.prune (cutB b f c).2)
def fullPT (old : List Word) : Nat → Nat → PT
  | 0, i => .leaf (ndAt old i)
  | n + 1, i => if (ndAt old i).leaf then .leaf (ndAt old i) else .node (ndAt old i).feature (ndAt old i).cut (fullPT old n (ndAt old i).left.toNat) (fullPT old n (ndAt old i).right.toNat)
theorem prPT_full (old : List Word) : ∀ (n i : Nat) (b : Box), prPT old n i b = (fullPT old n i).prune b
  | 0, i, b => rfl
  | n + 1, i, b => by
    unfold prPT fullPT
    split
    · rfl
    · simp only [PT.prune, prPT_full old n]
theorem ndAt_mid (A : List Word) (w : Word) (C : List Word) : ndAt (A ++ w :: C) A.length = nd w := by
  rw [ndAt_lt (by simp)]
  rw [List.getElem_append_right (Nat.le_refl _)]
  simp
theorem full_ser {dim : Int} : ∀ (p : PT) (A B : List Word) (n : Nat), p.ok dim → A.length + p.size ≤ 31 → p.size ≤ n → fullPT (A ++ (p.ser A.length).map pack ++ B) n A.length = p
  | .leaf x, A, B, n, h, hs, hn => by
    have hd : ndAt (A ++ ((PT.leaf x).ser A.length).map pack ++ B) A.length = x := by
      rw [show A ++ ((PT.leaf x).ser A.length).map pack ++ B = A ++ pack x :: B by simp [PT.ser], ndAt_mid, nd_pack x h.2]
    cases n with
    | zero => simp only [fullPT, hd]
    | succ n =>
      rw [fullPT, hd, h.1, if_pos rfl]
  | .node f c l r, A, B, n, h, hs, hn => by
    have hok := h
    obtain ⟨h1, h2, h3, h4, h5, h6⟩ := h
    have pl := l.pos
    have pr := r.pos
    have hz : (PT.node f c l r).size = 1 + l.size + r.size := rfl
    rw [hz] at hs hn
    obtain ⟨n, rfl⟩ : ∃ m, n = m + 1 := ⟨n - 1, by omega⟩
    have hx := ser_right (.node f c l r) A.length hok (by rw [hz]; omega) ⟨false, 0, f, c, ((A.length + 1 : Nat) : Int), ((A.length + 1 + l.size : Nat) : Int)⟩ (by simp [PT.ser])
    have e1 : A ++ ((PT.node f c l r).ser A.length).map pack ++ B = (A ++ [pack ⟨false, 0, f, c, ((A.length + 1 : Nat) : Int), ((A.length + 1 + l.size : Nat) : Int)⟩]) ++ (l.ser (A.length + 1)).map pack ++ ((r.ser (A.length + 1 + l.size)).map pack ++ B) := by
      simp [PT.ser]
    have e2 : A ++ ((PT.node f c l r).ser A.length).map pack ++ B = (A ++ [pack ⟨false, 0, f, c, ((A.length + 1 : Nat) : Int), ((A.length + 1 + l.size : Nat) : Int)⟩] ++ (l.ser (A.length + 1)).map pack) ++ (r.ser (A.length + 1 + l.size)).map pack ++ B := by
      simp [PT.ser]
    have hd : ndAt (A ++ ((PT.node f c l r).ser A.length).map pack ++ B) A.length = ⟨false, 0, f, c, ((A.length + 1 : Nat) : Int), ((A.length + 1 + l.size : Nat) : Int)⟩ := by
      have e3 : A ++ ((PT.node f c l r).ser A.length).map pack ++ B = A ++ pack ⟨false, 0, f, c, ((A.length + 1 : Nat) : Int), ((A.length + 1 + l.size : Nat) : Int)⟩ :: ((l.ser (A.length + 1)).map pack ++ (r.ser (A.length + 1 + l.size)).map pack ++ B) := by
        simp only [PT.ser, List.map_cons, List.map_append, List.append_assoc, List.cons_append]
      rw [e3, ndAt_mid, nd_pack _ hx]
    have a1 : (A ++ [pack ⟨false, 0, f, c, ((A.length + 1 : Nat) : Int), ((A.length + 1 + l.size : Nat) : Int)⟩]).length = A.length + 1 := by simp
    have a2 : (A ++ [pack ⟨false, 0, f, c, ((A.length + 1 : Nat) : Int), ((A.length + 1 + l.size : Nat) : Int)⟩] ++ (l.ser (A.length + 1)).map pack).length = A.length + 1 + l.size := by simp [ser_len]; omega
    have g1 := full_ser l (A ++ [pack ⟨false, 0, f, c, ((A.length + 1 : Nat) : Int), ((A.length + 1 + l.size : Nat) : Int)⟩]) ((r.ser (A.length + 1 + l.size)).map pack ++ B) n h5 (by rw [a1]; omega) (by omega)
    have g2 := full_ser r (A ++ [pack ⟨false, 0, f, c, ((A.length + 1 : Nat) : Int), ((A.length + 1 + l.size : Nat) : Int)⟩] ++ (l.ser (A.length + 1)).map pack) B n h6 (by rw [a2]; omega) (by omega)
    rw [a1, ← e1] at g1
    rw [a2, ← e2] at g2
    rw [fullPT, hd]
    simp only [Bool.false_eq_true, if_false, Int.toNat_natCast]
    rw [g1, g2]
theorem full_prune {l : List Word} {d : Int} (hr : RT l d) (b : Box) : fullPT (pruneT l b) 31 0 = (fullPT l 31 0).prune b := by
  have hok := prPT_ok hr 31 0 b hr.pos (by have := hr.le; omega)
  have hs := Nat.le_trans (prT_size hr b) hr.le
  have := full_ser (prT' l b) [] [] 31 hok (by simpa using hs) hs
  have e : prPT l 31 0 b = prT' l b := rfl
  rw [pruneT_eq hr b, ← prPT_full, e]
  simpa using this
theorem pruneT_full {l : List Word} {d : Int} (hr : RT l d) (b : Box) : pruneT l b = (((fullPT l 31 0).prune b).ser 0).map pack := by
  rw [pruneT_eq hr b, ← prPT_full]
  rfl
def SubB (c b : Box) : Prop := ∀ i : Int, 0 ≤ i → i < 5 → (b.get i).lo ≤ (c.get i).lo ∧ (c.get i).hi ≤ (b.get i).hi
theorem set_self (b : Box) {k : Int} (h0 : 0 ≤ k) (h5 : k < 5) : b.set k (b.get k) = b := by
  have hk : k = 0 ∨ k = 1 ∨ k = 2 ∨ k = 3 ∨ k = 4 := by omega
  rcases hk with rfl | rfl | rfl | rfl | rfl <;> rfl
theorem set_none (b : Box) {k : Int} (h0 : 0 ≤ k) (h5 : k < 5) : (b.set k noneS).empty = true := by
  cases h : (b.set k noneS).empty
  · have := empty_get.1 h k h0 h5
    rw [set_get_ite _ _ h0 h5 h0 h5, if_pos rfl] at this
    exact absurd this (by decide)
  · rfl
theorem cut_cases {b : Box} (hb : b.empty = false) {k : Int} (h0 : 0 ≤ k) (h5 : k < 5) (n : Int) :
    ((b.get k).hi ≤ n ∧ (cutB b k n).1 = b ∧ (cutB b k n).2.empty = true) ∨ (n < (b.get k).lo ∧ (cutB b k n).1.empty = true ∧ (cutB b k n).2 = b) ∨
    ((b.get k).lo ≤ n ∧ n < (b.get k).hi ∧ (cutB b k n).1.empty = false ∧ (cutB b k n).2.empty = false ∧ (cutB b k n).1 = b.set k ⟨(b.get k).lo, n⟩ ∧ (cutB b k n).2 = b.set k ⟨n + 1, (b.get k).hi⟩) := by
  have hk := empty_get.1 hb k h0 h5
  have hs : ofS (b.get k).lo (b.get k).hi = b.get k := by unfold ofS; rw [if_neg (by omega)]
  by_cases h1 : (b.get k).hi ≤ n
  · left
    have e : cutB b k n = (b.set k (b.get k), b.set k noneS) := by
      unfold cutB cutS
      rw [if_pos ⟨h0, h5⟩, if_pos h1, hs]
    rw [e]
    exact ⟨h1, set_self b h0 h5, set_none b h0 h5⟩
  · by_cases h2 : n < (b.get k).lo
    · right; left
      have e : cutB b k n = (b.set k noneS, b.set k (b.get k)) := by
        unfold cutB cutS
        rw [if_pos ⟨h0, h5⟩, if_neg h1, if_neg (show ¬ n + 1 > (b.get k).lo by omega), hs]
        have : ofS (b.get k).lo n = noneS := by unfold ofS; rw [if_pos h2]
        rw [this]
      rw [e]
      exact ⟨h2, set_none b h0 h5, set_self b h0 h5⟩
    · right; right
      have o1 : ofS (b.get k).lo n = ⟨(b.get k).lo, n⟩ := by unfold ofS; rw [if_neg h2]
      have o2 : ofS (n + 1) (b.get k).hi = ⟨n + 1, (b.get k).hi⟩ := by unfold ofS; rw [if_neg (by omega)]
      have e : cutB b k n = (b.set k ⟨(b.get k).lo, n⟩, b.set k ⟨n + 1, (b.get k).hi⟩) := by
        unfold cutB cutS
        rw [if_pos ⟨h0, h5⟩, if_neg h1, if_pos (show n + 1 > (b.get k).lo by omega), o1, o2]
      have hc : ∀ lo hi : Int, lo ≤ hi → (b.set k ⟨lo, hi⟩).empty = false := fun lo hi hl => empty_get.2 fun i i0 i5 => by
        rw [set_get_ite b _ h0 h5 i0 i5]
        split
        · exact hl
        · exact empty_get.1 hb i i0 i5
      rw [e]
      exact ⟨by omega, by omega, hc _ _ (by omega), hc _ _ (by omega), rfl, rfl⟩
theorem prune_sub {dim : Int} : ∀ (p : PT), p.ok dim → ∀ (b c : Box), b.empty = false → c.empty = false → SubB c b → (p.prune b).prune c = p.prune c
  | .leaf n, _, b, c, _, _, _ => rfl
  | .node f n l r, h, b, c, hb, hc, hs => by
    obtain ⟨h1, _, h3, _, h5, h6⟩ := h
    have f5 : f < 5 := by omega
    have hsf := hs f h1 f5
    have hcb := empty_get.1 hc f h1 f5
    have T : ∀ {α : Type} {x y : α}, (if (true : Bool) = true then x else y) = x := fun {_ _ _} => rfl
    rcases cut_cases hb h1 f5 n with ⟨a1, a2, a3⟩ | ⟨a1, a2, a3⟩ | ⟨a0, a1, a2, a3, a4, a5⟩
    · have e1 : (PT.node f n l r).prune b = l.prune b := by rw [PT.prune, a2, hb, a3]; rfl
      rcases cut_cases hc h1 f5 n with ⟨c1, c2, c3⟩ | ⟨c1, c2, c3⟩ | ⟨c0, c1, c2, c3, c4, c5⟩
      · have e2 : (PT.node f n l r).prune c = l.prune c := by rw [PT.prune, c2, hc, c3]; rfl
        rw [e1, e2]
        exact prune_sub l h5 b c hb hc hs
      · omega
      · omega
    · have e1 : (PT.node f n l r).prune b = r.prune b := by rw [PT.prune, a2, a3]; rfl
      rcases cut_cases hc h1 f5 n with ⟨c1, c2, c3⟩ | ⟨c1, c2, c3⟩ | ⟨c0, c1, c2, c3, c4, c5⟩
      · omega
      · have e2 : (PT.node f n l r).prune c = r.prune c := by rw [PT.prune, c2, c3]; rfl
        rw [e1, e2]
        exact prune_sub r h6 b c hb hc hs
      · omega
    · have e1 : (PT.node f n l r).prune b = .node f n (l.prune (cutB b f n).1) (r.prune (cutB b f n).2) := by rw [PT.prune, a2, a3]; rfl
      have g1 : ∀ x, SubB x b → (x.get f).hi ≤ n → SubB x (cutB b f n).1 := fun x hx hn i i0 i5 => by
        rw [a4, set_get_ite b _ h1 f5 i0 i5]
        have := hx i i0 i5
        split
        · subst i; exact ⟨this.1, hn⟩
        · exact this
      have g2 : ∀ x, SubB x b → n < (x.get f).lo → SubB x (cutB b f n).2 := fun x hx hn i i0 i5 => by
        rw [a5, set_get_ite b _ h1 f5 i0 i5]
        have := hx i i0 i5
        split
        · subst i; exact ⟨by show n + 1 ≤ _; omega, this.2⟩
        · exact this
      rw [e1]
      rcases cut_cases hc h1 f5 n with ⟨c1, c2, c3⟩ | ⟨c1, c2, c3⟩ | ⟨c0, c1, c2, c3, c4, c5⟩
      · have e2 : ∀ l r : PT, (PT.node f n l r).prune c = l.prune c := fun l r => by rw [PT.prune, c2, hc, c3]; rfl
        rw [e2, e2]
        exact prune_sub l h5 _ c a2 hc (g1 c hs c1)
      · have e2 : ∀ l r : PT, (PT.node f n l r).prune c = r.prune c := fun l r => by rw [PT.prune, c2, c3]; rfl
        rw [e2, e2]
        exact prune_sub r h6 _ c a3 hc (g2 c hs c1)
      · have e2 : ∀ l r : PT, (PT.node f n l r).prune c = .node f n (l.prune (cutB c f n).1) (r.prune (cutB c f n).2) := fun l r => by rw [PT.prune, c2, c3]; rfl
        have s1 : SubB (cutB c f n).1 b := fun i i0 i5 => by
          rw [c4, set_get_ite c _ h1 f5 i0 i5]
          have := hs i i0 i5
          split
          · subst i; exact ⟨this.1, by show n ≤ _; omega⟩
          · exact this
        have s2 : SubB (cutB c f n).2 b := fun i i0 i5 => by
          rw [c5, set_get_ite c _ h1 f5 i0 i5]
          have := hs i i0 i5
          split
          · subst i; exact ⟨by show _ ≤ n + 1; omega, this.2⟩
          · exact this
        have n1 : ((cutB c f n).1.get f).hi ≤ n := by rw [c4, set_get_ite c _ h1 f5 h1 f5, if_pos rfl]; exact Int.le_refl n
        have n2 : n < ((cutB c f n).2.get f).lo := by rw [c5, set_get_ite c _ h1 f5 h1 f5, if_pos rfl]; show n < n + 1; omega
        rw [e2, e2, prune_sub l h5 _ _ a2 c2 (g1 _ s1 n1), prune_sub r h6 _ _ a3 c3 (g2 _ s2 n2)]
theorem full_ok {old : List Word} {d : Int} (hr : RT old d) : ∀ (n i : Nat), i < old.length → old.length ≤ i + n → (fullPT old n i).ok d
  | 0, i, hi, hn => by omega
  | n + 1, i, hi, hn => by
    unfold fullPT
    cases hl : (ndAt old i).leaf
    · rw [if_neg Bool.false_ne_true]
      obtain ⟨x, y, ha, hb, g1, g2, g3, g4, g5⟩ := child_nat hr hi hl
      have hat := hr.at hi hl
      have hf := hr.feature hi hl
      have hc := hr.cutOk hi
      rw [ha, hb, Int.toNat_natCast, Int.toNat_natCast]
      exact ⟨hf.1, hat.1, hf.2, hc, full_ok hr n x (by omega) (by omega), full_ok hr n y (by omega) (by omega)⟩
    · rw [if_pos rfl]
      exact ⟨hl, hr.node hi⟩
theorem pruneT_twice {l : List Word} {d : Int} (hr : RT l d) {b c : Box} (hb : b.empty = false) (hc : c.empty = false) (hs : SubB c b) : pruneT (pruneT l b) c = pruneT l c := by
  rw [pruneT_full (pruneT_right hr b) c, full_prune hr b, prune_sub _ (full_ok hr 31 0 hr.pos (by have := hr.le; omega)) b c hb hc hs, ← pruneT_full hr c]
theorem pruneT_len {l : List Word} {d : Int} (hr : RT l d) (b : Box) : (pruneT l b).length ≤ l.length := by
  rw [pruneT_eq hr b, List.length_map, ser_len]
  exact prT_size hr b
theorem rm_prune {m : Model} (hm : RM m) (b : Box) : RM (pruneM m b) where
  dim := hm.dim
  classes := hm.classes
  bias := hm.bias
  none1 := hm.none1
  none2 := hm.none2
  trees := by
    show (m.trees.map (prF b)).length ≤ 8
    rw [List.length_map]
    exact hm.trees
  tree t ht := by
    obtain ⟨x, hx, rfl⟩ := List.mem_map.1 ht
    have := hm.tree x hx
    exact ⟨this.1, this.2.1, pruneT_right this.2.2 b⟩
theorem pruneM_twice {m : Model} (hm : RM m) {b c : Box} (hb : b.empty = false) (hc : c.empty = false) (hs : SubB c b) : pruneM (pruneM m b) c = pruneM m c := by
  unfold pruneM
  simp only [List.map_map]
  congr 1
  refine List.map_congr_left fun t ht => ?_
  simp only [Function.comp, prF]
  rw [pruneT_twice (hm.rt ht) hb hc hs]
theorem nodes_prune {d : Int} {b : Box} : ∀ (l : List Tree) (x y : Int), (∀ t ∈ l, RT t.nodes d) → x ≤ y → (l.map (prF b)).foldl lenF x ≤ l.foldl lenF y
  | [], x, y, _, h => h
  | t :: l, x, y, h, hxy => by
    rw [List.map_cons, List.foldl_cons, List.foldl_cons]
    refine nodes_prune l _ _ (fun z hz => h z (by simp [hz])) ?_
    have h1 := pruneT_len (h t (by simp)) b
    unfold lenF prF
    show x + ((pruneT t.nodes b).length : Int) ≤ y + (t.nodes.length : Int)
    omega
theorem size_prune {m : Model} (hm : RM m) (b : Box) : sizeM (pruneM m b) ≤ sizeM m :=
  nodes_prune m.trees 0 0 (fun t ht => hm.rt ht) (Int.le_refl 0)
end Go.Co
/- CO: a pruned tree has the same pieces, and comes to the same. -/
namespace Go.Co
open Go.Am Go.Proofs
set_option linter.unusedSimpArgs false
set_option linter.unusedVariables false
def PT.pcs : PT → Box → List Piece
  | .leaf n, b => if b.empty then [] else [⟨b, n.value⟩]
  | .node f c l r, b => l.pcs (cutB b f c).1 ++ r.pcs (cutB b f c).2
def PT.lvs : PT → Nat
  | .leaf _ => 1
  | .node _ _ l r => l.lvs + r.lvs
theorem cut_empty {b : Box} (h : b.empty = true) {f : Int} (h0 : 0 ≤ f) (h4 : f < 4) (c : Int) : (cutB b f c).1.empty = true ∧ (cutB b f c).2.empty = true :=
  ⟨empty_true.2 fun p t hp => empty_true.1 h p t ((cutB_1 b ⟨h0, h4⟩ c p t).1 hp).1, empty_true.2 fun p t hp => empty_true.1 h p t ((cutB_2 b ⟨h0, h4⟩ c p t).1 hp).1⟩
theorem pcs_empty {dim : Int} : ∀ (p : PT), p.ok dim → ∀ (b : Box), b.empty = true → p.pcs b = []
  | .leaf n, _, b, h => by simp [PT.pcs, h]
  | .node f c l r, h, b, he => by
    obtain ⟨h1, _, h3, _, h5, h6⟩ := h
    have := cut_empty he h1 h3 c
    rw [PT.pcs, pcs_empty l h5 _ this.1, pcs_empty r h6 _ this.2]
    rfl
theorem pcs_prune {dim : Int} : ∀ (p : PT), p.ok dim → ∀ (b : Box), b.empty = false → (p.prune b).pcs b = p.pcs b ∧ (p.prune b).lvs = (p.pcs b).length
  | .leaf n, _, b, h => by simp [PT.prune, PT.pcs, PT.lvs, h]
  | .node f n l r, h, b, hb => by
    obtain ⟨h1, _, h3, _, h5, h6⟩ := h
    have f5 : f < 5 := by omega
    rcases cut_cases hb h1 f5 n with ⟨a1, a2, a3⟩ | ⟨a1, a2, a3⟩ | ⟨a0, a1, a2, a3, a4, a5⟩
    · have e1 : (PT.node f n l r).prune b = l.prune b := by rw [PT.prune, a2, hb, a3]; rfl
      have ih := pcs_prune l h5 b hb
      have e2 : (PT.node f n l r).pcs b = l.pcs b := by rw [PT.pcs, a2, pcs_empty r h6 _ a3, List.append_nil]
      rw [e1, e2]
      exact ih
    · have e1 : (PT.node f n l r).prune b = r.prune b := by rw [PT.prune, a2, a3]; rfl
      have ih := pcs_prune r h6 b hb
      have e2 : (PT.node f n l r).pcs b = r.pcs b := by rw [PT.pcs, a3, pcs_empty l h5 _ a2, List.nil_append]
      rw [e1, e2]
      exact ih
    · have e1 : (PT.node f n l r).prune b = .node f n (l.prune (cutB b f n).1) (r.prune (cutB b f n).2) := by rw [PT.prune, a2, a3]; rfl
      have i1 := pcs_prune l h5 _ a2
      have i2 := pcs_prune r h6 _ a3
      rw [e1, PT.pcs, PT.pcs, PT.lvs, i1.1, i2.1, i1.2, i2.2, List.length_append]
      exact ⟨rfl, rfl⟩
theorem sum_ge {f : Nat → Nat} {p : Nat} : ∀ {l : List Nat}, p ∈ l → f p ≤ (l.map f).sum
  | [], h => by cases h
  | a :: l, h => by
    rw [List.map_cons, List.sum_cons]
    rcases List.mem_cons.1 h with rfl | h
    · omega
    · have := sum_ge (f := f) h
      omega
theorem vis_all {old : List Word} {d : Int} (hr : RT old d) {n : Nat} (hn : old.length ≤ n) : ∀ (m j : Nat), j ≤ m → j < old.length → j ∈ visN old n 0 := by
  intro m
  induction m with
  | zero =>
    intro j h0 hj
    have : j = 0 := by omega
    subst this
    rw [← List.count_pos_iff, vis_count hr 0 n 0 hr.pos (by omega), if_pos rfl]
    omega
  | succ m ih =>
    intro j hm hj
    by_cases e : j ≤ m
    · exact ih j e hj
    · obtain ⟨p0, hp0, hl0, hc0⟩ := hr.parent (show 1 ≤ j by omega) hj
      have hn0 : names (ndAt old p0) j = true := by
        unfold names
        rw [hl0]
        simpa using hc0
      have h1 := ih p0 (by omega) (by omega)
      have h2 := sum_ge (f := nmN old j) h1
      have h3 : nmN old j p0 = 1 := by unfold nmN; rw [hn0]; rfl
      rw [← List.count_pos_iff, vis_count hr j n 0 hr.pos (by omega)]
      omega
theorem vis_perm {old : List Word} {d : Int} (hr : RT old d) {n : Nat} (hn : old.length ≤ n) : (visN old n 0).Perm (List.range old.length) := by
  have hnd : (visN old n 0).Nodup := List.nodup_iff_count.2 fun a => by
    by_cases ha : a < old.length
    · exact vis_once hr hn a a (Nat.le_refl _) ha
    · rw [List.count_eq_zero_of_not_mem (fun h => ha (vis_lt hr n 0 hr.pos a h))]
      omega
  refine (List.perm_ext_iff_of_nodup hnd List.nodup_range).2 fun a => ?_
  rw [List.mem_range]
  exact ⟨vis_lt hr n 0 hr.pos a, vis_all hr hn a a (Nat.le_refl _)⟩
theorem pcs_vis {l : List Word} {d : Int} (hr : RT l d) (b : Box) : ∀ (n i : Nat), i < l.length → l.length ≤ i + n →
    (visN l n i).filterMap (pieceAt l b) = (fullPT l n i).pcs (own l b i) ∧ ((visN l n i).filter fun j => (ndAt l j).leaf).length = (fullPT l n i).lvs
  | 0, i, hi, hn => by omega
  | n + 1, i, hi, hn => by
    unfold visN fullPT
    cases hl : (ndAt l i).leaf
    · rw [if_neg Bool.false_ne_true, if_neg Bool.false_ne_true]
      obtain ⟨x, y, ha, hb, g1, g2, g3, g4, g5⟩ := child_nat hr hi hl
      have hc := own_child hr b hi hl
      rw [ha, hb] at hc
      simp only [Int.toNat_natCast] at hc
      rw [ha, hb, Int.toNat_natCast, Int.toNat_natCast]
      have hp : pieceAt l b i = none := by unfold pieceAt; rw [hl]; rfl
      have i1 := pcs_vis hr b n x (by omega) (by omega)
      have i2 := pcs_vis hr b n y (by omega) (by omega)
      rw [List.filterMap_cons_none hp, List.filterMap_append, i1.1, i2.1, PT.pcs, hc.1, hc.2, List.filter_cons_of_neg (by rw [hl]; simp), List.filter_append, List.length_append, i1.2, i2.2]
      exact ⟨rfl, rfl⟩
    · rw [if_pos rfl, if_pos rfl]
      constructor
      · cases he : (own l b i).empty
        · simp [pieceAt, hl, he, PT.pcs]
        · simp [pieceAt, hl, he, PT.pcs]
      · simp [hl, PT.lvs]
theorem pieces_pcs {l : List Word} {d : Int} (hr : RT l d) (b : Box) : ((fullPT l 31 0).pcs b).Perm (pieces l b) := by
  have := (pcs_vis hr b 31 0 hr.pos (by have := hr.le; omega)).1
  rw [own_root] at this
  rw [← this]
  exact (vis_perm hr hr.le).filterMap _
def leavesTo (l : List Word) (i : Nat) : List Int := ((List.range i).filter fun j => (ndAt l j).leaf).map fun (j : Nat) => (j : Int)
theorem leaves_lvs {l : List Word} {d : Int} (hr : RT l d) : (leavesTo l l.length).length = (fullPT l 31 0).lvs := by
  have := (pcs_vis hr zeroB 31 0 hr.pos (by have := hr.le; omega)).2
  rw [← this]
  unfold leavesTo
  rw [List.length_map]
  exact ((vis_perm hr hr.le).symm.filter _).length_eq
theorem full_ok0 {l : List Word} {d : Int} (hr : RT l d) : (fullPT l 31 0).ok d := full_ok hr 31 0 hr.pos (by have := hr.le; omega)
theorem pieces_prune {l : List Word} {d : Int} (hr : RT l d) {b : Box} (hb : b.empty = false) : (pieces (pruneT l b) b).Perm (pieces l b) := by
  have h1 := pieces_pcs (pruneT_right hr b) b
  rw [full_prune hr b, (pcs_prune _ (full_ok0 hr) b hb).1] at h1
  exact h1.symm.trans (pieces_pcs hr b)
theorem leaves_prune {l : List Word} {d : Int} (hr : RT l d) {b : Box} (hb : b.empty = false) : (leavesTo (pruneT l b) (pruneT l b).length).length = (pieces (pruneT l b) b).length := by
  rw [leaves_lvs (pruneT_right hr b), full_prune hr b, (pcs_prune _ (full_ok0 hr) b hb).2, (pieces_pcs hr b).length_eq, (pieces_prune hr hb).length_eq]
theorem value_prune {l : List Word} {d : Int} (hr : RT l d) {b : Box} {p : Point} {t : Int} (hp : InB b p t) : valueAt (pruneT l b) p = valueAt l p := by
  obtain ⟨x, hx, h1, h2⟩ := piece_of hr hp
  have hx2 := (pieces_prune hr (empty_false.2 ⟨p, t, hp⟩)).mem_iff.2 hx
  have := piece_in (pruneT_right hr b) hx2 h1
  rw [this.2, h2]
end Go.Co
/- CO: the places of a tree's leaves. -/
set_option maxHeartbeats 16000000
set_option maxRecDepth 100000
namespace Go.Co
open Go.Am Go.Proofs
set_option linter.unusedSimpArgs false
set_option linter.unusedVariables false
def c28_0 : ACode := .ops [⟨some 2, .mv (.c (.nils)), none, []⟩] [0]
theorem r28_0 : type_of% (@rr _ _ c28_0.eq_1) := rr rfl
def c28_1 : ACode := .ops [⟨some 8, .mv (.t 0), none, []⟩,⟨some 9, .call 14 [.t 8, .c (.int .i64 4)], none, []⟩,⟨some 10, .un .not (.t 9), none, []⟩] [0, 10]
theorem r28_1 : type_of% (@rr _ _ c28_1.eq_1) := rr rfl
def c28_2 : ACode := .ops [⟨some 2, .mv (.c (.nils)), none, []⟩] [2]
theorem r28_2 : type_of% (@rr _ _ c28_2.eq_1) := rr rfl
def c28_3 : ACode := .seq c28_2 .ret
theorem r28_3 : type_of% (@rr _ _ c28_3.eq_1) := rr rfl
def c28_4 : ACode := .cond (.t 10) c28_3 .skip
theorem r28_4 : type_of% (@rr _ _ c28_4.eq_1) := rr rfl
def c28_5 : ACode := .seq c28_1 c28_4
theorem r28_5 : type_of% (@rr _ _ c28_5.eq_1) := rr rfl
def c28_6 : ACode := .ops [⟨some 3, .nil0 3 1, none, []⟩] [0, 3]
theorem r28_6 : type_of% (@rr _ _ c28_6.eq_1) := rr rfl
def c28_7 : ACode := .ops [⟨some 11, .mv (.t 0), none, []⟩,⟨some 12, .len (.t 11), none, []⟩,⟨some 13, .mv (.c (.int .i64 0)), none, []⟩] [3, 11, 12, 13]
theorem r28_7 : type_of% (@rr _ _ c28_7.eq_1) := rr rfl
def c28_8 : ACode := .ops [⟨some 14, .bin .lss (.t 13) (.t 12), none, []⟩] [3, 11, 12, 13, 14]
theorem r28_8 : type_of% (@rr _ _ c28_8.eq_1) := rr rfl
def c28_9 : ACode := .cond (.t 14) .skip (.exit 0)
theorem r28_9 : type_of% (@rr _ _ c28_9.eq_1) := rr rfl
def c28_10 : ACode := .ops [⟨some 15, .mv (.t 13), none, []⟩,⟨some 16, .ias (.t 11) (.t 13) 1, none, []⟩,⟨some 17, .load 1 false (.t 16), none, []⟩,⟨some 4, .mv (.t 15), none, []⟩,⟨some 5, .mv (.t 17), none, []⟩] [3, 4, 5, 11, 12, 13]
theorem r28_10 : type_of% (@rr _ _ c28_10.eq_1) := rr rfl
def c28_11 : ACode := .ops [⟨some 19, .mv (.t 5), none, []⟩,⟨some 20, .call 15 [.t 19], none, []⟩,⟨some 18, .mv (.t 20), none, []⟩,⟨some 21, .ext (.t 18) 0, none, []⟩,⟨some 22, .ext (.t 18) 1, none, []⟩,⟨some 6, .alloc [.bool false, .int .i64 0, .int .i64 0, .int .i64 0, .int .i64 0, .int .i64 0], none, []⟩,⟨none, .store (.t 6) 6 (.t 21), none, [6]⟩,⟨some 7, .mv (.t 22), none, []⟩] [3, 4, 6, 11, 12, 13]
theorem r28_11 : type_of% (@rr _ _ c28_11.eq_1) := rr rfl
def c28_12 : ACode := .ops [⟨some 23, .fad (.t 6) 0, none, [6]⟩,⟨some 24, .load 1 false (.t 23), none, [6]⟩] [3, 4, 11, 12, 13, 24]
theorem r28_12 : type_of% (@rr _ _ c28_12.eq_1) := rr rfl
def c28_13 : ACode := .ops [⟨some 25, .mv (.t 3), none, []⟩,⟨some 26, .mv (.t 4), none, []⟩,⟨some 27, .mkrow 27 1 1 [.int .i64 0] [(0, 1, .t 26)], none, []⟩,⟨some 28, .app 3 [3] (.t 25) (.t 27) 1, none, [3, 27]⟩,⟨some 3, .mv (.t 28), none, []⟩] [3, 11, 12, 13]
theorem r28_13 : type_of% (@rr _ _ c28_13.eq_1) := rr rfl
def c28_14 : ACode := .cond (.t 24) c28_13 .skip
theorem r28_14 : type_of% (@rr _ _ c28_14.eq_1) := rr rfl
def c28_15 : ACode := .seq c28_12 c28_14
theorem r28_15 : type_of% (@rr _ _ c28_15.eq_1) := rr rfl
def c28_16 : ACode := .seq c28_11 c28_15
theorem r28_16 : type_of% (@rr _ _ c28_16.eq_1) := rr rfl
def c28_17 : ACode := .seq c28_10 c28_16
theorem r28_17 : type_of% (@rr _ _ c28_17.eq_1) := rr rfl
def c28_18 : ACode := .block 1 c28_17
theorem r28_18 : type_of% (@rr _ _ c28_18.eq_1) := rr rfl
def c28_19 : ACode := .ops [⟨some 29, .bin .add (.t 13) (.c (.int .i64 1)), none, []⟩,⟨some 13, .mv (.t 29), none, []⟩] [3, 11, 12, 13]
theorem r28_19 : type_of% (@rr _ _ c28_19.eq_1) := rr rfl
def c28_20 : ACode := .seq c28_18 c28_19
theorem r28_20 : type_of% (@rr _ _ c28_20.eq_1) := rr rfl
def c28_21 : ACode := .seq c28_9 c28_20
theorem r28_21 : type_of% (@rr _ _ c28_21.eq_1) := rr rfl
def c28_22 : ACode := .seq c28_8 c28_21
theorem r28_22 : type_of% (@rr _ _ c28_22.eq_1) := rr rfl
def c28_23 : ACode := .keep [3, 11, 12, 13] [3] c28_22
theorem r28_23 : type_of% (@rr _ _ c28_23.eq_1) := rr rfl
def c28_24 : ACode := .loop c28_23
theorem r28_24 : type_of% (@rr _ _ c28_24.eq_1) := rr rfl
def c28_25 : ACode := .block 0 c28_24
theorem r28_25 : type_of% (@rr _ _ c28_25.eq_1) := rr rfl
def c28_26 : ACode := .seq c28_7 c28_25
theorem r28_26 : type_of% (@rr _ _ c28_26.eq_1) := rr rfl
def c28_27 : ACode := .ops [⟨some 30, .mv (.t 3), none, []⟩,⟨some 2, .mv (.t 30), none, []⟩] [2]
theorem r28_27 : type_of% (@rr _ _ c28_27.eq_1) := rr rfl
def c28_28 : ACode := .seq c28_27 .ret
theorem r28_28 : type_of% (@rr _ _ c28_28.eq_1) := rr rfl
def c28_29 : ACode := .seq c28_26 c28_28
theorem r28_29 : type_of% (@rr _ _ c28_29.eq_1) := rr rfl
def c28_30 : ACode := .seq c28_6 c28_29
theorem r28_30 : type_of% (@rr _ _ c28_30.eq_1) := rr rfl
def c28_31 : ACode := .seq c28_5 c28_30
theorem r28_31 : type_of% (@rr _ _ c28_31.eq_1) := rr rfl
def c28_32 : ACode := .seq c28_0 c28_31
theorem r28_32 : type_of% (@rr _ _ c28_32.eq_1) := rr rfl
def a28 : AFun := ⟨1, 31, c28_32, [.t 2]⟩
attribute [simp] r28_0 r28_1 r28_2 r28_3 r28_4 r28_5 r28_6 r28_7 r28_8 r28_9 r28_10 r28_11 r28_12 r28_13 r28_14 r28_15 r28_16 r28_17 r28_18 r28_19 r28_20 r28_21 r28_22 r28_23 r28_24 r28_25 r28_26 r28_27 r28_28 r28_29 r28_30 r28_31 r28_32
theorem m28 : mFun Try.prog Try.f28 a28 = true := by decide +kernel
theorem leavesTo_succ (l : List Word) (i : Nat) : leavesTo l (i + 1) = leavesTo l i ++ (if (ndAt l i).leaf then [(i : Int)] else []) := by
  unfold leavesTo
  rw [List.range_succ, List.filter_append, List.map_append]
  congr 1
  cases h : (ndAt l i).leaf <;> simp [h]
theorem leavesTo_len (l : List Word) (i : Nat) : (leavesTo l i).length ≤ i := by
  unfold leavesTo
  rw [List.length_map]
  have := List.length_filter_le (fun j => (ndAt l j).leaf) (List.range i)
  simpa using this
noncomputable def LeavesC (l : List Word) : Option (List Int) := Part (∃ d, RT l d) (leavesTo l l.length)
theorem runs_Leaves (l : List Word) (c : List Int) (h : LeavesC l = some c) : Runs (tbl [(14, sp2 TreeRight), (15, sp1 Unpack)]) a28 [Arg.enc l] (Arg.enc c) := by
  obtain ⟨⟨d, hr⟩, rfl⟩ := part_some h
  refine ⟨rfl, fun g => run_def ?_⟩
  unfold a28
  have hT : TreeRight l 4 = some true := part_of hr.four _
  have hp := hr.pos
  have hle := hr.le
  have b3 : l.length ≤ maxN := by unfold maxN; omega
  simp -implicitDefEqProofs [hT, b3]
  refine run_while (c := c28_22) (fun n s => ∃ (i : Nat) (g : Nat → Nat), i + n = l.length ∧ s = ⟨[(3, .own 3 (g 3) 0 (leavesTo l i).length), (11, .lst l.length (encL l)), (12, .int .i64 l.length), (13, .int .i64 i)],
    [(3, ⟨encL (leavesTo l i), false, 1⟩)], g⟩) l.length ⟨0, bump 3 g, by omega, by simp [leavesTo, encL_nil]⟩ ?_
  rintro n s ⟨i, g, hi, rfl⟩
  have w1 : IntKind.i64.wrap ((i : Int) + 1) = (i : Int) + 1 := wrap64 (by omega) (by omega)
  have hs := leavesTo_succ l i
  have hll := leavesTo_len l i
  by_cases h1 : i < l.length
  case pos =>
    have hU := unpack_at hr h1
    cases hl : (ndAt l i).leaf
    case true =>
      rw [hl, if_pos rfl] at hs
      have hl2 : (encL (leavesTo l i)).length = (leavesTo l i).length := by have : (encL (leavesTo l i)).length = (leavesTo l i).length * 1 := encL_length _; omega
      have htk : List.take (leavesTo l i).length (encL (leavesTo l i)) = encL (leavesTo l i) := by rw [← hl2, List.take_length]
      have c2 : (leavesTo l i).length ≤ 1099511627775 := by omega
      simp -implicitDefEqProofs [h1, rd_words, hU, hl, w1, hl2, htk, c2]
      exact ⟨n - 1, by omega, i + 1, by omega, ⟨by rw [hs]; simp, by omega⟩, by rw [hs, encL_append]; rfl⟩
    case false =>
      rw [hl, if_neg Bool.false_ne_true, List.append_nil] at hs
      simp -implicitDefEqProofs [h1, rd_words, hU, hl, w1]
      exact ⟨n - 1, by omega, i + 1, by omega, ⟨by rw [hs], by omega⟩, by rw [hs]⟩
  case neg =>
    have hil : i = l.length := by omega
    subst hil
    have hl2 : (encL (leavesTo l l.length)).length = (leavesTo l l.length).length := by have : (encL (leavesTo l l.length)).length = (leavesTo l l.length).length * 1 := encL_length _; omega
    have htk : List.take (leavesTo l l.length).length (encL (leavesTo l l.length)) = encL (leavesTo l l.length) := by rw [← hl2, List.take_length]
    simp -implicitDefEqProofs [h1, hl2, htk]
theorem c_Leaves : Contract Try.prog 28 (sp1 LeavesC) :=
  contract_of_runs mixed (tbl_cons c_tRight (tbl_cons c_Unpack tbl_nil)) Try.func28 m28 (sp1_runs runs_Leaves)
end Go.Co
/- CO: maps keyed by pieces. -/
namespace Go.Co
open Go.Am
set_option linter.unusedSimpArgs false
set_option linter.unusedVariables false
def nsP (x : Piece) : List Int := [x.box.s0.lo, x.box.s0.hi, x.box.s1.lo, x.box.s1.hi, x.box.s2.lo, x.box.s2.hi, x.box.s3.lo, x.box.s3.hi, x.box.s4.lo, x.box.s4.hi, x.value]
theorem nsP_inj {x y : Piece} (h : nsP x = nsP y) : x = y := by
  obtain ⟨⟨⟨a0, a1⟩, ⟨a2, a3⟩, ⟨a4, a5⟩, ⟨a6, a7⟩, ⟨a8, a9⟩⟩, a⟩ := x
  obtain ⟨⟨⟨b0, b1⟩, ⟨b2, b3⟩, ⟨b4, b5⟩, ⟨b6, b7⟩, ⟨b8, b9⟩⟩, b⟩ := y
  simp only [nsP, List.cons.injEq] at h
  obtain ⟨rfl, rfl, rfl, rfl, rfl, rfl, rfl, rfl, rfl, rfl, rfl, _⟩ := h
  rfl
def aggP (x : Piece) : List AV := [.int .i64 x.box.s0.lo, .int .i64 x.box.s0.hi, .int .i64 x.box.s1.lo, .int .i64 x.box.s1.hi, .int .i64 x.box.s2.lo, .int .i64 x.box.s2.hi, .int .i64 x.box.s3.lo, .int .i64 x.box.s3.hi, .int .i64 x.box.s4.lo, .int .i64 x.box.s4.hi, .int .i64 x.value]
theorem ints_aggP (x : Piece) : Go.Am.ints (aggP x) = some (nsP x) := rfl
def flatP : List (Piece × Int) → List AV
  | [] => []
  | (k, v) :: l => .agg (aggP k) :: .int .i64 v :: flatP l
def getP (x : Piece) : List (Piece × Int) → Int
  | [] => 0
  | (k, v) :: l => if nsP k = nsP x then v else getP x l
def setP (x : Piece) (v : Int) : List (Piece × Int) → List (Piece × Int)
  | [] => [(x, v)]
  | (k, u) :: l => if nsP k = nsP x then (k, v) :: l else (k, u) :: setP x v l
theorem flatP_len : ∀ (l : List (Piece × Int)), (flatP l).length = 2 * l.length
  | [] => rfl
  | (k, v) :: l => by simp only [flatP, List.length_cons, flatP_len l]; omega
theorem isIt_flatP (l : List (Piece × Int)) : isIt (flatP l) = false := by
  cases l with
  | nil => rfl
  | cons p l => obtain ⟨k, v⟩ := p; rfl
theorem aOk_flatP (l : List (Piece × Int)) : aOk 11 (flatP l) = true := by
  cases l with
  | nil => rfl
  | cons p l => obtain ⟨k, v⟩ := p; rfl
theorem getP_setP (x y : Piece) (v : Int) : ∀ l, getP y (setP x v l) = if nsP x = nsP y then v else getP y l
  | [] => by simp [setP, getP]
  | (k, u) :: l => by
    unfold setP
    by_cases h : nsP k = nsP x
    · rw [if_pos h]
      unfold getP
      by_cases hj : nsP k = nsP y
      · rw [if_pos hj, if_pos (h ▸ hj), ]
      · rw [if_neg hj, if_neg (fun e => hj (h.trans e)), if_neg hj]
    · rw [if_neg h]
      unfold getP
      by_cases hj : nsP k = nsP y
      · rw [if_pos hj, if_neg (fun e => h (hj.trans e.symm)), if_pos hj]
      · rw [if_neg hj, if_neg hj, getP_setP x y v l]
theorem mfind_flatP (x : Piece) : ∀ (l : List (Piece × Int)) (i : Nat),
    (∃ j, mfindA (nsP x) (flatP l) i = some (i + j, .int .i64 (getP x l)) ∧ 2 * j + 1 < (flatP l).length ∧ (∀ u, wr (flatP l) (2 * j + 1) [.int .i64 u] = flatP (setP x u l))) ∨
    (mfindA (nsP x) (flatP l) i = none ∧ getP x l = 0 ∧ ∀ u, flatP l ++ [.agg (aggP x), .int .i64 u] = flatP (setP x u l))
  | [], i => .inr ⟨rfl, rfl, fun _ => rfl⟩
  | (k, v) :: l, i => by
    unfold flatP mfindA getP setP
    rw [ints_aggP]
    by_cases h : nsP k = nsP x
    · refine .inl ⟨0, by simp [h], by simp, fun u => ?_⟩
      rw [if_pos h]
      simp [wr, flatP]
    · have h' : ¬ some (nsP k) = some (nsP x) := fun e => h (Option.some.inj e)
      rw [if_neg h', if_neg h]
      rcases mfind_flatP x l (i + 1) with ⟨j, h1, h2, h3⟩ | ⟨h1, h2, h3⟩
      · refine .inl ⟨j + 1, by rw [h1]; congr 2; omega, by simp; omega, fun u => ?_⟩
        rw [if_neg h]
        have e2 : 2 * (j + 1) + 1 = (2 * j + 1) + 1 + 1 := by omega
        unfold wr
        simp only [e2, List.take_succ_cons, List.cons_append, List.length_cons, List.length_nil, Nat.zero_add]
        rw [show 2 * j + 1 + 1 + 1 + 1 = (2 * j + 1 + 1) + 1 + 1 by omega, List.drop_succ_cons, List.drop_succ_cons]
        have := h3 u
        unfold wr at this
        simp only [List.length_cons, List.length_nil, Nat.zero_add] at this
        rw [this]
      · refine .inr ⟨h1, h2, fun u => ?_⟩
        rw [if_neg h]
        simp only [List.cons_append, h3 u]
theorem mget_flatP (x : Piece) (l : List (Piece × Int)) : mgetA (nsP x) (flatP l) (.int .i64 0) = .int .i64 (getP x l) := by
  unfold mgetA
  rcases mfind_flatP x l 0 with ⟨j, h1, _, _⟩ | ⟨h1, h2, _⟩
  · rw [h1]
  · rw [h1, h2]
theorem ent_flatP (x : Piece) (l : List (Piece × Int)) : (∃ j : Nat, mfindA (nsP x) (flatP l) 0 = some (j, .int .i64 (getP x l)) ∧ 2 * j + 1 < (flatP l).length ∧ (∀ u, wr (flatP l) (2 * j + 1) [.int .i64 u] = flatP (setP x u l))) ∨
    (mfindA (nsP x) (flatP l) 0 = none ∧ flatP l ++ [.agg (aggP x), .int .i64 0] = flatP (setP x 0 l) ∧ 2 * l.length + 1 < (flatP (setP x 0 l)).length ∧ ∀ u, wr (flatP (setP x 0 l)) (2 * l.length + 1) [.int .i64 u] = flatP (setP x u l)) := by
  rcases mfind_flatP x l 0 with ⟨j, h1, h2, h3⟩ | ⟨h1, h2, h3⟩
  · exact .inl ⟨j, by simpa using h1, h2, h3⟩
  · refine .inr ⟨h1, h3 0, by rw [← h3 0]; simp [flatP_len], fun u => ?_⟩
    rw [← h3 0, ← h3 u]
    have e : 2 * l.length = (flatP l).length := (flatP_len l).symm
    have e2 : flatP l ++ [AV.agg (aggP x), AV.int .i64 0] = (flatP l ++ [AV.agg (aggP x)]) ++ [AV.int .i64 0] := by simp
    have e3 : 2 * l.length + 1 = (flatP l ++ [AV.agg (aggP x)]).length := by rw [List.length_append, flatP_len]; rfl
    unfold wr
    rw [e2, e3, List.take_left' rfl, List.drop_of_length_le (by simp)]
    simp
theorem setP_keys (x : Piece) (v : Int) : ∀ (l : List (Piece × Int)), (l.map fun p => nsP p.1).Nodup → ((setP x v l).map fun p => nsP p.1).Nodup ∧ ∀ n, n ∈ (setP x v l).map (fun p => nsP p.1) ↔ n = nsP x ∨ n ∈ l.map (fun p => nsP p.1)
  | [], _ => by simp [setP]
  | (k, u) :: l, h => by
    simp only [List.map_cons, List.nodup_cons] at h
    have ih := setP_keys x v l h.2
    unfold setP
    by_cases hk : nsP k = nsP x
    · rw [if_pos hk]
      simp only [List.map_cons, List.nodup_cons, List.mem_cons]
      exact ⟨h, fun n => by rw [hk]; simp⟩
    · rw [if_neg hk]
      simp only [List.map_cons, List.nodup_cons, List.mem_cons]
      refine ⟨⟨fun hm => ?_, ih.1⟩, fun n => ?_⟩
      · rcases (ih.2 _).1 hm with e | e
        · exact hk e
        · exact h.1 e
      · rw [ih.2 n]
        constructor
        · rintro (h | h | h) <;> simp [h]
        · rintro (h | h | h) <;> simp [h]
theorem getP_mem : ∀ (l : List (Piece × Int)), (l.map fun p => nsP p.1).Nodup → ∀ p ∈ l, getP p.1 l = p.2
  | [], _, p, hp => by cases hp
  | (k, u) :: l, h, p, hp => by
    simp only [List.map_cons, List.nodup_cons] at h
    unfold getP
    rcases List.mem_cons.1 hp with rfl | hp
    · rw [if_pos rfl]
    · rw [if_neg (fun e => h.1 (by rw [e]; exact List.mem_map.2 ⟨p, hp, rfl⟩))]
      exact getP_mem l h.2 p hp
def cntP (l : List Piece) (x : Piece) : Nat := l.countP fun y => decide (nsP y = nsP x)
def InvP (M : List (Piece × Int)) (a b : List Piece) : Prop := (M.map fun p => nsP p.1).Nodup ∧ ∀ x, getP x M = (cntP a x : Int) - (cntP b x : Int)
theorem InvP.nil : InvP [] [] [] := ⟨by simp, fun x => by simp [getP, cntP]⟩
theorem InvP.step {M : List (Piece × Int)} {a b : List Piece} (h : InvP M a b) (x y : Piece) : InvP (setP y (getP y (setP x (getP x M + 1) M) - 1) (setP x (getP x M + 1) M)) (a ++ [x]) (b ++ [y]) := by
  have h1 := setP_keys x (getP x M + 1) M h.1
  refine ⟨(setP_keys y _ _ h1.1).1, fun z => ?_⟩
  rw [getP_setP, getP_setP, getP_setP]
  have hz := h.2 z
  have hx := h.2 x
  have hy := h.2 y
  have e : ∀ {u v : Piece}, nsP u = nsP v → u = v := fun h => nsP_inj h
  unfold cntP at *
  rw [List.countP_append, List.countP_append, List.countP_singleton, List.countP_singleton]
  by_cases c1 : nsP y = nsP z
  · have := e c1
    subst this
    by_cases c2 : nsP x = nsP y
    · have := e c2
      subst this
      simp
      omega
    · simp [c2]
      omega
  · by_cases c2 : nsP x = nsP z
    · have := e c2
      subst this
      simp [c1]
      omega
    · simp [c1, c2]
      omega
theorem InvP.zero {M : List (Piece × Int)} {a b : List Piece} (h : InvP M a b) (hp : a.Perm b) : ∀ p ∈ M, p.2 = 0 := by
  intro p hm
  rw [← getP_mem M h.1 p hm, h.2]
  unfold cntP
  rw [hp.countP_eq]
  omega
theorem InvP.small {M : List (Piece × Int)} {a b : List Piece} (h : InvP M a b) (x : Piece) : -(b.length : Int) ≤ getP x M ∧ getP x M ≤ (a.length : Int) := by
  rw [h.2]
  have h1 : cntP a x ≤ a.length := List.countP_le_length
  have h2 : cntP b x ≤ b.length := List.countP_le_length
  omega
theorem flatP_get : ∀ (M : List (Piece × Int)) (i : Nat) (h : i < M.length), (flatP M)[2 * i]? = some (.agg (aggP M[i].1)) ∧ (flatP M)[2 * i + 1]? = some (.int .i64 M[i].2)
  | (k, v) :: M, 0, _ => ⟨rfl, rfl⟩
  | (k, v) :: M, i + 1, h => by
    have := flatP_get M i (by simpa using h)
    simp only [flatP, List.getElem_cons_succ]
    rw [show 2 * (i + 1) = 2 * i + 1 + 1 by omega, show 2 * i + 1 + 1 + 1 = (2 * i + 1) + 1 + 1 by omega]
    simpa using this
end Go.Co
/- CO: what a statement's reading of an argument says, type by type (written by mkCoSh.py). -/
namespace Go.Co
open Go.Am Go.RowKit
set_option linter.unusedVariables false
theorem okR_nil {xs : List AV} (h : okR [] xs) : xs = [] := by
  cases xs with
  | nil => rfl
  | cons x xs => simp [okR] at h
theorem okR_cons {s : Shp} {ss : List Shp} {xs : List AV} (h : okR (s :: ss) xs) : ∃ x ys, xs = x :: ys ∧ okS s x ∧ okR ss ys := by
  cases xs with
  | nil => simp [okR] at h
  | cons x xs => simp only [okR] at h; exact ⟨x, xs, rfl, h.1, h.2⟩
theorem okS_int {x : AV} (h : okS (.int .i64) x) : ∃ n, x = .int .i64 n ∧ ok64 n := by
  cases x <;> simp only [okS] at h
  obtain ⟨rfl, h1, h2⟩ := h
  exact ⟨_, rfl, h1, h2⟩
theorem okS_word {x : AV} (h : okS (.int .u64) x) : ∃ n, x = .int .u64 n ∧ okW n := by
  cases x <;> simp only [okS] at h
  obtain ⟨rfl, h1, h2⟩ := h
  exact ⟨_, rfl, h1, Int.lt_of_le_of_lt h2 (by decide)⟩
theorem okS_bool {x : AV} (h : okS .bool x) : ∃ b, x = .bool b := by
  cases x <;> simp only [okS] at h
  exact ⟨_, rfl⟩
class Sh (α : Type) [Row α] where
  ss : List Shp
  good : α → Prop
  len : ss.length = Row.sz α
  read : ∀ xs, okR ss xs → ∃ a, xs = Row.enc a ∧ good a
theorem rows_read {α : Type} [Row α] [Sh α] : ∀ (n : Nat) (xs : List AV), xs.length = n * Row.sz α → (∀ i, i < n → okR (Sh.ss α) ((xs.drop (i * Row.sz α)).take (Row.sz α))) → ∃ l : List α, l.length = n ∧ xs = encL l ∧ ∀ a ∈ l, Sh.good a
  | 0, xs, h, _ => ⟨[], rfl, by rw [encL_nil]; exact List.eq_nil_of_length_eq_zero (by simpa using h), by simp⟩
  | n + 1, xs, h, hr => by
    have hp := Row.pos (α := α)
    obtain ⟨a, ha, hg⟩ := Sh.read _ (hr 0 (by omega))
    rw [Nat.succ_mul] at h
    obtain ⟨l, hl, hx, hgl⟩ := rows_read (α := α) n (xs.drop (Row.sz α)) (by rw [List.length_drop]; omega) (fun i hi => by
      have := hr (i + 1) (by omega)
      rw [Nat.succ_mul, Nat.add_comm, ← List.drop_drop] at this
      exact this)
    refine ⟨a :: l, by simp [hl], ?_, ?_⟩
    · rw [encL_cons, ← hx]
      simp only [Nat.zero_mul, List.drop_zero] at ha
      rw [← ha, List.take_append_drop]
    · intro b hb
      rcases List.mem_cons.1 hb with rfl | hb
      · exact hg
      · exact hgl b hb
theorem okS_list {α : Type} [Row α] [Sh α] {x : AV} (h : okS (.sl (Sh.ss α)) x) : ∃ l : List α, x = .lst l.length (encL l) ∧ (∀ a ∈ l, Sh.good a) ∧ l.length ≤ maxLen := by
  cases x <;> simp only [okS] at h
  rename_i n xs
  rw [Sh.len] at h
  obtain ⟨l, rfl, rfl, hg⟩ := rows_read (α := α) n xs h.2.1 h.2.2
  exact ⟨l, rfl, hg, h.1⟩
instance : Sh Int where
  ss := [.int .i64]
  good n := ok64 n
  len := rfl
  read xs h := by
    obtain ⟨x, xs, rfl, h0, h⟩ := okR_cons h
    obtain rfl := okR_nil h
    obtain ⟨n, rfl, b⟩ := okS_int h0
    exact ⟨n, rfl, b⟩
instance : Sh Word where
  ss := [.int .u64]
  good n := okW n.v
  len := rfl
  read xs h := by
    obtain ⟨x, xs, rfl, h0, h⟩ := okR_cons h
    obtain rfl := okR_nil h
    obtain ⟨n, rfl, b⟩ := okS_word h0
    exact ⟨⟨n⟩, rfl, b⟩
instance : Sh Span where
  ss := [.int .i64, .int .i64]
  good a := ok64 a.lo ∧ ok64 a.hi
  len := rfl
  read xs h := by
    obtain ⟨x0, xs, rfl, h0, h⟩ := okR_cons h
    obtain ⟨x1, xs, rfl, h1, h⟩ := okR_cons h
    obtain rfl := okR_nil h
    obtain ⟨v0, rfl, b0⟩ := okS_int h0
    obtain ⟨v1, rfl, b1⟩ := okS_int h1
    exact ⟨⟨v0, v1⟩, rfl, b0, b1⟩
instance : Sh Box where
  ss := [.int .i64, .int .i64, .int .i64, .int .i64, .int .i64, .int .i64, .int .i64, .int .i64, .int .i64, .int .i64]
  good a := ok64 a.s0.lo ∧ ok64 a.s0.hi ∧ ok64 a.s1.lo ∧ ok64 a.s1.hi ∧ ok64 a.s2.lo ∧ ok64 a.s2.hi ∧ ok64 a.s3.lo ∧ ok64 a.s3.hi ∧ ok64 a.s4.lo ∧ ok64 a.s4.hi
  len := rfl
  read xs h := by
    obtain ⟨x0, xs, rfl, h0, h⟩ := okR_cons h
    obtain ⟨x1, xs, rfl, h1, h⟩ := okR_cons h
    obtain ⟨x2, xs, rfl, h2, h⟩ := okR_cons h
    obtain ⟨x3, xs, rfl, h3, h⟩ := okR_cons h
    obtain ⟨x4, xs, rfl, h4, h⟩ := okR_cons h
    obtain ⟨x5, xs, rfl, h5, h⟩ := okR_cons h
    obtain ⟨x6, xs, rfl, h6, h⟩ := okR_cons h
    obtain ⟨x7, xs, rfl, h7, h⟩ := okR_cons h
    obtain ⟨x8, xs, rfl, h8, h⟩ := okR_cons h
    obtain ⟨x9, xs, rfl, h9, h⟩ := okR_cons h
    obtain rfl := okR_nil h
    obtain ⟨v0, rfl, b0⟩ := okS_int h0
    obtain ⟨v1, rfl, b1⟩ := okS_int h1
    obtain ⟨v2, rfl, b2⟩ := okS_int h2
    obtain ⟨v3, rfl, b3⟩ := okS_int h3
    obtain ⟨v4, rfl, b4⟩ := okS_int h4
    obtain ⟨v5, rfl, b5⟩ := okS_int h5
    obtain ⟨v6, rfl, b6⟩ := okS_int h6
    obtain ⟨v7, rfl, b7⟩ := okS_int h7
    obtain ⟨v8, rfl, b8⟩ := okS_int h8
    obtain ⟨v9, rfl, b9⟩ := okS_int h9
    exact ⟨⟨⟨v0, v1⟩, ⟨v2, v3⟩, ⟨v4, v5⟩, ⟨v6, v7⟩, ⟨v8, v9⟩⟩, rfl, b0, b1, b2, b3, b4, b5, b6, b7, b8, b9⟩
instance : Sh Point where
  ss := [.int .i64, .int .i64, .int .i64, .int .i64]
  good a := ok64 a.p0 ∧ ok64 a.p1 ∧ ok64 a.p2 ∧ ok64 a.p3
  len := rfl
  read xs h := by
    obtain ⟨x0, xs, rfl, h0, h⟩ := okR_cons h
    obtain ⟨x1, xs, rfl, h1, h⟩ := okR_cons h
    obtain ⟨x2, xs, rfl, h2, h⟩ := okR_cons h
    obtain ⟨x3, xs, rfl, h3, h⟩ := okR_cons h
    obtain rfl := okR_nil h
    obtain ⟨v0, rfl, b0⟩ := okS_int h0
    obtain ⟨v1, rfl, b1⟩ := okS_int h1
    obtain ⟨v2, rfl, b2⟩ := okS_int h2
    obtain ⟨v3, rfl, b3⟩ := okS_int h3
    exact ⟨⟨v0, v1, v2, v3⟩, rfl, b0, b1, b2, b3⟩
instance : Sh Bias where
  ss := [.int .i64, .int .i64, .int .i64]
  good a := ok64 a.b0 ∧ ok64 a.b1 ∧ ok64 a.b2
  len := rfl
  read xs h := by
    obtain ⟨x0, xs, rfl, h0, h⟩ := okR_cons h
    obtain ⟨x1, xs, rfl, h1, h⟩ := okR_cons h
    obtain ⟨x2, xs, rfl, h2, h⟩ := okR_cons h
    obtain rfl := okR_nil h
    obtain ⟨v0, rfl, b0⟩ := okS_int h0
    obtain ⟨v1, rfl, b1⟩ := okS_int h1
    obtain ⟨v2, rfl, b2⟩ := okS_int h2
    exact ⟨⟨v0, v1, v2⟩, rfl, b0, b1, b2⟩
instance : Sh Node where
  ss := [.bool, .int .i64, .int .i64, .int .i64, .int .i64, .int .i64]
  good a := True ∧ ok64 a.value ∧ ok64 a.feature ∧ ok64 a.cut ∧ ok64 a.left ∧ ok64 a.right
  len := rfl
  read xs h := by
    obtain ⟨x0, xs, rfl, h0, h⟩ := okR_cons h
    obtain ⟨x1, xs, rfl, h1, h⟩ := okR_cons h
    obtain ⟨x2, xs, rfl, h2, h⟩ := okR_cons h
    obtain ⟨x3, xs, rfl, h3, h⟩ := okR_cons h
    obtain ⟨x4, xs, rfl, h4, h⟩ := okR_cons h
    obtain ⟨x5, xs, rfl, h5, h⟩ := okR_cons h
    obtain rfl := okR_nil h
    obtain ⟨v0, rfl⟩ := okS_bool h0
    obtain ⟨v1, rfl, b1⟩ := okS_int h1
    obtain ⟨v2, rfl, b2⟩ := okS_int h2
    obtain ⟨v3, rfl, b3⟩ := okS_int h3
    obtain ⟨v4, rfl, b4⟩ := okS_int h4
    obtain ⟨v5, rfl, b5⟩ := okS_int h5
    exact ⟨⟨v0, v1, v2, v3, v4, v5⟩, rfl, trivial, b1, b2, b3, b4, b5⟩
instance : Sh Tree where
  ss := [.int .i64, .sl (Sh.ss Word)]
  good a := ok64 a.cls ∧ ((∀ x ∈ a.nodes, Sh.good x) ∧ a.nodes.length ≤ maxLen)
  len := rfl
  read xs h := by
    obtain ⟨x0, xs, rfl, h0, h⟩ := okR_cons h
    obtain ⟨x1, xs, rfl, h1, h⟩ := okR_cons h
    obtain rfl := okR_nil h
    obtain ⟨v0, rfl, b0⟩ := okS_int h0
    obtain ⟨v1, rfl, b1⟩ := okS_list (α := Word) h1
    exact ⟨⟨v0, v1⟩, rfl, b0, b1⟩
instance : Sh Model where
  ss := [.int .i64, .int .i64, .int .i64, .int .i64, .int .i64, .sl (Sh.ss Tree)]
  good a := ok64 a.dim ∧ ok64 a.classes ∧ ok64 a.bias.b0 ∧ ok64 a.bias.b1 ∧ ok64 a.bias.b2 ∧ ((∀ x ∈ a.trees, Sh.good x) ∧ a.trees.length ≤ maxLen)
  len := rfl
  read xs h := by
    obtain ⟨x0, xs, rfl, h0, h⟩ := okR_cons h
    obtain ⟨x1, xs, rfl, h1, h⟩ := okR_cons h
    obtain ⟨x2, xs, rfl, h2, h⟩ := okR_cons h
    obtain ⟨x3, xs, rfl, h3, h⟩ := okR_cons h
    obtain ⟨x4, xs, rfl, h4, h⟩ := okR_cons h
    obtain ⟨x5, xs, rfl, h5, h⟩ := okR_cons h
    obtain rfl := okR_nil h
    obtain ⟨v0, rfl, b0⟩ := okS_int h0
    obtain ⟨v1, rfl, b1⟩ := okS_int h1
    obtain ⟨v2, rfl, b2⟩ := okS_int h2
    obtain ⟨v3, rfl, b3⟩ := okS_int h3
    obtain ⟨v4, rfl, b4⟩ := okS_int h4
    obtain ⟨v5, rfl, b5⟩ := okS_list (α := Tree) h5
    exact ⟨⟨v0, v1, ⟨v2, v3, v4⟩, v5⟩, rfl, b0, b1, b2, b3, b4, b5⟩
instance : Sh Piece where
  ss := [.int .i64, .int .i64, .int .i64, .int .i64, .int .i64, .int .i64, .int .i64, .int .i64, .int .i64, .int .i64, .int .i64]
  good a := ok64 a.box.s0.lo ∧ ok64 a.box.s0.hi ∧ ok64 a.box.s1.lo ∧ ok64 a.box.s1.hi ∧ ok64 a.box.s2.lo ∧ ok64 a.box.s2.hi ∧ ok64 a.box.s3.lo ∧ ok64 a.box.s3.hi ∧ ok64 a.box.s4.lo ∧ ok64 a.box.s4.hi ∧ ok64 a.value
  len := rfl
  read xs h := by
    obtain ⟨x0, xs, rfl, h0, h⟩ := okR_cons h
    obtain ⟨x1, xs, rfl, h1, h⟩ := okR_cons h
    obtain ⟨x2, xs, rfl, h2, h⟩ := okR_cons h
    obtain ⟨x3, xs, rfl, h3, h⟩ := okR_cons h
    obtain ⟨x4, xs, rfl, h4, h⟩ := okR_cons h
    obtain ⟨x5, xs, rfl, h5, h⟩ := okR_cons h
    obtain ⟨x6, xs, rfl, h6, h⟩ := okR_cons h
    obtain ⟨x7, xs, rfl, h7, h⟩ := okR_cons h
    obtain ⟨x8, xs, rfl, h8, h⟩ := okR_cons h
    obtain ⟨x9, xs, rfl, h9, h⟩ := okR_cons h
    obtain ⟨x10, xs, rfl, h10, h⟩ := okR_cons h
    obtain rfl := okR_nil h
    obtain ⟨v0, rfl, b0⟩ := okS_int h0
    obtain ⟨v1, rfl, b1⟩ := okS_int h1
    obtain ⟨v2, rfl, b2⟩ := okS_int h2
    obtain ⟨v3, rfl, b3⟩ := okS_int h3
    obtain ⟨v4, rfl, b4⟩ := okS_int h4
    obtain ⟨v5, rfl, b5⟩ := okS_int h5
    obtain ⟨v6, rfl, b6⟩ := okS_int h6
    obtain ⟨v7, rfl, b7⟩ := okS_int h7
    obtain ⟨v8, rfl, b8⟩ := okS_int h8
    obtain ⟨v9, rfl, b9⟩ := okS_int h9
    obtain ⟨v10, rfl, b10⟩ := okS_int h10
    exact ⟨⟨⟨⟨v0, v1⟩, ⟨v2, v3⟩, ⟨v4, v5⟩, ⟨v6, v7⟩, ⟨v8, v9⟩⟩, v10⟩, rfl, b0, b1, b2, b3, b4, b5, b6, b7, b8, b9, b10⟩
instance : Sh Step where
  ss := [.bool, .int .i64, .int .i64]
  good a := True ∧ ok64 a.place ∧ ok64 a.cut
  len := rfl
  read xs h := by
    obtain ⟨x0, xs, rfl, h0, h⟩ := okR_cons h
    obtain ⟨x1, xs, rfl, h1, h⟩ := okR_cons h
    obtain ⟨x2, xs, rfl, h2, h⟩ := okR_cons h
    obtain rfl := okR_nil h
    obtain ⟨v0, rfl⟩ := okS_bool h0
    obtain ⟨v1, rfl, b1⟩ := okS_int h1
    obtain ⟨v2, rfl, b2⟩ := okS_int h2
    exact ⟨⟨v0, v1, v2⟩, rfl, trivial, b1, b2⟩
instance : Sh Query where
  ss := [.int .i64, .int .i64, .int .i64, .int .i64, .int .i64, .int .i64, .int .i64, .int .i64, .int .i64, .int .i64, .int .i64, .int .i64, .int .i64, .int .i64, .int .i64, .bool, .int .i64]
  good a := ok64 a.kind ∧ ok64 a.cls ∧ ok64 a.region.s0.lo ∧ ok64 a.region.s0.hi ∧ ok64 a.region.s1.lo ∧ ok64 a.region.s1.hi ∧ ok64 a.region.s2.lo ∧ ok64 a.region.s2.hi ∧ ok64 a.region.s3.lo ∧ ok64 a.region.s3.hi ∧ ok64 a.region.s4.lo ∧ ok64 a.region.s4.hi ∧ ok64 a.lo ∧ ok64 a.hi ∧ ok64 a.feature ∧ True ∧ ok64 a.budget
  len := rfl
  read xs h := by
    obtain ⟨x0, xs, rfl, h0, h⟩ := okR_cons h
    obtain ⟨x1, xs, rfl, h1, h⟩ := okR_cons h
    obtain ⟨x2, xs, rfl, h2, h⟩ := okR_cons h
    obtain ⟨x3, xs, rfl, h3, h⟩ := okR_cons h
    obtain ⟨x4, xs, rfl, h4, h⟩ := okR_cons h
    obtain ⟨x5, xs, rfl, h5, h⟩ := okR_cons h
    obtain ⟨x6, xs, rfl, h6, h⟩ := okR_cons h
    obtain ⟨x7, xs, rfl, h7, h⟩ := okR_cons h
    obtain ⟨x8, xs, rfl, h8, h⟩ := okR_cons h
    obtain ⟨x9, xs, rfl, h9, h⟩ := okR_cons h
    obtain ⟨x10, xs, rfl, h10, h⟩ := okR_cons h
    obtain ⟨x11, xs, rfl, h11, h⟩ := okR_cons h
    obtain ⟨x12, xs, rfl, h12, h⟩ := okR_cons h
    obtain ⟨x13, xs, rfl, h13, h⟩ := okR_cons h
    obtain ⟨x14, xs, rfl, h14, h⟩ := okR_cons h
    obtain ⟨x15, xs, rfl, h15, h⟩ := okR_cons h
    obtain ⟨x16, xs, rfl, h16, h⟩ := okR_cons h
    obtain rfl := okR_nil h
    obtain ⟨v0, rfl, b0⟩ := okS_int h0
    obtain ⟨v1, rfl, b1⟩ := okS_int h1
    obtain ⟨v2, rfl, b2⟩ := okS_int h2
    obtain ⟨v3, rfl, b3⟩ := okS_int h3
    obtain ⟨v4, rfl, b4⟩ := okS_int h4
    obtain ⟨v5, rfl, b5⟩ := okS_int h5
    obtain ⟨v6, rfl, b6⟩ := okS_int h6
    obtain ⟨v7, rfl, b7⟩ := okS_int h7
    obtain ⟨v8, rfl, b8⟩ := okS_int h8
    obtain ⟨v9, rfl, b9⟩ := okS_int h9
    obtain ⟨v10, rfl, b10⟩ := okS_int h10
    obtain ⟨v11, rfl, b11⟩ := okS_int h11
    obtain ⟨v12, rfl, b12⟩ := okS_int h12
    obtain ⟨v13, rfl, b13⟩ := okS_int h13
    obtain ⟨v14, rfl, b14⟩ := okS_int h14
    obtain ⟨v15, rfl⟩ := okS_bool h15
    obtain ⟨v16, rfl, b16⟩ := okS_int h16
    exact ⟨⟨v0, v1, ⟨⟨v2, v3⟩, ⟨v4, v5⟩, ⟨v6, v7⟩, ⟨v8, v9⟩, ⟨v10, v11⟩⟩, v12, v13, v14, v15, v16⟩, rfl, b0, b1, b2, b3, b4, b5, b6, b7, b8, b9, b10, b11, b12, b13, b14, trivial, b16⟩
instance : Sh Verdict where
  ss := [.int .i64, .sl (Sh.ss Step), .int .i64, .int .i64, .int .i64, .int .i64, .int .i64, .int .i64]
  good a := ok64 a.kind ∧ ((∀ x ∈ a.proof, Sh.good x) ∧ a.proof.length ≤ maxLen) ∧ ok64 a.witness.p0 ∧ ok64 a.witness.p1 ∧ ok64 a.witness.p2 ∧ ok64 a.witness.p3 ∧ ok64 a.twin ∧ ok64 a.spent
  len := rfl
  read xs h := by
    obtain ⟨x0, xs, rfl, h0, h⟩ := okR_cons h
    obtain ⟨x1, xs, rfl, h1, h⟩ := okR_cons h
    obtain ⟨x2, xs, rfl, h2, h⟩ := okR_cons h
    obtain ⟨x3, xs, rfl, h3, h⟩ := okR_cons h
    obtain ⟨x4, xs, rfl, h4, h⟩ := okR_cons h
    obtain ⟨x5, xs, rfl, h5, h⟩ := okR_cons h
    obtain ⟨x6, xs, rfl, h6, h⟩ := okR_cons h
    obtain ⟨x7, xs, rfl, h7, h⟩ := okR_cons h
    obtain rfl := okR_nil h
    obtain ⟨v0, rfl, b0⟩ := okS_int h0
    obtain ⟨v1, rfl, b1⟩ := okS_list (α := Step) h1
    obtain ⟨v2, rfl, b2⟩ := okS_int h2
    obtain ⟨v3, rfl, b3⟩ := okS_int h3
    obtain ⟨v4, rfl, b4⟩ := okS_int h4
    obtain ⟨v5, rfl, b5⟩ := okS_int h5
    obtain ⟨v6, rfl, b6⟩ := okS_int h6
    obtain ⟨v7, rfl, b7⟩ := okS_int h7
    exact ⟨⟨v0, v1, ⟨v2, v3, v4, v5⟩, v6, v7⟩, rfl, b0, b1, b2, b3, b4, b5, b6, b7⟩
instance : Sh KTree where
  ss := [.int .i64, .sl (Sh.ss Int), .sl (Sh.ss Int), .sl (Sh.ss Int), .sl (Sh.ss Int)]
  good a := ok64 a.cls ∧ ((∀ x ∈ a.part, Sh.good x) ∧ a.part.length ≤ maxLen) ∧ ((∀ x ∈ a.dir, Sh.good x) ∧ a.dir.length ≤ maxLen) ∧ ((∀ x ∈ a.cut, Sh.good x) ∧ a.cut.length ≤ maxLen) ∧ ((∀ x ∈ a.val, Sh.good x) ∧ a.val.length ≤ maxLen)
  len := rfl
  read xs h := by
    obtain ⟨x0, xs, rfl, h0, h⟩ := okR_cons h
    obtain ⟨x1, xs, rfl, h1, h⟩ := okR_cons h
    obtain ⟨x2, xs, rfl, h2, h⟩ := okR_cons h
    obtain ⟨x3, xs, rfl, h3, h⟩ := okR_cons h
    obtain ⟨x4, xs, rfl, h4, h⟩ := okR_cons h
    obtain rfl := okR_nil h
    obtain ⟨v0, rfl, b0⟩ := okS_int h0
    obtain ⟨v1, rfl, b1⟩ := okS_list (α := Int) h1
    obtain ⟨v2, rfl, b2⟩ := okS_list (α := Int) h2
    obtain ⟨v3, rfl, b3⟩ := okS_list (α := Int) h3
    obtain ⟨v4, rfl, b4⟩ := okS_list (α := Int) h4
    exact ⟨⟨v0, v1, v2, v3, v4⟩, rfl, b0, b1, b2, b3, b4⟩
instance : Sh Forest where
  ss := [.int .i64, .int .i64, .sl (Sh.ss Int), .sl (Sh.ss KTree)]
  good a := ok64 a.dim ∧ ok64 a.classes ∧ ((∀ x ∈ a.bias, Sh.good x) ∧ a.bias.length ≤ maxLen) ∧ ((∀ x ∈ a.trees, Sh.good x) ∧ a.trees.length ≤ maxLen)
  len := rfl
  read xs h := by
    obtain ⟨x0, xs, rfl, h0, h⟩ := okR_cons h
    obtain ⟨x1, xs, rfl, h1, h⟩ := okR_cons h
    obtain ⟨x2, xs, rfl, h2, h⟩ := okR_cons h
    obtain ⟨x3, xs, rfl, h3, h⟩ := okR_cons h
    obtain rfl := okR_nil h
    obtain ⟨v0, rfl, b0⟩ := okS_int h0
    obtain ⟨v1, rfl, b1⟩ := okS_int h1
    obtain ⟨v2, rfl, b2⟩ := okS_list (α := Int) h2
    obtain ⟨v3, rfl, b3⟩ := okS_list (α := KTree) h3
    exact ⟨⟨v0, v1, v2, v3⟩, rfl, b0, b1, b2, b3⟩
instance : Sh Ask where
  ss := [.int .i64, .int .i64, .int .i64, .int .i64, .int .i64, .int .i64, .bool, .sl (Sh.ss Int)]
  good a := ok64 a.kind ∧ ok64 a.cls ∧ ok64 a.lo ∧ ok64 a.size ∧ ok64 a.feature ∧ ok64 a.budget ∧ True ∧ ((∀ x ∈ a.spans, Sh.good x) ∧ a.spans.length ≤ maxLen)
  len := rfl
  read xs h := by
    obtain ⟨x0, xs, rfl, h0, h⟩ := okR_cons h
    obtain ⟨x1, xs, rfl, h1, h⟩ := okR_cons h
    obtain ⟨x2, xs, rfl, h2, h⟩ := okR_cons h
    obtain ⟨x3, xs, rfl, h3, h⟩ := okR_cons h
    obtain ⟨x4, xs, rfl, h4, h⟩ := okR_cons h
    obtain ⟨x5, xs, rfl, h5, h⟩ := okR_cons h
    obtain ⟨x6, xs, rfl, h6, h⟩ := okR_cons h
    obtain ⟨x7, xs, rfl, h7, h⟩ := okR_cons h
    obtain rfl := okR_nil h
    obtain ⟨v0, rfl, b0⟩ := okS_int h0
    obtain ⟨v1, rfl, b1⟩ := okS_int h1
    obtain ⟨v2, rfl, b2⟩ := okS_int h2
    obtain ⟨v3, rfl, b3⟩ := okS_int h3
    obtain ⟨v4, rfl, b4⟩ := okS_int h4
    obtain ⟨v5, rfl, b5⟩ := okS_int h5
    obtain ⟨v6, rfl⟩ := okS_bool h6
    obtain ⟨v7, rfl, b7⟩ := okS_list (α := Int) h7
    exact ⟨⟨v0, v1, v2, v3, v4, v5, v6, v7⟩, rfl, b0, b1, b2, b3, b4, b5, trivial, b7⟩
instance : Sh Cutting where
  ss := [.sl (Sh.ss Int), .sl (Sh.ss Int)]
  good a := ((∀ x ∈ a.place, Sh.good x) ∧ a.place.length ≤ maxLen) ∧ ((∀ x ∈ a.cut, Sh.good x) ∧ a.cut.length ≤ maxLen)
  len := rfl
  read xs h := by
    obtain ⟨x0, xs, rfl, h0, h⟩ := okR_cons h
    obtain ⟨x1, xs, rfl, h1, h⟩ := okR_cons h
    obtain rfl := okR_nil h
    obtain ⟨v0, rfl, b0⟩ := okS_list (α := Int) h0
    obtain ⟨v1, rfl, b1⟩ := okS_list (α := Int) h1
    exact ⟨⟨v0, v1⟩, rfl, b0, b1⟩
variable {P : Program} {t : TypeId} {x : AV}
theorem arg_agg {α : Type} [Row α] [Sh α] (h1 : isAggT P t = true) (h2 : shp P 20 t = some (Sh.ss α)) (h : argOk P t x) : ∃ a : α, x = .agg (Row.enc a) ∧ Sh.good a := by
  unfold argOk at h
  rw [h1] at h
  obtain ⟨xs, ss, rfl, hs, hr⟩ := h
  rw [h2] at hs
  cases hs
  obtain ⟨a, rfl, hg⟩ := Sh.read _ hr
  exact ⟨a, rfl, hg⟩
theorem arg_cell {s : Shp} (h1 : isAggT P t = false) (h2 : shp P 20 t = some [s]) (h : argOk P t x) : okS s x := by
  unfold argOk at h
  rw [h1] at h
  obtain ⟨s', hs, hr⟩ := h
  rw [h2] at hs
  cases hs
  exact hr
theorem arg_list {α : Type} [Row α] [Sh α] (h1 : isAggT P t = false) (h2 : shp P 20 t = some [.sl (Sh.ss α)]) (h : argOk P t x) : ∃ l : List α, x = .lst l.length (encL l) ∧ (∀ a ∈ l, Sh.good a) ∧ l.length ≤ maxLen := okS_list (arg_cell h1 h2 h)
theorem argsOk_cons {t : TypeId} {ts : List TypeId} {xs : List AV} (h : argsOk P (t :: ts) xs) : ∃ x ys, xs = x :: ys ∧ argOk P t x ∧ argsOk P ts ys := by
  cases xs with
  | nil => simp [argsOk] at h
  | cons x xs => simp only [argsOk] at h; exact ⟨x, xs, rfl, h.1, h.2⟩
theorem argsOk_nil {xs : List AV} (h : argsOk P [] xs) : xs = [] := by
  cases xs with
  | nil => rfl
  | cons x xs => simp [argsOk] at h
end Go.Co
