/- CO: texts of this claim, one behind the other. -/
import Derived.Test.YtcjflbmpfmibbaaCz6
import Derived.Test.YtcjflbmpfmibbaaCz1
import Derived.Test.YtcjflbmpfmibbaaAm4
/- CO: pruning again, within a smaller box. -/
namespace Go.Co
open Go.Am Go.Proofs
set_option linter.unusedSimpArgs false
set_option linter.unusedVariables false
def PT.prune : PT → Box → PT
  | .leaf n, _ => .leaf n
  | .node f c l r, b => if (cutB b f c).1.empty then r.prune (cutB b f c).2 else if (cutB b f c).2.empty then l.prune (cutB b f c).1 else .node f c (l.prune (cutB b f c).1) (r.prune (cutB b f c).2)
def fullPT (old : List Word) : Nat → Nat → PT
  | 0, i => .leaf (ndAt old i)
  | n + 1, i => if (ndAt old i).leaf then .leaf (ndAt old i) else .node (ndAt old i).feature (ndAt old i).cut (fullPT old n (ndAt old i).left.toNat) (fullPT old n (ndAt old i).right.toNat)
theorem prPT_full (old : List Word) : ∀ (n i : Nat) (b : Box), prPT old n i b = (fullPT old n i).prune b
  | 0, i, b => rfl
  | n + 1, i, b => by
    unfold prPT fullPT
    split
    · rfl
    · simp only [PT.prune, prPT_full old n]
theorem ndAt_mid (A : List Word) (w : Word) (C : List Word) : ndAt (A ++ w :: C) A.length = nd w := by
  rw [ndAt_lt (by simp)]
  rw [List.getElem_append_right (Nat.le_refl _)]
  simp
theorem full_ser {dim : Int} : ∀ (p : PT) (A B : List Word) (n : Nat), p.ok dim → A.length + p.size ≤ 31 → p.size ≤ n → fullPT (A ++ (p.ser A.length).map pack ++ B) n A.length = p
  | .leaf x, A, B, n, h, hs, hn => by
    have hd : ndAt (A ++ ((PT.leaf x).ser A.length).map pack ++ B) A.length = x := by
      rw [show A ++ ((PT.leaf x).ser A.length).map pack ++ B = A ++ pack x :: B by simp [PT.ser], ndAt_mid, nd_pack x h.2]
    cases n with
    | zero => simp only [fullPT, hd]
    | succ n =>
      rw [fullPT, hd, h.1, if_pos rfl]
  | .node f c l r, A, B, n, h, hs, hn => by
    have hok := h
    obtain ⟨h1, h2, h3, h4, h5, h6⟩ := h
    have pl := l.pos
    have pr := r.pos
    have hz : (PT.node f c l r).size = 1 + l.size + r.size := rfl
    rw [hz] at hs hn
    obtain ⟨n, rfl⟩ : ∃ m, n = m + 1 := ⟨n - 1, by omega⟩
    have hx := ser_right (.node f c l r) A.length hok (by rw [hz]; omega) ⟨false, 0, f, c, ((A.length + 1 : Nat) : Int), ((A.length + 1 + l.size : Nat) : Int)⟩ (by simp [PT.ser])
    have e1 : A ++ ((PT.node f c l r).ser A.length).map pack ++ B = (A ++ [pack ⟨false, 0, f, c, ((A.length + 1 : Nat) : Int), ((A.length + 1 + l.size : Nat) : Int)⟩]) ++ (l.ser (A.length + 1)).map pack ++ ((r.ser (A.length + 1 + l.size)).map pack ++ B) := by
      simp [PT.ser]
    have e2 : A ++ ((PT.node f c l r).ser A.length).map pack ++ B = (A ++ [pack ⟨false, 0, f, c, ((A.length + 1 : Nat) : Int), ((A.length + 1 + l.size : Nat) : Int)⟩] ++ (l.ser (A.length + 1)).map pack) ++ (r.ser (A.length + 1 + l.size)).map pack ++ B := by
      simp [PT.ser]
    have hd : ndAt (A ++ ((PT.node f c l r).ser A.length).map pack ++ B) A.length = ⟨false, 0, f, c, ((A.length + 1 : Nat) : Int), ((A.length + 1 + l.size : Nat) : Int)⟩ := by
      have e3 : A ++ ((PT.node f c l r).ser A.length).map pack ++ B = A ++ pack ⟨false, 0, f, c, ((A.length + 1 : Nat) : Int), ((A.length + 1 + l.size : Nat) : Int)⟩ :: ((l.ser (A.length + 1)).map pack ++ (r.ser (A.length + 1 + l.size)).map pack ++ B) := by
        simp only [PT.ser, List.map_cons, List.map_append, List.append_assoc, List.cons_append]
      rw [e3, ndAt_mid, nd_pack _ hx]
    have a1 : (A ++ [pack ⟨false, 0, f, c, ((A.length + 1 : Nat) : Int), ((A.length + 1 + l.size : Nat) : Int)⟩]).length = A.length + 1 := by simp
    have a2 : (A ++ [pack ⟨false, 0, f, c, ((A.length + 1 : Nat) : Int), ((A.length + 1 + l.size : Nat) : Int)⟩] ++ (l.ser (A.length + 1)).map pack).length = A.length + 1 + l.size := by simp [ser_len]; omega
    have g1 := full_ser l (A ++ [pack ⟨false, 0, f, c, ((A.length + 1 : Nat) : Int), ((A.length + 1 + l.size : Nat) : Int)⟩]) ((r.ser (A.length + 1 + l.size)).map pack ++ B) n h5 (by rw [a1]; omega) (by omega)
    have g2 := full_ser r (A ++ [pack ⟨false, 0, f, c, ((A.length + 1 : Nat) : Int), ((A.length + 1 + l.size : Nat) : Int)⟩] ++ (l.ser (A.length + 1)).map pack) B n h6 (by rw [a2]; omega) (by omega)
    rw [a1, ← e1] at g1
    rw [a2, ← e2] at g2
    rw [fullPT, hd]
    simp only [Bool.false_eq_true, if_false, Int.toNat_natCast]
    rw [g1, g2]
theorem full_prune {l : List Word} {d : Int} (hr : RT l d) (b : Box) : fullPT (pruneT l b) 31 0 = (fullPT l 31 0).prune b := by
  have hok := prPT_ok hr 31 0 b hr.pos (by have := hr.le; omega)
  have hs := Nat.le_trans (prT_size hr b) hr.le
  have := full_ser (prT' l b) [] [] 31 hok (by simpa using hs) hs
  have e : prPT l 31 0 b = prT' l b := rfl
  rw [pruneT_eq hr b, ← prPT_full, e]
  simpa using this
theorem pruneT_full {l : List Word} {d : Int} (hr : RT l d) (b : Box) : pruneT l b = (((fullPT l 31 0).prune b).ser 0).map pack := by
  rw [pruneT_eq hr b, ← prPT_full]
  rfl
def SubB (c b : Box) : Prop := ∀ i : Int, 0 ≤ i → i < 5 → (b.get i).lo ≤ (c.get i).lo ∧ (c.get i).hi ≤ (b.get i).hi
theorem set_self (b : Box) {k : Int} (h0 : 0 ≤ k) (h5 : k < 5) : b.set k (b.get k) = b := by
  have hk : k = 0 ∨ k = 1 ∨ k = 2 ∨ k = 3 ∨ k = 4 := by omega
  rcases hk with rfl | rfl | rfl | rfl | rfl <;> rfl
theorem set_none (b : Box) {k : Int} (h0 : 0 ≤ k) (h5 : k < 5) : (b.set k noneS).empty = true := by
  cases h : (b.set k noneS).empty
  · have := empty_get.1 h k h0 h5
    rw [set_get_ite _ _ h0 h5 h0 h5, if_pos rfl] at this
    exact absurd this (by decide)
  · rfl
theorem cut_cases {b : Box} (hb : b.empty = false) {k : Int} (h0 : 0 ≤ k) (h5 : k < 5) (n : Int) :
    ((b.get k).hi ≤ n ∧ (cutB b k n).1 = b ∧ (cutB b k n).2.empty = true) ∨ (n < (b.get k).lo ∧ (cutB b k n).1.empty = true ∧ (cutB b k n).2 = b) ∨
    ((b.get k).lo ≤ n ∧ n < (b.get k).hi ∧ (cutB b k n).1.empty = false ∧ (cutB b k n).2.empty = false ∧ (cutB b k n).1 = b.set k ⟨(b.get k).lo, n⟩ ∧ (cutB b k n).2 = b.set k ⟨n + 1, (b.get k).hi⟩) := by
  have hk := empty_get.1 hb k h0 h5
  have hs : ofS (b.get k).lo (b.get k).hi = b.get k := by unfold ofS; rw [if_neg (by omega)]
  by_cases h1 : (b.get k).hi ≤ n
  · left
    have e : cutB b k n = (b.set k (b.get k), b.set k noneS) := by
      unfold cutB cutS
      rw [if_pos ⟨h0, h5⟩, if_pos h1, hs]
    rw [e]
    exact ⟨h1, set_self b h0 h5, set_none b h0 h5⟩
  · by_cases h2 : n < (b.get k).lo
    · right; left
      have e : cutB b k n = (b.set k noneS, b.set k (b.get k)) := by
        unfold cutB cutS
        rw [if_pos ⟨h0, h5⟩, if_neg h1, if_neg (show ¬ n + 1 > (b.get k).lo by omega), hs]
        have : ofS (b.get k).lo n = noneS := by unfold ofS; rw [if_pos h2]
        rw [this]
      rw [e]
      exact ⟨h2, set_none b h0 h5, set_self b h0 h5⟩
    · right; right
      have o1 : ofS (b.get k).lo n = ⟨(b.get k).lo, n⟩ := by unfold ofS; rw [if_neg h2]
      have o2 : ofS (n + 1) (b.get k).hi = ⟨n + 1, (b.get k).hi⟩ := by unfold ofS; rw [if_neg (by omega)]
      have e : cutB b k n = (b.set k ⟨(b.get k).lo, n⟩, b.set k ⟨n + 1, (b.get k).hi⟩) := by
        unfold cutB cutS
        rw [if_pos ⟨h0, h5⟩, if_neg h1, if_pos (show n + 1 > (b.get k).lo by omega), o1, o2]
      have hc : ∀ lo hi : Int, lo ≤ hi → (b.set k ⟨lo, hi⟩).empty = false := fun lo hi hl => empty_get.2 fun i i0 i5 => by
        rw [set_get_ite b _ h0 h5 i0 i5]
        split
        · exact hl
        · exact empty_get.1 hb i i0 i5
      rw [e]
      exact ⟨by omega, by omega, hc _ _ (by omega), hc _ _ (by omega), rfl, rfl⟩
theorem prune_sub {dim : Int} : ∀ (p : PT), p.ok dim → ∀ (b c : Box), b.empty = false → c.empty = false → SubB c b → (p.prune b).prune c = p.prune c
  | .leaf n, _, b, c, _, _, _ => rfl
  | .node f n l r, h, b, c, hb, hc, hs => by
    obtain ⟨h1, _, h3, _, h5, h6⟩ := h
    have f5 : f < 5 := by omega
    have hsf := hs f h1 f5
    have hcb := empty_get.1 hc f h1 f5
    have T : ∀ {α : Type} {x y : α}, (if (true : Bool) = true then x else y) = x := fun {_ _ _} => rfl
    rcases cut_cases hb h1 f5 n with ⟨a1, a2, a3⟩ | ⟨a1, a2, a3⟩ | ⟨a0, a1, a2, a3, a4, a5⟩
    · have e1 : (PT.node f n l r).prune b = l.prune b := by rw [PT.prune, a2, hb, a3]; rfl
      rcases cut_cases hc h1 f5 n with ⟨c1, c2, c3⟩ | ⟨c1, c2, c3⟩ | ⟨c0, c1, c2, c3, c4, c5⟩
      · have e2 : (PT.node f n l r).prune c = l.prune c := by rw [PT.prune, c2, hc, c3]; rfl
        rw [e1, e2]
        exact prune_sub l h5 b c hb hc hs
      · omega
      · omega
    · have e1 : (PT.node f n l r).prune b = r.prune b := by rw [PT.prune, a2, a3]; rfl
      rcases cut_cases hc h1 f5 n with ⟨c1, c2, c3⟩ | ⟨c1, c2, c3⟩ | ⟨c0, c1, c2, c3, c4, c5⟩
      · omega
      · have e2 : (PT.node f n l r).prune c = r.prune c := by rw [PT.prune, c2, c3]; rfl
        rw [e1, e2]
        exact prune_sub r h6 b c hb hc hs
      · omega
    · have e1 : (PT.node f n l r).prune b = .node f n (l.prune (cutB b f n).1) (r.prune (cutB b f n).2) := by rw [PT.prune, a2, a3]; rfl
      have g1 : ∀ x, SubB x b → (x.get f).hi ≤ n → SubB x (cutB b f n).1 := fun x hx hn i i0 i5 => by
        rw [a4, set_get_ite b _ h1 f5 i0 i5]
        have := hx i i0 i5
        split
        · subst i; exact ⟨this.1, hn⟩
        · exact this
      have g2 : ∀ x, SubB x b → n < (x.get f).lo → SubB x (cutB b f n).2 := fun x hx hn i i0 i5 => by
        rw [a5, set_get_ite b _ h1 f5 i0 i5]
        have := hx i i0 i5
        split
        · subst i; exact ⟨by show n + 1 ≤ _; omega, this.2⟩
        · exact this
      rw [e1]
      rcases cut_cases hc h1 f5 n with ⟨c1, c2, c3⟩ | ⟨c1, c2, c3⟩ | ⟨c0, c1, c2, c3, c4, c5⟩
      · have e2 : ∀ l r : PT, (PT.node f n l r).prune c = l.prune c := fun l r => by rw [PT.prune, c2, hc, c3]; rfl
        rw [e2, e2]
        exact prune_sub l h5 _ c a2 hc (g1 c hs c1)
      · have e2 : ∀ l r : PT, (PT.node f n l r).prune c = r.prune c := fun l r => by rw [PT.prune, c2, c3]; rfl
        rw [e2, e2]
        exact prune_sub r h6 _ c a3 hc (g2 c hs c1)
      · have e2 : ∀ l r : PT, (PT.node f n l r).prune c = .node f n (l.prune (cutB c f n).1) (r.prune (cutB c f n).2) := fun l r => by rw [PT.prune, c2, c3]; rfl
        have s1 : SubB (cutB c f n).1 b := fun i i0 i5 => by
          rw [c4, set_get_ite c _ h1 f5 i0 i5]
          have := hs i i0 i5
          split
          · subst i; exact ⟨this.1, by show n ≤ _; omega⟩
          · exact this
        have s2 : SubB (cutB c f n).2 b := fun i i0 i5 => by
          rw [c5, set_get_ite c _ h1 f5 i0 i5]
          have := hs i i0 i5
          split
          · subst i; exact ⟨by show _ ≤ n + 1; omega, this.2⟩
          · exact this
        have n1 : ((cutB c f n).1.get f).hi ≤ n := by rw [c4, set_get_ite c _ h1 f5 h1 f5, if_pos rfl]; exact Int.le_refl n
        have n2 : n < ((cutB c f n).2.get f).lo := by rw [c5, set_get_ite c _ h1 f5 h1 f5, if_pos rfl]; show n < n + 1; omega
        rw [e2, e2, prune_sub l h5 _ _ a2 c2 (g1 _ s1 n1), prune_sub r h6 _ _ a3 c3 (g2 _ s2 n2)]
theorem full_ok {old : List Word} {d : Int} (hr : RT old d) : ∀ (n i : Nat), i < old.length → old.length ≤ i + n → (fullPT old n i).ok d
  | 0, i, hi, hn => by omega
  | n + 1, i, hi, hn => by
    unfold fullPT
    cases hl : (ndAt old i).leaf
    · rw [if_neg Bool.false_ne_true]
      obtain ⟨x, y, ha, hb, g1, g2, g3, g4, g5⟩ := child_nat hr hi hl
      have hat := hr.at hi hl
      have hf := hr.feature hi hl
      have hc := hr.cutOk hi
      rw [ha, hb, Int.toNat_natCast, Int.toNat_natCast]
      exact ⟨hf.1, hat.1, hf.2, hc, full_ok hr n x (by omega) (by omega), full_ok hr n y (by omega) (by omega)⟩
    · rw [if_pos rfl]
      exact ⟨hl, hr.node hi⟩
theorem pruneT_twice {l : List Word} {d : Int} (hr : RT l d) {b c : Box} (hb : b.empty = false) (hc : c.empty = false) (hs : SubB c b) : pruneT (pruneT l b) c = pruneT l c := by
  rw [pruneT_full (pruneT_right hr b) c, full_prune hr b, prune_sub _ (full_ok hr 31 0 hr.pos (by have := hr.le; omega)) b c hb hc hs, ← pruneT_full hr c]
theorem pruneT_len {l : List Word} {d : Int} (hr : RT l d) (b : Box) : (pruneT l b).length ≤ l.length := by
  rw [pruneT_eq hr b, List.length_map, ser_len]
  exact prT_size hr b
theorem rm_prune {m : Model} (hm : RM m) (b : Box) : RM (pruneM m b) where
  dim := hm.dim
  classes := hm.classes
  bias := hm.bias
  none1 := hm.none1
  none2 := hm.none2
  trees := by
    show (m.trees.map (prF b)).length ≤ 8
    rw [List.length_map]
    exact hm.trees
  tree t ht := by
    obtain ⟨x, hx, rfl⟩ := List.mem_map.1 ht
    have := hm.tree x hx
    exact ⟨this.1, this.2.1, pruneT_right this.2.2 b⟩
theorem pruneM_twice {m : Model} (hm : RM m) {b c : Box} (hb : b.empty = false) (hc : c.empty = false) (hs : SubB c b) : pruneM (pruneM m b) c = pruneM m c := by
  unfold pruneM
  simp only [List.map_map]
  congr 1
  refine List.map_congr_left fun t ht => ?_
  simp only [Function.comp, prF]
  rw [pruneT_twice (hm.rt ht) hb hc hs]
theorem nodes_prune {d : Int} {b : Box} : ∀ (l : List Tree) (x y : Int), (∀ t ∈ l, RT t.nodes d) → x ≤ y → (l.map (prF b)).foldl lenF x ≤ l.foldl lenF y
  | [], x, y, _, h => h
  | t :: l, x, y, h, hxy => by
    rw [List.map_cons, List.foldl_cons, List.foldl_cons]
    refine nodes_prune l _ _ (fun z hz => h z (by simp [hz])) ?_
    have h1 := pruneT_len (h t (by simp)) b
    unfold lenF prF
    show x + ((pruneT t.nodes b).length : Int) ≤ y + (t.nodes.length : Int)
    omega
theorem size_prune {m : Model} (hm : RM m) (b : Box) : sizeM (pruneM m b) ≤ sizeM m :=
  nodes_prune m.trees 0 0 (fun t ht => hm.rt ht) (Int.le_refl 0)
theorem size_twice {m : Model} (hm : RM m) {b c : Box} (hb : b.empty = false) (hc : c.empty = false) (hs : SubB c b) : sizeM (pruneM m c) ≤ sizeM (pruneM m b) := by
  rw [← pruneM_twice hm hb hc hs]
  exact size_prune (rm_prune hm b) c
end Go.Co
/- CO: what a statement's reading of an argument says, type by type (written by mkCoSh.py). -/
namespace Go.Co
open Go.Am Go.RowKit
set_option linter.unusedVariables false
theorem okR_nil {xs : List AV} (h : okR [] xs) : xs = [] := by
  cases xs with
  | nil => rfl
  | cons x xs => simp [okR] at h
theorem okR_cons {s : Shp} {ss : List Shp} {xs : List AV} (h : okR (s :: ss) xs) : ∃ x ys, xs = x :: ys ∧ okS s x ∧ okR ss ys := by
  cases xs with
  | nil => simp [okR] at h
  | cons x xs => simp only [okR] at h; exact ⟨x, xs, rfl, h.1, h.2⟩
theorem okS_int {x : AV} (h : okS (.int .i64) x) : ∃ n, x = .int .i64 n ∧ ok64 n := by
  cases x <;> simp only [okS] at h
  obtain ⟨rfl, h1, h2⟩ := h
  exact ⟨_, rfl, h1, h2⟩
theorem okS_word {x : AV} (h : okS (.int .u64) x) : ∃ n, x = .int .u64 n ∧ okW n := by
  cases x <;> simp only [okS] at h
  obtain ⟨rfl, h1, h2⟩ := h
  exact ⟨_, rfl, h1, Int.lt_of_le_of_lt h2 (by decide)⟩
theorem okS_bool {x : AV} (h : okS .bool x) : ∃ b, x = .bool b := by
  cases x <;> simp only [okS] at h
  exact ⟨_, rfl⟩
class Sh (α : Type) [Row α] where
  ss : List Shp
  good : α → Prop
  len : ss.length = Row.sz α
  read : ∀ xs, okR ss xs → ∃ a, xs = Row.enc a ∧ good a
theorem rows_read {α : Type} [Row α] [Sh α] : ∀ (n : Nat) (xs : List AV), xs.length = n * Row.sz α → (∀ i, i < n → okR (Sh.ss α) ((xs.drop (i * Row.sz α)).take (Row.sz α))) → ∃ l : List α, l.length = n ∧ xs = encL l ∧ ∀ a ∈ l, Sh.good a
  | 0, xs, h, _ => ⟨[], rfl, by rw [encL_nil]; exact List.eq_nil_of_length_eq_zero (by simpa using h), by simp⟩
  | n + 1, xs, h, hr => by
    have hp := Row.pos (α := α)
    obtain ⟨a, ha, hg⟩ := Sh.read _ (hr 0 (by omega))
    rw [Nat.succ_mul] at h
    obtain ⟨l, hl, hx, hgl⟩ := rows_read (α := α) n (xs.drop (Row.sz α)) (by rw [List.length_drop]; omega) (fun i hi => by
      have := hr (i + 1) (by omega)
      rw [Nat.succ_mul, Nat.add_comm, ← List.drop_drop] at this
      exact this)
    refine ⟨a :: l, by simp [hl], ?_, ?_⟩
    · rw [encL_cons, ← hx]
      simp only [Nat.zero_mul, List.drop_zero] at ha
      rw [← ha, List.take_append_drop]
    · intro b hb
      rcases List.mem_cons.1 hb with rfl | hb
      · exact hg
      · exact hgl b hb
theorem okS_list {α : Type} [Row α] [Sh α] {x : AV} (h : okS (.sl (Sh.ss α)) x) : ∃ l : List α, x = .lst l.length (encL l) ∧ (∀ a ∈ l, Sh.good a) ∧ l.length ≤ maxLen := by
  cases x <;> simp only [okS] at h
  rename_i n xs
  rw [Sh.len] at h
  obtain ⟨l, rfl, rfl, hg⟩ := rows_read (α := α) n xs h.2.1 h.2.2
  exact ⟨l, rfl, hg, h.1⟩
instance : Sh Int where
  ss := [.int .i64]
  good n := ok64 n
  len := rfl
  read xs h := by
    obtain ⟨x, xs, rfl, h0, h⟩ := okR_cons h
    obtain rfl := okR_nil h
    obtain ⟨n, rfl, b⟩ := okS_int h0
    exact ⟨n, rfl, b⟩
instance : Sh Word where
  ss := [.int .u64]
  good n := okW n.v
  len := rfl
  read xs h := by
    obtain ⟨x, xs, rfl, h0, h⟩ := okR_cons h
    obtain rfl := okR_nil h
    obtain ⟨n, rfl, b⟩ := okS_word h0
    exact ⟨⟨n⟩, rfl, b⟩
instance : Sh Span where
  ss := [.int .i64, .int .i64]
  good a := ok64 a.lo ∧ ok64 a.hi
  len := rfl
  read xs h := by
    obtain ⟨x0, xs, rfl, h0, h⟩ := okR_cons h
    obtain ⟨x1, xs, rfl, h1, h⟩ := okR_cons h
    obtain rfl := okR_nil h
    obtain ⟨v0, rfl, b0⟩ := okS_int h0
    obtain ⟨v1, rfl, b1⟩ := okS_int h1
    exact ⟨⟨v0, v1⟩, rfl, b0, b1⟩
instance : Sh Box where
  ss := [.int .i64, .int .i64, .int .i64, .int .i64, .int .i64, .int .i64, .int .i64, .int .i64, .int .i64, .int .i64]
  good a := ok64 a.s0.lo ∧ ok64 a.s0.hi ∧ ok64 a.s1.lo ∧ ok64 a.s1.hi ∧ ok64 a.s2.lo ∧ ok64 a.s2.hi ∧ ok64 a.s3.lo ∧ ok64 a.s3.hi ∧ ok64 a.s4.lo ∧ ok64 a.s4.hi
  len := rfl
  read xs h := by
    obtain ⟨x0, xs, rfl, h0, h⟩ := okR_cons h
    obtain ⟨x1, xs, rfl, h1, h⟩ := okR_cons h
    obtain ⟨x2, xs, rfl, h2, h⟩ := okR_cons h
    obtain ⟨x3, xs, rfl, h3, h⟩ := okR_cons h
    obtain ⟨x4, xs, rfl, h4, h⟩ := okR_cons h
    obtain ⟨x5, xs, rfl, h5, h⟩ := okR_cons h
    obtain ⟨x6, xs, rfl, h6, h⟩ := okR_cons h
    obtain ⟨x7, xs, rfl, h7, h⟩ := okR_cons h
    obtain ⟨x8, xs, rfl, h8, h⟩ := okR_cons h
    obtain ⟨x9, xs, rfl, h9, h⟩ := okR_cons h
    obtain rfl := okR_nil h
    obtain ⟨v0, rfl, b0⟩ := okS_int h0
    obtain ⟨v1, rfl, b1⟩ := okS_int h1
    obtain ⟨v2, rfl, b2⟩ := okS_int h2
    obtain ⟨v3, rfl, b3⟩ := okS_int h3
    obtain ⟨v4, rfl, b4⟩ := okS_int h4
    obtain ⟨v5, rfl, b5⟩ := okS_int h5
    obtain ⟨v6, rfl, b6⟩ := okS_int h6
    obtain ⟨v7, rfl, b7⟩ := okS_int h7
    obtain ⟨v8, rfl, b8⟩ := okS_int h8
    obtain ⟨v9, rfl, b9⟩ := okS_int h9
    exact ⟨⟨⟨v0, v1⟩, ⟨v2, v3⟩, ⟨v4, v5⟩, ⟨v6, v7⟩, ⟨v8, v9⟩⟩, rfl, b0, b1, b2, b3, b4, b5, b6, b7, b8, b9⟩
instance : Sh Point where
  ss := [.int .i64, .int .i64, .int .i64, .int .i64]
  good a := ok64 a.p0 ∧ ok64 a.p1 ∧ ok64 a.p2 ∧ ok64 a.p3
  len := rfl
  read xs h := by
    obtain ⟨x0, xs, rfl, h0, h⟩ := okR_cons h
    obtain ⟨x1, xs, rfl, h1, h⟩ := okR_cons h
    obtain ⟨x2, xs, rfl, h2, h⟩ := okR_cons h
    obtain ⟨x3, xs, rfl, h3, h⟩ := okR_cons h
    obtain rfl := okR_nil h
    obtain ⟨v0, rfl, b0⟩ := okS_int h0
    obtain ⟨v1, rfl, b1⟩ := okS_int h1
    obtain ⟨v2, rfl, b2⟩ := okS_int h2
    obtain ⟨v3, rfl, b3⟩ := okS_int h3
    exact ⟨⟨v0, v1, v2, v3⟩, rfl, b0, b1, b2, b3⟩
instance : Sh Bias where
  ss := [.int .i64, .int .i64, .int .i64]
  good a := ok64 a.b0 ∧ ok64 a.b1 ∧ ok64 a.b2
  len := rfl
  read xs h := by
    obtain ⟨x0, xs, rfl, h0, h⟩ := okR_cons h
    obtain ⟨x1, xs, rfl, h1, h⟩ := okR_cons h
    obtain ⟨x2, xs, rfl, h2, h⟩ := okR_cons h
    obtain rfl := okR_nil h
    obtain ⟨v0, rfl, b0⟩ := okS_int h0
    obtain ⟨v1, rfl, b1⟩ := okS_int h1
    obtain ⟨v2, rfl, b2⟩ := okS_int h2
    exact ⟨⟨v0, v1, v2⟩, rfl, b0, b1, b2⟩
instance : Sh Node where
  ss := [.bool, .int .i64, .int .i64, .int .i64, .int .i64, .int .i64]
  good a := True ∧ ok64 a.value ∧ ok64 a.feature ∧ ok64 a.cut ∧ ok64 a.left ∧ ok64 a.right
  len := rfl
  read xs h := by
    obtain ⟨x0, xs, rfl, h0, h⟩ := okR_cons h
    obtain ⟨x1, xs, rfl, h1, h⟩ := okR_cons h
    obtain ⟨x2, xs, rfl, h2, h⟩ := okR_cons h
    obtain ⟨x3, xs, rfl, h3, h⟩ := okR_cons h
    obtain ⟨x4, xs, rfl, h4, h⟩ := okR_cons h
    obtain ⟨x5, xs, rfl, h5, h⟩ := okR_cons h
    obtain rfl := okR_nil h
    obtain ⟨v0, rfl⟩ := okS_bool h0
    obtain ⟨v1, rfl, b1⟩ := okS_int h1
    obtain ⟨v2, rfl, b2⟩ := okS_int h2
    obtain ⟨v3, rfl, b3⟩ := okS_int h3
    obtain ⟨v4, rfl, b4⟩ := okS_int h4
    obtain ⟨v5, rfl, b5⟩ := okS_int h5
    exact ⟨⟨v0, v1, v2, v3, v4, v5⟩, rfl, trivial, b1, b2, b3, b4, b5⟩
instance : Sh Tree where
  ss := [.int .i64, .sl (Sh.ss Word)]
  good a := ok64 a.cls ∧ ((∀ x ∈ a.nodes, Sh.good x) ∧ a.nodes.length ≤ maxLen)
  len := rfl
  read xs h := by
    obtain ⟨x0, xs, rfl, h0, h⟩ := okR_cons h
    obtain ⟨x1, xs, rfl, h1, h⟩ := okR_cons h
    obtain rfl := okR_nil h
    obtain ⟨v0, rfl, b0⟩ := okS_int h0
    obtain ⟨v1, rfl, b1⟩ := okS_list (α := Word) h1
    exact ⟨⟨v0, v1⟩, rfl, b0, b1⟩
instance : Sh Model where
  ss := [.int .i64, .int .i64, .int .i64, .int .i64, .int .i64, .sl (Sh.ss Tree)]
  good a := ok64 a.dim ∧ ok64 a.classes ∧ ok64 a.bias.b0 ∧ ok64 a.bias.b1 ∧ ok64 a.bias.b2 ∧ ((∀ x ∈ a.trees, Sh.good x) ∧ a.trees.length ≤ maxLen)
  len := rfl
  read xs h := by
    obtain ⟨x0, xs, rfl, h0, h⟩ := okR_cons h
    obtain ⟨x1, xs, rfl, h1, h⟩ := okR_cons h
    obtain ⟨x2, xs, rfl, h2, h⟩ := okR_cons h
    obtain ⟨x3, xs, rfl, h3, h⟩ := okR_cons h
    obtain ⟨x4, xs, rfl, h4, h⟩ := okR_cons h
    obtain ⟨x5, xs, rfl, h5, h⟩ := okR_cons h
    obtain rfl := okR_nil h
    obtain ⟨v0, rfl, b0⟩ := okS_int h0
    obtain ⟨v1, rfl, b1⟩ := okS_int h1
    obtain ⟨v2, rfl, b2⟩ := okS_int h2
    obtain ⟨v3, rfl, b3⟩ := okS_int h3
    obtain ⟨v4, rfl, b4⟩ := okS_int h4
    obtain ⟨v5, rfl, b5⟩ := okS_list (α := Tree) h5
    exact ⟨⟨v0, v1, ⟨v2, v3, v4⟩, v5⟩, rfl, b0, b1, b2, b3, b4, b5⟩
instance : Sh Piece where
  ss := [.int .i64, .int .i64, .int .i64, .int .i64, .int .i64, .int .i64, .int .i64, .int .i64, .int .i64, .int .i64, .int .i64]
  good a := ok64 a.box.s0.lo ∧ ok64 a.box.s0.hi ∧ ok64 a.box.s1.lo ∧ ok64 a.box.s1.hi ∧ ok64 a.box.s2.lo ∧ ok64 a.box.s2.hi ∧ ok64 a.box.s3.lo ∧ ok64 a.box.s3.hi ∧ ok64 a.box.s4.lo ∧ ok64 a.box.s4.hi ∧ ok64 a.value
  len := rfl
  read xs h := by
    obtain ⟨x0, xs, rfl, h0, h⟩ := okR_cons h
    obtain ⟨x1, xs, rfl, h1, h⟩ := okR_cons h
    obtain ⟨x2, xs, rfl, h2, h⟩ := okR_cons h
    obtain ⟨x3, xs, rfl, h3, h⟩ := okR_cons h
    obtain ⟨x4, xs, rfl, h4, h⟩ := okR_cons h
    obtain ⟨x5, xs, rfl, h5, h⟩ := okR_cons h
    obtain ⟨x6, xs, rfl, h6, h⟩ := okR_cons h
    obtain ⟨x7, xs, rfl, h7, h⟩ := okR_cons h
    obtain ⟨x8, xs, rfl, h8, h⟩ := okR_cons h
    obtain ⟨x9, xs, rfl, h9, h⟩ := okR_cons h
    obtain ⟨x10, xs, rfl, h10, h⟩ := okR_cons h
    obtain rfl := okR_nil h
    obtain ⟨v0, rfl, b0⟩ := okS_int h0
    obtain ⟨v1, rfl, b1⟩ := okS_int h1
    obtain ⟨v2, rfl, b2⟩ := okS_int h2
    obtain ⟨v3, rfl, b3⟩ := okS_int h3
    obtain ⟨v4, rfl, b4⟩ := okS_int h4
    obtain ⟨v5, rfl, b5⟩ := okS_int h5
    obtain ⟨v6, rfl, b6⟩ := okS_int h6
    obtain ⟨v7, rfl, b7⟩ := okS_int h7
    obtain ⟨v8, rfl, b8⟩ := okS_int h8
    obtain ⟨v9, rfl, b9⟩ := okS_int h9
    obtain ⟨v10, rfl, b10⟩ := okS_int h10
    exact ⟨⟨⟨⟨v0, v1⟩, ⟨v2, v3⟩, ⟨v4, v5⟩, ⟨v6, v7⟩, ⟨v8, v9⟩⟩, v10⟩, rfl, b0, b1, b2, b3, b4, b5, b6, b7, b8, b9, b10⟩
instance : Sh Step where
  ss := [.bool, .int .i64, .int .i64]
  good a := True ∧ ok64 a.place ∧ ok64 a.cut
  len := rfl
  read xs h := by
    obtain ⟨x0, xs, rfl, h0, h⟩ := okR_cons h
    obtain ⟨x1, xs, rfl, h1, h⟩ := okR_cons h
    obtain ⟨x2, xs, rfl, h2, h⟩ := okR_cons h
    obtain rfl := okR_nil h
    obtain ⟨v0, rfl⟩ := okS_bool h0
    obtain ⟨v1, rfl, b1⟩ := okS_int h1
    obtain ⟨v2, rfl, b2⟩ := okS_int h2
    exact ⟨⟨v0, v1, v2⟩, rfl, trivial, b1, b2⟩
instance : Sh Query where
  ss := [.int .i64, .int .i64, .int .i64, .int .i64, .int .i64, .int .i64, .int .i64, .int .i64, .int .i64, .int .i64, .int .i64, .int .i64, .int .i64, .int .i64, .int .i64, .bool, .int .i64]
  good a := ok64 a.kind ∧ ok64 a.cls ∧ ok64 a.region.s0.lo ∧ ok64 a.region.s0.hi ∧ ok64 a.region.s1.lo ∧ ok64 a.region.s1.hi ∧ ok64 a.region.s2.lo ∧ ok64 a.region.s2.hi ∧ ok64 a.region.s3.lo ∧ ok64 a.region.s3.hi ∧ ok64 a.region.s4.lo ∧ ok64 a.region.s4.hi ∧ ok64 a.lo ∧ ok64 a.hi ∧ ok64 a.feature ∧ True ∧ ok64 a.budget
  len := rfl
  read xs h := by
    obtain ⟨x0, xs, rfl, h0, h⟩ := okR_cons h
    obtain ⟨x1, xs, rfl, h1, h⟩ := okR_cons h
    obtain ⟨x2, xs, rfl, h2, h⟩ := okR_cons h
    obtain ⟨x3, xs, rfl, h3, h⟩ := okR_cons h
    obtain ⟨x4, xs, rfl, h4, h⟩ := okR_cons h
    obtain ⟨x5, xs, rfl, h5, h⟩ := okR_cons h
    obtain ⟨x6, xs, rfl, h6, h⟩ := okR_cons h
    obtain ⟨x7, xs, rfl, h7, h⟩ := okR_cons h
    obtain ⟨x8, xs, rfl, h8, h⟩ := okR_cons h
    obtain ⟨x9, xs, rfl, h9, h⟩ := okR_cons h
    obtain ⟨x10, xs, rfl, h10, h⟩ := okR_cons h
    obtain ⟨x11, xs, rfl, h11, h⟩ := okR_cons h
    obtain ⟨x12, xs, rfl, h12, h⟩ := okR_cons h
    obtain ⟨x13, xs, rfl, h13, h⟩ := okR_cons h
    obtain ⟨x14, xs, rfl, h14, h⟩ := okR_cons h
    obtain ⟨x15, xs, rfl, h15, h⟩ := okR_cons h
    obtain ⟨x16, xs, rfl, h16, h⟩ := okR_cons h
    obtain rfl := okR_nil h
    obtain ⟨v0, rfl, b0⟩ := okS_int h0
    obtain ⟨v1, rfl, b1⟩ := okS_int h1
    obtain ⟨v2, rfl, b2⟩ := okS_int h2
    obtain ⟨v3, rfl, b3⟩ := okS_int h3
    obtain ⟨v4, rfl, b4⟩ := okS_int h4
    obtain ⟨v5, rfl, b5⟩ := okS_int h5
    obtain ⟨v6, rfl, b6⟩ := okS_int h6
    obtain ⟨v7, rfl, b7⟩ := okS_int h7
    obtain ⟨v8, rfl, b8⟩ := okS_int h8
    obtain ⟨v9, rfl, b9⟩ := okS_int h9
    obtain ⟨v10, rfl, b10⟩ := okS_int h10
    obtain ⟨v11, rfl, b11⟩ := okS_int h11
    obtain ⟨v12, rfl, b12⟩ := okS_int h12
    obtain ⟨v13, rfl, b13⟩ := okS_int h13
    obtain ⟨v14, rfl, b14⟩ := okS_int h14
    obtain ⟨v15, rfl⟩ := okS_bool h15
    obtain ⟨v16, rfl, b16⟩ := okS_int h16
    exact ⟨⟨v0, v1, ⟨⟨v2, v3⟩, ⟨v4, v5⟩, ⟨v6, v7⟩, ⟨v8, v9⟩, ⟨v10, v11⟩⟩, v12, v13, v14, v15, v16⟩, rfl, b0, b1, b2, b3, b4, b5, b6, b7, b8, b9, b10, b11, b12, b13, b14, trivial, b16⟩
instance : Sh Verdict where
  ss := [.int .i64, .sl (Sh.ss Step), .int .i64, .int .i64, .int .i64, .int .i64, .int .i64, .int .i64]
  good a := ok64 a.kind ∧ ((∀ x ∈ a.proof, Sh.good x) ∧ a.proof.length ≤ maxLen) ∧ ok64 a.witness.p0 ∧ ok64 a.witness.p1 ∧ ok64 a.witness.p2 ∧ ok64 a.witness.p3 ∧ ok64 a.twin ∧ ok64 a.spent
  len := rfl
  read xs h := by
    obtain ⟨x0, xs, rfl, h0, h⟩ := okR_cons h
    obtain ⟨x1, xs, rfl, h1, h⟩ := okR_cons h
    obtain ⟨x2, xs, rfl, h2, h⟩ := okR_cons h
    obtain ⟨x3, xs, rfl, h3, h⟩ := okR_cons h
    obtain ⟨x4, xs, rfl, h4, h⟩ := okR_cons h
    obtain ⟨x5, xs, rfl, h5, h⟩ := okR_cons h
    obtain ⟨x6, xs, rfl, h6, h⟩ := okR_cons h
    obtain ⟨x7, xs, rfl, h7, h⟩ := okR_cons h
    obtain rfl := okR_nil h
    obtain ⟨v0, rfl, b0⟩ := okS_int h0
    obtain ⟨v1, rfl, b1⟩ := okS_list (α := Step) h1
    obtain ⟨v2, rfl, b2⟩ := okS_int h2
    obtain ⟨v3, rfl, b3⟩ := okS_int h3
    obtain ⟨v4, rfl, b4⟩ := okS_int h4
    obtain ⟨v5, rfl, b5⟩ := okS_int h5
    obtain ⟨v6, rfl, b6⟩ := okS_int h6
    obtain ⟨v7, rfl, b7⟩ := okS_int h7
    exact ⟨⟨v0, v1, ⟨v2, v3, v4, v5⟩, v6, v7⟩, rfl, b0, b1, b2, b3, b4, b5, b6, b7⟩
instance : Sh KTree where
  ss := [.int .i64, .sl (Sh.ss Int), .sl (Sh.ss Int), .sl (Sh.ss Int), .sl (Sh.ss Int)]
  good a := ok64 a.cls ∧ ((∀ x ∈ a.part, Sh.good x) ∧ a.part.length ≤ maxLen) ∧ ((∀ x ∈ a.dir, Sh.good x) ∧ a.dir.length ≤ maxLen) ∧ ((∀ x ∈ a.cut, Sh.good x) ∧ a.cut.length ≤ maxLen) ∧ ((∀ x ∈ a.val, Sh.good x) ∧ a.val.length ≤ maxLen)
  len := rfl
  read xs h := by
    obtain ⟨x0, xs, rfl, h0, h⟩ := okR_cons h
    obtain ⟨x1, xs, rfl, h1, h⟩ := okR_cons h
    obtain ⟨x2, xs, rfl, h2, h⟩ := okR_cons h
    obtain ⟨x3, xs, rfl, h3, h⟩ := okR_cons h
    obtain ⟨x4, xs, rfl, h4, h⟩ := okR_cons h
    obtain rfl := okR_nil h
    obtain ⟨v0, rfl, b0⟩ := okS_int h0
    obtain ⟨v1, rfl, b1⟩ := okS_list (α := Int) h1
    obtain ⟨v2, rfl, b2⟩ := okS_list (α := Int) h2
    obtain ⟨v3, rfl, b3⟩ := okS_list (α := Int) h3
    obtain ⟨v4, rfl, b4⟩ := okS_list (α := Int) h4
    exact ⟨⟨v0, v1, v2, v3, v4⟩, rfl, b0, b1, b2, b3, b4⟩
instance : Sh Forest where
  ss := [.int .i64, .int .i64, .sl (Sh.ss Int), .sl (Sh.ss KTree)]
  good a := ok64 a.dim ∧ ok64 a.classes ∧ ((∀ x ∈ a.bias, Sh.good x) ∧ a.bias.length ≤ maxLen) ∧ ((∀ x ∈ a.trees, Sh.good x) ∧ a.trees.length ≤ maxLen)
  len := rfl
  read xs h := by
    obtain ⟨x0, xs, rfl, h0, h⟩ := okR_cons h
    obtain ⟨x1, xs, rfl, h1, h⟩ := okR_cons h
    obtain ⟨x2, xs, rfl, h2, h⟩ := okR_cons h
    obtain ⟨x3, xs, rfl, h3, h⟩ := okR_cons h
    obtain rfl := okR_nil h
    obtain ⟨v0, rfl, b0⟩ := okS_int h0
    obtain ⟨v1, rfl, b1⟩ := okS_int h1
    obtain ⟨v2, rfl, b2⟩ := okS_list (α := Int) h2
    obtain ⟨v3, rfl, b3⟩ := okS_list (α := KTree) h3
    exact ⟨⟨v0, v1, v2, v3⟩, rfl, b0, b1, b2, b3⟩
instance : Sh Ask where
  ss := [.int .i64, .int .i64, .int .i64, .int .i64, .int .i64, .int .i64, .bool, .sl (Sh.ss Int)]
  good a := ok64 a.kind ∧ ok64 a.cls ∧ ok64 a.lo ∧ ok64 a.size ∧ ok64 a.feature ∧ ok64 a.budget ∧ True ∧ ((∀ x ∈ a.spans, Sh.good x) ∧ a.spans.length ≤ maxLen)
  len := rfl
  read xs h := by
    obtain ⟨x0, xs, rfl, h0, h⟩ := okR_cons h
    obtain ⟨x1, xs, rfl, h1, h⟩ := okR_cons h
    obtain ⟨x2, xs, rfl, h2, h⟩ := okR_cons h
    obtain ⟨x3, xs, rfl, h3, h⟩ := okR_cons h
    obtain ⟨x4, xs, rfl, h4, h⟩ := okR_cons h
    obtain ⟨x5, xs, rfl, h5, h⟩ := okR_cons h
    obtain ⟨x6, xs, rfl, h6, h⟩ := okR_cons h
    obtain ⟨x7, xs, rfl, h7, h⟩ := okR_cons h
    obtain rfl := okR_nil h
    obtain ⟨v0, rfl, b0⟩ := okS_int h0
    obtain ⟨v1, rfl, b1⟩ := okS_int h1
    obtain ⟨v2, rfl, b2⟩ := okS_int h2
    obtain ⟨v3, rfl, b3⟩ := okS_int h3
    obtain ⟨v4, rfl, b4⟩ := okS_int h4
    obtain ⟨v5, rfl, b5⟩ := okS_int h5
    obtain ⟨v6, rfl⟩ := okS_bool h6
    obtain ⟨v7, rfl, b7⟩ := okS_list (α := Int) h7
    exact ⟨⟨v0, v1, v2, v3, v4, v5, v6, v7⟩, rfl, b0, b1, b2, b3, b4, b5, trivial, b7⟩
instance : Sh Cutting where
  ss := [.sl (Sh.ss Int), .sl (Sh.ss Int)]
  good a := ((∀ x ∈ a.place, Sh.good x) ∧ a.place.length ≤ maxLen) ∧ ((∀ x ∈ a.cut, Sh.good x) ∧ a.cut.length ≤ maxLen)
  len := rfl
  read xs h := by
    obtain ⟨x0, xs, rfl, h0, h⟩ := okR_cons h
    obtain ⟨x1, xs, rfl, h1, h⟩ := okR_cons h
    obtain rfl := okR_nil h
    obtain ⟨v0, rfl, b0⟩ := okS_list (α := Int) h0
    obtain ⟨v1, rfl, b1⟩ := okS_list (α := Int) h1
    exact ⟨⟨v0, v1⟩, rfl, b0, b1⟩
variable {P : Program} {t : TypeId} {x : AV}
theorem arg_agg {α : Type} [Row α] [Sh α] (h1 : isAggT P t = true) (h2 : shp P 20 t = some (Sh.ss α)) (h : argOk P t x) : ∃ a : α, x = .agg (Row.enc a) ∧ Sh.good a := by
  unfold argOk at h
  rw [h1] at h
  obtain ⟨xs, ss, rfl, hs, hr⟩ := h
  rw [h2] at hs
  cases hs
  obtain ⟨a, rfl, hg⟩ := Sh.read _ hr
  exact ⟨a, rfl, hg⟩
theorem arg_cell {s : Shp} (h1 : isAggT P t = false) (h2 : shp P 20 t = some [s]) (h : argOk P t x) : okS s x := by
  unfold argOk at h
  rw [h1] at h
  obtain ⟨s', hs, hr⟩ := h
  rw [h2] at hs
  cases hs
  exact hr
theorem arg_int (h1 : isAggT P t = false) (h2 : shp P 20 t = some [.int .i64]) (h : argOk P t x) : ∃ n, x = .int .i64 n ∧ ok64 n := okS_int (arg_cell h1 h2 h)
theorem arg_list {α : Type} [Row α] [Sh α] (h1 : isAggT P t = false) (h2 : shp P 20 t = some [.sl (Sh.ss α)]) (h : argOk P t x) : ∃ l : List α, x = .lst l.length (encL l) ∧ (∀ a ∈ l, Sh.good a) ∧ l.length ≤ maxLen := okS_list (arg_cell h1 h2 h)
theorem argsOk_cons {t : TypeId} {ts : List TypeId} {xs : List AV} (h : argsOk P (t :: ts) xs) : ∃ x ys, xs = x :: ys ∧ argOk P t x ∧ argsOk P ts ys := by
  cases xs with
  | nil => simp [argsOk] at h
  | cons x xs => simp only [argsOk] at h; exact ⟨x, xs, rfl, h.1, h.2⟩
theorem argsOk_nil {xs : List AV} (h : argsOk P [] xs) : xs = [] := by
  cases xs with
  | nil => rfl
  | cons x xs => simp [argsOk] at h
end Go.Co
