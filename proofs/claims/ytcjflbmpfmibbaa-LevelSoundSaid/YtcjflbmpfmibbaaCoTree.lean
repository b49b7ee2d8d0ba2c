/- CO: right trees of words; a tree that is grown of numbers is right. -/
import Derived.Test.YtcjflbmpfmibbaaCoDef
import Derived.Test.YtcjflbmpfmibbaaCoBits
namespace Go.Co
/-! ### words and their nodes -/
theorem pack_okW (n : Node) : okW (pack n).v := by
  unfold pack okW
  split
  · rename_i h
    obtain ⟨leaf, value, feature, cut, left, right⟩ := n
    cases leaf <;> simp [rightNode, fits] at h ⊢ <;> omega
  · simp
theorem raw_pack (n : Node) (h : rightNode n = true) : raw (pack n).v = n := by
  obtain ⟨leaf, value, feature, cut, left, right⟩ := n
  have hb := h
  unfold pack raw
  rw [if_pos h]
  cases leaf
  · simp [rightNode, fits] at hb
    obtain ⟨⟨⟨⟨⟨⟨⟨h0, h1⟩, h2⟩, h3, h4⟩, h5⟩, h6⟩, h7⟩, h8⟩ := hb
    have e : (cut % 4294967296 + feature * 4294967296 + left * 1099511627776 + right * 281474976710656) / 9223372036854775808 ≠ 1 := by omega
    simp only [Bool.false_eq_true, if_false, wrap32, if_neg e, Node.mk.injEq, true_and]
    refine ⟨?_, ?_, ?_, ?_, ?_⟩ <;> omega
  · simp [rightNode, fits] at hb
    obtain ⟨⟨⟨⟨⟨h0, h1⟩, h2⟩, h3⟩, h4⟩, h5⟩ := hb
    have e : (9223372036854775808 + value % 4294967296) / 9223372036854775808 = 1 := by omega
    simp only [if_true, wrap32, if_pos e, Node.mk.injEq, true_and, h2, h3, h4, h5, and_true]
    omega
theorem unpack_pack (n : Node) (h : rightNode n = true) : unpack (pack n) = (n, true) := by
  unfold unpack
  rw [raw_pack n h]
  simp [h]
theorem unpack_true {w : Word} (h : (unpack w).2 = true) : rightNode (unpack w).1 = true ∧ pack (unpack w).1 = w := by
  unfold unpack at *
  split at h
  · rename_i hh
    rw [if_pos hh]
    simpa using hh
  · cases h
def nd (w : Word) : Node := (unpack w).1
theorem nd_pack (n : Node) (h : rightNode n = true) : nd (pack n) = n := by unfold nd; rw [unpack_pack n h]
def names (n : Node) (j : Nat) : Bool := !n.leaf && (decide (n.left = j) || decide (n.right = j))
structure RT (l : List Word) (dim : Int) : Prop where
  ok : ∀ (i : Nat) (h : i < l.length), okW l[i].v ∧ (unpack l[i]).2 = true
  pos : 1 ≤ l.length
  le : l.length ≤ 31
  inner : ∀ (i : Nat) (h : i < l.length), (nd l[i]).leaf = false → (nd l[i]).feature < dim ∧ (nd l[i]).left ≠ (nd l[i]).right ∧ (i : Int) < (nd l[i]).left ∧ (nd l[i]).left < l.length ∧ (i : Int) < (nd l[i]).right ∧ (nd l[i]).right < l.length
  once : ∀ j : Nat, 1 ≤ j → j < l.length → l.countP (fun w => names (nd w) j) = 1
structure NT (l : List Node) (dim : Int) : Prop where
  ok : ∀ n ∈ l, rightNode n = true
  pos : 1 ≤ l.length
  le : l.length ≤ 31
  inner : ∀ (i : Nat) (h : i < l.length), l[i].leaf = false → l[i].feature < dim ∧ l[i].left ≠ l[i].right ∧ (i : Int) < l[i].left ∧ l[i].left < l.length ∧ (i : Int) < l[i].right ∧ l[i].right < l.length
  once : ∀ j : Nat, 1 ≤ j → j < l.length → l.countP (fun n => names n j) = 1
theorem NT.words {l : List Node} {dim : Int} (h : NT l dim) : RT (l.map pack) dim := by
  have hp : ∀ (i : Nat) (hi : i < l.length), nd (pack l[i]) = l[i] := fun i hi => nd_pack _ (h.ok _ (List.getElem_mem hi))
  refine ⟨?_, by simpa using h.pos, by simpa using h.le, ?_, ?_⟩
  · intro i hi
    simp only [List.getElem_map]
    have hi2 : i < l.length := by simpa using hi
    exact ⟨pack_okW _, by rw [unpack_pack _ (h.ok _ (List.getElem_mem hi2))]⟩
  · intro i hi
    have hi2 : i < l.length := by simpa using hi
    simp only [List.getElem_map, List.length_map, hp i hi2]
    exact h.inner i hi2
  · intro j h1 h2
    rw [List.countP_map]
    rw [← h.once j h1 (by simpa using h2)]
    refine List.countP_congr fun n hn => ?_
    simp [nd_pack n (h.ok n hn)]
/-! ### growing -/
def leafN (v : Int) : Node := ⟨true, v, 0, 0, 0, 0⟩
structure Gr where
  nodes : List Node
  leaves : List Int
def grow0 (t : KTree) : Gr := ⟨[leafN (within (pick t.val 0) (-3000) 3000)], [0]⟩
def growK (t : KTree) (i : Nat) (s : Gr) : Nat := (within (t.part.getD i 0) 0 (s.leaves.length - 1)).toNat
def growN (t : KTree) (dim : Int) (i : Nat) (n : Int) : Node := ⟨false, 0, within (pick t.dir i) 0 (dim - 1), within (pick t.cut i) 0 9, n, n + 1⟩
def growS (t : KTree) (dim : Int) (i : Nat) (s : Gr) : Gr :=
  ⟨s.nodes.set (s.leaves.getD (growK t i s) 0).toNat (growN t dim i s.nodes.length) ++ [leafN (within (pick t.val (2 * i + 1)) (-3000) 3000), leafN (within (pick t.val (2 * i + 2)) (-3000) 3000)],
    s.leaves.take (growK t i s) ++ s.leaves.drop (growK t i s + 1) ++ [(s.nodes.length : Int), s.nodes.length + 1]⟩
def grow (t : KTree) (dim : Int) : Nat → Gr
  | 0 => grow0 t
  | i + 1 => growS t dim i (grow t dim i)
def treeNodes (t : KTree) (dim : Int) : List Word := (grow t dim (min t.part.length 7)).nodes.map pack
theorem within_le (n lo hi : Int) (h : lo ≤ hi) : lo ≤ within n lo hi ∧ within n lo hi ≤ hi := by
  unfold within
  have h1 := Int.emod_nonneg n (show hi - lo + 1 ≠ 0 by omega)
  have h2 := Int.emod_lt_of_pos n (show 0 < hi - lo + 1 by omega)
  omega
theorem right_leafN (n : Int) : rightNode (leafN (within n (-3000) 3000)) = true := by
  have := within_le n (-3000) 3000 (by omega)
  have h1 : fits (within n (-3000) 3000) = true := by
    unfold fits
    rw [Bool.and_eq_true, decide_eq_true_eq, decide_eq_true_eq]
    omega
  simp [rightNode, leafN, h1]
structure GI (dim : Int) (i : Nat) (s : Gr) : Prop where
  len : s.nodes.length = 2 * i + 1
  lvs : s.leaves.length = i + 1
  leaf : ∀ x ∈ s.leaves, 0 ≤ x ∧ ∃ h : x.toNat < s.nodes.length, (s.nodes[x.toNat]).leaf = true
  dis : s.leaves.Nodup
  ok : ∀ n ∈ s.nodes, rightNode n = true
  val : ∀ n ∈ s.nodes, -3000 ≤ n.value ∧ n.value ≤ 3000
  inner : ∀ (i : Nat) (h : i < s.nodes.length), s.nodes[i].leaf = false → s.nodes[i].feature < dim ∧ 0 ≤ s.nodes[i].cut ∧ s.nodes[i].cut ≤ 9 ∧ (i : Int) < s.nodes[i].left ∧ s.nodes[i].right = s.nodes[i].left + 1 ∧ s.nodes[i].right < s.nodes.length
  once : ∀ j : Nat, 1 ≤ j → j < s.nodes.length → s.nodes.countP (fun n => names n j) = 1
theorem gi0 (t : KTree) (dim : Int) : GI dim 0 (grow0 t) := by
  refine ⟨rfl, rfl, ?_, by simp [grow0], ?_, ?_, ?_, ?_⟩
  · intro x hx
    simp [grow0] at hx
    subst hx
    exact ⟨by omega, by simp [grow0], rfl⟩
  · intro n hn
    simp [grow0] at hn
    subst hn
    exact right_leafN _
  · intro n hn
    simp [grow0] at hn
    subst hn
    exact within_le _ _ _ (by omega)
  · intro i h hl
    simp [grow0] at h
    subst h
    simp [grow0, leafN] at hl
  · intro j h1 h2
    simp [grow0] at h2
    omega
theorem nodup_cut {l : List Int} (h : l.Nodup) (k : Nat) : (l.take k ++ l.drop (k + 1)).Nodup := by
  refine List.Nodup.sublist ?_ h
  have : l.take k ++ l.drop (k + 1) = l.eraseIdx k := (List.eraseIdx_eq_take_drop_succ l k).symm
  rw [this]
  exact List.eraseIdx_sublist l k
theorem mem_cut_ne {l : List Int} (h : l.Nodup) (k : Nat) (hk : k < l.length) {x : Int} (hx : x ∈ l.take k ++ l.drop (k + 1)) : x ∈ l ∧ x ≠ l[k] := by
  rw [← List.eraseIdx_eq_take_drop_succ] at hx
  rw [List.mem_eraseIdx_iff_getElem] at hx
  obtain ⟨j, hj, hne, rfl⟩ := hx
  refine ⟨List.getElem_mem _, fun e => ?_⟩
  rw [List.Nodup] at h
  exact hne ((List.getElem_inj (h₀ := hj) (h₁ := hk) h).1 e)
theorem gi_step (t : KTree) (dim : Int) (i : Nat) (s : Gr) (hd : 1 ≤ dim) (hd4 : dim ≤ 4) (hi : i < 7) (h : GI dim i s) : GI dim (i + 1) (growS t dim i s) := by
  obtain ⟨len, lvs, leaf, dis, ok, val, inner, once⟩ := h
  have hk := within_le (t.part.getD i 0) 0 (s.leaves.length - 1) (by omega)
  have hk2 : growK t i s < s.leaves.length := by unfold growK; omega
  unfold growS
  generalize growK t i s = k at *
  have hat : s.leaves.getD k 0 = s.leaves[k] := by simp [hk2]
  obtain ⟨h0, hl1, hl2⟩ := leaf _ (List.getElem_mem hk2)
  rw [hat]
  generalize ha : s.leaves[k].toNat = a at *
  have hw1 := within_le (pick t.dir i) 0 (dim - 1) (by omega)
  have hw2 := within_le (pick t.cut i) 0 9 (by omega)
  generalize hN : growN t dim i s.nodes.length = N at *
  have N1 : N.leaf = false := by rw [← hN]; rfl
  have N2 : N.left = s.nodes.length := by rw [← hN]; rfl
  have N3 : N.right = s.nodes.length + 1 := by rw [← hN]; rfl
  have N4 : 0 ≤ N.feature ∧ N.feature < dim := by rw [← hN]; unfold growN; simp only; omega
  have N5 : 0 ≤ N.cut ∧ N.cut ≤ 9 := by rw [← hN]; unfold growN; simp only; omega
  have N6 : N.value = 0 := by rw [← hN]; rfl
  have hR := right_leafN (pick t.val (2 * i + 1))
  have hR2 := right_leafN (pick t.val (2 * i + 2))
  have hv := within_le (pick t.val (2 * i + 1)) (-3000) 3000 (by omega)
  have hv2 := within_le (pick t.val (2 * i + 2)) (-3000) 3000 (by omega)
  generalize within (pick t.val (2 * i + 1)) (-3000) 3000 = v1 at *
  generalize within (pick t.val (2 * i + 2)) (-3000) 3000 = v2 at *
  have hlen : (s.nodes.set a N ++ [leafN v1, leafN v2]).length = s.nodes.length + 2 := by simp
  have hget : ∀ (j : Nat) (hj : j < (s.nodes.set a N ++ [leafN v1, leafN v2]).length), (s.nodes.set a N ++ [leafN v1, leafN v2])[j] = if j = a then N else if h : j < s.nodes.length then s.nodes[j] else if j = s.nodes.length then leafN v1 else leafN v2 := by
    intro j hj
    rw [List.getElem_append]
    by_cases h1 : j < s.nodes.length
    · simp only [List.length_set, h1, dif_pos, List.getElem_set]
      by_cases h2 : j = a
      · simp [h2]
      · have : ¬ a = j := fun e => h2 e.symm
        simp [h2, this]
    · have h2 : ¬ j = a := by omega
      simp only [List.length_set, h1, dif_neg, not_false_iff, h2, if_false]
      have : j = s.nodes.length ∨ j = s.nodes.length + 1 := by simp at hj; omega
      rcases this with rfl | rfl
      · simp
      · simp
  have hmem : ∀ n ∈ s.nodes.set a N ++ [leafN v1, leafN v2], n = N ∨ n ∈ s.nodes ∨ n = leafN v1 ∨ n = leafN v2 := by
    intro n hn
    rw [List.mem_append] at hn
    rcases hn with hn | hn
    · rcases List.mem_or_eq_of_mem_set hn with h1 | h1
      · exact Or.inr (Or.inl h1)
      · exact Or.inl h1
    · simp at hn
      rcases hn with h1 | h1
      · exact Or.inr (Or.inr (Or.inl h1))
      · exact Or.inr (Or.inr (Or.inr h1))
  refine ⟨by simp only [hlen]; omega, ?_, ?_, ?_, ?_, ?_, ?_, ?_⟩
  · simp
    omega
  · intro x hx
    rw [List.mem_append] at hx
    rcases hx with hx | hx
    · obtain ⟨hx1, hx2⟩ := mem_cut_ne dis k hk2 hx
      obtain ⟨hx0, hx3, hx4⟩ := leaf x hx1
      have hne : ¬ x.toNat = a := by
        intro e
        apply hx2
        omega
      refine ⟨hx0, by rw [hlen]; omega, ?_⟩
      rw [hget, if_neg hne, dif_pos hx3]
      exact hx4
    · simp at hx
      rcases hx with rfl | rfl
      · refine ⟨by omega, by rw [hlen]; omega, ?_⟩
        rw [hget, if_neg (by omega), dif_neg (by omega)]
        simp [leafN]
      · refine ⟨by omega, by rw [hlen]; omega, ?_⟩
        rw [hget, if_neg (by omega), dif_neg (by omega)]
        split <;> rfl
  · rw [List.nodup_append]
    refine ⟨nodup_cut dis k, ?_, ?_⟩
    · simp
      omega
    · intro x hx y hy e
      subst e
      obtain ⟨hx1, hx2⟩ := mem_cut_ne dis k hk2 hx
      obtain ⟨hx0, hx3, hx4⟩ := leaf x hx1
      simp at hy
      omega
  · intro n hn
    rcases hmem n hn with rfl | h1 | rfl | rfl
    · simp [rightNode, N1, N2, N3, N6, fits]
      omega
    · exact ok n h1
    · exact hR
    · exact hR2
  · intro n hn
    rcases hmem n hn with rfl | h1 | rfl | rfl
    · omega
    · exact val n h1
    · exact hv
    · exact hv2
  · intro j hj
    simp only [hlen]
    rw [hget j hj]
    intro hl
    split at hl
    · rename_i e
      subst e
      simp only [if_true]
      omega
    · rename_i e
      rw [if_neg e]
      split at hl
      · rename_i hj2
        rw [dif_pos hj2]
        have := inner j hj2 hl
        omega
      · split at hl <;> cases hl
  · intro j h1 h2
    rw [hlen] at h2
    rw [List.countP_append, List.countP_set hl1]
    have e1 : names s.nodes[a] j = false := by simp [names, hl2]
    have e2 : names (leafN v1) j = false := by simp [names, leafN]
    have e3 : names (leafN v2) j = false := by simp [names, leafN]
    simp only [e1, List.countP_cons, e2, e3, List.countP_nil, Bool.false_eq_true, if_false]
    by_cases hj : j < s.nodes.length
    · have e4 : names N j = false := by simp [names, N1, N2, N3]; omega
      simp [e4, once j h1 hj]
    · have e4 : names N j = true := by simp [names, N1, N2, N3]; omega
      have e5 : s.nodes.countP (fun n => names n j) = 0 := by
        rw [List.countP_eq_zero]
        intro n hn
        obtain ⟨m, hm, rfl⟩ := List.getElem_of_mem hn
        intro hc
        simp [names] at hc
        have := inner m hm hc.1
        omega
      simp [e4, e5]
theorem gi (t : KTree) (dim : Int) (hd : 1 ≤ dim) (hd4 : dim ≤ 4) : ∀ i, i ≤ 7 → GI dim i (grow t dim i)
  | 0, _ => gi0 t dim
  | i + 1, h => gi_step t dim i _ hd hd4 (by omega) (gi t dim hd hd4 i (by omega))
theorem GI.nt {dim : Int} {i : Nat} {s : Gr} (hi : i ≤ 7) (h : GI dim i s) : NT s.nodes dim := by
  refine ⟨h.ok, by have := h.len; omega, by have := h.len; omega, ?_, h.once⟩
  intro j hj hl
  have := h.inner j hj hl
  omega
theorem rt_treeNodes (t : KTree) (dim : Int) (hd : 1 ≤ dim) (hd4 : dim ≤ 4) : RT (treeNodes t dim) dim :=
  ((gi t dim hd hd4 _ (Nat.min_le_right _ _)).nt (Nat.min_le_right _ _)).words
end Go.Co
