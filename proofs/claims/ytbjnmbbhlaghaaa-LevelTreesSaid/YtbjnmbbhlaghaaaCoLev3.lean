/- CO: a tree and its mirror. -/
import Derived.Test.YtbjnmbbhlaghaaaCoLev2
namespace Go.Co
open Go.Am
set_option linter.unusedSimpArgs false
set_option linter.unusedVariables false

def mirN (n : Node) : Node := { n with value := -n.value }
def mirW (w : Word) : Word := pack (mirN (nd w))
def mirT (t : Tree) : Tree := ⟨t.cls, t.nodes.map mirW⟩
def mirM (m : Model) : Model := { m with trees := m.trees.map mirT }
def oneM (dim : Int) (ts : List Tree) : Model := ⟨dim, 1, ⟨0, 0, 0⟩, ts⟩

theorem mir_right {n : Node} (h : rightNode n = true) (hv : -2147483648 < n.value) : rightNode (mirN n) = true := by
  unfold rightNode at *
  unfold mirN
  simp only at *
  split at h
  · rename_i hl
    rw [if_pos hl]
    simp only [Bool.and_eq_true] at *
    refine ⟨⟨⟨⟨?_, h.1.1.1.2⟩, h.1.1.2⟩, h.1.2⟩, h.2⟩
    have := of_fits h.1.1.1.1
    exact fits_of (by omega)
  · rename_i hl
    rw [if_neg hl]
    simp only [Bool.and_eq_true, decide_eq_true_eq] at *
    obtain ⟨⟨⟨⟨⟨⟨⟨h1, h2⟩, h3⟩, h4⟩, h5⟩, h6⟩, h7⟩, h8⟩ := h
    exact ⟨⟨⟨⟨⟨⟨⟨by omega, h2⟩, h3⟩, h4⟩, h5⟩, h6⟩, h7⟩, h8⟩
section
variable {l : List Word} {dim : Int} (hr : RT l dim) (hv : ∀ i, i < l.length → -2147483648 < (ndAt l i).value)
include hr hv
theorem nd_mir {i : Nat} (h : i < l.length) : nd (mirW l[i]) = mirN (nd l[i]) := by
  have h1 := hv i h
  rw [ndAt_lt h] at h1
  have h2 := hr.node h
  rw [ndAt_lt h] at h2
  exact nd_pack _ (mir_right h2 h1)
theorem ndAt_mir (i : Nat) : ndAt (l.map mirW) i = if i < l.length then mirN (ndAt l i) else ndAt l i := by
  split
  · rename_i h
    rw [ndAt_lt (show i < (l.map mirW).length by simpa using h), List.getElem_map, nd_mir hr hv h, ndAt_lt h]
  · rename_i h
    unfold ndAt
    simp [h]
theorem mir_rt : RT (l.map mirW) dim := by
  refine ⟨?_, by simpa using hr.pos, by simpa using hr.le, ?_, ?_⟩
  · intro i h
    rw [List.getElem_map]
    have h' : i < l.length := by simpa using h
    have h1 := hv i h'
    have h2 := hr.node h'
    rw [ndAt_lt h'] at h1 h2
    refine ⟨pack_okW _, ?_⟩
    unfold mirW
    rw [unpack_pack _ (mir_right h2 h1)]
  · intro i h hl
    have h' : i < l.length := by simpa using h
    rw [List.getElem_map, nd_mir hr hv h'] at hl ⊢
    rw [List.length_map]
    exact hr.inner i h' hl
  · intro j h1 h2
    rw [List.countP_map]
    rw [← hr.once j h1 (by simpa using h2)]
    apply List.countP_congr
    intro w hw
    obtain ⟨i, hi, rfl⟩ := List.mem_iff_getElem.1 hw
    simp only [Function.comp_apply, nd_mir hr hv hi]
    rfl
theorem walk_mir (p : Point) : ∀ (f i : Nat), walk (l.map mirW) p f i = walk l p f i
  | 0, i => rfl
  | f + 1, i => by
    rw [walk, walk, ndAt_mir hr hv i]
    have e1 : (if i < l.length then mirN (ndAt l i) else ndAt l i).leaf = (ndAt l i).leaf := by split <;> rfl
    have e2 : nxt (if i < l.length then mirN (ndAt l i) else ndAt l i) p = nxt (ndAt l i) p := by split <;> rfl
    rw [e1, e2, walk_mir p f]
theorem value_mir (p : Point) : valueAt (l.map mirW) p = -valueAt l p := by
  unfold valueAt
  have h1 : leafOf (l.map mirW) p = leafOf l p := walk_mir hr hv p 31 0
  rw [h1, ndAt_mir hr hv, if_pos (leafOf_lt hr p).1]
  rfl
theorem prod_mir {b : Box} {z : Piece} (hz : z ∈ prod (pieces l b) (pieces (l.map mirW) b)) : z.value = 0 := by
  obtain ⟨x, hx, y, hy, he, rfl⟩ := mem_prod.1 hz
  obtain ⟨p, t, hp⟩ := empty_false.1 he
  obtain ⟨h1, h2⟩ := inB_meet.1 hp
  have v1 := (piece_in hr hx h1).2
  have v2 := (piece_in (mir_rt hr hv) hy h2).2
  rw [value_mir hr hv] at v2
  simp only
  omega
end
theorem rm_one {dim : Int} (hd : 1 ≤ dim ∧ dim ≤ 4) {ts : List Tree} (h8 : ts.length ≤ 8) (ht : ∀ t ∈ ts, t.cls = 0 ∧ RT t.nodes dim) (x : Int) (hx : fits x = true) : RM ⟨dim, 1, ⟨x, 0, 0⟩, ts⟩ := by
  refine ⟨hd, by simp only; omega, ⟨hx, (by decide : fits 0 = true), (by decide : fits 0 = true)⟩, fun _ => rfl, fun _ => rfl, h8, ?_⟩
  intro t hin
  obtain ⟨h1, h2⟩ := ht t hin
  simp only
  exact ⟨by omega, by omega, h2⟩
theorem range_one {dim : Int} (hd : 1 ≤ dim ∧ dim ≤ 4) {l : List Word} (hr : RT l dim) {b : Box} (he : b.empty = false) : rangeP (oneM dim [⟨0, l⟩]) 0 b 0 = ⟨(boundT l b).a, (boundT l b).b, true⟩ := by
  have hm : RM (oneM dim [⟨0, l⟩]) := rm_one hd (by simp) (by simp; exact hr) 0 (by decide)
  rw [range_none hm he (by omega) (by simp [oneM])]
  simp [boundP, boundF, oneM, Bias.get, startG]
theorem range_bare {dim : Int} {b : Box} (he : b.empty = false) : rangeP ⟨dim, 1, ⟨7, 0, 0⟩, []⟩ 0 b 5 = ⟨7, 7, true⟩ := by
  unfold rangeP
  rw [if_neg (by simp [he])]
  rfl
theorem range_mir {dim : Int} (hd : 1 ≤ dim ∧ dim ≤ 4) {l : List Word} (hr : RT l dim) (hv : ∀ i, i < l.length → -2147483648 < (ndAt l i).value) (hl : l.length ≤ 15) {b : Box} (he : b.empty = false) :
    rangeP (oneM dim [⟨0, l⟩, ⟨0, l.map mirW⟩]) 0 b 500 = ⟨0, 0, true⟩ := by
  have hp1 : (pieces l b).length ≤ 15 := by
    have h1 : (pieces l b).length ≤ l.length := by
      unfold pieces
      have := List.length_filterMap_le (pieceAt l b) (List.range l.length)
      simpa using this
    omega
  have hp2 : (pieces (l.map mirW) b).length ≤ 15 := by
    have h1 : (pieces (l.map mirW) b).length ≤ (l.map mirW).length := by
      unfold pieces
      have := List.length_filterMap_le (pieceAt (l.map mirW) b) (List.range (l.map mirW).length)
      simpa using this
    rw [List.length_map] at h1
    omega
  have hpl := prod_len (pieces l b) (pieces (l.map mirW) b)
  have hpm : (pieces l b).length * (pieces (l.map mirW) b).length ≤ 15 * 15 := Nat.mul_le_mul hp1 hp2
  have c1 : ((prod (pieces l b) (pieces (l.map mirW) b)).length : Int) ≤ 500 := by omega
  have hs : startG (oneM dim [⟨0, l⟩, ⟨0, l.map mirW⟩]) 0 b = [pieces l b, pieces (l.map mirW) b] := by simp [startG, oneM]
  have hc : (climb 500 [pieces l b, pieces (l.map mirW) b]).1 = [prod (pieces l b) (pieces (l.map mirW) b)] := by simp [climb, climbP, levelP, c1]
  obtain ⟨p, t, hp⟩ := empty_false.1 he
  obtain ⟨x, hx, hx1, _⟩ := piece_of hr hp
  obtain ⟨y, hy, hy1, _⟩ := piece_of (mir_rt hr hv) hp
  obtain ⟨z, hz, _⟩ := Covers.prod ⟨x, hx, hx1⟩ ⟨y, hy, hy1⟩
  obtain ⟨_, _, ⟨u, hu, hu1⟩, ⟨v, hv1, hv2⟩⟩ := ends_spec (List.ne_nil_of_mem hz)
  have k1 := prod_mir hr hv hu
  have k2 := prod_mir hr hv hv1
  unfold rangeP
  rw [if_neg (by simp [he, oneM]), hs, hc]
  simp [rangeF, oneM, Bias.get, ← hu1, ← hv2, k1, k2]
theorem treeNodes_len (t : KTree) (dim : Int) (hd : 1 ≤ dim) (hd4 : dim ≤ 4) : (treeNodes t dim).length ≤ 15 := by
  have h1 := (gi t dim hd hd4 _ (Nat.min_le_right t.part.length 7)).len
  unfold treeNodes
  rw [List.length_map, h1]
  omega
theorem treeNodes_val (t : KTree) (dim : Int) (hd : 1 ≤ dim) (hd4 : dim ≤ 4) : ∀ i, i < (treeNodes t dim).length → -2147483648 < (ndAt (treeNodes t dim) i).value := by
  intro i hi
  have h1 := gi t dim hd hd4 _ (Nat.min_le_right t.part.length 7)
  rw [ndAt_lt hi]
  unfold treeNodes at hi ⊢
  rw [List.getElem_map, nd_pack _ (h1.ok _ (List.getElem_mem _))]
  have := h1.val _ (List.getElem_mem (show i < (grow t dim (min t.part.length 7)).nodes.length by simpa using hi))
  omega
end Go.Co
