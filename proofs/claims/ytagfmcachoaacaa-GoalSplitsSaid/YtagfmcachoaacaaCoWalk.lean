/- CO: walks through right trees; the pieces of a tree within a box. -/
import Derived.Test.YtagfmcachoaacaaCoModel
namespace Go.Co
/-! ### points, spans, boxes -/
def Point.get (p : Point) (i : Int) : Int := if i = 0 then p.p0 else if i = 1 then p.p1 else if i = 2 then p.p2 else p.p3
def Point.set (p : Point) (i n : Int) : Point := if i = 0 then { p with p0 := n } else if i = 1 then { p with p1 := n } else if i = 2 then { p with p2 := n } else { p with p3 := n }
/-! ### walks -/
def ndAt (l : List Word) (i : Nat) : Node := nd (l.getD i default)
theorem ndAt_lt {l : List Word} {i : Nat} (h : i < l.length) : ndAt l i = nd l[i] := by unfold ndAt; simp [h]
def nxt (n : Node) (p : Point) : Nat := if p.get n.feature ≤ n.cut then n.left.toNat else n.right.toNat
def walk (l : List Word) (p : Point) : Nat → Nat → Nat
  | 0, i => i
  | f + 1, i => if (ndAt l i).leaf then i else walk l p f (nxt (ndAt l i) p)
def leafOf (l : List Word) (p : Point) : Nat := walk l p 31 0
def valueAt (l : List Word) (p : Point) : Int := (ndAt l (leafOf l p)).value
theorem RT.at {l : List Word} {dim : Int} (h : RT l dim) {i : Nat} (hi : i < l.length) (hl : (ndAt l i).leaf = false) :
    (ndAt l i).feature < dim ∧ (ndAt l i).left ≠ (ndAt l i).right ∧ (i : Int) < (ndAt l i).left ∧ (ndAt l i).left < l.length ∧ (i : Int) < (ndAt l i).right ∧ (ndAt l i).right < l.length := by
  rw [ndAt_lt hi] at *
  exact h.inner i hi hl
theorem RT.node {l : List Word} {dim : Int} (h : RT l dim) {i : Nat} (hi : i < l.length) : rightNode (ndAt l i) = true := by
  rw [ndAt_lt hi]
  exact (unpack_true (h.ok i hi).2).1
theorem RT.feature {l : List Word} {dim : Int} (h : RT l dim) {i : Nat} (hi : i < l.length) (hl : (ndAt l i).leaf = false) : 0 ≤ (ndAt l i).feature ∧ (ndAt l i).feature < 4 := by
  have := h.node hi
  unfold rightNode at this
  rw [hl] at this
  simp only [Bool.false_eq_true, if_false, Bool.and_eq_true, decide_eq_true_eq] at this
  omega
theorem RT.value {l : List Word} {dim : Int} (h : RT l dim) {i : Nat} (hi : i < l.length) : fits (ndAt l i).value = true := by
  have := h.node hi
  unfold rightNode at this
  cases hl : (ndAt l i).leaf
  · rw [hl] at this
    simp only [Bool.false_eq_true, if_false, Bool.and_eq_true, decide_eq_true_eq] at this
    rw [this.1.1.1.1.1.1.1]
    rfl
  · rw [hl] at this
    simp only [if_true, Bool.and_eq_true, decide_eq_true_eq] at this
    exact this.1.1.1.1
theorem RT.cutOk {l : List Word} {dim : Int} (h : RT l dim) {i : Nat} (hi : i < l.length) : fits (ndAt l i).cut = true := by
  have := h.node hi
  unfold rightNode at this
  cases hl : (ndAt l i).leaf
  · rw [hl] at this
    simp only [Bool.false_eq_true, if_false, Bool.and_eq_true, decide_eq_true_eq] at this
    exact this.1.1.1.1.2
  · rw [hl] at this
    simp only [if_true, Bool.and_eq_true, decide_eq_true_eq] at this
    rw [this.1.1.2]
    rfl
theorem nxt_lt {l : List Word} {dim : Int} (h : RT l dim) {i : Nat} (hi : i < l.length) (hl : (ndAt l i).leaf = false) (p : Point) : i < nxt (ndAt l i) p ∧ nxt (ndAt l i) p < l.length := by
  have := h.at hi hl
  unfold nxt
  split <;> omega
inductive Reach (l : List Word) (p : Point) : Nat → Prop
  | root : Reach l p 0
  | step {i : Nat} : Reach l p i → (ndAt l i).leaf = false → Reach l p (nxt (ndAt l i) p)
theorem Reach.lt {l : List Word} {dim : Int} (h : RT l dim) {p : Point} {j : Nat} (hr : Reach l p j) : j < l.length := by
  induction hr with
  | root => have := h.pos; omega
  | step hr hl ih => exact (nxt_lt h ih hl p).2
theorem Reach.walk {l : List Word} {dim : Int} (h : RT l dim) {p : Point} {j : Nat} (hr : Reach l p j) : ∃ f, 31 ≤ f + j ∧ leafOf l p = walk l p f j := by
  induction hr with
  | root => exact ⟨31, by omega, rfl⟩
  | @step i hr hl ih =>
    obtain ⟨f, hf, hw⟩ := ih
    have hi := hr.lt h
    have hle := h.le
    cases f with
    | zero => omega
    | succ f =>
      refine ⟨f, ?_, ?_⟩
      · have := (nxt_lt h hi hl p).1
        omega
      · rw [hw, Co.walk, hl]
        rfl
theorem Reach.leaf {l : List Word} {dim : Int} (h : RT l dim) {p : Point} {j : Nat} (hr : Reach l p j) (hl : (ndAt l j).leaf = true) : leafOf l p = j := by
  obtain ⟨f, hf, hw⟩ := hr.walk h
  rw [hw]
  cases f with
  | zero => rfl
  | succ f => rw [Co.walk, hl]; rfl
/-! ### who names a place -/
/-! ### what of a box comes to each node -/
def up (f : Nat → Box) (i : Nat) (b : Box) : Nat → Box := fun j => if j = i then b else f j
def zeroB : Box := ⟨⟨0, 0⟩, ⟨0, 0⟩, ⟨0, 0⟩, ⟨0, 0⟩, ⟨0, 0⟩⟩
def ownF (l : List Word) (b : Box) : Nat → Nat → Box
  | 0 => up (fun _ => zeroB) 0 b
  | i + 1 => if (ndAt l i).leaf then ownF l b i else
      up (up (ownF l b i) (ndAt l i).left.toNat (cutB (ownF l b i i) (ndAt l i).feature (ndAt l i).cut).1) (ndAt l i).right.toNat (cutB (ownF l b i i) (ndAt l i).feature (ndAt l i).cut).2
def own (l : List Word) (b : Box) (j : Nat) : Box := ownF l b j j
/-! ### pieces -/
def pieceAt (l : List Word) (b : Box) (i : Nat) : Option Piece := if (ndAt l i).leaf && !(own l b i).empty then some ⟨own l b i, (ndAt l i).value⟩ else none
def pieces (l : List Word) (b : Box) : List Piece := (List.range l.length).filterMap (pieceAt l b)
end Go.Co
