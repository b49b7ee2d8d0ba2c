/- CO: texts of this claim, one behind the other. -/
import Derived.Test.YtcjflbmpfmibbaaCz3
/- CO: walks through right trees; the pieces of a tree within a box. -/
namespace Go.Co
/-! ### points, spans, boxes -/
def Point.get (p : Point) (i : Int) : Int := if i = 0 then p.p0 else if i = 1 then p.p1 else if i = 2 then p.p2 else p.p3
def Point.set (p : Point) (i n : Int) : Point := if i = 0 then { p with p0 := n } else if i = 1 then { p with p1 := n } else if i = 2 then { p with p2 := n } else { p with p3 := n }
/-! ### walks -/
def ndAt (l : List Word) (i : Nat) : Node := nd (l.getD i default)
theorem ndAt_lt {l : List Word} {i : Nat} (h : i < l.length) : ndAt l i = nd l[i] := by unfold ndAt; simp [h]
def nxt (n : Node) (p : Point) : Nat := if p.get n.feature ≤ n.cut then n.left.toNat else n.right.toNat
def walk (l : List Word) (p : Point) : Nat → Nat → Nat
  | 0, i => i
  | f + 1, i => if (ndAt l i).leaf then i else walk l p f (nxt (ndAt l i) p)
def leafOf (l : List Word) (p : Point) : Nat := walk l p 31 0
def valueAt (l : List Word) (p : Point) : Int := (ndAt l (leafOf l p)).value
theorem RT.at {l : List Word} {dim : Int} (h : RT l dim) {i : Nat} (hi : i < l.length) (hl : (ndAt l i).leaf = false) :
    (ndAt l i).feature < dim ∧ (ndAt l i).left ≠ (ndAt l i).right ∧ (i : Int) < (ndAt l i).left ∧ (ndAt l i).left < l.length ∧ (i : Int) < (ndAt l i).right ∧ (ndAt l i).right < l.length := by
  rw [ndAt_lt hi] at *
  exact h.inner i hi hl
theorem RT.node {l : List Word} {dim : Int} (h : RT l dim) {i : Nat} (hi : i < l.length) : rightNode (ndAt l i) = true := by
  rw [ndAt_lt hi]
  exact (unpack_true (h.ok i hi).2).1
theorem RT.feature {l : List Word} {dim : Int} (h : RT l dim) {i : Nat} (hi : i < l.length) (hl : (ndAt l i).leaf = false) : 0 ≤ (ndAt l i).feature ∧ (ndAt l i).feature < 4 := by
  have := h.node hi
  unfold rightNode at this
  rw [hl] at this
  simp only [Bool.false_eq_true, if_false, Bool.and_eq_true, decide_eq_true_eq] at this
  omega
theorem RT.value {l : List Word} {dim : Int} (h : RT l dim) {i : Nat} (hi : i < l.length) : fits (ndAt l i).value = true := by
  have := h.node hi
  unfold rightNode at this
  cases hl : (ndAt l i).leaf
  · rw [hl] at this
    simp only [Bool.false_eq_true, if_false, Bool.and_eq_true, decide_eq_true_eq] at this
    rw [this.1.1.1.1.1.1.1]
    rfl
  · rw [hl] at this
    simp only [if_true, Bool.and_eq_true, decide_eq_true_eq] at this
    exact this.1.1.1.1
theorem RT.cutOk {l : List Word} {dim : Int} (h : RT l dim) {i : Nat} (hi : i < l.length) : fits (ndAt l i).cut = true := by
  have := h.node hi
  unfold rightNode at this
  cases hl : (ndAt l i).leaf
  · rw [hl] at this
    simp only [Bool.false_eq_true, if_false, Bool.and_eq_true, decide_eq_true_eq] at this
    exact this.1.1.1.1.2
  · rw [hl] at this
    simp only [if_true, Bool.and_eq_true, decide_eq_true_eq] at this
    rw [this.1.1.2]
    rfl
theorem nxt_lt {l : List Word} {dim : Int} (h : RT l dim) {i : Nat} (hi : i < l.length) (hl : (ndAt l i).leaf = false) (p : Point) : i < nxt (ndAt l i) p ∧ nxt (ndAt l i) p < l.length := by
  have := h.at hi hl
  unfold nxt
  split <;> omega
theorem walk_leaf {l : List Word} {dim : Int} (h : RT l dim) (p : Point) : ∀ (f i : Nat), i < l.length → l.length ≤ f + i → walk l p f i < l.length ∧ (ndAt l (walk l p f i)).leaf = true
  | 0, i, h1, h2 => by omega
  | f + 1, i, h1, h2 => by
    unfold walk
    cases hl : (ndAt l i).leaf
    · simp only [Bool.false_eq_true, if_false]
      have := nxt_lt h h1 hl p
      exact walk_leaf h p f _ this.2 (by omega)
    · simp only [if_true]
      exact ⟨h1, hl⟩
theorem leafOf_lt {l : List Word} {dim : Int} (h : RT l dim) (p : Point) : leafOf l p < l.length ∧ (ndAt l (leafOf l p)).leaf = true :=
  walk_leaf h p 31 0 (by have := h.pos; omega) (by have := h.le; omega)
theorem valueAt_fits {l : List Word} {dim : Int} (h : RT l dim) (p : Point) : fits (valueAt l p) = true := h.value (leafOf_lt h p).1
inductive Reach (l : List Word) (p : Point) : Nat → Prop
  | root : Reach l p 0
  | step {i : Nat} : Reach l p i → (ndAt l i).leaf = false → Reach l p (nxt (ndAt l i) p)
theorem Reach.lt {l : List Word} {dim : Int} (h : RT l dim) {p : Point} {j : Nat} (hr : Reach l p j) : j < l.length := by
  induction hr with
  | root => have := h.pos; omega
  | step hr hl ih => exact (nxt_lt h ih hl p).2
theorem Reach.walk {l : List Word} {dim : Int} (h : RT l dim) {p : Point} {j : Nat} (hr : Reach l p j) : ∃ f, 31 ≤ f + j ∧ leafOf l p = walk l p f j := by
  induction hr with
  | root => exact ⟨31, by omega, rfl⟩
  | @step i hr hl ih =>
    obtain ⟨f, hf, hw⟩ := ih
    have hi := hr.lt h
    have hle := h.le
    cases f with
    | zero => omega
    | succ f =>
      refine ⟨f, ?_, ?_⟩
      · have := (nxt_lt h hi hl p).1
        omega
      · rw [hw, Co.walk, hl]
        rfl
theorem Reach.leaf {l : List Word} {dim : Int} (h : RT l dim) {p : Point} {j : Nat} (hr : Reach l p j) (hl : (ndAt l j).leaf = true) : leafOf l p = j := by
  obtain ⟨f, hf, hw⟩ := hr.walk h
  rw [hw]
  cases f with
  | zero => rfl
  | succ f => rw [Co.walk, hl]; rfl
/-! ### who names a place -/
/-! ### what of a box comes to each node -/
def up (f : Nat → Box) (i : Nat) (b : Box) : Nat → Box := fun j => if j = i then b else f j
def zeroB : Box := ⟨⟨0, 0⟩, ⟨0, 0⟩, ⟨0, 0⟩, ⟨0, 0⟩, ⟨0, 0⟩⟩
def ownF (l : List Word) (b : Box) : Nat → Nat → Box
  | 0 => up (fun _ => zeroB) 0 b
  | i + 1 => if (ndAt l i).leaf then ownF l b i else
      up (up (ownF l b i) (ndAt l i).left.toNat (cutB (ownF l b i i) (ndAt l i).feature (ndAt l i).cut).1) (ndAt l i).right.toNat (cutB (ownF l b i i) (ndAt l i).feature (ndAt l i).cut).2
def own (l : List Word) (b : Box) (j : Nat) : Box := ownF l b j j
/-! ### pieces -/
def pieceAt (l : List Word) (b : Box) (i : Nat) : Option Piece := if (ndAt l i).leaf && !(own l b i).empty then some ⟨own l b i, (ndAt l i).value⟩ else none
def pieces (l : List Word) (b : Box) : List Piece := (List.range l.length).filterMap (pieceAt l b)
end Go.Co
/- CO: sums, bounds. -/
namespace Go.Co
/-! ### sums -/
def evalF (c : Int) (p : Point) (s : Int) (t : Tree) : Int := if t.cls = c then s + valueAt t.nodes p else s
def evalM (m : Model) (c : Int) (p : Point) : Int := m.trees.foldl (evalF c p) (m.bias.get c)
theorem Bias.get_fits {m : Model} (h : RM m) (c : Int) : fits (m.bias.get c) = true := by
  unfold Bias.get
  have := h.bias
  split
  · exact this.1
  · split
    · exact this.2.1
    · exact this.2.2
theorem evalF_le {c : Int} {p : Point} : ∀ (l : List Tree) (s : Int), (∀ t ∈ l, ∃ d, RT t.nodes d) →
    s - 2147483648 * l.length ≤ l.foldl (evalF c p) s ∧ l.foldl (evalF c p) s ≤ s + 2147483647 * l.length
  | [], s, _ => by simp
  | t :: l, s, h => by
    obtain ⟨d, hd⟩ := h t (by simp)
    have h1 := of_fits (valueAt_fits hd p)
    have h2 := evalF_le (c := c) (p := p) l (evalF c p s t) (fun t ht => h t (by simp [ht]))
    have h3 : evalF c p s t = s ∨ evalF c p s t = s + valueAt t.nodes p := by unfold evalF; split <;> simp
    rw [List.foldl_cons, List.length_cons]
    rcases h3 with h3 | h3 <;> rw [h3] at h2 ⊢ <;> omega
theorem RM.rt {m : Model} (h : RM m) {t : Tree} (ht : t ∈ m.trees) : RT t.nodes m.dim := (h.tree t ht).2.2
/-! ### the least and the greatest of pieces -/
def endF (a : Int × Int) (x : Piece) : Int × Int := (min2 a.1 x.value, max2 a.2 x.value)
def ends (ps : List Piece) : Tri Int Int Bool := match ps with
  | [] => ⟨0, 0, false⟩
  | x :: _ => ⟨(ps.foldl endF (x.value, x.value)).1, (ps.foldl endF (x.value, x.value)).2, true⟩
def boundT (l : List Word) (b : Box) : Tri Int Int Bool := if b.empty then ⟨0, 0, false⟩ else ends (pieces l b)
def boundF (c : Int) (b : Box) (a : Int × Int) (t : Tree) : Int × Int := if t.cls = c then (a.1 + (boundT t.nodes b).a, a.2 + (boundT t.nodes b).b) else a
def boundP (m : Model) (c : Int) (b : Box) : Int × Int := m.trees.foldl (boundF c b) (m.bias.get c, m.bias.get c)
/-! ### queries' words -/
def paired (q : Query) : Bool := decide (q.kind = 3) && decide (0 ≤ q.feature) && decide (q.feature < 4)
def startOf (q : Query) : Box := { q.region with s4 := if paired q then q.region.get q.feature else ⟨0, 0⟩ }
def secondOf (q : Query) (p : Point) (t : Int) : Point := if paired q then p.set q.feature t else p
def Span.has (s : Span) (n : Int) : Bool := decide (s.lo ≤ n) && decide (n ≤ s.hi)
def beaten (m : Model) (q : Query) (p : Point) : Bool := (List.range m.classes.toNat).any fun c => decide ((c : Int) ≠ q.cls) && decide (evalM m q.cls p ≤ evalM m c p)
def breaks (m : Model) (q : Query) (p : Point) (t : Int) : Bool :=
  if okQuery m q then
    if q.kind = 1 then !(Span.has ⟨q.lo, q.hi⟩ (evalM m q.cls p))
    else if q.kind = 2 then beaten m q p
    else if p.get q.feature < t then (if q.falls then decide (evalM m q.cls p < evalM m q.cls (secondOf q p t)) else decide (evalM m q.cls (secondOf q p t) < evalM m q.cls p)) else false
  else false
end Go.Co
/- CO: trees of words. -/
namespace Go.Co
open Go.Am Go.Proofs
set_option linter.unusedSimpArgs false
set_option linter.unusedVariables false
def c19_0 : ACode := .ops [⟨some 4, .mv (.c (.bool false)), none, []⟩] [0, 1]
theorem r19_0 : type_of% (@rr _ _ c19_0.eq_1) := rr c19_0.eq_1
def c19_1 : ACode := .ops [⟨some 12, .mv (.t 0), none, []⟩,
  ⟨some 13, .len (.t 12), none, []⟩,
  ⟨some 14, .bin .lss (.t 13) (.c (.int .i64 1)), none, []⟩,
  ⟨some 15, .mv (.t 14), none, []⟩,
  ⟨some 16, .mv (.t 0), some (15, false), []⟩,
  ⟨some 17, .len (.t 16), some (15, false), []⟩,
  ⟨some 18, .bin .gtr (.t 17) (.c (.int .i64 31)), some (15, false), []⟩,
  ⟨some 19, .pick (.t 15) (.c (.bool true)) (.t 18), none, []⟩] [0, 1, 19]
theorem r19_1 : type_of% (@rr _ _ c19_1.eq_1) := rr c19_1.eq_1
def c19_2 : ACode := .ops [⟨some 4, .mv (.c (.bool false)), none, []⟩] [4]
theorem r19_2 : type_of% (@rr _ _ c19_2.eq_1) := rr c19_2.eq_1
def c19_3 : ACode := .seq c19_2 .ret
theorem r19_3 : type_of% (@rr _ _ c19_3.eq_1) := rr c19_3.eq_1
def c19_4 : ACode := .cond (.t 19) c19_3 .skip
theorem r19_4 : type_of% (@rr _ _ c19_4.eq_1) := rr c19_4.eq_1
def c19_5 : ACode := .seq c19_1 c19_4
theorem r19_5 : type_of% (@rr _ _ c19_5.eq_1) := rr c19_5.eq_1
def c19_6 : ACode := .ops [⟨some 20, .mv (.t 0), none, []⟩,
  ⟨some 21, .len (.t 20), none, []⟩,
  ⟨some 22, .mks 5 (.t 21) 1 [.int .i64 0], none, []⟩,
  ⟨some 5, .mv (.t 22), none, []⟩] [0, 1, 5]
theorem r19_6 : type_of% (@rr _ _ c19_6.eq_1) := rr c19_6.eq_1
def c19_7 : ACode := .ops [⟨some 23, .mv (.t 0), none, []⟩,
  ⟨some 24, .len (.t 23), none, []⟩,
  ⟨some 25, .mv (.c (.int .i64 0)), none, []⟩] [0, 1, 5, 23, 24, 25]
theorem r19_7 : type_of% (@rr _ _ c19_7.eq_1) := rr c19_7.eq_1
def c19_8 : ACode := .ops [⟨some 26, .bin .lss (.t 25) (.t 24), none, []⟩] [0, 1, 5, 23, 24, 25, 26]
theorem r19_8 : type_of% (@rr _ _ c19_8.eq_1) := rr c19_8.eq_1
def c19_9 : ACode := .cond (.t 26) .skip (.exit 0)
theorem r19_9 : type_of% (@rr _ _ c19_9.eq_1) := rr c19_9.eq_1
def c19_10 : ACode := .ops [⟨some 27, .mv (.t 25), none, []⟩,
  ⟨some 28, .ias (.t 23) (.t 25) 1, none, []⟩,
  ⟨some 29, .load 1 false (.t 28), none, []⟩,
  ⟨some 6, .mv (.t 27), none, []⟩,
  ⟨some 7, .mv (.t 29), none, []⟩] [0, 1, 5, 6, 7, 23, 24, 25]
theorem r19_10 : type_of% (@rr _ _ c19_10.eq_1) := rr c19_10.eq_1
def c19_11 : ACode := .ops [⟨some 31, .mv (.t 7), none, []⟩,
  ⟨some 32, .call 20 [.t 31], none, []⟩,
  ⟨some 30, .mv (.t 32), none, []⟩,
  ⟨some 33, .ext (.t 30) 0, none, []⟩,
  ⟨some 34, .ext (.t 30) 1, none, []⟩,
  ⟨some 8, .alloc [.bool false, .int .i64 0, .int .i64 0, .int .i64 0, .int .i64 0, .int .i64 0], none, []⟩,
  ⟨none, .store (.t 8) 6 (.t 33), none, [8]⟩,
  ⟨some 9, .mv (.t 34), none, []⟩] [0, 1, 5, 6, 8, 9, 23, 24, 25]
theorem r19_11 : type_of% (@rr _ _ c19_11.eq_1) := rr c19_11.eq_1
def c19_12 : ACode := .ops [⟨some 35, .mv (.t 9), none, []⟩,
  ⟨some 36, .un .not (.t 35), none, []⟩] [0, 1, 5, 6, 8, 23, 24, 25, 36]
theorem r19_12 : type_of% (@rr _ _ c19_12.eq_1) := rr c19_12.eq_1
def c19_13 : ACode := .ops [⟨some 4, .mv (.c (.bool false)), none, []⟩] [4]
theorem r19_13 : type_of% (@rr _ _ c19_13.eq_1) := rr c19_13.eq_1
def c19_14 : ACode := .seq c19_13 .ret
theorem r19_14 : type_of% (@rr _ _ c19_14.eq_1) := rr c19_14.eq_1
def c19_15 : ACode := .cond (.t 36) c19_14 .skip
theorem r19_15 : type_of% (@rr _ _ c19_15.eq_1) := rr c19_15.eq_1
def c19_16 : ACode := .seq c19_12 c19_15
theorem r19_16 : type_of% (@rr _ _ c19_16.eq_1) := rr c19_16.eq_1
def c19_17 : ACode := .ops [⟨some 37, .fad (.t 8) 0, none, [8]⟩,
  ⟨some 38, .load 1 false (.t 37), none, [8]⟩] [0, 1, 5, 6, 8, 23, 24, 25, 38]
theorem r19_17 : type_of% (@rr _ _ c19_17.eq_1) := rr c19_17.eq_1
def c19_18 : ACode := .cond (.t 38) (.exit 1) .skip
theorem r19_18 : type_of% (@rr _ _ c19_18.eq_1) := rr c19_18.eq_1
def c19_19 : ACode := .seq c19_17 c19_18
theorem r19_19 : type_of% (@rr _ _ c19_19.eq_1) := rr c19_19.eq_1
def c19_20 : ACode := .ops [⟨some 39, .fad (.t 8) 2, none, [8]⟩,
  ⟨some 40, .load 1 false (.t 39), none, [8]⟩,
  ⟨some 41, .mv (.t 1), none, []⟩,
  ⟨some 42, .bin .geq (.t 40) (.t 41), none, []⟩,
  ⟨some 43, .mv (.t 42), none, []⟩,
  ⟨some 44, .fad (.t 8) 4, some (43, false), [8]⟩,
  ⟨some 45, .load 1 false (.t 44), some (43, false), [8]⟩,
  ⟨some 46, .fad (.t 8) 5, some (43, false), [8]⟩,
  ⟨some 47, .load 1 false (.t 46), some (43, false), [8]⟩,
  ⟨some 48, .bin .eql (.t 45) (.t 47), some (43, false), []⟩,
  ⟨some 49, .pick (.t 43) (.c (.bool true)) (.t 48), none, []⟩,
  ⟨some 50, .mv (.t 49), none, []⟩,
  ⟨some 51, .fad (.t 8) 4, some (50, false), [8]⟩,
  ⟨some 52, .load 1 false (.t 51), some (50, false), [8]⟩,
  ⟨some 53, .fad (.t 8) 5, some (50, false), [8]⟩,
  ⟨some 54, .load 1 false (.t 53), some (50, false), [8]⟩,
  ⟨some 55, .mnmx false (.t 52) (.t 54), some (50, false), []⟩,
  ⟨some 56, .mv (.t 6), some (50, false), []⟩,
  ⟨some 57, .bin .leq (.t 55) (.t 56), some (50, false), []⟩,
  ⟨some 58, .pick (.t 50) (.c (.bool true)) (.t 57), none, []⟩,
  ⟨some 59, .mv (.t 58), none, []⟩,
  ⟨some 60, .fad (.t 8) 4, some (59, false), [8]⟩,
  ⟨some 61, .load 1 false (.t 60), some (59, false), [8]⟩,
  ⟨some 62, .fad (.t 8) 5, some (59, false), [8]⟩,
  ⟨some 63, .load 1 false (.t 62), some (59, false), [8]⟩,
  ⟨some 64, .mnmx true (.t 61) (.t 63), some (59, false), []⟩,
  ⟨some 65, .mv (.t 0), some (59, false), []⟩,
  ⟨some 66, .len (.t 65), some (59, false), []⟩,
  ⟨some 67, .bin .geq (.t 64) (.t 66), some (59, false), []⟩,
  ⟨some 68, .pick (.t 59) (.c (.bool true)) (.t 67), none, []⟩] [0, 1, 5, 8, 23, 24, 25, 68]
theorem r19_20 : type_of% (@rr _ _ c19_20.eq_1) := rr c19_20.eq_1
def c19_21 : ACode := .ops [⟨some 4, .mv (.c (.bool false)), none, []⟩] [4]
theorem r19_21 : type_of% (@rr _ _ c19_21.eq_1) := rr c19_21.eq_1
def c19_22 : ACode := .seq c19_21 .ret
theorem r19_22 : type_of% (@rr _ _ c19_22.eq_1) := rr c19_22.eq_1
def c19_23 : ACode := .cond (.t 68) c19_22 .skip
theorem r19_23 : type_of% (@rr _ _ c19_23.eq_1) := rr c19_23.eq_1
def c19_24 : ACode := .seq c19_20 c19_23
theorem r19_24 : type_of% (@rr _ _ c19_24.eq_1) := rr c19_24.eq_1
def c19_25 : ACode := .ops [⟨some 69, .mv (.t 5), none, []⟩,
  ⟨some 70, .fad (.t 8) 4, none, [8]⟩,
  ⟨some 71, .load 1 false (.t 70), none, [8]⟩,
  ⟨some 72, .ias (.t 69) (.t 71) 1, none, [5]⟩,
  ⟨some 73, .load 1 false (.t 72), none, [5]⟩,
  ⟨some 74, .bin .add (.t 73) (.c (.int .i64 1)), none, []⟩,
  ⟨some 75, .ias (.t 69) (.t 71) 1, none, [5]⟩,
  ⟨none, .store (.t 75) 1 (.t 74), none, [5]⟩] [0, 1, 5, 8, 23, 24, 25]
theorem r19_25 : type_of% (@rr _ _ c19_25.eq_1) := rr c19_25.eq_1
def c19_26 : ACode := .ops [⟨some 76, .mv (.t 5), none, []⟩,
  ⟨some 77, .fad (.t 8) 5, none, [8]⟩,
  ⟨some 78, .load 1 false (.t 77), none, [8]⟩,
  ⟨some 79, .ias (.t 76) (.t 78) 1, none, [5]⟩,
  ⟨some 80, .load 1 false (.t 79), none, [5]⟩,
  ⟨some 81, .bin .add (.t 80) (.c (.int .i64 1)), none, []⟩,
  ⟨some 82, .ias (.t 76) (.t 78) 1, none, [5]⟩,
  ⟨none, .store (.t 82) 1 (.t 81), none, [5]⟩] [0, 1, 5, 23, 24, 25]
theorem r19_26 : type_of% (@rr _ _ c19_26.eq_1) := rr c19_26.eq_1
def c19_27 : ACode := .seq c19_25 c19_26
theorem r19_27 : type_of% (@rr _ _ c19_27.eq_1) := rr c19_27.eq_1
def c19_28 : ACode := .seq c19_24 c19_27
theorem r19_28 : type_of% (@rr _ _ c19_28.eq_1) := rr c19_28.eq_1
def c19_29 : ACode := .seq c19_19 c19_28
theorem r19_29 : type_of% (@rr _ _ c19_29.eq_1) := rr c19_29.eq_1
def c19_30 : ACode := .seq c19_16 c19_29
theorem r19_30 : type_of% (@rr _ _ c19_30.eq_1) := rr c19_30.eq_1
def c19_31 : ACode := .seq c19_11 c19_30
theorem r19_31 : type_of% (@rr _ _ c19_31.eq_1) := rr c19_31.eq_1
def c19_32 : ACode := .seq c19_10 c19_31
theorem r19_32 : type_of% (@rr _ _ c19_32.eq_1) := rr c19_32.eq_1
def c19_33 : ACode := .block 1 c19_32
theorem r19_33 : type_of% (@rr _ _ c19_33.eq_1) := rr c19_33.eq_1
def c19_34 : ACode := .ops [⟨some 83, .bin .add (.t 25) (.c (.int .i64 1)), none, []⟩,
  ⟨some 25, .mv (.t 83), none, []⟩] [0, 1, 5, 23, 24, 25]
theorem r19_34 : type_of% (@rr _ _ c19_34.eq_1) := rr c19_34.eq_1
def c19_35 : ACode := .seq c19_33 c19_34
theorem r19_35 : type_of% (@rr _ _ c19_35.eq_1) := rr c19_35.eq_1
def c19_36 : ACode := .seq c19_9 c19_35
theorem r19_36 : type_of% (@rr _ _ c19_36.eq_1) := rr c19_36.eq_1
def c19_37 : ACode := .seq c19_8 c19_36
theorem r19_37 : type_of% (@rr _ _ c19_37.eq_1) := rr c19_37.eq_1
def c19_38 : ACode := .keep [0, 1, 5, 23, 24, 25] [5] c19_37
theorem r19_38 : type_of% (@rr _ _ c19_38.eq_1) := rr c19_38.eq_1
def c19_39 : ACode := .loop c19_38
theorem r19_39 : type_of% (@rr _ _ c19_39.eq_1) := rr c19_39.eq_1
def c19_40 : ACode := .block 0 c19_39
theorem r19_40 : type_of% (@rr _ _ c19_40.eq_1) := rr c19_40.eq_1
def c19_41 : ACode := .seq c19_7 c19_40
theorem r19_41 : type_of% (@rr _ _ c19_41.eq_1) := rr c19_41.eq_1
def c19_42 : ACode := .ops [⟨some 84, .mv (.t 5), none, []⟩,
  ⟨some 85, .sl (.t 84) (some (.c (.int .i64 1))) none 1, none, [5]⟩,
  ⟨some 86, .len (.t 85), none, [5]⟩,
  ⟨some 87, .mv (.c (.int .i64 0)), none, []⟩] [85, 86, 87]
theorem r19_42 : type_of% (@rr _ _ c19_42.eq_1) := rr c19_42.eq_1
def c19_43 : ACode := .ops [⟨some 88, .bin .lss (.t 87) (.t 86), none, []⟩] [85, 86, 87, 88]
theorem r19_43 : type_of% (@rr _ _ c19_43.eq_1) := rr c19_43.eq_1
def c19_44 : ACode := .cond (.t 88) .skip (.exit 2)
theorem r19_44 : type_of% (@rr _ _ c19_44.eq_1) := rr c19_44.eq_1
def c19_45 : ACode := .ops [⟨some 89, .ias (.t 85) (.t 87) 1, none, [5]⟩,
  ⟨some 90, .load 1 false (.t 89), none, [5]⟩,
  ⟨some 11, .mv (.t 90), none, []⟩] [11, 85, 86, 87]
theorem r19_45 : type_of% (@rr _ _ c19_45.eq_1) := rr c19_45.eq_1
def c19_46 : ACode := .ops [⟨some 91, .mv (.t 11), none, []⟩,
  ⟨some 92, .bin .neq (.t 91) (.c (.int .i64 1)), none, []⟩] [85, 86, 87, 92]
theorem r19_46 : type_of% (@rr _ _ c19_46.eq_1) := rr c19_46.eq_1
def c19_47 : ACode := .ops [⟨some 4, .mv (.c (.bool false)), none, []⟩] [4]
theorem r19_47 : type_of% (@rr _ _ c19_47.eq_1) := rr c19_47.eq_1
def c19_48 : ACode := .seq c19_47 .ret
theorem r19_48 : type_of% (@rr _ _ c19_48.eq_1) := rr c19_48.eq_1
def c19_49 : ACode := .cond (.t 92) c19_48 .skip
theorem r19_49 : type_of% (@rr _ _ c19_49.eq_1) := rr c19_49.eq_1
def c19_50 : ACode := .seq c19_46 c19_49
theorem r19_50 : type_of% (@rr _ _ c19_50.eq_1) := rr c19_50.eq_1
def c19_51 : ACode := .seq c19_45 c19_50
theorem r19_51 : type_of% (@rr _ _ c19_51.eq_1) := rr c19_51.eq_1
def c19_52 : ACode := .block 3 c19_51
theorem r19_52 : type_of% (@rr _ _ c19_52.eq_1) := rr c19_52.eq_1
def c19_53 : ACode := .ops [⟨some 93, .bin .add (.t 87) (.c (.int .i64 1)), none, []⟩,
  ⟨some 87, .mv (.t 93), none, []⟩] [85, 86, 87]
theorem r19_53 : type_of% (@rr _ _ c19_53.eq_1) := rr c19_53.eq_1
def c19_54 : ACode := .seq c19_52 c19_53
theorem r19_54 : type_of% (@rr _ _ c19_54.eq_1) := rr c19_54.eq_1
def c19_55 : ACode := .seq c19_44 c19_54
theorem r19_55 : type_of% (@rr _ _ c19_55.eq_1) := rr c19_55.eq_1
def c19_56 : ACode := .seq c19_43 c19_55
theorem r19_56 : type_of% (@rr _ _ c19_56.eq_1) := rr c19_56.eq_1
def c19_57 : ACode := .keep [85, 86, 87] [5] c19_56
theorem r19_57 : type_of% (@rr _ _ c19_57.eq_1) := rr c19_57.eq_1
def c19_58 : ACode := .loop c19_57
theorem r19_58 : type_of% (@rr _ _ c19_58.eq_1) := rr c19_58.eq_1
def c19_59 : ACode := .block 2 c19_58
theorem r19_59 : type_of% (@rr _ _ c19_59.eq_1) := rr c19_59.eq_1
def c19_60 : ACode := .seq c19_42 c19_59
theorem r19_60 : type_of% (@rr _ _ c19_60.eq_1) := rr c19_60.eq_1
def c19_61 : ACode := .ops [⟨some 4, .mv (.c (.bool true)), none, []⟩] [4]
theorem r19_61 : type_of% (@rr _ _ c19_61.eq_1) := rr c19_61.eq_1
def c19_62 : ACode := .seq c19_61 .ret
theorem r19_62 : type_of% (@rr _ _ c19_62.eq_1) := rr c19_62.eq_1
def c19_63 : ACode := .seq c19_60 c19_62
theorem r19_63 : type_of% (@rr _ _ c19_63.eq_1) := rr c19_63.eq_1
def c19_64 : ACode := .seq c19_41 c19_63
theorem r19_64 : type_of% (@rr _ _ c19_64.eq_1) := rr c19_64.eq_1
def c19_65 : ACode := .seq c19_6 c19_64
theorem r19_65 : type_of% (@rr _ _ c19_65.eq_1) := rr c19_65.eq_1
def c19_66 : ACode := .seq c19_5 c19_65
theorem r19_66 : type_of% (@rr _ _ c19_66.eq_1) := rr c19_66.eq_1
def c19_67 : ACode := .seq c19_0 c19_66
theorem r19_67 : type_of% (@rr _ _ c19_67.eq_1) := rr c19_67.eq_1
def a19 : AFun := ⟨2, 94, c19_67, [.t 4]⟩
attribute [simp] r19_0 r19_1 r19_2 r19_3 r19_4 r19_5 r19_6 r19_7 r19_8 r19_9 r19_10 r19_11 r19_12 r19_13 r19_14 r19_15 r19_16 r19_17 r19_18 r19_19 r19_20 r19_21 r19_22 r19_23 r19_24 r19_25 r19_26 r19_27 r19_28 r19_29 r19_30 r19_31 r19_32 r19_33 r19_34 r19_35 r19_36 r19_37 r19_38 r19_39 r19_40 r19_41 r19_42 r19_43 r19_44 r19_45 r19_46 r19_47 r19_48 r19_49 r19_50 r19_51 r19_52 r19_53 r19_54 r19_55 r19_56 r19_57 r19_58 r19_59 r19_60 r19_61 r19_62 r19_63 r19_64 r19_65 r19_66 r19_67
theorem m19 : mFun Try.prog Try.f19 a19 = true := by decide +kernel
noncomputable def TreeRight (l : List Word) (dim : Int) : Option Bool := Part (RT l dim) true
def cnt (l : List Word) (i j : Nat) : Int := ((l.take i).countP (fun w => names (nd w) j) : Nat)
def cnts (l : List Word) (i : Nat) : List Int := (List.range l.length).map (cnt l i)
theorem cnts_len (l : List Word) (i : Nat) : (cnts l i).length = l.length := by simp [cnts]
theorem cnts_get (l : List Word) (i j : Nat) (h : j < (cnts l i).length) : (cnts l i)[j] = cnt l i j := by simp [cnts]
theorem cnt_succ {l : List Word} {i : Nat} (h : i < l.length) (j : Nat) : cnt l (i + 1) j = cnt l i j + (if names (ndAt l i) j then 1 else 0) := by
  unfold cnt
  rw [List.take_succ_eq_append_getElem h, List.countP_append, ndAt_lt h]
  simp only [List.countP_cons, List.countP_nil]
  split <;> simp
theorem cnt_le (l : List Word) (i j : Nat) : 0 ≤ cnt l i j ∧ cnt l i j ≤ l.length := by
  unfold cnt
  have := List.countP_le_length (p := fun w => names (nd w) j) (l := l.take i)
  simp at this
  omega
theorem cnts_zero (l : List Word) : cnts l 0 = List.replicate l.length 0 := by
  apply List.ext_getElem
  · simp [cnts]
  · intro j h1 h2
    rw [cnts_get]
    simp [cnt]
theorem cnts_leaf {l : List Word} {i : Nat} (h : i < l.length) (hl : (ndAt l i).leaf = true) : cnts l (i + 1) = cnts l i := by
  apply List.ext_getElem
  · simp [cnts]
  · intro j h1 h2
    rw [cnts_get, cnts_get, cnt_succ h]
    simp [names, hl]
theorem cnts_inner {l : List Word} {dim : Int} (hr : RT l dim) {i : Nat} (h : i < l.length) (hl : (ndAt l i).leaf = false) :
    cnts l (i + 1) = ((cnts l i).set (ndAt l i).left.toNat (cnt l i (ndAt l i).left.toNat + 1)).set (ndAt l i).right.toNat (cnt l i (ndAt l i).right.toNat + 1) := by
  have ha := hr.at h hl
  apply List.ext_getElem
  · simp [cnts]
  · intro j h1 h2
    rw [cnts_get, cnt_succ h, List.getElem_set, List.getElem_set]
    simp only [cnts_get, names, hl, Bool.not_false, Bool.true_and, Bool.or_eq_true, decide_eq_true_eq]
    by_cases e1 : (ndAt l i).right.toNat = j
    · rw [if_pos e1, if_pos (by omega), e1]
    · rw [if_neg e1]
      by_cases e2 : (ndAt l i).left.toNat = j
      · rw [if_pos e2, if_pos (by omega), e2]
      · rw [if_neg e2, if_neg (by omega)]
        omega
theorem unpack_at {l : List Word} {dim : Int} (h : RT l dim) {i : Nat} (hi : i < l.length) : Unpack ⟨l[i].v⟩ = some (ndAt l i, true) := by
  have := h.ok i hi
  unfold Unpack
  have h1 : 0 ≤ (⟨l[i].v⟩ : Word).v ∧ (⟨l[i].v⟩ : Word).v < 18446744073709551616 := this.1
  rw [if_pos h1]
  have e : (⟨l[i].v⟩ : Word) = l[i] := rfl
  rw [e]
  congr 1
  rw [ndAt_lt hi]
  exact Prod.ext rfl this.2
theorem runs_tRight (l : List Word) (dim : Int) (c : Bool) (h : TreeRight l dim = some c) : Runs (tbl [(20, sp1 Unpack)]) a19 [Arg.enc l, Arg.enc dim] (Arg.enc c) := by
  obtain ⟨hr, rfl⟩ := part_some h
  refine ⟨rfl, fun g => run_def ?_⟩
  unfold a19
  have hp := hr.pos
  have hle := hr.le
  have b1 : ¬ (l.length : Int) < 1 := by omega
  have b2 : ¬ (l.length : Int) > 31 := by omega
  have b3 : l.length ≤ maxN := by unfold maxN; omega
  have b4 : (l.length : Int) ≤ 1099511627776 := by omega
  simp -implicitDefEqProofs [b1, b2, b3, b4, rep_ints]
  rw [rep_cells]
  refine run_while (c := c19_37) (fun m s => ∃ (i : Nat) (g : Nat → Nat), i + m = l.length ∧ s = ⟨[(0, .lst l.length (encL l)), (1, .int .i64 dim), (5, .own 5 (g 5) 0 l.length), (23, .lst l.length (encL l)), (24, .int .i64 l.length), (25, .int .i64 i)], [(5, ⟨encL (cnts l i), false, 1⟩)], g⟩) l.length ⟨0, bump 5 g, by omega, by simp [cnts_zero]⟩ ?_
  rintro m s ⟨i, g, hi, rfl⟩
  by_cases h1 : i < l.length
  case pos =>
    have hU := unpack_at hr h1
    have w1 : IntKind.i64.wrap ((i : Int) + 1) = (i : Int) + 1 := wrap64 (by omega) (by omega)
    cases hl : (ndAt l i).leaf
    case true =>
      simp -implicitDefEqProofs [h1, rd_words, hU, hl, w1]
      exact ⟨m - 1, by omega, i + 1, by omega, by omega, by rw [cnts_leaf h1 hl]⟩
    case false =>
      have ha := hr.at h1 hl
      have e1 : ¬ dim ≤ (ndAt l i).feature := by omega
      have e2 : ¬ (ndAt l i).left = (ndAt l i).right := ha.2.1
      have e3 : ¬ (if (ndAt l i).right < (ndAt l i).left then (ndAt l i).right else (ndAt l i).left) ≤ (i : Int) := by split <;> omega
      have e4 : ¬ (l.length : Int) ≤ (if (ndAt l i).left < (ndAt l i).right then (ndAt l i).right else (ndAt l i).left) := by split <;> omega
      have e5 : ¬ (ndAt l i).left.toNat = (ndAt l i).right.toNat := by omega
      have f1 : 0 ≤ (ndAt l i).left := by omega
      have f2 : (ndAt l i).left < l.length := by omega
      have f3 : 0 ≤ (ndAt l i).right := by omega
      have f4 : (ndAt l i).right < l.length := by omega
      have f5 : (ndAt l i).left.toNat < l.length := by omega
      have f6 : (ndAt l i).right.toNat < l.length := by omega
      have n1 := cnt_le l i (ndAt l i).left.toNat
      have n2 := cnt_le l i (ndAt l i).right.toNat
      have w2 : IntKind.i64.wrap (cnt l i (ndAt l i).left.toNat + 1) = cnt l i (ndAt l i).left.toNat + 1 := wrap64 (by omega) (by omega)
      have w3 : IntKind.i64.wrap (cnt l i (ndAt l i).right.toNat + 1) = cnt l i (ndAt l i).right.toNat + 1 := wrap64 (by omega) (by omega)
      simp -implicitDefEqProofs [h1, rd_words, hU, hl, w1, b3, e1, e2, e3, e4, e5, f1, f2, f3, f4, f5, f6, cnts_len, cnts_get, rd_ints, wr_ints, encL_length, w2, w3]
      exact ⟨fun _ => ⟨fun _ => ⟨m - 1, by omega, i + 1, by omega, by omega, by rw [cnts_inner hr h1 hl]⟩, by omega⟩, by omega⟩
  case neg =>
    have hil : i = l.length := by omega
    subst hil
    have p1 : (1 : Int) ≤ l.length := by omega
    have p2 : l.length - 1 ≤ maxN := by omega
    simp -implicitDefEqProofs [p1, p2]
    refine run_while (c := c19_56) (fun m s => ∃ (i : Nat), i + m = l.length - 1 ∧ s = ⟨[(85, .own 5 (g 5) 1 (l.length - 1)), (86, .int .i64 (l.length - 1 : Nat)), (87, .int .i64 i)], [(5, ⟨encL (cnts l l.length), false, 1⟩)], g⟩) (l.length - 1) ⟨0, by omega, by simp⟩ ?_
    rintro m s ⟨i, hi, rfl⟩
    by_cases h1 : (i : Int) < (l.length - 1 : Nat)
    case pos =>
      have w1 : IntKind.i64.wrap ((i : Int) + 1) = (i : Int) + 1 := wrap64 (by omega) (by omega)
      have q1 : 1 + i < l.length := by omega
      have hc : cnt l l.length (1 + i) = 1 := by
        unfold cnt
        rw [List.take_length, hr.once (1 + i) (by omega) q1]
        rfl
      simp -implicitDefEqProofs [h1, rd_ints, cnts_len, cnts_get, w1, q1, hc]
      exact ⟨m - 1, by omega, i + 1, by omega, by omega⟩
    case neg =>
      simp -implicitDefEqProofs [h1]
theorem c_tRight : Contract Try.prog 19 (sp2 TreeRight) :=
  contract_of_runs mixed (tbl_cons c_Unpack tbl_nil) Try.func19 m19 (sp2_runs runs_tRight)
end Go.Co
