/- CO: right trees and right models: told of any. -/
import Derived.Test.YtcjflbmpfmibbaaCoR
import Derived.Test.YtcjflbmpfmibbaaCoO
import Derived.Test.YtcjflbmpfmibbaaCoPure
namespace Go.Co
open Go.Am Go.Proofs
set_option linter.unusedSimpArgs false
set_option linter.unusedVariables false
open Classical in
noncomputable def rightT (l : List Word) (dim : Int) : Bool := decide (RT l dim)
theorem rightT_true {l : List Word} {dim : Int} : rightT l dim = true ↔ RT l dim := by unfold rightT; simp
theorem rightT_false {l : List Word} {dim : Int} : rightT l dim = false ↔ ¬ RT l dim := by unfold rightT; simp
def okL (l : List Word) : Prop := ∀ w ∈ l, okW w.v
noncomputable def TreeRightT (l : List Word) (dim : Int) : Option Bool := Part (okL l ∧ l.length ≤ maxN) (rightT l dim)
def Pre (l : List Word) (dim : Int) (n : Nat) : Prop := ∀ (i : Nat) (h : i < l.length), i < n → (unpack l[i]).2 = true ∧ ((nd l[i]).leaf = false → (nd l[i]).feature < dim ∧ (nd l[i]).left ≠ (nd l[i]).right ∧ (i : Int) < (nd l[i]).left ∧ (nd l[i]).left < l.length ∧ (i : Int) < (nd l[i]).right ∧ (nd l[i]).right < l.length)
theorem Pre.zero {l : List Word} {dim : Int} : Pre l dim 0 := fun i h hi => by omega
theorem Pre.leaf {l : List Word} {dim : Int} {i : Nat} (h : Pre l dim i) (hi : i < l.length) (hok : (unpack l[i]).2 = true) (hl : (ndAt l i).leaf = true) : Pre l dim (i + 1) := by
  intro j hj hji
  by_cases e : j = i
  · subst e
    rw [ndAt_lt hi] at hl
    exact ⟨hok, fun h => by rw [hl] at h; cases h⟩
  · exact h j hj (by omega)
theorem Pre.inner {l : List Word} {dim : Int} {i : Nat} (h : Pre l dim i) (hi : i < l.length) (hok : (unpack l[i]).2 = true) (ha : (ndAt l i).feature < dim ∧ (ndAt l i).left ≠ (ndAt l i).right ∧ (i : Int) < (ndAt l i).left ∧ (ndAt l i).left < l.length ∧ (i : Int) < (ndAt l i).right ∧ (ndAt l i).right < l.length) : Pre l dim (i + 1) := by
  intro j hj hji
  by_cases e : j = i
  · subst e
    rw [ndAt_lt hi] at ha
    exact ⟨hok, fun _ => ha⟩
  · exact h j hj (by omega)
theorem cnts_innerT {l : List Word} {i : Nat} (h : i < l.length) (hl : (ndAt l i).leaf = false) (ha : (ndAt l i).left ≠ (ndAt l i).right ∧ (i : Int) < (ndAt l i).left ∧ (ndAt l i).left < l.length ∧ (i : Int) < (ndAt l i).right ∧ (ndAt l i).right < l.length) :
    cnts l (i + 1) = ((cnts l i).set (ndAt l i).left.toNat (cnt l i (ndAt l i).left.toNat + 1)).set (ndAt l i).right.toNat (cnt l i (ndAt l i).right.toNat + 1) := by
  apply List.ext_getElem
  · simp [cnts]
  · intro j h1 h2
    rw [cnts_get, cnt_succ h, List.getElem_set, List.getElem_set]
    simp only [cnts_get, names, hl, Bool.not_false, Bool.true_and, Bool.or_eq_true, decide_eq_true_eq]
    by_cases e1 : (ndAt l i).right.toNat = j
    · rw [if_pos e1, if_pos (by omega), e1]
    · rw [if_neg e1]
      by_cases e2 : (ndAt l i).left.toNat = j
      · rw [if_pos e2, if_pos (by omega), e2]
      · rw [if_neg e2, if_neg (by omega)]
        omega
theorem unpackT {l : List Word} (h : okL l) {i : Nat} (hi : i < l.length) : Unpack ⟨l[i].v⟩ = some (ndAt l i, (unpack l[i]).2) := by
  have h1 := h l[i] (List.getElem_mem hi)
  unfold Unpack
  have h1' : 0 ≤ (⟨l[i].v⟩ : Word).v ∧ (⟨l[i].v⟩ : Word).v < 18446744073709551616 := h1
  rw [if_pos h1']
  have e : (⟨l[i].v⟩ : Word) = l[i] := rfl
  rw [e, ndAt_lt hi]
  rfl
theorem rt_of {l : List Word} {dim : Int} (hw : okL l) (h1 : 1 ≤ l.length) (h2 : l.length ≤ 31) (hp : Pre l dim l.length) (ho : ∀ j : Nat, 1 ≤ j → j < l.length → cnt l l.length j = 1) : RT l dim where
  ok := fun i h => ⟨hw _ (List.getElem_mem h), (hp i h h).1⟩
  pos := h1
  le := h2
  inner := fun i h hl => (hp i h h).2 hl
  once := fun j hj hj2 => by
    have := ho j hj hj2
    unfold cnt at this
    rw [List.take_length] at this
    omega
set_option maxHeartbeats 2000000 in
theorem runs_tRightT (l : List Word) (dim : Int) (c : Bool) (h : TreeRightT l dim = some c) : Runs (tbl [(20, sp1 Unpack)]) a19 [Arg.enc l, Arg.enc dim] (Arg.enc c) := by
  obtain ⟨⟨hw, hmx⟩, rfl⟩ := part_some h
  clear h
  cases hc : rightT l dim
  case true => exact runs_tRight l dim true (part_of (rightT_true.1 hc) _)
  have hn := rightT_false.1 hc
  refine ⟨rfl, fun g => run_def ?_⟩
  unfold a19
  by_cases b1 : (l.length : Int) < 1
  case pos => simp -implicitDefEqProofs [b1, hmx]
  by_cases b2 : (l.length : Int) > 31
  case pos =>
    have b2' : (31 : Int) < l.length := b2
    simp -implicitDefEqProofs [b1, b2', hmx]
  have b3 : l.length ≤ maxN := by unfold maxN; omega
  have b4 : (l.length : Int) ≤ 1099511627776 := by omega
  simp -implicitDefEqProofs [b1, b2, b3, b4, rep_ints]
  rw [rep_cells]
  refine run_while (c := c19_37) (fun m s => ∃ (i : Nat) (g : Nat → Nat), i + m = l.length ∧ Pre l dim i ∧ s = ⟨[(0, .lst l.length (encL l)), (1, .int .i64 dim), (5, .own 5 (g 5) 0 l.length), (23, .lst l.length (encL l)), (24, .int .i64 l.length), (25, .int .i64 i)], [(5, ⟨encL (cnts l i), false, 1⟩)], g⟩) l.length ⟨0, bump 5 g, by omega, Pre.zero, by simp [cnts_zero]⟩ ?_
  rintro m s ⟨i, g, hi, hpre, rfl⟩
  by_cases h1 : i < l.length
  case pos =>
    have hU := unpackT hw h1
    have w1 : IntKind.i64.wrap ((i : Int) + 1) = (i : Int) + 1 := wrap64 (by omega) (by omega)
    cases hok : (unpack l[i]).2
    case false =>
      rw [hok] at hU
      simp -implicitDefEqProofs [h1, rd_words, hU, w1]
    rw [hok] at hU
    cases hl : (ndAt l i).leaf
    case true =>
      simp -implicitDefEqProofs [h1, rd_words, hU, hl, w1]
      exact ⟨m - 1, by omega, i + 1, by omega, hpre.leaf h1 hok hl, by omega, by rw [cnts_leaf h1 hl]⟩
    case false =>
      by_cases e1 : dim ≤ (ndAt l i).feature
      case pos => simp -implicitDefEqProofs [h1, rd_words, hU, hl, w1, e1]
      by_cases e2 : (ndAt l i).left = (ndAt l i).right
      case pos => simp -implicitDefEqProofs [h1, rd_words, hU, hl, w1, e1, e2]
      by_cases e3 : (if (ndAt l i).right < (ndAt l i).left then (ndAt l i).right else (ndAt l i).left) ≤ (i : Int)
      case pos => simp -implicitDefEqProofs [h1, rd_words, hU, hl, w1, e1, e2, e3]
      by_cases e4 : (l.length : Int) ≤ (if (ndAt l i).left < (ndAt l i).right then (ndAt l i).right else (ndAt l i).left)
      case pos => simp -implicitDefEqProofs [h1, rd_words, hU, hl, w1, b3, e1, e2, e3, e4]
      have f0 : (i : Int) < (ndAt l i).left ∧ (i : Int) < (ndAt l i).right := by split at e3 <;> omega
      have f0' : (ndAt l i).left < l.length ∧ (ndAt l i).right < l.length := by split at e4 <;> omega
      have e5 : ¬ (ndAt l i).left.toNat = (ndAt l i).right.toNat := by omega
      have f1 : 0 ≤ (ndAt l i).left := by omega
      have f2 : (ndAt l i).left < l.length := by omega
      have f3 : 0 ≤ (ndAt l i).right := by omega
      have f4 : (ndAt l i).right < l.length := by omega
      have f5 : (ndAt l i).left.toNat < l.length := by omega
      have f6 : (ndAt l i).right.toNat < l.length := by omega
      have n1 := cnt_le l i (ndAt l i).left.toNat
      have n2 := cnt_le l i (ndAt l i).right.toNat
      have w2 : IntKind.i64.wrap (cnt l i (ndAt l i).left.toNat + 1) = cnt l i (ndAt l i).left.toNat + 1 := wrap64 (by omega) (by omega)
      have w3 : IntKind.i64.wrap (cnt l i (ndAt l i).right.toNat + 1) = cnt l i (ndAt l i).right.toNat + 1 := wrap64 (by omega) (by omega)
      simp -implicitDefEqProofs [h1, rd_words, hU, hl, w1, b3, e1, e2, e3, e4, e5, f1, f2, f3, f4, f5, f6, cnts_len, cnts_get, rd_ints, wr_ints, encL_length, w2, w3]
      exact ⟨fun _ => ⟨fun _ => ⟨m - 1, by omega, i + 1, by omega, hpre.inner h1 hok ⟨by omega, e2, f0.1, f0'.1, f0.2, f0'.2⟩, by omega, by rw [cnts_innerT h1 hl ⟨e2, f0.1, f0'.1, f0.2, f0'.2⟩]⟩, by omega⟩, by omega⟩
  case neg =>
    have hil : i = l.length := by omega
    subst hil
    have p1 : (1 : Int) ≤ l.length := by omega
    have p2 : l.length - 1 ≤ maxN := by omega
    simp -implicitDefEqProofs [p1, p2]
    refine run_while (c := c19_56) (fun m s => ∃ (i : Nat), i + m = l.length - 1 ∧ (∀ j : Nat, 1 ≤ j → j ≤ i → cnt l l.length j = 1) ∧ s = ⟨[(85, .own 5 (g 5) 1 (l.length - 1)), (86, .int .i64 (l.length - 1 : Nat)), (87, .int .i64 i)], [(5, ⟨encL (cnts l l.length), false, 1⟩)], g⟩) (l.length - 1) ⟨0, by omega, fun j _ _ => by omega, by simp⟩ ?_
    rintro m s ⟨i, hi, hon, rfl⟩
    by_cases h1 : (i : Int) < (l.length - 1 : Nat)
    case pos =>
      have w1 : IntKind.i64.wrap ((i : Int) + 1) = (i : Int) + 1 := wrap64 (by omega) (by omega)
      have q1 : 1 + i < l.length := by omega
      by_cases hc : cnt l l.length (1 + i) = 1
      case pos =>
        simp -implicitDefEqProofs [h1, rd_ints, cnts_len, cnts_get, w1, q1, hc]
        refine ⟨m - 1, by omega, i + 1, by omega, fun j hj1 hj2 => ?_, by omega⟩
        by_cases e : j = 1 + i
        · rw [e]; exact hc
        · exact hon j hj1 (by omega)
      case neg => simp -implicitDefEqProofs [h1, rd_ints, cnts_len, cnts_get, w1, q1, hc]
    case neg =>
      exact absurd (rt_of hw (by omega) (by omega) hpre (fun j hj1 hj2 => hon j hj1 (by omega))) hn
theorem c_tRightT : Contract Try.prog 19 (sp2 TreeRightT) :=
  contract_of_runs mixed (tbl_cons c_Unpack tbl_nil) Try.func19 m19 (sp2_runs runs_tRightT)
/-! ### models -/
noncomputable def badT (m : Model) (t : Tree) : Bool := decide (t.cls < 0) || decide (m.classes ≤ t.cls) || !rightT t.nodes m.dim
def okTW (t : Tree) : Prop := okL t.nodes ∧ t.nodes.length ≤ maxN
theorem badT_false {m : Model} {t : Tree} : badT m t = false ↔ 0 ≤ t.cls ∧ t.cls < m.classes ∧ RT t.nodes m.dim := by
  unfold badT
  rw [← rightT_true]
  simp only [Bool.or_eq_false_iff, decide_eq_false_iff_not, Bool.not_eq_false']
  constructor
  · rintro ⟨⟨h1, h2⟩, h3⟩; exact ⟨by omega, by omega, h3⟩
  · rintro ⟨h1, h2, h3⟩; exact ⟨⟨by omega, by omega⟩, h3⟩
noncomputable def Right1T (t : Tree) (m : Ref Model) : Option Bool := Part (okTW t) (badT m.v t)
theorem runs_Right1T (t : Tree) (m : Ref Model) (c : Bool) (h : Right1T t m = some c) : Runs (tbl [(19, sp2 TreeRightT)]) a77 [Arg.enc t, Arg.enc m] (Arg.enc c) := by
  obtain ⟨hw, rfl⟩ := part_some h
  obtain ⟨m⟩ := m
  refine ⟨rfl, fun g => run_def ?_⟩
  unfold a77
  have hT : TreeRightT t.nodes m.dim = some (rightT t.nodes m.dim) := part_of hw _
  unfold badT
  by_cases e0 : t.cls < 0
  · simp -implicitDefEqProofs [e0, hT]
  by_cases e1 : m.classes ≤ t.cls
  · simp -implicitDefEqProofs [e0, e1, hT]
  · simp -implicitDefEqProofs [e0, e1, hT]
theorem c_Right1T : Contract Try.prog 77 (sp2 Right1T) :=
  contract_of_runs mixed (tbl_cons c_tRightT tbl_nil) Try.func77 m77 (sp2_runs runs_Right1T)
def idxF {α : Type} (p : α → Bool) (l : List α) : Int := if l.findIdx p < l.length then (l.findIdx p : Int) else -1
noncomputable def IndexTreesT (l : List Tree) (r : CloR) : Option Int := Part (l.length ≤ 8 ∧ ∀ t ∈ l, okTW t) (idxF (badT r.m) l)
theorem runs_IndexTreesT (l : List Tree) (r : CloR) (c : Int) (h : IndexTreesT l r = some c) : Runs (tbl [(77, sp2 Right1T)]) a124 [Arg.enc l, Arg.enc r] (Arg.enc c) := by
  obtain ⟨⟨hle, hr⟩, rfl⟩ := part_some h
  obtain ⟨m⟩ := r
  refine ⟨rfl, fun g => run_def ?_⟩
  unfold a124
  have b3 : l.length ≤ maxN := by unfold maxN; omega
  simp -implicitDefEqProofs [b3]
  refine run_while (c := c124_15) (fun n s => ∃ (i : Nat), i + n = l.length ∧ (∀ (j : Nat) (hj : j < l.length), j < i → badT m l[j] = false) ∧ s = ⟨[(0, .lst l.length (encL l)), (1, Arg.enc (⟨m⟩ : CloR)), (7, .int .i64 l.length), (8, .int .i64 i)], [], g⟩) l.length ⟨0, by omega, fun j _ h => by omega, by simp⟩ ?_
  rintro n s ⟨i, hi, hno, rfl⟩
  by_cases h1 : i < l.length
  case pos =>
    have w1 : IntKind.i64.wrap ((i : Int) + 1) = (i : Int) + 1 := wrap64 (by omega) (by omega)
    have hrow := rd_tree l i h1
    have hR : Right1T ⟨l[i].cls, l[i].nodes⟩ ⟨m⟩ = some (badT m l[i]) := part_of (hr _ (List.getElem_mem h1)) _
    cases hb : badT m l[i]
    case false =>
      rw [hb] at hR
      simp -implicitDefEqProofs [h1, hrow, hR, w1]
      refine ⟨n - 1, by omega, i + 1, by omega, fun j hj hji => ?_, by omega⟩
      by_cases e : j = i
      · subst e; exact hb
      · exact hno j hj (by omega)
    case true =>
      rw [hb] at hR
      have hidx : idxF (badT m) l = i := by
        have : l.findIdx (badT m) = i := (List.findIdx_eq h1).2 ⟨hb, fun j hj => hno j (by omega) hj⟩
        unfold idxF
        rw [this, if_pos h1]
      simp -implicitDefEqProofs [h1, hrow, hR, w1, hidx]
  case neg =>
    have hidx : idxF (badT m) l = -1 := by
      have : l.findIdx (badT m) = l.length := List.findIdx_eq_length.2 fun x hx => by
        obtain ⟨j, hj, rfl⟩ := List.mem_iff_getElem.1 hx
        exact hno j hj (by omega)
      unfold idxF
      rw [this, if_neg (by omega)]
    simp -implicitDefEqProofs [h1, hidx]
theorem c_IndexTreesT : Contract Try.prog 124 (sp2 IndexTreesT) :=
  contract_of_runs mixed (tbl_cons c_Right1T tbl_nil) Try.func124 m124 (sp2_runs runs_IndexTreesT)
noncomputable def ContainsTreesT (l : List Tree) (r : CloR) : Option Bool := Part (l.length ≤ 8 ∧ ∀ t ∈ l, okTW t) (l.any (badT r.m))
theorem idxF_any {α : Type} (p : α → Bool) (l : List α) : decide (0 ≤ idxF p l) = l.any p := by
  unfold idxF
  split
  · rename_i h
    have : l.any p = true := List.any_eq_true.2 ⟨l[l.findIdx p], List.getElem_mem h, List.findIdx_getElem⟩
    rw [this]
    simp
  · rename_i h
    have h2 : l.findIdx p = l.length := by have := List.findIdx_le_length (p := p) (xs := l); omega
    have : l.any p = false := by
      rw [List.any_eq_false]
      intro x hx
      simp [List.findIdx_eq_length.1 h2 x hx]
    rw [this]
    decide
theorem runs_ContainsTreesT (l : List Tree) (r : CloR) (c : Bool) (h : ContainsTreesT l r = some c) : Runs (tbl [(124, sp2 IndexTreesT)]) a76 [Arg.enc l, Arg.enc r] (Arg.enc c) := by
  obtain ⟨hr, rfl⟩ := part_some h
  obtain ⟨m⟩ := r
  refine ⟨rfl, fun g => run_def ?_⟩
  unfold a76
  have hI : IndexTreesT l ⟨m⟩ = some (idxF (badT m) l) := part_of hr _
  have := idxF_any (badT m) l
  simp -implicitDefEqProofs [hI, this]
theorem c_ContainsTreesT : Contract Try.prog 76 (sp2 ContainsTreesT) :=
  contract_of_runs mixed (tbl_cons c_IndexTreesT tbl_nil) Try.func76 m76 (sp2_runs runs_ContainsTreesT)
open Classical in
noncomputable def rightM (m : Model) : Bool := decide (RM m)
theorem rightM_true {m : Model} : rightM m = true ↔ RM m := by unfold rightM; simp
theorem rightM_false {m : Model} : rightM m = false ↔ ¬ RM m := by unfold rightM; simp
def okMW (m : Model) : Prop := m.trees.length ≤ maxN ∧ ∀ t ∈ m.trees, okTW t
noncomputable def MRightT (m : Model) : Option Bool := Part (okMW m) (rightM m)
theorem rm_of {m : Model} (d : 1 ≤ m.dim ∧ m.dim ≤ 4) (k : 1 ≤ m.classes ∧ m.classes ≤ 3) (b : fits m.bias.b0 = true ∧ fits m.bias.b1 = true ∧ fits m.bias.b2 = true) (n1 : m.classes ≤ 1 → m.bias.b1 = 0) (n2 : m.classes ≤ 2 → m.bias.b2 = 0) (hl : m.trees.length ≤ 8) (ht : m.trees.any (badT m) = false) : RM m where
  dim := d
  classes := k
  bias := b
  none1 := n1
  none2 := n2
  trees := hl
  tree := fun t h => by
    rw [List.any_eq_false] at ht
    exact badT_false.1 (by simpa using ht t h)
set_option maxRecDepth 8000 in
set_option maxHeartbeats 4000000 in
theorem runs_mRightT (m : Model) (c : Bool) (h : MRightT m = some c) : Runs (tbl [(75, sp2 Fits), (76, sp2 ContainsTreesT)]) a27 [Arg.enc m] (Arg.enc c) := by
  obtain ⟨⟨b3, hw⟩, rfl⟩ := part_some h
  clear h
  refine ⟨rfl, fun g => run_def ?_⟩
  unfold a27
  by_cases e0 : m.dim < 1
  · have hF : rightM m = false := rightM_false.2 fun h => by have := h.dim; omega
    simp -implicitDefEqProofs [hF, e0]
  by_cases e1 : 4 < m.dim
  · have hF : rightM m = false := rightM_false.2 fun h => by have := h.dim; omega
    simp -implicitDefEqProofs [hF, e0, e1]
  by_cases e2 : m.classes < 1
  · have hF : rightM m = false := rightM_false.2 fun h => by have := h.classes; omega
    simp -implicitDefEqProofs [hF, e0, e1, e2]
  by_cases e3 : 3 < m.classes
  · have hF : rightM m = false := rightM_false.2 fun h => by have := h.classes; omega
    simp -implicitDefEqProofs [hF, e0, e1, e2, e3]
  by_cases e4 : (8 : Int) < m.trees.length
  · have hF : rightM m = false := rightM_false.2 fun h => by have := h.trees; omega
    simp -implicitDefEqProofs [hF, e0, e1, e2, e3, e4, b3]
  have e5 : ¬ m.classes ≤ 0 := by omega
  cases f0 : fits m.bias.b0
  · have hF : rightM m = false := rightM_false.2 fun h => by have := h.bias.1; rw [f0] at this; cases this
    simp -implicitDefEqProofs [hF, run_round, b3, e0, e1, e2, e3, e4, e5, Fits, f0]
  cases f1 : fits m.bias.b1
  · have hF : rightM m = false := rightM_false.2 fun h => by have := h.bias.2.1; rw [f1] at this; cases this
    simp -implicitDefEqProofs [hF, run_round, b3, e0, e1, e2, e3, e4, e5, Fits, f0, f1]
  have hC : ContainsTreesT m.trees ⟨m⟩ = some (m.trees.any (badT m)) := part_of ⟨by omega, hw⟩ _
  have last : (n1 : m.classes ≤ 1 → m.bias.b1 = 0) → (n2 : m.classes ≤ 2 → m.bias.b2 = 0) → fits m.bias.b2 = true → rightM m = !m.trees.any (badT m) := by
    intro n1 n2 f2
    cases ha : m.trees.any (badT m)
    · exact rightM_true.2 (rm_of ⟨by omega, by omega⟩ ⟨by omega, by omega⟩ ⟨f0, f1, f2⟩ n1 n2 (by omega) ha)
    · refine rightM_false.2 fun h => ?_
      rw [List.any_eq_true] at ha
      obtain ⟨t, ht, hb⟩ := ha
      rw [badT_false.2 (h.tree t ht)] at hb
      cases hb
  have fz : fits 0 = true := rfl
  by_cases k1 : m.classes ≤ 1
  · have k2 : m.classes ≤ 2 := by omega
    by_cases z1 : m.bias.b1 = 0
    · have d1 : decide (m.bias.b1 = 0) = true := by simp [z1]
      cases f2 : fits m.bias.b2
      · have hF : rightM m = false := rightM_false.2 fun h => by have := h.bias.2.2; rw [f2] at this; cases this
        simp -implicitDefEqProofs [hF, run_round, b3, e0, e1, e2, e3, e4, e5, Fits, fz, f0, f1, f2, k1, k2, d1]
      by_cases z2 : m.bias.b2 = 0
      · have d2 : decide (m.bias.b2 = 0) = true := by simp [z2]
        have hF := last (fun _ => z1) (fun _ => z2) f2
        simp -implicitDefEqProofs [hF, run_round, b3, e0, e1, e2, e3, e4, e5, Fits, fz, f0, f1, f2, k1, k2, d1, d2, hC]
      · have d2 : decide (m.bias.b2 = 0) = false := by simp [z2]
        have hF : rightM m = false := rightM_false.2 fun h => z2 (h.none2 k2)
        simp -implicitDefEqProofs [hF, run_round, b3, e0, e1, e2, e3, e4, e5, Fits, fz, f0, f1, f2, k1, k2, d1, d2]
    · have d1 : decide (m.bias.b1 = 0) = false := by simp [z1]
      have hF : rightM m = false := rightM_false.2 fun h => z1 (h.none1 k1)
      simp -implicitDefEqProofs [hF, run_round, b3, e0, e1, e2, e3, e4, e5, Fits, fz, f0, f1, k1, k2, d1]
  · cases f2 : fits m.bias.b2
    · have hF : rightM m = false := rightM_false.2 fun h => by have := h.bias.2.2; rw [f2] at this; cases this
      simp -implicitDefEqProofs [hF, run_round, b3, e0, e1, e2, e3, e4, e5, Fits, fz, f0, f1, f2, k1]
    by_cases k2 : m.classes ≤ 2
    · by_cases z2 : m.bias.b2 = 0
      · have d2 : decide (m.bias.b2 = 0) = true := by simp [z2]
        have hF := last (fun h => absurd h k1) (fun _ => z2) f2
        simp -implicitDefEqProofs [hF, run_round, b3, e0, e1, e2, e3, e4, e5, Fits, fz, f0, f1, f2, k1, k2, d2, hC]
      · have d2 : decide (m.bias.b2 = 0) = false := by simp [z2]
        have hF : rightM m = false := rightM_false.2 fun h => z2 (h.none2 k2)
        simp -implicitDefEqProofs [hF, run_round, b3, e0, e1, e2, e3, e4, e5, Fits, fz, f0, f1, f2, k1, k2, d2]
    · have hF := last (fun h => absurd h k1) (fun h => absurd h k2) f2
      simp -implicitDefEqProofs [hF, run_round, b3, e0, e1, e2, e3, e4, e5, Fits, fz, f0, f1, f2, k1, k2, hC]
theorem c_mRightT : Contract Try.prog 27 (sp1 MRightT) :=
  contract_of_runs mixed (tbl_cons c_Fits (tbl_cons c_ContainsTreesT tbl_nil)) Try.func27 m27 (sp1_runs runs_mRightT)
theorem RT.okTW {l : List Word} {dim : Int} (h : RT l dim) : okL l ∧ l.length ≤ maxN := by
  refine ⟨fun w hw => ?_, by have := h.le; unfold maxN; omega⟩
  obtain ⟨i, hi, rfl⟩ := List.mem_iff_getElem.1 hw
  exact (h.ok i hi).1
theorem RM.okMW {m : Model} (h : RM m) : okMW m := ⟨by have := h.trees; unfold maxN; omega, fun t ht => (h.tree t ht).2.2.okTW⟩
def lenF (n : Int) (t : Tree) : Int := n + (t.nodes.length : Int)
def sizeM (m : Model) : Int := m.trees.foldl lenF 0
noncomputable def SizeC (m : Model) : Option Int := Part (m.trees.length ≤ 100 ∧ ∀ t ∈ m.trees, t.nodes.length ≤ 1099511627776) (sizeM m)
theorem RM.size {m : Model} (h : RM m) : SizeC m = some (sizeM m) := part_of ⟨by have := h.trees; omega, fun t ht => by have := (h.tree t ht).2.2.le; omega⟩ _
end Go.Co
