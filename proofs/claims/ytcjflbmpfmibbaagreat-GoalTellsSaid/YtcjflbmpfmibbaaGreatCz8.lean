/- CO: texts of this claim, one behind the other. -/
import Derived.Test.YtcjflbmpfmibbaaGreatCz6
import Derived.Test.YtcjflbmpfmibbaaGreatCz7
import Derived.Test.YtcjflbmpfmibbaaGreatCz1
import Derived.Test.YtcjflbmpfmibbaaGreatCz2
/- CO: right trees and right models: told of any. -/
namespace Go.Co
open Go.Am Go.Proofs
set_option linter.unusedSimpArgs false
set_option linter.unusedVariables false
open Classical in
noncomputable def rightT (l : List Word) (dim : Int) : Bool := decide (RT l dim)
theorem rightT_true {l : List Word} {dim : Int} : rightT l dim = true ↔ RT l dim := by unfold rightT; simp
theorem rightT_false {l : List Word} {dim : Int} : rightT l dim = false ↔ ¬ RT l dim := by unfold rightT; simp
def okL (l : List Word) : Prop := ∀ w ∈ l, okW w.v
noncomputable def TreeRightT (l : List Word) (dim : Int) : Option Bool := Part (okL l ∧ l.length ≤ maxN) (rightT l dim)
def Pre (l : List Word) (dim : Int) (n : Nat) : Prop := ∀ (i : Nat) (h : i < l.length), i < n → (unpack l[i]).2 = true ∧ ((nd l[i]).leaf = false → (nd l[i]).feature < dim ∧ (nd l[i]).left ≠ (nd l[i]).right ∧ (i : Int) < (nd l[i]).left ∧ (nd l[i]).left < l.length ∧ (i : Int) < (nd l[i]).right ∧ (nd l[i]).right < l.length)
theorem Pre.zero {l : List Word} {dim : Int} : Pre l dim 0 := fun i h hi => by omega
theorem Pre.leaf {l : List Word} {dim : Int} {i : Nat} (h : Pre l dim i) (hi : i < l.length) (hok : (unpack l[i]).2 = true) (hl : (ndAt l i).leaf = true) : Pre l dim (i + 1) := by
  intro j hj hji
  by_cases e : j = i
  · subst e
    rw [ndAt_lt hi] at hl
    exact ⟨hok, fun h => by rw [hl] at h; cases h⟩
  · exact h j hj (by omega)
theorem Pre.inner {l : List Word} {dim : Int} {i : Nat} (h : Pre l dim i) (hi : i < l.length) (hok : (unpack l[i]).2 = true) (ha : (ndAt l i).feature < dim ∧ (ndAt l i).left ≠ (ndAt l i).right ∧ (i : Int) < (ndAt l i).left ∧ (ndAt l i).left < l.length ∧ (i : Int) < (ndAt l i).right ∧ (ndAt l i).right < l.length) : Pre l dim (i + 1) := by
  intro j hj hji
  by_cases e : j = i
  · subst e
    rw [ndAt_lt hi] at ha
    exact ⟨hok, fun _ => ha⟩
  · exact h j hj (by omega)
theorem cnts_innerT {l : List Word} {i : Nat} (h : i < l.length) (hl : (ndAt l i).leaf = false) (ha : (ndAt l i).left ≠ (ndAt l i).right ∧ (i : Int) < (ndAt l i).left ∧ (ndAt l i).left < l.length ∧ (i : Int) < (ndAt l i).right ∧ (ndAt l i).right < l.length) :
    cnts l (i + 1) = ((cnts l i).set (ndAt l i).left.toNat (cnt l i (ndAt l i).left.toNat + 1)).set (ndAt l i).right.toNat (cnt l i (ndAt l i).right.toNat + 1) := by
  apply List.ext_getElem
  · simp [cnts]
  · intro j h1 h2
    rw [cnts_get, cnt_succ h, List.getElem_set, List.getElem_set]
    simp only [cnts_get, names, hl, Bool.not_false, Bool.true_and, Bool.or_eq_true, decide_eq_true_eq]
    by_cases e1 : (ndAt l i).right.toNat = j
    · rw [if_pos e1, if_pos (by omega), e1]
    · rw [if_neg e1]
      by_cases e2 : (ndAt l i).left.toNat = j
      · rw [if_pos e2, if_pos (by omega), e2]
      · rw [if_neg e2, if_neg (by omega)]
        omega
theorem unpackT {l : List Word} (h : okL l) {i : Nat} (hi : i < l.length) : Unpack ⟨l[i].v⟩ = some (ndAt l i, (unpack l[i]).2) := by
  have h1 := h l[i] (List.getElem_mem hi)
  unfold Unpack
  have h1' : 0 ≤ (⟨l[i].v⟩ : Word).v ∧ (⟨l[i].v⟩ : Word).v < 18446744073709551616 := h1
  rw [if_pos h1']
  have e : (⟨l[i].v⟩ : Word) = l[i] := rfl
  rw [e, ndAt_lt hi]
  rfl
theorem rt_of {l : List Word} {dim : Int} (hw : okL l) (h1 : 1 ≤ l.length) (h2 : l.length ≤ 31) (hp : Pre l dim l.length) (ho : ∀ j : Nat, 1 ≤ j → j < l.length → cnt l l.length j = 1) : RT l dim where
  ok := fun i h => ⟨hw _ (List.getElem_mem h), (hp i h h).1⟩
  pos := h1
  le := h2
  inner := fun i h hl => (hp i h h).2 hl
  once := fun j hj hj2 => by
    have := ho j hj hj2
    unfold cnt at this
    rw [List.take_length] at this
    omega
set_option maxHeartbeats 2000000 in
theorem runs_tRightT (l : List Word) (dim : Int) (c : Bool) (h : TreeRightT l dim = some c) : Runs (tbl [(85, sp1 Unpack)]) a74 [Arg.enc l, Arg.enc dim] (Arg.enc c) := by
  obtain ⟨⟨hw, hmx⟩, rfl⟩ := part_some h
  clear h
  cases hc : rightT l dim
  case true => exact runs_tRight l dim true (part_of (rightT_true.1 hc) _)
  have hn := rightT_false.1 hc
  refine ⟨rfl, fun g => run_def ?_⟩
  unfold a74
  by_cases b1 : (l.length : Int) < 1
  case pos => simp -implicitDefEqProofs [b1, hmx]
  by_cases b2 : (l.length : Int) > 31
  case pos =>
    have b2' : (31 : Int) < l.length := b2
    simp -implicitDefEqProofs [b1, b2', hmx]
  have b3 : l.length ≤ maxN := by unfold maxN; omega
  have b4 : (l.length : Int) ≤ 1099511627776 := by omega
  simp -implicitDefEqProofs [b1, b2, b3, b4, rep_ints]
  rw [rep_cells]
  refine run_while (c := c74_37) (fun m s => ∃ (i : Nat) (g : Nat → Nat), i + m = l.length ∧ Pre l dim i ∧ s = ⟨[(0, .lst l.length (encL l)), (1, .int .i64 dim), (5, .own 5 (g 5) 0 l.length), (23, .lst l.length (encL l)), (24, .int .i64 l.length), (25, .int .i64 i)], [(5, ⟨encL (cnts l i), false, 1⟩)], g⟩) l.length ⟨0, bump 5 g, by omega, Pre.zero, by simp [cnts_zero]⟩ ?_
  rintro m s ⟨i, g, hi, hpre, rfl⟩
  by_cases h1 : i < l.length
  case pos =>
    have hU := unpackT hw h1
    have w1 : IntKind.i64.wrap ((i : Int) + 1) = (i : Int) + 1 := wrap64 (by omega) (by omega)
    cases hok : (unpack l[i]).2
    case false =>
      rw [hok] at hU
      simp -implicitDefEqProofs [h1, rd_words, hU, w1]
    rw [hok] at hU
    cases hl : (ndAt l i).leaf
    case true =>
      simp -implicitDefEqProofs [h1, rd_words, hU, hl, w1]
      exact ⟨m - 1, by omega, i + 1, by omega, hpre.leaf h1 hok hl, by omega, by rw [cnts_leaf h1 hl]⟩
    case false =>
      by_cases e1 : dim ≤ (ndAt l i).feature
      case pos => simp -implicitDefEqProofs [h1, rd_words, hU, hl, w1, e1]
      by_cases e2 : (ndAt l i).left = (ndAt l i).right
      case pos => simp -implicitDefEqProofs [h1, rd_words, hU, hl, w1, e1, e2]
      by_cases e3 : (if (ndAt l i).right < (ndAt l i).left then (ndAt l i).right else (ndAt l i).left) ≤ (i : Int)
      case pos => simp -implicitDefEqProofs [h1, rd_words, hU, hl, w1, e1, e2, e3]
      by_cases e4 : (l.length : Int) ≤ (if (ndAt l i).left < (ndAt l i).right then (ndAt l i).right else (ndAt l i).left)
      case pos => simp -implicitDefEqProofs [h1, rd_words, hU, hl, w1, b3, e1, e2, e3, e4]
      have f0 : (i : Int) < (ndAt l i).left ∧ (i : Int) < (ndAt l i).right := by split at e3 <;> omega
      have f0' : (ndAt l i).left < l.length ∧ (ndAt l i).right < l.length := by split at e4 <;> omega
      have e5 : ¬ (ndAt l i).left.toNat = (ndAt l i).right.toNat := by omega
      have f1 : 0 ≤ (ndAt l i).left := by omega
      have f2 : (ndAt l i).left < l.length := by omega
      have f3 : 0 ≤ (ndAt l i).right := by omega
      have f4 : (ndAt l i).right < l.length := by omega
      have f5 : (ndAt l i).left.toNat < l.length := by omega
      have f6 : (ndAt l i).right.toNat < l.length := by omega
      have n1 := cnt_le l i (ndAt l i).left.toNat
      have n2 := cnt_le l i (ndAt l i).right.toNat
      have w2 : IntKind.i64.wrap (cnt l i (ndAt l i).left.toNat + 1) = cnt l i (ndAt l i).left.toNat + 1 := wrap64 (by omega) (by omega)
      have w3 : IntKind.i64.wrap (cnt l i (ndAt l i).right.toNat + 1) = cnt l i (ndAt l i).right.toNat + 1 := wrap64 (by omega) (by omega)
      simp -implicitDefEqProofs [h1, rd_words, hU, hl, w1, b3, e1, e2, e3, e4, e5, f1, f2, f3, f4, f5, f6, cnts_len, cnts_get, rd_ints, wr_ints, encL_length, w2, w3]
      exact ⟨fun _ => ⟨fun _ => ⟨m - 1, by omega, i + 1, by omega, hpre.inner h1 hok ⟨by omega, e2, f0.1, f0'.1, f0.2, f0'.2⟩, by omega, by rw [cnts_innerT h1 hl ⟨e2, f0.1, f0'.1, f0.2, f0'.2⟩]⟩, by omega⟩, by omega⟩
  case neg =>
    have hil : i = l.length := by omega
    subst hil
    have p1 : (1 : Int) ≤ l.length := by omega
    have p2 : l.length - 1 ≤ maxN := by omega
    simp -implicitDefEqProofs [p1, p2]
    refine run_while (c := c74_56) (fun m s => ∃ (i : Nat), i + m = l.length - 1 ∧ (∀ j : Nat, 1 ≤ j → j ≤ i → cnt l l.length j = 1) ∧ s = ⟨[(85, .own 5 (g 5) 1 (l.length - 1)), (86, .int .i64 (l.length - 1 : Nat)), (87, .int .i64 i)], [(5, ⟨encL (cnts l l.length), false, 1⟩)], g⟩) (l.length - 1) ⟨0, by omega, fun j _ _ => by omega, by simp⟩ ?_
    rintro m s ⟨i, hi, hon, rfl⟩
    by_cases h1 : (i : Int) < (l.length - 1 : Nat)
    case pos =>
      have w1 : IntKind.i64.wrap ((i : Int) + 1) = (i : Int) + 1 := wrap64 (by omega) (by omega)
      have q1 : 1 + i < l.length := by omega
      by_cases hc : cnt l l.length (1 + i) = 1
      case pos =>
        simp -implicitDefEqProofs [h1, rd_ints, cnts_len, cnts_get, w1, q1, hc]
        refine ⟨m - 1, by omega, i + 1, by omega, fun j hj1 hj2 => ?_, by omega⟩
        by_cases e : j = 1 + i
        · rw [e]; exact hc
        · exact hon j hj1 (by omega)
      case neg => simp -implicitDefEqProofs [h1, rd_ints, cnts_len, cnts_get, w1, q1, hc]
    case neg =>
      exact absurd (rt_of hw (by omega) (by omega) hpre (fun j hj1 hj2 => hon j hj1 (by omega))) hn
theorem c_tRightT : Contract Tryz.prog 74 (sp2 TreeRightT) :=
  contract_of_runs mixed (tbl_cons c_Unpack tbl_nil) Tryz.func74 m74 (sp2_runs runs_tRightT)
/-! ### models -/
noncomputable def badT (m : Model) (t : Tree) : Bool := decide (t.cls < 0) || decide (m.classes ≤ t.cls) || !rightT t.nodes m.dim
def okTW (t : Tree) : Prop := okL t.nodes ∧ t.nodes.length ≤ maxN
theorem badT_false {m : Model} {t : Tree} : badT m t = false ↔ 0 ≤ t.cls ∧ t.cls < m.classes ∧ RT t.nodes m.dim := by
  unfold badT
  rw [← rightT_true]
  simp only [Bool.or_eq_false_iff, decide_eq_false_iff_not, Bool.not_eq_false']
  constructor
  · rintro ⟨⟨h1, h2⟩, h3⟩; exact ⟨by omega, by omega, h3⟩
  · rintro ⟨h1, h2, h3⟩; exact ⟨⟨by omega, by omega⟩, h3⟩
noncomputable def Right1T (t : Tree) (m : Ref Model) : Option Bool := Part (okTW t) (badT m.v t)
theorem runs_Right1T (t : Tree) (m : Ref Model) (c : Bool) (h : Right1T t m = some c) : Runs (tbl [(74, sp2 TreeRightT)]) a73 [Arg.enc t, Arg.enc m] (Arg.enc c) := by
  obtain ⟨hw, rfl⟩ := part_some h
  obtain ⟨m⟩ := m
  refine ⟨rfl, fun g => run_def ?_⟩
  unfold a73
  have hT : TreeRightT t.nodes m.dim = some (rightT t.nodes m.dim) := part_of hw _
  unfold badT
  by_cases e0 : t.cls < 0
  · simp -implicitDefEqProofs [e0, hT]
  by_cases e1 : m.classes ≤ t.cls
  · simp -implicitDefEqProofs [e0, e1, hT]
  · simp -implicitDefEqProofs [e0, e1, hT]
theorem c_Right1T : Contract Tryz.prog 73 (sp2 Right1T) :=
  contract_of_runs mixed (tbl_cons c_tRightT tbl_nil) Tryz.func73 m73 (sp2_runs runs_Right1T)
def idxF {α : Type} (p : α → Bool) (l : List α) : Int := if l.findIdx p < l.length then (l.findIdx p : Int) else -1
noncomputable def IndexTreesT (l : List Tree) (r : CloR) : Option Int := Part (l.length ≤ 8 ∧ ∀ t ∈ l, okTW t) (idxF (badT r.m) l)
theorem runs_IndexTreesT (l : List Tree) (r : CloR) (c : Int) (h : IndexTreesT l r = some c) : Runs (tbl [(73, sp2 Right1T)]) a90 [Arg.enc l, Arg.enc r] (Arg.enc c) := by
  obtain ⟨⟨hle, hr⟩, rfl⟩ := part_some h
  obtain ⟨m⟩ := r
  refine ⟨rfl, fun g => run_def ?_⟩
  unfold a90
  have b3 : l.length ≤ maxN := by unfold maxN; omega
  simp -implicitDefEqProofs [b3]
  refine run_while (c := c90_15) (fun n s => ∃ (i : Nat), i + n = l.length ∧ (∀ (j : Nat) (hj : j < l.length), j < i → badT m l[j] = false) ∧ s = ⟨[(0, .lst l.length (encL l)), (1, Arg.enc (⟨m⟩ : CloR)), (7, .int .i64 l.length), (8, .int .i64 i)], [], g⟩) l.length ⟨0, by omega, fun j _ h => by omega, by simp⟩ ?_
  rintro n s ⟨i, hi, hno, rfl⟩
  by_cases h1 : i < l.length
  case pos =>
    have w1 : IntKind.i64.wrap ((i : Int) + 1) = (i : Int) + 1 := wrap64 (by omega) (by omega)
    have hrow := rd_tree l i h1
    have hR : Right1T ⟨l[i].cls, l[i].nodes⟩ ⟨m⟩ = some (badT m l[i]) := part_of (hr _ (List.getElem_mem h1)) _
    cases hb : badT m l[i]
    case false =>
      rw [hb] at hR
      simp -implicitDefEqProofs [h1, hrow, hR, w1]
      refine ⟨n - 1, by omega, i + 1, by omega, fun j hj hji => ?_, by omega⟩
      by_cases e : j = i
      · subst e; exact hb
      · exact hno j hj (by omega)
    case true =>
      rw [hb] at hR
      have hidx : idxF (badT m) l = i := by
        have : l.findIdx (badT m) = i := (List.findIdx_eq h1).2 ⟨hb, fun j hj => hno j (by omega) hj⟩
        unfold idxF
        rw [this, if_pos h1]
      simp -implicitDefEqProofs [h1, hrow, hR, w1, hidx]
  case neg =>
    have hidx : idxF (badT m) l = -1 := by
      have : l.findIdx (badT m) = l.length := List.findIdx_eq_length.2 fun x hx => by
        obtain ⟨j, hj, rfl⟩ := List.mem_iff_getElem.1 hx
        exact hno j hj (by omega)
      unfold idxF
      rw [this, if_neg (by omega)]
    simp -implicitDefEqProofs [h1, hidx]
theorem c_IndexTreesT : Contract Tryz.prog 90 (sp2 IndexTreesT) :=
  contract_of_runs mixed (tbl_cons c_Right1T tbl_nil) Tryz.func90 m90 (sp2_runs runs_IndexTreesT)
noncomputable def ContainsTreesT (l : List Tree) (r : CloR) : Option Bool := Part (l.length ≤ 8 ∧ ∀ t ∈ l, okTW t) (l.any (badT r.m))
theorem idxF_any {α : Type} (p : α → Bool) (l : List α) : decide (0 ≤ idxF p l) = l.any p := by
  unfold idxF
  split
  · rename_i h
    have : l.any p = true := List.any_eq_true.2 ⟨l[l.findIdx p], List.getElem_mem h, List.findIdx_getElem⟩
    rw [this]
    simp
  · rename_i h
    have h2 : l.findIdx p = l.length := by have := List.findIdx_le_length (p := p) (xs := l); omega
    have : l.any p = false := by
      rw [List.any_eq_false]
      intro x hx
      simp [List.findIdx_eq_length.1 h2 x hx]
    rw [this]
    decide
theorem runs_ContainsTreesT (l : List Tree) (r : CloR) (c : Bool) (h : ContainsTreesT l r = some c) : Runs (tbl [(90, sp2 IndexTreesT)]) a72 [Arg.enc l, Arg.enc r] (Arg.enc c) := by
  obtain ⟨hr, rfl⟩ := part_some h
  obtain ⟨m⟩ := r
  refine ⟨rfl, fun g => run_def ?_⟩
  unfold a72
  have hI : IndexTreesT l ⟨m⟩ = some (idxF (badT m) l) := part_of hr _
  have := idxF_any (badT m) l
  simp -implicitDefEqProofs [hI, this]
theorem c_ContainsTreesT : Contract Tryz.prog 72 (sp2 ContainsTreesT) :=
  contract_of_runs mixed (tbl_cons c_IndexTreesT tbl_nil) Tryz.func72 m72 (sp2_runs runs_ContainsTreesT)
open Classical in
noncomputable def rightM (m : Model) : Bool := decide (RM m)
theorem rightM_true {m : Model} : rightM m = true ↔ RM m := by unfold rightM; simp
theorem rightM_false {m : Model} : rightM m = false ↔ ¬ RM m := by unfold rightM; simp
def okMW (m : Model) : Prop := m.trees.length ≤ maxN ∧ ∀ t ∈ m.trees, okTW t
noncomputable def MRightT (m : Model) : Option Bool := Part (okMW m) (rightM m)
theorem rm_of {m : Model} (d : 1 ≤ m.dim ∧ m.dim ≤ 4) (k : 1 ≤ m.classes ∧ m.classes ≤ 3) (b : fits m.bias.b0 = true ∧ fits m.bias.b1 = true ∧ fits m.bias.b2 = true) (n1 : m.classes ≤ 1 → m.bias.b1 = 0) (n2 : m.classes ≤ 2 → m.bias.b2 = 0) (hl : m.trees.length ≤ 8) (ht : m.trees.any (badT m) = false) : RM m where
  dim := d
  classes := k
  bias := b
  none1 := n1
  none2 := n2
  trees := hl
  tree := fun t h => by
    rw [List.any_eq_false] at ht
    exact badT_false.1 (by simpa using ht t h)
set_option maxRecDepth 8000 in
set_option maxHeartbeats 4000000 in
theorem runs_mRightT (m : Model) (c : Bool) (h : MRightT m = some c) : Runs (tbl [(71, sp2 Fits), (72, sp2 ContainsTreesT)]) a43 [Arg.enc m] (Arg.enc c) := by
  obtain ⟨⟨b3, hw⟩, rfl⟩ := part_some h
  clear h
  refine ⟨rfl, fun g => run_def ?_⟩
  unfold a43
  by_cases e0 : m.dim < 1
  · have hF : rightM m = false := rightM_false.2 fun h => by have := h.dim; omega
    simp -implicitDefEqProofs [hF, e0]
  by_cases e1 : 4 < m.dim
  · have hF : rightM m = false := rightM_false.2 fun h => by have := h.dim; omega
    simp -implicitDefEqProofs [hF, e0, e1]
  by_cases e2 : m.classes < 1
  · have hF : rightM m = false := rightM_false.2 fun h => by have := h.classes; omega
    simp -implicitDefEqProofs [hF, e0, e1, e2]
  by_cases e3 : 3 < m.classes
  · have hF : rightM m = false := rightM_false.2 fun h => by have := h.classes; omega
    simp -implicitDefEqProofs [hF, e0, e1, e2, e3]
  by_cases e4 : (8 : Int) < m.trees.length
  · have hF : rightM m = false := rightM_false.2 fun h => by have := h.trees; omega
    simp -implicitDefEqProofs [hF, e0, e1, e2, e3, e4, b3]
  have e5 : ¬ m.classes ≤ 0 := by omega
  cases f0 : fits m.bias.b0
  · have hF : rightM m = false := rightM_false.2 fun h => by have := h.bias.1; rw [f0] at this; cases this
    simp -implicitDefEqProofs [hF, run_round, b3, e0, e1, e2, e3, e4, e5, Fits, f0]
  cases f1 : fits m.bias.b1
  · have hF : rightM m = false := rightM_false.2 fun h => by have := h.bias.2.1; rw [f1] at this; cases this
    simp -implicitDefEqProofs [hF, run_round, b3, e0, e1, e2, e3, e4, e5, Fits, f0, f1]
  have hC : ContainsTreesT m.trees ⟨m⟩ = some (m.trees.any (badT m)) := part_of ⟨by omega, hw⟩ _
  have last : (n1 : m.classes ≤ 1 → m.bias.b1 = 0) → (n2 : m.classes ≤ 2 → m.bias.b2 = 0) → fits m.bias.b2 = true → rightM m = !m.trees.any (badT m) := by
    intro n1 n2 f2
    cases ha : m.trees.any (badT m)
    · exact rightM_true.2 (rm_of ⟨by omega, by omega⟩ ⟨by omega, by omega⟩ ⟨f0, f1, f2⟩ n1 n2 (by omega) ha)
    · refine rightM_false.2 fun h => ?_
      rw [List.any_eq_true] at ha
      obtain ⟨t, ht, hb⟩ := ha
      rw [badT_false.2 (h.tree t ht)] at hb
      cases hb
  have fz : fits 0 = true := rfl
  by_cases k1 : m.classes ≤ 1
  · have k2 : m.classes ≤ 2 := by omega
    by_cases z1 : m.bias.b1 = 0
    · have d1 : decide (m.bias.b1 = 0) = true := by simp [z1]
      cases f2 : fits m.bias.b2
      · have hF : rightM m = false := rightM_false.2 fun h => by have := h.bias.2.2; rw [f2] at this; cases this
        simp -implicitDefEqProofs [hF, run_round, b3, e0, e1, e2, e3, e4, e5, Fits, fz, f0, f1, f2, k1, k2, d1]
      by_cases z2 : m.bias.b2 = 0
      · have d2 : decide (m.bias.b2 = 0) = true := by simp [z2]
        have hF := last (fun _ => z1) (fun _ => z2) f2
        simp -implicitDefEqProofs [hF, run_round, b3, e0, e1, e2, e3, e4, e5, Fits, fz, f0, f1, f2, k1, k2, d1, d2, hC]
      · have d2 : decide (m.bias.b2 = 0) = false := by simp [z2]
        have hF : rightM m = false := rightM_false.2 fun h => z2 (h.none2 k2)
        simp -implicitDefEqProofs [hF, run_round, b3, e0, e1, e2, e3, e4, e5, Fits, fz, f0, f1, f2, k1, k2, d1, d2]
    · have d1 : decide (m.bias.b1 = 0) = false := by simp [z1]
      have hF : rightM m = false := rightM_false.2 fun h => z1 (h.none1 k1)
      simp -implicitDefEqProofs [hF, run_round, b3, e0, e1, e2, e3, e4, e5, Fits, fz, f0, f1, k1, k2, d1]
  · cases f2 : fits m.bias.b2
    · have hF : rightM m = false := rightM_false.2 fun h => by have := h.bias.2.2; rw [f2] at this; cases this
      simp -implicitDefEqProofs [hF, run_round, b3, e0, e1, e2, e3, e4, e5, Fits, fz, f0, f1, f2, k1]
    by_cases k2 : m.classes ≤ 2
    · by_cases z2 : m.bias.b2 = 0
      · have d2 : decide (m.bias.b2 = 0) = true := by simp [z2]
        have hF := last (fun h => absurd h k1) (fun _ => z2) f2
        simp -implicitDefEqProofs [hF, run_round, b3, e0, e1, e2, e3, e4, e5, Fits, fz, f0, f1, f2, k1, k2, d2, hC]
      · have d2 : decide (m.bias.b2 = 0) = false := by simp [z2]
        have hF : rightM m = false := rightM_false.2 fun h => z2 (h.none2 k2)
        simp -implicitDefEqProofs [hF, run_round, b3, e0, e1, e2, e3, e4, e5, Fits, fz, f0, f1, f2, k1, k2, d2]
    · have hF := last (fun h => absurd h k1) (fun h => absurd h k2) f2
      simp -implicitDefEqProofs [hF, run_round, b3, e0, e1, e2, e3, e4, e5, Fits, fz, f0, f1, f2, k1, k2, hC]
theorem c_mRightT : Contract Tryz.prog 43 (sp1 MRightT) :=
  contract_of_runs mixed (tbl_cons c_Fits (tbl_cons c_ContainsTreesT tbl_nil)) Tryz.func43 m43 (sp1_runs runs_mRightT)
theorem RT.okTW {l : List Word} {dim : Int} (h : RT l dim) : okL l ∧ l.length ≤ maxN := by
  refine ⟨fun w hw => ?_, by have := h.le; unfold maxN; omega⟩
  obtain ⟨i, hi, rfl⟩ := List.mem_iff_getElem.1 hw
  exact (h.ok i hi).1
theorem RM.okMW {m : Model} (h : RM m) : okMW m := ⟨by have := h.trees; unfold maxN; omega, fun t ht => (h.tree t ht).2.2.okTW⟩
def lenF (n : Int) (t : Tree) : Int := n + (t.nodes.length : Int)
def sizeM (m : Model) : Int := m.trees.foldl lenF 0
noncomputable def SizeC (m : Model) : Option Int := Part (m.trees.length ≤ 100 ∧ ∀ t ∈ m.trees, t.nodes.length ≤ 1099511627776) (sizeM m)
theorem RM.size {m : Model} (h : RM m) : SizeC m = some (sizeM m) := part_of ⟨by have := h.trees; omega, fun t ht => by have := (h.tree t ht).2.2.le; omega⟩ _
end Go.Co
/- CO: thresholds of a feature. -/
namespace Go.Co
open Go.Am Go.Proofs
set_option linter.unusedSimpArgs false
set_option linter.unusedVariables false
attribute [-simp] Go.Am.eff_gcall
def c66_0 : ACode := .ops [⟨some 2, .box (.t 0) 6, none, []⟩,
  ⟨some 4, .mv (.c (.nils)), none, []⟩] [1, 2]
theorem r66_0 : type_of% (@rr _ _ c66_0.eq_1) := rr c66_0.eq_1
def c66_1 : ACode := .ops [⟨some 12, .load 6 true (.t 2), none, [2]⟩,
  ⟨some 13, .call 43 [.t 12], none, []⟩,
  ⟨some 14, .un .not (.t 13), none, []⟩] [1, 2, 14]
theorem r66_1 : type_of% (@rr _ _ c66_1.eq_1) := rr c66_1.eq_1
def c66_2 : ACode := .ops [⟨some 4, .mv (.c (.nils)), none, []⟩] [4]
theorem r66_2 : type_of% (@rr _ _ c66_2.eq_1) := rr c66_2.eq_1
def c66_3 : ACode := .seq c66_2 .ret
theorem r66_3 : type_of% (@rr _ _ c66_3.eq_1) := rr c66_3.eq_1
def c66_4 : ACode := .cond (.t 14) c66_3 .skip
theorem r66_4 : type_of% (@rr _ _ c66_4.eq_1) := rr c66_4.eq_1
def c66_5 : ACode := .seq c66_1 c66_4
theorem r66_5 : type_of% (@rr _ _ c66_5.eq_1) := rr c66_5.eq_1
def c66_6 : ACode := .ops [⟨some 5, .nil0 5 1, none, []⟩] [1, 2, 5]
theorem r66_6 : type_of% (@rr _ _ c66_6.eq_1) := rr c66_6.eq_1
def c66_7 : ACode := .ops [⟨some 15, .fad (.t 2) 5, none, [2]⟩,
  ⟨some 16, .load 1 false (.t 15), none, [2]⟩,
  ⟨some 17, .len (.t 16), none, []⟩,
  ⟨some 18, .mv (.c (.int .i64 0)), none, []⟩] [1, 5, 16, 17, 18]
theorem r66_7 : type_of% (@rr _ _ c66_7.eq_1) := rr c66_7.eq_1
def c66_8 : ACode := .ops [⟨some 19, .bin .lss (.t 18) (.t 17), none, []⟩] [1, 5, 16, 17, 18, 19]
theorem r66_8 : type_of% (@rr _ _ c66_8.eq_1) := rr c66_8.eq_1
def c66_9 : ACode := .cond (.t 19) .skip (.exit 0)
theorem r66_9 : type_of% (@rr _ _ c66_9.eq_1) := rr c66_9.eq_1
def c66_10 : ACode := .ops [⟨some 20, .ias (.t 16) (.t 18) 2, none, []⟩,
  ⟨some 21, .load 2 true (.t 20), none, []⟩,
  ⟨some 7, .alloc [.int .i64 0, .nils], none, []⟩,
  ⟨none, .store (.t 7) 2 (.t 21), none, [7]⟩] [1, 5, 7, 16, 17, 18]
theorem r66_10 : type_of% (@rr _ _ c66_10.eq_1) := rr c66_10.eq_1
def c66_11 : ACode := .ops [⟨some 22, .fad (.t 7) 1, none, [7]⟩,
  ⟨some 23, .load 1 false (.t 22), none, [7]⟩,
  ⟨some 24, .len (.t 23), none, []⟩,
  ⟨some 25, .mv (.c (.int .i64 0)), none, []⟩] [1, 5, 16, 17, 18, 23, 24, 25]
theorem r66_11 : type_of% (@rr _ _ c66_11.eq_1) := rr c66_11.eq_1
def c66_12 : ACode := .ops [⟨some 26, .bin .lss (.t 25) (.t 24), none, []⟩] [1, 5, 16, 17, 18, 23, 24, 25, 26]
theorem r66_12 : type_of% (@rr _ _ c66_12.eq_1) := rr c66_12.eq_1
def c66_13 : ACode := .cond (.t 26) .skip (.exit 2)
theorem r66_13 : type_of% (@rr _ _ c66_13.eq_1) := rr c66_13.eq_1
def c66_14 : ACode := .ops [⟨some 27, .ias (.t 23) (.t 25) 1, none, []⟩,
  ⟨some 28, .load 1 false (.t 27), none, []⟩,
  ⟨some 9, .mv (.t 28), none, []⟩] [1, 5, 9, 16, 17, 18, 23, 24, 25]
theorem r66_14 : type_of% (@rr _ _ c66_14.eq_1) := rr c66_14.eq_1
def c66_15 : ACode := .ops [⟨some 30, .mv (.t 9), none, []⟩,
  ⟨some 31, .call 85 [.t 30], none, []⟩,
  ⟨some 29, .mv (.t 31), none, []⟩,
  ⟨some 32, .ext (.t 29) 0, none, []⟩,
  ⟨some 33, .ext (.t 29) 1, none, []⟩,
  ⟨some 10, .alloc [.bool false, .int .i64 0, .int .i64 0, .int .i64 0, .int .i64 0, .int .i64 0], none, []⟩,
  ⟨none, .store (.t 10) 6 (.t 32), none, [10]⟩,
  ⟨some 11, .mv (.t 33), none, []⟩] [1, 5, 10, 16, 17, 18, 23, 24, 25]
theorem r66_15 : type_of% (@rr _ _ c66_15.eq_1) := rr c66_15.eq_1
def c66_16 : ACode := .ops [⟨some 34, .fad (.t 10) 0, none, [10]⟩,
  ⟨some 35, .load 1 false (.t 34), none, [10]⟩,
  ⟨some 36, .un .not (.t 35), none, []⟩,
  ⟨some 37, .mv (.t 36), none, []⟩,
  ⟨some 38, .fad (.t 10) 2, some (37, true), [10]⟩,
  ⟨some 39, .load 1 false (.t 38), some (37, true), [10]⟩,
  ⟨some 40, .mv (.t 1), some (37, true), []⟩,
  ⟨some 41, .bin .eql (.t 39) (.t 40), some (37, true), []⟩,
  ⟨some 42, .pick (.t 37) (.t 41) (.c (.bool false)), none, []⟩] [1, 5, 10, 16, 17, 18, 23, 24, 25, 42]
theorem r66_16 : type_of% (@rr _ _ c66_16.eq_1) := rr c66_16.eq_1
def c66_17 : ACode := .ops [⟨some 43, .mv (.t 5), none, []⟩,
  ⟨some 44, .fad (.t 10) 3, none, [10]⟩,
  ⟨some 45, .load 1 false (.t 44), none, [10]⟩,
  ⟨some 46, .mkrow 46 1 1 [.int .i64 0] [(0, 1, .t 45)], none, []⟩,
  ⟨some 47, .app 5 [5] (.t 43) (.t 46) 1, none, [5, 46]⟩,
  ⟨some 5, .mv (.t 47), none, []⟩] [1, 5, 16, 17, 18, 23, 24, 25]
theorem r66_17 : type_of% (@rr _ _ c66_17.eq_1) := rr c66_17.eq_1
def c66_18 : ACode := .cond (.t 42) c66_17 .skip
theorem r66_18 : type_of% (@rr _ _ c66_18.eq_1) := rr c66_18.eq_1
def c66_19 : ACode := .seq c66_16 c66_18
theorem r66_19 : type_of% (@rr _ _ c66_19.eq_1) := rr c66_19.eq_1
def c66_20 : ACode := .seq c66_15 c66_19
theorem r66_20 : type_of% (@rr _ _ c66_20.eq_1) := rr c66_20.eq_1
def c66_21 : ACode := .seq c66_14 c66_20
theorem r66_21 : type_of% (@rr _ _ c66_21.eq_1) := rr c66_21.eq_1
def c66_22 : ACode := .block 3 c66_21
theorem r66_22 : type_of% (@rr _ _ c66_22.eq_1) := rr c66_22.eq_1
def c66_23 : ACode := .ops [⟨some 48, .bin .add (.t 25) (.c (.int .i64 1)), none, []⟩,
  ⟨some 25, .mv (.t 48), none, []⟩] [1, 5, 16, 17, 18, 23, 24, 25]
theorem r66_23 : type_of% (@rr _ _ c66_23.eq_1) := rr c66_23.eq_1
def c66_24 : ACode := .seq c66_22 c66_23
theorem r66_24 : type_of% (@rr _ _ c66_24.eq_1) := rr c66_24.eq_1
def c66_25 : ACode := .seq c66_13 c66_24
theorem r66_25 : type_of% (@rr _ _ c66_25.eq_1) := rr c66_25.eq_1
def c66_26 : ACode := .seq c66_12 c66_25
theorem r66_26 : type_of% (@rr _ _ c66_26.eq_1) := rr c66_26.eq_1
def c66_27 : ACode := .keep [1, 5, 16, 17, 18, 23, 24, 25] [5] c66_26
theorem r66_27 : type_of% (@rr _ _ c66_27.eq_1) := rr c66_27.eq_1
def c66_28 : ACode := .loop c66_27
theorem r66_28 : type_of% (@rr _ _ c66_28.eq_1) := rr c66_28.eq_1
def c66_29 : ACode := .block 2 c66_28
theorem r66_29 : type_of% (@rr _ _ c66_29.eq_1) := rr c66_29.eq_1
def c66_30 : ACode := .seq c66_11 c66_29
theorem r66_30 : type_of% (@rr _ _ c66_30.eq_1) := rr c66_30.eq_1
def c66_31 : ACode := .seq c66_10 c66_30
theorem r66_31 : type_of% (@rr _ _ c66_31.eq_1) := rr c66_31.eq_1
def c66_32 : ACode := .block 1 c66_31
theorem r66_32 : type_of% (@rr _ _ c66_32.eq_1) := rr c66_32.eq_1
def c66_33 : ACode := .ops [⟨some 49, .bin .add (.t 18) (.c (.int .i64 1)), none, []⟩,
  ⟨some 18, .mv (.t 49), none, []⟩] [1, 5, 16, 17, 18]
theorem r66_33 : type_of% (@rr _ _ c66_33.eq_1) := rr c66_33.eq_1
def c66_34 : ACode := .seq c66_32 c66_33
theorem r66_34 : type_of% (@rr _ _ c66_34.eq_1) := rr c66_34.eq_1
def c66_35 : ACode := .seq c66_9 c66_34
theorem r66_35 : type_of% (@rr _ _ c66_35.eq_1) := rr c66_35.eq_1
def c66_36 : ACode := .seq c66_8 c66_35
theorem r66_36 : type_of% (@rr _ _ c66_36.eq_1) := rr c66_36.eq_1
def c66_37 : ACode := .keep [1, 5, 16, 17, 18] [5] c66_36
theorem r66_37 : type_of% (@rr _ _ c66_37.eq_1) := rr c66_37.eq_1
def c66_38 : ACode := .loop c66_37
theorem r66_38 : type_of% (@rr _ _ c66_38.eq_1) := rr c66_38.eq_1
def c66_39 : ACode := .block 0 c66_38
theorem r66_39 : type_of% (@rr _ _ c66_39.eq_1) := rr c66_39.eq_1
def c66_40 : ACode := .seq c66_7 c66_39
theorem r66_40 : type_of% (@rr _ _ c66_40.eq_1) := rr c66_40.eq_1
def c66_41 : ACode := .ops [⟨some 50, .mv (.t 5), none, []⟩,
  ⟨some 51, .gcall 86 [.t 50] [5] 5, none, [5]⟩] [5]
theorem r66_41 : type_of% (@rr _ _ c66_41.eq_1) := rr c66_41.eq_1
def c66_42 : ACode := .ops [⟨some 52, .mv (.t 5), none, []⟩,
  ⟨some 53, .gcall 87 [.t 52] [5] 5, none, [5]⟩,
  ⟨some 4, .mv (.t 53), none, []⟩] [4]
theorem r66_42 : type_of% (@rr _ _ c66_42.eq_1) := rr c66_42.eq_1
def c66_43 : ACode := .seq c66_42 .ret
theorem r66_43 : type_of% (@rr _ _ c66_43.eq_1) := rr c66_43.eq_1
def c66_44 : ACode := .seq c66_41 c66_43
theorem r66_44 : type_of% (@rr _ _ c66_44.eq_1) := rr c66_44.eq_1
def c66_45 : ACode := .seq c66_40 c66_44
theorem r66_45 : type_of% (@rr _ _ c66_45.eq_1) := rr c66_45.eq_1
def c66_46 : ACode := .seq c66_6 c66_45
theorem r66_46 : type_of% (@rr _ _ c66_46.eq_1) := rr c66_46.eq_1
def c66_47 : ACode := .seq c66_5 c66_46
theorem r66_47 : type_of% (@rr _ _ c66_47.eq_1) := rr c66_47.eq_1
def c66_48 : ACode := .seq c66_0 c66_47
theorem r66_48 : type_of% (@rr _ _ c66_48.eq_1) := rr c66_48.eq_1
def a66 : AFun := ⟨2, 54, c66_48, [.t 4]⟩
attribute [simp] r66_0 r66_1 r66_2 r66_3 r66_4 r66_5 r66_6 r66_7 r66_8 r66_9 r66_10 r66_11 r66_12 r66_13 r66_14 r66_15 r66_16 r66_17 r66_18 r66_19 r66_20 r66_21 r66_22 r66_23 r66_24 r66_25 r66_26 r66_27 r66_28 r66_29 r66_30 r66_31 r66_32 r66_33 r66_34 r66_35 r66_36 r66_37 r66_38 r66_39 r66_40 r66_41 r66_42 r66_43 r66_44 r66_45 r66_46 r66_47 r66_48
theorem m66 : mFun Tryz.prog Tryz.f66 a66 = true := by decide +kernel
def cutF (j : Int) (w : Word) : Option Int := if (nd w).leaf = false ∧ (nd w).feature = j then some (nd w).cut else none
def rawW (j : Int) (l : List Word) : List Int := l.filterMap (cutF j)
def rawM (l : List Tree) (j : Int) : List Int := l.flatMap fun t => rawW j t.nodes
def thrL (m : Model) (j : Int) : List Int := Go.Lib.compact (isort (rawM m.trees j))
def rawTo (m : Model) (j : Int) (i k : Nat) (l : List Word) : List Int := rawM (m.trees.take i) j ++ rawW j (l.take k)
theorem rawTo_zero (m : Model) (j : Int) (i : Nat) (l : List Word) : rawTo m j i 0 l = rawM (m.trees.take i) j := by simp [rawTo, rawW]
theorem rawTo_some {m : Model} {j : Int} {i k : Nat} {l : List Word} (h : k < l.length) (hl : (nd l[k]).leaf = false) (hf : (nd l[k]).feature = j) : rawTo m j i (k + 1) l = rawTo m j i k l ++ [(nd l[k]).cut] := by
  unfold rawTo rawW
  rw [List.take_succ_eq_append_getElem h, List.filterMap_append, List.append_assoc]
  simp [cutF, hl, hf]
theorem rawTo_none {m : Model} {j : Int} {i k : Nat} {l : List Word} (h : k < l.length) (hn : ¬ ((nd l[k]).leaf = false ∧ (nd l[k]).feature = j)) : rawTo m j i (k + 1) l = rawTo m j i k l := by
  unfold rawTo rawW
  rw [List.take_succ_eq_append_getElem h, List.filterMap_append]
  simp [cutF, hn]
theorem rawTo_all {m : Model} {j : Int} {i : Nat} (h : i < m.trees.length) : rawTo m j i m.trees[i].nodes.length m.trees[i].nodes = rawM (m.trees.take (i + 1)) j := by
  unfold rawTo rawM
  rw [List.take_length, List.take_succ_eq_append_getElem h, List.flatMap_append]
  simp
theorem rawW_len (j : Int) (l : List Word) : (rawW j l).length ≤ l.length := List.length_filterMap_le _ _
theorem rawM_len {j : Int} : ∀ {l : List Tree}, (∀ t ∈ l, t.nodes.length ≤ 31) → (rawM l j).length ≤ 31 * l.length
  | [], _ => by simp [rawM]
  | t :: l, h => by
    have h1 := h t (by simp)
    have h2 := rawM_len (j := j) (l := l) fun x hx => h x (by simp [hx])
    have h3 := rawW_len j t.nodes
    unfold rawM at h2 ⊢
    simp only [List.flatMap_cons, List.length_append, List.length_cons]
    omega
theorem iv_append (a b : List Int) : iv (a ++ b) = iv a ++ iv b := by simp [iv]
theorem iv_take (a : List Int) : List.take a.length (iv a) = iv a := List.take_of_length_le (by simp [iv])
@[simp] theorem iv_plain (a : List Int) : (iv a).all AV.plain = true := by simp [iv]
@[simp] theorem iv_cell (a : List Int) : (iv a).all AV.isCell = true := by simp [iv]
theorem iv_enc (a : List Int) : iv a = encL a := by
  induction a with
  | nil => rfl
  | cons x xs ih =>
    have : encL (x :: xs) = .int .i64 x :: encL xs := rfl
    rw [this, ← ih]
    rfl
@[simp] theorem len_iv (a : List Int) : (iv a).length = a.length := iv_len a
def thrRow (m : Model) (j : Int) : List Int := thrL m j ++ List.replicate ((isort (rawM m.trees j)).length - (thrL m j).length) 0
set_option maxHeartbeats 8000000 in
theorem run_Thr (m : Model) (j : Int) (hr : RM m) (g : Nat → Nat) (Q : Post) (hQ : ∀ g' : Nat → Nat, g' 0 = g 0 → Q .ret ⟨[(4, .own 5 (g' 5) 0 (thrL m j).length)], [(5, ⟨iv (thrRow m j), false, 1⟩)], g'⟩) :
    run (tbl [(43, sp1 MRightT), (85, sp1 Unpack), (1000000 + 86, gspec sortF), (1000000 + 87, gspec compF)]) a66.code [] ⟨argEnv 0 [Arg.enc m, Arg.enc j], [], g⟩ Q := by
  unfold a66
  have hM : MRightT m = some true := by unfold MRightT; rw [part_of hr.okMW, rightM_true.2 hr]
  have hle := hr.trees
  have b3 : m.trees.length ≤ maxN := by unfold maxN; omega
  simp -implicitDefEqProofs [hM, b3]
  generalize hg0 : g 0 = g00 at *
  refine run_while (c := c66_36) (fun n s => ∃ (i : Nat) (g : Nat → Nat), i + n = m.trees.length ∧ g 0 = g00 ∧ s = ⟨[(1, .int .i64 j), (5, .own 5 (g 5) 0 (rawM (m.trees.take i) j).length), (16, .lst m.trees.length (encL m.trees)), (17, .int .i64 m.trees.length), (18, .int .i64 i)], [(5, ⟨iv (rawM (m.trees.take i) j), false, 1⟩)], g⟩) m.trees.length ⟨0, bump 5 (bump 2 g), by omega, by simp [hg0], by simp [rawM, iv]⟩ ?_
  rintro n s ⟨i, g, hi, hg1, rfl⟩
  have hlen : ∀ q, (rawM (m.trees.take q) j).length ≤ 31 * 8 := fun q => by
    have h1 := rawM_len (j := j) (l := m.trees.take q) fun t ht => (hr.tree t (List.mem_of_mem_take ht)).2.2.le
    have h2 : (m.trees.take q).length ≤ 8 := by simp; omega
    omega
  by_cases h1 : i < m.trees.length
  case pos =>
    have w1 : IntKind.i64.wrap ((i : Int) + 1) = (i : Int) + 1 := wrap64 (by omega) (by omega)
    have hrow := rd_tree m.trees i h1
    have hrt := hr.rt (List.getElem_mem h1)
    have hnl := hrt.le
    have b4 : m.trees[i].nodes.length ≤ maxN := by unfold maxN; omega
    simp -implicitDefEqProofs [h1, hrow, b4]
    refine run_while (c := c66_26) (fun n s => ∃ (k : Nat) (g : Nat → Nat), k + n = m.trees[i].nodes.length ∧ g 0 = g00 ∧ s = ⟨[(1, .int .i64 j), (5, .own 5 (g 5) 0 (rawTo m j i k m.trees[i].nodes).length), (16, .lst m.trees.length (encL m.trees)), (17, .int .i64 m.trees.length), (18, .int .i64 i), (23, .lst m.trees[i].nodes.length (encL m.trees[i].nodes)), (24, .int .i64 m.trees[i].nodes.length), (25, .int .i64 k)], [(5, ⟨iv (rawTo m j i k m.trees[i].nodes), false, 1⟩)], g⟩) m.trees[i].nodes.length ⟨0, bump 7 g, by omega, by simp [hg1], by simp [rawTo_zero]⟩ ?_
    rintro n2 s ⟨k, g, hk, hg2, rfl⟩
    by_cases h2 : k < m.trees[i].nodes.length
    case pos =>
      have w2 : IntKind.i64.wrap ((k : Int) + 1) = (k : Int) + 1 := wrap64 (by omega) (by omega)
      have hU := unpack_at hrt h2
      have hnd : ndAt m.trees[i].nodes k = nd m.trees[i].nodes[k] := ndAt_lt h2
      have hl2 : (rawTo m j i k m.trees[i].nodes).length ≤ 31 * 8 + 31 := by
        unfold rawTo
        rw [List.length_append]
        have e1 := hlen i
        have e2 := rawW_len j (m.trees[i].nodes.take k)
        have e3 : (m.trees[i].nodes.take k).length ≤ 31 := by simp; omega
        omega
      have n1 : (rawTo m j i k m.trees[i].nodes).length ≤ 1099511627775 := by omega
      rw [hnd] at hU
      by_cases hin : (nd m.trees[i].nodes[k]).leaf = false ∧ (nd m.trees[i].nodes[k]).feature = j
      case pos =>
        have hs := rawTo_some (m := m) (i := i) h2 hin.1 hin.2
        have hs2 : (rawTo m j i (k + 1) m.trees[i].nodes).length = (rawTo m j i k m.trees[i].nodes).length + 1 := by rw [hs]; simp
        have hE : iv (rawTo m j i (k + 1) m.trees[i].nodes) = iv (rawTo m j i k m.trees[i].nodes) ++ [.int .i64 (nd m.trees[i].nodes[k]).cut] := by rw [hs, iv_append]; rfl
        have q1 := hin.1
        have q2 := hin.2
        simp -implicitDefEqProofs [h2, rd_words, hU, w2, q1, q2, n1, iv_take]
        exact ⟨n2 - 1, by omega, k + 1, by omega, _, by simp [hg2], ⟨⟨by simp, by omega⟩, by omega⟩, by rw [hE], rfl⟩
      case neg =>
        have hs := rawTo_none (m := m) (i := i) h2 hin
        cases q1 : (nd m.trees[i].nodes[k]).leaf
        case true =>
          simp -implicitDefEqProofs [h2, rd_words, hU, w2, q1]
          exact ⟨n2 - 1, by omega, k + 1, by omega, _, by simp [hg2], ⟨⟨by simp, by rw [hs]⟩, by omega⟩, by rw [hs], rfl⟩
        case false =>
          have q2 : ¬ (nd m.trees[i].nodes[k]).feature = j := fun e => hin ⟨q1, e⟩
          simp -implicitDefEqProofs [h2, rd_words, hU, w2, q1, q2]
          exact ⟨n2 - 1, by omega, k + 1, by omega, _, by simp [hg2], ⟨⟨by simp, by rw [hs]⟩, by omega⟩, by rw [hs], rfl⟩
    case neg =>
      have hkl : k = m.trees[i].nodes.length := by omega
      subst hkl
      rw [rawTo_all h1]
      simp -implicitDefEqProofs [h2, w1]
      exact ⟨n - 1, by omega, i + 1, by omega, g, hg2, ⟨⟨rfl, rfl⟩, by omega⟩, rfl, rfl⟩
  case neg =>
    have hil : i = m.trees.length := by omega
    subst hil
    have hl := hlen m.trees.length
    rw [List.take_length] at hl ⊢
    have k1 : (rawM m.trees j).length ≤ 1152921504606846976 := by omega
    have hq := hQ g hg1
    simp only [thrRow, thrL, isort_len] at hq
    simp -implicitDefEqProofs [h1, k1, sortF, compF, ints_iv, isort_len, mapM1_nrm, mapM1_up]
    exact hq
theorem thr_len (m : Model) (j : Int) : (thrL m j).length ≤ (rawM m.trees j).length := by
  unfold thrL
  have := compact_le (isort (rawM m.trees j))
  rw [isort_len] at this
  exact this
theorem thrRow_len (m : Model) (j : Int) : (thrRow m j).length = (rawM m.trees j).length := by
  unfold thrRow
  have := thr_len m j
  rw [List.length_append, List.length_replicate, isort_len]
  omega
open Classical in
noncomputable def thrG : GSp := fun args h => match args, h with
  | [x, y], [] => (Arg.dec x : Option Model).bind fun m => (Arg.dec y : Option Int).bind fun j => if RM m then some (.own 2 0 0 (thrL m j).length, [(2, ⟨iv (thrRow m j), false, 1⟩)]) else none
  | _, _ => none
theorem c_ThrG : Contract Tryz.prog (gBase + 66) (gspec thrG) :=
  gcontractN (C := tbl [(43, sp1 MRightT), (85, sp1 Unpack), (1000000 + 86, gspec sortF), (1000000 + 87, gspec compF)]) mixed (tbl_cons c_mRightT (tbl_cons c_Unpack (tbl_cons c_Sort (tbl_cons c_Compact tbl_nil)))) Tryz.func66 m66 fun args h r h' hs => by
    unfold thrG at hs
    split at hs
    · rename_i x y
      rw [Option.bind_eq_some_iff] at hs
      obtain ⟨m, hm, hs⟩ := hs
      rw [Option.bind_eq_some_iff] at hs
      obtain ⟨j, hj, hs⟩ := hs
      split at hs
      · rename_i hr
        simp only [Option.some.injEq, Prod.mk.injEq] at hs
        obtain ⟨rfl, rfl⟩ := hs
        obtain rfl := Arg.enc_dec _ _ hm
        obtain rfl := Arg.enc_dec _ _ hj
        refine ⟨rfl, false, some 5, run_Thr m j hr _ _ fun g' hg' => ?_⟩
        unfold a66
        simp -implicitDefEqProofs [mapM1_nrm, hg']
      · cases hs
    · cases hs
end Go.Co
