/- CO: right trees and right models: told of any. -/
import Derived.Test.YtbjnmbbhlaghaaaCoR
import Derived.Test.YtbjnmbbhlaghaaaCoO
import Derived.Test.YtbjnmbbhlaghaaaCoPure
namespace Go.Co
open Go.Am Go.Proofs
set_option linter.unusedSimpArgs false
set_option linter.unusedVariables false

open Classical in
noncomputable def rightT (l : List Word) (dim : Int) : Bool := decide (RT l dim)
theorem rightT_true {l : List Word} {dim : Int} : rightT l dim = true ↔ RT l dim := by unfold rightT; simp
theorem rightT_false {l : List Word} {dim : Int} : rightT l dim = false ↔ ¬ RT l dim := by unfold rightT; simp
def okL (l : List Word) : Prop := ∀ w ∈ l, okW w.v
noncomputable def TreeRightT (l : List Word) (dim : Int) : Option Bool := Part (okL l ∧ l.length ≤ maxN) (rightT l dim)

/-- the first nodes are as they ought to be -/
def Pre (l : List Word) (dim : Int) (n : Nat) : Prop := ∀ (i : Nat) (h : i < l.length), i < n → (unpack l[i]).2 = true ∧ ((nd l[i]).leaf = false → (nd l[i]).feature < dim ∧ (nd l[i]).left ≠ (nd l[i]).right ∧ (i : Int) < (nd l[i]).left ∧ (nd l[i]).left < l.length ∧ (i : Int) < (nd l[i]).right ∧ (nd l[i]).right < l.length)
theorem Pre.zero {l : List Word} {dim : Int} : Pre l dim 0 := fun i h hi => by omega
theorem Pre.leaf {l : List Word} {dim : Int} {i : Nat} (h : Pre l dim i) (hi : i < l.length) (hok : (unpack l[i]).2 = true) (hl : (ndAt l i).leaf = true) : Pre l dim (i + 1) := by
  intro j hj hji
  by_cases e : j = i
  · subst e
    rw [ndAt_lt hi] at hl
    exact ⟨hok, fun h => by rw [hl] at h; cases h⟩
  · exact h j hj (by omega)
theorem Pre.inner {l : List Word} {dim : Int} {i : Nat} (h : Pre l dim i) (hi : i < l.length) (hok : (unpack l[i]).2 = true) (ha : (ndAt l i).feature < dim ∧ (ndAt l i).left ≠ (ndAt l i).right ∧ (i : Int) < (ndAt l i).left ∧ (ndAt l i).left < l.length ∧ (i : Int) < (ndAt l i).right ∧ (ndAt l i).right < l.length) : Pre l dim (i + 1) := by
  intro j hj hji
  by_cases e : j = i
  · subst e
    rw [ndAt_lt hi] at ha
    exact ⟨hok, fun _ => ha⟩
  · exact h j hj (by omega)
theorem cnts_innerT {l : List Word} {i : Nat} (h : i < l.length) (hl : (ndAt l i).leaf = false) (ha : (ndAt l i).left ≠ (ndAt l i).right ∧ (i : Int) < (ndAt l i).left ∧ (ndAt l i).left < l.length ∧ (i : Int) < (ndAt l i).right ∧ (ndAt l i).right < l.length) :
    cnts l (i + 1) = ((cnts l i).set (ndAt l i).left.toNat (cnt l i (ndAt l i).left.toNat + 1)).set (ndAt l i).right.toNat (cnt l i (ndAt l i).right.toNat + 1) := by
  apply List.ext_getElem
  · simp [cnts]
  · intro j h1 h2
    rw [cnts_get, cnt_succ h, List.getElem_set, List.getElem_set]
    simp only [cnts_get, names, hl, Bool.not_false, Bool.true_and, Bool.or_eq_true, decide_eq_true_eq]
    by_cases e1 : (ndAt l i).right.toNat = j
    · rw [if_pos e1, if_pos (by omega), e1]
    · rw [if_neg e1]
      by_cases e2 : (ndAt l i).left.toNat = j
      · rw [if_pos e2, if_pos (by omega), e2]
      · rw [if_neg e2, if_neg (by omega)]
        omega
theorem unpackT {l : List Word} (h : okL l) {i : Nat} (hi : i < l.length) : Unpack ⟨l[i].v⟩ = some (ndAt l i, (unpack l[i]).2) := by
  have h1 := h l[i] (List.getElem_mem hi)
  unfold Unpack
  have h1' : 0 ≤ (⟨l[i].v⟩ : Word).v ∧ (⟨l[i].v⟩ : Word).v < 18446744073709551616 := h1
  rw [if_pos h1']
  have e : (⟨l[i].v⟩ : Word) = l[i] := rfl
  rw [e, ndAt_lt hi]
  rfl
/-- a tree that has gone through all is right -/
theorem rt_of {l : List Word} {dim : Int} (hw : okL l) (h1 : 1 ≤ l.length) (h2 : l.length ≤ 31) (hp : Pre l dim l.length) (ho : ∀ j : Nat, 1 ≤ j → j < l.length → cnt l l.length j = 1) : RT l dim where
  ok := fun i h => ⟨hw _ (List.getElem_mem h), (hp i h h).1⟩
  pos := h1
  le := h2
  inner := fun i h hl => (hp i h h).2 hl
  once := fun j hj hj2 => by
    have := ho j hj hj2
    unfold cnt at this
    rw [List.take_length] at this
    omega

set_option maxHeartbeats 2000000 in
theorem runs_tRightT (l : List Word) (dim : Int) (c : Bool) (h : TreeRightT l dim = some c) : Runs (tbl [(77, sp1 Unpack)]) a76 [Arg.enc l, Arg.enc dim] (Arg.enc c) := by
  obtain ⟨⟨hw, hmx⟩, rfl⟩ := part_some h
  clear h
  cases hc : rightT l dim
  case true => exact runs_tRight l dim true (part_of (rightT_true.1 hc) _)
  have hn := rightT_false.1 hc
  refine ⟨rfl, fun g => run_def ?_⟩
  unfold a76
  by_cases b1 : (l.length : Int) < 1
  case pos => simp -implicitDefEqProofs [b1, hmx]
  by_cases b2 : (l.length : Int) > 31
  case pos =>
    have b2' : (31 : Int) < l.length := b2
    simp -implicitDefEqProofs [b1, b2', hmx]
  have b3 : l.length ≤ maxN := by unfold maxN; omega
  have b4 : (l.length : Int) ≤ 1099511627776 := by omega
  simp -implicitDefEqProofs [b1, b2, b3, b4, rep_ints]
  rw [rep_cells]
  refine run_while (c := c76_37) (fun m s => ∃ (i : Nat) (g : Nat → Nat), i + m = l.length ∧ Pre l dim i ∧ s = ⟨[(0, .lst l.length (encL l)), (1, .int .i64 dim), (5, .own 5 (g 5) 0 l.length), (23, .lst l.length (encL l)), (24, .int .i64 l.length), (25, .int .i64 i)], [(5, ⟨encL (cnts l i), false, 1⟩)], g⟩) l.length ⟨0, bump 5 g, by omega, Pre.zero, by simp [cnts_zero]⟩ ?_
  rintro m s ⟨i, g, hi, hpre, rfl⟩
  by_cases h1 : i < l.length
  case pos =>
    have hU := unpackT hw h1
    have w1 : IntKind.i64.wrap ((i : Int) + 1) = (i : Int) + 1 := wrap64 (by omega) (by omega)
    cases hok : (unpack l[i]).2
    case false =>
      rw [hok] at hU
      simp -implicitDefEqProofs [h1, rd_words, hU, w1]
    rw [hok] at hU
    cases hl : (ndAt l i).leaf
    case true =>
      simp -implicitDefEqProofs [h1, rd_words, hU, hl, w1]
      exact ⟨m - 1, by omega, i + 1, by omega, hpre.leaf h1 hok hl, by omega, by rw [cnts_leaf h1 hl]⟩
    case false =>
      by_cases e1 : dim ≤ (ndAt l i).feature
      case pos => simp -implicitDefEqProofs [h1, rd_words, hU, hl, w1, e1]
      by_cases e2 : (ndAt l i).left = (ndAt l i).right
      case pos => simp -implicitDefEqProofs [h1, rd_words, hU, hl, w1, e1, e2]
      by_cases e3 : (if (ndAt l i).right < (ndAt l i).left then (ndAt l i).right else (ndAt l i).left) ≤ (i : Int)
      case pos => simp -implicitDefEqProofs [h1, rd_words, hU, hl, w1, e1, e2, e3]
      by_cases e4 : (l.length : Int) ≤ (if (ndAt l i).left < (ndAt l i).right then (ndAt l i).right else (ndAt l i).left)
      case pos => simp -implicitDefEqProofs [h1, rd_words, hU, hl, w1, b3, e1, e2, e3, e4]
      have f0 : (i : Int) < (ndAt l i).left ∧ (i : Int) < (ndAt l i).right := by split at e3 <;> omega
      have f0' : (ndAt l i).left < l.length ∧ (ndAt l i).right < l.length := by split at e4 <;> omega
      have e5 : ¬ (ndAt l i).left.toNat = (ndAt l i).right.toNat := by omega
      have f1 : 0 ≤ (ndAt l i).left := by omega
      have f2 : (ndAt l i).left < l.length := by omega
      have f3 : 0 ≤ (ndAt l i).right := by omega
      have f4 : (ndAt l i).right < l.length := by omega
      have f5 : (ndAt l i).left.toNat < l.length := by omega
      have f6 : (ndAt l i).right.toNat < l.length := by omega
      have n1 := cnt_le l i (ndAt l i).left.toNat
      have n2 := cnt_le l i (ndAt l i).right.toNat
      have w2 : IntKind.i64.wrap (cnt l i (ndAt l i).left.toNat + 1) = cnt l i (ndAt l i).left.toNat + 1 := wrap64 (by omega) (by omega)
      have w3 : IntKind.i64.wrap (cnt l i (ndAt l i).right.toNat + 1) = cnt l i (ndAt l i).right.toNat + 1 := wrap64 (by omega) (by omega)
      simp -implicitDefEqProofs [h1, rd_words, hU, hl, w1, b3, e1, e2, e3, e4, e5, f1, f2, f3, f4, f5, f6, cnts_len, cnts_get, rd_ints, wr_ints, encL_length, w2, w3]
      exact ⟨fun _ => ⟨fun _ => ⟨m - 1, by omega, i + 1, by omega, hpre.inner h1 hok ⟨by omega, e2, f0.1, f0'.1, f0.2, f0'.2⟩, by omega, by rw [cnts_innerT h1 hl ⟨e2, f0.1, f0'.1, f0.2, f0'.2⟩]⟩, by omega⟩, by omega⟩
  case neg =>
    have hil : i = l.length := by omega
    subst hil
    have p1 : (1 : Int) ≤ l.length := by omega
    have p2 : l.length - 1 ≤ maxN := by omega
    simp -implicitDefEqProofs [p1, p2]
    refine run_while (c := c76_56) (fun m s => ∃ (i : Nat), i + m = l.length - 1 ∧ (∀ j : Nat, 1 ≤ j → j ≤ i → cnt l l.length j = 1) ∧ s = ⟨[(85, .own 5 (g 5) 1 (l.length - 1)), (86, .int .i64 (l.length - 1 : Nat)), (87, .int .i64 i)], [(5, ⟨encL (cnts l l.length), false, 1⟩)], g⟩) (l.length - 1) ⟨0, by omega, fun j _ _ => by omega, by simp⟩ ?_
    rintro m s ⟨i, hi, hon, rfl⟩
    by_cases h1 : (i : Int) < (l.length - 1 : Nat)
    case pos =>
      have w1 : IntKind.i64.wrap ((i : Int) + 1) = (i : Int) + 1 := wrap64 (by omega) (by omega)
      have q1 : 1 + i < l.length := by omega
      by_cases hc : cnt l l.length (1 + i) = 1
      case pos =>
        simp -implicitDefEqProofs [h1, rd_ints, cnts_len, cnts_get, w1, q1, hc]
        refine ⟨m - 1, by omega, i + 1, by omega, fun j hj1 hj2 => ?_, by omega⟩
        by_cases e : j = 1 + i
        · rw [e]; exact hc
        · exact hon j hj1 (by omega)
      case neg => simp -implicitDefEqProofs [h1, rd_ints, cnts_len, cnts_get, w1, q1, hc]
    case neg =>
      exact absurd (rt_of hw (by omega) (by omega) hpre (fun j hj1 hj2 => hon j hj1 (by omega))) hn
theorem c_tRightT : Contract Try.prog 76 (sp2 TreeRightT) :=
  contract_of_runs mixed (tbl_cons c_Unpack tbl_nil) Try.func76 m76 (sp2_runs runs_tRightT)

set_option maxHeartbeats 2000000 in
theorem runs_rRTT (l : List Word) (dim : Int) (c : Bool) (h : TreeRightT l dim = some c) : Runs (tbl [(136, sp1 Unpack)]) a146 [Arg.enc l, Arg.enc dim] (Arg.enc c) := by
  obtain ⟨⟨hw, hmx⟩, rfl⟩ := part_some h
  clear h
  cases hc : rightT l dim
  case true => exact runs_rRT l dim true (part_of (rightT_true.1 hc) _)
  have hn := rightT_false.1 hc
  refine ⟨rfl, fun g => run_def ?_⟩
  unfold a146
  by_cases b1 : (l.length : Int) < 1
  case pos => simp -implicitDefEqProofs [b1, hmx]
  by_cases b2 : (l.length : Int) > 31
  case pos =>
    have b2' : (31 : Int) < l.length := b2
    simp -implicitDefEqProofs [b1, b2', hmx]
  have b3 : l.length ≤ maxN := by unfold maxN; omega
  simp -implicitDefEqProofs [b1, b2, b3]
  refine run_while (c := c146_37) (fun n s => ∃ (i : Nat) (A : List (Int × Int)) (g : Nat → Nat), i + n = l.length ∧ Pre l dim i ∧ (∀ j : Nat, getA j A = cnt l i j) ∧ s = ⟨[(0, .lst l.length (encL l)), (1, .int .i64 dim), (5, .mp 19 (g 19)), (20, .lst l.length (encL l)), (21, .int .i64 l.length), (22, .int .i64 i)], [(19, ⟨flatA A, false, mapTag⟩)], g⟩) l.length ⟨0, [], bump 19 g, by omega, Pre.zero, fun j => by simp [getA, cnt], by simp [flatA]⟩ ?_
  rintro n s ⟨i, A, g, hi, hpre, hA, rfl⟩
  by_cases h1 : i < l.length
  case pos =>
    have hU := unpackT hw h1
    have w1 : IntKind.i64.wrap ((i : Int) + 1) = (i : Int) + 1 := wrap64 (by omega) (by omega)
    cases hok : (unpack l[i]).2
    case false =>
      rw [hok] at hU
      simp -implicitDefEqProofs [h1, rd_words, hU, w1]
    rw [hok] at hU
    cases hl : (ndAt l i).leaf
    case true =>
      simp -implicitDefEqProofs [h1, rd_words, hU, hl, w1]
      exact ⟨n - 1, by omega, i + 1, by omega, hpre.leaf h1 hok hl, A, fun j => by rw [hA, cnt_succ h1]; simp [names, hl], by omega, rfl⟩
    case false =>
      by_cases e1 : dim ≤ (ndAt l i).feature
      case pos => simp -implicitDefEqProofs [h1, rd_words, hU, hl, w1, b3, e1]
      by_cases f1 : (ndAt l i).left ≤ i
      case pos => simp -implicitDefEqProofs [h1, rd_words, hU, hl, w1, b3, e1, f1]
      by_cases f3 : (ndAt l i).right ≤ i
      case pos => simp -implicitDefEqProofs [h1, rd_words, hU, hl, w1, b3, e1, f1, f3]
      by_cases f2 : (l.length : Int) ≤ (ndAt l i).left
      case pos => simp -implicitDefEqProofs [h1, rd_words, hU, hl, w1, b3, e1, f1, f3, f2]
      by_cases f4 : (l.length : Int) ≤ (ndAt l i).right
      case pos => simp -implicitDefEqProofs [h1, rd_words, hU, hl, w1, b3, e1, f1, f3, f2, f4]
      by_cases e2 : (ndAt l i).left = (ndAt l i).right
      case pos => simp -implicitDefEqProofs [h1, rd_words, hU, hl, w1, b3, e1, f1, f3, f2, f4, e2]
      have n1 := cnt_le l i (ndAt l i).left.toNat
      have n2 := cnt_le l i (ndAt l i).right.toNat
      have a1 : getA (ndAt l i).left A = cnt l i (ndAt l i).left.toNat := by rw [← hA, show (((ndAt l i).left.toNat : Nat) : Int) = (ndAt l i).left by omega]
      have a2 : getA (ndAt l i).right (setA (ndAt l i).left (cnt l i (ndAt l i).left.toNat + 1) A) = cnt l i (ndAt l i).right.toNat := by
        rw [getA_setA, if_neg (Ne.symm e2), ← hA, show (((ndAt l i).right.toNat : Nat) : Int) = (ndAt l i).right by omega]
      have w2 : IntKind.i64.wrap (cnt l i (ndAt l i).left.toNat + 1) = cnt l i (ndAt l i).left.toNat + 1 := wrap64 (by omega) (by omega)
      have w3 : IntKind.i64.wrap (cnt l i (ndAt l i).right.toNat + 1) = cnt l i (ndAt l i).right.toNat + 1 := wrap64 (by omega) (by omega)
      simp -implicitDefEqProofs [h1, rd_words, hU, hl, w1, b3, e1, e2, f1, f2, f3, f4, a1, a2, w2, w3]
      refine ⟨n - 1, by omega, i + 1, by omega, hpre.inner h1 hok ⟨by omega, e2, by omega, by omega, by omega, by omega⟩, _, fun j => ?_, by omega, rfl⟩
      rw [getA_setA, getA_setA, cnt_succ h1, hA]
      unfold names
      rw [hl]
      by_cases q1 : (j : Int) = (ndAt l i).right
      · rw [if_pos q1, show (ndAt l i).right.toNat = j by omega]
        simp [q1]
      · rw [if_neg q1]
        by_cases q2 : (j : Int) = (ndAt l i).left
        · rw [if_pos q2, show (ndAt l i).left.toNat = j by omega]
          simp [q2]
        · rw [if_neg q2]
          have q3 : ¬ (ndAt l i).right = (j : Int) := fun e => q1 e.symm
          have q4 : ¬ (ndAt l i).left = (j : Int) := fun e => q2 e.symm
          simp [q3, q4]
  case neg =>
    have hil : i = l.length := by omega
    subst hil
    simp -implicitDefEqProofs [h1]
    refine run_while (c := c146_54) (fun n s => ∃ (i : Nat), i + n = l.length ∧ 1 ≤ i ∧ (∀ j : Nat, 1 ≤ j → j < i → cnt l l.length j = 1) ∧ s = ⟨[(0, .lst l.length (encL l)), (5, .mp 19 (g 19)), (10, .int .i64 i)], [(19, ⟨flatA A, false, mapTag⟩)], g⟩) (l.length - 1) ⟨1, by omega, by omega, fun j _ _ => by omega, by simp⟩ ?_
    rintro n s ⟨i, hi, hi1, hon, rfl⟩
    by_cases h1 : i < l.length
    case pos =>
      have w1 : IntKind.i64.wrap ((i : Int) + 1) = (i : Int) + 1 := wrap64 (by omega) (by omega)
      have hc := hA i
      by_cases hc1 : cnt l l.length i = 1
      case pos =>
        rw [hc1] at hc
        simp -implicitDefEqProofs [h1, b3, hc, w1]
        refine ⟨n - 1, by omega, i + 1, by omega, by omega, fun j hj1 hj2 => ?_, by omega⟩
        by_cases e : j = i
        · rw [e]; exact hc1
        · exact hon j hj1 (by omega)
      case neg => simp -implicitDefEqProofs [h1, b3, hc, hc1, w1]
    case neg =>
      exact absurd (rt_of hw (by omega) (by omega) hpre (fun j hj1 hj2 => hon j hj1 (by omega))) hn
theorem c_rRTT : Contract Try.prog 146 (sp2 TreeRightT) :=
  contract_of_runs mixed (tbl_cons c_rUnpack tbl_nil) Try.func146 m146 (sp2_runs runs_rRTT)

/-! ### models -/
noncomputable def badT (m : Model) (t : Tree) : Bool := decide (t.cls < 0) || decide (m.classes ≤ t.cls) || !rightT t.nodes m.dim
def okTW (t : Tree) : Prop := okL t.nodes ∧ t.nodes.length ≤ maxN
theorem badT_false {m : Model} {t : Tree} : badT m t = false ↔ 0 ≤ t.cls ∧ t.cls < m.classes ∧ RT t.nodes m.dim := by
  unfold badT
  rw [← rightT_true]
  simp only [Bool.or_eq_false_iff, decide_eq_false_iff_not, Bool.not_eq_false']
  constructor
  · rintro ⟨⟨h1, h2⟩, h3⟩; exact ⟨by omega, by omega, h3⟩
  · rintro ⟨h1, h2, h3⟩; exact ⟨⟨by omega, by omega⟩, h3⟩
noncomputable def Right1T (t : Tree) (m : Ref Model) : Option Bool := Part (okTW t) (badT m.v t)
theorem runs_Right1T (t : Tree) (m : Ref Model) (c : Bool) (h : Right1T t m = some c) : Runs (tbl [(76, sp2 TreeRightT)]) a125 [Arg.enc t, Arg.enc m] (Arg.enc c) := by
  obtain ⟨hw, rfl⟩ := part_some h
  obtain ⟨m⟩ := m
  refine ⟨rfl, fun g => run_def ?_⟩
  unfold a125
  have hT : TreeRightT t.nodes m.dim = some (rightT t.nodes m.dim) := part_of hw _
  unfold badT
  by_cases e0 : t.cls < 0
  · simp -implicitDefEqProofs [e0, hT]
  by_cases e1 : m.classes ≤ t.cls
  · simp -implicitDefEqProofs [e0, e1, hT]
  · simp -implicitDefEqProofs [e0, e1, hT]
theorem c_Right1T : Contract Try.prog 125 (sp2 Right1T) :=
  contract_of_runs mixed (tbl_cons c_tRightT tbl_nil) Try.func125 m125 (sp2_runs runs_Right1T)
def idxF {α : Type} (p : α → Bool) (l : List α) : Int := if l.findIdx p < l.length then (l.findIdx p : Int) else -1
noncomputable def IndexTreesT (l : List Tree) (r : CloR) : Option Int := Part (l.length ≤ 8 ∧ ∀ t ∈ l, okTW t) (idxF (badT r.m) l)
theorem runs_IndexTreesT (l : List Tree) (r : CloR) (c : Int) (h : IndexTreesT l r = some c) : Runs (tbl [(125, sp2 Right1T)]) a160 [Arg.enc l, Arg.enc r] (Arg.enc c) := by
  obtain ⟨⟨hle, hr⟩, rfl⟩ := part_some h
  obtain ⟨m⟩ := r
  refine ⟨rfl, fun g => run_def ?_⟩
  unfold a160
  have b3 : l.length ≤ maxN := by unfold maxN; omega
  simp -implicitDefEqProofs [b3]
  refine run_while (c := c160_15) (fun n s => ∃ (i : Nat), i + n = l.length ∧ (∀ (j : Nat) (hj : j < l.length), j < i → badT m l[j] = false) ∧ s = ⟨[(0, .lst l.length (encL l)), (1, Arg.enc (⟨m⟩ : CloR)), (7, .int .i64 l.length), (8, .int .i64 i)], [], g⟩) l.length ⟨0, by omega, fun j _ h => by omega, by simp⟩ ?_
  rintro n s ⟨i, hi, hno, rfl⟩
  by_cases h1 : i < l.length
  case pos =>
    have w1 : IntKind.i64.wrap ((i : Int) + 1) = (i : Int) + 1 := wrap64 (by omega) (by omega)
    have hrow := rd_tree l i h1
    have hR : Right1T ⟨l[i].cls, l[i].nodes⟩ ⟨m⟩ = some (badT m l[i]) := part_of (hr _ (List.getElem_mem h1)) _
    cases hb : badT m l[i]
    case false =>
      rw [hb] at hR
      simp -implicitDefEqProofs [h1, hrow, hR, w1]
      refine ⟨n - 1, by omega, i + 1, by omega, fun j hj hji => ?_, by omega⟩
      by_cases e : j = i
      · subst e; exact hb
      · exact hno j hj (by omega)
    case true =>
      rw [hb] at hR
      have hidx : idxF (badT m) l = i := by
        have : l.findIdx (badT m) = i := (List.findIdx_eq h1).2 ⟨hb, fun j hj => hno j (by omega) hj⟩
        unfold idxF
        rw [this, if_pos h1]
      simp -implicitDefEqProofs [h1, hrow, hR, w1, hidx]
  case neg =>
    have hidx : idxF (badT m) l = -1 := by
      have : l.findIdx (badT m) = l.length := List.findIdx_eq_length.2 fun x hx => by
        obtain ⟨j, hj, rfl⟩ := List.mem_iff_getElem.1 hx
        exact hno j hj (by omega)
      unfold idxF
      rw [this, if_neg (by omega)]
    simp -implicitDefEqProofs [h1, hidx]
theorem c_IndexTreesT : Contract Try.prog 160 (sp2 IndexTreesT) :=
  contract_of_runs mixed (tbl_cons c_Right1T tbl_nil) Try.func160 m160 (sp2_runs runs_IndexTreesT)
noncomputable def ContainsTreesT (l : List Tree) (r : CloR) : Option Bool := Part (l.length ≤ 8 ∧ ∀ t ∈ l, okTW t) (l.any (badT r.m))
theorem idxF_any {α : Type} (p : α → Bool) (l : List α) : decide (0 ≤ idxF p l) = l.any p := by
  unfold idxF
  split
  · rename_i h
    have : l.any p = true := List.any_eq_true.2 ⟨l[l.findIdx p], List.getElem_mem h, List.findIdx_getElem⟩
    rw [this]
    simp
  · rename_i h
    have h2 : l.findIdx p = l.length := by have := List.findIdx_le_length (p := p) (xs := l); omega
    have : l.any p = false := by
      rw [List.any_eq_false]
      intro x hx
      simp [List.findIdx_eq_length.1 h2 x hx]
    rw [this]
    decide
theorem runs_ContainsTreesT (l : List Tree) (r : CloR) (c : Bool) (h : ContainsTreesT l r = some c) : Runs (tbl [(160, sp2 IndexTreesT)]) a124 [Arg.enc l, Arg.enc r] (Arg.enc c) := by
  obtain ⟨hr, rfl⟩ := part_some h
  obtain ⟨m⟩ := r
  refine ⟨rfl, fun g => run_def ?_⟩
  unfold a124
  have hI : IndexTreesT l ⟨m⟩ = some (idxF (badT m) l) := part_of hr _
  have := idxF_any (badT m) l
  simp -implicitDefEqProofs [hI, this]
theorem c_ContainsTreesT : Contract Try.prog 124 (sp2 ContainsTreesT) :=
  contract_of_runs mixed (tbl_cons c_IndexTreesT tbl_nil) Try.func124 m124 (sp2_runs runs_ContainsTreesT)

open Classical in
noncomputable def rightM (m : Model) : Bool := decide (RM m)
theorem rightM_true {m : Model} : rightM m = true ↔ RM m := by unfold rightM; simp
theorem rightM_false {m : Model} : rightM m = false ↔ ¬ RM m := by unfold rightM; simp
def okMW (m : Model) : Prop := m.trees.length ≤ maxN ∧ ∀ t ∈ m.trees, okTW t
noncomputable def MRightT (m : Model) : Option Bool := Part (okMW m) (rightM m)
theorem rm_of {m : Model} (d : 1 ≤ m.dim ∧ m.dim ≤ 4) (k : 1 ≤ m.classes ∧ m.classes ≤ 3) (b : fits m.bias.b0 = true ∧ fits m.bias.b1 = true ∧ fits m.bias.b2 = true) (n1 : m.classes ≤ 1 → m.bias.b1 = 0) (n2 : m.classes ≤ 2 → m.bias.b2 = 0) (hl : m.trees.length ≤ 8) (ht : m.trees.any (badT m) = false) : RM m where
  dim := d
  classes := k
  bias := b
  none1 := n1
  none2 := n2
  trees := hl
  tree := fun t h => by
    rw [List.any_eq_false] at ht
    exact badT_false.1 (by simpa using ht t h)
set_option maxRecDepth 8000 in
set_option maxHeartbeats 4000000 in
theorem runs_mRightT (m : Model) (c : Bool) (h : MRightT m = some c) : Runs (tbl [(123, sp2 Fits), (124, sp2 ContainsTreesT)]) a71 [Arg.enc m] (Arg.enc c) := by
  obtain ⟨⟨b3, hw⟩, rfl⟩ := part_some h
  clear h
  refine ⟨rfl, fun g => run_def ?_⟩
  unfold a71
  by_cases e0 : m.dim < 1
  · have hF : rightM m = false := rightM_false.2 fun h => by have := h.dim; omega
    simp -implicitDefEqProofs [hF, e0]
  by_cases e1 : 4 < m.dim
  · have hF : rightM m = false := rightM_false.2 fun h => by have := h.dim; omega
    simp -implicitDefEqProofs [hF, e0, e1]
  by_cases e2 : m.classes < 1
  · have hF : rightM m = false := rightM_false.2 fun h => by have := h.classes; omega
    simp -implicitDefEqProofs [hF, e0, e1, e2]
  by_cases e3 : 3 < m.classes
  · have hF : rightM m = false := rightM_false.2 fun h => by have := h.classes; omega
    simp -implicitDefEqProofs [hF, e0, e1, e2, e3]
  by_cases e4 : (8 : Int) < m.trees.length
  · have hF : rightM m = false := rightM_false.2 fun h => by have := h.trees; omega
    simp -implicitDefEqProofs [hF, e0, e1, e2, e3, e4, b3]
  have e5 : ¬ m.classes ≤ 0 := by omega
  cases f0 : fits m.bias.b0
  · have hF : rightM m = false := rightM_false.2 fun h => by have := h.bias.1; rw [f0] at this; cases this
    simp -implicitDefEqProofs [hF, run_round, b3, e0, e1, e2, e3, e4, e5, Fits, f0]
  cases f1 : fits m.bias.b1
  · have hF : rightM m = false := rightM_false.2 fun h => by have := h.bias.2.1; rw [f1] at this; cases this
    simp -implicitDefEqProofs [hF, run_round, b3, e0, e1, e2, e3, e4, e5, Fits, f0, f1]
  have hC : ContainsTreesT m.trees ⟨m⟩ = some (m.trees.any (badT m)) := part_of ⟨by omega, hw⟩ _
  have last : (n1 : m.classes ≤ 1 → m.bias.b1 = 0) → (n2 : m.classes ≤ 2 → m.bias.b2 = 0) → fits m.bias.b2 = true → rightM m = !m.trees.any (badT m) := by
    intro n1 n2 f2
    cases ha : m.trees.any (badT m)
    · exact rightM_true.2 (rm_of ⟨by omega, by omega⟩ ⟨by omega, by omega⟩ ⟨f0, f1, f2⟩ n1 n2 (by omega) ha)
    · refine rightM_false.2 fun h => ?_
      rw [List.any_eq_true] at ha
      obtain ⟨t, ht, hb⟩ := ha
      rw [badT_false.2 (h.tree t ht)] at hb
      cases hb
  have fz : fits 0 = true := rfl
  by_cases k1 : m.classes ≤ 1
  · have k2 : m.classes ≤ 2 := by omega
    by_cases z1 : m.bias.b1 = 0
    · have d1 : decide (m.bias.b1 = 0) = true := by simp [z1]
      cases f2 : fits m.bias.b2
      · have hF : rightM m = false := rightM_false.2 fun h => by have := h.bias.2.2; rw [f2] at this; cases this
        simp -implicitDefEqProofs [hF, run_round, b3, e0, e1, e2, e3, e4, e5, Fits, fz, f0, f1, f2, k1, k2, d1]
      by_cases z2 : m.bias.b2 = 0
      · have d2 : decide (m.bias.b2 = 0) = true := by simp [z2]
        have hF := last (fun _ => z1) (fun _ => z2) f2
        simp -implicitDefEqProofs [hF, run_round, b3, e0, e1, e2, e3, e4, e5, Fits, fz, f0, f1, f2, k1, k2, d1, d2, hC]
      · have d2 : decide (m.bias.b2 = 0) = false := by simp [z2]
        have hF : rightM m = false := rightM_false.2 fun h => z2 (h.none2 k2)
        simp -implicitDefEqProofs [hF, run_round, b3, e0, e1, e2, e3, e4, e5, Fits, fz, f0, f1, f2, k1, k2, d1, d2]
    · have d1 : decide (m.bias.b1 = 0) = false := by simp [z1]
      have hF : rightM m = false := rightM_false.2 fun h => z1 (h.none1 k1)
      simp -implicitDefEqProofs [hF, run_round, b3, e0, e1, e2, e3, e4, e5, Fits, fz, f0, f1, k1, k2, d1]
  · cases f2 : fits m.bias.b2
    · have hF : rightM m = false := rightM_false.2 fun h => by have := h.bias.2.2; rw [f2] at this; cases this
      simp -implicitDefEqProofs [hF, run_round, b3, e0, e1, e2, e3, e4, e5, Fits, fz, f0, f1, f2, k1]
    by_cases k2 : m.classes ≤ 2
    · by_cases z2 : m.bias.b2 = 0
      · have d2 : decide (m.bias.b2 = 0) = true := by simp [z2]
        have hF := last (fun h => absurd h k1) (fun _ => z2) f2
        simp -implicitDefEqProofs [hF, run_round, b3, e0, e1, e2, e3, e4, e5, Fits, fz, f0, f1, f2, k1, k2, d2, hC]
      · have d2 : decide (m.bias.b2 = 0) = false := by simp [z2]
        have hF : rightM m = false := rightM_false.2 fun h => z2 (h.none2 k2)
        simp -implicitDefEqProofs [hF, run_round, b3, e0, e1, e2, e3, e4, e5, Fits, fz, f0, f1, f2, k1, k2, d2]
    · have hF := last (fun h => absurd h k1) (fun h => absurd h k2) f2
      simp -implicitDefEqProofs [hF, run_round, b3, e0, e1, e2, e3, e4, e5, Fits, fz, f0, f1, f2, k1, k2, hC]
theorem c_mRightT : Contract Try.prog 71 (sp1 MRightT) :=
  contract_of_runs mixed (tbl_cons c_Fits (tbl_cons c_ContainsTreesT tbl_nil)) Try.func71 m71 (sp1_runs runs_mRightT)

set_option maxRecDepth 100000 in
set_option maxHeartbeats 4000000 in
theorem runs_rModelT (m : Model) (c : Bool) (h : MRightT m = some c) : Runs (tbl [(119, sp2 Fits), (146, sp2 TreeRightT)]) a97 [Arg.enc m] (Arg.enc c) := by
  obtain ⟨⟨b3, hw⟩, rfl⟩ := part_some h
  clear h
  refine ⟨rfl, fun g => run_def ?_⟩
  unfold a97
  by_cases e0 : m.dim < 1
  · have hF : rightM m = false := rightM_false.2 fun h => by have := h.dim; omega
    simp -implicitDefEqProofs [hF, e0]
  by_cases e1 : 4 < m.dim
  · have hF : rightM m = false := rightM_false.2 fun h => by have := h.dim; omega
    simp -implicitDefEqProofs [hF, e0, e1]
  by_cases e2 : m.classes < 1
  · have hF : rightM m = false := rightM_false.2 fun h => by have := h.classes; omega
    simp -implicitDefEqProofs [hF, e0, e1, e2]
  by_cases e3 : 3 < m.classes
  · have hF : rightM m = false := rightM_false.2 fun h => by have := h.classes; omega
    simp -implicitDefEqProofs [hF, e0, e1, e2, e3]
  by_cases e4 : (8 : Int) < m.trees.length
  · have hF : rightM m = false := rightM_false.2 fun h => by have := h.trees; omega
    simp -implicitDefEqProofs [hF, e0, e1, e2, e3, e4, b3]
  have e5 : ¬ m.classes ≤ 0 := by omega
  cases f0 : fits m.bias.b0
  · have hF : rightM m = false := rightM_false.2 fun h => by have := h.bias.1; rw [f0] at this; cases this
    simp -implicitDefEqProofs [hF, run_round, b3, e0, e1, e2, e3, e4, e5, Fits, f0, -r97_41]
  cases f1 : fits m.bias.b1
  · have hF : rightM m = false := rightM_false.2 fun h => by have := h.bias.2.1; rw [f1] at this; cases this
    simp -implicitDefEqProofs [hF, run_round, b3, e0, e1, e2, e3, e4, e5, Fits, f0, f1, -r97_41]
  have key : ∀ (g : Nat → Nat) (h : Hp), keepH h [1] = [(1, ⟨Row.enc m, false, 0⟩)] → run (tbl [(119, sp2 Fits), (146, sp2 TreeRightT)]) (.loop c97_40) [Fr.blk 2, Fr.c c97_45] ⟨[(1, .ptr 1 (g 1) 0), (52, .lst m.trees.length (encL m.trees)), (53, .int .i64 m.trees.length), (54, .int .i64 0)], h, g⟩ (fin [ARes.t 2] (AV.bool (!m.trees.any (badT m)))) := by
    intro g h hh
    refine run_while (c := c97_39) (fun n s => ∃ (i : Nat) (g : Nat → Nat), i + n = m.trees.length ∧ (∀ (j : Nat) (hj : j < m.trees.length), j < i → badT m m.trees[j] = false) ∧ s = ⟨[(1, .ptr 1 (g 1) 0), (52, .lst m.trees.length (encL m.trees)), (53, .int .i64 m.trees.length), (54, .int .i64 i)], [(1, ⟨Row.enc m, false, 0⟩)], g⟩) m.trees.length ⟨0, g, by omega, fun j _ h => by omega, by simp only [hh]; rfl⟩ ?_
    rintro n s ⟨i, g, hi, hno, rfl⟩
    by_cases h1 : i < m.trees.length
    case pos =>
      have w1 : IntKind.i64.wrap ((i : Int) + 1) = (i : Int) + 1 := wrap64 (by omega) (by omega)
      have hrow := rd_tree m.trees i h1
      have hT : TreeRightT m.trees[i].nodes m.dim = some (rightT m.trees[i].nodes m.dim) := part_of (hw _ (List.getElem_mem h1)) _
      have hbad : badT m m.trees[i] = true → m.trees.any (badT m) = true := fun hb => List.any_eq_true.2 ⟨_, List.getElem_mem h1, hb⟩
      by_cases c1 : m.trees[i].cls < 0
      · have ha := hbad (by simp [badT, c1])
        simp -implicitDefEqProofs [h1, hrow, c1, w1, ha]
      by_cases c2 : m.classes ≤ m.trees[i].cls
      · have ha := hbad (by simp [badT, c2])
        simp -implicitDefEqProofs [h1, hrow, c1, c2, w1, ha]
      cases hr : rightT m.trees[i].nodes m.dim
      · rw [hr] at hT
        have ha := hbad (by simp [badT, hr])
        simp -implicitDefEqProofs [h1, hrow, hT, c1, c2, w1, ha]
      · rw [hr] at hT
        simp -implicitDefEqProofs [h1, hrow, hT, c1, c2, w1]
        refine ⟨n - 1, by omega, i + 1, by omega, fun j hj hji => ?_, by omega⟩
        by_cases e : j = i
        · subst e; simp [badT, hr, c1, c2]
        · exact hno j hj (by omega)
    case neg =>
      have ha : m.trees.any (badT m) = false := by
        rw [List.any_eq_false]
        intro x hx
        obtain ⟨j, hj, rfl⟩ := List.mem_iff_getElem.1 hx
        simp [hno j hj (by omega)]
      simp -implicitDefEqProofs [h1, ha]
  have last : (n1 : m.classes ≤ 1 → m.bias.b1 = 0) → (n2 : m.classes ≤ 2 → m.bias.b2 = 0) → fits m.bias.b2 = true → rightM m = !m.trees.any (badT m) := by
    intro n1 n2 f2
    cases ha : m.trees.any (badT m)
    · exact rightM_true.2 (rm_of ⟨by omega, by omega⟩ ⟨by omega, by omega⟩ ⟨f0, f1, f2⟩ n1 n2 (by omega) ha)
    · refine rightM_false.2 fun h => ?_
      rw [List.any_eq_true] at ha
      obtain ⟨t, ht, hb⟩ := ha
      rw [badT_false.2 (h.tree t ht)] at hb
      cases hb
  have fz : fits 0 = true := rfl
  by_cases k1 : m.classes ≤ 1
  · have k2 : m.classes ≤ 2 := by omega
    by_cases z1 : m.bias.b1 = 0
    · have d1 : decide (m.bias.b1 = 0) = true := by simp [z1]
      cases f2 : fits m.bias.b2
      · have hF : rightM m = false := rightM_false.2 fun h => by have := h.bias.2.2; rw [f2] at this; cases this
        simp -implicitDefEqProofs [hF, run_round, b3, e0, e1, e2, e3, e4, e5, Fits, fz, f0, f1, f2, k1, k2, d1, -r97_41]
      by_cases z2 : m.bias.b2 = 0
      · have d2 : decide (m.bias.b2 = 0) = true := by simp [z2]
        have hF := last (fun _ => z1) (fun _ => z2) f2
        rw [hF]
        simp -implicitDefEqProofs [run_round, b3, e0, e1, e2, e3, e4, e5, Fits, fz, f0, f1, f2, k1, k2, d1, d2, -r97_41]
        exact key (bump 1 g) _ (by simp)
      · have d2 : decide (m.bias.b2 = 0) = false := by simp [z2]
        have hF : rightM m = false := rightM_false.2 fun h => z2 (h.none2 k2)
        simp -implicitDefEqProofs [hF, run_round, b3, e0, e1, e2, e3, e4, e5, Fits, fz, f0, f1, f2, k1, k2, d1, d2, -r97_41]
    · have d1 : decide (m.bias.b1 = 0) = false := by simp [z1]
      have hF : rightM m = false := rightM_false.2 fun h => z1 (h.none1 k1)
      simp -implicitDefEqProofs [hF, run_round, b3, e0, e1, e2, e3, e4, e5, Fits, fz, f0, f1, k1, k2, d1, -r97_41]
  · cases f2 : fits m.bias.b2
    · have hF : rightM m = false := rightM_false.2 fun h => by have := h.bias.2.2; rw [f2] at this; cases this
      simp -implicitDefEqProofs [hF, run_round, b3, e0, e1, e2, e3, e4, e5, Fits, fz, f0, f1, f2, k1, -r97_41]
    by_cases k2 : m.classes ≤ 2
    · by_cases z2 : m.bias.b2 = 0
      · have d2 : decide (m.bias.b2 = 0) = true := by simp [z2]
        have hF := last (fun h => absurd h k1) (fun _ => z2) f2
        rw [hF]
        simp -implicitDefEqProofs [run_round, b3, e0, e1, e2, e3, e4, e5, Fits, fz, f0, f1, f2, k1, k2, d2, -r97_41]
        exact key (bump 1 g) _ (by simp)
      · have d2 : decide (m.bias.b2 = 0) = false := by simp [z2]
        have hF : rightM m = false := rightM_false.2 fun h => z2 (h.none2 k2)
        simp -implicitDefEqProofs [hF, run_round, b3, e0, e1, e2, e3, e4, e5, Fits, fz, f0, f1, f2, k1, k2, d2, -r97_41]
    · have hF := last (fun h => absurd h k1) (fun h => absurd h k2) f2
      rw [hF]
      simp -implicitDefEqProofs [run_round, b3, e0, e1, e2, e3, e4, e5, Fits, fz, f0, f1, f2, k1, k2, -r97_41]
      exact key (bump 1 g) _ (by simp)
theorem c_rModelT : Contract Try.prog 97 (sp1 MRightT) :=
  contract_of_runs mixed (tbl_cons c_rFits (tbl_cons c_rRTT tbl_nil)) Try.func97 m97 (sp1_runs runs_rModelT)

/-- what two contracts say together -/
theorem contract_or {P : Program} {f : FuncId} {sp sp1 sp2 : List AV → Option AV} (h1 : Contract P f sp1) (h2 : Contract P f sp2) (h : ∀ args r, sp args = some r → sp1 args = some r ∨ sp2 args = some r) : Contract P f sp := by
  unfold Contract at h1 h2 ⊢
  split
  · rename_i hf
    rw [if_pos hf] at h1 h2
    intro I w args vs r hs
    rcases h args r hs with e | e
    · exact h1 I w args vs r e
    · exact h2 I w args vs r e
  · rename_i hf
    rw [if_neg hf] at h1 h2
    intro I w args vs r h h' ρ hs
    rcases ‹∀ args r, sp args = some r → sp1 args = some r ∨ sp2 args = some r› _ _ hs with e | e
    · exact h1 I w args vs r h h' ρ e
    · exact h2 I w args vs r h h' ρ e

noncomputable def EvalF (m : Model) (c : Int) (p : Point) : Option Int := Part (okMW m ∧ ¬ RM m) 0
noncomputable def EvalT (m : Model) (c : Int) (p : Point) : Option Int := Part (okMW m) (if rightM m then evalX m c p else 0)
theorem runs_EvalF (m : Model) (c : Int) (p : Point) (r : Int) (h : EvalF m c p = some r) : Runs (tbl [(71, sp1 MRightT)]) a69 [Arg.enc m, Arg.enc c, Arg.enc p] (Arg.enc r) := by
  obtain ⟨⟨hw, hn⟩, rfl⟩ := part_some h
  refine ⟨rfl, fun g => run_def ?_⟩
  unfold a69
  have hM : MRightT m = some false := by unfold MRightT; rw [part_of hw, rightM_false.2 hn]
  simp -implicitDefEqProofs [hM]
theorem runs_rEvalF (m : Model) (c : Int) (p : Point) (r : Int) (h : EvalF m c p = some r) : Runs (tbl [(97, sp1 MRightT)]) a98 [Arg.enc m, Arg.enc c, Arg.enc p] (Arg.enc r) := by
  obtain ⟨⟨hw, hn⟩, rfl⟩ := part_some h
  refine ⟨rfl, fun g => run_def ?_⟩
  unfold a98
  have hM : MRightT m = some false := by unfold MRightT; rw [part_of hw, rightM_false.2 hn]
  simp -implicitDefEqProofs [hM]
theorem evalT_or (args : List AV) (r : AV) (h : sp3 EvalT args = some r) : sp3 Eval args = some r ∨ sp3 EvalF args = some r := by
  revert h
  unfold sp3
  split
  · rename_i x y z
    cases hx : (Arg.dec x : Option Model) with
    | none => simp
    | some m =>
      cases hy : (Arg.dec y : Option Int) with
      | none => simp
      | some c =>
        cases hz : (Arg.dec z : Option Point) with
        | none => simp
        | some p =>
          simp only [Option.bind_some]
          intro h
          rw [Option.map_eq_some_iff] at h
          obtain ⟨v, hv, rfl⟩ := h
          obtain ⟨hw, rfl⟩ := part_some hv
          cases hr : rightM m
          · right
            have : EvalF m c p = some 0 := part_of ⟨hw, rightM_false.1 hr⟩ _
            rw [this]
            rfl
          · left
            have : Eval m c p = some (evalX m c p) := part_of (rightM_true.1 hr) _
            rw [this]
            rfl
  · intro h; cases h
theorem c_EvalT : Contract Try.prog 69 (sp3 EvalT) :=
  contract_or c_Eval (contract_of_runs mixed (tbl_cons c_mRightT tbl_nil) Try.func69 m69 (sp3_runs runs_EvalF)) evalT_or
theorem c_rEvalT : Contract Try.prog 98 (sp3 EvalT) :=
  contract_or c_rEval (contract_of_runs mixed (tbl_cons c_rModelT tbl_nil) Try.func98 m98 (sp3_runs runs_rEvalF)) evalT_or

noncomputable def BestF (m : Model) (p : Point) : Option Int := Part (okMW m ∧ ¬ RM m) (-1)
noncomputable def BestT (m : Model) (p : Point) : Option Int := Part (okMW m) (if rightM m then bestM m p else -1)
theorem runs_BestF (m : Model) (p : Point) (r : Int) (h : BestF m p = some r) : Runs (tbl [(71, sp1 MRightT)]) a78 [Arg.enc m, Arg.enc p] (Arg.enc r) := by
  obtain ⟨⟨hw, hn⟩, rfl⟩ := part_some h
  refine ⟨rfl, fun g => run_def ?_⟩
  unfold a78
  have hM : MRightT m = some false := by unfold MRightT; rw [part_of hw, rightM_false.2 hn]
  simp -implicitDefEqProofs [hM]
theorem c_BestT : Contract Try.prog 78 (sp2 BestT) :=
  contract_or c_Best (contract_of_runs mixed (tbl_cons c_mRightT tbl_nil) Try.func78 m78 (sp2_runs runs_BestF)) fun args r h => by
    revert h
    unfold sp2
    split
    · rename_i x y
      cases hx : (Arg.dec x : Option Model) with
      | none => simp
      | some m =>
        cases hz : (Arg.dec y : Option Point) with
        | none => simp
        | some p =>
          simp only [Option.bind_some]
          intro h
          rw [Option.map_eq_some_iff] at h
          obtain ⟨v, hv, rfl⟩ := h
          obtain ⟨hw, rfl⟩ := part_some hv
          cases hr : rightM m
          · right
            have : BestF m p = some (-1) := part_of ⟨hw, rightM_false.1 hr⟩ _
            rw [this]
            rfl
          · left
            have : BestC m p = some (bestM m p) := part_of (rightM_true.1 hr) _
            rw [this]
            rfl
    · intro h; cases h
theorem RT.okTW {l : List Word} {dim : Int} (h : RT l dim) : okL l ∧ l.length ≤ maxN := by
  refine ⟨fun w hw => ?_, by have := h.le; unfold maxN; omega⟩
  obtain ⟨i, hi, rfl⟩ := List.mem_iff_getElem.1 hw
  exact (h.ok i hi).1
theorem RM.okMW {m : Model} (h : RM m) : okMW m := ⟨by have := h.trees; unfold maxN; omega, fun t ht => (h.tree t ht).2.2.okTW⟩

/- copse/model.Size -/
def c72_0 : ACode := .ops [⟨some 1, .box (.t 0) 6, none, []⟩,
  ⟨some 2, .mv (.c (.int .i64 0)), none, []⟩] [1]
theorem r72_0 {C : Cs} {k : List Fr} {s : St} {Q : Post} : run C c72_0 k s Q = run C (.ops [⟨some 1, .box (.t 0) 6, none, []⟩,
  ⟨some 2, .mv (.c (.int .i64 0)), none, []⟩] [1]) k s Q := rfl
def c72_1 : ACode := .ops [⟨some 3, .mv (.c (.int .i64 0)), none, []⟩] [1, 3]
theorem r72_1 {C : Cs} {k : List Fr} {s : St} {Q : Post} : run C c72_1 k s Q = run C (.ops [⟨some 3, .mv (.c (.int .i64 0)), none, []⟩] [1, 3]) k s Q := rfl
def c72_2 : ACode := .ops [⟨some 6, .fad (.t 1) 5, none, [1]⟩,
  ⟨some 7, .load 1 false (.t 6), none, [1]⟩,
  ⟨some 8, .len (.t 7), none, []⟩,
  ⟨some 9, .mv (.c (.int .i64 0)), none, []⟩] [3, 7, 8, 9]
theorem r72_2 {C : Cs} {k : List Fr} {s : St} {Q : Post} : run C c72_2 k s Q = run C (.ops [⟨some 6, .fad (.t 1) 5, none, [1]⟩,
  ⟨some 7, .load 1 false (.t 6), none, [1]⟩,
  ⟨some 8, .len (.t 7), none, []⟩,
  ⟨some 9, .mv (.c (.int .i64 0)), none, []⟩] [3, 7, 8, 9]) k s Q := rfl
def c72_3 : ACode := .ops [⟨some 10, .bin .lss (.t 9) (.t 8), none, []⟩] [3, 7, 8, 9, 10]
theorem r72_3 {C : Cs} {k : List Fr} {s : St} {Q : Post} : run C c72_3 k s Q = run C (.ops [⟨some 10, .bin .lss (.t 9) (.t 8), none, []⟩] [3, 7, 8, 9, 10]) k s Q := rfl
def c72_4 : ACode := .cond (.t 10) .skip (.exit 0)
theorem r72_4 {C : Cs} {k : List Fr} {s : St} {Q : Post} : run C c72_4 k s Q = run C (.cond (.t 10) .skip (.exit 0)) k s Q := rfl
def c72_5 : ACode := .ops [⟨some 11, .ias (.t 7) (.t 9) 2, none, []⟩,
  ⟨some 12, .load 2 true (.t 11), none, []⟩,
  ⟨some 5, .alloc [.int .i64 0, .nils], none, []⟩,
  ⟨none, .store (.t 5) 2 (.t 12), none, [5]⟩] [3, 5, 7, 8, 9]
theorem r72_5 {C : Cs} {k : List Fr} {s : St} {Q : Post} : run C c72_5 k s Q = run C (.ops [⟨some 11, .ias (.t 7) (.t 9) 2, none, []⟩,
  ⟨some 12, .load 2 true (.t 11), none, []⟩,
  ⟨some 5, .alloc [.int .i64 0, .nils], none, []⟩,
  ⟨none, .store (.t 5) 2 (.t 12), none, [5]⟩] [3, 5, 7, 8, 9]) k s Q := rfl
def c72_6 : ACode := .ops [⟨some 13, .mv (.t 3), none, []⟩,
  ⟨some 14, .fad (.t 5) 1, none, [5]⟩,
  ⟨some 15, .load 1 false (.t 14), none, [5]⟩,
  ⟨some 16, .len (.t 15), none, []⟩,
  ⟨some 17, .bin .add (.t 13) (.t 16), none, []⟩,
  ⟨some 3, .mv (.t 17), none, []⟩] [3, 7, 8, 9]
theorem r72_6 {C : Cs} {k : List Fr} {s : St} {Q : Post} : run C c72_6 k s Q = run C (.ops [⟨some 13, .mv (.t 3), none, []⟩,
  ⟨some 14, .fad (.t 5) 1, none, [5]⟩,
  ⟨some 15, .load 1 false (.t 14), none, [5]⟩,
  ⟨some 16, .len (.t 15), none, []⟩,
  ⟨some 17, .bin .add (.t 13) (.t 16), none, []⟩,
  ⟨some 3, .mv (.t 17), none, []⟩] [3, 7, 8, 9]) k s Q := rfl
def c72_7 : ACode := .seq c72_5 c72_6
theorem r72_7 {C : Cs} {k : List Fr} {s : St} {Q : Post} : run C c72_7 k s Q = run C (.seq c72_5 c72_6) k s Q := rfl
def c72_8 : ACode := .block 1 c72_7
theorem r72_8 {C : Cs} {k : List Fr} {s : St} {Q : Post} : run C c72_8 k s Q = run C (.block 1 c72_7) k s Q := rfl
def c72_9 : ACode := .ops [⟨some 18, .bin .add (.t 9) (.c (.int .i64 1)), none, []⟩,
  ⟨some 9, .mv (.t 18), none, []⟩] [3, 7, 8, 9]
theorem r72_9 {C : Cs} {k : List Fr} {s : St} {Q : Post} : run C c72_9 k s Q = run C (.ops [⟨some 18, .bin .add (.t 9) (.c (.int .i64 1)), none, []⟩,
  ⟨some 9, .mv (.t 18), none, []⟩] [3, 7, 8, 9]) k s Q := rfl
def c72_10 : ACode := .seq c72_8 c72_9
theorem r72_10 {C : Cs} {k : List Fr} {s : St} {Q : Post} : run C c72_10 k s Q = run C (.seq c72_8 c72_9) k s Q := rfl
def c72_11 : ACode := .seq c72_4 c72_10
theorem r72_11 {C : Cs} {k : List Fr} {s : St} {Q : Post} : run C c72_11 k s Q = run C (.seq c72_4 c72_10) k s Q := rfl
def c72_12 : ACode := .seq c72_3 c72_11
theorem r72_12 {C : Cs} {k : List Fr} {s : St} {Q : Post} : run C c72_12 k s Q = run C (.seq c72_3 c72_11) k s Q := rfl
def c72_13 : ACode := .keep [3, 7, 8, 9] [] c72_12
theorem r72_13 {C : Cs} {k : List Fr} {s : St} {Q : Post} : run C c72_13 k s Q = run C (.keep [3, 7, 8, 9] [] c72_12) k s Q := rfl
def c72_14 : ACode := .loop c72_13
theorem r72_14 {C : Cs} {k : List Fr} {s : St} {Q : Post} : run C c72_14 k s Q = run C (.loop c72_13) k s Q := rfl
def c72_15 : ACode := .block 0 c72_14
theorem r72_15 {C : Cs} {k : List Fr} {s : St} {Q : Post} : run C c72_15 k s Q = run C (.block 0 c72_14) k s Q := rfl
def c72_16 : ACode := .seq c72_2 c72_15
theorem r72_16 {C : Cs} {k : List Fr} {s : St} {Q : Post} : run C c72_16 k s Q = run C (.seq c72_2 c72_15) k s Q := rfl
def c72_17 : ACode := .ops [⟨some 19, .mv (.t 3), none, []⟩,
  ⟨some 2, .mv (.t 19), none, []⟩] [2]
theorem r72_17 {C : Cs} {k : List Fr} {s : St} {Q : Post} : run C c72_17 k s Q = run C (.ops [⟨some 19, .mv (.t 3), none, []⟩,
  ⟨some 2, .mv (.t 19), none, []⟩] [2]) k s Q := rfl
def c72_18 : ACode := .seq c72_17 .ret
theorem r72_18 {C : Cs} {k : List Fr} {s : St} {Q : Post} : run C c72_18 k s Q = run C (.seq c72_17 .ret) k s Q := rfl
def c72_19 : ACode := .seq c72_16 c72_18
theorem r72_19 {C : Cs} {k : List Fr} {s : St} {Q : Post} : run C c72_19 k s Q = run C (.seq c72_16 c72_18) k s Q := rfl
def c72_20 : ACode := .seq c72_1 c72_19
theorem r72_20 {C : Cs} {k : List Fr} {s : St} {Q : Post} : run C c72_20 k s Q = run C (.seq c72_1 c72_19) k s Q := rfl
def c72_21 : ACode := .seq c72_0 c72_20
theorem r72_21 {C : Cs} {k : List Fr} {s : St} {Q : Post} : run C c72_21 k s Q = run C (.seq c72_0 c72_20) k s Q := rfl
def a72 : AFun := ⟨1, 20, c72_21, [.t 2]⟩
attribute [simp] r72_0 r72_1 r72_2 r72_3 r72_4 r72_5 r72_6 r72_7 r72_8 r72_9 r72_10 r72_11 r72_12 r72_13 r72_14 r72_15 r72_16 r72_17 r72_18 r72_19 r72_20 r72_21
theorem m72 : mFun Try.prog Try.f72 a72 = true := by decide +kernel

def lenF (n : Int) (t : Tree) : Int := n + (t.nodes.length : Int)
def sizeM (m : Model) : Int := m.trees.foldl lenF 0
theorem size_le (l : List Tree) : ∀ (n : Int), (∀ t ∈ l, t.nodes.length ≤ 1099511627776) → n ≤ l.foldl lenF n ∧ l.foldl lenF n ≤ n + (l.length : Int) * 1099511627776 := by
  induction l with
  | nil => intro n _; simp
  | cons t l ih =>
    intro n h
    have h1 := h t (by simp)
    have h2 := ih (lenF n t) fun x hx => h x (by simp [hx])
    simp only [List.foldl_cons, List.length_cons]
    unfold lenF at h2 ⊢
    omega
noncomputable def SizeC (m : Model) : Option Int := Part (m.trees.length ≤ 100 ∧ ∀ t ∈ m.trees, t.nodes.length ≤ 1099511627776) (sizeM m)
set_option maxHeartbeats 1000000 in
theorem runs_Size (m : Model) (r : Int) (h : SizeC m = some r) : Runs (tbl []) a72 [Arg.enc m] (Arg.enc r) := by
  obtain ⟨⟨hl, ht⟩, rfl⟩ := part_some h
  clear h
  refine ⟨rfl, fun g => run_def ?_⟩
  unfold a72
  have b3 : m.trees.length ≤ maxN := by unfold maxN; omega
  simp -implicitDefEqProofs [b3]
  refine run_while (c := c72_12) (fun n s => ∃ (i : Nat) (g : Nat → Nat), i + n = m.trees.length ∧ s = ⟨[(3, .int .i64 ((m.trees.take i).foldl lenF 0)), (7, .lst m.trees.length (encL m.trees)), (8, .int .i64 m.trees.length), (9, .int .i64 i)], [], g⟩) m.trees.length ⟨0, bump 1 g, by omega, by simp⟩ ?_
  rintro n s ⟨i, g, hi, rfl⟩
  by_cases h1 : i < m.trees.length
  case pos =>
    have w1 : IntKind.i64.wrap ((i : Int) + 1) = (i : Int) + 1 := wrap64 (by omega) (by omega)
    have hrow := rd_tree m.trees i h1
    have hb := size_le (m.trees.take (i + 1)) 0 (fun t h => ht t (List.mem_of_mem_take h))
    have hn : m.trees[i].nodes.length ≤ maxN := by have := ht _ (List.getElem_mem h1); unfold maxN; omega
    have hs : (m.trees.take (i + 1)).foldl lenF 0 = (m.trees.take i).foldl lenF 0 + (m.trees[i].nodes.length : Int) := by
      rw [List.take_succ_eq_append_getElem h1, List.foldl_append]
      rfl
    have hll : (m.trees.take (i + 1)).length ≤ 100 := by simp; omega
    have w2 : IntKind.i64.wrap ((m.trees.take i).foldl lenF 0 + (m.trees[i].nodes.length : Int)) = (m.trees.take (i + 1)).foldl lenF 0 := by rw [← hs]; exact wrap64 (by omega) (by omega)
    simp -implicitDefEqProofs [h1, hrow, hn, w1, w2]
    exact ⟨n - 1, by omega, i + 1, by omega, rfl, by omega⟩
  case neg =>
    have hil : i = m.trees.length := by omega
    subst hil
    simp -implicitDefEqProofs [h1, sizeM]
theorem c_Size : Contract Try.prog 72 (sp1 SizeC) :=
  contract_of_runs mixed tbl_nil Try.func72 m72 (sp1_runs runs_Size)
theorem RM.size {m : Model} (h : RM m) : SizeC m = some (sizeM m) := part_of ⟨by have := h.trees; omega, fun t ht => by have := (h.tree t ht).2.2.le; omega⟩ _
end Go.Co
