/- CO: texts of this claim, one behind the other. -/
import Derived.Test.YtlbfmeijjgphfaaGreatCz2
import Derived.Test.YtlbfmeijjgphfaaGreatCz7
import Derived.Test.YtlbfmeijjgphfaaGreatCz4
set_option linter.unusedVariables false
set_option linter.unusedSimpArgs false
/- CO: thresholds of a feature. -/
set_option maxHeartbeats 16000000
set_option maxRecDepth 100000
namespace Go.Co
open Go.Am Go.Proofs
attribute [-simp] Go.Am.eff_gcall
def c66_0 : ACode := .ops [⟨some 2, .box (.t 0) 6, none, []⟩,⟨some 4, .mv (.c (.nils)), none, []⟩] [1, 2]
theorem r66_0 : type_of% (rr c66_0.eq_1) := rr rfl
def c66_1 : ACode := .ops [⟨some 12, .load 6 true (.t 2), none, [2]⟩,⟨some 13, .call 43 [.t 12], none, []⟩,⟨some 14, .un .not (.t 13), none, []⟩] [1, 2, 14]
theorem r66_1 : type_of% (rr c66_1.eq_1) := rr rfl
def c66_2 : ACode := .ops [⟨some 4, .mv (.c (.nils)), none, []⟩] [4]
theorem r66_2 : type_of% (rr c66_2.eq_1) := rr rfl
def c66_3 : ACode := .seq c66_2 .ret
theorem r66_3 : type_of% (rr c66_3.eq_1) := rr rfl
def c66_4 : ACode := .cond (.t 14) c66_3 .skip
theorem r66_4 : type_of% (rr c66_4.eq_1) := rr rfl
def c66_5 : ACode := .seq c66_1 c66_4
theorem r66_5 : type_of% (rr c66_5.eq_1) := rr rfl
def c66_6 : ACode := .ops [⟨some 5, .nil0 5 1, none, []⟩] [1, 2, 5]
theorem r66_6 : type_of% (rr c66_6.eq_1) := rr rfl
def c66_7 : ACode := .ops [⟨some 15, .fad (.t 2) 5, none, [2]⟩,⟨some 16, .load 1 false (.t 15), none, [2]⟩,⟨some 17, .len (.t 16), none, []⟩,⟨some 18, .mv (.c (.int .i64 0)), none, []⟩] [1, 5, 16, 17, 18]
theorem r66_7 : type_of% (rr c66_7.eq_1) := rr rfl
def c66_8 : ACode := .ops [⟨some 19, .bin .lss (.t 18) (.t 17), none, []⟩] [1, 5, 16, 17, 18, 19]
theorem r66_8 : type_of% (rr c66_8.eq_1) := rr rfl
def c66_9 : ACode := .cond (.t 19) .skip (.exit 0)
theorem r66_9 : type_of% (rr c66_9.eq_1) := rr rfl
def c66_10 : ACode := .ops [⟨some 20, .ias (.t 16) (.t 18) 2, none, []⟩,⟨some 21, .load 2 true (.t 20), none, []⟩,⟨some 7, .alloc [.int .i64 0, .nils], none, []⟩,⟨none, .store (.t 7) 2 (.t 21), none, [7]⟩] [1, 5, 7, 16, 17, 18]
theorem r66_10 : type_of% (rr c66_10.eq_1) := rr rfl
def c66_11 : ACode := .ops [⟨some 22, .fad (.t 7) 1, none, [7]⟩,⟨some 23, .load 1 false (.t 22), none, [7]⟩,⟨some 24, .len (.t 23), none, []⟩,⟨some 25, .mv (.c (.int .i64 0)), none, []⟩] [1, 5, 16, 17, 18, 23, 24, 25]
theorem r66_11 : type_of% (rr c66_11.eq_1) := rr rfl
def c66_12 : ACode := .ops [⟨some 26, .bin .lss (.t 25) (.t 24), none, []⟩] [1, 5, 16, 17, 18, 23, 24, 25, 26]
theorem r66_12 : type_of% (rr c66_12.eq_1) := rr rfl
def c66_13 : ACode := .cond (.t 26) .skip (.exit 2)
theorem r66_13 : type_of% (rr c66_13.eq_1) := rr rfl
def c66_14 : ACode := .ops [⟨some 27, .ias (.t 23) (.t 25) 1, none, []⟩,⟨some 28, .load 1 false (.t 27), none, []⟩,⟨some 9, .mv (.t 28), none, []⟩] [1, 5, 9, 16, 17, 18, 23, 24, 25]
theorem r66_14 : type_of% (rr c66_14.eq_1) := rr rfl
def c66_15 : ACode := .ops [⟨some 30, .mv (.t 9), none, []⟩,⟨some 31, .call 85 [.t 30], none, []⟩,⟨some 29, .mv (.t 31), none, []⟩,⟨some 32, .ext (.t 29) 0, none, []⟩,⟨some 33, .ext (.t 29) 1, none, []⟩,⟨some 10, .alloc [.bool false, .int .i64 0, .int .i64 0, .int .i64 0, .int .i64 0, .int .i64 0], none, []⟩,⟨none, .store (.t 10) 6 (.t 32), none, [10]⟩,⟨some 11, .mv (.t 33), none, []⟩] [1, 5, 10, 16, 17, 18, 23, 24, 25]
theorem r66_15 : type_of% (rr c66_15.eq_1) := rr rfl
def c66_16 : ACode := .ops [⟨some 34, .fad (.t 10) 0, none, [10]⟩,⟨some 35, .load 1 false (.t 34), none, [10]⟩,⟨some 36, .un .not (.t 35), none, []⟩,⟨some 37, .mv (.t 36), none, []⟩,⟨some 38, .fad (.t 10) 2, some (37, true), [10]⟩,⟨some 39, .load 1 false (.t 38), some (37, true), [10]⟩,⟨some 40, .mv (.t 1), some (37, true), []⟩,⟨some 41, .bin .eql (.t 39) (.t 40), some (37, true), []⟩,⟨some 42, .pick (.t 37) (.t 41) (.c (.bool false)), none, []⟩] [1, 5, 10, 16, 17, 18, 23, 24, 25, 42]
theorem r66_16 : type_of% (rr c66_16.eq_1) := rr rfl
def c66_17 : ACode := .ops [⟨some 43, .mv (.t 5), none, []⟩,⟨some 44, .fad (.t 10) 3, none, [10]⟩,⟨some 45, .load 1 false (.t 44), none, [10]⟩,⟨some 46, .mkrow 46 1 1 [.int .i64 0] [(0, 1, .t 45)], none, []⟩,⟨some 47, .app 5 [5] (.t 43) (.t 46) 1, none, [5, 46]⟩,⟨some 5, .mv (.t 47), none, []⟩] [1, 5, 16, 17, 18, 23, 24, 25]
theorem r66_17 : type_of% (rr c66_17.eq_1) := rr rfl
def c66_18 : ACode := .cond (.t 42) c66_17 .skip
theorem r66_18 : type_of% (rr c66_18.eq_1) := rr rfl
def c66_19 : ACode := .seq c66_16 c66_18
theorem r66_19 : type_of% (rr c66_19.eq_1) := rr rfl
def c66_20 : ACode := .seq c66_15 c66_19
theorem r66_20 : type_of% (rr c66_20.eq_1) := rr rfl
def c66_21 : ACode := .seq c66_14 c66_20
theorem r66_21 : type_of% (rr c66_21.eq_1) := rr rfl
def c66_22 : ACode := .block 3 c66_21
theorem r66_22 : type_of% (rr c66_22.eq_1) := rr rfl
def c66_23 : ACode := .ops [⟨some 48, .bin .add (.t 25) (.c (.int .i64 1)), none, []⟩,⟨some 25, .mv (.t 48), none, []⟩] [1, 5, 16, 17, 18, 23, 24, 25]
theorem r66_23 : type_of% (rr c66_23.eq_1) := rr rfl
def c66_24 : ACode := .seq c66_22 c66_23
theorem r66_24 : type_of% (rr c66_24.eq_1) := rr rfl
def c66_25 : ACode := .seq c66_13 c66_24
theorem r66_25 : type_of% (rr c66_25.eq_1) := rr rfl
def c66_26 : ACode := .seq c66_12 c66_25
theorem r66_26 : type_of% (rr c66_26.eq_1) := rr rfl
def c66_27 : ACode := .keep [1, 5, 16, 17, 18, 23, 24, 25] [5] c66_26
theorem r66_27 : type_of% (rr c66_27.eq_1) := rr rfl
def c66_28 : ACode := .loop c66_27
theorem r66_28 : type_of% (rr c66_28.eq_1) := rr rfl
def c66_29 : ACode := .block 2 c66_28
theorem r66_29 : type_of% (rr c66_29.eq_1) := rr rfl
def c66_30 : ACode := .seq c66_11 c66_29
theorem r66_30 : type_of% (rr c66_30.eq_1) := rr rfl
def c66_31 : ACode := .seq c66_10 c66_30
theorem r66_31 : type_of% (rr c66_31.eq_1) := rr rfl
def c66_32 : ACode := .block 1 c66_31
theorem r66_32 : type_of% (rr c66_32.eq_1) := rr rfl
def c66_33 : ACode := .ops [⟨some 49, .bin .add (.t 18) (.c (.int .i64 1)), none, []⟩,⟨some 18, .mv (.t 49), none, []⟩] [1, 5, 16, 17, 18]
theorem r66_33 : type_of% (rr c66_33.eq_1) := rr rfl
def c66_34 : ACode := .seq c66_32 c66_33
theorem r66_34 : type_of% (rr c66_34.eq_1) := rr rfl
def c66_35 : ACode := .seq c66_9 c66_34
theorem r66_35 : type_of% (rr c66_35.eq_1) := rr rfl
def c66_36 : ACode := .seq c66_8 c66_35
theorem r66_36 : type_of% (rr c66_36.eq_1) := rr rfl
def c66_37 : ACode := .keep [1, 5, 16, 17, 18] [5] c66_36
theorem r66_37 : type_of% (rr c66_37.eq_1) := rr rfl
def c66_38 : ACode := .loop c66_37
theorem r66_38 : type_of% (rr c66_38.eq_1) := rr rfl
def c66_39 : ACode := .block 0 c66_38
theorem r66_39 : type_of% (rr c66_39.eq_1) := rr rfl
def c66_40 : ACode := .seq c66_7 c66_39
theorem r66_40 : type_of% (rr c66_40.eq_1) := rr rfl
def c66_41 : ACode := .ops [⟨some 50, .mv (.t 5), none, []⟩,⟨some 51, .gcall 86 [.t 50] [5] 5, none, [5]⟩] [5]
theorem r66_41 : type_of% (rr c66_41.eq_1) := rr rfl
def c66_42 : ACode := .ops [⟨some 52, .mv (.t 5), none, []⟩,⟨some 53, .gcall 87 [.t 52] [5] 5, none, [5]⟩,⟨some 4, .mv (.t 53), none, []⟩] [4]
theorem r66_42 : type_of% (rr c66_42.eq_1) := rr rfl
def c66_43 : ACode := .seq c66_42 .ret
theorem r66_43 : type_of% (rr c66_43.eq_1) := rr rfl
def c66_44 : ACode := .seq c66_41 c66_43
theorem r66_44 : type_of% (rr c66_44.eq_1) := rr rfl
def c66_45 : ACode := .seq c66_40 c66_44
theorem r66_45 : type_of% (rr c66_45.eq_1) := rr rfl
def c66_46 : ACode := .seq c66_6 c66_45
theorem r66_46 : type_of% (rr c66_46.eq_1) := rr rfl
def c66_47 : ACode := .seq c66_5 c66_46
theorem r66_47 : type_of% (rr c66_47.eq_1) := rr rfl
def c66_48 : ACode := .seq c66_0 c66_47
theorem r66_48 : type_of% (rr c66_48.eq_1) := rr rfl
def a66 : AFun := ⟨2, 54, c66_48, [.t 4]⟩
attribute [simp] r66_0 r66_1 r66_2 r66_3 r66_4 r66_5 r66_6 r66_7 r66_8 r66_9 r66_10 r66_11 r66_12 r66_13 r66_14 r66_15 r66_16 r66_17 r66_18 r66_19 r66_20 r66_21 r66_22 r66_23 r66_24 r66_25 r66_26 r66_27 r66_28 r66_29 r66_30 r66_31 r66_32 r66_33 r66_34 r66_35 r66_36 r66_37 r66_38 r66_39 r66_40 r66_41 r66_42 r66_43 r66_44 r66_45 r66_46 r66_47 r66_48
theorem m66 : mFun Tryz.prog Tryz.f66 a66 = true := by decide +kernel
def cutF (j : Int) (w : Word) : Option Int := if (nd w).leaf = false ∧ (nd w).feature = j then some (nd w).cut else none
def rawW (j : Int) (l : List Word) : List Int := l.filterMap (cutF j)
def rawM (l : List Tree) (j : Int) : List Int := l.flatMap fun t => rawW j t.nodes
def thrL (m : Model) (j : Int) : List Int := Go.Lib.compact (isort (rawM m.trees j))
def rawTo (m : Model) (j : Int) (i k : Nat) (l : List Word) : List Int := rawM (m.trees.take i) j ++ rawW j (l.take k)
theorem rawTo_zero (m : Model) (j : Int) (i : Nat) (l : List Word) : rawTo m j i 0 l = rawM (m.trees.take i) j := by simp [rawTo, rawW]
theorem rawTo_some {m : Model} {j : Int} {i k : Nat} {l : List Word} (h : k < l.length) (hl : (nd l[k]).leaf = false) (hf : (nd l[k]).feature = j) : rawTo m j i (k + 1) l = rawTo m j i k l ++ [(nd l[k]).cut] := by
  unfold rawTo rawW
  rw [List.take_succ_eq_append_getElem h, List.filterMap_append, List.append_assoc]
  simp [cutF, hl, hf]
theorem rawTo_none {m : Model} {j : Int} {i k : Nat} {l : List Word} (h : k < l.length) (hn : ¬ ((nd l[k]).leaf = false ∧ (nd l[k]).feature = j)) : rawTo m j i (k + 1) l = rawTo m j i k l := by
  unfold rawTo rawW
  rw [List.take_succ_eq_append_getElem h, List.filterMap_append]
  simp [cutF, hn]
theorem rawTo_all {m : Model} {j : Int} {i : Nat} (h : i < m.trees.length) : rawTo m j i m.trees[i].nodes.length m.trees[i].nodes = rawM (m.trees.take (i + 1)) j := by
  unfold rawTo rawM
  rw [List.take_length, List.take_succ_eq_append_getElem h, List.flatMap_append]
  simp
theorem rawW_len (j : Int) (l : List Word) : (rawW j l).length ≤ l.length := List.length_filterMap_le _ _
theorem rawM_len {j : Int} : ∀ {l : List Tree}, (∀ t ∈ l, t.nodes.length ≤ 31) → (rawM l j).length ≤ 31 * l.length
  | [], _ => by simp [rawM]
  | t :: l, h => by
    have h1 := h t (by simp)
    have h2 := rawM_len (j := j) (l := l) fun x hx => h x (by simp [hx])
    have h3 := rawW_len j t.nodes
    unfold rawM at h2 ⊢
    simp only [List.flatMap_cons, List.length_append, List.length_cons]
    omega
theorem iv_append (a b : List Int) : iv (a ++ b) = iv a ++ iv b := by simp [iv]
theorem iv_take (a : List Int) : List.take a.length (iv a) = iv a := List.take_of_length_le (by simp [iv])
@[simp] theorem iv_plain (a : List Int) : (iv a).all AV.plain = true := by simp [iv]
@[simp] theorem iv_cell (a : List Int) : (iv a).all AV.isCell = true := by simp [iv]
theorem iv_enc (a : List Int) : iv a = encL a := by
  induction a with
  | nil => rfl
  | cons x xs ih =>
    have : encL (x :: xs) = .int .i64 x :: encL xs := rfl
    rw [this, ← ih]
    rfl
@[simp] theorem len_iv (a : List Int) : (iv a).length = a.length := iv_len a
def thrRow (m : Model) (j : Int) : List Int := thrL m j ++ List.replicate ((isort (rawM m.trees j)).length - (thrL m j).length) 0
theorem run_Thr (m : Model) (j : Int) (hr : RM m) (g : Nat → Nat) (Q : Post) (hQ : ∀ g' : Nat → Nat, g' 0 = g 0 → Q .ret ⟨[(4, .own 5 (g' 5) 0 (thrL m j).length)], [(5, ⟨iv (thrRow m j), false, 1⟩)], g'⟩) :
    run (tbl [(43, sp1 MRightT), (85, sp1 Unpack), (1000000 + 86, gspec sortF), (1000000 + 87, gspec compF)]) a66.code [] ⟨argEnv 0 [Arg.enc m, Arg.enc j], [], g⟩ Q := by
  unfold a66
  have hM : MRightT m = some true := by unfold MRightT; rw [part_of hr.okMW, rightM_true.2 hr]
  have hle := hr.trees
  have b3 : m.trees.length ≤ maxN := by unfold maxN; omega
  simp -implicitDefEqProofs [hM, b3]
  generalize hg0 : g 0 = g00 at *
  refine run_while (c := c66_36) (fun n s => ∃ (i : Nat) (g : Nat → Nat), i + n = m.trees.length ∧ g 0 = g00 ∧ s = ⟨[(1, .int .i64 j), (5, .own 5 (g 5) 0 (rawM (m.trees.take i) j).length), (16, .lst m.trees.length (encL m.trees)), (17, .int .i64 m.trees.length), (18, .int .i64 i)], [(5, ⟨iv (rawM (m.trees.take i) j), false, 1⟩)], g⟩) m.trees.length ⟨0, bump 5 (bump 2 g), by omega, by simp [hg0], by simp [rawM, iv]⟩ ?_
  rintro n s ⟨i, g, hi, hg1, rfl⟩
  have hlen : ∀ q, (rawM (m.trees.take q) j).length ≤ 31 * 8 := fun q => by
    have h1 := rawM_len (j := j) (l := m.trees.take q) fun t ht => (hr.tree t (List.mem_of_mem_take ht)).2.2.le
    have h2 : (m.trees.take q).length ≤ 8 := by simp; omega
    omega
  by_cases h1 : i < m.trees.length
  case pos =>
    have w1 : IntKind.i64.wrap ((i : Int) + 1) = (i : Int) + 1 := wrap64 (by omega) (by omega)
    have hrow := rd_tree m.trees i h1
    have hrt := hr.rt (List.getElem_mem h1)
    have hnl := hrt.le
    have b4 : m.trees[i].nodes.length ≤ maxN := by unfold maxN; omega
    simp -implicitDefEqProofs [h1, hrow, b4]
    refine run_while (c := c66_26) (fun n s => ∃ (k : Nat) (g : Nat → Nat), k + n = m.trees[i].nodes.length ∧ g 0 = g00 ∧ s = ⟨[(1, .int .i64 j), (5, .own 5 (g 5) 0 (rawTo m j i k m.trees[i].nodes).length), (16, .lst m.trees.length (encL m.trees)), (17, .int .i64 m.trees.length), (18, .int .i64 i), (23, .lst m.trees[i].nodes.length (encL m.trees[i].nodes)), (24, .int .i64 m.trees[i].nodes.length), (25, .int .i64 k)], [(5, ⟨iv (rawTo m j i k m.trees[i].nodes), false, 1⟩)], g⟩) m.trees[i].nodes.length ⟨0, bump 7 g, by omega, by simp [hg1], by simp [rawTo_zero]⟩ ?_
    rintro n2 s ⟨k, g, hk, hg2, rfl⟩
    by_cases h2 : k < m.trees[i].nodes.length
    case pos =>
      have w2 : IntKind.i64.wrap ((k : Int) + 1) = (k : Int) + 1 := wrap64 (by omega) (by omega)
      have hU := unpack_at hrt h2
      have hnd : ndAt m.trees[i].nodes k = nd m.trees[i].nodes[k] := ndAt_lt h2
      have hl2 : (rawTo m j i k m.trees[i].nodes).length ≤ 31 * 8 + 31 := by
        unfold rawTo
        rw [List.length_append]
        have e1 := hlen i
        have e2 := rawW_len j (m.trees[i].nodes.take k)
        have e3 : (m.trees[i].nodes.take k).length ≤ 31 := by simp; omega
        omega
      have n1 : (rawTo m j i k m.trees[i].nodes).length ≤ 1099511627775 := by omega
      rw [hnd] at hU
      by_cases hin : (nd m.trees[i].nodes[k]).leaf = false ∧ (nd m.trees[i].nodes[k]).feature = j
      case pos =>
        have hs := rawTo_some (m := m) (i := i) h2 hin.1 hin.2
        have hs2 : (rawTo m j i (k + 1) m.trees[i].nodes).length = (rawTo m j i k m.trees[i].nodes).length + 1 := by rw [hs]; simp
        have hE : iv (rawTo m j i (k + 1) m.trees[i].nodes) = iv (rawTo m j i k m.trees[i].nodes) ++ [.int .i64 (nd m.trees[i].nodes[k]).cut] := by rw [hs, iv_append]; rfl
        have q1 := hin.1
        have q2 := hin.2
        simp -implicitDefEqProofs [h2, rd_words, hU, w2, q1, q2, n1, iv_take]
        exact ⟨n2 - 1, by omega, k + 1, by omega, _, by simp [hg2], ⟨⟨by simp, by omega⟩, by omega⟩, by rw [hE], rfl⟩
      case neg =>
        have hs := rawTo_none (m := m) (i := i) h2 hin
        cases q1 : (nd m.trees[i].nodes[k]).leaf
        case true =>
          simp -implicitDefEqProofs [h2, rd_words, hU, w2, q1]
          exact ⟨n2 - 1, by omega, k + 1, by omega, _, by simp [hg2], ⟨⟨by simp, by rw [hs]⟩, by omega⟩, by rw [hs], rfl⟩
        case false =>
          have q2 : ¬ (nd m.trees[i].nodes[k]).feature = j := fun e => hin ⟨q1, e⟩
          simp -implicitDefEqProofs [h2, rd_words, hU, w2, q1, q2]
          exact ⟨n2 - 1, by omega, k + 1, by omega, _, by simp [hg2], ⟨⟨by simp, by rw [hs]⟩, by omega⟩, by rw [hs], rfl⟩
    case neg =>
      have hkl : k = m.trees[i].nodes.length := by omega
      subst hkl
      rw [rawTo_all h1]
      simp -implicitDefEqProofs [h2, w1]
      exact ⟨n - 1, by omega, i + 1, by omega, g, hg2, ⟨⟨rfl, rfl⟩, by omega⟩, rfl, rfl⟩
  case neg =>
    have hil : i = m.trees.length := by omega
    subst hil
    have hl := hlen m.trees.length
    rw [List.take_length] at hl ⊢
    have k1 : (rawM m.trees j).length ≤ 1152921504606846976 := by omega
    have hq := hQ g hg1
    simp only [thrRow, thrL, isort_len] at hq
    simp -implicitDefEqProofs [h1, k1, sortF, compF, ints_iv, isort_len, mapM1_nrm, mapM1_up]
    exact hq
theorem thr_len (m : Model) (j : Int) : (thrL m j).length ≤ (rawM m.trees j).length := by
  unfold thrL
  have := compact_le (isort (rawM m.trees j))
  rw [isort_len] at this
  exact this
theorem thrRow_len (m : Model) (j : Int) : (thrRow m j).length = (rawM m.trees j).length := by
  unfold thrRow
  have := thr_len m j
  rw [List.length_append, List.length_replicate, isort_len]
  omega
open Classical in
noncomputable def thrG : GSp := fun args h => match args, h with
  | [x, y], [] => (Arg.dec x : Option Model).bind fun m => (Arg.dec y : Option Int).bind fun j => if RM m then some (.own 2 0 0 (thrL m j).length, [(2, ⟨iv (thrRow m j), false, 1⟩)]) else none
  | _, _ => none
theorem c_ThrG : Contract Tryz.prog (gBase + 66) (gspec thrG) :=
  gcontractN (C := tbl [(43, sp1 MRightT), (85, sp1 Unpack), (1000000 + 86, gspec sortF), (1000000 + 87, gspec compF)]) mixed (tbl_cons c_mRightT (tbl_cons c_Unpack (tbl_cons c_Sort (tbl_cons c_Compact tbl_nil)))) Tryz.func66 m66 fun args h r h' hs => by
    unfold thrG at hs
    split at hs
    · rename_i x y
      rw [Option.bind_eq_some_iff] at hs
      obtain ⟨m, hm, hs⟩ := hs
      rw [Option.bind_eq_some_iff] at hs
      obtain ⟨j, hj, hs⟩ := hs
      split at hs
      · rename_i hr
        simp only [Option.some.injEq, Prod.mk.injEq] at hs
        obtain ⟨rfl, rfl⟩ := hs
        obtain rfl := Arg.enc_dec _ _ hm
        obtain rfl := Arg.enc_dec _ _ hj
        refine ⟨rfl, false, some 5, run_Thr m j hr _ _ fun g' hg' => ?_⟩
        unfold a66
        simp -implicitDefEqProofs [mapM1_nrm, hg']
      · cases hs
    · cases hs
end Go.Co
/- CO: cuts of a box, how many cells. -/
set_option maxHeartbeats 16000000
set_option maxRecDepth 100000
namespace Go.Co
open Go.Am Go.Proofs
attribute [-simp] Go.Am.eff_gcall
def c64_0 : ACode := .ops [⟨some 2, .box (.t 0) 17, none, []⟩,⟨some 4, .mv (.c (.int .i64 0)), none, []⟩] [1, 2]
theorem r64_0 : type_of% (rr c64_0.eq_1) := rr rfl
def c64_1 : ACode := .ops [⟨some 6, .mv (.t 1), none, []⟩,⟨some 7, .bin .geq (.t 6) (.c (.int .i64 0)), none, []⟩,⟨some 8, .mv (.t 7), none, []⟩,⟨some 9, .mv (.t 1), some (8, true), []⟩,⟨some 10, .bin .lss (.t 9) (.c (.int .i64 4)), some (8, true), []⟩,⟨some 11, .pick (.t 8) (.t 10) (.c (.bool false)), none, []⟩,⟨some 5, .mv (.t 11), none, []⟩] [1, 2, 5]
theorem r64_1 : type_of% (rr c64_1.eq_1) := rr rfl
def c64_2 : ACode := .ops [⟨some 12, .mv (.t 1), none, []⟩,⟨some 4, .mv (.t 12), none, []⟩] [4]
theorem r64_2 : type_of% (rr c64_2.eq_1) := rr rfl
def c64_3 : ACode := .seq c64_2 .ret
theorem r64_3 : type_of% (rr c64_3.eq_1) := rr rfl
def c64_4 : ACode := .ops [⟨some 14, .mv (.t 1), none, []⟩,⟨some 15, .bin .eql (.t 14) (.c (.int .i64 4)), none, []⟩,⟨some 16, .mv (.t 15), none, []⟩,⟨some 17, .fad (.t 2) 0, some (16, true), [2]⟩,⟨some 18, .load 1 false (.t 17), some (16, true), [2]⟩,⟨some 19, .bin .eql (.t 18) (.c (.int .i64 3)), some (16, true), []⟩,⟨some 20, .pick (.t 16) (.t 19) (.c (.bool false)), none, []⟩,⟨some 13, .mv (.t 20), none, []⟩] [2, 13]
theorem r64_4 : type_of% (rr c64_4.eq_1) := rr rfl
def c64_5 : ACode := .ops [⟨some 21, .fad (.t 2) 14, none, [2]⟩,⟨some 22, .load 1 false (.t 21), none, [2]⟩,⟨some 4, .mv (.t 22), none, []⟩] [4]
theorem r64_5 : type_of% (rr c64_5.eq_1) := rr rfl
def c64_6 : ACode := .seq c64_5 .ret
theorem r64_6 : type_of% (rr c64_6.eq_1) := rr rfl
def c64_7 : ACode := .cond (.t 13) c64_6 .skip
theorem r64_7 : type_of% (rr c64_7.eq_1) := rr rfl
def c64_8 : ACode := .seq c64_4 c64_7
theorem r64_8 : type_of% (rr c64_8.eq_1) := rr rfl
def c64_9 : ACode := .cond (.t 5) c64_3 c64_8
theorem r64_9 : type_of% (rr c64_9.eq_1) := rr rfl
def c64_10 : ACode := .seq c64_1 c64_9
theorem r64_10 : type_of% (rr c64_10.eq_1) := rr rfl
def c64_11 : ACode := .block 0 c64_10
theorem r64_11 : type_of% (rr c64_11.eq_1) := rr rfl
def c64_12 : ACode := .ops [⟨some 4, .mv (.c (.int .i64 (-1))), none, []⟩] [4]
theorem r64_12 : type_of% (rr c64_12.eq_1) := rr rfl
def c64_13 : ACode := .seq c64_12 .ret
theorem r64_13 : type_of% (rr c64_13.eq_1) := rr rfl
def c64_14 : ACode := .seq c64_11 c64_13
theorem r64_14 : type_of% (rr c64_14.eq_1) := rr rfl
def c64_15 : ACode := .seq c64_0 c64_14
theorem r64_15 : type_of% (rr c64_15.eq_1) := rr rfl
def a64 : AFun := ⟨2, 23, c64_15, [.t 4]⟩
attribute [simp] r64_0 r64_1 r64_2 r64_3 r64_4 r64_5 r64_6 r64_7 r64_8 r64_9 r64_10 r64_11 r64_12 r64_13 r64_14 r64_15
theorem m64 : mFun Tryz.prog Tryz.f64 a64 = true := by decide +kernel
def c67_0 : ACode := .ops [⟨some 3, .mv (.c (.bool false)), none, []⟩] [0, 1]
theorem r67_0 : type_of% (rr c67_0.eq_1) := rr rfl
def c67_1 : ACode := .ops [⟨some 4, .mv (.t 0), none, []⟩,⟨some 5, .fad (.t 1) 0, none, []⟩,⟨some 6, .load 1 false (.t 5), none, []⟩,⟨some 7, .bin .lss (.t 4) (.t 6), none, []⟩,⟨some 8, .mv (.t 7), none, []⟩,⟨some 9, .mv (.t 0), some (8, false), []⟩,⟨some 10, .fad (.t 1) 1, some (8, false), []⟩,⟨some 11, .load 1 false (.t 10), some (8, false), []⟩,⟨some 12, .bin .geq (.t 9) (.t 11), some (8, false), []⟩,⟨some 13, .pick (.t 8) (.c (.bool true)) (.t 12), none, []⟩,⟨some 3, .mv (.t 13), none, []⟩] [3]
theorem r67_1 : type_of% (rr c67_1.eq_1) := rr rfl
def c67_2 : ACode := .seq c67_1 .ret
theorem r67_2 : type_of% (rr c67_2.eq_1) := rr rfl
def c67_3 : ACode := .seq c67_0 c67_2
theorem r67_3 : type_of% (rr c67_3.eq_1) := rr rfl
def a67 : AFun := ⟨2, 14, c67_3, [.t 3]⟩
attribute [simp] r67_0 r67_1 r67_2 r67_3
theorem m67 : mFun Tryz.prog Tryz.f67 a67 = true := by decide +kernel
def c84_0 : ACode := .ops [⟨some 4, .mv (.c (.int .i64 0)), none, []⟩] [0, 1]
theorem r84_0 : type_of% (rr c84_0.eq_1) := rr rfl
def c84_1 : ACode := .ops [⟨some 6, .mv (.t 0), none, []⟩,⟨some 7, .len (.t 6), none, [0]⟩,⟨some 8, .mv (.c (.int .i64 0)), none, []⟩] [0, 1, 7, 8]
theorem r84_1 : type_of% (rr c84_1.eq_1) := rr rfl
def c84_2 : ACode := .ops [⟨some 9, .bin .lss (.t 8) (.t 7), none, []⟩] [0, 1, 7, 8, 9]
theorem r84_2 : type_of% (rr c84_2.eq_1) := rr rfl
def c84_3 : ACode := .cond (.t 9) .skip (.exit 0)
theorem r84_3 : type_of% (rr c84_3.eq_1) := rr rfl
def c84_4 : ACode := .ops [⟨some 10, .mv (.t 8), none, []⟩,⟨some 5, .mv (.t 10), none, []⟩] [0, 1, 5, 7, 8]
theorem r84_4 : type_of% (rr c84_4.eq_1) := rr rfl
def c84_5 : ACode := .ops [⟨some 11, .mv (.t 1), none, []⟩,⟨some 12, .mv (.t 0), none, []⟩,⟨some 13, .mv (.t 5), none, []⟩,⟨some 14, .ias (.t 12) (.t 13) 1, none, [0]⟩,⟨some 15, .load 1 false (.t 14), none, [0]⟩,⟨some 16, .dyn (.t 11) [.t 15], none, []⟩] [0, 1, 5, 7, 8, 16]
theorem r84_5 : type_of% (rr c84_5.eq_1) := rr rfl
def c84_6 : ACode := .ops [⟨some 17, .mv (.t 5), none, []⟩,⟨some 4, .mv (.t 17), none, []⟩] [4]
theorem r84_6 : type_of% (rr c84_6.eq_1) := rr rfl
def c84_7 : ACode := .seq c84_6 .ret
theorem r84_7 : type_of% (rr c84_7.eq_1) := rr rfl
def c84_8 : ACode := .cond (.t 16) c84_7 .skip
theorem r84_8 : type_of% (rr c84_8.eq_1) := rr rfl
def c84_9 : ACode := .seq c84_5 c84_8
theorem r84_9 : type_of% (rr c84_9.eq_1) := rr rfl
def c84_10 : ACode := .seq c84_4 c84_9
theorem r84_10 : type_of% (rr c84_10.eq_1) := rr rfl
def c84_11 : ACode := .block 1 c84_10
theorem r84_11 : type_of% (rr c84_11.eq_1) := rr rfl
def c84_12 : ACode := .ops [⟨some 18, .bin .add (.t 8) (.c (.int .i64 1)), none, []⟩,⟨some 8, .mv (.t 18), none, []⟩] [0, 1, 7, 8]
theorem r84_12 : type_of% (rr c84_12.eq_1) := rr rfl
def c84_13 : ACode := .seq c84_11 c84_12
theorem r84_13 : type_of% (rr c84_13.eq_1) := rr rfl
def c84_14 : ACode := .seq c84_3 c84_13
theorem r84_14 : type_of% (rr c84_14.eq_1) := rr rfl
def c84_15 : ACode := .seq c84_2 c84_14
theorem r84_15 : type_of% (rr c84_15.eq_1) := rr rfl
def c84_16 : ACode := .keep [0, 1, 7, 8] [0] c84_15
theorem r84_16 : type_of% (rr c84_16.eq_1) := rr rfl
def c84_17 : ACode := .loop c84_16
theorem r84_17 : type_of% (rr c84_17.eq_1) := rr rfl
def c84_18 : ACode := .block 0 c84_17
theorem r84_18 : type_of% (rr c84_18.eq_1) := rr rfl
def c84_19 : ACode := .seq c84_1 c84_18
theorem r84_19 : type_of% (rr c84_19.eq_1) := rr rfl
def c84_20 : ACode := .ops [⟨some 4, .mv (.c (.int .i64 (-1))), none, []⟩] [4]
theorem r84_20 : type_of% (rr c84_20.eq_1) := rr rfl
def c84_21 : ACode := .seq c84_20 .ret
theorem r84_21 : type_of% (rr c84_21.eq_1) := rr rfl
def c84_22 : ACode := .seq c84_19 c84_21
theorem r84_22 : type_of% (rr c84_22.eq_1) := rr rfl
def c84_23 : ACode := .seq c84_0 c84_22
theorem r84_23 : type_of% (rr c84_23.eq_1) := rr rfl
def a84 : AFun := ⟨2, 19, c84_23, [.t 4]⟩
attribute [simp] r84_0 r84_1 r84_2 r84_3 r84_4 r84_5 r84_6 r84_7 r84_8 r84_9 r84_10 r84_11 r84_12 r84_13 r84_14 r84_15 r84_16 r84_17 r84_18 r84_19 r84_20 r84_21 r84_22 r84_23
theorem m84 : mFun Tryz.prog Tryz.f84 a84 = true := by decide +kernel
def c65_0 : ACode := .ops [⟨some 4, .mv (.c (.nils)), none, []⟩] [0, 1]
theorem r65_0 : type_of% (rr c65_0.eq_1) := rr rfl
def c65_1 : ACode := .ops [⟨some 8, .mv (.t 0), none, []⟩,⟨some 9, .mv (.t 1), none, []⟩,⟨some 10, .gcall 84 [.t 8, .t 9] [0] 0, none, [0]⟩,⟨some 5, .mv (.t 10), none, []⟩] [0, 1, 5]
theorem r65_1 : type_of% (rr c65_1.eq_1) := rr rfl
def c65_2 : ACode := .ops [⟨some 11, .mv (.t 5), none, []⟩,⟨some 12, .bin .eql (.t 11) (.c (.int .i64 (-1))), none, []⟩] [0, 1, 5, 12]
theorem r65_2 : type_of% (rr c65_2.eq_1) := rr rfl
def c65_3 : ACode := .ops [⟨some 13, .mv (.t 0), none, []⟩,⟨some 4, .mv (.t 13), none, []⟩] [4]
theorem r65_3 : type_of% (rr c65_3.eq_1) := rr rfl
def c65_4 : ACode := .seq c65_3 .ret
theorem r65_4 : type_of% (rr c65_4.eq_1) := rr rfl
def c65_5 : ACode := .cond (.t 12) c65_4 .skip
theorem r65_5 : type_of% (rr c65_5.eq_1) := rr rfl
def c65_6 : ACode := .seq c65_2 c65_5
theorem r65_6 : type_of% (rr c65_6.eq_1) := rr rfl
def c65_7 : ACode := .ops [⟨some 14, .mv (.t 5), none, []⟩,⟨some 15, .bin .add (.t 14) (.c (.int .i64 1)), none, []⟩,⟨some 6, .mv (.t 15), none, []⟩] [0, 1, 5, 6]
theorem r65_7 : type_of% (rr c65_7.eq_1) := rr rfl
def c65_8 : ACode := .ops [⟨some 16, .mv (.t 6), none, []⟩,⟨some 17, .mv (.t 0), none, []⟩,⟨some 18, .len (.t 17), none, [0]⟩,⟨some 19, .bin .lss (.t 16) (.t 18), none, []⟩] [0, 1, 5, 6, 19]
theorem r65_8 : type_of% (rr c65_8.eq_1) := rr rfl
def c65_9 : ACode := .cond (.t 19) .skip (.exit 0)
theorem r65_9 : type_of% (rr c65_9.eq_1) := rr rfl
def c65_10 : ACode := .seq c65_8 c65_9
theorem r65_10 : type_of% (rr c65_10.eq_1) := rr rfl
def c65_11 : ACode := .ops [⟨some 22, .mv (.t 0), none, []⟩,⟨some 23, .mv (.t 6), none, []⟩,⟨some 24, .ias (.t 22) (.t 23) 1, none, [0]⟩,⟨some 25, .load 1 false (.t 24), none, [0]⟩,⟨some 7, .mv (.t 25), none, []⟩] [0, 1, 5, 6, 7]
theorem r65_11 : type_of% (rr c65_11.eq_1) := rr rfl
def c65_12 : ACode := .ops [⟨some 26, .mv (.t 1), none, []⟩,⟨some 27, .mv (.t 7), none, []⟩,⟨some 28, .dyn (.t 26) [.t 27], none, []⟩,⟨some 29, .un .not (.t 28), none, []⟩] [0, 1, 5, 6, 7, 29]
theorem r65_12 : type_of% (rr c65_12.eq_1) := rr rfl
def c65_13 : ACode := .ops [⟨some 30, .mv (.t 0), none, []⟩,⟨some 31, .mv (.t 5), none, []⟩,⟨some 32, .mv (.t 7), none, []⟩,⟨some 33, .ias (.t 30) (.t 31) 1, none, [0]⟩,⟨none, .store (.t 33) 1 (.t 32), none, [0]⟩] [0, 1, 5, 6]
theorem r65_13 : type_of% (rr c65_13.eq_1) := rr rfl
def c65_14 : ACode := .ops [⟨some 34, .mv (.t 5), none, []⟩,⟨some 35, .bin .add (.t 34) (.c (.int .i64 1)), none, []⟩,⟨some 5, .mv (.t 35), none, []⟩] [0, 1, 5, 6]
theorem r65_14 : type_of% (rr c65_14.eq_1) := rr rfl
def c65_15 : ACode := .seq c65_13 c65_14
theorem r65_15 : type_of% (rr c65_15.eq_1) := rr rfl
def c65_16 : ACode := .cond (.t 29) c65_15 .skip
theorem r65_16 : type_of% (rr c65_16.eq_1) := rr rfl
def c65_17 : ACode := .seq c65_12 c65_16
theorem r65_17 : type_of% (rr c65_17.eq_1) := rr rfl
def c65_18 : ACode := .seq c65_11 c65_17
theorem r65_18 : type_of% (rr c65_18.eq_1) := rr rfl
def c65_19 : ACode := .block 1 c65_18
theorem r65_19 : type_of% (rr c65_19.eq_1) := rr rfl
def c65_20 : ACode := .ops [⟨some 20, .mv (.t 6), none, []⟩,⟨some 21, .bin .add (.t 20) (.c (.int .i64 1)), none, []⟩,⟨some 6, .mv (.t 21), none, []⟩] [0, 1, 5, 6]
theorem r65_20 : type_of% (rr c65_20.eq_1) := rr rfl
def c65_21 : ACode := .seq c65_19 c65_20
theorem r65_21 : type_of% (rr c65_21.eq_1) := rr rfl
def c65_22 : ACode := .seq c65_10 c65_21
theorem r65_22 : type_of% (rr c65_22.eq_1) := rr rfl
def c65_23 : ACode := .keep [0, 1, 5, 6] [0] c65_22
theorem r65_23 : type_of% (rr c65_23.eq_1) := rr rfl
def c65_24 : ACode := .loop c65_23
theorem r65_24 : type_of% (rr c65_24.eq_1) := rr rfl
def c65_25 : ACode := .block 0 c65_24
theorem r65_25 : type_of% (rr c65_25.eq_1) := rr rfl
def c65_26 : ACode := .seq c65_7 c65_25
theorem r65_26 : type_of% (rr c65_26.eq_1) := rr rfl
def c65_27 : ACode := .ops [⟨some 36, .mv (.t 0), none, []⟩,⟨some 37, .mv (.t 5), none, []⟩,⟨some 38, .sl (.t 36) (some (.t 37)) none 1, none, [0]⟩,⟨none, .clear (.t 38) 1 [.int .i64 0], none, [0]⟩] [0, 5]
theorem r65_27 : type_of% (rr c65_27.eq_1) := rr rfl
def c65_28 : ACode := .ops [⟨some 39, .mv (.t 0), none, []⟩,⟨some 40, .mv (.t 5), none, []⟩,⟨some 41, .sl (.t 39) none (some (.t 40)) 1, none, [0]⟩,⟨some 4, .mv (.t 41), none, []⟩] [4]
theorem r65_28 : type_of% (rr c65_28.eq_1) := rr rfl
def c65_29 : ACode := .seq c65_28 .ret
theorem r65_29 : type_of% (rr c65_29.eq_1) := rr rfl
def c65_30 : ACode := .seq c65_27 c65_29
theorem r65_30 : type_of% (rr c65_30.eq_1) := rr rfl
def c65_31 : ACode := .seq c65_26 c65_30
theorem r65_31 : type_of% (rr c65_31.eq_1) := rr rfl
def c65_32 : ACode := .seq c65_6 c65_31
theorem r65_32 : type_of% (rr c65_32.eq_1) := rr rfl
def c65_33 : ACode := .seq c65_1 c65_32
theorem r65_33 : type_of% (rr c65_33.eq_1) := rr rfl
def c65_34 : ACode := .seq c65_0 c65_33
theorem r65_34 : type_of% (rr c65_34.eq_1) := rr rfl
def a65 : AFun := ⟨2, 42, c65_34, [.t 4]⟩
attribute [simp] r65_0 r65_1 r65_2 r65_3 r65_4 r65_5 r65_6 r65_7 r65_8 r65_9 r65_10 r65_11 r65_12 r65_13 r65_14 r65_15 r65_16 r65_17 r65_18 r65_19 r65_20 r65_21 r65_22 r65_23 r65_24 r65_25 r65_26 r65_27 r65_28 r65_29 r65_30 r65_31 r65_32 r65_33 r65_34
theorem m65 : mFun Tryz.prog Tryz.f65 a65 = true := by decide +kernel
def c37_0 : ACode := .ops [⟨some 4, .box (.t 0) 6, none, []⟩,⟨some 5, .box (.t 1) 17, none, []⟩,⟨some 6, .box (.t 2) 10, none, []⟩,⟨some 8, .mv (.c (.nils)), none, []⟩] [3, 4, 5, 6]
theorem r37_0 : type_of% (rr c37_0.eq_1) := rr rfl
def c37_1 : ACode := .ops [⟨some 11, .load 17 true (.t 5), none, [5]⟩,⟨some 12, .mv (.t 3), none, []⟩,⟨some 13, .call 64 [.t 11, .t 12], none, []⟩,⟨some 9, .mv (.t 13), none, []⟩] [3, 4, 6, 9]
theorem r37_1 : type_of% (rr c37_1.eq_1) := rr rfl
def c37_2 : ACode := .ops [⟨some 14, .mv (.t 9), none, []⟩,⟨some 15, .bin .lss (.t 14) (.c (.int .i64 0)), none, []⟩] [3, 4, 6, 9, 15]
theorem r37_2 : type_of% (rr c37_2.eq_1) := rr rfl
def c37_3 : ACode := .ops [⟨some 8, .mv (.c (.nils)), none, []⟩] [8]
theorem r37_3 : type_of% (rr c37_3.eq_1) := rr rfl
def c37_4 : ACode := .seq c37_3 .ret
theorem r37_4 : type_of% (rr c37_4.eq_1) := rr rfl
def c37_5 : ACode := .cond (.t 15) c37_4 .skip
theorem r37_5 : type_of% (rr c37_5.eq_1) := rr rfl
def c37_6 : ACode := .seq c37_2 c37_5
theorem r37_6 : type_of% (rr c37_6.eq_1) := rr rfl
def c37_7 : ACode := .ops [⟨some 16, .mv (.t 3), none, []⟩,⟨some 17, .iad (.t 6) (.t 16) 2 5, none, [6]⟩,⟨some 18, .load 2 true (.t 17), none, [6]⟩,⟨some 10, .alloc [.int .i64 0, .int .i64 0], none, []⟩,⟨none, .store (.t 10) 2 (.t 18), none, [10]⟩] [4, 9, 10]
theorem r37_7 : type_of% (rr c37_7.eq_1) := rr rfl
def c37_8 : ACode := .ops [⟨some 19, .load 6 true (.t 4), none, [4]⟩,⟨some 20, .mv (.t 9), none, []⟩,⟨some 21, .gcall 66 [.t 19, .t 20] [] 21, none, []⟩,⟨some 22, .clo 67 [.t 10], none, [10]⟩,⟨some 23, .gcall 65 [.t 21, .t 22] [21] 21, none, [21]⟩,⟨some 8, .mv (.t 23), none, []⟩] [8]
theorem r37_8 : type_of% (rr c37_8.eq_1) := rr rfl
def c37_9 : ACode := .seq c37_8 .ret
theorem r37_9 : type_of% (rr c37_9.eq_1) := rr rfl
def c37_10 : ACode := .seq c37_7 c37_9
theorem r37_10 : type_of% (rr c37_10.eq_1) := rr rfl
def c37_11 : ACode := .seq c37_6 c37_10
theorem r37_11 : type_of% (rr c37_11.eq_1) := rr rfl
def c37_12 : ACode := .seq c37_1 c37_11
theorem r37_12 : type_of% (rr c37_12.eq_1) := rr rfl
def c37_13 : ACode := .seq c37_0 c37_12
theorem r37_13 : type_of% (rr c37_13.eq_1) := rr rfl
def a37 : AFun := ⟨4, 24, c37_13, [.t 8]⟩
attribute [simp] r37_0 r37_1 r37_2 r37_3 r37_4 r37_5 r37_6 r37_7 r37_8 r37_9 r37_10 r37_11 r37_12 r37_13
theorem m37 : mFun Tryz.prog Tryz.f37 a37 = true := by decide +kernel
def featOf (q : Query) (place : Int) : Int := if 0 ≤ place ∧ place < 4 then place else if place = 4 ∧ q.kind = 3 then q.feature else -1
noncomputable def FeatC (q : Query) (place : Int) : Option Int := Part True (featOf q place)
theorem runs_feature (q : Query) (place : Int) (r : Int) (h : FeatC q place = some r) : Runs (tbl []) a64 [Arg.enc q, Arg.enc place] (Arg.enc r) := by
  obtain ⟨_, rfl⟩ := part_some h
  clear h
  refine ⟨rfl, fun g => run_def ?_⟩
  unfold a64 featOf
  by_cases h1 : 0 ≤ place
  · by_cases h2 : place < 4
    · simp -implicitDefEqProofs [h1, h2]
    · by_cases h3 : place = 4
      · subst h3
        by_cases h4 : q.kind = 3
        · simp -implicitDefEqProofs [h4]
        · simp -implicitDefEqProofs [h4]
      · simp -implicitDefEqProofs [h1, h2, h3]
  · by_cases h3 : place = 4
    · omega
    · simp -implicitDefEqProofs [h1, h3]
theorem c_feature : Contract Tryz.prog 64 (sp2 FeatC) :=
  contract_of_runs mixed tbl_nil Tryz.func64 m64 (sp2_runs runs_feature)
def outS (s : Span) (t : Int) : Bool := decide (t < s.lo) || decide (s.hi ≤ t)
@[simp] theorem dec_ref_span (lo hi : Int) : (Arg.dec (.ipt 0 [.int .i64 lo, .int .i64 hi]) : Option (Ref Span)) = some ⟨⟨lo, hi⟩⟩ := Arg.dec_enc (⟨⟨lo, hi⟩⟩ : Ref Span)
noncomputable def outR (t : Int) (s : Ref Span) : Option Bool := Part True (outS s.v t)
theorem runs_Cuts1 (t : Int) (s : Ref Span) (r : Bool) (h : outR t s = some r) : Runs (tbl []) a67 [Arg.enc t, Arg.enc s] (Arg.enc r) := by
  obtain ⟨_, rfl⟩ := part_some h
  clear h
  obtain ⟨s⟩ := s
  refine ⟨rfl, fun g => run_def ?_⟩
  unfold a67 outS
  by_cases h1 : t < s.lo
  · simp -implicitDefEqProofs [h1]
  · simp -implicitDefEqProofs [h1]
theorem c_Cuts1 : Contract Tryz.prog 67 (sp2 outR) :=
  contract_of_runs mixed tbl_nil Tryz.func67 m67 (sp2_runs runs_Cuts1)
theorem rd_iv (zs : List Int) (i : Nat) (h : i < zs.length) : rd (iv zs) i 1 false = some (.int .i64 zs[i]) := by rw [iv_enc]; exact rd_ints zs i h
theorem wr_iv (zs : List Int) (i : Nat) (h : i < zs.length) (x : Int) : wr (iv zs) i [.int .i64 x] = iv (zs.set i x) := by rw [iv_enc, iv_enc]; exact wr_ints zs i h x
def idxG : GSp := fun args h => match args, h with
  | [.own 0 0 0 n, .clo 67 [.ipt 0 [.int .i64 lo, .int .i64 hi]]], [(0, k)] => if k.esz = 1 ∧ k.frz = false ∧ n ≤ 1099511627776 then (ints k.cs).bind fun zs => if n ≤ zs.length then some (.int .i64 (idxF (outS ⟨lo, hi⟩) (zs.take n)), [(0, k)]) else none else none
  | _, _ => none
theorem run_idx (n : Nat) (lo hi : Int) (zs : List Int) (hn : n ≤ zs.length) (hb : n ≤ 1099511627776) (g : Nat → Nat) (hg : g 0 = 0) :
    run (tbl [(67, sp2 outR)]) a84.code [] ⟨argEnv 0 [.own 0 0 0 n, .clo 67 [.ipt 0 [.int .i64 lo, .int .i64 hi]]], [(0, ⟨iv zs, false, 1⟩)], g⟩
      (gfinN a84.res true none (.int .i64 (idxF (outS ⟨lo, hi⟩) (zs.take n))) [(0, ⟨iv zs, false, 1⟩)]) := by
  unfold a84
  have b3 : n ≤ maxN := by unfold maxN; omega
  simp -implicitDefEqProofs [hg, b3]
  refine run_while (c := c84_15) (fun m s => ∃ (i : Nat) (g : Nat → Nat), i + m = n ∧ g 0 = 0 ∧ (∀ (j : Nat) (hj : j < zs.length), j < i → outS ⟨lo, hi⟩ zs[j] = false) ∧ s = ⟨[(0, .own 0 0 0 n), (1, .clo 67 [.ipt 0 [.int .i64 lo, .int .i64 hi]]), (7, .int .i64 n), (8, .int .i64 i)], [(0, ⟨iv zs, false, 1⟩)], g⟩) n ⟨0, g, by omega, hg, fun j _ h => by omega, by simp⟩ ?_
  rintro m s ⟨i, g, hi2, hg, hno, rfl⟩
  have htl : (zs.take n).length = n := by simp; omega
  by_cases h1 : i < n
  case pos =>
    have w1 : IntKind.i64.wrap ((i : Int) + 1) = (i : Int) + 1 := wrap64 (by omega) (by omega)
    have hlt : i < zs.length := by omega
    have hrow := rd_iv zs i hlt
    have hR : outR zs[i] ⟨⟨lo, hi⟩⟩ = some (outS ⟨lo, hi⟩ zs[i]) := part_of trivial _
    cases hb2 : outS ⟨lo, hi⟩ zs[i]
    case false =>
      rw [hb2] at hR
      simp -implicitDefEqProofs [h1, hg, hrow, hR, w1]
      have hno2 : ∀ (j : Nat) (hj : j < zs.length), j < i + 1 → outS ⟨lo, hi⟩ zs[j] = false := fun j hj hji => by
        by_cases e : j = i
        · subst e; exact hb2
        · exact hno j hj (by omega)
      exact ⟨m - 1, by omega, i + 1, by omega, g, hg, hno2, by simp⟩
    case true =>
      rw [hb2] at hR
      have hidx : idxF (outS ⟨lo, hi⟩) (zs.take n) = i := by
        have hlt2 : i < (zs.take n).length := by rw [htl]; exact h1
        have : (zs.take n).findIdx (outS ⟨lo, hi⟩) = i := (List.findIdx_eq hlt2).2 ⟨by rw [List.getElem_take]; exact hb2, fun j hj => by rw [List.getElem_take]; exact hno j (by omega) hj⟩
        unfold idxF
        rw [this, if_pos hlt2]
      simp -implicitDefEqProofs [h1, hg, hrow, hR, w1, hidx, mapM1_nrm]
  case neg =>
    have hidx : idxF (outS ⟨lo, hi⟩) (zs.take n) = -1 := by
      have : (zs.take n).findIdx (outS ⟨lo, hi⟩) = (zs.take n).length := List.findIdx_eq_length.2 fun x hx => by
        obtain ⟨j, hj, rfl⟩ := List.mem_iff_getElem.1 hx
        rw [List.getElem_take]
        exact hno j (by omega) (by omega)
      unfold idxF
      rw [this, if_neg (by omega)]
    simp -implicitDefEqProofs [h1, hg, hidx, mapM1_nrm]
theorem c_idxG : Contract Tryz.prog (gBase + 84) (gspec idxG) :=
  gcontractN (C := tbl [(67, sp2 outR)]) mixed (tbl_cons c_Cuts1 tbl_nil) Tryz.func84 m84 fun args h r h' hs => by
    unfold idxG at hs
    split at hs
    · rename_i n lo hi k
      split at hs
      · rename_i hc
        obtain ⟨he, hf, hb⟩ := hc
        rw [Option.bind_eq_some_iff] at hs
        obtain ⟨zs, hz, hs⟩ := hs
        split at hs
        · rename_i hn
          simp only [Option.some.injEq, Prod.mk.injEq] at hs
          obtain ⟨rfl, rfl⟩ := hs
          obtain ⟨cs, fz, e⟩ := k
          simp only at he hf hz
          subst he hf
          rw [iv_of_ints hz]
          exact ⟨rfl, true, none, run_idx n lo hi zs hn hb _ rfl⟩
        · cases hs
      · cases hs
    · cases hs
def delG : GSp := fun args h => match args, h with
  | [.own 0 0 0 n, .clo 67 [.ipt 0 [.int .i64 lo, .int .i64 hi]]], [(0, k)] => if k.esz = 1 ∧ k.frz = false ∧ n ≤ 1099511627776 then (ints k.cs).bind fun zs => if n ≤ zs.length then
      some (.own 0 0 0 ((zs.take n).filter fun t => !outS ⟨lo, hi⟩ t).length, [(0, ⟨iv (((zs.take n).filter fun t => !outS ⟨lo, hi⟩ t) ++ List.replicate (n - ((zs.take n).filter fun t => !outS ⟨lo, hi⟩ t).length) 0 ++ zs.drop n), false, 1⟩)]) else none else none
  | _, _ => none
def keepF (s : Span) (zs : List Int) (j : Nat) : List Int := (zs.take j).filter fun t => !outS s t
theorem keepF_le (s : Span) (zs : List Int) (j : Nat) : (keepF s zs j).length ≤ j := by
  unfold keepF
  exact Nat.le_trans (List.length_filter_le _ _) (List.length_take_le j zs)
theorem keepF_out {s : Span} {zs : List Int} {j : Nat} (h : j < zs.length) (ho : outS s zs[j] = true) : keepF s zs (j + 1) = keepF s zs j := by
  unfold keepF
  rw [List.take_succ_eq_append_getElem h, List.filter_append]
  simp [ho]
theorem keepF_in {s : Span} {zs : List Int} {j : Nat} (h : j < zs.length) (ho : outS s zs[j] = false) : keepF s zs (j + 1) = keepF s zs j ++ [zs[j]] := by
  unfold keepF
  rw [List.take_succ_eq_append_getElem h, List.filter_append]
  simp [ho]
def delRow (s : Span) (zs : List Int) (j : Nat) : List Int := keepF s zs j ++ zs.drop (keepF s zs j).length
theorem delRow_len (s : Span) (zs : List Int) {j : Nat} (h : j ≤ zs.length) : (delRow s zs j).length = zs.length := by
  unfold delRow
  have := keepF_le s zs j
  rw [List.length_append, List.length_drop]
  omega
theorem delRow_get (s : Span) (zs : List Int) {j : Nat} (h : j < zs.length) : (delRow s zs j)[j]? = some zs[j] := by
  unfold delRow
  have := keepF_le s zs j
  rw [List.getElem?_append_right (by omega), List.getElem?_drop]
  rw [show (keepF s zs j).length + (j - (keepF s zs j).length) = j by omega]
  simp [h]
theorem delRow_in {s : Span} {zs : List Int} {j : Nat} (h : j < zs.length) (ho : outS s zs[j] = false) : delRow s zs (j + 1) = (delRow s zs j).set (keepF s zs j).length zs[j] := by
  have hk := keepF_le s zs j
  unfold delRow
  rw [keepF_in h ho]
  rw [List.set_append_right _ _ (by omega), Nat.sub_self, List.append_assoc]
  congr 1
  have hd : zs.drop (keepF s zs j).length = zs[(keepF s zs j).length]'(by omega) :: zs.drop ((keepF s zs j).length + 1) := List.drop_eq_getElem_cons (by omega)
  rw [hd]
  simp only [List.length_append, List.length_cons, List.length_nil, List.set_cons_zero, List.singleton_append, Nat.zero_add]
theorem keepF_none {s : Span} {zs : List Int} : ∀ {j : Nat}, j ≤ zs.length → (∀ (i : Nat) (h : i < zs.length), i < j → outS s zs[i] = false) → keepF s zs j = zs.take j
  | 0, _, _ => by simp [keepF]
  | j + 1, hj, h => by
    rw [keepF_in (by omega) (h j (by omega) (by omega)), keepF_none (by omega) (fun i hi hij => h i hi (by omega)), List.take_succ_eq_append_getElem (by omega)]
theorem delRow_none {s : Span} {zs : List Int} {j : Nat} (hj : j ≤ zs.length) (h : ∀ (i : Nat) (h : i < zs.length), i < j → outS s zs[i] = false) : delRow s zs j = zs := by
  unfold delRow
  rw [keepF_none hj h, List.length_take, Nat.min_eq_left hj, List.take_append_drop]
theorem idxF_spec {α : Type} {p : α → Bool} {l : List α} : (idxF p l = -1 ∧ ∀ x ∈ l, p x = false) ∨ ∃ (i : Nat) (h : i < l.length), idxF p l = i ∧ p l[i] = true ∧ ∀ (j : Nat) (hj : j < l.length), j < i → p l[j] = false := by
  unfold idxF
  by_cases h : l.findIdx p < l.length
  · rw [if_pos h]
    obtain ⟨h1, h2⟩ := (List.findIdx_eq h).1 rfl
    exact .inr ⟨_, h, rfl, h1, fun j hj hji => h2 j hji⟩
  · rw [if_neg h]
    exact .inl ⟨rfl, List.findIdx_eq_length.1 (by have := List.findIdx_le_length (p := p) (xs := l); omega)⟩
theorem run_del (n : Nat) (lo hi : Int) (zs : List Int) (hn : n ≤ zs.length) (hb : n ≤ 1099511627776) (g : Nat → Nat) (hg : g 0 = 0) :
    run (tbl [(67, sp2 outR), (1000000 + 84, gspec idxG)]) a65.code [] ⟨argEnv 0 [.own 0 0 0 n, .clo 67 [.ipt 0 [.int .i64 lo, .int .i64 hi]]], [(0, ⟨iv zs, false, 1⟩)], g⟩
      (gfinN a65.res true none (.own 0 0 0 (keepF ⟨lo, hi⟩ zs n).length) [(0, ⟨iv (keepF ⟨lo, hi⟩ zs n ++ List.replicate (n - (keepF ⟨lo, hi⟩ zs n).length) 0 ++ zs.drop n), false, 1⟩)]) := by
  unfold a65
  have b3 : n ≤ maxN := by unfold maxN; omega
  have htl : (zs.take n).length = n := by simp; omega
  rcases idxF_spec (p := outS ⟨lo, hi⟩) (l := zs.take n) with ⟨e, hno⟩ | ⟨i, hi2, e, hb2, hno⟩
  · have hk : keepF ⟨lo, hi⟩ zs n = zs.take n := keepF_none hn fun i h hin => by
      have := hno zs[i] (List.mem_take_iff_getElem.2 ⟨i, by omega, rfl⟩)
      exact this
    have hrow : zs.take n ++ List.replicate (n - (zs.take n).length) 0 ++ zs.drop n = zs := by rw [htl]; simp
    rw [hk, hrow, htl]
    simp -implicitDefEqProofs [hg, b3, idxG, ints_iv, e, mapM1_nrm, mapM1_up, hn, hb]
  · have hin : i < n := by omega
    have hiz : i < zs.length := by omega
    rw [List.getElem_take] at hb2
    have hno' : ∀ (j : Nat) (h : j < zs.length), j < i → outS ⟨lo, hi⟩ zs[j] = false := fun j h hji => by
      have := hno j (by omega) hji
      rwa [List.getElem_take] at this
    have hrow0 : delRow ⟨lo, hi⟩ zs (i + 1) = zs := by
      have h1 := delRow_none (s := ⟨lo, hi⟩) (zs := zs) (j := i) (by omega) hno'
      unfold delRow at h1 ⊢
      rw [keepF_out hiz hb2]
      exact h1
    have hlen0 : (keepF ⟨lo, hi⟩ zs (i + 1)).length = i := by rw [keepF_out hiz hb2, keepF_none (by omega) hno']; simp; omega
    have w0 : IntKind.i64.wrap ((i : Int) + 1) = (i : Int) + 1 := wrap64 (by omega) (by omega)
    have e2 : ¬ ((i : Int) = -1) := by omega
    simp -implicitDefEqProofs [hg, b3, idxG, ints_iv, e, e2, w0, mapM1_nrm, mapM1_up, hn, hb]
    refine run_while (c := c65_22) (fun m s => ∃ (j : Nat) (g : Nat → Nat), j + m = n ∧ g 0 = 0 ∧ s = ⟨[(0, .own 0 0 0 n), (1, .clo 67 [.ipt 0 [.int .i64 lo, .int .i64 hi]]), (5, .int .i64 (keepF ⟨lo, hi⟩ zs j).length), (6, .int .i64 j)], [(0, ⟨iv (delRow ⟨lo, hi⟩ zs j), false, 1⟩)], g⟩) (n - (i + 1)) ⟨i + 1, g, by omega, hg, by simp [hrow0, hlen0]⟩ ?_
    rintro m s ⟨j, g, hj, hg, rfl⟩
    have hkl := keepF_le ⟨lo, hi⟩ zs j
    have hdl := delRow_len ⟨lo, hi⟩ zs (j := j) (by omega)
    by_cases h1 : j < n
    case pos =>
      have hjz : j < zs.length := by omega
      have w1 : IntKind.i64.wrap ((j : Int) + 1) = (j : Int) + 1 := wrap64 (by omega) (by omega)
      have w2 : IntKind.i64.wrap (((keepF ⟨lo, hi⟩ zs j).length : Int) + 1) = ((keepF ⟨lo, hi⟩ zs j).length : Int) + 1 := wrap64 (by omega) (by omega)
      have hget : (delRow ⟨lo, hi⟩ zs j)[j]'(by omega) = zs[j] := by
        have := delRow_get ⟨lo, hi⟩ zs hjz
        rw [List.getElem?_eq_getElem (by omega)] at this
        exact Option.some.inj this
      have hrow := rd_iv (delRow ⟨lo, hi⟩ zs j) j (by omega)
      rw [hget] at hrow
      have hR : outR zs[j] ⟨⟨lo, hi⟩⟩ = some (outS ⟨lo, hi⟩ zs[j]) := part_of trivial _
      cases hb3 : outS ⟨lo, hi⟩ zs[j]
      case true =>
        rw [hb3] at hR
        have hs : delRow ⟨lo, hi⟩ zs (j + 1) = delRow ⟨lo, hi⟩ zs j := by unfold delRow; rw [keepF_out hjz hb3]
        have hs2 := keepF_out hjz hb3
        simp -implicitDefEqProofs [h1, hg, b3, hrow, hR, w1]
        exact ⟨m - 1, by omega, j + 1, by omega, g, hg, ⟨by rw [hs2], by omega⟩, by rw [hs], rfl⟩
      case false =>
        rw [hb3] at hR
        have hwr := wr_iv (delRow ⟨lo, hi⟩ zs j) (keepF ⟨lo, hi⟩ zs j).length (by omega) zs[j]
        rw [← delRow_in hjz hb3] at hwr
        have hs2 : (keepF ⟨lo, hi⟩ zs (j + 1)).length = (keepF ⟨lo, hi⟩ zs j).length + 1 := by rw [keepF_in hjz hb3]; simp
        have k1 : (keepF ⟨lo, hi⟩ zs j).length < n := by omega
        have k2 : (keepF ⟨lo, hi⟩ zs j).length + 1 ≤ zs.length := by omega
        simp -implicitDefEqProofs [h1, hg, b3, hrow, hR, w1, w2, hwr, hdl, k1, k2]
        exact ⟨m - 1, by omega, j + 1, by omega, g, hg, ⟨by omega, by omega⟩, rfl, rfl⟩
    case neg =>
      have hjn : j = n := by omega
      subst hjn
      have k1 : (keepF ⟨lo, hi⟩ zs j).length ≤ j := hkl
      have hcl : wr (iv (delRow ⟨lo, hi⟩ zs j)) (keepF ⟨lo, hi⟩ zs j).length (List.replicate (j - (keepF ⟨lo, hi⟩ zs j).length) (AV.int .i64 0)) = iv (keepF ⟨lo, hi⟩ zs j ++ (List.replicate (j - (keepF ⟨lo, hi⟩ zs j).length) 0 ++ zs.drop j)) := by
        unfold delRow wr
        rw [iv_append, iv_append, iv_append, List.take_append_of_le_length (by simp), iv_take, List.append_assoc, List.drop_append]
        have e1 : iv (List.replicate (j - (keepF ⟨lo, hi⟩ zs j).length) 0) = List.replicate (j - (keepF ⟨lo, hi⟩ zs j).length) (AV.int .i64 0) := by simp [iv]
        have e2 : List.drop ((keepF ⟨lo, hi⟩ zs j).length + (List.replicate (j - (keepF ⟨lo, hi⟩ zs j).length) (AV.int IntKind.i64 0)).length) (iv (keepF ⟨lo, hi⟩ zs j)) = [] := List.drop_of_length_le (by simp)
        rw [e1, e2]
        simp only [List.nil_append, List.length_replicate, iv_len]
        congr 2
        unfold iv
        rw [← List.map_drop, List.drop_drop]
        congr 2
        omega
      simp -implicitDefEqProofs [h1, hg, b3, k1, hdl, hcl, hn, mapM1_nrm]
theorem c_delG : Contract Tryz.prog (gBase + 65) (gspec delG) :=
  gcontractN (C := tbl [(67, sp2 outR), (1000000 + 84, gspec idxG)]) mixed (tbl_cons c_Cuts1 (tbl_cons c_idxG tbl_nil)) Tryz.func65 m65 fun args h r h' hs => by
    unfold delG at hs
    split at hs
    · rename_i n lo hi k
      split at hs
      · rename_i hc
        obtain ⟨he, hf, hb⟩ := hc
        rw [Option.bind_eq_some_iff] at hs
        obtain ⟨zs, hz, hs⟩ := hs
        split at hs
        · rename_i hn
          simp only [Option.some.injEq, Prod.mk.injEq] at hs
          obtain ⟨rfl, rfl⟩ := hs
          obtain ⟨cs, fz, e⟩ := k
          simp only at he hf hz
          subst he hf
          rw [iv_of_ints hz]
          exact ⟨rfl, true, none, run_del n lo hi zs hn hb _ rfl⟩
        · cases hs
      · cases hs
    · cases hs
def cutsL (m : Model) (q : Query) (b : Box) (place : Int) : List Int := if featOf q place < 0 then [] else (thrL m (featOf q place)).filter fun t => !outS (b.get place) t
noncomputable def CutsC (m : Model) (q : Query) (b : Box) (place : Int) : Option (List Int) := Part (RM m ∧ (featOf q place < 0 ∨ 0 ≤ place ∧ place ≤ 4)) (cutsL m q b place)
theorem runs_Cuts (m : Model) (q : Query) (b : Box) (place : Int) (r : List Int) (h : CutsC m q b place = some r) : Runs (tbl [(64, sp2 FeatC), (1000000 + 66, gspec thrG), (1000000 + 65, gspec delG)]) a37 [Arg.enc m, Arg.enc q, Arg.enc b, Arg.enc place] (Arg.enc r) := by
  obtain ⟨⟨hm, hp⟩, rfl⟩ := part_some h
  clear h
  refine ⟨rfl, fun g => run_def ?_⟩
  unfold a37 cutsL
  have hF : FeatC q place = some (featOf q place) := part_of trivial _
  generalize featOf q place = ft at *
  by_cases hf : ft < 0
  · rw [if_pos hf]
    simp -implicitDefEqProofs [hF, hf, encL_nil]
  rw [if_neg hf]
  have hp' : 0 ≤ place ∧ place ≤ 4 := by rcases hp with h | h; exact absurd h hf; exact h
  have hl := thr_len m ft
  have hlr := thrRow_len m ft
  have hrl : (rawM m.trees ft).length ≤ 31 * 8 := by
    have h1 := rawM_len (j := ft) (l := m.trees) fun t ht => (hm.tree t ht).2.2.le
    have h2 := hm.trees
    omega
  have k1 : (thrL m ft).length ≤ (thrRow m ft).length := by omega
  have k2 : (thrL m ft).length ≤ 1099511627776 := by omega
  have htk : List.take (thrL m ft).length (thrRow m ft) = thrL m ft := by unfold thrRow; simp
  have hp5 : place = 0 ∨ place = 1 ∨ place = 2 ∨ place = 3 ∨ place = 4 := by omega
  have hfin : ∀ (s : Span) (X : List Int), List.take ((thrL m ft).filter fun t => !outS s t).length (iv (((thrL m ft).filter fun t => !outS s t) ++ X)) = encL ((thrL m ft).filter fun t => !outS s t) := fun s X => by
    rw [iv_append, List.take_append_of_le_length (by simp), iv_take, iv_enc]
  rcases hp5 with rfl | rfl | rfl | rfl | rfl <;> simp -implicitDefEqProofs [hF, hf, thrG, hm, delG, ints_iv, mapM1_nrm, mapM1_up, k1, k2, htk, hfin, Box.get]
theorem c_Cuts : Contract Tryz.prog 37 (sp4 CutsC) :=
  contract_of_runs (C := tbl [(64, sp2 FeatC), (1000000 + 66, gspec thrG), (1000000 + 65, gspec delG)]) mixed (tbl_cons c_feature (tbl_cons c_ThrG (tbl_cons c_delG tbl_nil))) Tryz.func37 m37 (sp4_runs runs_Cuts)
end Go.Co
/- CO: thresholds rise; cuts of parts. -/
namespace Go.Co
open Go.Am Go.Proofs
theorem compact_upto {zs : List Int} (hs : zs.Pairwise (· ≤ ·)) : ∀ (m : Nat), m ≤ zs.length → (∀ x, x ∈ Go.Lib.compactUpTo zs.toArray m ↔ x ∈ zs.take m) ∧ (Go.Lib.compactUpTo zs.toArray m).Pairwise (· < ·)
  | 0, _ => ⟨fun x => by simp [Go.Lib.compactUpTo], by simp [Go.Lib.compactUpTo]⟩
  | m + 1, hm => by
    obtain ⟨h1, h2⟩ := compact_upto hs m (by omega)
    have hg : ∀ (j : Nat) (h : j < zs.length), zs.toArray[j]! = zs[j] := fun j h => by simp [getElem!_pos, h]
    have hle : ∀ (i j : Nat) (hi : i < j) (hj : j < zs.length), zs[i] ≤ zs[j] := fun i j hi hj => List.pairwise_iff_getElem.1 hs i j (by omega) hj hi
    rw [Go.Lib.compactUpTo_succ, hg m (by omega)]
    by_cases hk : Go.Lib.keeps zs.toArray m = true
    · rw [if_pos hk]
      refine ⟨fun x => ?_, ?_⟩
      · rw [List.take_succ_eq_append_getElem (by omega), List.mem_append, List.mem_append, h1 x]
      · rw [List.pairwise_append]
        refine ⟨h2, by simp, fun a ha b hb => ?_⟩
        simp only [List.mem_singleton] at hb
        subst hb
        have ha' := (h1 a).1 ha
        obtain ⟨i, hi, rfl⟩ := List.mem_take_iff_getElem.1 ha'
        have hi' : i < m := by omega
        unfold Go.Lib.keeps at hk
        simp only [decide_eq_true_eq] at hk
        rcases hk with hk | hk
        · omega
        · rw [hg m (by omega), hg (m - 1) (by omega)] at hk
          have q1 : zs[i] ≤ zs[m - 1] := by
            by_cases e : i = m - 1
            · subst e; exact Int.le_refl _
            · exact hle i (m - 1) (by omega) (by omega)
          have q2 := hle (m - 1) m (by omega) (by omega)
          omega
    · rw [if_neg hk, List.append_nil]
      refine ⟨fun x => ?_, h2⟩
      rw [h1 x, List.take_succ_eq_append_getElem (by omega)]
      simp only [List.mem_append, List.mem_singleton]
      constructor
      · exact .inl
      · rintro (h | rfl)
        · exact h
        · unfold Go.Lib.keeps at hk
          simp only [decide_eq_true_eq, not_or] at hk
          obtain ⟨hk0, hk⟩ := hk
          rw [hg m (by omega), hg (m - 1) (by omega)] at hk
          have e : zs[m] = zs[m - 1] := by
            apply Classical.byContradiction
            exact hk
          rw [e]
          exact List.mem_take_iff_getElem.2 ⟨m - 1, by omega, rfl⟩
theorem mem_compact {zs : List Int} (hs : zs.Pairwise (· ≤ ·)) (x : Int) : x ∈ Go.Lib.compact zs ↔ x ∈ zs := by
  have := (compact_upto hs zs.length (Nat.le_refl _)).1 x
  unfold Go.Lib.compact
  rw [List.take_length] at this
  simpa using this
theorem mem_thr {m : Model} {j x : Int} : x ∈ thrL m j ↔ ∃ t ∈ m.trees, ∃ w ∈ t.nodes, (nd w).leaf = false ∧ (nd w).feature = j ∧ (nd w).cut = x := by
  unfold thrL
  rw [mem_compact (isort_sorted _), (isort_perm _).mem_iff]
  unfold rawM rawW cutF
  simp only [List.mem_flatMap, List.mem_filterMap]
  constructor
  · rintro ⟨t, ht, w, hw, h⟩
    split at h
    · rename_i hc
      cases h
      exact ⟨t, ht, w, hw, hc.1, hc.2, rfl⟩
    · cases h
  · rintro ⟨t, ht, w, hw, h1, h2, h3⟩
    exact ⟨t, ht, w, hw, by rw [if_pos ⟨h1, h2⟩, h3]⟩
def inN (T : List Int) (lo hi : Int) : Nat := (T.filter fun t => !outS ⟨lo, hi⟩ t).length
def cutN (m : Model) (q : Query) (b : Box) (i : Int) : Nat := if featOf q i < 0 then 0 else inN (thrL m (featOf q i)) (b.get i).lo (b.get i).hi
theorem cutsL_len (m : Model) (q : Query) (b : Box) (i : Int) : (cutsL m q b i).length = cutN m q b i := by
  unfold cutsL cutN inN
  split <;> rfl
theorem cutN_le {m : Model} (hm : RM m) (q : Query) (b : Box) (i : Int) : cutN m q b i ≤ 248 := by
  unfold cutN
  split
  · omega
  · unfold inN
    have h1 := List.length_filter_le (fun t => !outS ⟨(b.get i).lo, (b.get i).hi⟩ t) (thrL m (featOf q i))
    have h2 := thr_len m (featOf q i)
    have h3 := rawM_len (j := featOf q i) (l := m.trees) fun t ht => (hm.tree t ht).2.2.le
    have h4 := hm.trees
    omega
end Go.Co
