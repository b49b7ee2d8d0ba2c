/- CO: texts of this claim, one behind the other. -/
import Derived.Test.YtcjflbmpfmibbaaCz2
import Derived.Test.YtcjflbmpfmibbaaCz5
import Derived.Test.YtcjflbmpfmibbaaCz3
import Derived.Test.YtcjflbmpfmibbaaCz4
import Derived.Test.YtcjflbmpfmibbaaCz1
import Derived.Test.YtcjflbmpfmibbaaAm4
/- CO: thresholds of a feature. -/
set_option maxHeartbeats 16000000
set_option maxRecDepth 100000
namespace Go.Co
open Go.Am Go.Proofs
set_option linter.unusedSimpArgs false
set_option linter.unusedVariables false
attribute [-simp] Go.Am.eff_gcall
def c43_0 : ACode := .ops [⟨some 2, .box (.t 0) 6, none, []⟩,⟨some 4, .mv (.c (.nils)), none, []⟩] [1, 2]
theorem r43_0 : type_of% (@rr _ _ c43_0.eq_1) := rr rfl
def c43_1 : ACode := .ops [⟨some 12, .load 6 true (.t 2), none, [2]⟩,⟨some 13, .call 27 [.t 12], none, []⟩,⟨some 14, .un .not (.t 13), none, []⟩] [1, 2, 14]
theorem r43_1 : type_of% (@rr _ _ c43_1.eq_1) := rr rfl
def c43_2 : ACode := .ops [⟨some 4, .mv (.c (.nils)), none, []⟩] [4]
theorem r43_2 : type_of% (@rr _ _ c43_2.eq_1) := rr rfl
def c43_3 : ACode := .seq c43_2 .ret
theorem r43_3 : type_of% (@rr _ _ c43_3.eq_1) := rr rfl
def c43_4 : ACode := .cond (.t 14) c43_3 .skip
theorem r43_4 : type_of% (@rr _ _ c43_4.eq_1) := rr rfl
def c43_5 : ACode := .seq c43_1 c43_4
theorem r43_5 : type_of% (@rr _ _ c43_5.eq_1) := rr rfl
def c43_6 : ACode := .ops [⟨some 5, .nil0 5 1, none, []⟩] [1, 2, 5]
theorem r43_6 : type_of% (@rr _ _ c43_6.eq_1) := rr rfl
def c43_7 : ACode := .ops [⟨some 15, .fad (.t 2) 5, none, [2]⟩,⟨some 16, .load 1 false (.t 15), none, [2]⟩,⟨some 17, .len (.t 16), none, []⟩,⟨some 18, .mv (.c (.int .i64 0)), none, []⟩] [1, 5, 16, 17, 18]
theorem r43_7 : type_of% (@rr _ _ c43_7.eq_1) := rr rfl
def c43_8 : ACode := .ops [⟨some 19, .bin .lss (.t 18) (.t 17), none, []⟩] [1, 5, 16, 17, 18, 19]
theorem r43_8 : type_of% (@rr _ _ c43_8.eq_1) := rr rfl
def c43_9 : ACode := .cond (.t 19) .skip (.exit 0)
theorem r43_9 : type_of% (@rr _ _ c43_9.eq_1) := rr rfl
def c43_10 : ACode := .ops [⟨some 20, .ias (.t 16) (.t 18) 2, none, []⟩,⟨some 21, .load 2 true (.t 20), none, []⟩,⟨some 7, .alloc [.int .i64 0, .nils], none, []⟩,⟨none, .store (.t 7) 2 (.t 21), none, [7]⟩] [1, 5, 7, 16, 17, 18]
theorem r43_10 : type_of% (@rr _ _ c43_10.eq_1) := rr rfl
def c43_11 : ACode := .ops [⟨some 22, .fad (.t 7) 1, none, [7]⟩,⟨some 23, .load 1 false (.t 22), none, [7]⟩,⟨some 24, .len (.t 23), none, []⟩,⟨some 25, .mv (.c (.int .i64 0)), none, []⟩] [1, 5, 16, 17, 18, 23, 24, 25]
theorem r43_11 : type_of% (@rr _ _ c43_11.eq_1) := rr rfl
def c43_12 : ACode := .ops [⟨some 26, .bin .lss (.t 25) (.t 24), none, []⟩] [1, 5, 16, 17, 18, 23, 24, 25, 26]
theorem r43_12 : type_of% (@rr _ _ c43_12.eq_1) := rr rfl
def c43_13 : ACode := .cond (.t 26) .skip (.exit 2)
theorem r43_13 : type_of% (@rr _ _ c43_13.eq_1) := rr rfl
def c43_14 : ACode := .ops [⟨some 27, .ias (.t 23) (.t 25) 1, none, []⟩,⟨some 28, .load 1 false (.t 27), none, []⟩,⟨some 9, .mv (.t 28), none, []⟩] [1, 5, 9, 16, 17, 18, 23, 24, 25]
theorem r43_14 : type_of% (@rr _ _ c43_14.eq_1) := rr rfl
def c43_15 : ACode := .ops [⟨some 30, .mv (.t 9), none, []⟩,⟨some 31, .call 20 [.t 30], none, []⟩,⟨some 29, .mv (.t 31), none, []⟩,⟨some 32, .ext (.t 29) 0, none, []⟩,⟨some 33, .ext (.t 29) 1, none, []⟩,⟨some 10, .alloc [.bool false, .int .i64 0, .int .i64 0, .int .i64 0, .int .i64 0, .int .i64 0], none, []⟩,⟨none, .store (.t 10) 6 (.t 32), none, [10]⟩,⟨some 11, .mv (.t 33), none, []⟩] [1, 5, 10, 16, 17, 18, 23, 24, 25]
theorem r43_15 : type_of% (@rr _ _ c43_15.eq_1) := rr rfl
def c43_16 : ACode := .ops [⟨some 34, .fad (.t 10) 0, none, [10]⟩,⟨some 35, .load 1 false (.t 34), none, [10]⟩,⟨some 36, .un .not (.t 35), none, []⟩,⟨some 37, .mv (.t 36), none, []⟩,⟨some 38, .fad (.t 10) 2, some (37, true), [10]⟩,⟨some 39, .load 1 false (.t 38), some (37, true), [10]⟩,⟨some 40, .mv (.t 1), some (37, true), []⟩,⟨some 41, .bin .eql (.t 39) (.t 40), some (37, true), []⟩,⟨some 42, .pick (.t 37) (.t 41) (.c (.bool false)), none, []⟩] [1, 5, 10, 16, 17, 18, 23, 24, 25, 42]
theorem r43_16 : type_of% (@rr _ _ c43_16.eq_1) := rr rfl
def c43_17 : ACode := .ops [⟨some 43, .mv (.t 5), none, []⟩,⟨some 44, .fad (.t 10) 3, none, [10]⟩,⟨some 45, .load 1 false (.t 44), none, [10]⟩,⟨some 46, .mkrow 46 1 1 [.int .i64 0] [(0, 1, .t 45)], none, []⟩,⟨some 47, .app 5 [5] (.t 43) (.t 46) 1, none, [5, 46]⟩,⟨some 5, .mv (.t 47), none, []⟩] [1, 5, 16, 17, 18, 23, 24, 25]
theorem r43_17 : type_of% (@rr _ _ c43_17.eq_1) := rr rfl
def c43_18 : ACode := .cond (.t 42) c43_17 .skip
theorem r43_18 : type_of% (@rr _ _ c43_18.eq_1) := rr rfl
def c43_19 : ACode := .seq c43_16 c43_18
theorem r43_19 : type_of% (@rr _ _ c43_19.eq_1) := rr rfl
def c43_20 : ACode := .seq c43_15 c43_19
theorem r43_20 : type_of% (@rr _ _ c43_20.eq_1) := rr rfl
def c43_21 : ACode := .seq c43_14 c43_20
theorem r43_21 : type_of% (@rr _ _ c43_21.eq_1) := rr rfl
def c43_22 : ACode := .block 3 c43_21
theorem r43_22 : type_of% (@rr _ _ c43_22.eq_1) := rr rfl
def c43_23 : ACode := .ops [⟨some 48, .bin .add (.t 25) (.c (.int .i64 1)), none, []⟩,⟨some 25, .mv (.t 48), none, []⟩] [1, 5, 16, 17, 18, 23, 24, 25]
theorem r43_23 : type_of% (@rr _ _ c43_23.eq_1) := rr rfl
def c43_24 : ACode := .seq c43_22 c43_23
theorem r43_24 : type_of% (@rr _ _ c43_24.eq_1) := rr rfl
def c43_25 : ACode := .seq c43_13 c43_24
theorem r43_25 : type_of% (@rr _ _ c43_25.eq_1) := rr rfl
def c43_26 : ACode := .seq c43_12 c43_25
theorem r43_26 : type_of% (@rr _ _ c43_26.eq_1) := rr rfl
def c43_27 : ACode := .keep [1, 5, 16, 17, 18, 23, 24, 25] [5] c43_26
theorem r43_27 : type_of% (@rr _ _ c43_27.eq_1) := rr rfl
def c43_28 : ACode := .loop c43_27
theorem r43_28 : type_of% (@rr _ _ c43_28.eq_1) := rr rfl
def c43_29 : ACode := .block 2 c43_28
theorem r43_29 : type_of% (@rr _ _ c43_29.eq_1) := rr rfl
def c43_30 : ACode := .seq c43_11 c43_29
theorem r43_30 : type_of% (@rr _ _ c43_30.eq_1) := rr rfl
def c43_31 : ACode := .seq c43_10 c43_30
theorem r43_31 : type_of% (@rr _ _ c43_31.eq_1) := rr rfl
def c43_32 : ACode := .block 1 c43_31
theorem r43_32 : type_of% (@rr _ _ c43_32.eq_1) := rr rfl
def c43_33 : ACode := .ops [⟨some 49, .bin .add (.t 18) (.c (.int .i64 1)), none, []⟩,⟨some 18, .mv (.t 49), none, []⟩] [1, 5, 16, 17, 18]
theorem r43_33 : type_of% (@rr _ _ c43_33.eq_1) := rr rfl
def c43_34 : ACode := .seq c43_32 c43_33
theorem r43_34 : type_of% (@rr _ _ c43_34.eq_1) := rr rfl
def c43_35 : ACode := .seq c43_9 c43_34
theorem r43_35 : type_of% (@rr _ _ c43_35.eq_1) := rr rfl
def c43_36 : ACode := .seq c43_8 c43_35
theorem r43_36 : type_of% (@rr _ _ c43_36.eq_1) := rr rfl
def c43_37 : ACode := .keep [1, 5, 16, 17, 18] [5] c43_36
theorem r43_37 : type_of% (@rr _ _ c43_37.eq_1) := rr rfl
def c43_38 : ACode := .loop c43_37
theorem r43_38 : type_of% (@rr _ _ c43_38.eq_1) := rr rfl
def c43_39 : ACode := .block 0 c43_38
theorem r43_39 : type_of% (@rr _ _ c43_39.eq_1) := rr rfl
def c43_40 : ACode := .seq c43_7 c43_39
theorem r43_40 : type_of% (@rr _ _ c43_40.eq_1) := rr rfl
def c43_41 : ACode := .ops [⟨some 50, .mv (.t 5), none, []⟩,⟨some 51, .gcall 93 [.t 50] [5] 5, none, [5]⟩] [5]
theorem r43_41 : type_of% (@rr _ _ c43_41.eq_1) := rr rfl
def c43_42 : ACode := .ops [⟨some 52, .mv (.t 5), none, []⟩,⟨some 53, .gcall 94 [.t 52] [5] 5, none, [5]⟩,⟨some 4, .mv (.t 53), none, []⟩] [4]
theorem r43_42 : type_of% (@rr _ _ c43_42.eq_1) := rr rfl
def c43_43 : ACode := .seq c43_42 .ret
theorem r43_43 : type_of% (@rr _ _ c43_43.eq_1) := rr rfl
def c43_44 : ACode := .seq c43_41 c43_43
theorem r43_44 : type_of% (@rr _ _ c43_44.eq_1) := rr rfl
def c43_45 : ACode := .seq c43_40 c43_44
theorem r43_45 : type_of% (@rr _ _ c43_45.eq_1) := rr rfl
def c43_46 : ACode := .seq c43_6 c43_45
theorem r43_46 : type_of% (@rr _ _ c43_46.eq_1) := rr rfl
def c43_47 : ACode := .seq c43_5 c43_46
theorem r43_47 : type_of% (@rr _ _ c43_47.eq_1) := rr rfl
def c43_48 : ACode := .seq c43_0 c43_47
theorem r43_48 : type_of% (@rr _ _ c43_48.eq_1) := rr rfl
def a43 : AFun := ⟨2, 54, c43_48, [.t 4]⟩
attribute [simp] r43_0 r43_1 r43_2 r43_3 r43_4 r43_5 r43_6 r43_7 r43_8 r43_9 r43_10 r43_11 r43_12 r43_13 r43_14 r43_15 r43_16 r43_17 r43_18 r43_19 r43_20 r43_21 r43_22 r43_23 r43_24 r43_25 r43_26 r43_27 r43_28 r43_29 r43_30 r43_31 r43_32 r43_33 r43_34 r43_35 r43_36 r43_37 r43_38 r43_39 r43_40 r43_41 r43_42 r43_43 r43_44 r43_45 r43_46 r43_47 r43_48
theorem m43 : mFun Try.prog Try.f43 a43 = true := by decide +kernel
def cutF (j : Int) (w : Word) : Option Int := if (nd w).leaf = false ∧ (nd w).feature = j then some (nd w).cut else none
def rawW (j : Int) (l : List Word) : List Int := l.filterMap (cutF j)
def rawM (l : List Tree) (j : Int) : List Int := l.flatMap fun t => rawW j t.nodes
def thrL (m : Model) (j : Int) : List Int := Go.Lib.compact (isort (rawM m.trees j))
def rawTo (m : Model) (j : Int) (i k : Nat) (l : List Word) : List Int := rawM (m.trees.take i) j ++ rawW j (l.take k)
theorem rawTo_zero (m : Model) (j : Int) (i : Nat) (l : List Word) : rawTo m j i 0 l = rawM (m.trees.take i) j := by simp [rawTo, rawW]
theorem rawTo_some {m : Model} {j : Int} {i k : Nat} {l : List Word} (h : k < l.length) (hl : (nd l[k]).leaf = false) (hf : (nd l[k]).feature = j) : rawTo m j i (k + 1) l = rawTo m j i k l ++ [(nd l[k]).cut] := by
  unfold rawTo rawW
  rw [List.take_succ_eq_append_getElem h, List.filterMap_append, List.append_assoc]
  simp [cutF, hl, hf]
theorem rawTo_none {m : Model} {j : Int} {i k : Nat} {l : List Word} (h : k < l.length) (hn : ¬ ((nd l[k]).leaf = false ∧ (nd l[k]).feature = j)) : rawTo m j i (k + 1) l = rawTo m j i k l := by
  unfold rawTo rawW
  rw [List.take_succ_eq_append_getElem h, List.filterMap_append]
  simp [cutF, hn]
theorem rawTo_all {m : Model} {j : Int} {i : Nat} (h : i < m.trees.length) : rawTo m j i m.trees[i].nodes.length m.trees[i].nodes = rawM (m.trees.take (i + 1)) j := by
  unfold rawTo rawM
  rw [List.take_length, List.take_succ_eq_append_getElem h, List.flatMap_append]
  simp
theorem rawW_len (j : Int) (l : List Word) : (rawW j l).length ≤ l.length := List.length_filterMap_le _ _
theorem rawM_len {j : Int} : ∀ {l : List Tree}, (∀ t ∈ l, t.nodes.length ≤ 31) → (rawM l j).length ≤ 31 * l.length
  | [], _ => by simp [rawM]
  | t :: l, h => by
    have h1 := h t (by simp)
    have h2 := rawM_len (j := j) (l := l) fun x hx => h x (by simp [hx])
    have h3 := rawW_len j t.nodes
    unfold rawM at h2 ⊢
    simp only [List.flatMap_cons, List.length_append, List.length_cons]
    omega
theorem iv_append (a b : List Int) : iv (a ++ b) = iv a ++ iv b := by simp [iv]
theorem iv_take (a : List Int) : List.take a.length (iv a) = iv a := List.take_of_length_le (by simp [iv])
@[simp] theorem iv_plain (a : List Int) : (iv a).all AV.plain = true := by simp [iv]
@[simp] theorem iv_cell (a : List Int) : (iv a).all AV.isCell = true := by simp [iv]
theorem iv_enc (a : List Int) : iv a = encL a := by
  induction a with
  | nil => rfl
  | cons x xs ih =>
    have : encL (x :: xs) = .int .i64 x :: encL xs := rfl
    rw [this, ← ih]
    rfl
@[simp] theorem len_iv (a : List Int) : (iv a).length = a.length := iv_len a
def thrRow (m : Model) (j : Int) : List Int := thrL m j ++ List.replicate ((isort (rawM m.trees j)).length - (thrL m j).length) 0
theorem run_Thr (m : Model) (j : Int) (hr : RM m) (g : Nat → Nat) (Q : Post) (hQ : ∀ g' : Nat → Nat, g' 0 = g 0 → Q .ret ⟨[(4, .own 5 (g' 5) 0 (thrL m j).length)], [(5, ⟨iv (thrRow m j), false, 1⟩)], g'⟩) :
    run (tbl [(27, sp1 MRightT), (20, sp1 Unpack), (1000000 + 93, gspec sortF), (1000000 + 94, gspec compF)]) a43.code [] ⟨argEnv 0 [Arg.enc m, Arg.enc j], [], g⟩ Q := by
  unfold a43
  have hM : MRightT m = some true := by unfold MRightT; rw [part_of hr.okMW, rightM_true.2 hr]
  have hle := hr.trees
  have b3 : m.trees.length ≤ maxN := by unfold maxN; omega
  simp -implicitDefEqProofs [hM, b3]
  generalize hg0 : g 0 = g00 at *
  refine run_while (c := c43_36) (fun n s => ∃ (i : Nat) (g : Nat → Nat), i + n = m.trees.length ∧ g 0 = g00 ∧ s = ⟨[(1, .int .i64 j), (5, .own 5 (g 5) 0 (rawM (m.trees.take i) j).length), (16, .lst m.trees.length (encL m.trees)), (17, .int .i64 m.trees.length), (18, .int .i64 i)], [(5, ⟨iv (rawM (m.trees.take i) j), false, 1⟩)], g⟩) m.trees.length ⟨0, bump 5 (bump 2 g), by omega, by simp [hg0], by simp [rawM, iv]⟩ ?_
  rintro n s ⟨i, g, hi, hg1, rfl⟩
  have hlen : ∀ q, (rawM (m.trees.take q) j).length ≤ 31 * 8 := fun q => by
    have h1 := rawM_len (j := j) (l := m.trees.take q) fun t ht => (hr.tree t (List.mem_of_mem_take ht)).2.2.le
    have h2 : (m.trees.take q).length ≤ 8 := by simp; omega
    omega
  by_cases h1 : i < m.trees.length
  case pos =>
    have w1 : IntKind.i64.wrap ((i : Int) + 1) = (i : Int) + 1 := wrap64 (by omega) (by omega)
    have hrow := rd_tree m.trees i h1
    have hrt := hr.rt (List.getElem_mem h1)
    have hnl := hrt.le
    have b4 : m.trees[i].nodes.length ≤ maxN := by unfold maxN; omega
    simp -implicitDefEqProofs [h1, hrow, b4]
    refine run_while (c := c43_26) (fun n s => ∃ (k : Nat) (g : Nat → Nat), k + n = m.trees[i].nodes.length ∧ g 0 = g00 ∧ s = ⟨[(1, .int .i64 j), (5, .own 5 (g 5) 0 (rawTo m j i k m.trees[i].nodes).length), (16, .lst m.trees.length (encL m.trees)), (17, .int .i64 m.trees.length), (18, .int .i64 i), (23, .lst m.trees[i].nodes.length (encL m.trees[i].nodes)), (24, .int .i64 m.trees[i].nodes.length), (25, .int .i64 k)], [(5, ⟨iv (rawTo m j i k m.trees[i].nodes), false, 1⟩)], g⟩) m.trees[i].nodes.length ⟨0, bump 7 g, by omega, by simp [hg1], by simp [rawTo_zero]⟩ ?_
    rintro n2 s ⟨k, g, hk, hg2, rfl⟩
    by_cases h2 : k < m.trees[i].nodes.length
    case pos =>
      have w2 : IntKind.i64.wrap ((k : Int) + 1) = (k : Int) + 1 := wrap64 (by omega) (by omega)
      have hU := unpack_at hrt h2
      have hnd : ndAt m.trees[i].nodes k = nd m.trees[i].nodes[k] := ndAt_lt h2
      have hl2 : (rawTo m j i k m.trees[i].nodes).length ≤ 31 * 8 + 31 := by
        unfold rawTo
        rw [List.length_append]
        have e1 := hlen i
        have e2 := rawW_len j (m.trees[i].nodes.take k)
        have e3 : (m.trees[i].nodes.take k).length ≤ 31 := by simp; omega
        omega
      have n1 : (rawTo m j i k m.trees[i].nodes).length ≤ 1099511627775 := by omega
      rw [hnd] at hU
      by_cases hin : (nd m.trees[i].nodes[k]).leaf = false ∧ (nd m.trees[i].nodes[k]).feature = j
      case pos =>
        have hs := rawTo_some (m := m) (i := i) h2 hin.1 hin.2
        have hs2 : (rawTo m j i (k + 1) m.trees[i].nodes).length = (rawTo m j i k m.trees[i].nodes).length + 1 := by rw [hs]; simp
        have hE : iv (rawTo m j i (k + 1) m.trees[i].nodes) = iv (rawTo m j i k m.trees[i].nodes) ++ [.int .i64 (nd m.trees[i].nodes[k]).cut] := by rw [hs, iv_append]; rfl
        have q1 := hin.1
        have q2 := hin.2
        simp -implicitDefEqProofs [h2, rd_words, hU, w2, q1, q2, n1, iv_take]
        exact ⟨n2 - 1, by omega, k + 1, by omega, _, by simp [hg2], ⟨⟨by simp, by omega⟩, by omega⟩, by rw [hE], rfl⟩
      case neg =>
        have hs := rawTo_none (m := m) (i := i) h2 hin
        cases q1 : (nd m.trees[i].nodes[k]).leaf
        case true =>
          simp -implicitDefEqProofs [h2, rd_words, hU, w2, q1]
          exact ⟨n2 - 1, by omega, k + 1, by omega, _, by simp [hg2], ⟨⟨by simp, by rw [hs]⟩, by omega⟩, by rw [hs], rfl⟩
        case false =>
          have q2 : ¬ (nd m.trees[i].nodes[k]).feature = j := fun e => hin ⟨q1, e⟩
          simp -implicitDefEqProofs [h2, rd_words, hU, w2, q1, q2]
          exact ⟨n2 - 1, by omega, k + 1, by omega, _, by simp [hg2], ⟨⟨by simp, by rw [hs]⟩, by omega⟩, by rw [hs], rfl⟩
    case neg =>
      have hkl : k = m.trees[i].nodes.length := by omega
      subst hkl
      rw [rawTo_all h1]
      simp -implicitDefEqProofs [h2, w1]
      exact ⟨n - 1, by omega, i + 1, by omega, g, hg2, ⟨⟨rfl, rfl⟩, by omega⟩, rfl, rfl⟩
  case neg =>
    have hil : i = m.trees.length := by omega
    subst hil
    have hl := hlen m.trees.length
    rw [List.take_length] at hl ⊢
    have k1 : (rawM m.trees j).length ≤ 1152921504606846976 := by omega
    have hq := hQ g hg1
    simp only [thrRow, thrL, isort_len] at hq
    simp -implicitDefEqProofs [h1, k1, sortF, compF, ints_iv, isort_len, mapM1_nrm, mapM1_up]
    exact hq
theorem thr_take (m : Model) (j : Int) : List.take (thrL m j).length (iv (thrRow m j)) = encL (thrL m j) := by
  unfold thrRow
  rw [iv_append, iv_enc (thrL m j), List.take_append_of_le_length (by rw [← iv_enc, iv_len]; exact Nat.le_refl _), ← iv_enc, iv_take]
theorem thr_len (m : Model) (j : Int) : (thrL m j).length ≤ (rawM m.trees j).length := by
  unfold thrL
  have := compact_le (isort (rawM m.trees j))
  rw [isort_len] at this
  exact this
theorem thrRow_len (m : Model) (j : Int) : (thrRow m j).length = (rawM m.trees j).length := by
  unfold thrRow
  have := thr_len m j
  rw [List.length_append, List.length_replicate, isort_len]
  omega
noncomputable def ThrT (m : Model) (j : Int) : Option (List Int) := Part (okMW m) (if rightM m then thrL m j else [])
theorem runs_ThrT (m : Model) (j : Int) (r : List Int) (h : ThrT m j = some r) : Runs (tbl [(27, sp1 MRightT), (20, sp1 Unpack), (1000000 + 93, gspec sortF), (1000000 + 94, gspec compF)]) a43 [Arg.enc m, Arg.enc j] (Arg.enc r) := by
  obtain ⟨hw, rfl⟩ := part_some h
  cases hr : rightM m
  case true =>
    refine ⟨rfl, fun g => run_def (run_Thr m j (rightM_true.1 hr) g _ fun g' _ => ?_)⟩
    have h1 := thr_take m j
    have h2 := thr_len m j
    have h3 := thrRow_len m j
    have c1 : (thrL m j).length ≤ (thrRow m j).length := by omega
    unfold a43
    simp -implicitDefEqProofs [h1, c1]
  case false =>
    refine ⟨rfl, fun g => run_def ?_⟩
    unfold a43
    have hM : MRightT m = some false := by unfold MRightT; rw [part_of hw, hr]
    simp -implicitDefEqProofs [hM, encL_nil]
theorem c_ThrT : Contract Try.prog 43 (sp2 ThrT) :=
  contract_of_runs mixed (tbl_cons c_mRightT (tbl_cons c_Unpack (tbl_cons c_Sort (tbl_cons c_Compact tbl_nil)))) Try.func43 m43 (sp2_runs runs_ThrT)
end Go.Co
/- CO: cuts of a box, how many cells. -/
namespace Go.Co
open Go.Am Go.Proofs
set_option linter.unusedSimpArgs false
set_option linter.unusedVariables false
attribute [-simp] Go.Am.eff_gcall
def c51_0 : ACode := .ops [⟨some 4, .box (.t 0) 6, none, []⟩,⟨some 5, .box (.t 1) 17, none, []⟩,⟨some 6, .box (.t 2) 10, none, []⟩,⟨some 8, .mv (.c (.nils)), none, []⟩] [3, 4, 5, 6]
def c51_1 : ACode := .ops [⟨some 11, .load 17 true (.t 5), none, [5]⟩,⟨some 12, .mv (.t 3), none, []⟩,⟨some 13, .call 101 [.t 11, .t 12], none, []⟩,⟨some 9, .mv (.t 13), none, []⟩] [3, 4, 6, 9]
def c51_2 : ACode := .ops [⟨some 14, .mv (.t 9), none, []⟩,⟨some 15, .bin .lss (.t 14) (.c (.int .i64 0)), none, []⟩] [3, 4, 6, 9, 15]
def c51_3 : ACode := .ops [⟨some 8, .mv (.c (.nils)), none, []⟩] [8]
def c51_4 : ACode := .seq c51_3 .ret
def c51_5 : ACode := .cond (.t 15) c51_4 .skip
def c51_6 : ACode := .seq c51_2 c51_5
def c51_7 : ACode := .ops [⟨some 16, .mv (.t 3), none, []⟩,⟨some 17, .iad (.t 6) (.t 16) 2 5, none, [6]⟩,⟨some 18, .load 2 true (.t 17), none, [6]⟩,⟨some 10, .alloc [.int .i64 0, .int .i64 0], none, []⟩,⟨none, .store (.t 10) 2 (.t 18), none, [10]⟩] [4, 9, 10]
def c51_8 : ACode := .ops [⟨some 19, .load 6 true (.t 4), none, [4]⟩,⟨some 20, .mv (.t 9), none, []⟩,⟨some 21, .gcall 43 [.t 19, .t 20] [] 21, none, []⟩,⟨some 22, .clo 103 [.t 10], none, [10]⟩,⟨some 23, .gcall 102 [.t 21, .t 22] [21] 21, none, [21]⟩,⟨some 8, .mv (.t 23), none, []⟩] [8]
def c51_9 : ACode := .seq c51_8 .ret
def c51_10 : ACode := .seq c51_7 c51_9
def c51_11 : ACode := .seq c51_6 c51_10
def c51_12 : ACode := .seq c51_1 c51_11
def c51_13 : ACode := .seq c51_0 c51_12
def a51 : AFun := ⟨4, 24, c51_13, [.t 8]⟩
def featOf (q : Query) (place : Int) : Int := if 0 ≤ place ∧ place < 4 then place else if place = 4 ∧ q.kind = 3 then q.feature else -1
def outS (s : Span) (t : Int) : Bool := decide (t < s.lo) || decide (s.hi ≤ t)
@[simp] theorem dec_ref_span (lo hi : Int) : (Arg.dec (.ipt 0 [.int .i64 lo, .int .i64 hi]) : Option (Ref Span)) = some ⟨⟨lo, hi⟩⟩ := Arg.dec_enc (⟨⟨lo, hi⟩⟩ : Ref Span)
def cutsL (m : Model) (q : Query) (b : Box) (place : Int) : List Int := if featOf q place < 0 then [] else (thrL m (featOf q place)).filter fun t => !outS (b.get place) t
end Go.Co
/- CO: thresholds rise; cuts of parts. -/
namespace Go.Co
open Go.Am Go.Proofs
set_option linter.unusedSimpArgs false
set_option linter.unusedVariables false
theorem compact_upto {zs : List Int} (hs : zs.Pairwise (· ≤ ·)) : ∀ (m : Nat), m ≤ zs.length → (∀ x, x ∈ Go.Lib.compactUpTo zs.toArray m ↔ x ∈ zs.take m) ∧ (Go.Lib.compactUpTo zs.toArray m).Pairwise (· < ·)
  | 0, _ => ⟨fun x => by simp [Go.Lib.compactUpTo], by simp [Go.Lib.compactUpTo]⟩
  | m + 1, hm => by
    obtain ⟨h1, h2⟩ := compact_upto hs m (by omega)
    have hg : ∀ (j : Nat) (h : j < zs.length), zs.toArray[j]! = zs[j] := fun j h => by simp [getElem!_pos, h]
    have hle : ∀ (i j : Nat) (hi : i < j) (hj : j < zs.length), zs[i] ≤ zs[j] := fun i j hi hj => List.pairwise_iff_getElem.1 hs i j (by omega) hj hi
    rw [Go.Lib.compactUpTo_succ, hg m (by omega)]
    by_cases hk : Go.Lib.keeps zs.toArray m = true
    · rw [if_pos hk]
      refine ⟨fun x => ?_, ?_⟩
      · rw [List.take_succ_eq_append_getElem (by omega), List.mem_append, List.mem_append, h1 x]
      · rw [List.pairwise_append]
        refine ⟨h2, by simp, fun a ha b hb => ?_⟩
        simp only [List.mem_singleton] at hb
        subst hb
        have ha' := (h1 a).1 ha
        obtain ⟨i, hi, rfl⟩ := List.mem_take_iff_getElem.1 ha'
        have hi' : i < m := by omega
        unfold Go.Lib.keeps at hk
        simp only [decide_eq_true_eq] at hk
        rcases hk with hk | hk
        · omega
        · rw [hg m (by omega), hg (m - 1) (by omega)] at hk
          have q1 : zs[i] ≤ zs[m - 1] := by
            by_cases e : i = m - 1
            · subst e; exact Int.le_refl _
            · exact hle i (m - 1) (by omega) (by omega)
          have q2 := hle (m - 1) m (by omega) (by omega)
          omega
    · rw [if_neg hk, List.append_nil]
      refine ⟨fun x => ?_, h2⟩
      rw [h1 x, List.take_succ_eq_append_getElem (by omega)]
      simp only [List.mem_append, List.mem_singleton]
      constructor
      · exact .inl
      · rintro (h | rfl)
        · exact h
        · unfold Go.Lib.keeps at hk
          simp only [decide_eq_true_eq, not_or] at hk
          obtain ⟨hk0, hk⟩ := hk
          rw [hg m (by omega), hg (m - 1) (by omega)] at hk
          have e : zs[m] = zs[m - 1] := by
            apply Classical.byContradiction
            exact hk
          rw [e]
          exact List.mem_take_iff_getElem.2 ⟨m - 1, by omega, rfl⟩
theorem compact_sorted {zs : List Int} (hs : zs.Pairwise (· ≤ ·)) : (Go.Lib.compact zs).Pairwise (· < ·) := by
  have := (compact_upto hs zs.length (Nat.le_refl _)).2
  unfold Go.Lib.compact
  simpa using this
theorem mem_compact {zs : List Int} (hs : zs.Pairwise (· ≤ ·)) (x : Int) : x ∈ Go.Lib.compact zs ↔ x ∈ zs := by
  have := (compact_upto hs zs.length (Nat.le_refl _)).1 x
  unfold Go.Lib.compact
  rw [List.take_length] at this
  simpa using this
theorem thr_sorted (m : Model) (j : Int) : (thrL m j).Pairwise (· < ·) := compact_sorted (isort_sorted _)
theorem mem_thr {m : Model} {j x : Int} : x ∈ thrL m j ↔ ∃ t ∈ m.trees, ∃ w ∈ t.nodes, (nd w).leaf = false ∧ (nd w).feature = j ∧ (nd w).cut = x := by
  unfold thrL
  rw [mem_compact (isort_sorted _), (isort_perm _).mem_iff]
  unfold rawM rawW cutF
  simp only [List.mem_flatMap, List.mem_filterMap]
  constructor
  · rintro ⟨t, ht, w, hw, h⟩
    split at h
    · rename_i hc
      cases h
      exact ⟨t, ht, w, hw, hc.1, hc.2, rfl⟩
    · cases h
  · rintro ⟨t, ht, w, hw, h1, h2, h3⟩
    exact ⟨t, ht, w, hw, by rw [if_pos ⟨h1, h2⟩, h3]⟩
end Go.Co
/- CO: right queries (written by mkCoJ.py). -/
namespace Go.Co
open Go.Am Go.Proofs
set_option linter.unusedSimpArgs false
set_option linter.unusedVariables false
end Go.Co
/- CO: boxes of a query, cuts of boxes and their counts. -/
namespace Go.Co
open Go.Am Go.Proofs
set_option linter.unusedSimpArgs false
set_option linter.unusedVariables false
end Go.Co
/- CO: the cells of a box, by places; points of one cell come to the same. -/
namespace Go.Co
open Go.Am Go.Proofs
set_option linter.unusedSimpArgs false
set_option linter.unusedVariables false
theorem walk_same {l : List Word} {dim : Int} (h : RT l dim) {p o : Point} (hs : ∀ i, i < l.length → (ndAt l i).leaf = false → (p.get (ndAt l i).feature ≤ (ndAt l i).cut ↔ o.get (ndAt l i).feature ≤ (ndAt l i).cut)) : ∀ (f i : Nat), i < l.length → walk l p f i = walk l o f i
  | 0, _, _ => rfl
  | f + 1, i, hi => by
    unfold walk
    cases hl : (ndAt l i).leaf
    · simp only [Bool.false_eq_true, if_false]
      have e : nxt (ndAt l i) p = nxt (ndAt l i) o := by
        unfold nxt
        have := hs i hi hl
        by_cases h1 : p.get (ndAt l i).feature ≤ (ndAt l i).cut
        · rw [if_pos h1, if_pos (this.1 h1)]
        · rw [if_neg h1, if_neg (fun h2 => h1 (this.2 h2))]
      rw [← e]
      exact walk_same h hs f _ (nxt_lt h hi hl p).2
    · simp only [if_true]
theorem eval_same {m : Model} (hm : RM m) {p o : Point} (h : ∀ j, 0 ≤ j → j < 4 → ∀ t ∈ thrL m j, (p.get j ≤ t ↔ o.get j ≤ t)) (c : Int) : evalM m c p = evalM m c o := by
  have key : ∀ t ∈ m.trees, valueAt t.nodes p = valueAt t.nodes o := by
    intro t ht
    have hr := hm.rt ht
    unfold valueAt leafOf
    rw [walk_same hr (fun i hi hl => ?_) 31 0 hr.pos]
    have hf := hr.feature hi hl
    exact h _ hf.1 hf.2 _ (mem_thr.2 ⟨t, ht, t.nodes[i], List.getElem_mem hi, by rw [← ndAt_lt hi]; exact hl, by rw [← ndAt_lt hi], by rw [← ndAt_lt hi]⟩)
  have fold : ∀ (l : List Tree) (s : Int), (∀ t ∈ l, valueAt t.nodes p = valueAt t.nodes o) → l.foldl (evalF c p) s = l.foldl (evalF c o) s := by
    intro l
    induction l with
    | nil => intro s _; rfl
    | cons t l ih =>
      intro s hl
      rw [List.foldl_cons, List.foldl_cons, show evalF c p s t = evalF c o s t by unfold evalF; rw [hl t (by simp)]]
      exact ih _ fun t ht => hl t (by simp [ht])
  exact fold m.trees _ key
structure PartTo (m : Model) (q : Query) (b : Box) (j : Nat) (x : Box) : Prop where
  done : ∀ i : Int, 0 ≤ i → i < j → (x.get i).lo ≤ (x.get i).hi ∧ (b.get i).lo ≤ (x.get i).lo ∧ (x.get i).hi ≤ (b.get i).hi ∧ ∀ t ∈ cutsL m q b i, t < (x.get i).lo ∨ (x.get i).hi ≤ t
  rest : ∀ i : Int, (j : Int) ≤ i → i < 5 → x.get i = b.get i
end Go.Co
/- CO: what a statement's reading of an argument says, type by type (written by mkCoSh.py). -/
namespace Go.Co
open Go.Am Go.RowKit
set_option linter.unusedVariables false
theorem okR_nil {xs : List AV} (h : okR [] xs) : xs = [] := by
  cases xs with
  | nil => rfl
  | cons x xs => simp [okR] at h
theorem okR_cons {s : Shp} {ss : List Shp} {xs : List AV} (h : okR (s :: ss) xs) : ∃ x ys, xs = x :: ys ∧ okS s x ∧ okR ss ys := by
  cases xs with
  | nil => simp [okR] at h
  | cons x xs => simp only [okR] at h; exact ⟨x, xs, rfl, h.1, h.2⟩
theorem okS_int {x : AV} (h : okS (.int .i64) x) : ∃ n, x = .int .i64 n ∧ ok64 n := by
  cases x <;> simp only [okS] at h
  obtain ⟨rfl, h1, h2⟩ := h
  exact ⟨_, rfl, h1, h2⟩
theorem okS_word {x : AV} (h : okS (.int .u64) x) : ∃ n, x = .int .u64 n ∧ okW n := by
  cases x <;> simp only [okS] at h
  obtain ⟨rfl, h1, h2⟩ := h
  exact ⟨_, rfl, h1, Int.lt_of_le_of_lt h2 (by decide)⟩
theorem okS_bool {x : AV} (h : okS .bool x) : ∃ b, x = .bool b := by
  cases x <;> simp only [okS] at h
  exact ⟨_, rfl⟩
class Sh (α : Type) [Row α] where
  ss : List Shp
  good : α → Prop
  len : ss.length = Row.sz α
  read : ∀ xs, okR ss xs → ∃ a, xs = Row.enc a ∧ good a
theorem rows_read {α : Type} [Row α] [Sh α] : ∀ (n : Nat) (xs : List AV), xs.length = n * Row.sz α → (∀ i, i < n → okR (Sh.ss α) ((xs.drop (i * Row.sz α)).take (Row.sz α))) → ∃ l : List α, l.length = n ∧ xs = encL l ∧ ∀ a ∈ l, Sh.good a
  | 0, xs, h, _ => ⟨[], rfl, by rw [encL_nil]; exact List.eq_nil_of_length_eq_zero (by simpa using h), by simp⟩
  | n + 1, xs, h, hr => by
    have hp := Row.pos (α := α)
    obtain ⟨a, ha, hg⟩ := Sh.read _ (hr 0 (by omega))
    rw [Nat.succ_mul] at h
    obtain ⟨l, hl, hx, hgl⟩ := rows_read (α := α) n (xs.drop (Row.sz α)) (by rw [List.length_drop]; omega) (fun i hi => by
      have := hr (i + 1) (by omega)
      rw [Nat.succ_mul, Nat.add_comm, ← List.drop_drop] at this
      exact this)
    refine ⟨a :: l, by simp [hl], ?_, ?_⟩
    · rw [encL_cons, ← hx]
      simp only [Nat.zero_mul, List.drop_zero] at ha
      rw [← ha, List.take_append_drop]
    · intro b hb
      rcases List.mem_cons.1 hb with rfl | hb
      · exact hg
      · exact hgl b hb
theorem okS_list {α : Type} [Row α] [Sh α] {x : AV} (h : okS (.sl (Sh.ss α)) x) : ∃ l : List α, x = .lst l.length (encL l) ∧ (∀ a ∈ l, Sh.good a) ∧ l.length ≤ maxLen := by
  cases x <;> simp only [okS] at h
  rename_i n xs
  rw [Sh.len] at h
  obtain ⟨l, rfl, rfl, hg⟩ := rows_read (α := α) n xs h.2.1 h.2.2
  exact ⟨l, rfl, hg, h.1⟩
instance : Sh Int where
  ss := [.int .i64]
  good n := ok64 n
  len := rfl
  read xs h := by
    obtain ⟨x, xs, rfl, h0, h⟩ := okR_cons h
    obtain rfl := okR_nil h
    obtain ⟨n, rfl, b⟩ := okS_int h0
    exact ⟨n, rfl, b⟩
instance : Sh Word where
  ss := [.int .u64]
  good n := okW n.v
  len := rfl
  read xs h := by
    obtain ⟨x, xs, rfl, h0, h⟩ := okR_cons h
    obtain rfl := okR_nil h
    obtain ⟨n, rfl, b⟩ := okS_word h0
    exact ⟨⟨n⟩, rfl, b⟩
instance : Sh Span where
  ss := [.int .i64, .int .i64]
  good a := ok64 a.lo ∧ ok64 a.hi
  len := rfl
  read xs h := by
    obtain ⟨x0, xs, rfl, h0, h⟩ := okR_cons h
    obtain ⟨x1, xs, rfl, h1, h⟩ := okR_cons h
    obtain rfl := okR_nil h
    obtain ⟨v0, rfl, b0⟩ := okS_int h0
    obtain ⟨v1, rfl, b1⟩ := okS_int h1
    exact ⟨⟨v0, v1⟩, rfl, b0, b1⟩
instance : Sh Box where
  ss := [.int .i64, .int .i64, .int .i64, .int .i64, .int .i64, .int .i64, .int .i64, .int .i64, .int .i64, .int .i64]
  good a := ok64 a.s0.lo ∧ ok64 a.s0.hi ∧ ok64 a.s1.lo ∧ ok64 a.s1.hi ∧ ok64 a.s2.lo ∧ ok64 a.s2.hi ∧ ok64 a.s3.lo ∧ ok64 a.s3.hi ∧ ok64 a.s4.lo ∧ ok64 a.s4.hi
  len := rfl
  read xs h := by
    obtain ⟨x0, xs, rfl, h0, h⟩ := okR_cons h
    obtain ⟨x1, xs, rfl, h1, h⟩ := okR_cons h
    obtain ⟨x2, xs, rfl, h2, h⟩ := okR_cons h
    obtain ⟨x3, xs, rfl, h3, h⟩ := okR_cons h
    obtain ⟨x4, xs, rfl, h4, h⟩ := okR_cons h
    obtain ⟨x5, xs, rfl, h5, h⟩ := okR_cons h
    obtain ⟨x6, xs, rfl, h6, h⟩ := okR_cons h
    obtain ⟨x7, xs, rfl, h7, h⟩ := okR_cons h
    obtain ⟨x8, xs, rfl, h8, h⟩ := okR_cons h
    obtain ⟨x9, xs, rfl, h9, h⟩ := okR_cons h
    obtain rfl := okR_nil h
    obtain ⟨v0, rfl, b0⟩ := okS_int h0
    obtain ⟨v1, rfl, b1⟩ := okS_int h1
    obtain ⟨v2, rfl, b2⟩ := okS_int h2
    obtain ⟨v3, rfl, b3⟩ := okS_int h3
    obtain ⟨v4, rfl, b4⟩ := okS_int h4
    obtain ⟨v5, rfl, b5⟩ := okS_int h5
    obtain ⟨v6, rfl, b6⟩ := okS_int h6
    obtain ⟨v7, rfl, b7⟩ := okS_int h7
    obtain ⟨v8, rfl, b8⟩ := okS_int h8
    obtain ⟨v9, rfl, b9⟩ := okS_int h9
    exact ⟨⟨⟨v0, v1⟩, ⟨v2, v3⟩, ⟨v4, v5⟩, ⟨v6, v7⟩, ⟨v8, v9⟩⟩, rfl, b0, b1, b2, b3, b4, b5, b6, b7, b8, b9⟩
instance : Sh Point where
  ss := [.int .i64, .int .i64, .int .i64, .int .i64]
  good a := ok64 a.p0 ∧ ok64 a.p1 ∧ ok64 a.p2 ∧ ok64 a.p3
  len := rfl
  read xs h := by
    obtain ⟨x0, xs, rfl, h0, h⟩ := okR_cons h
    obtain ⟨x1, xs, rfl, h1, h⟩ := okR_cons h
    obtain ⟨x2, xs, rfl, h2, h⟩ := okR_cons h
    obtain ⟨x3, xs, rfl, h3, h⟩ := okR_cons h
    obtain rfl := okR_nil h
    obtain ⟨v0, rfl, b0⟩ := okS_int h0
    obtain ⟨v1, rfl, b1⟩ := okS_int h1
    obtain ⟨v2, rfl, b2⟩ := okS_int h2
    obtain ⟨v3, rfl, b3⟩ := okS_int h3
    exact ⟨⟨v0, v1, v2, v3⟩, rfl, b0, b1, b2, b3⟩
instance : Sh Bias where
  ss := [.int .i64, .int .i64, .int .i64]
  good a := ok64 a.b0 ∧ ok64 a.b1 ∧ ok64 a.b2
  len := rfl
  read xs h := by
    obtain ⟨x0, xs, rfl, h0, h⟩ := okR_cons h
    obtain ⟨x1, xs, rfl, h1, h⟩ := okR_cons h
    obtain ⟨x2, xs, rfl, h2, h⟩ := okR_cons h
    obtain rfl := okR_nil h
    obtain ⟨v0, rfl, b0⟩ := okS_int h0
    obtain ⟨v1, rfl, b1⟩ := okS_int h1
    obtain ⟨v2, rfl, b2⟩ := okS_int h2
    exact ⟨⟨v0, v1, v2⟩, rfl, b0, b1, b2⟩
instance : Sh Node where
  ss := [.bool, .int .i64, .int .i64, .int .i64, .int .i64, .int .i64]
  good a := True ∧ ok64 a.value ∧ ok64 a.feature ∧ ok64 a.cut ∧ ok64 a.left ∧ ok64 a.right
  len := rfl
  read xs h := by
    obtain ⟨x0, xs, rfl, h0, h⟩ := okR_cons h
    obtain ⟨x1, xs, rfl, h1, h⟩ := okR_cons h
    obtain ⟨x2, xs, rfl, h2, h⟩ := okR_cons h
    obtain ⟨x3, xs, rfl, h3, h⟩ := okR_cons h
    obtain ⟨x4, xs, rfl, h4, h⟩ := okR_cons h
    obtain ⟨x5, xs, rfl, h5, h⟩ := okR_cons h
    obtain rfl := okR_nil h
    obtain ⟨v0, rfl⟩ := okS_bool h0
    obtain ⟨v1, rfl, b1⟩ := okS_int h1
    obtain ⟨v2, rfl, b2⟩ := okS_int h2
    obtain ⟨v3, rfl, b3⟩ := okS_int h3
    obtain ⟨v4, rfl, b4⟩ := okS_int h4
    obtain ⟨v5, rfl, b5⟩ := okS_int h5
    exact ⟨⟨v0, v1, v2, v3, v4, v5⟩, rfl, trivial, b1, b2, b3, b4, b5⟩
instance : Sh Tree where
  ss := [.int .i64, .sl (Sh.ss Word)]
  good a := ok64 a.cls ∧ ((∀ x ∈ a.nodes, Sh.good x) ∧ a.nodes.length ≤ maxLen)
  len := rfl
  read xs h := by
    obtain ⟨x0, xs, rfl, h0, h⟩ := okR_cons h
    obtain ⟨x1, xs, rfl, h1, h⟩ := okR_cons h
    obtain rfl := okR_nil h
    obtain ⟨v0, rfl, b0⟩ := okS_int h0
    obtain ⟨v1, rfl, b1⟩ := okS_list (α := Word) h1
    exact ⟨⟨v0, v1⟩, rfl, b0, b1⟩
instance : Sh Model where
  ss := [.int .i64, .int .i64, .int .i64, .int .i64, .int .i64, .sl (Sh.ss Tree)]
  good a := ok64 a.dim ∧ ok64 a.classes ∧ ok64 a.bias.b0 ∧ ok64 a.bias.b1 ∧ ok64 a.bias.b2 ∧ ((∀ x ∈ a.trees, Sh.good x) ∧ a.trees.length ≤ maxLen)
  len := rfl
  read xs h := by
    obtain ⟨x0, xs, rfl, h0, h⟩ := okR_cons h
    obtain ⟨x1, xs, rfl, h1, h⟩ := okR_cons h
    obtain ⟨x2, xs, rfl, h2, h⟩ := okR_cons h
    obtain ⟨x3, xs, rfl, h3, h⟩ := okR_cons h
    obtain ⟨x4, xs, rfl, h4, h⟩ := okR_cons h
    obtain ⟨x5, xs, rfl, h5, h⟩ := okR_cons h
    obtain rfl := okR_nil h
    obtain ⟨v0, rfl, b0⟩ := okS_int h0
    obtain ⟨v1, rfl, b1⟩ := okS_int h1
    obtain ⟨v2, rfl, b2⟩ := okS_int h2
    obtain ⟨v3, rfl, b3⟩ := okS_int h3
    obtain ⟨v4, rfl, b4⟩ := okS_int h4
    obtain ⟨v5, rfl, b5⟩ := okS_list (α := Tree) h5
    exact ⟨⟨v0, v1, ⟨v2, v3, v4⟩, v5⟩, rfl, b0, b1, b2, b3, b4, b5⟩
instance : Sh Piece where
  ss := [.int .i64, .int .i64, .int .i64, .int .i64, .int .i64, .int .i64, .int .i64, .int .i64, .int .i64, .int .i64, .int .i64]
  good a := ok64 a.box.s0.lo ∧ ok64 a.box.s0.hi ∧ ok64 a.box.s1.lo ∧ ok64 a.box.s1.hi ∧ ok64 a.box.s2.lo ∧ ok64 a.box.s2.hi ∧ ok64 a.box.s3.lo ∧ ok64 a.box.s3.hi ∧ ok64 a.box.s4.lo ∧ ok64 a.box.s4.hi ∧ ok64 a.value
  len := rfl
  read xs h := by
    obtain ⟨x0, xs, rfl, h0, h⟩ := okR_cons h
    obtain ⟨x1, xs, rfl, h1, h⟩ := okR_cons h
    obtain ⟨x2, xs, rfl, h2, h⟩ := okR_cons h
    obtain ⟨x3, xs, rfl, h3, h⟩ := okR_cons h
    obtain ⟨x4, xs, rfl, h4, h⟩ := okR_cons h
    obtain ⟨x5, xs, rfl, h5, h⟩ := okR_cons h
    obtain ⟨x6, xs, rfl, h6, h⟩ := okR_cons h
    obtain ⟨x7, xs, rfl, h7, h⟩ := okR_cons h
    obtain ⟨x8, xs, rfl, h8, h⟩ := okR_cons h
    obtain ⟨x9, xs, rfl, h9, h⟩ := okR_cons h
    obtain ⟨x10, xs, rfl, h10, h⟩ := okR_cons h
    obtain rfl := okR_nil h
    obtain ⟨v0, rfl, b0⟩ := okS_int h0
    obtain ⟨v1, rfl, b1⟩ := okS_int h1
    obtain ⟨v2, rfl, b2⟩ := okS_int h2
    obtain ⟨v3, rfl, b3⟩ := okS_int h3
    obtain ⟨v4, rfl, b4⟩ := okS_int h4
    obtain ⟨v5, rfl, b5⟩ := okS_int h5
    obtain ⟨v6, rfl, b6⟩ := okS_int h6
    obtain ⟨v7, rfl, b7⟩ := okS_int h7
    obtain ⟨v8, rfl, b8⟩ := okS_int h8
    obtain ⟨v9, rfl, b9⟩ := okS_int h9
    obtain ⟨v10, rfl, b10⟩ := okS_int h10
    exact ⟨⟨⟨⟨v0, v1⟩, ⟨v2, v3⟩, ⟨v4, v5⟩, ⟨v6, v7⟩, ⟨v8, v9⟩⟩, v10⟩, rfl, b0, b1, b2, b3, b4, b5, b6, b7, b8, b9, b10⟩
instance : Sh Step where
  ss := [.bool, .int .i64, .int .i64]
  good a := True ∧ ok64 a.place ∧ ok64 a.cut
  len := rfl
  read xs h := by
    obtain ⟨x0, xs, rfl, h0, h⟩ := okR_cons h
    obtain ⟨x1, xs, rfl, h1, h⟩ := okR_cons h
    obtain ⟨x2, xs, rfl, h2, h⟩ := okR_cons h
    obtain rfl := okR_nil h
    obtain ⟨v0, rfl⟩ := okS_bool h0
    obtain ⟨v1, rfl, b1⟩ := okS_int h1
    obtain ⟨v2, rfl, b2⟩ := okS_int h2
    exact ⟨⟨v0, v1, v2⟩, rfl, trivial, b1, b2⟩
instance : Sh Query where
  ss := [.int .i64, .int .i64, .int .i64, .int .i64, .int .i64, .int .i64, .int .i64, .int .i64, .int .i64, .int .i64, .int .i64, .int .i64, .int .i64, .int .i64, .int .i64, .bool, .int .i64]
  good a := ok64 a.kind ∧ ok64 a.cls ∧ ok64 a.region.s0.lo ∧ ok64 a.region.s0.hi ∧ ok64 a.region.s1.lo ∧ ok64 a.region.s1.hi ∧ ok64 a.region.s2.lo ∧ ok64 a.region.s2.hi ∧ ok64 a.region.s3.lo ∧ ok64 a.region.s3.hi ∧ ok64 a.region.s4.lo ∧ ok64 a.region.s4.hi ∧ ok64 a.lo ∧ ok64 a.hi ∧ ok64 a.feature ∧ True ∧ ok64 a.budget
  len := rfl
  read xs h := by
    obtain ⟨x0, xs, rfl, h0, h⟩ := okR_cons h
    obtain ⟨x1, xs, rfl, h1, h⟩ := okR_cons h
    obtain ⟨x2, xs, rfl, h2, h⟩ := okR_cons h
    obtain ⟨x3, xs, rfl, h3, h⟩ := okR_cons h
    obtain ⟨x4, xs, rfl, h4, h⟩ := okR_cons h
    obtain ⟨x5, xs, rfl, h5, h⟩ := okR_cons h
    obtain ⟨x6, xs, rfl, h6, h⟩ := okR_cons h
    obtain ⟨x7, xs, rfl, h7, h⟩ := okR_cons h
    obtain ⟨x8, xs, rfl, h8, h⟩ := okR_cons h
    obtain ⟨x9, xs, rfl, h9, h⟩ := okR_cons h
    obtain ⟨x10, xs, rfl, h10, h⟩ := okR_cons h
    obtain ⟨x11, xs, rfl, h11, h⟩ := okR_cons h
    obtain ⟨x12, xs, rfl, h12, h⟩ := okR_cons h
    obtain ⟨x13, xs, rfl, h13, h⟩ := okR_cons h
    obtain ⟨x14, xs, rfl, h14, h⟩ := okR_cons h
    obtain ⟨x15, xs, rfl, h15, h⟩ := okR_cons h
    obtain ⟨x16, xs, rfl, h16, h⟩ := okR_cons h
    obtain rfl := okR_nil h
    obtain ⟨v0, rfl, b0⟩ := okS_int h0
    obtain ⟨v1, rfl, b1⟩ := okS_int h1
    obtain ⟨v2, rfl, b2⟩ := okS_int h2
    obtain ⟨v3, rfl, b3⟩ := okS_int h3
    obtain ⟨v4, rfl, b4⟩ := okS_int h4
    obtain ⟨v5, rfl, b5⟩ := okS_int h5
    obtain ⟨v6, rfl, b6⟩ := okS_int h6
    obtain ⟨v7, rfl, b7⟩ := okS_int h7
    obtain ⟨v8, rfl, b8⟩ := okS_int h8
    obtain ⟨v9, rfl, b9⟩ := okS_int h9
    obtain ⟨v10, rfl, b10⟩ := okS_int h10
    obtain ⟨v11, rfl, b11⟩ := okS_int h11
    obtain ⟨v12, rfl, b12⟩ := okS_int h12
    obtain ⟨v13, rfl, b13⟩ := okS_int h13
    obtain ⟨v14, rfl, b14⟩ := okS_int h14
    obtain ⟨v15, rfl⟩ := okS_bool h15
    obtain ⟨v16, rfl, b16⟩ := okS_int h16
    exact ⟨⟨v0, v1, ⟨⟨v2, v3⟩, ⟨v4, v5⟩, ⟨v6, v7⟩, ⟨v8, v9⟩, ⟨v10, v11⟩⟩, v12, v13, v14, v15, v16⟩, rfl, b0, b1, b2, b3, b4, b5, b6, b7, b8, b9, b10, b11, b12, b13, b14, trivial, b16⟩
instance : Sh Verdict where
  ss := [.int .i64, .sl (Sh.ss Step), .int .i64, .int .i64, .int .i64, .int .i64, .int .i64, .int .i64]
  good a := ok64 a.kind ∧ ((∀ x ∈ a.proof, Sh.good x) ∧ a.proof.length ≤ maxLen) ∧ ok64 a.witness.p0 ∧ ok64 a.witness.p1 ∧ ok64 a.witness.p2 ∧ ok64 a.witness.p3 ∧ ok64 a.twin ∧ ok64 a.spent
  len := rfl
  read xs h := by
    obtain ⟨x0, xs, rfl, h0, h⟩ := okR_cons h
    obtain ⟨x1, xs, rfl, h1, h⟩ := okR_cons h
    obtain ⟨x2, xs, rfl, h2, h⟩ := okR_cons h
    obtain ⟨x3, xs, rfl, h3, h⟩ := okR_cons h
    obtain ⟨x4, xs, rfl, h4, h⟩ := okR_cons h
    obtain ⟨x5, xs, rfl, h5, h⟩ := okR_cons h
    obtain ⟨x6, xs, rfl, h6, h⟩ := okR_cons h
    obtain ⟨x7, xs, rfl, h7, h⟩ := okR_cons h
    obtain rfl := okR_nil h
    obtain ⟨v0, rfl, b0⟩ := okS_int h0
    obtain ⟨v1, rfl, b1⟩ := okS_list (α := Step) h1
    obtain ⟨v2, rfl, b2⟩ := okS_int h2
    obtain ⟨v3, rfl, b3⟩ := okS_int h3
    obtain ⟨v4, rfl, b4⟩ := okS_int h4
    obtain ⟨v5, rfl, b5⟩ := okS_int h5
    obtain ⟨v6, rfl, b6⟩ := okS_int h6
    obtain ⟨v7, rfl, b7⟩ := okS_int h7
    exact ⟨⟨v0, v1, ⟨v2, v3, v4, v5⟩, v6, v7⟩, rfl, b0, b1, b2, b3, b4, b5, b6, b7⟩
instance : Sh KTree where
  ss := [.int .i64, .sl (Sh.ss Int), .sl (Sh.ss Int), .sl (Sh.ss Int), .sl (Sh.ss Int)]
  good a := ok64 a.cls ∧ ((∀ x ∈ a.part, Sh.good x) ∧ a.part.length ≤ maxLen) ∧ ((∀ x ∈ a.dir, Sh.good x) ∧ a.dir.length ≤ maxLen) ∧ ((∀ x ∈ a.cut, Sh.good x) ∧ a.cut.length ≤ maxLen) ∧ ((∀ x ∈ a.val, Sh.good x) ∧ a.val.length ≤ maxLen)
  len := rfl
  read xs h := by
    obtain ⟨x0, xs, rfl, h0, h⟩ := okR_cons h
    obtain ⟨x1, xs, rfl, h1, h⟩ := okR_cons h
    obtain ⟨x2, xs, rfl, h2, h⟩ := okR_cons h
    obtain ⟨x3, xs, rfl, h3, h⟩ := okR_cons h
    obtain ⟨x4, xs, rfl, h4, h⟩ := okR_cons h
    obtain rfl := okR_nil h
    obtain ⟨v0, rfl, b0⟩ := okS_int h0
    obtain ⟨v1, rfl, b1⟩ := okS_list (α := Int) h1
    obtain ⟨v2, rfl, b2⟩ := okS_list (α := Int) h2
    obtain ⟨v3, rfl, b3⟩ := okS_list (α := Int) h3
    obtain ⟨v4, rfl, b4⟩ := okS_list (α := Int) h4
    exact ⟨⟨v0, v1, v2, v3, v4⟩, rfl, b0, b1, b2, b3, b4⟩
instance : Sh Forest where
  ss := [.int .i64, .int .i64, .sl (Sh.ss Int), .sl (Sh.ss KTree)]
  good a := ok64 a.dim ∧ ok64 a.classes ∧ ((∀ x ∈ a.bias, Sh.good x) ∧ a.bias.length ≤ maxLen) ∧ ((∀ x ∈ a.trees, Sh.good x) ∧ a.trees.length ≤ maxLen)
  len := rfl
  read xs h := by
    obtain ⟨x0, xs, rfl, h0, h⟩ := okR_cons h
    obtain ⟨x1, xs, rfl, h1, h⟩ := okR_cons h
    obtain ⟨x2, xs, rfl, h2, h⟩ := okR_cons h
    obtain ⟨x3, xs, rfl, h3, h⟩ := okR_cons h
    obtain rfl := okR_nil h
    obtain ⟨v0, rfl, b0⟩ := okS_int h0
    obtain ⟨v1, rfl, b1⟩ := okS_int h1
    obtain ⟨v2, rfl, b2⟩ := okS_list (α := Int) h2
    obtain ⟨v3, rfl, b3⟩ := okS_list (α := KTree) h3
    exact ⟨⟨v0, v1, v2, v3⟩, rfl, b0, b1, b2, b3⟩
instance : Sh Ask where
  ss := [.int .i64, .int .i64, .int .i64, .int .i64, .int .i64, .int .i64, .bool, .sl (Sh.ss Int)]
  good a := ok64 a.kind ∧ ok64 a.cls ∧ ok64 a.lo ∧ ok64 a.size ∧ ok64 a.feature ∧ ok64 a.budget ∧ True ∧ ((∀ x ∈ a.spans, Sh.good x) ∧ a.spans.length ≤ maxLen)
  len := rfl
  read xs h := by
    obtain ⟨x0, xs, rfl, h0, h⟩ := okR_cons h
    obtain ⟨x1, xs, rfl, h1, h⟩ := okR_cons h
    obtain ⟨x2, xs, rfl, h2, h⟩ := okR_cons h
    obtain ⟨x3, xs, rfl, h3, h⟩ := okR_cons h
    obtain ⟨x4, xs, rfl, h4, h⟩ := okR_cons h
    obtain ⟨x5, xs, rfl, h5, h⟩ := okR_cons h
    obtain ⟨x6, xs, rfl, h6, h⟩ := okR_cons h
    obtain ⟨x7, xs, rfl, h7, h⟩ := okR_cons h
    obtain rfl := okR_nil h
    obtain ⟨v0, rfl, b0⟩ := okS_int h0
    obtain ⟨v1, rfl, b1⟩ := okS_int h1
    obtain ⟨v2, rfl, b2⟩ := okS_int h2
    obtain ⟨v3, rfl, b3⟩ := okS_int h3
    obtain ⟨v4, rfl, b4⟩ := okS_int h4
    obtain ⟨v5, rfl, b5⟩ := okS_int h5
    obtain ⟨v6, rfl⟩ := okS_bool h6
    obtain ⟨v7, rfl, b7⟩ := okS_list (α := Int) h7
    exact ⟨⟨v0, v1, v2, v3, v4, v5, v6, v7⟩, rfl, b0, b1, b2, b3, b4, b5, trivial, b7⟩
instance : Sh Cutting where
  ss := [.sl (Sh.ss Int), .sl (Sh.ss Int)]
  good a := ((∀ x ∈ a.place, Sh.good x) ∧ a.place.length ≤ maxLen) ∧ ((∀ x ∈ a.cut, Sh.good x) ∧ a.cut.length ≤ maxLen)
  len := rfl
  read xs h := by
    obtain ⟨x0, xs, rfl, h0, h⟩ := okR_cons h
    obtain ⟨x1, xs, rfl, h1, h⟩ := okR_cons h
    obtain rfl := okR_nil h
    obtain ⟨v0, rfl, b0⟩ := okS_list (α := Int) h0
    obtain ⟨v1, rfl, b1⟩ := okS_list (α := Int) h1
    exact ⟨⟨v0, v1⟩, rfl, b0, b1⟩
variable {P : Program} {t : TypeId} {x : AV}
theorem arg_agg {α : Type} [Row α] [Sh α] (h1 : isAggT P t = true) (h2 : shp P 20 t = some (Sh.ss α)) (h : argOk P t x) : ∃ a : α, x = .agg (Row.enc a) ∧ Sh.good a := by
  unfold argOk at h
  rw [h1] at h
  obtain ⟨xs, ss, rfl, hs, hr⟩ := h
  rw [h2] at hs
  cases hs
  obtain ⟨a, rfl, hg⟩ := Sh.read _ hr
  exact ⟨a, rfl, hg⟩
theorem argsOk_cons {t : TypeId} {ts : List TypeId} {xs : List AV} (h : argsOk P (t :: ts) xs) : ∃ x ys, xs = x :: ys ∧ argOk P t x ∧ argsOk P ts ys := by
  cases xs with
  | nil => simp [argsOk] at h
  | cons x xs => simp only [argsOk] at h; exact ⟨x, xs, rfl, h.1, h.2⟩
theorem argsOk_nil {xs : List AV} (h : argsOk P [] xs) : xs = [] := by
  cases xs with
  | nil => rfl
  | cons x xs => simp [argsOk] at h
end Go.Co
