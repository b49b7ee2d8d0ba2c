/- CO: thresholds of a feature. -/
import Derived.Test.YtagfmcachoaacaaCoLib
import Derived.Test.YtagfmcachoaacaaCoRt
namespace Go.Co
open Go.Am Go.Proofs
set_option linter.unusedSimpArgs false
set_option linter.unusedVariables false
attribute [-simp] Go.Am.eff_gcall
def c41_0 : ACode := .ops [⟨some 2, .box (.t 0) 6, none, []⟩,
  ⟨some 4, .mv (.c (.nils)), none, []⟩] [1, 2]
theorem r41_0 : type_of% (@rr _ _ c41_0.eq_1) := rr c41_0.eq_1
def c41_1 : ACode := .ops [⟨some 12, .load 6 true (.t 2), none, [2]⟩,
  ⟨some 13, .call 47 [.t 12], none, []⟩,
  ⟨some 14, .un .not (.t 13), none, []⟩] [1, 2, 14]
theorem r41_1 : type_of% (@rr _ _ c41_1.eq_1) := rr c41_1.eq_1
def c41_2 : ACode := .ops [⟨some 4, .mv (.c (.nils)), none, []⟩] [4]
theorem r41_2 : type_of% (@rr _ _ c41_2.eq_1) := rr c41_2.eq_1
def c41_3 : ACode := .seq c41_2 .ret
theorem r41_3 : type_of% (@rr _ _ c41_3.eq_1) := rr c41_3.eq_1
def c41_4 : ACode := .cond (.t 14) c41_3 .skip
theorem r41_4 : type_of% (@rr _ _ c41_4.eq_1) := rr c41_4.eq_1
def c41_5 : ACode := .seq c41_1 c41_4
theorem r41_5 : type_of% (@rr _ _ c41_5.eq_1) := rr c41_5.eq_1
def c41_6 : ACode := .ops [⟨some 5, .nil0 5 1, none, []⟩] [1, 2, 5]
theorem r41_6 : type_of% (@rr _ _ c41_6.eq_1) := rr c41_6.eq_1
def c41_7 : ACode := .ops [⟨some 15, .fad (.t 2) 5, none, [2]⟩,
  ⟨some 16, .load 1 false (.t 15), none, [2]⟩,
  ⟨some 17, .len (.t 16), none, []⟩,
  ⟨some 18, .mv (.c (.int .i64 0)), none, []⟩] [1, 5, 16, 17, 18]
theorem r41_7 : type_of% (@rr _ _ c41_7.eq_1) := rr c41_7.eq_1
def c41_8 : ACode := .ops [⟨some 19, .bin .lss (.t 18) (.t 17), none, []⟩] [1, 5, 16, 17, 18, 19]
theorem r41_8 : type_of% (@rr _ _ c41_8.eq_1) := rr c41_8.eq_1
def c41_9 : ACode := .cond (.t 19) .skip (.exit 0)
theorem r41_9 : type_of% (@rr _ _ c41_9.eq_1) := rr c41_9.eq_1
def c41_10 : ACode := .ops [⟨some 20, .ias (.t 16) (.t 18) 2, none, []⟩,
  ⟨some 21, .load 2 true (.t 20), none, []⟩,
  ⟨some 7, .alloc [.int .i64 0, .nils], none, []⟩,
  ⟨none, .store (.t 7) 2 (.t 21), none, [7]⟩] [1, 5, 7, 16, 17, 18]
theorem r41_10 : type_of% (@rr _ _ c41_10.eq_1) := rr c41_10.eq_1
def c41_11 : ACode := .ops [⟨some 22, .fad (.t 7) 1, none, [7]⟩,
  ⟨some 23, .load 1 false (.t 22), none, [7]⟩,
  ⟨some 24, .len (.t 23), none, []⟩,
  ⟨some 25, .mv (.c (.int .i64 0)), none, []⟩] [1, 5, 16, 17, 18, 23, 24, 25]
theorem r41_11 : type_of% (@rr _ _ c41_11.eq_1) := rr c41_11.eq_1
def c41_12 : ACode := .ops [⟨some 26, .bin .lss (.t 25) (.t 24), none, []⟩] [1, 5, 16, 17, 18, 23, 24, 25, 26]
theorem r41_12 : type_of% (@rr _ _ c41_12.eq_1) := rr c41_12.eq_1
def c41_13 : ACode := .cond (.t 26) .skip (.exit 2)
theorem r41_13 : type_of% (@rr _ _ c41_13.eq_1) := rr c41_13.eq_1
def c41_14 : ACode := .ops [⟨some 27, .ias (.t 23) (.t 25) 1, none, []⟩,
  ⟨some 28, .load 1 false (.t 27), none, []⟩,
  ⟨some 9, .mv (.t 28), none, []⟩] [1, 5, 9, 16, 17, 18, 23, 24, 25]
theorem r41_14 : type_of% (@rr _ _ c41_14.eq_1) := rr c41_14.eq_1
def c41_15 : ACode := .ops [⟨some 30, .mv (.t 9), none, []⟩,
  ⟨some 31, .call 65 [.t 30], none, []⟩,
  ⟨some 29, .mv (.t 31), none, []⟩,
  ⟨some 32, .ext (.t 29) 0, none, []⟩,
  ⟨some 33, .ext (.t 29) 1, none, []⟩,
  ⟨some 10, .alloc [.bool false, .int .i64 0, .int .i64 0, .int .i64 0, .int .i64 0, .int .i64 0], none, []⟩,
  ⟨none, .store (.t 10) 6 (.t 32), none, [10]⟩,
  ⟨some 11, .mv (.t 33), none, []⟩] [1, 5, 10, 16, 17, 18, 23, 24, 25]
theorem r41_15 : type_of% (@rr _ _ c41_15.eq_1) := rr c41_15.eq_1
def c41_16 : ACode := .ops [⟨some 34, .fad (.t 10) 0, none, [10]⟩,
  ⟨some 35, .load 1 false (.t 34), none, [10]⟩,
  ⟨some 36, .un .not (.t 35), none, []⟩,
  ⟨some 37, .mv (.t 36), none, []⟩,
  ⟨some 38, .fad (.t 10) 2, some (37, true), [10]⟩,
  ⟨some 39, .load 1 false (.t 38), some (37, true), [10]⟩,
  ⟨some 40, .mv (.t 1), some (37, true), []⟩,
  ⟨some 41, .bin .eql (.t 39) (.t 40), some (37, true), []⟩,
  ⟨some 42, .pick (.t 37) (.t 41) (.c (.bool false)), none, []⟩] [1, 5, 10, 16, 17, 18, 23, 24, 25, 42]
theorem r41_16 : type_of% (@rr _ _ c41_16.eq_1) := rr c41_16.eq_1
def c41_17 : ACode := .ops [⟨some 43, .mv (.t 5), none, []⟩,
  ⟨some 44, .fad (.t 10) 3, none, [10]⟩,
  ⟨some 45, .load 1 false (.t 44), none, [10]⟩,
  ⟨some 46, .mkrow 46 1 1 [.int .i64 0] [(0, 1, .t 45)], none, []⟩,
  ⟨some 47, .app 5 [5] (.t 43) (.t 46) 1, none, [5, 46]⟩,
  ⟨some 5, .mv (.t 47), none, []⟩] [1, 5, 16, 17, 18, 23, 24, 25]
theorem r41_17 : type_of% (@rr _ _ c41_17.eq_1) := rr c41_17.eq_1
def c41_18 : ACode := .cond (.t 42) c41_17 .skip
theorem r41_18 : type_of% (@rr _ _ c41_18.eq_1) := rr c41_18.eq_1
def c41_19 : ACode := .seq c41_16 c41_18
theorem r41_19 : type_of% (@rr _ _ c41_19.eq_1) := rr c41_19.eq_1
def c41_20 : ACode := .seq c41_15 c41_19
theorem r41_20 : type_of% (@rr _ _ c41_20.eq_1) := rr c41_20.eq_1
def c41_21 : ACode := .seq c41_14 c41_20
theorem r41_21 : type_of% (@rr _ _ c41_21.eq_1) := rr c41_21.eq_1
def c41_22 : ACode := .block 3 c41_21
theorem r41_22 : type_of% (@rr _ _ c41_22.eq_1) := rr c41_22.eq_1
def c41_23 : ACode := .ops [⟨some 48, .bin .add (.t 25) (.c (.int .i64 1)), none, []⟩,
  ⟨some 25, .mv (.t 48), none, []⟩] [1, 5, 16, 17, 18, 23, 24, 25]
theorem r41_23 : type_of% (@rr _ _ c41_23.eq_1) := rr c41_23.eq_1
def c41_24 : ACode := .seq c41_22 c41_23
theorem r41_24 : type_of% (@rr _ _ c41_24.eq_1) := rr c41_24.eq_1
def c41_25 : ACode := .seq c41_13 c41_24
theorem r41_25 : type_of% (@rr _ _ c41_25.eq_1) := rr c41_25.eq_1
def c41_26 : ACode := .seq c41_12 c41_25
theorem r41_26 : type_of% (@rr _ _ c41_26.eq_1) := rr c41_26.eq_1
def c41_27 : ACode := .keep [1, 5, 16, 17, 18, 23, 24, 25] [5] c41_26
theorem r41_27 : type_of% (@rr _ _ c41_27.eq_1) := rr c41_27.eq_1
def c41_28 : ACode := .loop c41_27
theorem r41_28 : type_of% (@rr _ _ c41_28.eq_1) := rr c41_28.eq_1
def c41_29 : ACode := .block 2 c41_28
theorem r41_29 : type_of% (@rr _ _ c41_29.eq_1) := rr c41_29.eq_1
def c41_30 : ACode := .seq c41_11 c41_29
theorem r41_30 : type_of% (@rr _ _ c41_30.eq_1) := rr c41_30.eq_1
def c41_31 : ACode := .seq c41_10 c41_30
theorem r41_31 : type_of% (@rr _ _ c41_31.eq_1) := rr c41_31.eq_1
def c41_32 : ACode := .block 1 c41_31
theorem r41_32 : type_of% (@rr _ _ c41_32.eq_1) := rr c41_32.eq_1
def c41_33 : ACode := .ops [⟨some 49, .bin .add (.t 18) (.c (.int .i64 1)), none, []⟩,
  ⟨some 18, .mv (.t 49), none, []⟩] [1, 5, 16, 17, 18]
theorem r41_33 : type_of% (@rr _ _ c41_33.eq_1) := rr c41_33.eq_1
def c41_34 : ACode := .seq c41_32 c41_33
theorem r41_34 : type_of% (@rr _ _ c41_34.eq_1) := rr c41_34.eq_1
def c41_35 : ACode := .seq c41_9 c41_34
theorem r41_35 : type_of% (@rr _ _ c41_35.eq_1) := rr c41_35.eq_1
def c41_36 : ACode := .seq c41_8 c41_35
theorem r41_36 : type_of% (@rr _ _ c41_36.eq_1) := rr c41_36.eq_1
def c41_37 : ACode := .keep [1, 5, 16, 17, 18] [5] c41_36
theorem r41_37 : type_of% (@rr _ _ c41_37.eq_1) := rr c41_37.eq_1
def c41_38 : ACode := .loop c41_37
theorem r41_38 : type_of% (@rr _ _ c41_38.eq_1) := rr c41_38.eq_1
def c41_39 : ACode := .block 0 c41_38
theorem r41_39 : type_of% (@rr _ _ c41_39.eq_1) := rr c41_39.eq_1
def c41_40 : ACode := .seq c41_7 c41_39
theorem r41_40 : type_of% (@rr _ _ c41_40.eq_1) := rr c41_40.eq_1
def c41_41 : ACode := .ops [⟨some 50, .mv (.t 5), none, []⟩,
  ⟨some 51, .gcall 66 [.t 50] [5] 5, none, [5]⟩] [5]
theorem r41_41 : type_of% (@rr _ _ c41_41.eq_1) := rr c41_41.eq_1
def c41_42 : ACode := .ops [⟨some 52, .mv (.t 5), none, []⟩,
  ⟨some 53, .gcall 67 [.t 52] [5] 5, none, [5]⟩,
  ⟨some 4, .mv (.t 53), none, []⟩] [4]
theorem r41_42 : type_of% (@rr _ _ c41_42.eq_1) := rr c41_42.eq_1
def c41_43 : ACode := .seq c41_42 .ret
theorem r41_43 : type_of% (@rr _ _ c41_43.eq_1) := rr c41_43.eq_1
def c41_44 : ACode := .seq c41_41 c41_43
theorem r41_44 : type_of% (@rr _ _ c41_44.eq_1) := rr c41_44.eq_1
def c41_45 : ACode := .seq c41_40 c41_44
theorem r41_45 : type_of% (@rr _ _ c41_45.eq_1) := rr c41_45.eq_1
def c41_46 : ACode := .seq c41_6 c41_45
theorem r41_46 : type_of% (@rr _ _ c41_46.eq_1) := rr c41_46.eq_1
def c41_47 : ACode := .seq c41_5 c41_46
theorem r41_47 : type_of% (@rr _ _ c41_47.eq_1) := rr c41_47.eq_1
def c41_48 : ACode := .seq c41_0 c41_47
theorem r41_48 : type_of% (@rr _ _ c41_48.eq_1) := rr c41_48.eq_1
def a41 : AFun := ⟨2, 54, c41_48, [.t 4]⟩
attribute [simp] r41_0 r41_1 r41_2 r41_3 r41_4 r41_5 r41_6 r41_7 r41_8 r41_9 r41_10 r41_11 r41_12 r41_13 r41_14 r41_15 r41_16 r41_17 r41_18 r41_19 r41_20 r41_21 r41_22 r41_23 r41_24 r41_25 r41_26 r41_27 r41_28 r41_29 r41_30 r41_31 r41_32 r41_33 r41_34 r41_35 r41_36 r41_37 r41_38 r41_39 r41_40 r41_41 r41_42 r41_43 r41_44 r41_45 r41_46 r41_47 r41_48
theorem m41 : mFun Try.prog Try.f41 a41 = true := by decide +kernel
def cutF (j : Int) (w : Word) : Option Int := if (nd w).leaf = false ∧ (nd w).feature = j then some (nd w).cut else none
def rawW (j : Int) (l : List Word) : List Int := l.filterMap (cutF j)
def rawM (l : List Tree) (j : Int) : List Int := l.flatMap fun t => rawW j t.nodes
def thrL (m : Model) (j : Int) : List Int := Go.Lib.compact (isort (rawM m.trees j))
def rawTo (m : Model) (j : Int) (i k : Nat) (l : List Word) : List Int := rawM (m.trees.take i) j ++ rawW j (l.take k)
theorem rawTo_zero (m : Model) (j : Int) (i : Nat) (l : List Word) : rawTo m j i 0 l = rawM (m.trees.take i) j := by simp [rawTo, rawW]
theorem rawTo_some {m : Model} {j : Int} {i k : Nat} {l : List Word} (h : k < l.length) (hl : (nd l[k]).leaf = false) (hf : (nd l[k]).feature = j) : rawTo m j i (k + 1) l = rawTo m j i k l ++ [(nd l[k]).cut] := by
  unfold rawTo rawW
  rw [List.take_succ_eq_append_getElem h, List.filterMap_append, List.append_assoc]
  simp [cutF, hl, hf]
theorem rawTo_none {m : Model} {j : Int} {i k : Nat} {l : List Word} (h : k < l.length) (hn : ¬ ((nd l[k]).leaf = false ∧ (nd l[k]).feature = j)) : rawTo m j i (k + 1) l = rawTo m j i k l := by
  unfold rawTo rawW
  rw [List.take_succ_eq_append_getElem h, List.filterMap_append]
  simp [cutF, hn]
theorem rawTo_all {m : Model} {j : Int} {i : Nat} (h : i < m.trees.length) : rawTo m j i m.trees[i].nodes.length m.trees[i].nodes = rawM (m.trees.take (i + 1)) j := by
  unfold rawTo rawM
  rw [List.take_length, List.take_succ_eq_append_getElem h, List.flatMap_append]
  simp
theorem rawW_len (j : Int) (l : List Word) : (rawW j l).length ≤ l.length := List.length_filterMap_le _ _
theorem rawM_len {j : Int} : ∀ {l : List Tree}, (∀ t ∈ l, t.nodes.length ≤ 31) → (rawM l j).length ≤ 31 * l.length
  | [], _ => by simp [rawM]
  | t :: l, h => by
    have h1 := h t (by simp)
    have h2 := rawM_len (j := j) (l := l) fun x hx => h x (by simp [hx])
    have h3 := rawW_len j t.nodes
    unfold rawM at h2 ⊢
    simp only [List.flatMap_cons, List.length_append, List.length_cons]
    omega
theorem iv_append (a b : List Int) : iv (a ++ b) = iv a ++ iv b := by simp [iv]
theorem iv_take (a : List Int) : List.take a.length (iv a) = iv a := List.take_of_length_le (by simp [iv])
@[simp] theorem iv_plain (a : List Int) : (iv a).all AV.plain = true := by simp [iv]
@[simp] theorem iv_cell (a : List Int) : (iv a).all AV.isCell = true := by simp [iv]
theorem iv_enc (a : List Int) : iv a = encL a := by
  induction a with
  | nil => rfl
  | cons x xs ih =>
    have : encL (x :: xs) = .int .i64 x :: encL xs := rfl
    rw [this, ← ih]
    rfl
@[simp] theorem len_iv (a : List Int) : (iv a).length = a.length := iv_len a
def thrRow (m : Model) (j : Int) : List Int := thrL m j ++ List.replicate ((isort (rawM m.trees j)).length - (thrL m j).length) 0
set_option maxHeartbeats 8000000 in
theorem run_Thr (m : Model) (j : Int) (hr : RM m) (g : Nat → Nat) (Q : Post) (hQ : ∀ g' : Nat → Nat, g' 0 = g 0 → Q .ret ⟨[(4, .own 5 (g' 5) 0 (thrL m j).length)], [(5, ⟨iv (thrRow m j), false, 1⟩)], g'⟩) :
    run (tbl [(47, sp1 MRightT), (65, sp1 Unpack), (1000000 + 66, gspec sortF), (1000000 + 67, gspec compF)]) a41.code [] ⟨argEnv 0 [Arg.enc m, Arg.enc j], [], g⟩ Q := by
  unfold a41
  have hM : MRightT m = some true := by unfold MRightT; rw [part_of hr.okMW, rightM_true.2 hr]
  have hle := hr.trees
  have b3 : m.trees.length ≤ maxN := by unfold maxN; omega
  simp -implicitDefEqProofs [hM, b3]
  generalize hg0 : g 0 = g00 at *
  refine run_while (c := c41_36) (fun n s => ∃ (i : Nat) (g : Nat → Nat), i + n = m.trees.length ∧ g 0 = g00 ∧ s = ⟨[(1, .int .i64 j), (5, .own 5 (g 5) 0 (rawM (m.trees.take i) j).length), (16, .lst m.trees.length (encL m.trees)), (17, .int .i64 m.trees.length), (18, .int .i64 i)], [(5, ⟨iv (rawM (m.trees.take i) j), false, 1⟩)], g⟩) m.trees.length ⟨0, bump 5 (bump 2 g), by omega, by simp [hg0], by simp [rawM, iv]⟩ ?_
  rintro n s ⟨i, g, hi, hg1, rfl⟩
  have hlen : ∀ q, (rawM (m.trees.take q) j).length ≤ 31 * 8 := fun q => by
    have h1 := rawM_len (j := j) (l := m.trees.take q) fun t ht => (hr.tree t (List.mem_of_mem_take ht)).2.2.le
    have h2 : (m.trees.take q).length ≤ 8 := by simp; omega
    omega
  by_cases h1 : i < m.trees.length
  case pos =>
    have w1 : IntKind.i64.wrap ((i : Int) + 1) = (i : Int) + 1 := wrap64 (by omega) (by omega)
    have hrow := rd_tree m.trees i h1
    have hrt := hr.rt (List.getElem_mem h1)
    have hnl := hrt.le
    have b4 : m.trees[i].nodes.length ≤ maxN := by unfold maxN; omega
    simp -implicitDefEqProofs [h1, hrow, b4]
    refine run_while (c := c41_26) (fun n s => ∃ (k : Nat) (g : Nat → Nat), k + n = m.trees[i].nodes.length ∧ g 0 = g00 ∧ s = ⟨[(1, .int .i64 j), (5, .own 5 (g 5) 0 (rawTo m j i k m.trees[i].nodes).length), (16, .lst m.trees.length (encL m.trees)), (17, .int .i64 m.trees.length), (18, .int .i64 i), (23, .lst m.trees[i].nodes.length (encL m.trees[i].nodes)), (24, .int .i64 m.trees[i].nodes.length), (25, .int .i64 k)], [(5, ⟨iv (rawTo m j i k m.trees[i].nodes), false, 1⟩)], g⟩) m.trees[i].nodes.length ⟨0, bump 7 g, by omega, by simp [hg1], by simp [rawTo_zero]⟩ ?_
    rintro n2 s ⟨k, g, hk, hg2, rfl⟩
    by_cases h2 : k < m.trees[i].nodes.length
    case pos =>
      have w2 : IntKind.i64.wrap ((k : Int) + 1) = (k : Int) + 1 := wrap64 (by omega) (by omega)
      have hU := unpack_at hrt h2
      have hnd : ndAt m.trees[i].nodes k = nd m.trees[i].nodes[k] := ndAt_lt h2
      have hl2 : (rawTo m j i k m.trees[i].nodes).length ≤ 31 * 8 + 31 := by
        unfold rawTo
        rw [List.length_append]
        have e1 := hlen i
        have e2 := rawW_len j (m.trees[i].nodes.take k)
        have e3 : (m.trees[i].nodes.take k).length ≤ 31 := by simp; omega
        omega
      have n1 : (rawTo m j i k m.trees[i].nodes).length ≤ 1099511627775 := by omega
      rw [hnd] at hU
      by_cases hin : (nd m.trees[i].nodes[k]).leaf = false ∧ (nd m.trees[i].nodes[k]).feature = j
      case pos =>
        have hs := rawTo_some (m := m) (i := i) h2 hin.1 hin.2
        have hs2 : (rawTo m j i (k + 1) m.trees[i].nodes).length = (rawTo m j i k m.trees[i].nodes).length + 1 := by rw [hs]; simp
        have hE : iv (rawTo m j i (k + 1) m.trees[i].nodes) = iv (rawTo m j i k m.trees[i].nodes) ++ [.int .i64 (nd m.trees[i].nodes[k]).cut] := by rw [hs, iv_append]; rfl
        have q1 := hin.1
        have q2 := hin.2
        simp -implicitDefEqProofs [h2, rd_words, hU, w2, q1, q2, n1, iv_take]
        exact ⟨n2 - 1, by omega, k + 1, by omega, _, by simp [hg2], ⟨⟨by simp, by omega⟩, by omega⟩, by rw [hE], rfl⟩
      case neg =>
        have hs := rawTo_none (m := m) (i := i) h2 hin
        cases q1 : (nd m.trees[i].nodes[k]).leaf
        case true =>
          simp -implicitDefEqProofs [h2, rd_words, hU, w2, q1]
          exact ⟨n2 - 1, by omega, k + 1, by omega, _, by simp [hg2], ⟨⟨by simp, by rw [hs]⟩, by omega⟩, by rw [hs], rfl⟩
        case false =>
          have q2 : ¬ (nd m.trees[i].nodes[k]).feature = j := fun e => hin ⟨q1, e⟩
          simp -implicitDefEqProofs [h2, rd_words, hU, w2, q1, q2]
          exact ⟨n2 - 1, by omega, k + 1, by omega, _, by simp [hg2], ⟨⟨by simp, by rw [hs]⟩, by omega⟩, by rw [hs], rfl⟩
    case neg =>
      have hkl : k = m.trees[i].nodes.length := by omega
      subst hkl
      rw [rawTo_all h1]
      simp -implicitDefEqProofs [h2, w1]
      exact ⟨n - 1, by omega, i + 1, by omega, g, hg2, ⟨⟨rfl, rfl⟩, by omega⟩, rfl, rfl⟩
  case neg =>
    have hil : i = m.trees.length := by omega
    subst hil
    have hl := hlen m.trees.length
    rw [List.take_length] at hl ⊢
    have k1 : (rawM m.trees j).length ≤ 1152921504606846976 := by omega
    have hq := hQ g hg1
    simp only [thrRow, thrL, isort_len] at hq
    simp -implicitDefEqProofs [h1, k1, sortF, compF, ints_iv, isort_len, mapM1_nrm, mapM1_up]
    exact hq
theorem thr_len (m : Model) (j : Int) : (thrL m j).length ≤ (rawM m.trees j).length := by
  unfold thrL
  have := compact_le (isort (rawM m.trees j))
  rw [isort_len] at this
  exact this
theorem thrRow_len (m : Model) (j : Int) : (thrRow m j).length = (rawM m.trees j).length := by
  unfold thrRow
  have := thr_len m j
  rw [List.length_append, List.length_replicate, isort_len]
  omega
open Classical in
noncomputable def thrG : GSp := fun args h => match args, h with
  | [x, y], [] => (Arg.dec x : Option Model).bind fun m => (Arg.dec y : Option Int).bind fun j => if RM m then some (.own 2 0 0 (thrL m j).length, [(2, ⟨iv (thrRow m j), false, 1⟩)]) else none
  | _, _ => none
theorem c_ThrG : Contract Try.prog (gBase + 41) (gspec thrG) :=
  gcontractN (C := tbl [(47, sp1 MRightT), (65, sp1 Unpack), (1000000 + 66, gspec sortF), (1000000 + 67, gspec compF)]) mixed (tbl_cons c_mRightT (tbl_cons c_Unpack (tbl_cons c_Sort (tbl_cons c_Compact tbl_nil)))) Try.func41 m41 fun args h r h' hs => by
    unfold thrG at hs
    split at hs
    · rename_i x y
      rw [Option.bind_eq_some_iff] at hs
      obtain ⟨m, hm, hs⟩ := hs
      rw [Option.bind_eq_some_iff] at hs
      obtain ⟨j, hj, hs⟩ := hs
      split at hs
      · rename_i hr
        simp only [Option.some.injEq, Prod.mk.injEq] at hs
        obtain ⟨rfl, rfl⟩ := hs
        obtain rfl := Arg.enc_dec _ _ hm
        obtain rfl := Arg.enc_dec _ _ hj
        refine ⟨rfl, false, some 5, run_Thr m j hr _ _ fun g' hg' => ?_⟩
        unfold a41
        simp -implicitDefEqProofs [mapM1_nrm, hg']
      · cases hs
    · cases hs
end Go.Co
