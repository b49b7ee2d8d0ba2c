/- CO: thresholds of a feature. -/
import Derived.Test.YtcjflbmpfmibbaaCoLib
import Derived.Test.YtcjflbmpfmibbaaCoRt
namespace Go.Co
open Go.Am Go.Proofs
set_option linter.unusedSimpArgs false
set_option linter.unusedVariables false
attribute [-simp] Go.Am.eff_gcall
def c43_0 : ACode := .ops [⟨some 2, .box (.t 0) 6, none, []⟩,
  ⟨some 4, .mv (.c (.nils)), none, []⟩] [1, 2]
theorem r43_0 : type_of% (@rr _ _ c43_0.eq_1) := rr c43_0.eq_1
def c43_1 : ACode := .ops [⟨some 12, .load 6 true (.t 2), none, [2]⟩,
  ⟨some 13, .call 27 [.t 12], none, []⟩,
  ⟨some 14, .un .not (.t 13), none, []⟩] [1, 2, 14]
theorem r43_1 : type_of% (@rr _ _ c43_1.eq_1) := rr c43_1.eq_1
def c43_2 : ACode := .ops [⟨some 4, .mv (.c (.nils)), none, []⟩] [4]
theorem r43_2 : type_of% (@rr _ _ c43_2.eq_1) := rr c43_2.eq_1
def c43_3 : ACode := .seq c43_2 .ret
theorem r43_3 : type_of% (@rr _ _ c43_3.eq_1) := rr c43_3.eq_1
def c43_4 : ACode := .cond (.t 14) c43_3 .skip
theorem r43_4 : type_of% (@rr _ _ c43_4.eq_1) := rr c43_4.eq_1
def c43_5 : ACode := .seq c43_1 c43_4
theorem r43_5 : type_of% (@rr _ _ c43_5.eq_1) := rr c43_5.eq_1
def c43_6 : ACode := .ops [⟨some 5, .nil0 5 1, none, []⟩] [1, 2, 5]
theorem r43_6 : type_of% (@rr _ _ c43_6.eq_1) := rr c43_6.eq_1
def c43_7 : ACode := .ops [⟨some 15, .fad (.t 2) 5, none, [2]⟩,
  ⟨some 16, .load 1 false (.t 15), none, [2]⟩,
  ⟨some 17, .len (.t 16), none, []⟩,
  ⟨some 18, .mv (.c (.int .i64 0)), none, []⟩] [1, 5, 16, 17, 18]
theorem r43_7 : type_of% (@rr _ _ c43_7.eq_1) := rr c43_7.eq_1
def c43_8 : ACode := .ops [⟨some 19, .bin .lss (.t 18) (.t 17), none, []⟩] [1, 5, 16, 17, 18, 19]
theorem r43_8 : type_of% (@rr _ _ c43_8.eq_1) := rr c43_8.eq_1
def c43_9 : ACode := .cond (.t 19) .skip (.exit 0)
theorem r43_9 : type_of% (@rr _ _ c43_9.eq_1) := rr c43_9.eq_1
def c43_10 : ACode := .ops [⟨some 20, .ias (.t 16) (.t 18) 2, none, []⟩,
  ⟨some 21, .load 2 true (.t 20), none, []⟩,
  ⟨some 7, .alloc [.int .i64 0, .nils], none, []⟩,
  ⟨none, .store (.t 7) 2 (.t 21), none, [7]⟩] [1, 5, 7, 16, 17, 18]
theorem r43_10 : type_of% (@rr _ _ c43_10.eq_1) := rr c43_10.eq_1
def c43_11 : ACode := .ops [⟨some 22, .fad (.t 7) 1, none, [7]⟩,
  ⟨some 23, .load 1 false (.t 22), none, [7]⟩,
  ⟨some 24, .len (.t 23), none, []⟩,
  ⟨some 25, .mv (.c (.int .i64 0)), none, []⟩] [1, 5, 16, 17, 18, 23, 24, 25]
theorem r43_11 : type_of% (@rr _ _ c43_11.eq_1) := rr c43_11.eq_1
def c43_12 : ACode := .ops [⟨some 26, .bin .lss (.t 25) (.t 24), none, []⟩] [1, 5, 16, 17, 18, 23, 24, 25, 26]
theorem r43_12 : type_of% (@rr _ _ c43_12.eq_1) := rr c43_12.eq_1
def c43_13 : ACode := .cond (.t 26) .skip (.exit 2)
theorem r43_13 : type_of% (@rr _ _ c43_13.eq_1) := rr c43_13.eq_1
def c43_14 : ACode := .ops [⟨some 27, .ias (.t 23) (.t 25) 1, none, []⟩,
  ⟨some 28, .load 1 false (.t 27), none, []⟩,
  ⟨some 9, .mv (.t 28), none, []⟩] [1, 5, 9, 16, 17, 18, 23, 24, 25]
theorem r43_14 : type_of% (@rr _ _ c43_14.eq_1) := rr c43_14.eq_1
def c43_15 : ACode := .ops [⟨some 30, .mv (.t 9), none, []⟩,
  ⟨some 31, .call 20 [.t 30], none, []⟩,
  ⟨some 29, .mv (.t 31), none, []⟩,
  ⟨some 32, .ext (.t 29) 0, none, []⟩,
  ⟨some 33, .ext (.t 29) 1, none, []⟩,
  ⟨some 10, .alloc [.bool false, .int .i64 0, .int .i64 0, .int .i64 0, .int .i64 0, .int .i64 0], none, []⟩,
  ⟨none, .store (.t 10) 6 (.t 32), none, [10]⟩,
  ⟨some 11, .mv (.t 33), none, []⟩] [1, 5, 10, 16, 17, 18, 23, 24, 25]
theorem r43_15 : type_of% (@rr _ _ c43_15.eq_1) := rr c43_15.eq_1
def c43_16 : ACode := .ops [⟨some 34, .fad (.t 10) 0, none, [10]⟩,
  ⟨some 35, .load 1 false (.t 34), none, [10]⟩,
  ⟨some 36, .un .not (.t 35), none, []⟩,
  ⟨some 37, .mv (.t 36), none, []⟩,
  ⟨some 38, .fad (.t 10) 2, some (37, true), [10]⟩,
  ⟨some 39, .load 1 false (.t 38), some (37, true), [10]⟩,
  ⟨some 40, .mv (.t 1), some (37, true), []⟩,
  ⟨some 41, .bin .eql (.t 39) (.t 40), some (37, true), []⟩,
  ⟨some 42, .pick (.t 37) (.t 41) (.c (.bool false)), none, []⟩] [1, 5, 10, 16, 17, 18, 23, 24, 25, 42]
theorem r43_16 : type_of% (@rr _ _ c43_16.eq_1) := rr c43_16.eq_1
def c43_17 : ACode := .ops [⟨some 43, .mv (.t 5), none, []⟩,
  ⟨some 44, .fad (.t 10) 3, none, [10]⟩,
  ⟨some 45, .load 1 false (.t 44), none, [10]⟩,
  ⟨some 46, .mkrow 46 1 1 [.int .i64 0] [(0, 1, .t 45)], none, []⟩,
  ⟨some 47, .app 5 [5] (.t 43) (.t 46) 1, none, [5, 46]⟩,
  ⟨some 5, .mv (.t 47), none, []⟩] [1, 5, 16, 17, 18, 23, 24, 25]
theorem r43_17 : type_of% (@rr _ _ c43_17.eq_1) := rr c43_17.eq_1
def c43_18 : ACode := .cond (.t 42) c43_17 .skip
theorem r43_18 : type_of% (@rr _ _ c43_18.eq_1) := rr c43_18.eq_1
def c43_19 : ACode := .seq c43_16 c43_18
theorem r43_19 : type_of% (@rr _ _ c43_19.eq_1) := rr c43_19.eq_1
def c43_20 : ACode := .seq c43_15 c43_19
theorem r43_20 : type_of% (@rr _ _ c43_20.eq_1) := rr c43_20.eq_1
def c43_21 : ACode := .seq c43_14 c43_20
theorem r43_21 : type_of% (@rr _ _ c43_21.eq_1) := rr c43_21.eq_1
def c43_22 : ACode := .block 3 c43_21
theorem r43_22 : type_of% (@rr _ _ c43_22.eq_1) := rr c43_22.eq_1
def c43_23 : ACode := .ops [⟨some 48, .bin .add (.t 25) (.c (.int .i64 1)), none, []⟩,
  ⟨some 25, .mv (.t 48), none, []⟩] [1, 5, 16, 17, 18, 23, 24, 25]
theorem r43_23 : type_of% (@rr _ _ c43_23.eq_1) := rr c43_23.eq_1
def c43_24 : ACode := .seq c43_22 c43_23
theorem r43_24 : type_of% (@rr _ _ c43_24.eq_1) := rr c43_24.eq_1
def c43_25 : ACode := .seq c43_13 c43_24
theorem r43_25 : type_of% (@rr _ _ c43_25.eq_1) := rr c43_25.eq_1
def c43_26 : ACode := .seq c43_12 c43_25
theorem r43_26 : type_of% (@rr _ _ c43_26.eq_1) := rr c43_26.eq_1
def c43_27 : ACode := .keep [1, 5, 16, 17, 18, 23, 24, 25] [5] c43_26
theorem r43_27 : type_of% (@rr _ _ c43_27.eq_1) := rr c43_27.eq_1
def c43_28 : ACode := .loop c43_27
theorem r43_28 : type_of% (@rr _ _ c43_28.eq_1) := rr c43_28.eq_1
def c43_29 : ACode := .block 2 c43_28
theorem r43_29 : type_of% (@rr _ _ c43_29.eq_1) := rr c43_29.eq_1
def c43_30 : ACode := .seq c43_11 c43_29
theorem r43_30 : type_of% (@rr _ _ c43_30.eq_1) := rr c43_30.eq_1
def c43_31 : ACode := .seq c43_10 c43_30
theorem r43_31 : type_of% (@rr _ _ c43_31.eq_1) := rr c43_31.eq_1
def c43_32 : ACode := .block 1 c43_31
theorem r43_32 : type_of% (@rr _ _ c43_32.eq_1) := rr c43_32.eq_1
def c43_33 : ACode := .ops [⟨some 49, .bin .add (.t 18) (.c (.int .i64 1)), none, []⟩,
  ⟨some 18, .mv (.t 49), none, []⟩] [1, 5, 16, 17, 18]
theorem r43_33 : type_of% (@rr _ _ c43_33.eq_1) := rr c43_33.eq_1
def c43_34 : ACode := .seq c43_32 c43_33
theorem r43_34 : type_of% (@rr _ _ c43_34.eq_1) := rr c43_34.eq_1
def c43_35 : ACode := .seq c43_9 c43_34
theorem r43_35 : type_of% (@rr _ _ c43_35.eq_1) := rr c43_35.eq_1
def c43_36 : ACode := .seq c43_8 c43_35
theorem r43_36 : type_of% (@rr _ _ c43_36.eq_1) := rr c43_36.eq_1
def c43_37 : ACode := .keep [1, 5, 16, 17, 18] [5] c43_36
theorem r43_37 : type_of% (@rr _ _ c43_37.eq_1) := rr c43_37.eq_1
def c43_38 : ACode := .loop c43_37
theorem r43_38 : type_of% (@rr _ _ c43_38.eq_1) := rr c43_38.eq_1
def c43_39 : ACode := .block 0 c43_38
theorem r43_39 : type_of% (@rr _ _ c43_39.eq_1) := rr c43_39.eq_1
def c43_40 : ACode := .seq c43_7 c43_39
theorem r43_40 : type_of% (@rr _ _ c43_40.eq_1) := rr c43_40.eq_1
def c43_41 : ACode := .ops [⟨some 50, .mv (.t 5), none, []⟩,
  ⟨some 51, .gcall 93 [.t 50] [5] 5, none, [5]⟩] [5]
theorem r43_41 : type_of% (@rr _ _ c43_41.eq_1) := rr c43_41.eq_1
def c43_42 : ACode := .ops [⟨some 52, .mv (.t 5), none, []⟩,
  ⟨some 53, .gcall 94 [.t 52] [5] 5, none, [5]⟩,
  ⟨some 4, .mv (.t 53), none, []⟩] [4]
theorem r43_42 : type_of% (@rr _ _ c43_42.eq_1) := rr c43_42.eq_1
def c43_43 : ACode := .seq c43_42 .ret
theorem r43_43 : type_of% (@rr _ _ c43_43.eq_1) := rr c43_43.eq_1
def c43_44 : ACode := .seq c43_41 c43_43
theorem r43_44 : type_of% (@rr _ _ c43_44.eq_1) := rr c43_44.eq_1
def c43_45 : ACode := .seq c43_40 c43_44
theorem r43_45 : type_of% (@rr _ _ c43_45.eq_1) := rr c43_45.eq_1
def c43_46 : ACode := .seq c43_6 c43_45
theorem r43_46 : type_of% (@rr _ _ c43_46.eq_1) := rr c43_46.eq_1
def c43_47 : ACode := .seq c43_5 c43_46
theorem r43_47 : type_of% (@rr _ _ c43_47.eq_1) := rr c43_47.eq_1
def c43_48 : ACode := .seq c43_0 c43_47
theorem r43_48 : type_of% (@rr _ _ c43_48.eq_1) := rr c43_48.eq_1
def a43 : AFun := ⟨2, 54, c43_48, [.t 4]⟩
attribute [simp] r43_0 r43_1 r43_2 r43_3 r43_4 r43_5 r43_6 r43_7 r43_8 r43_9 r43_10 r43_11 r43_12 r43_13 r43_14 r43_15 r43_16 r43_17 r43_18 r43_19 r43_20 r43_21 r43_22 r43_23 r43_24 r43_25 r43_26 r43_27 r43_28 r43_29 r43_30 r43_31 r43_32 r43_33 r43_34 r43_35 r43_36 r43_37 r43_38 r43_39 r43_40 r43_41 r43_42 r43_43 r43_44 r43_45 r43_46 r43_47 r43_48
theorem m43 : mFun Try.prog Try.f43 a43 = true := by decide +kernel
def cutF (j : Int) (w : Word) : Option Int := if (nd w).leaf = false ∧ (nd w).feature = j then some (nd w).cut else none
def rawW (j : Int) (l : List Word) : List Int := l.filterMap (cutF j)
def rawM (l : List Tree) (j : Int) : List Int := l.flatMap fun t => rawW j t.nodes
def thrL (m : Model) (j : Int) : List Int := Go.Lib.compact (isort (rawM m.trees j))
def rawTo (m : Model) (j : Int) (i k : Nat) (l : List Word) : List Int := rawM (m.trees.take i) j ++ rawW j (l.take k)
theorem rawTo_zero (m : Model) (j : Int) (i : Nat) (l : List Word) : rawTo m j i 0 l = rawM (m.trees.take i) j := by simp [rawTo, rawW]
theorem rawTo_some {m : Model} {j : Int} {i k : Nat} {l : List Word} (h : k < l.length) (hl : (nd l[k]).leaf = false) (hf : (nd l[k]).feature = j) : rawTo m j i (k + 1) l = rawTo m j i k l ++ [(nd l[k]).cut] := by
  unfold rawTo rawW
  rw [List.take_succ_eq_append_getElem h, List.filterMap_append, List.append_assoc]
  simp [cutF, hl, hf]
theorem rawTo_none {m : Model} {j : Int} {i k : Nat} {l : List Word} (h : k < l.length) (hn : ¬ ((nd l[k]).leaf = false ∧ (nd l[k]).feature = j)) : rawTo m j i (k + 1) l = rawTo m j i k l := by
  unfold rawTo rawW
  rw [List.take_succ_eq_append_getElem h, List.filterMap_append]
  simp [cutF, hn]
theorem rawTo_all {m : Model} {j : Int} {i : Nat} (h : i < m.trees.length) : rawTo m j i m.trees[i].nodes.length m.trees[i].nodes = rawM (m.trees.take (i + 1)) j := by
  unfold rawTo rawM
  rw [List.take_length, List.take_succ_eq_append_getElem h, List.flatMap_append]
  simp
theorem rawW_len (j : Int) (l : List Word) : (rawW j l).length ≤ l.length := List.length_filterMap_le _ _
theorem rawM_len {j : Int} : ∀ {l : List Tree}, (∀ t ∈ l, t.nodes.length ≤ 31) → (rawM l j).length ≤ 31 * l.length
  | [], _ => by simp [rawM]
  | t :: l, h => by
    have h1 := h t (by simp)
    have h2 := rawM_len (j := j) (l := l) fun x hx => h x (by simp [hx])
    have h3 := rawW_len j t.nodes
    unfold rawM at h2 ⊢
    simp only [List.flatMap_cons, List.length_append, List.length_cons]
    omega
theorem iv_append (a b : List Int) : iv (a ++ b) = iv a ++ iv b := by simp [iv]
theorem iv_take (a : List Int) : List.take a.length (iv a) = iv a := List.take_of_length_le (by simp [iv])
@[simp] theorem iv_plain (a : List Int) : (iv a).all AV.plain = true := by simp [iv]
@[simp] theorem iv_cell (a : List Int) : (iv a).all AV.isCell = true := by simp [iv]
theorem iv_enc (a : List Int) : iv a = encL a := by
  induction a with
  | nil => rfl
  | cons x xs ih =>
    have : encL (x :: xs) = .int .i64 x :: encL xs := rfl
    rw [this, ← ih]
    rfl
@[simp] theorem len_iv (a : List Int) : (iv a).length = a.length := iv_len a
def thrRow (m : Model) (j : Int) : List Int := thrL m j ++ List.replicate ((isort (rawM m.trees j)).length - (thrL m j).length) 0
set_option maxHeartbeats 8000000 in
theorem run_Thr (m : Model) (j : Int) (hr : RM m) (g : Nat → Nat) (Q : Post) (hQ : ∀ g' : Nat → Nat, g' 0 = g 0 → Q .ret ⟨[(4, .own 5 (g' 5) 0 (thrL m j).length)], [(5, ⟨iv (thrRow m j), false, 1⟩)], g'⟩) :
    run (tbl [(27, sp1 MRightT), (20, sp1 Unpack), (1000000 + 93, gspec sortF), (1000000 + 94, gspec compF)]) a43.code [] ⟨argEnv 0 [Arg.enc m, Arg.enc j], [], g⟩ Q := by
  unfold a43
  have hM : MRightT m = some true := by unfold MRightT; rw [part_of hr.okMW, rightM_true.2 hr]
  have hle := hr.trees
  have b3 : m.trees.length ≤ maxN := by unfold maxN; omega
  simp -implicitDefEqProofs [hM, b3]
  generalize hg0 : g 0 = g00 at *
  refine run_while (c := c43_36) (fun n s => ∃ (i : Nat) (g : Nat → Nat), i + n = m.trees.length ∧ g 0 = g00 ∧ s = ⟨[(1, .int .i64 j), (5, .own 5 (g 5) 0 (rawM (m.trees.take i) j).length), (16, .lst m.trees.length (encL m.trees)), (17, .int .i64 m.trees.length), (18, .int .i64 i)], [(5, ⟨iv (rawM (m.trees.take i) j), false, 1⟩)], g⟩) m.trees.length ⟨0, bump 5 (bump 2 g), by omega, by simp [hg0], by simp [rawM, iv]⟩ ?_
  rintro n s ⟨i, g, hi, hg1, rfl⟩
  have hlen : ∀ q, (rawM (m.trees.take q) j).length ≤ 31 * 8 := fun q => by
    have h1 := rawM_len (j := j) (l := m.trees.take q) fun t ht => (hr.tree t (List.mem_of_mem_take ht)).2.2.le
    have h2 : (m.trees.take q).length ≤ 8 := by simp; omega
    omega
  by_cases h1 : i < m.trees.length
  case pos =>
    have w1 : IntKind.i64.wrap ((i : Int) + 1) = (i : Int) + 1 := wrap64 (by omega) (by omega)
    have hrow := rd_tree m.trees i h1
    have hrt := hr.rt (List.getElem_mem h1)
    have hnl := hrt.le
    have b4 : m.trees[i].nodes.length ≤ maxN := by unfold maxN; omega
    simp -implicitDefEqProofs [h1, hrow, b4]
    refine run_while (c := c43_26) (fun n s => ∃ (k : Nat) (g : Nat → Nat), k + n = m.trees[i].nodes.length ∧ g 0 = g00 ∧ s = ⟨[(1, .int .i64 j), (5, .own 5 (g 5) 0 (rawTo m j i k m.trees[i].nodes).length), (16, .lst m.trees.length (encL m.trees)), (17, .int .i64 m.trees.length), (18, .int .i64 i), (23, .lst m.trees[i].nodes.length (encL m.trees[i].nodes)), (24, .int .i64 m.trees[i].nodes.length), (25, .int .i64 k)], [(5, ⟨iv (rawTo m j i k m.trees[i].nodes), false, 1⟩)], g⟩) m.trees[i].nodes.length ⟨0, bump 7 g, by omega, by simp [hg1], by simp [rawTo_zero]⟩ ?_
    rintro n2 s ⟨k, g, hk, hg2, rfl⟩
    by_cases h2 : k < m.trees[i].nodes.length
    case pos =>
      have w2 : IntKind.i64.wrap ((k : Int) + 1) = (k : Int) + 1 := wrap64 (by omega) (by omega)
      have hU := unpack_at hrt h2
      have hnd : ndAt m.trees[i].nodes k = nd m.trees[i].nodes[k] := ndAt_lt h2
      have hl2 : (rawTo m j i k m.trees[i].nodes).length ≤ 31 * 8 + 31 := by
        unfold rawTo
        rw [List.length_append]
        have e1 := hlen i
        have e2 := rawW_len j (m.trees[i].nodes.take k)
        have e3 : (m.trees[i].nodes.take k).length ≤ 31 := by simp; omega
        omega
      have n1 : (rawTo m j i k m.trees[i].nodes).length ≤ 1099511627775 := by omega
      rw [hnd] at hU
      by_cases hin : (nd m.trees[i].nodes[k]).leaf = false ∧ (nd m.trees[i].nodes[k]).feature = j
      case pos =>
        have hs := rawTo_some (m := m) (i := i) h2 hin.1 hin.2
        have hs2 : (rawTo m j i (k + 1) m.trees[i].nodes).length = (rawTo m j i k m.trees[i].nodes).length + 1 := by rw [hs]; simp
        have hE : iv (rawTo m j i (k + 1) m.trees[i].nodes) = iv (rawTo m j i k m.trees[i].nodes) ++ [.int .i64 (nd m.trees[i].nodes[k]).cut] := by rw [hs, iv_append]; rfl
        have q1 := hin.1
        have q2 := hin.2
        simp -implicitDefEqProofs [h2, rd_words, hU, w2, q1, q2, n1, iv_take]
        exact ⟨n2 - 1, by omega, k + 1, by omega, _, by simp [hg2], ⟨⟨by simp, by omega⟩, by omega⟩, by rw [hE], rfl⟩
      case neg =>
        have hs := rawTo_none (m := m) (i := i) h2 hin
        cases q1 : (nd m.trees[i].nodes[k]).leaf
        case true =>
          simp -implicitDefEqProofs [h2, rd_words, hU, w2, q1]
          exact ⟨n2 - 1, by omega, k + 1, by omega, _, by simp [hg2], ⟨⟨by simp, by rw [hs]⟩, by omega⟩, by rw [hs], rfl⟩
        case false =>
          have q2 : ¬ (nd m.trees[i].nodes[k]).feature = j := fun e => hin ⟨q1, e⟩
          simp -implicitDefEqProofs [h2, rd_words, hU, w2, q1, q2]
          exact ⟨n2 - 1, by omega, k + 1, by omega, _, by simp [hg2], ⟨⟨by simp, by rw [hs]⟩, by omega⟩, by rw [hs], rfl⟩
    case neg =>
      have hkl : k = m.trees[i].nodes.length := by omega
      subst hkl
      rw [rawTo_all h1]
      simp -implicitDefEqProofs [h2, w1]
      exact ⟨n - 1, by omega, i + 1, by omega, g, hg2, ⟨⟨rfl, rfl⟩, by omega⟩, rfl, rfl⟩
  case neg =>
    have hil : i = m.trees.length := by omega
    subst hil
    have hl := hlen m.trees.length
    rw [List.take_length] at hl ⊢
    have k1 : (rawM m.trees j).length ≤ 1152921504606846976 := by omega
    have hq := hQ g hg1
    simp only [thrRow, thrL, isort_len] at hq
    simp -implicitDefEqProofs [h1, k1, sortF, compF, ints_iv, isort_len, mapM1_nrm, mapM1_up]
    exact hq
theorem thr_len (m : Model) (j : Int) : (thrL m j).length ≤ (rawM m.trees j).length := by
  unfold thrL
  have := compact_le (isort (rawM m.trees j))
  rw [isort_len] at this
  exact this
theorem thrRow_len (m : Model) (j : Int) : (thrRow m j).length = (rawM m.trees j).length := by
  unfold thrRow
  have := thr_len m j
  rw [List.length_append, List.length_replicate, isort_len]
  omega
open Classical in
noncomputable def thrG : GSp := fun args h => match args, h with
  | [x, y], [] => (Arg.dec x : Option Model).bind fun m => (Arg.dec y : Option Int).bind fun j => if RM m then some (.own 2 0 0 (thrL m j).length, [(2, ⟨iv (thrRow m j), false, 1⟩)]) else none
  | _, _ => none
theorem c_ThrG : Contract Try.prog (gBase + 43) (gspec thrG) :=
  gcontractN (C := tbl [(27, sp1 MRightT), (20, sp1 Unpack), (1000000 + 93, gspec sortF), (1000000 + 94, gspec compF)]) mixed (tbl_cons c_mRightT (tbl_cons c_Unpack (tbl_cons c_Sort (tbl_cons c_Compact tbl_nil)))) Try.func43 m43 fun args h r h' hs => by
    unfold thrG at hs
    split at hs
    · rename_i x y
      rw [Option.bind_eq_some_iff] at hs
      obtain ⟨m, hm, hs⟩ := hs
      rw [Option.bind_eq_some_iff] at hs
      obtain ⟨j, hj, hs⟩ := hs
      split at hs
      · rename_i hr
        simp only [Option.some.injEq, Prod.mk.injEq] at hs
        obtain ⟨rfl, rfl⟩ := hs
        obtain rfl := Arg.enc_dec _ _ hm
        obtain rfl := Arg.enc_dec _ _ hj
        refine ⟨rfl, false, some 5, run_Thr m j hr _ _ fun g' hg' => ?_⟩
        unfold a43
        simp -implicitDefEqProofs [mapM1_nrm, hg']
      · cases hs
    · cases hs
end Go.Co
