/- CO: texts of this claim, one behind the other. -/
import Derived.Test.YtcjflbmpfmibbaaCz4
import Derived.Test.YtcjflbmpfmibbaaCz1
/- CO: what numbers make: trees, models, regions, queries. -/
namespace Go.Co
open Go.Am Go.Proofs
set_option linter.unusedSimpArgs false
set_option linter.unusedVariables false
def c18_0 : ACode := .ops [⟨some 2, .box (.t 0) 5, none, []⟩,⟨some 4, .mv (.c (.nils)), none, []⟩] [1, 2]
theorem r18_0 : type_of% (@rr _ _ c18_0.eq_1) := rr rfl
def c18_1 : ACode := .ops [⟨some 14, .fad (.t 2) 4, none, [2]⟩,⟨some 15, .load 1 false (.t 14), none, [2]⟩,⟨some 16, .call 65 [.t 15, .c (.int .i64 0)], none, []⟩,⟨some 17, .call 24 [.t 16, .c (.int .i64 (-3000)), .c (.int .i64 3000)], none, []⟩,⟨some 18, .build [.bool false, .int .i64 0, .int .i64 0, .int .i64 0, .int .i64 0, .int .i64 0] [(0, 1, .c (.bool true)), (1, 1, .t 17)], none, []⟩,⟨some 19, .mkrow 5 1 6 [.bool false, .int .i64 0, .int .i64 0, .int .i64 0, .int .i64 0, .int .i64 0] [(0, 6, .t 18)], none, []⟩,⟨some 5, .mv (.t 19), none, []⟩] [1, 2, 5]
theorem r18_1 : type_of% (@rr _ _ c18_1.eq_1) := rr rfl
def c18_2 : ACode := .ops [⟨some 20, .mkrow 6 1 1 [.int .i64 0] [(0, 1, .c (.int .i64 0))], none, []⟩,⟨some 6, .mv (.t 20), none, []⟩] [1, 2, 5, 6]
theorem r18_2 : type_of% (@rr _ _ c18_2.eq_1) := rr rfl
def c18_3 : ACode := .ops [⟨some 7, .mv (.c (.int .i64 0)), none, []⟩] [1, 2, 5, 6, 7]
theorem r18_3 : type_of% (@rr _ _ c18_3.eq_1) := rr rfl
def c18_4 : ACode := .ops [⟨some 21, .mv (.t 7), none, []⟩,⟨some 22, .fad (.t 2) 1, none, [2]⟩,⟨some 23, .load 1 false (.t 22), none, [2]⟩,⟨some 24, .len (.t 23), none, []⟩,⟨some 25, .bin .lss (.t 21) (.t 24), none, []⟩,⟨some 26, .mv (.t 25), none, []⟩,⟨some 27, .mv (.t 7), some (26, true), []⟩,⟨some 28, .bin .lss (.t 27) (.c (.int .i64 7)), some (26, true), []⟩,⟨some 29, .pick (.t 26) (.t 28) (.c (.bool false)), none, []⟩] [1, 2, 5, 6, 7, 29]
theorem r18_4 : type_of% (@rr _ _ c18_4.eq_1) := rr rfl
def c18_5 : ACode := .cond (.t 29) .skip (.exit 0)
theorem r18_5 : type_of% (@rr _ _ c18_5.eq_1) := rr rfl
def c18_6 : ACode := .seq c18_4 c18_5
theorem r18_6 : type_of% (@rr _ _ c18_6.eq_1) := rr rfl
def c18_7 : ACode := .ops [⟨some 32, .fad (.t 2) 1, none, [2]⟩,⟨some 33, .load 1 false (.t 32), none, [2]⟩,⟨some 34, .mv (.t 7), none, []⟩,⟨some 35, .ias (.t 33) (.t 34) 1, none, []⟩,⟨some 36, .load 1 false (.t 35), none, []⟩,⟨some 37, .mv (.t 6), none, []⟩,⟨some 38, .len (.t 37), none, [6]⟩,⟨some 39, .bin .sub (.t 38) (.c (.int .i64 1)), none, []⟩,⟨some 40, .call 24 [.t 36, .c (.int .i64 0), .t 39], none, []⟩,⟨some 8, .mv (.t 40), none, []⟩] [1, 2, 5, 6, 7, 8]
theorem r18_7 : type_of% (@rr _ _ c18_7.eq_1) := rr rfl
def c18_8 : ACode := .ops [⟨some 41, .mv (.t 6), none, []⟩,⟨some 42, .mv (.t 8), none, []⟩,⟨some 43, .ias (.t 41) (.t 42) 1, none, [6]⟩,⟨some 44, .load 1 false (.t 43), none, [6]⟩,⟨some 9, .mv (.t 44), none, []⟩] [1, 2, 5, 6, 7, 8, 9]
theorem r18_8 : type_of% (@rr _ _ c18_8.eq_1) := rr rfl
def c18_9 : ACode := .ops [⟨some 45, .mv (.t 5), none, []⟩,⟨some 46, .len (.t 45), none, [5]⟩,⟨some 10, .mv (.t 46), none, []⟩] [1, 2, 5, 6, 7, 8, 9, 10]
theorem r18_9 : type_of% (@rr _ _ c18_9.eq_1) := rr rfl
def c18_10 : ACode := .ops [⟨some 47, .mv (.t 5), none, []⟩,⟨some 48, .mv (.t 9), none, []⟩,⟨some 49, .fad (.t 2) 2, none, [2]⟩,⟨some 50, .load 1 false (.t 49), none, [2]⟩,⟨some 51, .mv (.t 7), none, []⟩,⟨some 52, .call 65 [.t 50, .t 51], none, []⟩,⟨some 53, .mv (.t 1), none, []⟩,⟨some 54, .bin .sub (.t 53) (.c (.int .i64 1)), none, []⟩,⟨some 55, .call 24 [.t 52, .c (.int .i64 0), .t 54], none, []⟩,⟨some 56, .fad (.t 2) 3, none, [2]⟩,⟨some 57, .load 1 false (.t 56), none, [2]⟩,⟨some 58, .mv (.t 7), none, []⟩,⟨some 59, .call 65 [.t 57, .t 58], none, []⟩,⟨some 60, .call 24 [.t 59, .c (.int .i64 0), .c (.int .i64 9)], none, []⟩,⟨some 61, .mv (.t 10), none, []⟩,⟨some 62, .mv (.t 10), none, []⟩,⟨some 63, .bin .add (.t 62) (.c (.int .i64 1)), none, []⟩,⟨some 64, .build [.bool false, .int .i64 0, .int .i64 0, .int .i64 0, .int .i64 0, .int .i64 0] [(2, 1, .t 55), (3, 1, .t 60), (4, 1, .t 61), (5, 1, .t 63)], none, []⟩,⟨some 65, .ias (.t 47) (.t 48) 6, none, [5]⟩,⟨none, .store (.t 65) 6 (.t 64), none, [5]⟩] [1, 2, 5, 6, 7, 8, 10]
theorem r18_10 : type_of% (@rr _ _ c18_10.eq_1) := rr rfl
def c18_11 : ACode := .ops [⟨some 66, .mv (.t 5), none, []⟩,⟨some 67, .fad (.t 2) 4, none, [2]⟩,⟨some 68, .load 1 false (.t 67), none, [2]⟩,⟨some 69, .mv (.t 7), none, []⟩,⟨some 70, .bin .mul (.c (.int .i64 2)) (.t 69), none, []⟩,⟨some 71, .bin .add (.t 70) (.c (.int .i64 1)), none, []⟩,⟨some 72, .call 65 [.t 68, .t 71], none, []⟩,⟨some 73, .call 24 [.t 72, .c (.int .i64 (-3000)), .c (.int .i64 3000)], none, []⟩,⟨some 74, .build [.bool false, .int .i64 0, .int .i64 0, .int .i64 0, .int .i64 0, .int .i64 0] [(0, 1, .c (.bool true)), (1, 1, .t 73)], none, []⟩,⟨some 75, .fad (.t 2) 4, none, [2]⟩,⟨some 76, .load 1 false (.t 75), none, [2]⟩,⟨some 77, .mv (.t 7), none, []⟩,⟨some 78, .bin .mul (.c (.int .i64 2)) (.t 77), none, []⟩,⟨some 79, .bin .add (.t 78) (.c (.int .i64 2)), none, []⟩,⟨some 80, .call 65 [.t 76, .t 79], none, []⟩,⟨some 81, .call 24 [.t 80, .c (.int .i64 (-3000)), .c (.int .i64 3000)], none, []⟩,⟨some 82, .build [.bool false, .int .i64 0, .int .i64 0, .int .i64 0, .int .i64 0, .int .i64 0] [(0, 1, .c (.bool true)), (1, 1, .t 81)], none, []⟩,⟨some 83, .mkrow 83 2 6 [.bool false, .int .i64 0, .int .i64 0, .int .i64 0, .int .i64 0, .int .i64 0] [(0, 6, .t 74), (6, 6, .t 82)], none, []⟩,⟨some 84, .app 5 [5] (.t 66) (.t 83) 6, none, [5, 83]⟩,⟨some 5, .mv (.t 84), none, []⟩] [1, 2, 5, 6, 7, 8, 10]
theorem r18_11 : type_of% (@rr _ _ c18_11.eq_1) := rr rfl
def c18_12 : ACode := .ops [⟨some 85, .mkrow 85 0 1 [.int .i64 0] [], none, []⟩,⟨some 86, .mv (.t 6), none, []⟩,⟨some 87, .mv (.t 8), none, []⟩,⟨some 88, .sl (.t 86) none (some (.t 87)) 1, none, [6]⟩,⟨some 89, .app 89 [85] (.t 85) (.t 88) 1, none, [6, 85]⟩,⟨some 90, .mv (.t 6), none, []⟩,⟨some 91, .mv (.t 8), none, []⟩,⟨some 92, .bin .add (.t 91) (.c (.int .i64 1)), none, []⟩,⟨some 93, .sl (.t 90) (some (.t 92)) none 1, none, [6]⟩,⟨some 94, .app 94 [89] (.t 89) (.t 93) 1, none, [6, 89]⟩,⟨some 95, .mv (.t 10), none, []⟩,⟨some 96, .mv (.t 10), none, []⟩,⟨some 97, .bin .add (.t 96) (.c (.int .i64 1)), none, []⟩,⟨some 98, .mkrow 98 2 1 [.int .i64 0] [(0, 1, .t 95), (1, 1, .t 97)], none, []⟩,⟨some 99, .app 6 [94] (.t 94) (.t 98) 1, none, [94, 98]⟩,⟨some 6, .mv (.t 99), none, []⟩] [1, 2, 5, 6, 7]
theorem r18_12 : type_of% (@rr _ _ c18_12.eq_1) := rr rfl
def c18_13 : ACode := .seq c18_11 c18_12
theorem r18_13 : type_of% (@rr _ _ c18_13.eq_1) := rr rfl
def c18_14 : ACode := .seq c18_10 c18_13
theorem r18_14 : type_of% (@rr _ _ c18_14.eq_1) := rr rfl
def c18_15 : ACode := .seq c18_9 c18_14
theorem r18_15 : type_of% (@rr _ _ c18_15.eq_1) := rr rfl
def c18_16 : ACode := .seq c18_8 c18_15
theorem r18_16 : type_of% (@rr _ _ c18_16.eq_1) := rr rfl
def c18_17 : ACode := .seq c18_7 c18_16
theorem r18_17 : type_of% (@rr _ _ c18_17.eq_1) := rr rfl
def c18_18 : ACode := .block 1 c18_17
theorem r18_18 : type_of% (@rr _ _ c18_18.eq_1) := rr rfl
def c18_19 : ACode := .ops [⟨some 30, .mv (.t 7), none, []⟩,⟨some 31, .bin .add (.t 30) (.c (.int .i64 1)), none, []⟩,⟨some 7, .mv (.t 31), none, []⟩] [1, 2, 5, 6, 7]
theorem r18_19 : type_of% (@rr _ _ c18_19.eq_1) := rr rfl
def c18_20 : ACode := .seq c18_18 c18_19
theorem r18_20 : type_of% (@rr _ _ c18_20.eq_1) := rr rfl
def c18_21 : ACode := .seq c18_6 c18_20
theorem r18_21 : type_of% (@rr _ _ c18_21.eq_1) := rr rfl
def c18_22 : ACode := .keep [1, 2, 5, 6, 7] [2, 5, 6] c18_21
theorem r18_22 : type_of% (@rr _ _ c18_22.eq_1) := rr rfl
def c18_23 : ACode := .loop c18_22
theorem r18_23 : type_of% (@rr _ _ c18_23.eq_1) := rr rfl
def c18_24 : ACode := .block 0 c18_23
theorem r18_24 : type_of% (@rr _ _ c18_24.eq_1) := rr rfl
def c18_25 : ACode := .seq c18_3 c18_24
theorem r18_25 : type_of% (@rr _ _ c18_25.eq_1) := rr rfl
def c18_26 : ACode := .ops [⟨some 11, .nil0 11 1, none, []⟩] [5, 11]
theorem r18_26 : type_of% (@rr _ _ c18_26.eq_1) := rr rfl
def c18_27 : ACode := .ops [⟨some 100, .mv (.t 5), none, []⟩,⟨some 101, .len (.t 100), none, [5]⟩,⟨some 102, .mv (.c (.int .i64 0)), none, []⟩] [11, 100, 101, 102]
theorem r18_27 : type_of% (@rr _ _ c18_27.eq_1) := rr rfl
def c18_28 : ACode := .ops [⟨some 103, .bin .lss (.t 102) (.t 101), none, []⟩] [11, 100, 101, 102, 103]
theorem r18_28 : type_of% (@rr _ _ c18_28.eq_1) := rr rfl
def c18_29 : ACode := .cond (.t 103) .skip (.exit 2)
theorem r18_29 : type_of% (@rr _ _ c18_29.eq_1) := rr rfl
def c18_30 : ACode := .ops [⟨some 104, .ias (.t 100) (.t 102) 6, none, [5]⟩,⟨some 105, .load 6 true (.t 104), none, [5]⟩,⟨some 13, .alloc [.bool false, .int .i64 0, .int .i64 0, .int .i64 0, .int .i64 0, .int .i64 0], none, []⟩,⟨none, .store (.t 13) 6 (.t 105), none, [13]⟩] [11, 13, 100, 101, 102]
theorem r18_30 : type_of% (@rr _ _ c18_30.eq_1) := rr rfl
def c18_31 : ACode := .ops [⟨some 106, .mv (.t 11), none, []⟩,⟨some 107, .load 6 true (.t 13), none, [13]⟩,⟨some 108, .call 68 [.t 107], none, []⟩,⟨some 109, .mkrow 109 1 1 [.int .u64 0] [(0, 1, .t 108)], none, []⟩,⟨some 110, .app 11 [11] (.t 106) (.t 109) 1, none, [11, 109]⟩,⟨some 11, .mv (.t 110), none, []⟩] [11, 100, 101, 102]
theorem r18_31 : type_of% (@rr _ _ c18_31.eq_1) := rr rfl
def c18_32 : ACode := .seq c18_30 c18_31
theorem r18_32 : type_of% (@rr _ _ c18_32.eq_1) := rr rfl
def c18_33 : ACode := .block 3 c18_32
theorem r18_33 : type_of% (@rr _ _ c18_33.eq_1) := rr rfl
def c18_34 : ACode := .ops [⟨some 111, .bin .add (.t 102) (.c (.int .i64 1)), none, []⟩,⟨some 102, .mv (.t 111), none, []⟩] [11, 100, 101, 102]
theorem r18_34 : type_of% (@rr _ _ c18_34.eq_1) := rr rfl
def c18_35 : ACode := .seq c18_33 c18_34
theorem r18_35 : type_of% (@rr _ _ c18_35.eq_1) := rr rfl
def c18_36 : ACode := .seq c18_29 c18_35
theorem r18_36 : type_of% (@rr _ _ c18_36.eq_1) := rr rfl
def c18_37 : ACode := .seq c18_28 c18_36
theorem r18_37 : type_of% (@rr _ _ c18_37.eq_1) := rr rfl
def c18_38 : ACode := .keep [11, 100, 101, 102] [5, 11] c18_37
theorem r18_38 : type_of% (@rr _ _ c18_38.eq_1) := rr rfl
def c18_39 : ACode := .loop c18_38
theorem r18_39 : type_of% (@rr _ _ c18_39.eq_1) := rr rfl
def c18_40 : ACode := .block 2 c18_39
theorem r18_40 : type_of% (@rr _ _ c18_40.eq_1) := rr rfl
def c18_41 : ACode := .seq c18_27 c18_40
theorem r18_41 : type_of% (@rr _ _ c18_41.eq_1) := rr rfl
def c18_42 : ACode := .ops [⟨some 112, .mv (.t 11), none, []⟩,⟨some 4, .mv (.t 112), none, []⟩] [4]
theorem r18_42 : type_of% (@rr _ _ c18_42.eq_1) := rr rfl
def c18_43 : ACode := .seq c18_42 .ret
theorem r18_43 : type_of% (@rr _ _ c18_43.eq_1) := rr rfl
def c18_44 : ACode := .seq c18_41 c18_43
theorem r18_44 : type_of% (@rr _ _ c18_44.eq_1) := rr rfl
def c18_45 : ACode := .seq c18_26 c18_44
theorem r18_45 : type_of% (@rr _ _ c18_45.eq_1) := rr rfl
def c18_46 : ACode := .seq c18_25 c18_45
theorem r18_46 : type_of% (@rr _ _ c18_46.eq_1) := rr rfl
def c18_47 : ACode := .seq c18_2 c18_46
theorem r18_47 : type_of% (@rr _ _ c18_47.eq_1) := rr rfl
def c18_48 : ACode := .seq c18_1 c18_47
theorem r18_48 : type_of% (@rr _ _ c18_48.eq_1) := rr rfl
def c18_49 : ACode := .seq c18_0 c18_48
theorem r18_49 : type_of% (@rr _ _ c18_49.eq_1) := rr rfl
def a18 : AFun := ⟨2, 113, c18_49, [.t 4]⟩
attribute [simp] r18_0 r18_1 r18_2 r18_3 r18_4 r18_5 r18_6 r18_7 r18_8 r18_9 r18_10 r18_11 r18_12 r18_13 r18_14 r18_15 r18_16 r18_17 r18_18 r18_19 r18_20 r18_21 r18_22 r18_23 r18_24 r18_25 r18_26 r18_27 r18_28 r18_29 r18_30 r18_31 r18_32 r18_33 r18_34 r18_35 r18_36 r18_37 r18_38 r18_39 r18_40 r18_41 r18_42 r18_43 r18_44 r18_45 r18_46 r18_47 r18_48 r18_49
theorem m18 : mFun Try.prog Try.f18 a18 = true := by decide +kernel
noncomputable def NodesC (t : KTree) (dim : Int) : Option (List Word) := Part (1 ≤ dim ∧ dim ≤ 4) (treeNodes t dim)
theorem within_of (n lo hi : Int) (h : -1125899906842624 ≤ lo ∧ lo ≤ hi ∧ hi ≤ 1125899906842624) : Within n lo hi = some (within n lo hi) := by unfold Within; rw [if_pos h]
theorem pick_of (l : List Int) (i : Nat) : Pick l (i : Int) = some (pick l i) := by unfold Pick; rw [if_pos (by omega)]; simp
theorem pick_0 (l : List Int) : Pick l 0 = some (pick l 0) := pick_of l 0
theorem rd_node (l : List Node) (i : Nat) (h : i < l.length) : rd (encL l) (i * 6) 6 true = some (.agg [.bool l[i].leaf, .int .i64 l[i].value, .int .i64 l[i].feature, .int .i64 l[i].cut, .int .i64 l[i].left, .int .i64 l[i].right]) := rd_row l i h
theorem nodes_out {C : Cs} (hC : ∀ n : Node, C 68 [.agg [.bool n.leaf, .int .i64 n.value, .int .i64 n.feature, .int .i64 n.cut, .int .i64 n.left, .int .i64 n.right]] = some (.int .u64 (pack n).v)) (l : List Node) (hl : l.length ≤ 31) (g : Nat → Nat) (h : Hp)
    (hh : keepH h [5, 11] = [(5, ⟨encL l, false, 6⟩), (11, ⟨[], false, 1⟩)]) :
    run C (.loop c18_38) [Fr.blk 2, Fr.c c18_43] ⟨[(11, .own 11 (g 11) 0 0), (100, .own 5 (g 5) 0 l.length), (101, .int .i64 l.length), (102, .int .i64 0)], h, g⟩ (fin [ARes.t 4] (AV.lst l.length (encL (l.map pack)))) := by
  refine run_while (c := c18_37) (fun n s => ∃ (i : Nat) (g : Nat → Nat), i + n = l.length ∧ s = ⟨[(11, .own 11 (g 11) 0 i), (100, .own 5 (g 5) 0 l.length), (101, .int .i64 l.length), (102, .int .i64 i)], [(5, ⟨encL l, false, 6⟩), (11, ⟨encL ((l.take i).map pack), false, 1⟩)], g⟩) l.length ⟨0, g, by omega, ?_⟩ ?_
  · simp only [hh]
    simp [encL]
  rintro n s ⟨i, g, hi, rfl⟩
  by_cases h1 : i < l.length
  case pos =>
    have w1 : IntKind.i64.wrap ((i : Int) + 1) = (i : Int) + 1 := wrap64 (by omega) (by omega)
    have hr := rd_node l i h1
    have hL : ((l.take i).map pack).length = i := by simp; omega
    have htk : List.take i (encL ((l.take i).map pack)) = encL ((l.take i).map pack) := take_rows _ _ (by simp; omega)
    have c1 : i ≤ l.length := by omega
    have c2 : i ≤ 1099511627775 := by omega
    simp -implicitDefEqProofs [h1, hr, hC, w1, encL_length, c1, c2]
    refine ⟨n - 1, by omega, i + 1, by omega, ⟨rfl, by omega⟩, ?_⟩
    rw [List.take_take, Nat.min_self, ← List.map_take, ← List.map_take, List.take_succ_eq_append_getElem h1, List.map_append, encL_append]
    rfl
  case neg =>
    have hil : i = l.length := by omega
    subst hil
    have htk : List.take l.length (List.map pack l) = List.map pack l := List.take_of_length_le (by simp)
    simp -implicitDefEqProofs [h1, htk, encL_length]
theorem runs_Nodes (t : KTree) (dim : Int) (c : List Word) (h : NodesC t dim = some c) : Runs (tbl [(65, sp2 Pick), (24, sp3 Within), (68, sp1 fun n => some (pack n))]) a18 [Arg.enc t, Arg.enc dim] (Arg.enc c) := by
  obtain ⟨⟨d1, d2⟩, rfl⟩ := part_some h
  refine ⟨rfl, fun g => run_def ?_⟩
  unfold a18
  have hw0 := within_of (pick t.val 0) (-3000) 3000 (by omega)
  by_cases hm : t.part.length ≤ maxN
  case neg => simp -implicitDefEqProofs [pick_0, hw0, hm, run_round]
  simp -implicitDefEqProofs [pick_0, hw0]
  refine run_while (c := c18_21) (fun n s => ∃ (i : Nat) (g : Nat → Nat), i + n = min t.part.length 7 ∧ s = ⟨[(1, .int .i64 dim), (2, .ptr 2 (g 2) 0), (5, .own 5 (g 5) 0 (grow t dim i).nodes.length), (6, .own 6 (g 6) 0 (grow t dim i).leaves.length), (7, .int .i64 i)],
    [(2, ⟨[.int .i64 t.cls, .lst t.part.length (encL t.part), .lst t.dir.length (encL t.dir), .lst t.cut.length (encL t.cut), .lst t.val.length (encL t.val)], false, 0⟩), (5, ⟨encL (grow t dim i).nodes, false, 6⟩), (6, ⟨encL (grow t dim i).leaves, false, 1⟩)], g⟩) (min t.part.length 7) ⟨0, bump 6 (bump 5 (bump 2 g)), by omega, by simp [grow, grow0, leafN, encL]⟩ ?_
  rintro n s ⟨i, g, hi, rfl⟩
  have w1 : IntKind.i64.wrap ((i : Int) + 1) = (i : Int) + 1 := wrap64 (by omega) (by omega)
  by_cases h1 : i < min t.part.length 7
  case pos =>
    have hG := gi t dim d1 d2 i (by omega)
    have hs : grow t dim (i + 1) = growS t dim i (grow t dim i) := rfl
    generalize grow t dim i = G at *
    have L1 := hG.len
    have L2 := hG.lvs
    have c1 : i < t.part.length := by omega
    have c2 : (i : Int) < 7 := by omega
    have c3 : G.leaves.length ≤ maxN := by unfold maxN; omega
    have c4 : G.nodes.length ≤ maxN := by unfold maxN; omega
    have w2 : IntKind.i64.wrap ((G.leaves.length : Int) - 1) = (G.leaves.length : Int) - 1 := wrap64 (by omega) (by omega)
    have w3 : IntKind.i64.wrap ((G.nodes.length : Int) + 1) = (G.nodes.length : Int) + 1 := wrap64 (by omega) (by omega)
    have w4 : IntKind.i64.wrap (dim - 1) = dim - 1 := wrap64 (by omega) (by omega)
    have w5 : IntKind.i64.wrap (2 * (i : Int)) = 2 * (i : Int) := wrap64 (by omega) (by omega)
    have w6 : IntKind.i64.wrap (2 * (i : Int) + 1) = 2 * (i : Int) + 1 := wrap64 (by omega) (by omega)
    have w7 : IntKind.i64.wrap (2 * (i : Int) + 2) = 2 * (i : Int) + 2 := wrap64 (by omega) (by omega)
    have p5 : Pick t.val (2 * (i : Int) + 1) = some (pick t.val (2 * i + 1)) := pick_of t.val (2 * i + 1)
    have p6 : Pick t.val (2 * (i : Int) + 2) = some (pick t.val (2 * i + 2)) := pick_of t.val (2 * i + 2)
    have v5 := within_of (pick t.val (2 * i + 1)) (-3000) 3000 (by omega)
    have v6 := within_of (pick t.val (2 * i + 2)) (-3000) 3000 (by omega)
    have v7 := within_of (pick t.dir i) 0 (dim - 1) (by omega)
    have v8 := within_of (pick t.cut i) 0 9 (by omega)
    have v9 := within_of t.part[i] 0 ((G.leaves.length : Int) - 1) (by omega)
    have hk := within_le t.part[i] 0 ((G.leaves.length : Int) - 1) (by omega)
    have hkK : growK t i G = (within t.part[i] 0 ((G.leaves.length : Int) - 1)).toNat := by unfold growK; simp [c1]
    generalize within t.part[i] 0 ((G.leaves.length : Int) - 1) = K at *
    obtain ⟨k, rfl⟩ : ∃ k : Nat, K = k := ⟨K.toNat, by omega⟩
    simp only [Int.toNat_natCast] at hkK
    have c5 : k < G.leaves.length := by omega
    obtain ⟨hl0, hl1, hl2⟩ := hG.leaf _ (List.getElem_mem c5)
    have c6 : G.leaves[k] < G.nodes.length := by omega
    have w8 : IntKind.i64.wrap ((k : Int) + 1) = (k : Int) + 1 := wrap64 (by omega) (by omega)
    have c7 : (k : Int) + 1 ≤ G.leaves.length := by omega
    have c8 : (k : Int) ≤ G.leaves.length := by omega
    have c9 : k ≤ G.leaves.length := by omega
    have c10 : G.leaves[k].toNat * 6 + 6 ≤ G.nodes.length * 6 := by omega
    have c11 : G.nodes.length ≤ 1099511627774 := by omega
    have c12 : k ≤ 1099511627776 := by omega
    have c13 : 0 ≤ (k : Int) + 1 := by omega
    have c14 : k + 1 ≤ G.leaves.length := by omega
    have hwr : wr (encL G.nodes) (G.leaves[k].toNat * 6) [.bool false, .int .i64 0, .int .i64 (within (pick t.dir i) 0 (dim - 1)), .int .i64 (within (pick t.cut i) 0 9), .int .i64 G.nodes.length, .int .i64 (G.nodes.length + 1)] = encL (G.nodes.set G.leaves[k].toNat (growN t dim i G.nodes.length)) := wr_row G.nodes _ hl1 (growN t dim i G.nodes.length)
    have htk : List.take (G.nodes.length * 6) (encL (G.nodes.set G.leaves[k].toNat (growN t dim i G.nodes.length))) = encL (G.nodes.set G.leaves[k].toNat (growN t dim i G.nodes.length)) := take_rows _ _ (by simp)
    simp -implicitDefEqProofs [hm, c1, c2, c3, c4, c5, c6, c7, c8, c9, c10, c11, c12, c13, c14, hwr, htk, hl0, hl1, w1, w2, w3, w4, w5, w6, w7, w8, p5, p6, v5, v6, v7, v8, v9, pick_of, rd_ints, encL_length]
    have hgl : (growS t dim i G).leaves = G.leaves.take k ++ G.leaves.drop (k + 1) ++ [(G.nodes.length : Int), G.nodes.length + 1] := by unfold growS; rw [hkK]
    have hgn : (growS t dim i G).nodes = G.nodes.set G.leaves[k].toNat (growN t dim i G.nodes.length) ++ [leafN (within (pick t.val (2 * i + 1)) (-3000) 3000), leafN (within (pick t.val (2 * i + 2)) (-3000) 3000)] := by
      unfold growS
      have : G.leaves.getD k 0 = G.leaves[k] := by simp [c5]
      rw [hkK, this]
    refine ⟨fun _ => ⟨fun _ => ⟨n - 1, by omega, i + 1, by omega, ⟨?_, ?_, by omega⟩, ?_, ?_⟩, by omega⟩, by omega⟩
    · rw [hs, hgn]; simp
    · rw [hs, hgl]; simp; omega
    · rw [hs, hgn, encL_append]; rfl
    · rw [hs, hgl, encL_append, encL_append]
      rw [List.take_take, Nat.min_self, List.take_of_length_le (show (G.leaves.drop (k + 1)).length ≤ G.leaves.length - (k + 1) by simp)]
      rw [List.take_of_length_le (by rw [List.length_append, encL_length, encL_length]; simp; omega)]
      rfl
  case neg =>
    have hil : i = min t.part.length 7 := by omega
    have c1 : ¬ ((i : Int) < t.part.length ∧ (i : Int) < 7) := by omega
    have hT : treeNodes t dim = (grow t dim i).nodes.map pack := by rw [hil]; rfl
    have hG := gi t dim d1 d2 i (by omega)
    have hok : ∀ n ∈ (grow t dim i).nodes, rightNode n = true := hG.ok
    have L1 := hG.len
    rw [hT]
    generalize (grow t dim i).nodes = l at *
    have c3 : l.length ≤ maxN := by unfold maxN; omega
    have hl : l.length ≤ 31 := by omega
    by_cases c2 : (i : Int) < t.part.length
    case pos =>
      have c4 : ¬ (i : Int) < 7 := by omega
      simp -implicitDefEqProofs [hm, c2, c4, c3]
      exact nodes_out (fun n => by simp) l hl (bump 11 g) _ (by simp)
    case neg =>
      simp -implicitDefEqProofs [hm, c2, c3]
      exact nodes_out (fun n => by simp) l hl (bump 11 g) _ (by simp)
theorem c_Nodes : Contract Try.prog 18 (sp2 NodesC) :=
  contract_of_runs mixed (tbl_cons c_pick (tbl_cons c_Within (tbl_cons c_rPack tbl_nil))) Try.func18 m18 (sp2_runs runs_Nodes)
end Go.Co
/- CO: the model that numbers make. -/
set_option maxHeartbeats 16000000
set_option maxRecDepth 100000
namespace Go.Co
open Go.Am Go.Proofs
set_option linter.unusedSimpArgs false
set_option linter.unusedVariables false
def c15_0 : ACode := .ops [⟨some 1, .box (.t 0) 4, none, []⟩,⟨some 2, .alloc [.int .i64 0, .int .i64 0, .int .i64 0, .int .i64 0, .int .i64 0, .nils], none, []⟩] [1, 2]
theorem r15_0 : type_of% (@rr _ _ c15_0.eq_1) := rr rfl
def c15_1 : ACode := .ops [⟨some 6, .fad (.t 1) 0, none, [1]⟩,⟨some 7, .load 1 false (.t 6), none, [1]⟩,⟨some 8, .call 24 [.t 7, .c (.int .i64 1), .c (.int .i64 3)], none, []⟩,⟨some 9, .fad (.t 1) 1, none, [1]⟩,⟨some 10, .load 1 false (.t 9), none, [1]⟩,⟨some 11, .call 24 [.t 10, .c (.int .i64 1), .c (.int .i64 3)], none, []⟩,⟨some 12, .build [.int .i64 0, .int .i64 0, .int .i64 0, .int .i64 0, .int .i64 0, .nils] [(0, 1, .t 8), (1, 1, .t 11)], none, []⟩,⟨some 3, .alloc [.int .i64 0, .int .i64 0, .int .i64 0, .int .i64 0, .int .i64 0, .nils], none, []⟩,⟨none, .store (.t 3) 6 (.t 12), none, [3]⟩] [1, 2, 3]
theorem r15_1 : type_of% (@rr _ _ c15_1.eq_1) := rr rfl
def c15_2 : ACode := .ops [⟨some 13, .fad (.t 3) 1, none, [3]⟩,⟨some 14, .load 1 false (.t 13), none, [3]⟩,⟨some 15, .mv (.c (.int .i64 0)), none, []⟩] [1, 2, 3, 14, 15]
theorem r15_2 : type_of% (@rr _ _ c15_2.eq_1) := rr rfl
def c15_3 : ACode := .ops [⟨some 16, .bin .lss (.t 15) (.t 14), none, []⟩] [1, 2, 3, 14, 15, 16]
theorem r15_3 : type_of% (@rr _ _ c15_3.eq_1) := rr rfl
def c15_4 : ACode := .cond (.t 16) .skip (.exit 0)
theorem r15_4 : type_of% (@rr _ _ c15_4.eq_1) := rr rfl
def c15_5 : ACode := .ops [⟨some 17, .mv (.t 15), none, []⟩,⟨some 4, .mv (.t 17), none, []⟩] [1, 2, 3, 4, 14, 15]
theorem r15_5 : type_of% (@rr _ _ c15_5.eq_1) := rr rfl
def c15_6 : ACode := .ops [⟨some 18, .mv (.t 4), none, []⟩,⟨some 19, .fad (.t 1) 2, none, [1]⟩,⟨some 20, .load 1 false (.t 19), none, [1]⟩,⟨some 21, .mv (.t 4), none, []⟩,⟨some 22, .call 65 [.t 20, .t 21], none, []⟩,⟨some 23, .call 24 [.t 22, .c (.int .i64 (-500)), .c (.int .i64 500)], none, []⟩,⟨some 24, .fad (.t 3) 2, none, [3]⟩,⟨some 25, .iad (.t 24) (.t 18) 1 3, none, [3]⟩,⟨none, .store (.t 25) 1 (.t 23), none, [3]⟩] [1, 2, 3, 14, 15]
theorem r15_6 : type_of% (@rr _ _ c15_6.eq_1) := rr rfl
def c15_7 : ACode := .seq c15_5 c15_6
theorem r15_7 : type_of% (@rr _ _ c15_7.eq_1) := rr rfl
def c15_8 : ACode := .block 1 c15_7
theorem r15_8 : type_of% (@rr _ _ c15_8.eq_1) := rr rfl
def c15_9 : ACode := .ops [⟨some 26, .bin .add (.t 15) (.c (.int .i64 1)), none, []⟩,⟨some 15, .mv (.t 26), none, []⟩] [1, 2, 3, 14, 15]
theorem r15_9 : type_of% (@rr _ _ c15_9.eq_1) := rr rfl
def c15_10 : ACode := .seq c15_8 c15_9
theorem r15_10 : type_of% (@rr _ _ c15_10.eq_1) := rr rfl
def c15_11 : ACode := .seq c15_4 c15_10
theorem r15_11 : type_of% (@rr _ _ c15_11.eq_1) := rr rfl
def c15_12 : ACode := .seq c15_3 c15_11
theorem r15_12 : type_of% (@rr _ _ c15_12.eq_1) := rr rfl
def c15_13 : ACode := .keep [1, 2, 3, 14, 15] [1, 2, 3, 10305] c15_12
theorem r15_13 : type_of% (@rr _ _ c15_13.eq_1) := rr rfl
def c15_14 : ACode := .loop c15_13
theorem r15_14 : type_of% (@rr _ _ c15_14.eq_1) := rr rfl
def c15_15 : ACode := .block 0 c15_14
theorem r15_15 : type_of% (@rr _ _ c15_15.eq_1) := rr rfl
def c15_16 : ACode := .seq c15_2 c15_15
theorem r15_16 : type_of% (@rr _ _ c15_16.eq_1) := rr rfl
def c15_17 : ACode := .ops [⟨some 5, .mv (.c (.int .i64 0)), none, []⟩] [1, 2, 3, 5]
theorem r15_17 : type_of% (@rr _ _ c15_17.eq_1) := rr rfl
def c15_18 : ACode := .ops [⟨some 27, .mv (.t 5), none, []⟩,⟨some 28, .fad (.t 1) 3, none, [1]⟩,⟨some 29, .load 1 false (.t 28), none, [1]⟩,⟨some 30, .len (.t 29), none, []⟩,⟨some 31, .bin .lss (.t 27) (.t 30), none, []⟩,⟨some 32, .mv (.t 31), none, []⟩,⟨some 33, .mv (.t 5), some (32, true), []⟩,⟨some 34, .bin .lss (.t 33) (.c (.int .i64 4)), some (32, true), []⟩,⟨some 35, .pick (.t 32) (.t 34) (.c (.bool false)), none, []⟩] [1, 2, 3, 5, 35]
theorem r15_18 : type_of% (@rr _ _ c15_18.eq_1) := rr rfl
def c15_19 : ACode := .cond (.t 35) .skip (.exit 2)
theorem r15_19 : type_of% (@rr _ _ c15_19.eq_1) := rr rfl
def c15_20 : ACode := .seq c15_18 c15_19
theorem r15_20 : type_of% (@rr _ _ c15_20.eq_1) := rr rfl
def c15_21 : ACode := .ops [⟨some 38, .fad (.t 3) 5, none, [3]⟩,⟨some 39, .load 1 false (.t 38), none, [3]⟩,⟨some 40, .fad (.t 1) 3, none, [1]⟩,⟨some 41, .load 1 false (.t 40), none, [1]⟩,⟨some 42, .mv (.t 5), none, []⟩,⟨some 43, .ias (.t 41) (.t 42) 5, none, []⟩,⟨some 44, .fad (.t 43) 0, none, []⟩,⟨some 45, .load 1 false (.t 44), none, []⟩,⟨some 46, .fad (.t 3) 1, none, [3]⟩,⟨some 47, .load 1 false (.t 46), none, [3]⟩,⟨some 48, .bin .sub (.t 47) (.c (.int .i64 1)), none, []⟩,⟨some 49, .call 24 [.t 45, .c (.int .i64 0), .t 48], none, []⟩,⟨some 50, .fad (.t 1) 3, none, [1]⟩,⟨some 51, .load 1 false (.t 50), none, [1]⟩,⟨some 52, .mv (.t 5), none, []⟩,⟨some 53, .ias (.t 51) (.t 52) 5, none, []⟩,⟨some 54, .load 5 true (.t 53), none, []⟩,⟨some 55, .fad (.t 3) 0, none, [3]⟩,⟨some 56, .load 1 false (.t 55), none, [3]⟩,⟨some 57, .call 18 [.t 54, .t 56], none, []⟩,⟨some 58, .build [.int .i64 0, .nils] [(0, 1, .t 49), (1, 1, .t 57)], none, []⟩,⟨some 59, .mkrow 59 1 2 [.int .i64 0, .nils] [(0, 2, .t 58)], none, []⟩,⟨some 60, .app 10305 [10305] (.t 39) (.t 59) 2, none, [59, 10305]⟩,⟨some 61, .fad (.t 3) 5, none, [3]⟩,⟨none, .store (.t 61) 1 (.t 60), none, [3]⟩] [1, 2, 3, 5]
theorem r15_21 : type_of% (@rr _ _ c15_21.eq_1) := rr rfl
def c15_22 : ACode := .block 3 c15_21
theorem r15_22 : type_of% (@rr _ _ c15_22.eq_1) := rr rfl
def c15_23 : ACode := .ops [⟨some 36, .mv (.t 5), none, []⟩,⟨some 37, .bin .add (.t 36) (.c (.int .i64 1)), none, []⟩,⟨some 5, .mv (.t 37), none, []⟩] [1, 2, 3, 5]
theorem r15_23 : type_of% (@rr _ _ c15_23.eq_1) := rr rfl
def c15_24 : ACode := .seq c15_22 c15_23
theorem r15_24 : type_of% (@rr _ _ c15_24.eq_1) := rr rfl
def c15_25 : ACode := .seq c15_20 c15_24
theorem r15_25 : type_of% (@rr _ _ c15_25.eq_1) := rr rfl
def c15_26 : ACode := .keep [1, 2, 3, 5] [1, 2, 3, 10305] c15_25
theorem r15_26 : type_of% (@rr _ _ c15_26.eq_1) := rr rfl
def c15_27 : ACode := .loop c15_26
theorem r15_27 : type_of% (@rr _ _ c15_27.eq_1) := rr rfl
def c15_28 : ACode := .block 2 c15_27
theorem r15_28 : type_of% (@rr _ _ c15_28.eq_1) := rr rfl
def c15_29 : ACode := .seq c15_17 c15_28
theorem r15_29 : type_of% (@rr _ _ c15_29.eq_1) := rr rfl
def c15_30 : ACode := .ops [⟨some 62, .load 6 true (.t 3), none, [3]⟩,⟨none, .store (.t 2) 6 (.t 62), none, [2]⟩] [2]
theorem r15_30 : type_of% (@rr _ _ c15_30.eq_1) := rr rfl
def c15_31 : ACode := .seq c15_30 .ret
theorem r15_31 : type_of% (@rr _ _ c15_31.eq_1) := rr rfl
def c15_32 : ACode := .seq c15_29 c15_31
theorem r15_32 : type_of% (@rr _ _ c15_32.eq_1) := rr rfl
def c15_33 : ACode := .seq c15_16 c15_32
theorem r15_33 : type_of% (@rr _ _ c15_33.eq_1) := rr rfl
def c15_34 : ACode := .seq c15_1 c15_33
theorem r15_34 : type_of% (@rr _ _ c15_34.eq_1) := rr rfl
def c15_35 : ACode := .seq c15_0 c15_34
theorem r15_35 : type_of% (@rr _ _ c15_35.eq_1) := rr rfl
def a15 : AFun := ⟨1, 63, c15_35, [.cell 2 6 true]⟩
attribute [simp] r15_0 r15_1 r15_2 r15_3 r15_4 r15_5 r15_6 r15_7 r15_8 r15_9 r15_10 r15_11 r15_12 r15_13 r15_14 r15_15 r15_16 r15_17 r15_18 r15_19 r15_20 r15_21 r15_22 r15_23 r15_24 r15_25 r15_26 r15_27 r15_28 r15_29 r15_30 r15_31 r15_32 r15_33 r15_34 r15_35
theorem m15 : mFun Try.prog Try.f15 a15 = true := by decide +kernel
theorem rd_ktree (l : List KTree) (i : Nat) (h : i < l.length) : rd (encL l) (i * 5) 5 true = some (.agg [.int .i64 l[i].cls, .lst l[i].part.length (encL l[i].part), .lst l[i].dir.length (encL l[i].dir), .lst l[i].cut.length (encL l[i].cut), .lst l[i].val.length (encL l[i].val)]) := rd_row l i h
theorem rd_ktree0 (l : List KTree) (i : Nat) (h : i < l.length) : rd (encL l) (i * 5) 1 false = some (.int .i64 l[i].cls) := rd_cell l i 0 h (by decide)
def fcells (f : Forest) : List AV := [.int .i64 f.dim, .int .i64 f.classes, .lst f.bias.length (encL f.bias), .lst f.trees.length (encL f.trees)]
theorem forest_trees {C : Cs} (hW : ∀ n lo hi : Int, C 24 [.int .i64 n, .int .i64 lo, .int .i64 hi] = (Within n lo hi).map Arg.enc)
    (hN : ∀ (t : KTree) (dim : Int), C 18 [.agg [.int .i64 t.cls, .lst t.part.length (encL t.part), .lst t.dir.length (encL t.dir), .lst t.cut.length (encL t.cut), .lst t.val.length (encL t.val)], .int .i64 dim] = (NodesC t dim).map Arg.enc)
    (f : Forest) (b : Bias) (g : Nat → Nat) (h : Hp)
    (hh : keepH h [1, 2, 3, 10305] = [(1, ⟨fcells f, false, 0⟩), (2, ⟨[.int .i64 0, .int .i64 0, .int .i64 0, .int .i64 0, .int .i64 0, .nils], false, 0⟩), (3, ⟨[.int .i64 (mDim f), .int .i64 (mClasses f), .int .i64 b.b0, .int .i64 b.b1, .int .i64 b.b2, .nils], false, 0⟩)]) :
    run C (.loop c15_26) [Fr.blk 2, Fr.c c15_31] ⟨[(1, .ptr 1 (g 1) 0), (2, .ptr 2 (g 2) 0), (3, .ptr 3 (g 3) 0), (5, .int .i64 0)], h, g⟩
      (fin [ARes.cell 2 6 true] (Arg.enc (⟨mDim f, mClasses f, b, (f.trees.take 4).map (mTree f)⟩ : Model))) := by
  have hd := mDim_le f
  have hc := mClasses_le f
  by_cases hm : f.trees.length ≤ maxN
  case neg =>
    rw [run_round]
    unfold c15_26
    rw [run_keep]
    simp only [hh]
    simp -implicitDefEqProofs [hm, fcells]
  refine run_while (c := c15_25) (fun n s => ∃ (i : Nat) (g : Nat → Nat), i + n = min f.trees.length 4 ∧ s = ⟨[(1, .ptr 1 (g 1) 0), (2, .ptr 2 (g 2) 0), (3, .ptr 3 (g 3) 0), (5, .int .i64 i)],
    (1, ⟨fcells f, false, 0⟩) :: (2, ⟨[.int .i64 0, .int .i64 0, .int .i64 0, .int .i64 0, .int .i64 0, .nils], false, 0⟩) :: (3, ⟨[.int .i64 (mDim f), .int .i64 (mClasses f), .int .i64 b.b0, .int .i64 b.b1, .int .i64 b.b2, if i = 0 then .nils else .own 10305 (g 10305) 0 i], false, 0⟩) ::
      (if i = 0 then [] else [(10305, ⟨encL ((f.trees.map (mTree f)).take i), false, 2⟩)]), g⟩) (min f.trees.length 4) ⟨0, g, by omega, ?_⟩ ?_
  · simp only [hh]
    simp
  rintro n s ⟨i, g, hi, rfl⟩
  have w1 : IntKind.i64.wrap ((i : Int) + 1) = (i : Int) + 1 := wrap64 (by omega) (by omega)
  by_cases h1 : i < min f.trees.length 4
  case pos =>
    have c1 : i < f.trees.length := by omega
    have c2 : (i : Int) < 4 := by omega
    have r1 := rd_ktree f.trees i c1
    have r0 := rd_ktree0 f.trees i c1
    have w2 : IntKind.i64.wrap (mClasses f - 1) = mClasses f - 1 := wrap64 (by omega) (by omega)
    have v1 := within_of f.trees[i].cls 0 (mClasses f - 1) (by omega)
    have v2 : NodesC f.trees[i] (mDim f) = some (treeNodes f.trees[i] (mDim f)) := part_of ⟨hd.1, by omega⟩ _
    have c3 : i ≤ 1099511627775 := by omega
    have hL : ((f.trees.map (mTree f)).take i).length = i := by simp; omega
    have c4 : i ≤ f.trees.length := by omega
    have c5 : i * 2 ≤ (encL ((f.trees.map (mTree f)).take i)).length := by rw [encL_length, hL]; exact Nat.le_refl _
    have htk : List.take (i * 2) (encL ((f.trees.map (mTree f)).take i)) = encL ((f.trees.map (mTree f)).take i) := take_rows _ _ (by rw [hL]; exact Nat.le_refl _)
    have he : encL ((f.trees.map (mTree f)).take (i + 1)) = encL ((f.trees.map (mTree f)).take i) ++ [.int .i64 (within f.trees[i].cls 0 (mClasses f - 1)), .lst (treeNodes f.trees[i] (mDim f)).length (encL (treeNodes f.trees[i] (mDim f)))] := by
      rw [List.take_succ_eq_append_getElem (show i < (f.trees.map (mTree f)).length by simpa using c1), encL_append, List.getElem_map]
      rfl
    by_cases hz : i = 0
    · subst hz
      simp -implicitDefEqProofs [hm, fcells, c1, c2, r0, r1, w1, w2, hW, hN, v1, v2]
      refine ⟨n - 1, by omega, 1, by omega, by omega, by rw [if_neg (by omega)], ?_⟩
      rw [if_neg (by omega), he]
      rfl
    · simp -implicitDefEqProofs [hm, fcells, c1, c2, r0, r1, w1, w2, hW, hN, v1, v2, hz, c3, c5, htk]
      refine ⟨n - 1, by omega, i + 1, by omega, by omega, by rw [if_neg (by omega)], ?_⟩
      rw [if_neg (by omega), he]
  case neg =>
    have hil : i = min f.trees.length 4 := by omega
    have ht : f.trees.take 4 = f.trees.take i := by
      rw [hil]
      by_cases h4 : f.trees.length ≤ 4
      · rw [List.take_of_length_le h4, List.take_of_length_le (by omega)]
      · rw [show min f.trees.length 4 = 4 by omega]
    have hT : (f.trees.take 4).map (mTree f) = (f.trees.map (mTree f)).take i := by rw [ht, List.map_take]
    have hL : ((f.trees.map (mTree f)).take i).length = i := by simp; omega
    have htk : List.take (i * 2) (encL ((f.trees.map (mTree f)).take i)) = encL ((f.trees.map (mTree f)).take i) := take_rows _ _ (by rw [hL]; exact Nat.le_refl _)
    have c5 : i * 2 ≤ (encL ((f.trees.map (mTree f)).take i)).length := by rw [encL_length, hL]; exact Nat.le_refl _
    rw [hT]
    by_cases hz : i = 0
    · subst hz
      by_cases k1 : (0 : Int) < f.trees.length
      · omega
      · have k2 : ¬ 0 < f.trees.length := by omega
        simp -implicitDefEqProofs [hm, fcells, k2]
        rfl
    · by_cases k1 : (i : Int) < f.trees.length
      · have k2 : ¬ (i : Int) < 4 := by omega
        simp -implicitDefEqProofs [hm, fcells, k1, k2, hz, c5, htk]
        omega
      · simp -implicitDefEqProofs [hm, fcells, k1, hz, c5, htk]
        omega
noncomputable def ModelC (f : Forest) : Option Model := some (modelOf f)
theorem runs_Model (f : Forest) (c : Model) (h : ModelC f = some c) : Runs (tbl [(65, sp2 Pick), (24, sp3 Within), (18, sp2 NodesC)]) a15 [Arg.enc f] (Arg.enc c) := by
  cases h
  refine ⟨rfl, fun g => run_def ?_⟩
  unfold a15
  have v1 : Within f.dim 1 3 = some (mDim f) := within_of f.dim 1 3 (by omega)
  have v2 : Within f.classes 1 3 = some (mClasses f) := within_of f.classes 1 3 (by omega)
  have hc := mClasses_le f
  have p0 := pick_of f.bias 0
  have p1 : Pick f.bias 1 = some (pick f.bias 1) := pick_of f.bias 1
  have p2 : Pick f.bias 2 = some (pick f.bias 2) := pick_of f.bias 2
  have v3 := within_of (pick f.bias 0) (-500) 500 (by omega)
  have v4 := within_of (pick f.bias 1) (-500) 500 (by omega)
  have v5 := within_of (pick f.bias 2) (-500) 500 (by omega)
  have b0 : within (pick f.bias 0) (-500) 500 = mBias f 0 := by unfold mBias; rw [if_pos (by omega)]
  rw [b0] at v3
  have hcc : mClasses f = 1 ∨ mClasses f = 2 ∨ mClasses f = 3 := by omega
  have hW : ∀ n lo hi : Int, tbl [(65, sp2 Pick), (24, sp3 Within), (18, sp2 NodesC)] 24 [.int .i64 n, .int .i64 lo, .int .i64 hi] = (Within n lo hi).map Arg.enc := fun n lo hi => by simp
  have hN : ∀ (t : KTree) (dim : Int), tbl [(65, sp2 Pick), (24, sp3 Within), (18, sp2 NodesC)] 18 [.agg [.int .i64 t.cls, .lst t.part.length (encL t.part), .lst t.dir.length (encL t.dir), .lst t.cut.length (encL t.cut), .lst t.val.length (encL t.val)], .int .i64 dim] = (NodesC t dim).map Arg.enc := fun t dim => by simp
  rcases hcc with hcc | hcc | hcc
  · have z1 : mBias f 1 = 0 := by unfold mBias; rw [if_neg (by omega)]
    have z2 : mBias f 2 = 0 := by unfold mBias; rw [if_neg (by omega)]
    simp -implicitDefEqProofs [v1, v2, v3, p0, pick_0, hcc, run_round, -r15_27]
    exact forest_trees hW hN f ⟨mBias f 0, mBias f 1, mBias f 2⟩ (bump 3 (bump 2 (bump 1 g))) _ (by simp [hcc, fcells, z1, z2])
  · have b1 : within (pick f.bias 1) (-500) 500 = mBias f 1 := by unfold mBias; rw [if_pos (by omega)]
    rw [b1] at v4
    have z2 : mBias f 2 = 0 := by unfold mBias; rw [if_neg (by omega)]
    simp -implicitDefEqProofs [v1, v2, v3, v4, p0, p1, pick_0, hcc, run_round, -r15_27]
    exact forest_trees hW hN f ⟨mBias f 0, mBias f 1, mBias f 2⟩ (bump 3 (bump 2 (bump 1 g))) _ (by simp [hcc, fcells, z2])
  · have b1 : within (pick f.bias 1) (-500) 500 = mBias f 1 := by unfold mBias; rw [if_pos (by omega)]
    have b2 : within (pick f.bias 2) (-500) 500 = mBias f 2 := by unfold mBias; rw [if_pos (by omega)]
    rw [b1] at v4
    rw [b2] at v5
    simp -implicitDefEqProofs [v1, v2, v3, v4, v5, p0, p1, p2, pick_0, hcc, run_round, -r15_27]
    exact forest_trees hW hN f ⟨mBias f 0, mBias f 1, mBias f 2⟩ (bump 3 (bump 2 (bump 1 g))) _ (by simp [hcc, fcells])
theorem c_Model : Contract Try.prog 15 (sp1 ModelC) :=
  contract_of_runs mixed (tbl_cons c_pick (tbl_cons c_Within (tbl_cons c_Nodes tbl_nil))) Try.func15 m15 (sp1_runs runs_Model)
end Go.Co
/- CO: the region and the query that numbers make. -/
namespace Go.Co
open Go.Am Go.Proofs
set_option linter.unusedSimpArgs false
set_option linter.unusedVariables false
end Go.Co
/- CO: a point of a box, by numbers. -/
namespace Go.Co
open Go.Am Go.Proofs
set_option linter.unusedSimpArgs false
set_option linter.unusedVariables false
def small (s : Span) : Prop := -1125899906842624 ≤ s.lo ∧ s.lo ≤ 1125899906842624 ∧ s.hi ≤ 1125899906842624
end Go.Co
/- CO: margins, the best class (written by mkCoO.py). -/
namespace Go.Co
open Go.Am Go.Proofs
set_option linter.unusedSimpArgs false
set_option linter.unusedVariables false
def c96_0 : ACode := .ops [⟨some 2, .box (.t 0) 6, none, []⟩,⟨some 3, .box (.t 1) 4, none, []⟩,⟨some 4, .mv (.c (.int .i64 0)), none, []⟩] [2, 3]
def c96_1 : ACode := .ops [⟨some 7, .load 6 true (.t 2), none, [2]⟩,⟨some 8, .call 27 [.t 7], none, []⟩,⟨some 9, .un .not (.t 8), none, []⟩] [2, 3, 9]
def c96_2 : ACode := .ops [⟨some 4, .mv (.c (.int .i64 (-1))), none, []⟩] [4]
def c96_3 : ACode := .seq c96_2 .ret
def c96_4 : ACode := .cond (.t 9) c96_3 .skip
def c96_5 : ACode := .seq c96_1 c96_4
def c96_6 : ACode := .ops [⟨some 5, .mv (.c (.int .i64 0)), none, []⟩] [2, 3, 5]
def c96_7 : ACode := .ops [⟨some 6, .mv (.c (.int .i64 1)), none, []⟩] [2, 3, 5, 6]
def c96_8 : ACode := .ops [⟨some 10, .mv (.t 6), none, []⟩,⟨some 11, .fad (.t 2) 1, none, [2]⟩,⟨some 12, .load 1 false (.t 11), none, [2]⟩,⟨some 13, .bin .lss (.t 10) (.t 12), none, []⟩] [2, 3, 5, 6, 13]
def c96_9 : ACode := .cond (.t 13) .skip (.exit 0)
def c96_10 : ACode := .seq c96_8 c96_9
def c96_11 : ACode := .ops [⟨some 16, .load 6 true (.t 2), none, [2]⟩,⟨some 17, .mv (.t 6), none, []⟩,⟨some 18, .load 4 true (.t 3), none, [3]⟩,⟨some 19, .call 78 [.t 16, .t 17, .t 18], none, []⟩,⟨some 20, .load 6 true (.t 2), none, [2]⟩,⟨some 21, .mv (.t 5), none, []⟩,⟨some 22, .load 4 true (.t 3), none, [3]⟩,⟨some 23, .call 78 [.t 20, .t 21, .t 22], none, []⟩,⟨some 24, .bin .gtr (.t 19) (.t 23), none, []⟩] [2, 3, 5, 6, 24]
def c96_12 : ACode := .ops [⟨some 25, .mv (.t 6), none, []⟩,⟨some 5, .mv (.t 25), none, []⟩] [2, 3, 5, 6]
def c96_13 : ACode := .cond (.t 24) c96_12 .skip
def c96_14 : ACode := .seq c96_11 c96_13
def c96_15 : ACode := .block 1 c96_14
def c96_16 : ACode := .ops [⟨some 14, .mv (.t 6), none, []⟩,⟨some 15, .bin .add (.t 14) (.c (.int .i64 1)), none, []⟩,⟨some 6, .mv (.t 15), none, []⟩] [2, 3, 5, 6]
def c96_17 : ACode := .seq c96_15 c96_16
def c96_18 : ACode := .seq c96_10 c96_17
def c96_19 : ACode := .keep [2, 3, 5, 6] [2, 3] c96_18
def c96_20 : ACode := .loop c96_19
def c96_21 : ACode := .block 0 c96_20
def c96_22 : ACode := .seq c96_7 c96_21
def c96_23 : ACode := .ops [⟨some 26, .mv (.t 5), none, []⟩,⟨some 4, .mv (.t 26), none, []⟩] [4]
def c96_24 : ACode := .seq c96_23 .ret
def c96_25 : ACode := .seq c96_22 c96_24
def c96_26 : ACode := .seq c96_6 c96_25
def c96_27 : ACode := .seq c96_5 c96_26
def c96_28 : ACode := .seq c96_0 c96_27
def a96 : AFun := ⟨2, 27, c96_28, [.t 4]⟩
theorem m96 : mFun Try.prog Try.f96 a96 = true := by decide +kernel
end Go.Co
/- CO: right trees and right models: told of any. -/
set_option maxHeartbeats 16000000
set_option maxRecDepth 100000
namespace Go.Co
open Go.Am Go.Proofs
set_option linter.unusedSimpArgs false
set_option linter.unusedVariables false
open Classical in
noncomputable def rightT (l : List Word) (dim : Int) : Bool := decide (RT l dim)
theorem rightT_true {l : List Word} {dim : Int} : rightT l dim = true ↔ RT l dim := by unfold rightT; simp
theorem rightT_false {l : List Word} {dim : Int} : rightT l dim = false ↔ ¬ RT l dim := by unfold rightT; simp
def okL (l : List Word) : Prop := ∀ w ∈ l, okW w.v
noncomputable def TreeRightT (l : List Word) (dim : Int) : Option Bool := Part (okL l ∧ l.length ≤ maxN) (rightT l dim)
def Pre (l : List Word) (dim : Int) (n : Nat) : Prop := ∀ (i : Nat) (h : i < l.length), i < n → (unpack l[i]).2 = true ∧ ((nd l[i]).leaf = false → (nd l[i]).feature < dim ∧ (nd l[i]).left ≠ (nd l[i]).right ∧ (i : Int) < (nd l[i]).left ∧ (nd l[i]).left < l.length ∧ (i : Int) < (nd l[i]).right ∧ (nd l[i]).right < l.length)
theorem Pre.zero {l : List Word} {dim : Int} : Pre l dim 0 := fun i h hi => by omega
theorem Pre.leaf {l : List Word} {dim : Int} {i : Nat} (h : Pre l dim i) (hi : i < l.length) (hok : (unpack l[i]).2 = true) (hl : (ndAt l i).leaf = true) : Pre l dim (i + 1) := by
  intro j hj hji
  by_cases e : j = i
  · subst e
    rw [ndAt_lt hi] at hl
    exact ⟨hok, fun h => by rw [hl] at h; cases h⟩
  · exact h j hj (by omega)
theorem Pre.inner {l : List Word} {dim : Int} {i : Nat} (h : Pre l dim i) (hi : i < l.length) (hok : (unpack l[i]).2 = true) (ha : (ndAt l i).feature < dim ∧ (ndAt l i).left ≠ (ndAt l i).right ∧ (i : Int) < (ndAt l i).left ∧ (ndAt l i).left < l.length ∧ (i : Int) < (ndAt l i).right ∧ (ndAt l i).right < l.length) : Pre l dim (i + 1) := by
  intro j hj hji
  by_cases e : j = i
  · subst e
    rw [ndAt_lt hi] at ha
    exact ⟨hok, fun _ => ha⟩
  · exact h j hj (by omega)
theorem cnts_innerT {l : List Word} {i : Nat} (h : i < l.length) (hl : (ndAt l i).leaf = false) (ha : (ndAt l i).left ≠ (ndAt l i).right ∧ (i : Int) < (ndAt l i).left ∧ (ndAt l i).left < l.length ∧ (i : Int) < (ndAt l i).right ∧ (ndAt l i).right < l.length) :
    cnts l (i + 1) = ((cnts l i).set (ndAt l i).left.toNat (cnt l i (ndAt l i).left.toNat + 1)).set (ndAt l i).right.toNat (cnt l i (ndAt l i).right.toNat + 1) := by
  apply List.ext_getElem
  · simp [cnts]
  · intro j h1 h2
    rw [cnts_get, cnt_succ h, List.getElem_set, List.getElem_set]
    simp only [cnts_get, names, hl, Bool.not_false, Bool.true_and, Bool.or_eq_true, decide_eq_true_eq]
    by_cases e1 : (ndAt l i).right.toNat = j
    · rw [if_pos e1, if_pos (by omega), e1]
    · rw [if_neg e1]
      by_cases e2 : (ndAt l i).left.toNat = j
      · rw [if_pos e2, if_pos (by omega), e2]
      · rw [if_neg e2, if_neg (by omega)]
        omega
theorem unpackT {l : List Word} (h : okL l) {i : Nat} (hi : i < l.length) : Unpack ⟨l[i].v⟩ = some (ndAt l i, (unpack l[i]).2) := by
  have h1 := h l[i] (List.getElem_mem hi)
  unfold Unpack
  have h1' : 0 ≤ (⟨l[i].v⟩ : Word).v ∧ (⟨l[i].v⟩ : Word).v < 18446744073709551616 := h1
  rw [if_pos h1']
  have e : (⟨l[i].v⟩ : Word) = l[i] := rfl
  rw [e, ndAt_lt hi]
  rfl
theorem rt_of {l : List Word} {dim : Int} (hw : okL l) (h1 : 1 ≤ l.length) (h2 : l.length ≤ 31) (hp : Pre l dim l.length) (ho : ∀ j : Nat, 1 ≤ j → j < l.length → cnt l l.length j = 1) : RT l dim where
  ok := fun i h => ⟨hw _ (List.getElem_mem h), (hp i h h).1⟩
  pos := h1
  le := h2
  inner := fun i h hl => (hp i h h).2 hl
  once := fun j hj hj2 => by
    have := ho j hj hj2
    unfold cnt at this
    rw [List.take_length] at this
    omega
theorem runs_tRightT (l : List Word) (dim : Int) (c : Bool) (h : TreeRightT l dim = some c) : Runs (tbl [(20, sp1 Unpack)]) a19 [Arg.enc l, Arg.enc dim] (Arg.enc c) := by
  obtain ⟨⟨hw, hmx⟩, rfl⟩ := part_some h
  clear h
  cases hc : rightT l dim
  case true => exact runs_tRight l dim true (part_of (rightT_true.1 hc) _)
  have hn := rightT_false.1 hc
  refine ⟨rfl, fun g => run_def ?_⟩
  unfold a19
  by_cases b1 : (l.length : Int) < 1
  case pos => simp -implicitDefEqProofs [b1, hmx]
  by_cases b2 : (l.length : Int) > 31
  case pos =>
    have b2' : (31 : Int) < l.length := b2
    simp -implicitDefEqProofs [b1, b2', hmx]
  have b3 : l.length ≤ maxN := by unfold maxN; omega
  have b4 : (l.length : Int) ≤ 1099511627776 := by omega
  simp -implicitDefEqProofs [b1, b2, b3, b4, rep_ints]
  rw [rep_cells]
  refine run_while (c := c19_37) (fun m s => ∃ (i : Nat) (g : Nat → Nat), i + m = l.length ∧ Pre l dim i ∧ s = ⟨[(0, .lst l.length (encL l)), (1, .int .i64 dim), (5, .own 5 (g 5) 0 l.length), (23, .lst l.length (encL l)), (24, .int .i64 l.length), (25, .int .i64 i)], [(5, ⟨encL (cnts l i), false, 1⟩)], g⟩) l.length ⟨0, bump 5 g, by omega, Pre.zero, by simp [cnts_zero]⟩ ?_
  rintro m s ⟨i, g, hi, hpre, rfl⟩
  by_cases h1 : i < l.length
  case pos =>
    have hU := unpackT hw h1
    have w1 : IntKind.i64.wrap ((i : Int) + 1) = (i : Int) + 1 := wrap64 (by omega) (by omega)
    cases hok : (unpack l[i]).2
    case false =>
      rw [hok] at hU
      simp -implicitDefEqProofs [h1, rd_words, hU, w1]
    rw [hok] at hU
    cases hl : (ndAt l i).leaf
    case true =>
      simp -implicitDefEqProofs [h1, rd_words, hU, hl, w1]
      exact ⟨m - 1, by omega, i + 1, by omega, hpre.leaf h1 hok hl, by omega, by rw [cnts_leaf h1 hl]⟩
    case false =>
      by_cases e1 : dim ≤ (ndAt l i).feature
      case pos => simp -implicitDefEqProofs [h1, rd_words, hU, hl, w1, e1]
      by_cases e2 : (ndAt l i).left = (ndAt l i).right
      case pos => simp -implicitDefEqProofs [h1, rd_words, hU, hl, w1, e1, e2]
      by_cases e3 : (if (ndAt l i).right < (ndAt l i).left then (ndAt l i).right else (ndAt l i).left) ≤ (i : Int)
      case pos => simp -implicitDefEqProofs [h1, rd_words, hU, hl, w1, e1, e2, e3]
      by_cases e4 : (l.length : Int) ≤ (if (ndAt l i).left < (ndAt l i).right then (ndAt l i).right else (ndAt l i).left)
      case pos => simp -implicitDefEqProofs [h1, rd_words, hU, hl, w1, b3, e1, e2, e3, e4]
      have f0 : (i : Int) < (ndAt l i).left ∧ (i : Int) < (ndAt l i).right := by split at e3 <;> omega
      have f0' : (ndAt l i).left < l.length ∧ (ndAt l i).right < l.length := by split at e4 <;> omega
      have e5 : ¬ (ndAt l i).left.toNat = (ndAt l i).right.toNat := by omega
      have f1 : 0 ≤ (ndAt l i).left := by omega
      have f2 : (ndAt l i).left < l.length := by omega
      have f3 : 0 ≤ (ndAt l i).right := by omega
      have f4 : (ndAt l i).right < l.length := by omega
      have f5 : (ndAt l i).left.toNat < l.length := by omega
      have f6 : (ndAt l i).right.toNat < l.length := by omega
      have n1 := cnt_le l i (ndAt l i).left.toNat
      have n2 := cnt_le l i (ndAt l i).right.toNat
      have w2 : IntKind.i64.wrap (cnt l i (ndAt l i).left.toNat + 1) = cnt l i (ndAt l i).left.toNat + 1 := wrap64 (by omega) (by omega)
      have w3 : IntKind.i64.wrap (cnt l i (ndAt l i).right.toNat + 1) = cnt l i (ndAt l i).right.toNat + 1 := wrap64 (by omega) (by omega)
      simp -implicitDefEqProofs [h1, rd_words, hU, hl, w1, b3, e1, e2, e3, e4, e5, f1, f2, f3, f4, f5, f6, cnts_len, cnts_get, rd_ints, wr_ints, encL_length, w2, w3]
      exact ⟨fun _ => ⟨fun _ => ⟨m - 1, by omega, i + 1, by omega, hpre.inner h1 hok ⟨by omega, e2, f0.1, f0'.1, f0.2, f0'.2⟩, by omega, by rw [cnts_innerT h1 hl ⟨e2, f0.1, f0'.1, f0.2, f0'.2⟩]⟩, by omega⟩, by omega⟩
  case neg =>
    have hil : i = l.length := by omega
    subst hil
    have p1 : (1 : Int) ≤ l.length := by omega
    have p2 : l.length - 1 ≤ maxN := by omega
    simp -implicitDefEqProofs [p1, p2]
    refine run_while (c := c19_56) (fun m s => ∃ (i : Nat), i + m = l.length - 1 ∧ (∀ j : Nat, 1 ≤ j → j ≤ i → cnt l l.length j = 1) ∧ s = ⟨[(85, .own 5 (g 5) 1 (l.length - 1)), (86, .int .i64 (l.length - 1 : Nat)), (87, .int .i64 i)], [(5, ⟨encL (cnts l l.length), false, 1⟩)], g⟩) (l.length - 1) ⟨0, by omega, fun j _ _ => by omega, by simp⟩ ?_
    rintro m s ⟨i, hi, hon, rfl⟩
    by_cases h1 : (i : Int) < (l.length - 1 : Nat)
    case pos =>
      have w1 : IntKind.i64.wrap ((i : Int) + 1) = (i : Int) + 1 := wrap64 (by omega) (by omega)
      have q1 : 1 + i < l.length := by omega
      by_cases hc : cnt l l.length (1 + i) = 1
      case pos =>
        simp -implicitDefEqProofs [h1, rd_ints, cnts_len, cnts_get, w1, q1, hc]
        refine ⟨m - 1, by omega, i + 1, by omega, fun j hj1 hj2 => ?_, by omega⟩
        by_cases e : j = 1 + i
        · rw [e]; exact hc
        · exact hon j hj1 (by omega)
      case neg => simp -implicitDefEqProofs [h1, rd_ints, cnts_len, cnts_get, w1, q1, hc]
    case neg =>
      exact absurd (rt_of hw (by omega) (by omega) hpre (fun j hj1 hj2 => hon j hj1 (by omega))) hn
theorem c_tRightT : Contract Try.prog 19 (sp2 TreeRightT) :=
  contract_of_runs mixed (tbl_cons c_Unpack tbl_nil) Try.func19 m19 (sp2_runs runs_tRightT)
noncomputable def badT (m : Model) (t : Tree) : Bool := decide (t.cls < 0) || decide (m.classes ≤ t.cls) || !rightT t.nodes m.dim
def okTW (t : Tree) : Prop := okL t.nodes ∧ t.nodes.length ≤ maxN
theorem badT_false {m : Model} {t : Tree} : badT m t = false ↔ 0 ≤ t.cls ∧ t.cls < m.classes ∧ RT t.nodes m.dim := by
  unfold badT
  rw [← rightT_true]
  simp only [Bool.or_eq_false_iff, decide_eq_false_iff_not, Bool.not_eq_false']
  constructor
  · rintro ⟨⟨h1, h2⟩, h3⟩; exact ⟨by omega, by omega, h3⟩
  · rintro ⟨h1, h2, h3⟩; exact ⟨⟨by omega, by omega⟩, h3⟩
noncomputable def Right1T (t : Tree) (m : Ref Model) : Option Bool := Part (okTW t) (badT m.v t)
theorem runs_Right1T (t : Tree) (m : Ref Model) (c : Bool) (h : Right1T t m = some c) : Runs (tbl [(19, sp2 TreeRightT)]) a77 [Arg.enc t, Arg.enc m] (Arg.enc c) := by
  obtain ⟨hw, rfl⟩ := part_some h
  obtain ⟨m⟩ := m
  refine ⟨rfl, fun g => run_def ?_⟩
  unfold a77
  have hT : TreeRightT t.nodes m.dim = some (rightT t.nodes m.dim) := part_of hw _
  unfold badT
  by_cases e0 : t.cls < 0
  · simp -implicitDefEqProofs [e0, hT]
  by_cases e1 : m.classes ≤ t.cls
  · simp -implicitDefEqProofs [e0, e1, hT]
  · simp -implicitDefEqProofs [e0, e1, hT]
theorem c_Right1T : Contract Try.prog 77 (sp2 Right1T) :=
  contract_of_runs mixed (tbl_cons c_tRightT tbl_nil) Try.func77 m77 (sp2_runs runs_Right1T)
def idxF {α : Type} (p : α → Bool) (l : List α) : Int := if l.findIdx p < l.length then (l.findIdx p : Int) else -1
noncomputable def IndexTreesT (l : List Tree) (r : CloR) : Option Int := Part (l.length ≤ 8 ∧ ∀ t ∈ l, okTW t) (idxF (badT r.m) l)
theorem runs_IndexTreesT (l : List Tree) (r : CloR) (c : Int) (h : IndexTreesT l r = some c) : Runs (tbl [(77, sp2 Right1T)]) a124 [Arg.enc l, Arg.enc r] (Arg.enc c) := by
  obtain ⟨⟨hle, hr⟩, rfl⟩ := part_some h
  obtain ⟨m⟩ := r
  refine ⟨rfl, fun g => run_def ?_⟩
  unfold a124
  have b3 : l.length ≤ maxN := by unfold maxN; omega
  simp -implicitDefEqProofs [b3]
  refine run_while (c := c124_15) (fun n s => ∃ (i : Nat), i + n = l.length ∧ (∀ (j : Nat) (hj : j < l.length), j < i → badT m l[j] = false) ∧ s = ⟨[(0, .lst l.length (encL l)), (1, Arg.enc (⟨m⟩ : CloR)), (7, .int .i64 l.length), (8, .int .i64 i)], [], g⟩) l.length ⟨0, by omega, fun j _ h => by omega, by simp⟩ ?_
  rintro n s ⟨i, hi, hno, rfl⟩
  by_cases h1 : i < l.length
  case pos =>
    have w1 : IntKind.i64.wrap ((i : Int) + 1) = (i : Int) + 1 := wrap64 (by omega) (by omega)
    have hrow := rd_tree l i h1
    have hR : Right1T ⟨l[i].cls, l[i].nodes⟩ ⟨m⟩ = some (badT m l[i]) := part_of (hr _ (List.getElem_mem h1)) _
    cases hb : badT m l[i]
    case false =>
      rw [hb] at hR
      simp -implicitDefEqProofs [h1, hrow, hR, w1]
      refine ⟨n - 1, by omega, i + 1, by omega, fun j hj hji => ?_, by omega⟩
      by_cases e : j = i
      · subst e; exact hb
      · exact hno j hj (by omega)
    case true =>
      rw [hb] at hR
      have hidx : idxF (badT m) l = i := by
        have : l.findIdx (badT m) = i := (List.findIdx_eq h1).2 ⟨hb, fun j hj => hno j (by omega) hj⟩
        unfold idxF
        rw [this, if_pos h1]
      simp -implicitDefEqProofs [h1, hrow, hR, w1, hidx]
  case neg =>
    have hidx : idxF (badT m) l = -1 := by
      have : l.findIdx (badT m) = l.length := List.findIdx_eq_length.2 fun x hx => by
        obtain ⟨j, hj, rfl⟩ := List.mem_iff_getElem.1 hx
        exact hno j hj (by omega)
      unfold idxF
      rw [this, if_neg (by omega)]
    simp -implicitDefEqProofs [h1, hidx]
theorem c_IndexTreesT : Contract Try.prog 124 (sp2 IndexTreesT) :=
  contract_of_runs mixed (tbl_cons c_Right1T tbl_nil) Try.func124 m124 (sp2_runs runs_IndexTreesT)
noncomputable def ContainsTreesT (l : List Tree) (r : CloR) : Option Bool := Part (l.length ≤ 8 ∧ ∀ t ∈ l, okTW t) (l.any (badT r.m))
theorem idxF_any {α : Type} (p : α → Bool) (l : List α) : decide (0 ≤ idxF p l) = l.any p := by
  unfold idxF
  split
  · rename_i h
    have : l.any p = true := List.any_eq_true.2 ⟨l[l.findIdx p], List.getElem_mem h, List.findIdx_getElem⟩
    rw [this]
    simp
  · rename_i h
    have h2 : l.findIdx p = l.length := by have := List.findIdx_le_length (p := p) (xs := l); omega
    have : l.any p = false := by
      rw [List.any_eq_false]
      intro x hx
      simp [List.findIdx_eq_length.1 h2 x hx]
    rw [this]
    decide
theorem runs_ContainsTreesT (l : List Tree) (r : CloR) (c : Bool) (h : ContainsTreesT l r = some c) : Runs (tbl [(124, sp2 IndexTreesT)]) a76 [Arg.enc l, Arg.enc r] (Arg.enc c) := by
  obtain ⟨hr, rfl⟩ := part_some h
  obtain ⟨m⟩ := r
  refine ⟨rfl, fun g => run_def ?_⟩
  unfold a76
  have hI : IndexTreesT l ⟨m⟩ = some (idxF (badT m) l) := part_of hr _
  have := idxF_any (badT m) l
  simp -implicitDefEqProofs [hI, this]
theorem c_ContainsTreesT : Contract Try.prog 76 (sp2 ContainsTreesT) :=
  contract_of_runs mixed (tbl_cons c_IndexTreesT tbl_nil) Try.func76 m76 (sp2_runs runs_ContainsTreesT)
open Classical in
noncomputable def rightM (m : Model) : Bool := decide (RM m)
theorem rightM_true {m : Model} : rightM m = true ↔ RM m := by unfold rightM; simp
theorem rightM_false {m : Model} : rightM m = false ↔ ¬ RM m := by unfold rightM; simp
def okMW (m : Model) : Prop := m.trees.length ≤ maxN ∧ ∀ t ∈ m.trees, okTW t
noncomputable def MRightT (m : Model) : Option Bool := Part (okMW m) (rightM m)
theorem rm_of {m : Model} (d : 1 ≤ m.dim ∧ m.dim ≤ 4) (k : 1 ≤ m.classes ∧ m.classes ≤ 3) (b : fits m.bias.b0 = true ∧ fits m.bias.b1 = true ∧ fits m.bias.b2 = true) (n1 : m.classes ≤ 1 → m.bias.b1 = 0) (n2 : m.classes ≤ 2 → m.bias.b2 = 0) (hl : m.trees.length ≤ 8) (ht : m.trees.any (badT m) = false) : RM m where
  dim := d
  classes := k
  bias := b
  none1 := n1
  none2 := n2
  trees := hl
  tree := fun t h => by
    rw [List.any_eq_false] at ht
    exact badT_false.1 (by simpa using ht t h)
theorem runs_mRightT (m : Model) (c : Bool) (h : MRightT m = some c) : Runs (tbl [(75, sp2 Fits), (76, sp2 ContainsTreesT)]) a27 [Arg.enc m] (Arg.enc c) := by
  obtain ⟨⟨b3, hw⟩, rfl⟩ := part_some h
  clear h
  refine ⟨rfl, fun g => run_def ?_⟩
  unfold a27
  by_cases e0 : m.dim < 1
  · have hF : rightM m = false := rightM_false.2 fun h => by have := h.dim; omega
    simp -implicitDefEqProofs [hF, e0]
  by_cases e1 : 4 < m.dim
  · have hF : rightM m = false := rightM_false.2 fun h => by have := h.dim; omega
    simp -implicitDefEqProofs [hF, e0, e1]
  by_cases e2 : m.classes < 1
  · have hF : rightM m = false := rightM_false.2 fun h => by have := h.classes; omega
    simp -implicitDefEqProofs [hF, e0, e1, e2]
  by_cases e3 : 3 < m.classes
  · have hF : rightM m = false := rightM_false.2 fun h => by have := h.classes; omega
    simp -implicitDefEqProofs [hF, e0, e1, e2, e3]
  by_cases e4 : (8 : Int) < m.trees.length
  · have hF : rightM m = false := rightM_false.2 fun h => by have := h.trees; omega
    simp -implicitDefEqProofs [hF, e0, e1, e2, e3, e4, b3]
  have e5 : ¬ m.classes ≤ 0 := by omega
  cases f0 : fits m.bias.b0
  · have hF : rightM m = false := rightM_false.2 fun h => by have := h.bias.1; rw [f0] at this; cases this
    simp -implicitDefEqProofs [hF, run_round, b3, e0, e1, e2, e3, e4, e5, Fits, f0]
  cases f1 : fits m.bias.b1
  · have hF : rightM m = false := rightM_false.2 fun h => by have := h.bias.2.1; rw [f1] at this; cases this
    simp -implicitDefEqProofs [hF, run_round, b3, e0, e1, e2, e3, e4, e5, Fits, f0, f1]
  have hC : ContainsTreesT m.trees ⟨m⟩ = some (m.trees.any (badT m)) := part_of ⟨by omega, hw⟩ _
  have last : (n1 : m.classes ≤ 1 → m.bias.b1 = 0) → (n2 : m.classes ≤ 2 → m.bias.b2 = 0) → fits m.bias.b2 = true → rightM m = !m.trees.any (badT m) := by
    intro n1 n2 f2
    cases ha : m.trees.any (badT m)
    · exact rightM_true.2 (rm_of ⟨by omega, by omega⟩ ⟨by omega, by omega⟩ ⟨f0, f1, f2⟩ n1 n2 (by omega) ha)
    · refine rightM_false.2 fun h => ?_
      rw [List.any_eq_true] at ha
      obtain ⟨t, ht, hb⟩ := ha
      rw [badT_false.2 (h.tree t ht)] at hb
      cases hb
  have fz : fits 0 = true := rfl
  by_cases k1 : m.classes ≤ 1
  · have k2 : m.classes ≤ 2 := by omega
    by_cases z1 : m.bias.b1 = 0
    · have d1 : decide (m.bias.b1 = 0) = true := by simp [z1]
      cases f2 : fits m.bias.b2
      · have hF : rightM m = false := rightM_false.2 fun h => by have := h.bias.2.2; rw [f2] at this; cases this
        simp -implicitDefEqProofs [hF, run_round, b3, e0, e1, e2, e3, e4, e5, Fits, fz, f0, f1, f2, k1, k2, d1]
      by_cases z2 : m.bias.b2 = 0
      · have d2 : decide (m.bias.b2 = 0) = true := by simp [z2]
        have hF := last (fun _ => z1) (fun _ => z2) f2
        simp -implicitDefEqProofs [hF, run_round, b3, e0, e1, e2, e3, e4, e5, Fits, fz, f0, f1, f2, k1, k2, d1, d2, hC]
      · have d2 : decide (m.bias.b2 = 0) = false := by simp [z2]
        have hF : rightM m = false := rightM_false.2 fun h => z2 (h.none2 k2)
        simp -implicitDefEqProofs [hF, run_round, b3, e0, e1, e2, e3, e4, e5, Fits, fz, f0, f1, f2, k1, k2, d1, d2]
    · have d1 : decide (m.bias.b1 = 0) = false := by simp [z1]
      have hF : rightM m = false := rightM_false.2 fun h => z1 (h.none1 k1)
      simp -implicitDefEqProofs [hF, run_round, b3, e0, e1, e2, e3, e4, e5, Fits, fz, f0, f1, k1, k2, d1]
  · cases f2 : fits m.bias.b2
    · have hF : rightM m = false := rightM_false.2 fun h => by have := h.bias.2.2; rw [f2] at this; cases this
      simp -implicitDefEqProofs [hF, run_round, b3, e0, e1, e2, e3, e4, e5, Fits, fz, f0, f1, f2, k1]
    by_cases k2 : m.classes ≤ 2
    · by_cases z2 : m.bias.b2 = 0
      · have d2 : decide (m.bias.b2 = 0) = true := by simp [z2]
        have hF := last (fun h => absurd h k1) (fun _ => z2) f2
        simp -implicitDefEqProofs [hF, run_round, b3, e0, e1, e2, e3, e4, e5, Fits, fz, f0, f1, f2, k1, k2, d2, hC]
      · have d2 : decide (m.bias.b2 = 0) = false := by simp [z2]
        have hF : rightM m = false := rightM_false.2 fun h => z2 (h.none2 k2)
        simp -implicitDefEqProofs [hF, run_round, b3, e0, e1, e2, e3, e4, e5, Fits, fz, f0, f1, f2, k1, k2, d2]
    · have hF := last (fun h => absurd h k1) (fun h => absurd h k2) f2
      simp -implicitDefEqProofs [hF, run_round, b3, e0, e1, e2, e3, e4, e5, Fits, fz, f0, f1, f2, k1, k2, hC]
theorem c_mRightT : Contract Try.prog 27 (sp1 MRightT) :=
  contract_of_runs mixed (tbl_cons c_Fits (tbl_cons c_ContainsTreesT tbl_nil)) Try.func27 m27 (sp1_runs runs_mRightT)
theorem RT.okTW {l : List Word} {dim : Int} (h : RT l dim) : okL l ∧ l.length ≤ maxN := by
  refine ⟨fun w hw => ?_, by have := h.le; unfold maxN; omega⟩
  obtain ⟨i, hi, rfl⟩ := List.mem_iff_getElem.1 hw
  exact (h.ok i hi).1
theorem RM.okMW {m : Model} (h : RM m) : okMW m := ⟨by have := h.trees; unfold maxN; omega, fun t ht => (h.tree t ht).2.2.okTW⟩
def c25_0 : ACode := .ops [⟨some 1, .box (.t 0) 6, none, []⟩,⟨some 2, .mv (.c (.int .i64 0)), none, []⟩] [1]
def c25_1 : ACode := .ops [⟨some 3, .mv (.c (.int .i64 0)), none, []⟩] [1, 3]
def c25_2 : ACode := .ops [⟨some 6, .fad (.t 1) 5, none, [1]⟩,⟨some 7, .load 1 false (.t 6), none, [1]⟩,⟨some 8, .len (.t 7), none, []⟩,⟨some 9, .mv (.c (.int .i64 0)), none, []⟩] [3, 7, 8, 9]
def c25_3 : ACode := .ops [⟨some 10, .bin .lss (.t 9) (.t 8), none, []⟩] [3, 7, 8, 9, 10]
def c25_4 : ACode := .cond (.t 10) .skip (.exit 0)
def c25_5 : ACode := .ops [⟨some 11, .ias (.t 7) (.t 9) 2, none, []⟩,⟨some 12, .load 2 true (.t 11), none, []⟩,⟨some 5, .alloc [.int .i64 0, .nils], none, []⟩,⟨none, .store (.t 5) 2 (.t 12), none, [5]⟩] [3, 5, 7, 8, 9]
def c25_6 : ACode := .ops [⟨some 13, .mv (.t 3), none, []⟩,⟨some 14, .fad (.t 5) 1, none, [5]⟩,⟨some 15, .load 1 false (.t 14), none, [5]⟩,⟨some 16, .len (.t 15), none, []⟩,⟨some 17, .bin .add (.t 13) (.t 16), none, []⟩,⟨some 3, .mv (.t 17), none, []⟩] [3, 7, 8, 9]
def c25_7 : ACode := .seq c25_5 c25_6
def c25_8 : ACode := .block 1 c25_7
def c25_9 : ACode := .ops [⟨some 18, .bin .add (.t 9) (.c (.int .i64 1)), none, []⟩,⟨some 9, .mv (.t 18), none, []⟩] [3, 7, 8, 9]
def c25_10 : ACode := .seq c25_8 c25_9
def c25_11 : ACode := .seq c25_4 c25_10
def c25_12 : ACode := .seq c25_3 c25_11
def c25_13 : ACode := .keep [3, 7, 8, 9] [] c25_12
def c25_14 : ACode := .loop c25_13
def c25_15 : ACode := .block 0 c25_14
def c25_16 : ACode := .seq c25_2 c25_15
def c25_17 : ACode := .ops [⟨some 19, .mv (.t 3), none, []⟩,⟨some 2, .mv (.t 19), none, []⟩] [2]
def c25_18 : ACode := .seq c25_17 .ret
def c25_19 : ACode := .seq c25_16 c25_18
def c25_20 : ACode := .seq c25_1 c25_19
def c25_21 : ACode := .seq c25_0 c25_20
def a25 : AFun := ⟨1, 20, c25_21, [.t 2]⟩
theorem m25 : mFun Try.prog Try.f25 a25 = true := by decide +kernel
def lenF (n : Int) (t : Tree) : Int := n + (t.nodes.length : Int)
def sizeM (m : Model) : Int := m.trees.foldl lenF 0
noncomputable def SizeC (m : Model) : Option Int := Part (m.trees.length ≤ 100 ∧ ∀ t ∈ m.trees, t.nodes.length ≤ 1099511627776) (sizeM m)
theorem RM.size {m : Model} (h : RM m) : SizeC m = some (sizeM m) := part_of ⟨by have := h.trees; omega, fun t ht => by have := (h.tree t ht).2.2.le; omega⟩ _
end Go.Co
