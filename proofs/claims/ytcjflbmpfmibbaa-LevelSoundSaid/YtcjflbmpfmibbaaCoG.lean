/- CO: what numbers make: trees, models, regions, queries. -/
import Derived.Test.YtcjflbmpfmibbaaCoF
namespace Go.Co
open Go.Am Go.Proofs
set_option linter.unusedSimpArgs false
set_option linter.unusedVariables false
/- (copse/copsekeep.Tree).Nodes -/
def c18_0 : ACode := .ops [⟨some 2, .box (.t 0) 5, none, []⟩,
  ⟨some 4, .mv (.c (.nils)), none, []⟩] [1, 2]
theorem r18_0 : type_of% (@rr _ _ c18_0.eq_1) := rr c18_0.eq_1
def c18_1 : ACode := .ops [⟨some 14, .fad (.t 2) 4, none, [2]⟩,
  ⟨some 15, .load 1 false (.t 14), none, [2]⟩,
  ⟨some 16, .call 65 [.t 15, .c (.int .i64 0)], none, []⟩,
  ⟨some 17, .call 24 [.t 16, .c (.int .i64 (-3000)), .c (.int .i64 3000)], none, []⟩,
  ⟨some 18, .build [.bool false, .int .i64 0, .int .i64 0, .int .i64 0, .int .i64 0, .int .i64 0] [(0, 1, .c (.bool true)), (1, 1, .t 17)], none, []⟩,
  ⟨some 19, .mkrow 5 1 6 [.bool false, .int .i64 0, .int .i64 0, .int .i64 0, .int .i64 0, .int .i64 0] [(0, 6, .t 18)], none, []⟩,
  ⟨some 5, .mv (.t 19), none, []⟩] [1, 2, 5]
theorem r18_1 : type_of% (@rr _ _ c18_1.eq_1) := rr c18_1.eq_1
def c18_2 : ACode := .ops [⟨some 20, .mkrow 6 1 1 [.int .i64 0] [(0, 1, .c (.int .i64 0))], none, []⟩,
  ⟨some 6, .mv (.t 20), none, []⟩] [1, 2, 5, 6]
theorem r18_2 : type_of% (@rr _ _ c18_2.eq_1) := rr c18_2.eq_1
def c18_3 : ACode := .ops [⟨some 7, .mv (.c (.int .i64 0)), none, []⟩] [1, 2, 5, 6, 7]
theorem r18_3 : type_of% (@rr _ _ c18_3.eq_1) := rr c18_3.eq_1
def c18_4 : ACode := .ops [⟨some 21, .mv (.t 7), none, []⟩,
  ⟨some 22, .fad (.t 2) 1, none, [2]⟩,
  ⟨some 23, .load 1 false (.t 22), none, [2]⟩,
  ⟨some 24, .len (.t 23), none, []⟩,
  ⟨some 25, .bin .lss (.t 21) (.t 24), none, []⟩,
  ⟨some 26, .mv (.t 25), none, []⟩,
  ⟨some 27, .mv (.t 7), some (26, true), []⟩,
  ⟨some 28, .bin .lss (.t 27) (.c (.int .i64 7)), some (26, true), []⟩,
  ⟨some 29, .pick (.t 26) (.t 28) (.c (.bool false)), none, []⟩] [1, 2, 5, 6, 7, 29]
theorem r18_4 : type_of% (@rr _ _ c18_4.eq_1) := rr c18_4.eq_1
def c18_5 : ACode := .cond (.t 29) .skip (.exit 0)
theorem r18_5 : type_of% (@rr _ _ c18_5.eq_1) := rr c18_5.eq_1
def c18_6 : ACode := .seq c18_4 c18_5
theorem r18_6 : type_of% (@rr _ _ c18_6.eq_1) := rr c18_6.eq_1
def c18_7 : ACode := .ops [⟨some 32, .fad (.t 2) 1, none, [2]⟩,
  ⟨some 33, .load 1 false (.t 32), none, [2]⟩,
  ⟨some 34, .mv (.t 7), none, []⟩,
  ⟨some 35, .ias (.t 33) (.t 34) 1, none, []⟩,
  ⟨some 36, .load 1 false (.t 35), none, []⟩,
  ⟨some 37, .mv (.t 6), none, []⟩,
  ⟨some 38, .len (.t 37), none, [6]⟩,
  ⟨some 39, .bin .sub (.t 38) (.c (.int .i64 1)), none, []⟩,
  ⟨some 40, .call 24 [.t 36, .c (.int .i64 0), .t 39], none, []⟩,
  ⟨some 8, .mv (.t 40), none, []⟩] [1, 2, 5, 6, 7, 8]
theorem r18_7 : type_of% (@rr _ _ c18_7.eq_1) := rr c18_7.eq_1
def c18_8 : ACode := .ops [⟨some 41, .mv (.t 6), none, []⟩,
  ⟨some 42, .mv (.t 8), none, []⟩,
  ⟨some 43, .ias (.t 41) (.t 42) 1, none, [6]⟩,
  ⟨some 44, .load 1 false (.t 43), none, [6]⟩,
  ⟨some 9, .mv (.t 44), none, []⟩] [1, 2, 5, 6, 7, 8, 9]
theorem r18_8 : type_of% (@rr _ _ c18_8.eq_1) := rr c18_8.eq_1
def c18_9 : ACode := .ops [⟨some 45, .mv (.t 5), none, []⟩,
  ⟨some 46, .len (.t 45), none, [5]⟩,
  ⟨some 10, .mv (.t 46), none, []⟩] [1, 2, 5, 6, 7, 8, 9, 10]
theorem r18_9 : type_of% (@rr _ _ c18_9.eq_1) := rr c18_9.eq_1
def c18_10 : ACode := .ops [⟨some 47, .mv (.t 5), none, []⟩,
  ⟨some 48, .mv (.t 9), none, []⟩,
  ⟨some 49, .fad (.t 2) 2, none, [2]⟩,
  ⟨some 50, .load 1 false (.t 49), none, [2]⟩,
  ⟨some 51, .mv (.t 7), none, []⟩,
  ⟨some 52, .call 65 [.t 50, .t 51], none, []⟩,
  ⟨some 53, .mv (.t 1), none, []⟩,
  ⟨some 54, .bin .sub (.t 53) (.c (.int .i64 1)), none, []⟩,
  ⟨some 55, .call 24 [.t 52, .c (.int .i64 0), .t 54], none, []⟩,
  ⟨some 56, .fad (.t 2) 3, none, [2]⟩,
  ⟨some 57, .load 1 false (.t 56), none, [2]⟩,
  ⟨some 58, .mv (.t 7), none, []⟩,
  ⟨some 59, .call 65 [.t 57, .t 58], none, []⟩,
  ⟨some 60, .call 24 [.t 59, .c (.int .i64 0), .c (.int .i64 9)], none, []⟩,
  ⟨some 61, .mv (.t 10), none, []⟩,
  ⟨some 62, .mv (.t 10), none, []⟩,
  ⟨some 63, .bin .add (.t 62) (.c (.int .i64 1)), none, []⟩,
  ⟨some 64, .build [.bool false, .int .i64 0, .int .i64 0, .int .i64 0, .int .i64 0, .int .i64 0] [(2, 1, .t 55), (3, 1, .t 60), (4, 1, .t 61), (5, 1, .t 63)], none, []⟩,
  ⟨some 65, .ias (.t 47) (.t 48) 6, none, [5]⟩,
  ⟨none, .store (.t 65) 6 (.t 64), none, [5]⟩] [1, 2, 5, 6, 7, 8, 10]
theorem r18_10 : type_of% (@rr _ _ c18_10.eq_1) := rr c18_10.eq_1
def c18_11 : ACode := .ops [⟨some 66, .mv (.t 5), none, []⟩,
  ⟨some 67, .fad (.t 2) 4, none, [2]⟩,
  ⟨some 68, .load 1 false (.t 67), none, [2]⟩,
  ⟨some 69, .mv (.t 7), none, []⟩,
  ⟨some 70, .bin .mul (.c (.int .i64 2)) (.t 69), none, []⟩,
  ⟨some 71, .bin .add (.t 70) (.c (.int .i64 1)), none, []⟩,
  ⟨some 72, .call 65 [.t 68, .t 71], none, []⟩,
  ⟨some 73, .call 24 [.t 72, .c (.int .i64 (-3000)), .c (.int .i64 3000)], none, []⟩,
  ⟨some 74, .build [.bool false, .int .i64 0, .int .i64 0, .int .i64 0, .int .i64 0, .int .i64 0] [(0, 1, .c (.bool true)), (1, 1, .t 73)], none, []⟩,
  ⟨some 75, .fad (.t 2) 4, none, [2]⟩,
  ⟨some 76, .load 1 false (.t 75), none, [2]⟩,
  ⟨some 77, .mv (.t 7), none, []⟩,
  ⟨some 78, .bin .mul (.c (.int .i64 2)) (.t 77), none, []⟩,
  ⟨some 79, .bin .add (.t 78) (.c (.int .i64 2)), none, []⟩,
  ⟨some 80, .call 65 [.t 76, .t 79], none, []⟩,
  ⟨some 81, .call 24 [.t 80, .c (.int .i64 (-3000)), .c (.int .i64 3000)], none, []⟩,
  ⟨some 82, .build [.bool false, .int .i64 0, .int .i64 0, .int .i64 0, .int .i64 0, .int .i64 0] [(0, 1, .c (.bool true)), (1, 1, .t 81)], none, []⟩,
  ⟨some 83, .mkrow 83 2 6 [.bool false, .int .i64 0, .int .i64 0, .int .i64 0, .int .i64 0, .int .i64 0] [(0, 6, .t 74), (6, 6, .t 82)], none, []⟩,
  ⟨some 84, .app 5 [5] (.t 66) (.t 83) 6, none, [5, 83]⟩,
  ⟨some 5, .mv (.t 84), none, []⟩] [1, 2, 5, 6, 7, 8, 10]
theorem r18_11 : type_of% (@rr _ _ c18_11.eq_1) := rr c18_11.eq_1
def c18_12 : ACode := .ops [⟨some 85, .mkrow 85 0 1 [.int .i64 0] [], none, []⟩,
  ⟨some 86, .mv (.t 6), none, []⟩,
  ⟨some 87, .mv (.t 8), none, []⟩,
  ⟨some 88, .sl (.t 86) none (some (.t 87)) 1, none, [6]⟩,
  ⟨some 89, .app 89 [85] (.t 85) (.t 88) 1, none, [6, 85]⟩,
  ⟨some 90, .mv (.t 6), none, []⟩,
  ⟨some 91, .mv (.t 8), none, []⟩,
  ⟨some 92, .bin .add (.t 91) (.c (.int .i64 1)), none, []⟩,
  ⟨some 93, .sl (.t 90) (some (.t 92)) none 1, none, [6]⟩,
  ⟨some 94, .app 94 [89] (.t 89) (.t 93) 1, none, [6, 89]⟩,
  ⟨some 95, .mv (.t 10), none, []⟩,
  ⟨some 96, .mv (.t 10), none, []⟩,
  ⟨some 97, .bin .add (.t 96) (.c (.int .i64 1)), none, []⟩,
  ⟨some 98, .mkrow 98 2 1 [.int .i64 0] [(0, 1, .t 95), (1, 1, .t 97)], none, []⟩,
  ⟨some 99, .app 6 [94] (.t 94) (.t 98) 1, none, [94, 98]⟩,
  ⟨some 6, .mv (.t 99), none, []⟩] [1, 2, 5, 6, 7]
theorem r18_12 : type_of% (@rr _ _ c18_12.eq_1) := rr c18_12.eq_1
def c18_13 : ACode := .seq c18_11 c18_12
theorem r18_13 : type_of% (@rr _ _ c18_13.eq_1) := rr c18_13.eq_1
def c18_14 : ACode := .seq c18_10 c18_13
theorem r18_14 : type_of% (@rr _ _ c18_14.eq_1) := rr c18_14.eq_1
def c18_15 : ACode := .seq c18_9 c18_14
theorem r18_15 : type_of% (@rr _ _ c18_15.eq_1) := rr c18_15.eq_1
def c18_16 : ACode := .seq c18_8 c18_15
theorem r18_16 : type_of% (@rr _ _ c18_16.eq_1) := rr c18_16.eq_1
def c18_17 : ACode := .seq c18_7 c18_16
theorem r18_17 : type_of% (@rr _ _ c18_17.eq_1) := rr c18_17.eq_1
def c18_18 : ACode := .block 1 c18_17
theorem r18_18 : type_of% (@rr _ _ c18_18.eq_1) := rr c18_18.eq_1
def c18_19 : ACode := .ops [⟨some 30, .mv (.t 7), none, []⟩,
  ⟨some 31, .bin .add (.t 30) (.c (.int .i64 1)), none, []⟩,
  ⟨some 7, .mv (.t 31), none, []⟩] [1, 2, 5, 6, 7]
theorem r18_19 : type_of% (@rr _ _ c18_19.eq_1) := rr c18_19.eq_1
def c18_20 : ACode := .seq c18_18 c18_19
theorem r18_20 : type_of% (@rr _ _ c18_20.eq_1) := rr c18_20.eq_1
def c18_21 : ACode := .seq c18_6 c18_20
theorem r18_21 : type_of% (@rr _ _ c18_21.eq_1) := rr c18_21.eq_1
def c18_22 : ACode := .keep [1, 2, 5, 6, 7] [2, 5, 6] c18_21
theorem r18_22 : type_of% (@rr _ _ c18_22.eq_1) := rr c18_22.eq_1
def c18_23 : ACode := .loop c18_22
theorem r18_23 : type_of% (@rr _ _ c18_23.eq_1) := rr c18_23.eq_1
def c18_24 : ACode := .block 0 c18_23
theorem r18_24 : type_of% (@rr _ _ c18_24.eq_1) := rr c18_24.eq_1
def c18_25 : ACode := .seq c18_3 c18_24
theorem r18_25 : type_of% (@rr _ _ c18_25.eq_1) := rr c18_25.eq_1
def c18_26 : ACode := .ops [⟨some 11, .nil0 11 1, none, []⟩] [5, 11]
theorem r18_26 : type_of% (@rr _ _ c18_26.eq_1) := rr c18_26.eq_1
def c18_27 : ACode := .ops [⟨some 100, .mv (.t 5), none, []⟩,
  ⟨some 101, .len (.t 100), none, [5]⟩,
  ⟨some 102, .mv (.c (.int .i64 0)), none, []⟩] [11, 100, 101, 102]
theorem r18_27 : type_of% (@rr _ _ c18_27.eq_1) := rr c18_27.eq_1
def c18_28 : ACode := .ops [⟨some 103, .bin .lss (.t 102) (.t 101), none, []⟩] [11, 100, 101, 102, 103]
theorem r18_28 : type_of% (@rr _ _ c18_28.eq_1) := rr c18_28.eq_1
def c18_29 : ACode := .cond (.t 103) .skip (.exit 2)
theorem r18_29 : type_of% (@rr _ _ c18_29.eq_1) := rr c18_29.eq_1
def c18_30 : ACode := .ops [⟨some 104, .ias (.t 100) (.t 102) 6, none, [5]⟩,
  ⟨some 105, .load 6 true (.t 104), none, [5]⟩,
  ⟨some 13, .alloc [.bool false, .int .i64 0, .int .i64 0, .int .i64 0, .int .i64 0, .int .i64 0], none, []⟩,
  ⟨none, .store (.t 13) 6 (.t 105), none, [13]⟩] [11, 13, 100, 101, 102]
theorem r18_30 : type_of% (@rr _ _ c18_30.eq_1) := rr c18_30.eq_1
def c18_31 : ACode := .ops [⟨some 106, .mv (.t 11), none, []⟩,
  ⟨some 107, .load 6 true (.t 13), none, [13]⟩,
  ⟨some 108, .call 68 [.t 107], none, []⟩,
  ⟨some 109, .mkrow 109 1 1 [.int .u64 0] [(0, 1, .t 108)], none, []⟩,
  ⟨some 110, .app 11 [11] (.t 106) (.t 109) 1, none, [11, 109]⟩,
  ⟨some 11, .mv (.t 110), none, []⟩] [11, 100, 101, 102]
theorem r18_31 : type_of% (@rr _ _ c18_31.eq_1) := rr c18_31.eq_1
def c18_32 : ACode := .seq c18_30 c18_31
theorem r18_32 : type_of% (@rr _ _ c18_32.eq_1) := rr c18_32.eq_1
def c18_33 : ACode := .block 3 c18_32
theorem r18_33 : type_of% (@rr _ _ c18_33.eq_1) := rr c18_33.eq_1
def c18_34 : ACode := .ops [⟨some 111, .bin .add (.t 102) (.c (.int .i64 1)), none, []⟩,
  ⟨some 102, .mv (.t 111), none, []⟩] [11, 100, 101, 102]
theorem r18_34 : type_of% (@rr _ _ c18_34.eq_1) := rr c18_34.eq_1
def c18_35 : ACode := .seq c18_33 c18_34
theorem r18_35 : type_of% (@rr _ _ c18_35.eq_1) := rr c18_35.eq_1
def c18_36 : ACode := .seq c18_29 c18_35
theorem r18_36 : type_of% (@rr _ _ c18_36.eq_1) := rr c18_36.eq_1
def c18_37 : ACode := .seq c18_28 c18_36
theorem r18_37 : type_of% (@rr _ _ c18_37.eq_1) := rr c18_37.eq_1
def c18_38 : ACode := .keep [11, 100, 101, 102] [5, 11] c18_37
theorem r18_38 : type_of% (@rr _ _ c18_38.eq_1) := rr c18_38.eq_1
def c18_39 : ACode := .loop c18_38
theorem r18_39 : type_of% (@rr _ _ c18_39.eq_1) := rr c18_39.eq_1
def c18_40 : ACode := .block 2 c18_39
theorem r18_40 : type_of% (@rr _ _ c18_40.eq_1) := rr c18_40.eq_1
def c18_41 : ACode := .seq c18_27 c18_40
theorem r18_41 : type_of% (@rr _ _ c18_41.eq_1) := rr c18_41.eq_1
def c18_42 : ACode := .ops [⟨some 112, .mv (.t 11), none, []⟩,
  ⟨some 4, .mv (.t 112), none, []⟩] [4]
theorem r18_42 : type_of% (@rr _ _ c18_42.eq_1) := rr c18_42.eq_1
def c18_43 : ACode := .seq c18_42 .ret
theorem r18_43 : type_of% (@rr _ _ c18_43.eq_1) := rr c18_43.eq_1
def c18_44 : ACode := .seq c18_41 c18_43
theorem r18_44 : type_of% (@rr _ _ c18_44.eq_1) := rr c18_44.eq_1
def c18_45 : ACode := .seq c18_26 c18_44
theorem r18_45 : type_of% (@rr _ _ c18_45.eq_1) := rr c18_45.eq_1
def c18_46 : ACode := .seq c18_25 c18_45
theorem r18_46 : type_of% (@rr _ _ c18_46.eq_1) := rr c18_46.eq_1
def c18_47 : ACode := .seq c18_2 c18_46
theorem r18_47 : type_of% (@rr _ _ c18_47.eq_1) := rr c18_47.eq_1
def c18_48 : ACode := .seq c18_1 c18_47
theorem r18_48 : type_of% (@rr _ _ c18_48.eq_1) := rr c18_48.eq_1
def c18_49 : ACode := .seq c18_0 c18_48
theorem r18_49 : type_of% (@rr _ _ c18_49.eq_1) := rr c18_49.eq_1
def a18 : AFun := ⟨2, 113, c18_49, [.t 4]⟩
attribute [simp] r18_0 r18_1 r18_2 r18_3 r18_4 r18_5 r18_6 r18_7 r18_8 r18_9 r18_10 r18_11 r18_12 r18_13 r18_14 r18_15 r18_16 r18_17 r18_18 r18_19 r18_20 r18_21 r18_22 r18_23 r18_24 r18_25 r18_26 r18_27 r18_28 r18_29 r18_30 r18_31 r18_32 r18_33 r18_34 r18_35 r18_36 r18_37 r18_38 r18_39 r18_40 r18_41 r18_42 r18_43 r18_44 r18_45 r18_46 r18_47 r18_48 r18_49
theorem m18 : mFun Try.prog Try.f18 a18 = true := by decide +kernel
noncomputable def NodesC (t : KTree) (dim : Int) : Option (List Word) := Part (1 ≤ dim ∧ dim ≤ 4) (treeNodes t dim)
theorem within_of (n lo hi : Int) (h : -1125899906842624 ≤ lo ∧ lo ≤ hi ∧ hi ≤ 1125899906842624) : Within n lo hi = some (within n lo hi) := by unfold Within; rw [if_pos h]
theorem pick_of (l : List Int) (i : Nat) : Pick l (i : Int) = some (pick l i) := by unfold Pick; rw [if_pos (by omega)]; simp
theorem pick_0 (l : List Int) : Pick l 0 = some (pick l 0) := pick_of l 0
theorem rd_node (l : List Node) (i : Nat) (h : i < l.length) : rd (encL l) (i * 6) 6 true = some (.agg [.bool l[i].leaf, .int .i64 l[i].value, .int .i64 l[i].feature, .int .i64 l[i].cut, .int .i64 l[i].left, .int .i64 l[i].right]) := rd_row l i h
theorem nodes_out {C : Cs} (hC : ∀ n : Node, C 68 [.agg [.bool n.leaf, .int .i64 n.value, .int .i64 n.feature, .int .i64 n.cut, .int .i64 n.left, .int .i64 n.right]] = some (.int .u64 (pack n).v)) (l : List Node) (hl : l.length ≤ 31) (g : Nat → Nat) (h : Hp)
    (hh : keepH h [5, 11] = [(5, ⟨encL l, false, 6⟩), (11, ⟨[], false, 1⟩)]) :
    run C (.loop c18_38) [Fr.blk 2, Fr.c c18_43] ⟨[(11, .own 11 (g 11) 0 0), (100, .own 5 (g 5) 0 l.length), (101, .int .i64 l.length), (102, .int .i64 0)], h, g⟩ (fin [ARes.t 4] (AV.lst l.length (encL (l.map pack)))) := by
  refine run_while (c := c18_37) (fun n s => ∃ (i : Nat) (g : Nat → Nat), i + n = l.length ∧ s = ⟨[(11, .own 11 (g 11) 0 i), (100, .own 5 (g 5) 0 l.length), (101, .int .i64 l.length), (102, .int .i64 i)], [(5, ⟨encL l, false, 6⟩), (11, ⟨encL ((l.take i).map pack), false, 1⟩)], g⟩) l.length ⟨0, g, by omega, ?_⟩ ?_
  · simp only [hh]
    simp [encL]
  rintro n s ⟨i, g, hi, rfl⟩
  by_cases h1 : i < l.length
  case pos =>
    have w1 : IntKind.i64.wrap ((i : Int) + 1) = (i : Int) + 1 := wrap64 (by omega) (by omega)
    have hr := rd_node l i h1
    have hL : ((l.take i).map pack).length = i := by simp; omega
    have htk : List.take i (encL ((l.take i).map pack)) = encL ((l.take i).map pack) := take_rows _ _ (by simp; omega)
    have c1 : i ≤ l.length := by omega
    have c2 : i ≤ 1099511627775 := by omega
    simp -implicitDefEqProofs [h1, hr, hC, w1, encL_length, c1, c2]
    refine ⟨n - 1, by omega, i + 1, by omega, ⟨rfl, by omega⟩, ?_⟩
    rw [List.take_take, Nat.min_self, ← List.map_take, ← List.map_take, List.take_succ_eq_append_getElem h1, List.map_append, encL_append]
    rfl
  case neg =>
    have hil : i = l.length := by omega
    subst hil
    have htk : List.take l.length (List.map pack l) = List.map pack l := List.take_of_length_le (by simp)
    simp -implicitDefEqProofs [h1, htk, encL_length]
theorem runs_Nodes (t : KTree) (dim : Int) (c : List Word) (h : NodesC t dim = some c) : Runs (tbl [(65, sp2 Pick), (24, sp3 Within), (68, sp1 fun n => some (pack n))]) a18 [Arg.enc t, Arg.enc dim] (Arg.enc c) := by
  obtain ⟨⟨d1, d2⟩, rfl⟩ := part_some h
  refine ⟨rfl, fun g => run_def ?_⟩
  unfold a18
  have hw0 := within_of (pick t.val 0) (-3000) 3000 (by omega)
  by_cases hm : t.part.length ≤ maxN
  case neg => simp -implicitDefEqProofs [pick_0, hw0, hm, run_round]
  simp -implicitDefEqProofs [pick_0, hw0]
  refine run_while (c := c18_21) (fun n s => ∃ (i : Nat) (g : Nat → Nat), i + n = min t.part.length 7 ∧ s = ⟨[(1, .int .i64 dim), (2, .ptr 2 (g 2) 0), (5, .own 5 (g 5) 0 (grow t dim i).nodes.length), (6, .own 6 (g 6) 0 (grow t dim i).leaves.length), (7, .int .i64 i)],
    [(2, ⟨[.int .i64 t.cls, .lst t.part.length (encL t.part), .lst t.dir.length (encL t.dir), .lst t.cut.length (encL t.cut), .lst t.val.length (encL t.val)], false, 0⟩), (5, ⟨encL (grow t dim i).nodes, false, 6⟩), (6, ⟨encL (grow t dim i).leaves, false, 1⟩)], g⟩) (min t.part.length 7) ⟨0, bump 6 (bump 5 (bump 2 g)), by omega, by simp [grow, grow0, leafN, encL]⟩ ?_
  rintro n s ⟨i, g, hi, rfl⟩
  have w1 : IntKind.i64.wrap ((i : Int) + 1) = (i : Int) + 1 := wrap64 (by omega) (by omega)
  by_cases h1 : i < min t.part.length 7
  case pos =>
    have hG := gi t dim d1 d2 i (by omega)
    have hs : grow t dim (i + 1) = growS t dim i (grow t dim i) := rfl
    generalize grow t dim i = G at *
    have L1 := hG.len
    have L2 := hG.lvs
    have c1 : i < t.part.length := by omega
    have c2 : (i : Int) < 7 := by omega
    have c3 : G.leaves.length ≤ maxN := by unfold maxN; omega
    have c4 : G.nodes.length ≤ maxN := by unfold maxN; omega
    have w2 : IntKind.i64.wrap ((G.leaves.length : Int) - 1) = (G.leaves.length : Int) - 1 := wrap64 (by omega) (by omega)
    have w3 : IntKind.i64.wrap ((G.nodes.length : Int) + 1) = (G.nodes.length : Int) + 1 := wrap64 (by omega) (by omega)
    have w4 : IntKind.i64.wrap (dim - 1) = dim - 1 := wrap64 (by omega) (by omega)
    have w5 : IntKind.i64.wrap (2 * (i : Int)) = 2 * (i : Int) := wrap64 (by omega) (by omega)
    have w6 : IntKind.i64.wrap (2 * (i : Int) + 1) = 2 * (i : Int) + 1 := wrap64 (by omega) (by omega)
    have w7 : IntKind.i64.wrap (2 * (i : Int) + 2) = 2 * (i : Int) + 2 := wrap64 (by omega) (by omega)
    have p5 : Pick t.val (2 * (i : Int) + 1) = some (pick t.val (2 * i + 1)) := pick_of t.val (2 * i + 1)
    have p6 : Pick t.val (2 * (i : Int) + 2) = some (pick t.val (2 * i + 2)) := pick_of t.val (2 * i + 2)
    have v5 := within_of (pick t.val (2 * i + 1)) (-3000) 3000 (by omega)
    have v6 := within_of (pick t.val (2 * i + 2)) (-3000) 3000 (by omega)
    have v7 := within_of (pick t.dir i) 0 (dim - 1) (by omega)
    have v8 := within_of (pick t.cut i) 0 9 (by omega)
    have v9 := within_of t.part[i] 0 ((G.leaves.length : Int) - 1) (by omega)
    have hk := within_le t.part[i] 0 ((G.leaves.length : Int) - 1) (by omega)
    have hkK : growK t i G = (within t.part[i] 0 ((G.leaves.length : Int) - 1)).toNat := by unfold growK; simp [c1]
    generalize within t.part[i] 0 ((G.leaves.length : Int) - 1) = K at *
    obtain ⟨k, rfl⟩ : ∃ k : Nat, K = k := ⟨K.toNat, by omega⟩
    simp only [Int.toNat_natCast] at hkK
    have c5 : k < G.leaves.length := by omega
    obtain ⟨hl0, hl1, hl2⟩ := hG.leaf _ (List.getElem_mem c5)
    have c6 : G.leaves[k] < G.nodes.length := by omega
    have w8 : IntKind.i64.wrap ((k : Int) + 1) = (k : Int) + 1 := wrap64 (by omega) (by omega)
    have c7 : (k : Int) + 1 ≤ G.leaves.length := by omega
    have c8 : (k : Int) ≤ G.leaves.length := by omega
    have c9 : k ≤ G.leaves.length := by omega
    have c10 : G.leaves[k].toNat * 6 + 6 ≤ G.nodes.length * 6 := by omega
    have c11 : G.nodes.length ≤ 1099511627774 := by omega
    have c12 : k ≤ 1099511627776 := by omega
    have c13 : 0 ≤ (k : Int) + 1 := by omega
    have c14 : k + 1 ≤ G.leaves.length := by omega
    have hwr : wr (encL G.nodes) (G.leaves[k].toNat * 6) [.bool false, .int .i64 0, .int .i64 (within (pick t.dir i) 0 (dim - 1)), .int .i64 (within (pick t.cut i) 0 9), .int .i64 G.nodes.length, .int .i64 (G.nodes.length + 1)] = encL (G.nodes.set G.leaves[k].toNat (growN t dim i G.nodes.length)) := wr_row G.nodes _ hl1 (growN t dim i G.nodes.length)
    have htk : List.take (G.nodes.length * 6) (encL (G.nodes.set G.leaves[k].toNat (growN t dim i G.nodes.length))) = encL (G.nodes.set G.leaves[k].toNat (growN t dim i G.nodes.length)) := take_rows _ _ (by simp)
    simp -implicitDefEqProofs [hm, c1, c2, c3, c4, c5, c6, c7, c8, c9, c10, c11, c12, c13, c14, hwr, htk, hl0, hl1, w1, w2, w3, w4, w5, w6, w7, w8, p5, p6, v5, v6, v7, v8, v9, pick_of, rd_ints, encL_length]
    have hgl : (growS t dim i G).leaves = G.leaves.take k ++ G.leaves.drop (k + 1) ++ [(G.nodes.length : Int), G.nodes.length + 1] := by unfold growS; rw [hkK]
    have hgn : (growS t dim i G).nodes = G.nodes.set G.leaves[k].toNat (growN t dim i G.nodes.length) ++ [leafN (within (pick t.val (2 * i + 1)) (-3000) 3000), leafN (within (pick t.val (2 * i + 2)) (-3000) 3000)] := by
      unfold growS
      have : G.leaves.getD k 0 = G.leaves[k] := by simp [c5]
      rw [hkK, this]
    refine ⟨fun _ => ⟨fun _ => ⟨n - 1, by omega, i + 1, by omega, ⟨?_, ?_, by omega⟩, ?_, ?_⟩, by omega⟩, by omega⟩
    · rw [hs, hgn]; simp
    · rw [hs, hgl]; simp; omega
    · rw [hs, hgn, encL_append]; rfl
    · rw [hs, hgl, encL_append, encL_append]
      rw [List.take_take, Nat.min_self, List.take_of_length_le (show (G.leaves.drop (k + 1)).length ≤ G.leaves.length - (k + 1) by simp)]
      rw [List.take_of_length_le (by rw [List.length_append, encL_length, encL_length]; simp; omega)]
      rfl
  case neg =>
    have hil : i = min t.part.length 7 := by omega
    have c1 : ¬ ((i : Int) < t.part.length ∧ (i : Int) < 7) := by omega
    have hT : treeNodes t dim = (grow t dim i).nodes.map pack := by rw [hil]; rfl
    have hG := gi t dim d1 d2 i (by omega)
    have hok : ∀ n ∈ (grow t dim i).nodes, rightNode n = true := hG.ok
    have L1 := hG.len
    rw [hT]
    generalize (grow t dim i).nodes = l at *
    have c3 : l.length ≤ maxN := by unfold maxN; omega
    have hl : l.length ≤ 31 := by omega
    by_cases c2 : (i : Int) < t.part.length
    case pos =>
      have c4 : ¬ (i : Int) < 7 := by omega
      simp -implicitDefEqProofs [hm, c2, c4, c3]
      exact nodes_out (fun n => by simp) l hl (bump 11 g) _ (by simp)
    case neg =>
      simp -implicitDefEqProofs [hm, c2, c3]
      exact nodes_out (fun n => by simp) l hl (bump 11 g) _ (by simp)
theorem c_Nodes : Contract Try.prog 18 (sp2 NodesC) :=
  contract_of_runs mixed (tbl_cons c_pick (tbl_cons c_Within (tbl_cons c_rPack tbl_nil))) Try.func18 m18 (sp2_runs runs_Nodes)
end Go.Co
