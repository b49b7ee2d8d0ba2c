/- CO: texts of this claim, one behind the other. -/
import Derived.Test.YtlljcfmgedmigaaCz4
import Derived.Test.YtlljcfmgedmigaaCz1
import Derived.Test.YtlljcfmgedmigaaAm3
import Derived.Shelf.Sort.Plain
import Derived.Ground.Names2Prog
import Derived.Shelf.Slices.CompactI
import Derived.Shelf.Slices.In.SortNone
import Derived.Test.YtlljcfmgedmigaaProg
/- CO: what numbers make: trees, models, regions, queries. -/
namespace Go.Co
open Go.Am Go.Proofs
set_option linter.unusedSimpArgs false
set_option linter.unusedVariables false
def c13_0 : ACode := .ops [⟨some 2, .box (.t 0) 5, none, []⟩,⟨some 4, .mv (.c (.nils)), none, []⟩] [1, 2]
theorem r13_0 : type_of% (@rr _ _ c13_0.eq_1) := rr rfl
def c13_1 : ACode := .ops [⟨some 14, .fad (.t 2) 4, none, [2]⟩,⟨some 15, .load 1 false (.t 14), none, [2]⟩,⟨some 16, .call 48 [.t 15, .c (.int .i64 0)], none, []⟩,⟨some 17, .call 19 [.t 16, .c (.int .i64 (-3000)), .c (.int .i64 3000)], none, []⟩,⟨some 18, .build [.bool false, .int .i64 0, .int .i64 0, .int .i64 0, .int .i64 0, .int .i64 0] [(0, 1, .c (.bool true)), (1, 1, .t 17)], none, []⟩,⟨some 19, .mkrow 5 1 6 [.bool false, .int .i64 0, .int .i64 0, .int .i64 0, .int .i64 0, .int .i64 0] [(0, 6, .t 18)], none, []⟩,⟨some 5, .mv (.t 19), none, []⟩] [1, 2, 5]
theorem r13_1 : type_of% (@rr _ _ c13_1.eq_1) := rr rfl
def c13_2 : ACode := .ops [⟨some 20, .mkrow 6 1 1 [.int .i64 0] [(0, 1, .c (.int .i64 0))], none, []⟩,⟨some 6, .mv (.t 20), none, []⟩] [1, 2, 5, 6]
theorem r13_2 : type_of% (@rr _ _ c13_2.eq_1) := rr rfl
def c13_3 : ACode := .ops [⟨some 7, .mv (.c (.int .i64 0)), none, []⟩] [1, 2, 5, 6, 7]
theorem r13_3 : type_of% (@rr _ _ c13_3.eq_1) := rr rfl
def c13_4 : ACode := .ops [⟨some 21, .mv (.t 7), none, []⟩,⟨some 22, .fad (.t 2) 1, none, [2]⟩,⟨some 23, .load 1 false (.t 22), none, [2]⟩,⟨some 24, .len (.t 23), none, []⟩,⟨some 25, .bin .lss (.t 21) (.t 24), none, []⟩,⟨some 26, .mv (.t 25), none, []⟩,⟨some 27, .mv (.t 7), some (26, true), []⟩,⟨some 28, .bin .lss (.t 27) (.c (.int .i64 7)), some (26, true), []⟩,⟨some 29, .pick (.t 26) (.t 28) (.c (.bool false)), none, []⟩] [1, 2, 5, 6, 7, 29]
theorem r13_4 : type_of% (@rr _ _ c13_4.eq_1) := rr rfl
def c13_5 : ACode := .cond (.t 29) .skip (.exit 0)
theorem r13_5 : type_of% (@rr _ _ c13_5.eq_1) := rr rfl
def c13_6 : ACode := .seq c13_4 c13_5
theorem r13_6 : type_of% (@rr _ _ c13_6.eq_1) := rr rfl
def c13_7 : ACode := .ops [⟨some 32, .fad (.t 2) 1, none, [2]⟩,⟨some 33, .load 1 false (.t 32), none, [2]⟩,⟨some 34, .mv (.t 7), none, []⟩,⟨some 35, .ias (.t 33) (.t 34) 1, none, []⟩,⟨some 36, .load 1 false (.t 35), none, []⟩,⟨some 37, .mv (.t 6), none, []⟩,⟨some 38, .len (.t 37), none, [6]⟩,⟨some 39, .bin .sub (.t 38) (.c (.int .i64 1)), none, []⟩,⟨some 40, .call 19 [.t 36, .c (.int .i64 0), .t 39], none, []⟩,⟨some 8, .mv (.t 40), none, []⟩] [1, 2, 5, 6, 7, 8]
theorem r13_7 : type_of% (@rr _ _ c13_7.eq_1) := rr rfl
def c13_8 : ACode := .ops [⟨some 41, .mv (.t 6), none, []⟩,⟨some 42, .mv (.t 8), none, []⟩,⟨some 43, .ias (.t 41) (.t 42) 1, none, [6]⟩,⟨some 44, .load 1 false (.t 43), none, [6]⟩,⟨some 9, .mv (.t 44), none, []⟩] [1, 2, 5, 6, 7, 8, 9]
theorem r13_8 : type_of% (@rr _ _ c13_8.eq_1) := rr rfl
def c13_9 : ACode := .ops [⟨some 45, .mv (.t 5), none, []⟩,⟨some 46, .len (.t 45), none, [5]⟩,⟨some 10, .mv (.t 46), none, []⟩] [1, 2, 5, 6, 7, 8, 9, 10]
theorem r13_9 : type_of% (@rr _ _ c13_9.eq_1) := rr rfl
def c13_10 : ACode := .ops [⟨some 47, .mv (.t 5), none, []⟩,⟨some 48, .mv (.t 9), none, []⟩,⟨some 49, .fad (.t 2) 2, none, [2]⟩,⟨some 50, .load 1 false (.t 49), none, [2]⟩,⟨some 51, .mv (.t 7), none, []⟩,⟨some 52, .call 48 [.t 50, .t 51], none, []⟩,⟨some 53, .mv (.t 1), none, []⟩,⟨some 54, .bin .sub (.t 53) (.c (.int .i64 1)), none, []⟩,⟨some 55, .call 19 [.t 52, .c (.int .i64 0), .t 54], none, []⟩,⟨some 56, .fad (.t 2) 3, none, [2]⟩,⟨some 57, .load 1 false (.t 56), none, [2]⟩,⟨some 58, .mv (.t 7), none, []⟩,⟨some 59, .call 48 [.t 57, .t 58], none, []⟩,⟨some 60, .call 19 [.t 59, .c (.int .i64 0), .c (.int .i64 9)], none, []⟩,⟨some 61, .mv (.t 10), none, []⟩,⟨some 62, .mv (.t 10), none, []⟩,⟨some 63, .bin .add (.t 62) (.c (.int .i64 1)), none, []⟩,⟨some 64, .build [.bool false, .int .i64 0, .int .i64 0, .int .i64 0, .int .i64 0, .int .i64 0] [(2, 1, .t 55), (3, 1, .t 60), (4, 1, .t 61), (5, 1, .t 63)], none, []⟩,⟨some 65, .ias (.t 47) (.t 48) 6, none, [5]⟩,⟨none, .store (.t 65) 6 (.t 64), none, [5]⟩] [1, 2, 5, 6, 7, 8, 10]
theorem r13_10 : type_of% (@rr _ _ c13_10.eq_1) := rr rfl
def c13_11 : ACode := .ops [⟨some 66, .mv (.t 5), none, []⟩,⟨some 67, .fad (.t 2) 4, none, [2]⟩,⟨some 68, .load 1 false (.t 67), none, [2]⟩,⟨some 69, .mv (.t 7), none, []⟩,⟨some 70, .bin .mul (.c (.int .i64 2)) (.t 69), none, []⟩,⟨some 71, .bin .add (.t 70) (.c (.int .i64 1)), none, []⟩,⟨some 72, .call 48 [.t 68, .t 71], none, []⟩,⟨some 73, .call 19 [.t 72, .c (.int .i64 (-3000)), .c (.int .i64 3000)], none, []⟩,⟨some 74, .build [.bool false, .int .i64 0, .int .i64 0, .int .i64 0, .int .i64 0, .int .i64 0] [(0, 1, .c (.bool true)), (1, 1, .t 73)], none, []⟩,⟨some 75, .fad (.t 2) 4, none, [2]⟩,⟨some 76, .load 1 false (.t 75), none, [2]⟩,⟨some 77, .mv (.t 7), none, []⟩,⟨some 78, .bin .mul (.c (.int .i64 2)) (.t 77), none, []⟩,⟨some 79, .bin .add (.t 78) (.c (.int .i64 2)), none, []⟩,⟨some 80, .call 48 [.t 76, .t 79], none, []⟩,⟨some 81, .call 19 [.t 80, .c (.int .i64 (-3000)), .c (.int .i64 3000)], none, []⟩,⟨some 82, .build [.bool false, .int .i64 0, .int .i64 0, .int .i64 0, .int .i64 0, .int .i64 0] [(0, 1, .c (.bool true)), (1, 1, .t 81)], none, []⟩,⟨some 83, .mkrow 83 2 6 [.bool false, .int .i64 0, .int .i64 0, .int .i64 0, .int .i64 0, .int .i64 0] [(0, 6, .t 74), (6, 6, .t 82)], none, []⟩,⟨some 84, .app 5 [5] (.t 66) (.t 83) 6, none, [5, 83]⟩,⟨some 5, .mv (.t 84), none, []⟩] [1, 2, 5, 6, 7, 8, 10]
theorem r13_11 : type_of% (@rr _ _ c13_11.eq_1) := rr rfl
def c13_12 : ACode := .ops [⟨some 85, .mkrow 85 0 1 [.int .i64 0] [], none, []⟩,⟨some 86, .mv (.t 6), none, []⟩,⟨some 87, .mv (.t 8), none, []⟩,⟨some 88, .sl (.t 86) none (some (.t 87)) 1, none, [6]⟩,⟨some 89, .app 89 [85] (.t 85) (.t 88) 1, none, [6, 85]⟩,⟨some 90, .mv (.t 6), none, []⟩,⟨some 91, .mv (.t 8), none, []⟩,⟨some 92, .bin .add (.t 91) (.c (.int .i64 1)), none, []⟩,⟨some 93, .sl (.t 90) (some (.t 92)) none 1, none, [6]⟩,⟨some 94, .app 94 [89] (.t 89) (.t 93) 1, none, [6, 89]⟩,⟨some 95, .mv (.t 10), none, []⟩,⟨some 96, .mv (.t 10), none, []⟩,⟨some 97, .bin .add (.t 96) (.c (.int .i64 1)), none, []⟩,⟨some 98, .mkrow 98 2 1 [.int .i64 0] [(0, 1, .t 95), (1, 1, .t 97)], none, []⟩,⟨some 99, .app 6 [94] (.t 94) (.t 98) 1, none, [94, 98]⟩,⟨some 6, .mv (.t 99), none, []⟩] [1, 2, 5, 6, 7]
theorem r13_12 : type_of% (@rr _ _ c13_12.eq_1) := rr rfl
def c13_13 : ACode := .seq c13_11 c13_12
theorem r13_13 : type_of% (@rr _ _ c13_13.eq_1) := rr rfl
def c13_14 : ACode := .seq c13_10 c13_13
theorem r13_14 : type_of% (@rr _ _ c13_14.eq_1) := rr rfl
def c13_15 : ACode := .seq c13_9 c13_14
theorem r13_15 : type_of% (@rr _ _ c13_15.eq_1) := rr rfl
def c13_16 : ACode := .seq c13_8 c13_15
theorem r13_16 : type_of% (@rr _ _ c13_16.eq_1) := rr rfl
def c13_17 : ACode := .seq c13_7 c13_16
theorem r13_17 : type_of% (@rr _ _ c13_17.eq_1) := rr rfl
def c13_18 : ACode := .block 1 c13_17
theorem r13_18 : type_of% (@rr _ _ c13_18.eq_1) := rr rfl
def c13_19 : ACode := .ops [⟨some 30, .mv (.t 7), none, []⟩,⟨some 31, .bin .add (.t 30) (.c (.int .i64 1)), none, []⟩,⟨some 7, .mv (.t 31), none, []⟩] [1, 2, 5, 6, 7]
theorem r13_19 : type_of% (@rr _ _ c13_19.eq_1) := rr rfl
def c13_20 : ACode := .seq c13_18 c13_19
theorem r13_20 : type_of% (@rr _ _ c13_20.eq_1) := rr rfl
def c13_21 : ACode := .seq c13_6 c13_20
theorem r13_21 : type_of% (@rr _ _ c13_21.eq_1) := rr rfl
def c13_22 : ACode := .keep [1, 2, 5, 6, 7] [2, 5, 6] c13_21
theorem r13_22 : type_of% (@rr _ _ c13_22.eq_1) := rr rfl
def c13_23 : ACode := .loop c13_22
theorem r13_23 : type_of% (@rr _ _ c13_23.eq_1) := rr rfl
def c13_24 : ACode := .block 0 c13_23
theorem r13_24 : type_of% (@rr _ _ c13_24.eq_1) := rr rfl
def c13_25 : ACode := .seq c13_3 c13_24
theorem r13_25 : type_of% (@rr _ _ c13_25.eq_1) := rr rfl
def c13_26 : ACode := .ops [⟨some 11, .nil0 11 1, none, []⟩] [5, 11]
theorem r13_26 : type_of% (@rr _ _ c13_26.eq_1) := rr rfl
def c13_27 : ACode := .ops [⟨some 100, .mv (.t 5), none, []⟩,⟨some 101, .len (.t 100), none, [5]⟩,⟨some 102, .mv (.c (.int .i64 0)), none, []⟩] [11, 100, 101, 102]
theorem r13_27 : type_of% (@rr _ _ c13_27.eq_1) := rr rfl
def c13_28 : ACode := .ops [⟨some 103, .bin .lss (.t 102) (.t 101), none, []⟩] [11, 100, 101, 102, 103]
theorem r13_28 : type_of% (@rr _ _ c13_28.eq_1) := rr rfl
def c13_29 : ACode := .cond (.t 103) .skip (.exit 2)
theorem r13_29 : type_of% (@rr _ _ c13_29.eq_1) := rr rfl
def c13_30 : ACode := .ops [⟨some 104, .ias (.t 100) (.t 102) 6, none, [5]⟩,⟨some 105, .load 6 true (.t 104), none, [5]⟩,⟨some 13, .alloc [.bool false, .int .i64 0, .int .i64 0, .int .i64 0, .int .i64 0, .int .i64 0], none, []⟩,⟨none, .store (.t 13) 6 (.t 105), none, [13]⟩] [11, 13, 100, 101, 102]
theorem r13_30 : type_of% (@rr _ _ c13_30.eq_1) := rr rfl
def c13_31 : ACode := .ops [⟨some 106, .mv (.t 11), none, []⟩,⟨some 107, .load 6 true (.t 13), none, [13]⟩,⟨some 108, .call 51 [.t 107], none, []⟩,⟨some 109, .mkrow 109 1 1 [.int .u64 0] [(0, 1, .t 108)], none, []⟩,⟨some 110, .app 11 [11] (.t 106) (.t 109) 1, none, [11, 109]⟩,⟨some 11, .mv (.t 110), none, []⟩] [11, 100, 101, 102]
theorem r13_31 : type_of% (@rr _ _ c13_31.eq_1) := rr rfl
def c13_32 : ACode := .seq c13_30 c13_31
theorem r13_32 : type_of% (@rr _ _ c13_32.eq_1) := rr rfl
def c13_33 : ACode := .block 3 c13_32
theorem r13_33 : type_of% (@rr _ _ c13_33.eq_1) := rr rfl
def c13_34 : ACode := .ops [⟨some 111, .bin .add (.t 102) (.c (.int .i64 1)), none, []⟩,⟨some 102, .mv (.t 111), none, []⟩] [11, 100, 101, 102]
theorem r13_34 : type_of% (@rr _ _ c13_34.eq_1) := rr rfl
def c13_35 : ACode := .seq c13_33 c13_34
theorem r13_35 : type_of% (@rr _ _ c13_35.eq_1) := rr rfl
def c13_36 : ACode := .seq c13_29 c13_35
theorem r13_36 : type_of% (@rr _ _ c13_36.eq_1) := rr rfl
def c13_37 : ACode := .seq c13_28 c13_36
theorem r13_37 : type_of% (@rr _ _ c13_37.eq_1) := rr rfl
def c13_38 : ACode := .keep [11, 100, 101, 102] [5, 11] c13_37
theorem r13_38 : type_of% (@rr _ _ c13_38.eq_1) := rr rfl
def c13_39 : ACode := .loop c13_38
theorem r13_39 : type_of% (@rr _ _ c13_39.eq_1) := rr rfl
def c13_40 : ACode := .block 2 c13_39
theorem r13_40 : type_of% (@rr _ _ c13_40.eq_1) := rr rfl
def c13_41 : ACode := .seq c13_27 c13_40
theorem r13_41 : type_of% (@rr _ _ c13_41.eq_1) := rr rfl
def c13_42 : ACode := .ops [⟨some 112, .mv (.t 11), none, []⟩,⟨some 4, .mv (.t 112), none, []⟩] [4]
theorem r13_42 : type_of% (@rr _ _ c13_42.eq_1) := rr rfl
def c13_43 : ACode := .seq c13_42 .ret
theorem r13_43 : type_of% (@rr _ _ c13_43.eq_1) := rr rfl
def c13_44 : ACode := .seq c13_41 c13_43
theorem r13_44 : type_of% (@rr _ _ c13_44.eq_1) := rr rfl
def c13_45 : ACode := .seq c13_26 c13_44
theorem r13_45 : type_of% (@rr _ _ c13_45.eq_1) := rr rfl
def c13_46 : ACode := .seq c13_25 c13_45
theorem r13_46 : type_of% (@rr _ _ c13_46.eq_1) := rr rfl
def c13_47 : ACode := .seq c13_2 c13_46
theorem r13_47 : type_of% (@rr _ _ c13_47.eq_1) := rr rfl
def c13_48 : ACode := .seq c13_1 c13_47
theorem r13_48 : type_of% (@rr _ _ c13_48.eq_1) := rr rfl
def c13_49 : ACode := .seq c13_0 c13_48
theorem r13_49 : type_of% (@rr _ _ c13_49.eq_1) := rr rfl
def a13 : AFun := ⟨2, 113, c13_49, [.t 4]⟩
attribute [simp] r13_0 r13_1 r13_2 r13_3 r13_4 r13_5 r13_6 r13_7 r13_8 r13_9 r13_10 r13_11 r13_12 r13_13 r13_14 r13_15 r13_16 r13_17 r13_18 r13_19 r13_20 r13_21 r13_22 r13_23 r13_24 r13_25 r13_26 r13_27 r13_28 r13_29 r13_30 r13_31 r13_32 r13_33 r13_34 r13_35 r13_36 r13_37 r13_38 r13_39 r13_40 r13_41 r13_42 r13_43 r13_44 r13_45 r13_46 r13_47 r13_48 r13_49
theorem m13 : mFun Try.prog Try.f13 a13 = true := by decide +kernel
noncomputable def NodesC (t : KTree) (dim : Int) : Option (List Word) := Part (1 ≤ dim ∧ dim ≤ 4) (treeNodes t dim)
theorem within_of (n lo hi : Int) (h : -1125899906842624 ≤ lo ∧ lo ≤ hi ∧ hi ≤ 1125899906842624) : Within n lo hi = some (within n lo hi) := by unfold Within; rw [if_pos h]
theorem pick_of (l : List Int) (i : Nat) : Pick l (i : Int) = some (pick l i) := by unfold Pick; rw [if_pos (by omega)]; simp
theorem pick_0 (l : List Int) : Pick l 0 = some (pick l 0) := pick_of l 0
theorem rd_node (l : List Node) (i : Nat) (h : i < l.length) : rd (encL l) (i * 6) 6 true = some (.agg [.bool l[i].leaf, .int .i64 l[i].value, .int .i64 l[i].feature, .int .i64 l[i].cut, .int .i64 l[i].left, .int .i64 l[i].right]) := rd_row l i h
theorem nodes_out {C : Cs} (hC : ∀ n : Node, C 51 [.agg [.bool n.leaf, .int .i64 n.value, .int .i64 n.feature, .int .i64 n.cut, .int .i64 n.left, .int .i64 n.right]] = some (.int .u64 (pack n).v)) (l : List Node) (hl : l.length ≤ 31) (g : Nat → Nat) (h : Hp)
    (hh : keepH h [5, 11] = [(5, ⟨encL l, false, 6⟩), (11, ⟨[], false, 1⟩)]) :
    run C (.loop c13_38) [Fr.blk 2, Fr.c c13_43] ⟨[(11, .own 11 (g 11) 0 0), (100, .own 5 (g 5) 0 l.length), (101, .int .i64 l.length), (102, .int .i64 0)], h, g⟩ (fin [ARes.t 4] (AV.lst l.length (encL (l.map pack)))) := by
  refine run_while (c := c13_37) (fun n s => ∃ (i : Nat) (g : Nat → Nat), i + n = l.length ∧ s = ⟨[(11, .own 11 (g 11) 0 i), (100, .own 5 (g 5) 0 l.length), (101, .int .i64 l.length), (102, .int .i64 i)], [(5, ⟨encL l, false, 6⟩), (11, ⟨encL ((l.take i).map pack), false, 1⟩)], g⟩) l.length ⟨0, g, by omega, ?_⟩ ?_
  · simp only [hh]
    simp [encL]
  rintro n s ⟨i, g, hi, rfl⟩
  by_cases h1 : i < l.length
  case pos =>
    have w1 : IntKind.i64.wrap ((i : Int) + 1) = (i : Int) + 1 := wrap64 (by omega) (by omega)
    have hr := rd_node l i h1
    have hL : ((l.take i).map pack).length = i := by simp; omega
    have htk : List.take i (encL ((l.take i).map pack)) = encL ((l.take i).map pack) := take_rows _ _ (by simp; omega)
    have c1 : i ≤ l.length := by omega
    have c2 : i ≤ 1099511627775 := by omega
    simp -implicitDefEqProofs [h1, hr, hC, w1, encL_length, c1, c2]
    refine ⟨n - 1, by omega, i + 1, by omega, ⟨rfl, by omega⟩, ?_⟩
    rw [List.take_take, Nat.min_self, ← List.map_take, ← List.map_take, List.take_succ_eq_append_getElem h1, List.map_append, encL_append]
    rfl
  case neg =>
    have hil : i = l.length := by omega
    subst hil
    have htk : List.take l.length (List.map pack l) = List.map pack l := List.take_of_length_le (by simp)
    simp -implicitDefEqProofs [h1, htk, encL_length]
theorem runs_Nodes (t : KTree) (dim : Int) (c : List Word) (h : NodesC t dim = some c) : Runs (tbl [(48, sp2 Pick), (19, sp3 Within), (51, sp1 fun n => some (pack n))]) a13 [Arg.enc t, Arg.enc dim] (Arg.enc c) := by
  obtain ⟨⟨d1, d2⟩, rfl⟩ := part_some h
  refine ⟨rfl, fun g => run_def ?_⟩
  unfold a13
  have hw0 := within_of (pick t.val 0) (-3000) 3000 (by omega)
  by_cases hm : t.part.length ≤ maxN
  case neg => simp -implicitDefEqProofs [pick_0, hw0, hm, run_round]
  simp -implicitDefEqProofs [pick_0, hw0]
  refine run_while (c := c13_21) (fun n s => ∃ (i : Nat) (g : Nat → Nat), i + n = min t.part.length 7 ∧ s = ⟨[(1, .int .i64 dim), (2, .ptr 2 (g 2) 0), (5, .own 5 (g 5) 0 (grow t dim i).nodes.length), (6, .own 6 (g 6) 0 (grow t dim i).leaves.length), (7, .int .i64 i)],
    [(2, ⟨[.int .i64 t.cls, .lst t.part.length (encL t.part), .lst t.dir.length (encL t.dir), .lst t.cut.length (encL t.cut), .lst t.val.length (encL t.val)], false, 0⟩), (5, ⟨encL (grow t dim i).nodes, false, 6⟩), (6, ⟨encL (grow t dim i).leaves, false, 1⟩)], g⟩) (min t.part.length 7) ⟨0, bump 6 (bump 5 (bump 2 g)), by omega, by simp [grow, grow0, leafN, encL]⟩ ?_
  rintro n s ⟨i, g, hi, rfl⟩
  have w1 : IntKind.i64.wrap ((i : Int) + 1) = (i : Int) + 1 := wrap64 (by omega) (by omega)
  by_cases h1 : i < min t.part.length 7
  case pos =>
    have hG := gi t dim d1 d2 i (by omega)
    have hs : grow t dim (i + 1) = growS t dim i (grow t dim i) := rfl
    generalize grow t dim i = G at *
    have L1 := hG.len
    have L2 := hG.lvs
    have c1 : i < t.part.length := by omega
    have c2 : (i : Int) < 7 := by omega
    have c3 : G.leaves.length ≤ maxN := by unfold maxN; omega
    have c4 : G.nodes.length ≤ maxN := by unfold maxN; omega
    have w2 : IntKind.i64.wrap ((G.leaves.length : Int) - 1) = (G.leaves.length : Int) - 1 := wrap64 (by omega) (by omega)
    have w3 : IntKind.i64.wrap ((G.nodes.length : Int) + 1) = (G.nodes.length : Int) + 1 := wrap64 (by omega) (by omega)
    have w4 : IntKind.i64.wrap (dim - 1) = dim - 1 := wrap64 (by omega) (by omega)
    have w5 : IntKind.i64.wrap (2 * (i : Int)) = 2 * (i : Int) := wrap64 (by omega) (by omega)
    have w6 : IntKind.i64.wrap (2 * (i : Int) + 1) = 2 * (i : Int) + 1 := wrap64 (by omega) (by omega)
    have w7 : IntKind.i64.wrap (2 * (i : Int) + 2) = 2 * (i : Int) + 2 := wrap64 (by omega) (by omega)
    have p5 : Pick t.val (2 * (i : Int) + 1) = some (pick t.val (2 * i + 1)) := pick_of t.val (2 * i + 1)
    have p6 : Pick t.val (2 * (i : Int) + 2) = some (pick t.val (2 * i + 2)) := pick_of t.val (2 * i + 2)
    have v5 := within_of (pick t.val (2 * i + 1)) (-3000) 3000 (by omega)
    have v6 := within_of (pick t.val (2 * i + 2)) (-3000) 3000 (by omega)
    have v7 := within_of (pick t.dir i) 0 (dim - 1) (by omega)
    have v8 := within_of (pick t.cut i) 0 9 (by omega)
    have v9 := within_of t.part[i] 0 ((G.leaves.length : Int) - 1) (by omega)
    have hk := within_le t.part[i] 0 ((G.leaves.length : Int) - 1) (by omega)
    have hkK : growK t i G = (within t.part[i] 0 ((G.leaves.length : Int) - 1)).toNat := by unfold growK; simp [c1]
    generalize within t.part[i] 0 ((G.leaves.length : Int) - 1) = K at *
    obtain ⟨k, rfl⟩ : ∃ k : Nat, K = k := ⟨K.toNat, by omega⟩
    simp only [Int.toNat_natCast] at hkK
    have c5 : k < G.leaves.length := by omega
    obtain ⟨hl0, hl1, hl2⟩ := hG.leaf _ (List.getElem_mem c5)
    have c6 : G.leaves[k] < G.nodes.length := by omega
    have w8 : IntKind.i64.wrap ((k : Int) + 1) = (k : Int) + 1 := wrap64 (by omega) (by omega)
    have c7 : (k : Int) + 1 ≤ G.leaves.length := by omega
    have c8 : (k : Int) ≤ G.leaves.length := by omega
    have c9 : k ≤ G.leaves.length := by omega
    have c10 : G.leaves[k].toNat * 6 + 6 ≤ G.nodes.length * 6 := by omega
    have c11 : G.nodes.length ≤ 1099511627774 := by omega
    have c12 : k ≤ 1099511627776 := by omega
    have c13 : 0 ≤ (k : Int) + 1 := by omega
    have c14 : k + 1 ≤ G.leaves.length := by omega
    have hwr : wr (encL G.nodes) (G.leaves[k].toNat * 6) [.bool false, .int .i64 0, .int .i64 (within (pick t.dir i) 0 (dim - 1)), .int .i64 (within (pick t.cut i) 0 9), .int .i64 G.nodes.length, .int .i64 (G.nodes.length + 1)] = encL (G.nodes.set G.leaves[k].toNat (growN t dim i G.nodes.length)) := wr_row G.nodes _ hl1 (growN t dim i G.nodes.length)
    have htk : List.take (G.nodes.length * 6) (encL (G.nodes.set G.leaves[k].toNat (growN t dim i G.nodes.length))) = encL (G.nodes.set G.leaves[k].toNat (growN t dim i G.nodes.length)) := take_rows _ _ (by simp)
    simp -implicitDefEqProofs [hm, c1, c2, c3, c4, c5, c6, c7, c8, c9, c10, c11, c12, c13, c14, hwr, htk, hl0, hl1, w1, w2, w3, w4, w5, w6, w7, w8, p5, p6, v5, v6, v7, v8, v9, pick_of, rd_ints, encL_length]
    have hgl : (growS t dim i G).leaves = G.leaves.take k ++ G.leaves.drop (k + 1) ++ [(G.nodes.length : Int), G.nodes.length + 1] := by unfold growS; rw [hkK]
    have hgn : (growS t dim i G).nodes = G.nodes.set G.leaves[k].toNat (growN t dim i G.nodes.length) ++ [leafN (within (pick t.val (2 * i + 1)) (-3000) 3000), leafN (within (pick t.val (2 * i + 2)) (-3000) 3000)] := by
      unfold growS
      have : G.leaves.getD k 0 = G.leaves[k] := by simp [c5]
      rw [hkK, this]
    refine ⟨fun _ => ⟨fun _ => ⟨n - 1, by omega, i + 1, by omega, ⟨?_, ?_, by omega⟩, ?_, ?_⟩, by omega⟩, by omega⟩
    · rw [hs, hgn]; simp
    · rw [hs, hgl]; simp; omega
    · rw [hs, hgn, encL_append]; rfl
    · rw [hs, hgl, encL_append, encL_append]
      rw [List.take_take, Nat.min_self, List.take_of_length_le (show (G.leaves.drop (k + 1)).length ≤ G.leaves.length - (k + 1) by simp)]
      rw [List.take_of_length_le (by rw [List.length_append, encL_length, encL_length]; simp; omega)]
      rfl
  case neg =>
    have hil : i = min t.part.length 7 := by omega
    have c1 : ¬ ((i : Int) < t.part.length ∧ (i : Int) < 7) := by omega
    have hT : treeNodes t dim = (grow t dim i).nodes.map pack := by rw [hil]; rfl
    have hG := gi t dim d1 d2 i (by omega)
    have hok : ∀ n ∈ (grow t dim i).nodes, rightNode n = true := hG.ok
    have L1 := hG.len
    rw [hT]
    generalize (grow t dim i).nodes = l at *
    have c3 : l.length ≤ maxN := by unfold maxN; omega
    have hl : l.length ≤ 31 := by omega
    by_cases c2 : (i : Int) < t.part.length
    case pos =>
      have c4 : ¬ (i : Int) < 7 := by omega
      simp -implicitDefEqProofs [hm, c2, c4, c3]
      exact nodes_out (fun n => by simp) l hl (bump 11 g) _ (by simp)
    case neg =>
      simp -implicitDefEqProofs [hm, c2, c3]
      exact nodes_out (fun n => by simp) l hl (bump 11 g) _ (by simp)
theorem c_Nodes : Contract Try.prog 13 (sp2 NodesC) :=
  contract_of_runs mixed (tbl_cons c_pick (tbl_cons c_Within (tbl_cons c_rPack tbl_nil))) Try.func13 m13 (sp2_runs runs_Nodes)
end Go.Co
/- CO: the model that numbers make. -/
set_option maxHeartbeats 16000000
set_option maxRecDepth 100000
namespace Go.Co
open Go.Am Go.Proofs
set_option linter.unusedSimpArgs false
set_option linter.unusedVariables false
def c10_0 : ACode := .ops [⟨some 1, .box (.t 0) 4, none, []⟩,⟨some 2, .alloc [.int .i64 0, .int .i64 0, .int .i64 0, .int .i64 0, .int .i64 0, .nils], none, []⟩] [1, 2]
theorem r10_0 : type_of% (@rr _ _ c10_0.eq_1) := rr rfl
def c10_1 : ACode := .ops [⟨some 6, .fad (.t 1) 0, none, [1]⟩,⟨some 7, .load 1 false (.t 6), none, [1]⟩,⟨some 8, .call 19 [.t 7, .c (.int .i64 1), .c (.int .i64 3)], none, []⟩,⟨some 9, .fad (.t 1) 1, none, [1]⟩,⟨some 10, .load 1 false (.t 9), none, [1]⟩,⟨some 11, .call 19 [.t 10, .c (.int .i64 1), .c (.int .i64 3)], none, []⟩,⟨some 12, .build [.int .i64 0, .int .i64 0, .int .i64 0, .int .i64 0, .int .i64 0, .nils] [(0, 1, .t 8), (1, 1, .t 11)], none, []⟩,⟨some 3, .alloc [.int .i64 0, .int .i64 0, .int .i64 0, .int .i64 0, .int .i64 0, .nils], none, []⟩,⟨none, .store (.t 3) 6 (.t 12), none, [3]⟩] [1, 2, 3]
theorem r10_1 : type_of% (@rr _ _ c10_1.eq_1) := rr rfl
def c10_2 : ACode := .ops [⟨some 13, .fad (.t 3) 1, none, [3]⟩,⟨some 14, .load 1 false (.t 13), none, [3]⟩,⟨some 15, .mv (.c (.int .i64 0)), none, []⟩] [1, 2, 3, 14, 15]
theorem r10_2 : type_of% (@rr _ _ c10_2.eq_1) := rr rfl
def c10_3 : ACode := .ops [⟨some 16, .bin .lss (.t 15) (.t 14), none, []⟩] [1, 2, 3, 14, 15, 16]
theorem r10_3 : type_of% (@rr _ _ c10_3.eq_1) := rr rfl
def c10_4 : ACode := .cond (.t 16) .skip (.exit 0)
theorem r10_4 : type_of% (@rr _ _ c10_4.eq_1) := rr rfl
def c10_5 : ACode := .ops [⟨some 17, .mv (.t 15), none, []⟩,⟨some 4, .mv (.t 17), none, []⟩] [1, 2, 3, 4, 14, 15]
theorem r10_5 : type_of% (@rr _ _ c10_5.eq_1) := rr rfl
def c10_6 : ACode := .ops [⟨some 18, .mv (.t 4), none, []⟩,⟨some 19, .fad (.t 1) 2, none, [1]⟩,⟨some 20, .load 1 false (.t 19), none, [1]⟩,⟨some 21, .mv (.t 4), none, []⟩,⟨some 22, .call 48 [.t 20, .t 21], none, []⟩,⟨some 23, .call 19 [.t 22, .c (.int .i64 (-500)), .c (.int .i64 500)], none, []⟩,⟨some 24, .fad (.t 3) 2, none, [3]⟩,⟨some 25, .iad (.t 24) (.t 18) 1 3, none, [3]⟩,⟨none, .store (.t 25) 1 (.t 23), none, [3]⟩] [1, 2, 3, 14, 15]
theorem r10_6 : type_of% (@rr _ _ c10_6.eq_1) := rr rfl
def c10_7 : ACode := .seq c10_5 c10_6
theorem r10_7 : type_of% (@rr _ _ c10_7.eq_1) := rr rfl
def c10_8 : ACode := .block 1 c10_7
theorem r10_8 : type_of% (@rr _ _ c10_8.eq_1) := rr rfl
def c10_9 : ACode := .ops [⟨some 26, .bin .add (.t 15) (.c (.int .i64 1)), none, []⟩,⟨some 15, .mv (.t 26), none, []⟩] [1, 2, 3, 14, 15]
theorem r10_9 : type_of% (@rr _ _ c10_9.eq_1) := rr rfl
def c10_10 : ACode := .seq c10_8 c10_9
theorem r10_10 : type_of% (@rr _ _ c10_10.eq_1) := rr rfl
def c10_11 : ACode := .seq c10_4 c10_10
theorem r10_11 : type_of% (@rr _ _ c10_11.eq_1) := rr rfl
def c10_12 : ACode := .seq c10_3 c10_11
theorem r10_12 : type_of% (@rr _ _ c10_12.eq_1) := rr rfl
def c10_13 : ACode := .keep [1, 2, 3, 14, 15] [1, 2, 3, 10305] c10_12
theorem r10_13 : type_of% (@rr _ _ c10_13.eq_1) := rr rfl
def c10_14 : ACode := .loop c10_13
theorem r10_14 : type_of% (@rr _ _ c10_14.eq_1) := rr rfl
def c10_15 : ACode := .block 0 c10_14
theorem r10_15 : type_of% (@rr _ _ c10_15.eq_1) := rr rfl
def c10_16 : ACode := .seq c10_2 c10_15
theorem r10_16 : type_of% (@rr _ _ c10_16.eq_1) := rr rfl
def c10_17 : ACode := .ops [⟨some 5, .mv (.c (.int .i64 0)), none, []⟩] [1, 2, 3, 5]
theorem r10_17 : type_of% (@rr _ _ c10_17.eq_1) := rr rfl
def c10_18 : ACode := .ops [⟨some 27, .mv (.t 5), none, []⟩,⟨some 28, .fad (.t 1) 3, none, [1]⟩,⟨some 29, .load 1 false (.t 28), none, [1]⟩,⟨some 30, .len (.t 29), none, []⟩,⟨some 31, .bin .lss (.t 27) (.t 30), none, []⟩,⟨some 32, .mv (.t 31), none, []⟩,⟨some 33, .mv (.t 5), some (32, true), []⟩,⟨some 34, .bin .lss (.t 33) (.c (.int .i64 4)), some (32, true), []⟩,⟨some 35, .pick (.t 32) (.t 34) (.c (.bool false)), none, []⟩] [1, 2, 3, 5, 35]
theorem r10_18 : type_of% (@rr _ _ c10_18.eq_1) := rr rfl
def c10_19 : ACode := .cond (.t 35) .skip (.exit 2)
theorem r10_19 : type_of% (@rr _ _ c10_19.eq_1) := rr rfl
def c10_20 : ACode := .seq c10_18 c10_19
theorem r10_20 : type_of% (@rr _ _ c10_20.eq_1) := rr rfl
def c10_21 : ACode := .ops [⟨some 38, .fad (.t 3) 5, none, [3]⟩,⟨some 39, .load 1 false (.t 38), none, [3]⟩,⟨some 40, .fad (.t 1) 3, none, [1]⟩,⟨some 41, .load 1 false (.t 40), none, [1]⟩,⟨some 42, .mv (.t 5), none, []⟩,⟨some 43, .ias (.t 41) (.t 42) 5, none, []⟩,⟨some 44, .fad (.t 43) 0, none, []⟩,⟨some 45, .load 1 false (.t 44), none, []⟩,⟨some 46, .fad (.t 3) 1, none, [3]⟩,⟨some 47, .load 1 false (.t 46), none, [3]⟩,⟨some 48, .bin .sub (.t 47) (.c (.int .i64 1)), none, []⟩,⟨some 49, .call 19 [.t 45, .c (.int .i64 0), .t 48], none, []⟩,⟨some 50, .fad (.t 1) 3, none, [1]⟩,⟨some 51, .load 1 false (.t 50), none, [1]⟩,⟨some 52, .mv (.t 5), none, []⟩,⟨some 53, .ias (.t 51) (.t 52) 5, none, []⟩,⟨some 54, .load 5 true (.t 53), none, []⟩,⟨some 55, .fad (.t 3) 0, none, [3]⟩,⟨some 56, .load 1 false (.t 55), none, [3]⟩,⟨some 57, .call 13 [.t 54, .t 56], none, []⟩,⟨some 58, .build [.int .i64 0, .nils] [(0, 1, .t 49), (1, 1, .t 57)], none, []⟩,⟨some 59, .mkrow 59 1 2 [.int .i64 0, .nils] [(0, 2, .t 58)], none, []⟩,⟨some 60, .app 10305 [10305] (.t 39) (.t 59) 2, none, [59, 10305]⟩,⟨some 61, .fad (.t 3) 5, none, [3]⟩,⟨none, .store (.t 61) 1 (.t 60), none, [3]⟩] [1, 2, 3, 5]
theorem r10_21 : type_of% (@rr _ _ c10_21.eq_1) := rr rfl
def c10_22 : ACode := .block 3 c10_21
theorem r10_22 : type_of% (@rr _ _ c10_22.eq_1) := rr rfl
def c10_23 : ACode := .ops [⟨some 36, .mv (.t 5), none, []⟩,⟨some 37, .bin .add (.t 36) (.c (.int .i64 1)), none, []⟩,⟨some 5, .mv (.t 37), none, []⟩] [1, 2, 3, 5]
theorem r10_23 : type_of% (@rr _ _ c10_23.eq_1) := rr rfl
def c10_24 : ACode := .seq c10_22 c10_23
theorem r10_24 : type_of% (@rr _ _ c10_24.eq_1) := rr rfl
def c10_25 : ACode := .seq c10_20 c10_24
theorem r10_25 : type_of% (@rr _ _ c10_25.eq_1) := rr rfl
def c10_26 : ACode := .keep [1, 2, 3, 5] [1, 2, 3, 10305] c10_25
theorem r10_26 : type_of% (@rr _ _ c10_26.eq_1) := rr rfl
def c10_27 : ACode := .loop c10_26
theorem r10_27 : type_of% (@rr _ _ c10_27.eq_1) := rr rfl
def c10_28 : ACode := .block 2 c10_27
theorem r10_28 : type_of% (@rr _ _ c10_28.eq_1) := rr rfl
def c10_29 : ACode := .seq c10_17 c10_28
theorem r10_29 : type_of% (@rr _ _ c10_29.eq_1) := rr rfl
def c10_30 : ACode := .ops [⟨some 62, .load 6 true (.t 3), none, [3]⟩,⟨none, .store (.t 2) 6 (.t 62), none, [2]⟩] [2]
theorem r10_30 : type_of% (@rr _ _ c10_30.eq_1) := rr rfl
def c10_31 : ACode := .seq c10_30 .ret
theorem r10_31 : type_of% (@rr _ _ c10_31.eq_1) := rr rfl
def c10_32 : ACode := .seq c10_29 c10_31
theorem r10_32 : type_of% (@rr _ _ c10_32.eq_1) := rr rfl
def c10_33 : ACode := .seq c10_16 c10_32
theorem r10_33 : type_of% (@rr _ _ c10_33.eq_1) := rr rfl
def c10_34 : ACode := .seq c10_1 c10_33
theorem r10_34 : type_of% (@rr _ _ c10_34.eq_1) := rr rfl
def c10_35 : ACode := .seq c10_0 c10_34
theorem r10_35 : type_of% (@rr _ _ c10_35.eq_1) := rr rfl
def a10 : AFun := ⟨1, 63, c10_35, [.cell 2 6 true]⟩
attribute [simp] r10_0 r10_1 r10_2 r10_3 r10_4 r10_5 r10_6 r10_7 r10_8 r10_9 r10_10 r10_11 r10_12 r10_13 r10_14 r10_15 r10_16 r10_17 r10_18 r10_19 r10_20 r10_21 r10_22 r10_23 r10_24 r10_25 r10_26 r10_27 r10_28 r10_29 r10_30 r10_31 r10_32 r10_33 r10_34 r10_35
theorem m10 : mFun Try.prog Try.f10 a10 = true := by decide +kernel
theorem rd_ktree (l : List KTree) (i : Nat) (h : i < l.length) : rd (encL l) (i * 5) 5 true = some (.agg [.int .i64 l[i].cls, .lst l[i].part.length (encL l[i].part), .lst l[i].dir.length (encL l[i].dir), .lst l[i].cut.length (encL l[i].cut), .lst l[i].val.length (encL l[i].val)]) := rd_row l i h
theorem rd_ktree0 (l : List KTree) (i : Nat) (h : i < l.length) : rd (encL l) (i * 5) 1 false = some (.int .i64 l[i].cls) := rd_cell l i 0 h (by decide)
def fcells (f : Forest) : List AV := [.int .i64 f.dim, .int .i64 f.classes, .lst f.bias.length (encL f.bias), .lst f.trees.length (encL f.trees)]
theorem forest_trees {C : Cs} (hW : ∀ n lo hi : Int, C 19 [.int .i64 n, .int .i64 lo, .int .i64 hi] = (Within n lo hi).map Arg.enc)
    (hN : ∀ (t : KTree) (dim : Int), C 13 [.agg [.int .i64 t.cls, .lst t.part.length (encL t.part), .lst t.dir.length (encL t.dir), .lst t.cut.length (encL t.cut), .lst t.val.length (encL t.val)], .int .i64 dim] = (NodesC t dim).map Arg.enc)
    (f : Forest) (b : Bias) (g : Nat → Nat) (h : Hp)
    (hh : keepH h [1, 2, 3, 10305] = [(1, ⟨fcells f, false, 0⟩), (2, ⟨[.int .i64 0, .int .i64 0, .int .i64 0, .int .i64 0, .int .i64 0, .nils], false, 0⟩), (3, ⟨[.int .i64 (mDim f), .int .i64 (mClasses f), .int .i64 b.b0, .int .i64 b.b1, .int .i64 b.b2, .nils], false, 0⟩)]) :
    run C (.loop c10_26) [Fr.blk 2, Fr.c c10_31] ⟨[(1, .ptr 1 (g 1) 0), (2, .ptr 2 (g 2) 0), (3, .ptr 3 (g 3) 0), (5, .int .i64 0)], h, g⟩
      (fin [ARes.cell 2 6 true] (Arg.enc (⟨mDim f, mClasses f, b, (f.trees.take 4).map (mTree f)⟩ : Model))) := by
  have hd := mDim_le f
  have hc := mClasses_le f
  by_cases hm : f.trees.length ≤ maxN
  case neg =>
    rw [run_round]
    unfold c10_26
    rw [run_keep]
    simp only [hh]
    simp -implicitDefEqProofs [hm, fcells]
  refine run_while (c := c10_25) (fun n s => ∃ (i : Nat) (g : Nat → Nat), i + n = min f.trees.length 4 ∧ s = ⟨[(1, .ptr 1 (g 1) 0), (2, .ptr 2 (g 2) 0), (3, .ptr 3 (g 3) 0), (5, .int .i64 i)],
    (1, ⟨fcells f, false, 0⟩) :: (2, ⟨[.int .i64 0, .int .i64 0, .int .i64 0, .int .i64 0, .int .i64 0, .nils], false, 0⟩) :: (3, ⟨[.int .i64 (mDim f), .int .i64 (mClasses f), .int .i64 b.b0, .int .i64 b.b1, .int .i64 b.b2, if i = 0 then .nils else .own 10305 (g 10305) 0 i], false, 0⟩) ::
      (if i = 0 then [] else [(10305, ⟨encL ((f.trees.map (mTree f)).take i), false, 2⟩)]), g⟩) (min f.trees.length 4) ⟨0, g, by omega, ?_⟩ ?_
  · simp only [hh]
    simp
  rintro n s ⟨i, g, hi, rfl⟩
  have w1 : IntKind.i64.wrap ((i : Int) + 1) = (i : Int) + 1 := wrap64 (by omega) (by omega)
  by_cases h1 : i < min f.trees.length 4
  case pos =>
    have c1 : i < f.trees.length := by omega
    have c2 : (i : Int) < 4 := by omega
    have r1 := rd_ktree f.trees i c1
    have r0 := rd_ktree0 f.trees i c1
    have w2 : IntKind.i64.wrap (mClasses f - 1) = mClasses f - 1 := wrap64 (by omega) (by omega)
    have v1 := within_of f.trees[i].cls 0 (mClasses f - 1) (by omega)
    have v2 : NodesC f.trees[i] (mDim f) = some (treeNodes f.trees[i] (mDim f)) := part_of ⟨hd.1, by omega⟩ _
    have c3 : i ≤ 1099511627775 := by omega
    have hL : ((f.trees.map (mTree f)).take i).length = i := by simp; omega
    have c4 : i ≤ f.trees.length := by omega
    have c5 : i * 2 ≤ (encL ((f.trees.map (mTree f)).take i)).length := by rw [encL_length, hL]; exact Nat.le_refl _
    have htk : List.take (i * 2) (encL ((f.trees.map (mTree f)).take i)) = encL ((f.trees.map (mTree f)).take i) := take_rows _ _ (by rw [hL]; exact Nat.le_refl _)
    have he : encL ((f.trees.map (mTree f)).take (i + 1)) = encL ((f.trees.map (mTree f)).take i) ++ [.int .i64 (within f.trees[i].cls 0 (mClasses f - 1)), .lst (treeNodes f.trees[i] (mDim f)).length (encL (treeNodes f.trees[i] (mDim f)))] := by
      rw [List.take_succ_eq_append_getElem (show i < (f.trees.map (mTree f)).length by simpa using c1), encL_append, List.getElem_map]
      rfl
    by_cases hz : i = 0
    · subst hz
      simp -implicitDefEqProofs [hm, fcells, c1, c2, r0, r1, w1, w2, hW, hN, v1, v2]
      refine ⟨n - 1, by omega, 1, by omega, by omega, by rw [if_neg (by omega)], ?_⟩
      rw [if_neg (by omega), he]
      rfl
    · simp -implicitDefEqProofs [hm, fcells, c1, c2, r0, r1, w1, w2, hW, hN, v1, v2, hz, c3, c5, htk]
      refine ⟨n - 1, by omega, i + 1, by omega, by omega, by rw [if_neg (by omega)], ?_⟩
      rw [if_neg (by omega), he]
  case neg =>
    have hil : i = min f.trees.length 4 := by omega
    have ht : f.trees.take 4 = f.trees.take i := by
      rw [hil]
      by_cases h4 : f.trees.length ≤ 4
      · rw [List.take_of_length_le h4, List.take_of_length_le (by omega)]
      · rw [show min f.trees.length 4 = 4 by omega]
    have hT : (f.trees.take 4).map (mTree f) = (f.trees.map (mTree f)).take i := by rw [ht, List.map_take]
    have hL : ((f.trees.map (mTree f)).take i).length = i := by simp; omega
    have htk : List.take (i * 2) (encL ((f.trees.map (mTree f)).take i)) = encL ((f.trees.map (mTree f)).take i) := take_rows _ _ (by rw [hL]; exact Nat.le_refl _)
    have c5 : i * 2 ≤ (encL ((f.trees.map (mTree f)).take i)).length := by rw [encL_length, hL]; exact Nat.le_refl _
    rw [hT]
    by_cases hz : i = 0
    · subst hz
      by_cases k1 : (0 : Int) < f.trees.length
      · omega
      · have k2 : ¬ 0 < f.trees.length := by omega
        simp -implicitDefEqProofs [hm, fcells, k2]
        rfl
    · by_cases k1 : (i : Int) < f.trees.length
      · have k2 : ¬ (i : Int) < 4 := by omega
        simp -implicitDefEqProofs [hm, fcells, k1, k2, hz, c5, htk]
        omega
      · simp -implicitDefEqProofs [hm, fcells, k1, hz, c5, htk]
        omega
noncomputable def ModelC (f : Forest) : Option Model := some (modelOf f)
theorem runs_Model (f : Forest) (c : Model) (h : ModelC f = some c) : Runs (tbl [(48, sp2 Pick), (19, sp3 Within), (13, sp2 NodesC)]) a10 [Arg.enc f] (Arg.enc c) := by
  cases h
  refine ⟨rfl, fun g => run_def ?_⟩
  unfold a10
  have v1 : Within f.dim 1 3 = some (mDim f) := within_of f.dim 1 3 (by omega)
  have v2 : Within f.classes 1 3 = some (mClasses f) := within_of f.classes 1 3 (by omega)
  have hc := mClasses_le f
  have p0 := pick_of f.bias 0
  have p1 : Pick f.bias 1 = some (pick f.bias 1) := pick_of f.bias 1
  have p2 : Pick f.bias 2 = some (pick f.bias 2) := pick_of f.bias 2
  have v3 := within_of (pick f.bias 0) (-500) 500 (by omega)
  have v4 := within_of (pick f.bias 1) (-500) 500 (by omega)
  have v5 := within_of (pick f.bias 2) (-500) 500 (by omega)
  have b0 : within (pick f.bias 0) (-500) 500 = mBias f 0 := by unfold mBias; rw [if_pos (by omega)]
  rw [b0] at v3
  have hcc : mClasses f = 1 ∨ mClasses f = 2 ∨ mClasses f = 3 := by omega
  have hW : ∀ n lo hi : Int, tbl [(48, sp2 Pick), (19, sp3 Within), (13, sp2 NodesC)] 19 [.int .i64 n, .int .i64 lo, .int .i64 hi] = (Within n lo hi).map Arg.enc := fun n lo hi => by simp
  have hN : ∀ (t : KTree) (dim : Int), tbl [(48, sp2 Pick), (19, sp3 Within), (13, sp2 NodesC)] 13 [.agg [.int .i64 t.cls, .lst t.part.length (encL t.part), .lst t.dir.length (encL t.dir), .lst t.cut.length (encL t.cut), .lst t.val.length (encL t.val)], .int .i64 dim] = (NodesC t dim).map Arg.enc := fun t dim => by simp
  rcases hcc with hcc | hcc | hcc
  · have z1 : mBias f 1 = 0 := by unfold mBias; rw [if_neg (by omega)]
    have z2 : mBias f 2 = 0 := by unfold mBias; rw [if_neg (by omega)]
    simp -implicitDefEqProofs [v1, v2, v3, p0, pick_0, hcc, run_round, -r10_27]
    exact forest_trees hW hN f ⟨mBias f 0, mBias f 1, mBias f 2⟩ (bump 3 (bump 2 (bump 1 g))) _ (by simp [hcc, fcells, z1, z2])
  · have b1 : within (pick f.bias 1) (-500) 500 = mBias f 1 := by unfold mBias; rw [if_pos (by omega)]
    rw [b1] at v4
    have z2 : mBias f 2 = 0 := by unfold mBias; rw [if_neg (by omega)]
    simp -implicitDefEqProofs [v1, v2, v3, v4, p0, p1, pick_0, hcc, run_round, -r10_27]
    exact forest_trees hW hN f ⟨mBias f 0, mBias f 1, mBias f 2⟩ (bump 3 (bump 2 (bump 1 g))) _ (by simp [hcc, fcells, z2])
  · have b1 : within (pick f.bias 1) (-500) 500 = mBias f 1 := by unfold mBias; rw [if_pos (by omega)]
    have b2 : within (pick f.bias 2) (-500) 500 = mBias f 2 := by unfold mBias; rw [if_pos (by omega)]
    rw [b1] at v4
    rw [b2] at v5
    simp -implicitDefEqProofs [v1, v2, v3, v4, v5, p0, p1, p2, pick_0, hcc, run_round, -r10_27]
    exact forest_trees hW hN f ⟨mBias f 0, mBias f 1, mBias f 2⟩ (bump 3 (bump 2 (bump 1 g))) _ (by simp [hcc, fcells])
theorem c_Model : Contract Try.prog 10 (sp1 ModelC) :=
  contract_of_runs mixed (tbl_cons c_pick (tbl_cons c_Within (tbl_cons c_Nodes tbl_nil))) Try.func10 m10 (sp1_runs runs_Model)
end Go.Co
/- CO: slices made pure, one level at a time. -/
namespace Go.Co
open Go.Am
section
variable {s : St} {fp : List Nat} {m : Nat}
end
end Go.Co
/- CO: specifications of calls that are given blocks. -/
namespace Go.Am
open Go.RowKit
abbrev GSp := List AV → Hp → Option (AV × Hp)
def gpack (p : AV × Hp) : Option AV := if (p.2.all fun q => !q.2.frz) = true then some (.tup (p.1 :: encs p.2)) else none
def gspec (F : GSp) : List AV → Option AV := fun l => match l.getLast? with
  | some (.tup xs) => match decs xs with
    | some h => (F l.dropLast h).bind gpack
    | none => none
  | _ => none
theorem gspec_app {F : GSp} {args : List AV} {h : Hp} (hf : (h.all fun q => !q.2.frz) = true) : gspec F (args ++ [.tup (encs h)]) = (F args h).bind gpack := by
  unfold gspec
  simp [decs_encs hf]
theorem gspec_some {F : GSp} {args : List AV} {h h' : Hp} {r : AV} (hf : (h.all fun q => !q.2.frz) = true) (hf' : (h'.all fun q => !q.2.frz) = true) (hs : gspec F (args ++ [.tup (encs h)]) = some (.tup (r :: encs h'))) : F args h = some (r, h') := by
  rw [gspec_app hf] at hs
  rw [Option.bind_eq_some_iff] at hs
  obtain ⟨⟨r1, h1⟩, h2, h3⟩ := hs
  unfold gpack at h3
  split at h3
  · rename_i hq
    simp only [Option.some.injEq, AV.tup.injEq, List.cons.injEq] at h3
    obtain ⟨rfl, h4⟩ := h3
    have e : h1 = h' := encs_inj hq hf' h4
    rw [h2, e]
  · cases h3
theorem gcontract {P : Program} {C : Cs} (hm : P.follows .mixedOrders = true) (hC : ∀ f, Contract P f (C f)) {f : FuncId} {fn : Func} {A : AFun} {F : GSp} (hf : P.funcs[f]? = some fn) (hfun : mFun P fn A = true)
    (hr : ∀ args h r h', (h.all fun p => !p.2.frz) = true → (h'.all fun p => !p.2.frz) = true → F args h = some (r, h') → args.length = A.np ∧ ∃ kept, wpC C A.code { t := argEnv 0 args, h := h, g := fun _ => 0 } (gfin A.res kept r h')) : Contract P (gBase + f) (gspec F) :=
  gcontract_of_run hm hC hf hfun fun args h r h' h1 h2 hs => hr args h r h' h1 h2 (gspec_some h1 h2 hs)
def gfinN (rs : List ARes) (kept : Bool) (new : Option Nat) (r : AV) (h' : Hp) : Post := fun e s => match e with
  | .normal | .ret => ghanded s rs kept new = some (r, h')
  | .exit _ => False
@[simp] theorem gfinN_ret {s : St} (rs : List ARes) (kept : Bool) (new : Option Nat) (r : AV) (h' : Hp) : gfinN rs kept new r h' .ret s = (ghanded s rs kept new = some (r, h')) := rfl
@[simp] theorem gfinN_normal {s : St} (rs : List ARes) (kept : Bool) (new : Option Nat) (r : AV) (h' : Hp) : gfinN rs kept new r h' .normal s = (ghanded s rs kept new = some (r, h')) := rfl
theorem gfinN_fin {rs : List ARes} {kept : Bool} {new : Option Nat} {r : AV} {h' : Hp} (e : Ex) (s : St) (h : gfinN rs kept new r h' e s) : gfin rs kept r h' e s := by
  cases e with
  | normal => exact ⟨new, h⟩
  | ret => exact ⟨new, h⟩
  | exit id => exact h
theorem gcontractN {P : Program} {C : Cs} (hm : P.follows .mixedOrders = true) (hC : ∀ f, Contract P f (C f)) {f : FuncId} {fn : Func} {A : AFun} {F : GSp} (hf : P.funcs[f]? = some fn) (hfun : mFun P fn A = true)
    (hr : ∀ args h r h', F args h = some (r, h') → args.length = A.np ∧ ∃ kept new, run C A.code [] { t := argEnv 0 args, h := h, g := fun _ => 0 } (gfinN A.res kept new r h')) : Contract P (gBase + f) (gspec F) :=
  gcontract hm hC hf hfun fun args h r h' _ _ hs => by
    obtain ⟨h1, kept, new, h2⟩ := hr args h r h' hs
    exact ⟨h1, kept, wpC_mono _ _ _ _ gfinN_fin (run_def h2)⟩
attribute [simp] geff up up2 up1 gmap posOf nrm1 nrm garg gblks ghanded nope gpack
@[simp] theorem mapM1_nil (f : AV → Option AV) : mapM1 f [] = some [] := rfl
@[simp] theorem mapM1_cons (f : AV → Option AV) (x : AV) (xs : List AV) : mapM1 f (x :: xs) = (match f x, mapM1 f xs with
    | some y, some ys => some (y :: ys)
    | _, _ => none) := rfl
theorem mapM1_plain {f : AV → Option AV} (hf : ∀ x : AV, x.plain = true → f x = some x) : ∀ {xs : List AV}, xs.all AV.plain = true → mapM1 f xs = some xs
  | [], _ => rfl
  | x :: xs, h => by
    simp only [List.all_cons, Bool.and_eq_true] at h
    simp only [mapM1, hf x h.1, mapM1_plain hf h.2]
theorem up1_plain {m : Nat → Option (Nat × Nat)} (x : AV) (h : x.plain = true) : up1 m x = some x := by cases x <;> first | rfl | cases h
theorem nrm1_plain {s : St} {fp bs : List Nat} (x : AV) (h : x.plain = true) : nrm1 s fp bs x = some x := by cases x <;> first | rfl | cases h
theorem mapM1_up {m : Nat → Option (Nat × Nat)} {xs : List AV} (h : xs.all AV.plain = true) : mapM1 (up1 m) xs = some xs := mapM1_plain up1_plain h
theorem mapM1_nrm {s : St} {fp bs : List Nat} {xs : List AV} (h : xs.all AV.plain = true) : mapM1 (nrm1 s fp bs) xs = some xs := mapM1_plain nrm1_plain h
@[simp] theorem decs_encs_one (b e : Nat) (cs : List AV) : decs (encs [(b, ⟨cs, false, e⟩)]) = some [(b, ⟨cs, false, e⟩)] := rfl
@[simp] theorem decs_encs_nil : decs (encs []) = some [] := rfl
@[simp] theorem decs_encs_two (b e b' e' : Nat) (cs cs' : List AV) : decs (encs [(b, ⟨cs, false, e⟩), (b', ⟨cs', false, e'⟩)]) = some [(b, ⟨cs, false, e⟩), (b', ⟨cs', false, e'⟩)] := rfl
@[irreducible] def gl (vs : List AV) (h : Hp) : List AV := vs ++ [.tup (encs h)]
@[simp] theorem gspec_gl {F : GSp} {args : List AV} {h : Hp} (hh : (h.all fun q => !q.2.frz) = true) : gspec F (gl args h) = (F args h).bind gpack := by
  unfold gl
  exact gspec_app hh
def gcal (C : Cs) (f : Nat) (vs : List AV) (h : Hp) : Option (AV × Hp) := match C (1000000 + f) (gl vs h) with
  | some (.tup (r :: out)) => (decs out).map fun h' => (r, h')
  | _ => none
variable {C : Cs} {s : St} {dst : Option Nat} {gd : Option (Nat × Bool)} {fp : List Nat}
theorem eff_gcall2 (f : Nat) (args : List AOpd) (bs : List Nat) (nid : Nat) : eff C s ⟨dst, .gcall f args bs nid, gd, fp⟩ = (match mapO (garg s fp bs) (args.map (opv s)), gblks s fp bs bs 0 with
    | some (vs, fz), some h => if fz.all (fun b => !bs.contains b) = true then (match gcal C f vs h with
      | some (r, h') => geff s bs nid fz r h'
      | none => .fail) else .fail
    | _, _ => .fail) := by
  rw [eff_gcall]
  generalize mapO (garg s fp bs) (args.map (opv s)) = A
  generalize gblks s fp bs bs 0 = B
  cases A with
  | none => rfl
  | some p =>
    obtain ⟨vs, fz⟩ := p
    cases B with
    | none => rfl
    | some h =>
      simp only []
      by_cases hc : (fz.all fun b => !bs.contains b) = true
      · rw [if_pos hc, if_pos hc]
        unfold gcal
        have e : gl vs h = vs ++ [.tup (encs h)] := by unfold gl; rfl
        rw [e]
        generalize C (1000000 + f) (vs ++ [AV.tup (encs h)]) = X
        cases X with
        | none => rfl
        | some x =>
          cases x with
          | tup xs =>
            cases xs with
            | nil => rfl
            | cons r out =>
              simp only []
              cases decs out <;> rfl
          | _ => rfl
      · rw [if_neg hc, if_neg hc]
attribute [simp] eff_gcall2 gcal
end Go.Am
/- CO: lists held against each other: told of the same list twice. (written by mkCoSm.py) -/
namespace Go.Co
open Go.Am Go.Proofs
set_option linter.unusedSimpArgs false
set_option linter.unusedVariables false
attribute [-simp] Go.Am.eff_gcall
def c56_0 : ACode := .ops [⟨some 4, .mv (.c (.bool false)), none, []⟩] [0, 1]
theorem r56_0 : type_of% (@rr _ _ c56_0.eq_1) := rr rfl
def c56_1 : ACode := .ops [⟨some 6, .mv (.t 0), none, []⟩,⟨some 7, .len (.t 6), none, []⟩,⟨some 8, .mv (.t 1), none, []⟩,⟨some 9, .len (.t 8), none, []⟩,⟨some 10, .bin .neq (.t 7) (.t 9), none, []⟩] [0, 1, 10]
theorem r56_1 : type_of% (@rr _ _ c56_1.eq_1) := rr rfl
def c56_2 : ACode := .ops [⟨some 4, .mv (.c (.bool false)), none, []⟩] [4]
theorem r56_2 : type_of% (@rr _ _ c56_2.eq_1) := rr rfl
def c56_3 : ACode := .seq c56_2 .ret
theorem r56_3 : type_of% (@rr _ _ c56_3.eq_1) := rr rfl
def c56_4 : ACode := .cond (.t 10) c56_3 .skip
theorem r56_4 : type_of% (@rr _ _ c56_4.eq_1) := rr rfl
def c56_5 : ACode := .seq c56_1 c56_4
theorem r56_5 : type_of% (@rr _ _ c56_5.eq_1) := rr rfl
def c56_6 : ACode := .ops [⟨some 5, .mv (.c (.int .i64 0)), none, []⟩] [0, 1, 5]
theorem r56_6 : type_of% (@rr _ _ c56_6.eq_1) := rr rfl
def c56_7 : ACode := .ops [⟨some 11, .mv (.t 5), none, []⟩,⟨some 12, .mv (.t 0), none, []⟩,⟨some 13, .len (.t 12), none, []⟩,⟨some 14, .bin .lss (.t 11) (.t 13), none, []⟩] [0, 1, 5, 14]
theorem r56_7 : type_of% (@rr _ _ c56_7.eq_1) := rr rfl
def c56_8 : ACode := .cond (.t 14) .skip (.exit 0)
theorem r56_8 : type_of% (@rr _ _ c56_8.eq_1) := rr rfl
def c56_9 : ACode := .seq c56_7 c56_8
theorem r56_9 : type_of% (@rr _ _ c56_9.eq_1) := rr rfl
def c56_10 : ACode := .ops [⟨some 17, .mv (.t 0), none, []⟩,⟨some 18, .mv (.t 5), none, []⟩,⟨some 19, .ias (.t 17) (.t 18) 1, none, []⟩,⟨some 20, .load 1 false (.t 19), none, []⟩,⟨some 21, .mv (.t 1), none, []⟩,⟨some 22, .mv (.t 5), none, []⟩,⟨some 23, .ias (.t 21) (.t 22) 1, none, []⟩,⟨some 24, .load 1 false (.t 23), none, []⟩,⟨some 25, .bin .neq (.t 20) (.t 24), none, []⟩] [0, 1, 5, 25]
theorem r56_10 : type_of% (@rr _ _ c56_10.eq_1) := rr rfl
def c56_11 : ACode := .ops [⟨some 4, .mv (.c (.bool false)), none, []⟩] [4]
theorem r56_11 : type_of% (@rr _ _ c56_11.eq_1) := rr rfl
def c56_12 : ACode := .seq c56_11 .ret
theorem r56_12 : type_of% (@rr _ _ c56_12.eq_1) := rr rfl
def c56_13 : ACode := .cond (.t 25) c56_12 .skip
theorem r56_13 : type_of% (@rr _ _ c56_13.eq_1) := rr rfl
def c56_14 : ACode := .seq c56_10 c56_13
theorem r56_14 : type_of% (@rr _ _ c56_14.eq_1) := rr rfl
def c56_15 : ACode := .block 1 c56_14
theorem r56_15 : type_of% (@rr _ _ c56_15.eq_1) := rr rfl
def c56_16 : ACode := .ops [⟨some 15, .mv (.t 5), none, []⟩,⟨some 16, .bin .add (.t 15) (.c (.int .i64 1)), none, []⟩,⟨some 5, .mv (.t 16), none, []⟩] [0, 1, 5]
theorem r56_16 : type_of% (@rr _ _ c56_16.eq_1) := rr rfl
def c56_17 : ACode := .seq c56_15 c56_16
theorem r56_17 : type_of% (@rr _ _ c56_17.eq_1) := rr rfl
def c56_18 : ACode := .seq c56_9 c56_17
theorem r56_18 : type_of% (@rr _ _ c56_18.eq_1) := rr rfl
def c56_19 : ACode := .keep [0, 1, 5] [] c56_18
theorem r56_19 : type_of% (@rr _ _ c56_19.eq_1) := rr rfl
def c56_20 : ACode := .loop c56_19
theorem r56_20 : type_of% (@rr _ _ c56_20.eq_1) := rr rfl
def c56_21 : ACode := .block 0 c56_20
theorem r56_21 : type_of% (@rr _ _ c56_21.eq_1) := rr rfl
def c56_22 : ACode := .seq c56_6 c56_21
theorem r56_22 : type_of% (@rr _ _ c56_22.eq_1) := rr rfl
def c56_23 : ACode := .ops [⟨some 4, .mv (.c (.bool true)), none, []⟩] [4]
theorem r56_23 : type_of% (@rr _ _ c56_23.eq_1) := rr rfl
def c56_24 : ACode := .seq c56_23 .ret
theorem r56_24 : type_of% (@rr _ _ c56_24.eq_1) := rr rfl
def c56_25 : ACode := .seq c56_22 c56_24
theorem r56_25 : type_of% (@rr _ _ c56_25.eq_1) := rr rfl
def c56_26 : ACode := .seq c56_5 c56_25
theorem r56_26 : type_of% (@rr _ _ c56_26.eq_1) := rr rfl
def c56_27 : ACode := .seq c56_0 c56_26
theorem r56_27 : type_of% (@rr _ _ c56_27.eq_1) := rr rfl
def a56 : AFun := ⟨2, 26, c56_27, [.t 4]⟩
attribute [simp] r56_0 r56_1 r56_2 r56_3 r56_4 r56_5 r56_6 r56_7 r56_8 r56_9 r56_10 r56_11 r56_12 r56_13 r56_14 r56_15 r56_16 r56_17 r56_18 r56_19 r56_20 r56_21 r56_22 r56_23 r56_24 r56_25 r56_26 r56_27
theorem m56 : mFun Try.prog Try.f56 a56 = true := by decide +kernel
noncomputable def SameW (a b : List Word) : Option Bool := Part (a = b) true
theorem runs_SameW (a b : List Word) (r : Bool) (h : SameW a b = some r) : Runs (tbl []) a56 [Arg.enc a, Arg.enc b] (Arg.enc r) := by
  obtain ⟨rfl, rfl⟩ := part_some h
  clear h
  refine ⟨rfl, fun g => run_def ?_⟩
  unfold a56
  by_cases b1 : a.length ≤ maxN
  case neg => simp -implicitDefEqProofs [b1]
  have hmx : a.length ≤ 9223372036854775807 := b1
  simp -implicitDefEqProofs [b1]
  refine run_while (c := c56_18) (fun n s => ∃ (i : Nat) (g : Nat → Nat), i + n = a.length ∧ s = ⟨[(0, .lst a.length (encL a)), (1, .lst a.length (encL a)), (5, .int .i64 i)], [], g⟩) a.length ⟨0, g, by omega, by simp⟩ ?_
  rintro n s ⟨i, g, hi, rfl⟩
  by_cases h1 : i < a.length
  case pos =>
    have w1 : IntKind.i64.wrap ((i : Int) + 1) = (i : Int) + 1 := wrap64 (by omega) (by omega)
    have hrow := rd_words a i h1
    simp -implicitDefEqProofs [b1, h1, hrow, w1]
    exact ⟨n - 1, by omega, i + 1, by omega, by omega⟩
  case neg =>
    have hil : i = a.length := by omega
    subst hil
    simp -implicitDefEqProofs [b1, h1]
theorem c_SameW : Contract Try.prog 56 (sp2 SameW) :=
  contract_of_runs mixed tbl_nil Try.func56 m56 (sp2_runs runs_SameW)
end Go.Co
/-
  DERIVED: THE SHELF's CONTRACTS AT THIS DUMP, IN PLAIN WORDS (tools/lay-plain.mjs out of 'TryShelf.lean', which tools/lay-shelf.mjs wrote): THE SAME DECLARATIONS UNDER THE SAME NAMES: 'import', 'namespace', 'open', 'def', 'theorem' AND NOTHING ELSE: no command of the shelf's: FOR A HAND-IN. Each laying: the table of numbers ('.._ren') and one theorem, a field a fact of the dump's own or the kernel's comparison; each contract: ONE APPLICATION.
-/
namespace Go.Proofs
open Go.Shelf
end Go.Proofs
/- CO: what the kit tells of slices.Sort and slices.Compact, as contracts of calls that are given a block. -/
namespace Go.Co
open Go.Am Go.Proofs Go.RowKit
set_option linter.unusedSimpArgs false
set_option linter.unusedVariables false
def iv (zs : List Int) : List AV := zs.map (AV.int .i64)
def ints : List AV → Option (List Int)
  | [] => some []
  | .int .i64 n :: xs => match ints xs with
    | some ns => some (n :: ns)
    | none => none
  | _ => none
theorem iv_len (zs : List Int) : (iv zs).length = zs.length := by simp [iv]
def insI (n : Int) : List Int → List Int
  | [] => [n]
  | m :: l => if n ≤ m then n :: m :: l else m :: insI n l
def isort : List Int → List Int
  | [] => []
  | n :: l => insI n (isort l)
theorem VRs_ints {I : Nat → Prop} {w : World} {M : Option Am.Mode} : ∀ zs : List Int, VRs I w M (iv zs) (zs.map (Value.int .i64))
  | [] => by simp [iv, VRs]
  | z :: zs => by
    have := VRs_ints (I := I) (w := w) (M := M) zs
    unfold iv at this ⊢
    simp only [List.map_cons, VRs, VR, true_and]
    exact this
end Go.Co
