/- CO: texts of this claim, one behind the other. -/
import Derived.Test.YtcjflbmpfmibbaaGreatCz6
import Derived.Test.YtcjflbmpfmibbaaGreatCz5
/- CO: the model that numbers make. -/
namespace Go.Co
open Go.Am Go.Proofs
set_option linter.unusedSimpArgs false
set_option linter.unusedVariables false
/- (copse/copsekeep.Forest).Model -/
def c5_0 : ACode := .ops [⟨some 1, .box (.t 0) 4, none, []⟩,
  ⟨some 2, .alloc [.int .i64 0, .int .i64 0, .int .i64 0, .int .i64 0, .int .i64 0, .nils], none, []⟩] [1, 2]
theorem r5_0 : type_of% (@rr _ _ c5_0.eq_1) := rr c5_0.eq_1
def c5_1 : ACode := .ops [⟨some 6, .fad (.t 1) 0, none, [1]⟩,
  ⟨some 7, .load 1 false (.t 6), none, [1]⟩,
  ⟨some 8, .call 16 [.t 7, .c (.int .i64 1), .c (.int .i64 3)], none, []⟩,
  ⟨some 9, .fad (.t 1) 1, none, [1]⟩,
  ⟨some 10, .load 1 false (.t 9), none, [1]⟩,
  ⟨some 11, .call 16 [.t 10, .c (.int .i64 1), .c (.int .i64 3)], none, []⟩,
  ⟨some 12, .build [.int .i64 0, .int .i64 0, .int .i64 0, .int .i64 0, .int .i64 0, .nils] [(0, 1, .t 8), (1, 1, .t 11)], none, []⟩,
  ⟨some 3, .alloc [.int .i64 0, .int .i64 0, .int .i64 0, .int .i64 0, .int .i64 0, .nils], none, []⟩,
  ⟨none, .store (.t 3) 6 (.t 12), none, [3]⟩] [1, 2, 3]
theorem r5_1 : type_of% (@rr _ _ c5_1.eq_1) := rr c5_1.eq_1
def c5_2 : ACode := .ops [⟨some 13, .fad (.t 3) 1, none, [3]⟩,
  ⟨some 14, .load 1 false (.t 13), none, [3]⟩,
  ⟨some 15, .mv (.c (.int .i64 0)), none, []⟩] [1, 2, 3, 14, 15]
theorem r5_2 : type_of% (@rr _ _ c5_2.eq_1) := rr c5_2.eq_1
def c5_3 : ACode := .ops [⟨some 16, .bin .lss (.t 15) (.t 14), none, []⟩] [1, 2, 3, 14, 15, 16]
theorem r5_3 : type_of% (@rr _ _ c5_3.eq_1) := rr c5_3.eq_1
def c5_4 : ACode := .cond (.t 16) .skip (.exit 0)
theorem r5_4 : type_of% (@rr _ _ c5_4.eq_1) := rr c5_4.eq_1
def c5_5 : ACode := .ops [⟨some 17, .mv (.t 15), none, []⟩,
  ⟨some 4, .mv (.t 17), none, []⟩] [1, 2, 3, 4, 14, 15]
theorem r5_5 : type_of% (@rr _ _ c5_5.eq_1) := rr c5_5.eq_1
def c5_6 : ACode := .ops [⟨some 18, .mv (.t 4), none, []⟩,
  ⟨some 19, .fad (.t 1) 2, none, [1]⟩,
  ⟨some 20, .load 1 false (.t 19), none, [1]⟩,
  ⟨some 21, .mv (.t 4), none, []⟩,
  ⟨some 22, .call 21 [.t 20, .t 21], none, []⟩,
  ⟨some 23, .call 16 [.t 22, .c (.int .i64 (-500)), .c (.int .i64 500)], none, []⟩,
  ⟨some 24, .fad (.t 3) 2, none, [3]⟩,
  ⟨some 25, .iad (.t 24) (.t 18) 1 3, none, [3]⟩,
  ⟨none, .store (.t 25) 1 (.t 23), none, [3]⟩] [1, 2, 3, 14, 15]
theorem r5_6 : type_of% (@rr _ _ c5_6.eq_1) := rr c5_6.eq_1
def c5_7 : ACode := .seq c5_5 c5_6
theorem r5_7 : type_of% (@rr _ _ c5_7.eq_1) := rr c5_7.eq_1
def c5_8 : ACode := .block 1 c5_7
theorem r5_8 : type_of% (@rr _ _ c5_8.eq_1) := rr c5_8.eq_1
def c5_9 : ACode := .ops [⟨some 26, .bin .add (.t 15) (.c (.int .i64 1)), none, []⟩,
  ⟨some 15, .mv (.t 26), none, []⟩] [1, 2, 3, 14, 15]
theorem r5_9 : type_of% (@rr _ _ c5_9.eq_1) := rr c5_9.eq_1
def c5_10 : ACode := .seq c5_8 c5_9
theorem r5_10 : type_of% (@rr _ _ c5_10.eq_1) := rr c5_10.eq_1
def c5_11 : ACode := .seq c5_4 c5_10
theorem r5_11 : type_of% (@rr _ _ c5_11.eq_1) := rr c5_11.eq_1
def c5_12 : ACode := .seq c5_3 c5_11
theorem r5_12 : type_of% (@rr _ _ c5_12.eq_1) := rr c5_12.eq_1
def c5_13 : ACode := .keep [1, 2, 3, 14, 15] [1, 2, 3, 10305] c5_12
theorem r5_13 : type_of% (@rr _ _ c5_13.eq_1) := rr c5_13.eq_1
def c5_14 : ACode := .loop c5_13
theorem r5_14 : type_of% (@rr _ _ c5_14.eq_1) := rr c5_14.eq_1
def c5_15 : ACode := .block 0 c5_14
theorem r5_15 : type_of% (@rr _ _ c5_15.eq_1) := rr c5_15.eq_1
def c5_16 : ACode := .seq c5_2 c5_15
theorem r5_16 : type_of% (@rr _ _ c5_16.eq_1) := rr c5_16.eq_1
def c5_17 : ACode := .ops [⟨some 5, .mv (.c (.int .i64 0)), none, []⟩] [1, 2, 3, 5]
theorem r5_17 : type_of% (@rr _ _ c5_17.eq_1) := rr c5_17.eq_1
def c5_18 : ACode := .ops [⟨some 27, .mv (.t 5), none, []⟩,
  ⟨some 28, .fad (.t 1) 3, none, [1]⟩,
  ⟨some 29, .load 1 false (.t 28), none, [1]⟩,
  ⟨some 30, .len (.t 29), none, []⟩,
  ⟨some 31, .bin .lss (.t 27) (.t 30), none, []⟩,
  ⟨some 32, .mv (.t 31), none, []⟩,
  ⟨some 33, .mv (.t 5), some (32, true), []⟩,
  ⟨some 34, .bin .lss (.t 33) (.c (.int .i64 4)), some (32, true), []⟩,
  ⟨some 35, .pick (.t 32) (.t 34) (.c (.bool false)), none, []⟩] [1, 2, 3, 5, 35]
theorem r5_18 : type_of% (@rr _ _ c5_18.eq_1) := rr c5_18.eq_1
def c5_19 : ACode := .cond (.t 35) .skip (.exit 2)
theorem r5_19 : type_of% (@rr _ _ c5_19.eq_1) := rr c5_19.eq_1
def c5_20 : ACode := .seq c5_18 c5_19
theorem r5_20 : type_of% (@rr _ _ c5_20.eq_1) := rr c5_20.eq_1
def c5_21 : ACode := .ops [⟨some 38, .fad (.t 3) 5, none, [3]⟩,
  ⟨some 39, .load 1 false (.t 38), none, [3]⟩,
  ⟨some 40, .fad (.t 1) 3, none, [1]⟩,
  ⟨some 41, .load 1 false (.t 40), none, [1]⟩,
  ⟨some 42, .mv (.t 5), none, []⟩,
  ⟨some 43, .ias (.t 41) (.t 42) 5, none, []⟩,
  ⟨some 44, .fad (.t 43) 0, none, []⟩,
  ⟨some 45, .load 1 false (.t 44), none, []⟩,
  ⟨some 46, .fad (.t 3) 1, none, [3]⟩,
  ⟨some 47, .load 1 false (.t 46), none, [3]⟩,
  ⟨some 48, .bin .sub (.t 47) (.c (.int .i64 1)), none, []⟩,
  ⟨some 49, .call 16 [.t 45, .c (.int .i64 0), .t 48], none, []⟩,
  ⟨some 50, .fad (.t 1) 3, none, [1]⟩,
  ⟨some 51, .load 1 false (.t 50), none, [1]⟩,
  ⟨some 52, .mv (.t 5), none, []⟩,
  ⟨some 53, .ias (.t 51) (.t 52) 5, none, []⟩,
  ⟨some 54, .load 5 true (.t 53), none, []⟩,
  ⟨some 55, .fad (.t 3) 0, none, [3]⟩,
  ⟨some 56, .load 1 false (.t 55), none, [3]⟩,
  ⟨some 57, .call 22 [.t 54, .t 56], none, []⟩,
  ⟨some 58, .build [.int .i64 0, .nils] [(0, 1, .t 49), (1, 1, .t 57)], none, []⟩,
  ⟨some 59, .mkrow 59 1 2 [.int .i64 0, .nils] [(0, 2, .t 58)], none, []⟩,
  ⟨some 60, .app 10305 [10305] (.t 39) (.t 59) 2, none, [59, 10305]⟩,
  ⟨some 61, .fad (.t 3) 5, none, [3]⟩,
  ⟨none, .store (.t 61) 1 (.t 60), none, [3]⟩] [1, 2, 3, 5]
theorem r5_21 : type_of% (@rr _ _ c5_21.eq_1) := rr c5_21.eq_1
def c5_22 : ACode := .block 3 c5_21
theorem r5_22 : type_of% (@rr _ _ c5_22.eq_1) := rr c5_22.eq_1
def c5_23 : ACode := .ops [⟨some 36, .mv (.t 5), none, []⟩,
  ⟨some 37, .bin .add (.t 36) (.c (.int .i64 1)), none, []⟩,
  ⟨some 5, .mv (.t 37), none, []⟩] [1, 2, 3, 5]
theorem r5_23 : type_of% (@rr _ _ c5_23.eq_1) := rr c5_23.eq_1
def c5_24 : ACode := .seq c5_22 c5_23
theorem r5_24 : type_of% (@rr _ _ c5_24.eq_1) := rr c5_24.eq_1
def c5_25 : ACode := .seq c5_20 c5_24
theorem r5_25 : type_of% (@rr _ _ c5_25.eq_1) := rr c5_25.eq_1
def c5_26 : ACode := .keep [1, 2, 3, 5] [1, 2, 3, 10305] c5_25
theorem r5_26 : type_of% (@rr _ _ c5_26.eq_1) := rr c5_26.eq_1
def c5_27 : ACode := .loop c5_26
theorem r5_27 : type_of% (@rr _ _ c5_27.eq_1) := rr c5_27.eq_1
def c5_28 : ACode := .block 2 c5_27
theorem r5_28 : type_of% (@rr _ _ c5_28.eq_1) := rr c5_28.eq_1
def c5_29 : ACode := .seq c5_17 c5_28
theorem r5_29 : type_of% (@rr _ _ c5_29.eq_1) := rr c5_29.eq_1
def c5_30 : ACode := .ops [⟨some 62, .load 6 true (.t 3), none, [3]⟩,
  ⟨none, .store (.t 2) 6 (.t 62), none, [2]⟩] [2]
theorem r5_30 : type_of% (@rr _ _ c5_30.eq_1) := rr c5_30.eq_1
def c5_31 : ACode := .seq c5_30 .ret
theorem r5_31 : type_of% (@rr _ _ c5_31.eq_1) := rr c5_31.eq_1
def c5_32 : ACode := .seq c5_29 c5_31
theorem r5_32 : type_of% (@rr _ _ c5_32.eq_1) := rr c5_32.eq_1
def c5_33 : ACode := .seq c5_16 c5_32
theorem r5_33 : type_of% (@rr _ _ c5_33.eq_1) := rr c5_33.eq_1
def c5_34 : ACode := .seq c5_1 c5_33
theorem r5_34 : type_of% (@rr _ _ c5_34.eq_1) := rr c5_34.eq_1
def c5_35 : ACode := .seq c5_0 c5_34
theorem r5_35 : type_of% (@rr _ _ c5_35.eq_1) := rr c5_35.eq_1
def a5 : AFun := ⟨1, 63, c5_35, [.cell 2 6 true]⟩
attribute [simp] r5_0 r5_1 r5_2 r5_3 r5_4 r5_5 r5_6 r5_7 r5_8 r5_9 r5_10 r5_11 r5_12 r5_13 r5_14 r5_15 r5_16 r5_17 r5_18 r5_19 r5_20 r5_21 r5_22 r5_23 r5_24 r5_25 r5_26 r5_27 r5_28 r5_29 r5_30 r5_31 r5_32 r5_33 r5_34 r5_35
theorem m5 : mFun Tryz.prog Tryz.f5 a5 = true := by decide +kernel
theorem rd_ktree (l : List KTree) (i : Nat) (h : i < l.length) : rd (encL l) (i * 5) 5 true = some (.agg [.int .i64 l[i].cls, .lst l[i].part.length (encL l[i].part), .lst l[i].dir.length (encL l[i].dir), .lst l[i].cut.length (encL l[i].cut), .lst l[i].val.length (encL l[i].val)]) := rd_row l i h
theorem rd_ktree0 (l : List KTree) (i : Nat) (h : i < l.length) : rd (encL l) (i * 5) 1 false = some (.int .i64 l[i].cls) := rd_cell l i 0 h (by decide)
def fcells (f : Forest) : List AV := [.int .i64 f.dim, .int .i64 f.classes, .lst f.bias.length (encL f.bias), .lst f.trees.length (encL f.trees)]
theorem forest_trees {C : Cs} (hW : ∀ n lo hi : Int, C 16 [.int .i64 n, .int .i64 lo, .int .i64 hi] = (Within n lo hi).map Arg.enc)
    (hN : ∀ (t : KTree) (dim : Int), C 22 [.agg [.int .i64 t.cls, .lst t.part.length (encL t.part), .lst t.dir.length (encL t.dir), .lst t.cut.length (encL t.cut), .lst t.val.length (encL t.val)], .int .i64 dim] = (NodesC t dim).map Arg.enc)
    (f : Forest) (b : Bias) (g : Nat → Nat) (h : Hp)
    (hh : keepH h [1, 2, 3, 10305] = [(1, ⟨fcells f, false, 0⟩), (2, ⟨[.int .i64 0, .int .i64 0, .int .i64 0, .int .i64 0, .int .i64 0, .nils], false, 0⟩), (3, ⟨[.int .i64 (mDim f), .int .i64 (mClasses f), .int .i64 b.b0, .int .i64 b.b1, .int .i64 b.b2, .nils], false, 0⟩)]) :
    run C (.loop c5_26) [Fr.blk 2, Fr.c c5_31] ⟨[(1, .ptr 1 (g 1) 0), (2, .ptr 2 (g 2) 0), (3, .ptr 3 (g 3) 0), (5, .int .i64 0)], h, g⟩
      (fin [ARes.cell 2 6 true] (Arg.enc (⟨mDim f, mClasses f, b, (f.trees.take 4).map (mTree f)⟩ : Model))) := by
  have hd := mDim_le f
  have hc := mClasses_le f
  by_cases hm : f.trees.length ≤ maxN
  case neg =>
    rw [run_round]
    unfold c5_26
    rw [run_keep]
    simp only [hh]
    simp -implicitDefEqProofs [hm, fcells]
  refine run_while (c := c5_25) (fun n s => ∃ (i : Nat) (g : Nat → Nat), i + n = min f.trees.length 4 ∧ s = ⟨[(1, .ptr 1 (g 1) 0), (2, .ptr 2 (g 2) 0), (3, .ptr 3 (g 3) 0), (5, .int .i64 i)],
    (1, ⟨fcells f, false, 0⟩) :: (2, ⟨[.int .i64 0, .int .i64 0, .int .i64 0, .int .i64 0, .int .i64 0, .nils], false, 0⟩) :: (3, ⟨[.int .i64 (mDim f), .int .i64 (mClasses f), .int .i64 b.b0, .int .i64 b.b1, .int .i64 b.b2, if i = 0 then .nils else .own 10305 (g 10305) 0 i], false, 0⟩) ::
      (if i = 0 then [] else [(10305, ⟨encL ((f.trees.map (mTree f)).take i), false, 2⟩)]), g⟩) (min f.trees.length 4) ⟨0, g, by omega, ?_⟩ ?_
  · simp only [hh]
    simp
  rintro n s ⟨i, g, hi, rfl⟩
  have w1 : IntKind.i64.wrap ((i : Int) + 1) = (i : Int) + 1 := wrap64 (by omega) (by omega)
  by_cases h1 : i < min f.trees.length 4
  case pos =>
    have c1 : i < f.trees.length := by omega
    have c2 : (i : Int) < 4 := by omega
    have r1 := rd_ktree f.trees i c1
    have r0 := rd_ktree0 f.trees i c1
    have w2 : IntKind.i64.wrap (mClasses f - 1) = mClasses f - 1 := wrap64 (by omega) (by omega)
    have v1 := within_of f.trees[i].cls 0 (mClasses f - 1) (by omega)
    have v2 : NodesC f.trees[i] (mDim f) = some (treeNodes f.trees[i] (mDim f)) := part_of ⟨hd.1, by omega⟩ _
    have c3 : i ≤ 1099511627775 := by omega
    have hL : ((f.trees.map (mTree f)).take i).length = i := by simp; omega
    have c4 : i ≤ f.trees.length := by omega
    have c5 : i * 2 ≤ (encL ((f.trees.map (mTree f)).take i)).length := by rw [encL_length, hL]; exact Nat.le_refl _
    have htk : List.take (i * 2) (encL ((f.trees.map (mTree f)).take i)) = encL ((f.trees.map (mTree f)).take i) := take_rows _ _ (by rw [hL]; exact Nat.le_refl _)
    have he : encL ((f.trees.map (mTree f)).take (i + 1)) = encL ((f.trees.map (mTree f)).take i) ++ [.int .i64 (within f.trees[i].cls 0 (mClasses f - 1)), .lst (treeNodes f.trees[i] (mDim f)).length (encL (treeNodes f.trees[i] (mDim f)))] := by
      rw [List.take_succ_eq_append_getElem (show i < (f.trees.map (mTree f)).length by simpa using c1), encL_append, List.getElem_map]
      rfl
    by_cases hz : i = 0
    · subst hz
      simp -implicitDefEqProofs [hm, fcells, c1, c2, r0, r1, w1, w2, hW, hN, v1, v2]
      refine ⟨n - 1, by omega, 1, by omega, by omega, by rw [if_neg (by omega)], ?_⟩
      rw [if_neg (by omega), he]
      rfl
    · simp -implicitDefEqProofs [hm, fcells, c1, c2, r0, r1, w1, w2, hW, hN, v1, v2, hz, c3, c5, htk]
      refine ⟨n - 1, by omega, i + 1, by omega, by omega, by rw [if_neg (by omega)], ?_⟩
      rw [if_neg (by omega), he]
  case neg =>
    have hil : i = min f.trees.length 4 := by omega
    have ht : f.trees.take 4 = f.trees.take i := by
      rw [hil]
      by_cases h4 : f.trees.length ≤ 4
      · rw [List.take_of_length_le h4, List.take_of_length_le (by omega)]
      · rw [show min f.trees.length 4 = 4 by omega]
    have hT : (f.trees.take 4).map (mTree f) = (f.trees.map (mTree f)).take i := by rw [ht, List.map_take]
    have hL : ((f.trees.map (mTree f)).take i).length = i := by simp; omega
    have htk : List.take (i * 2) (encL ((f.trees.map (mTree f)).take i)) = encL ((f.trees.map (mTree f)).take i) := take_rows _ _ (by rw [hL]; exact Nat.le_refl _)
    have c5 : i * 2 ≤ (encL ((f.trees.map (mTree f)).take i)).length := by rw [encL_length, hL]; exact Nat.le_refl _
    rw [hT]
    by_cases hz : i = 0
    · subst hz
      by_cases k1 : (0 : Int) < f.trees.length
      · omega
      · have k2 : ¬ 0 < f.trees.length := by omega
        simp -implicitDefEqProofs [hm, fcells, k2]
        rfl
    · by_cases k1 : (i : Int) < f.trees.length
      · have k2 : ¬ (i : Int) < 4 := by omega
        simp -implicitDefEqProofs [hm, fcells, k1, k2, hz, c5, htk]
        omega
      · simp -implicitDefEqProofs [hm, fcells, k1, hz, c5, htk]
        omega
noncomputable def ModelC (f : Forest) : Option Model := some (modelOf f)
set_option maxRecDepth 8000 in
theorem runs_Model (f : Forest) (c : Model) (h : ModelC f = some c) : Runs (tbl [(21, sp2 Pick), (16, sp3 Within), (22, sp2 NodesC)]) a5 [Arg.enc f] (Arg.enc c) := by
  cases h
  refine ⟨rfl, fun g => run_def ?_⟩
  unfold a5
  have v1 : Within f.dim 1 3 = some (mDim f) := within_of f.dim 1 3 (by omega)
  have v2 : Within f.classes 1 3 = some (mClasses f) := within_of f.classes 1 3 (by omega)
  have hc := mClasses_le f
  have p0 := pick_of f.bias 0
  have p1 : Pick f.bias 1 = some (pick f.bias 1) := pick_of f.bias 1
  have p2 : Pick f.bias 2 = some (pick f.bias 2) := pick_of f.bias 2
  have v3 := within_of (pick f.bias 0) (-500) 500 (by omega)
  have v4 := within_of (pick f.bias 1) (-500) 500 (by omega)
  have v5 := within_of (pick f.bias 2) (-500) 500 (by omega)
  have b0 : within (pick f.bias 0) (-500) 500 = mBias f 0 := by unfold mBias; rw [if_pos (by omega)]
  rw [b0] at v3
  have hcc : mClasses f = 1 ∨ mClasses f = 2 ∨ mClasses f = 3 := by omega
  have hW : ∀ n lo hi : Int, tbl [(21, sp2 Pick), (16, sp3 Within), (22, sp2 NodesC)] 16 [.int .i64 n, .int .i64 lo, .int .i64 hi] = (Within n lo hi).map Arg.enc := fun n lo hi => by simp
  have hN : ∀ (t : KTree) (dim : Int), tbl [(21, sp2 Pick), (16, sp3 Within), (22, sp2 NodesC)] 22 [.agg [.int .i64 t.cls, .lst t.part.length (encL t.part), .lst t.dir.length (encL t.dir), .lst t.cut.length (encL t.cut), .lst t.val.length (encL t.val)], .int .i64 dim] = (NodesC t dim).map Arg.enc := fun t dim => by simp
  rcases hcc with hcc | hcc | hcc
  · have z1 : mBias f 1 = 0 := by unfold mBias; rw [if_neg (by omega)]
    have z2 : mBias f 2 = 0 := by unfold mBias; rw [if_neg (by omega)]
    simp -implicitDefEqProofs [v1, v2, v3, p0, pick_0, hcc, run_round, -r5_27]
    exact forest_trees hW hN f ⟨mBias f 0, mBias f 1, mBias f 2⟩ (bump 3 (bump 2 (bump 1 g))) _ (by simp [hcc, fcells, z1, z2])
  · have b1 : within (pick f.bias 1) (-500) 500 = mBias f 1 := by unfold mBias; rw [if_pos (by omega)]
    rw [b1] at v4
    have z2 : mBias f 2 = 0 := by unfold mBias; rw [if_neg (by omega)]
    simp -implicitDefEqProofs [v1, v2, v3, v4, p0, p1, pick_0, hcc, run_round, -r5_27]
    exact forest_trees hW hN f ⟨mBias f 0, mBias f 1, mBias f 2⟩ (bump 3 (bump 2 (bump 1 g))) _ (by simp [hcc, fcells, z2])
  · have b1 : within (pick f.bias 1) (-500) 500 = mBias f 1 := by unfold mBias; rw [if_pos (by omega)]
    have b2 : within (pick f.bias 2) (-500) 500 = mBias f 2 := by unfold mBias; rw [if_pos (by omega)]
    rw [b1] at v4
    rw [b2] at v5
    simp -implicitDefEqProofs [v1, v2, v3, v4, v5, p0, p1, p2, pick_0, hcc, run_round, -r5_27]
    exact forest_trees hW hN f ⟨mBias f 0, mBias f 1, mBias f 2⟩ (bump 3 (bump 2 (bump 1 g))) _ (by simp [hcc, fcells])
theorem c_Model : Contract Tryz.prog 5 (sp1 ModelC) :=
  contract_of_runs mixed (tbl_cons c_pick (tbl_cons c_Within (tbl_cons c_Nodes tbl_nil))) Tryz.func5 m5 (sp1_runs runs_Model)
end Go.Co
/- CO: the region and the query that numbers make. -/
namespace Go.Co
open Go.Am Go.Proofs
set_option linter.unusedSimpArgs false
set_option linter.unusedVariables false
def c23_0 : ACode := .ops [⟨some 2, .box (.t 0) 6, none, []⟩,
  ⟨some 4, .alloc [.int .i64 0, .int .i64 0, .int .i64 0, .int .i64 0, .int .i64 0, .int .i64 0, .int .i64 0, .int .i64 0, .int .i64 0, .int .i64 0], none, []⟩] [1, 2, 4]
theorem r23_0 : type_of% (@rr _ _ c23_0.eq_1) := rr c23_0.eq_1
def c23_1 : ACode := .ops [⟨some 5, .alloc [.int .i64 0, .int .i64 0, .int .i64 0, .int .i64 0, .int .i64 0, .int .i64 0, .int .i64 0, .int .i64 0, .int .i64 0, .int .i64 0], none, []⟩] [1, 2, 4, 5]
theorem r23_1 : type_of% (@rr _ _ c23_1.eq_1) := rr c23_1.eq_1
def c23_2 : ACode := .ops [⟨some 8, .fad (.t 2) 0, none, [2]⟩,
  ⟨some 9, .load 1 false (.t 8), none, [2]⟩,
  ⟨some 10, .mv (.c (.int .i64 0)), none, []⟩] [1, 4, 5, 9, 10]
theorem r23_2 : type_of% (@rr _ _ c23_2.eq_1) := rr c23_2.eq_1
def c23_3 : ACode := .ops [⟨some 11, .bin .lss (.t 10) (.t 9), none, []⟩] [1, 4, 5, 9, 10, 11]
theorem r23_3 : type_of% (@rr _ _ c23_3.eq_1) := rr c23_3.eq_1
def c23_4 : ACode := .cond (.t 11) .skip (.exit 0)
theorem r23_4 : type_of% (@rr _ _ c23_4.eq_1) := rr c23_4.eq_1
def c23_5 : ACode := .ops [⟨some 12, .mv (.t 10), none, []⟩,
  ⟨some 6, .mv (.t 12), none, []⟩] [1, 4, 5, 6, 9, 10]
theorem r23_5 : type_of% (@rr _ _ c23_5.eq_1) := rr c23_5.eq_1
def c23_6 : ACode := .ops [⟨some 13, .mv (.t 1), none, []⟩,
  ⟨some 14, .mv (.t 6), none, []⟩,
  ⟨some 15, .bin .mul (.c (.int .i64 2)) (.t 14), none, []⟩,
  ⟨some 16, .call 21 [.t 13, .t 15], none, []⟩,
  ⟨some 17, .call 16 [.t 16, .c (.int .i64 (-2)), .c (.int .i64 9)], none, []⟩,
  ⟨some 7, .mv (.t 17), none, []⟩] [1, 4, 5, 6, 7, 9, 10]
theorem r23_6 : type_of% (@rr _ _ c23_6.eq_1) := rr c23_6.eq_1
def c23_7 : ACode := .ops [⟨some 18, .mv (.t 6), none, []⟩,
  ⟨some 19, .mv (.t 7), none, []⟩,
  ⟨some 20, .mv (.t 7), none, []⟩,
  ⟨some 21, .mv (.t 1), none, []⟩,
  ⟨some 22, .mv (.t 6), none, []⟩,
  ⟨some 23, .bin .mul (.c (.int .i64 2)) (.t 22), none, []⟩,
  ⟨some 24, .bin .add (.t 23) (.c (.int .i64 1)), none, []⟩,
  ⟨some 25, .call 21 [.t 21, .t 24], none, []⟩,
  ⟨some 26, .call 16 [.t 25, .c (.int .i64 0), .c (.int .i64 11)], none, []⟩,
  ⟨some 27, .bin .add (.t 20) (.t 26), none, []⟩,
  ⟨some 28, .build [.int .i64 0, .int .i64 0] [(0, 1, .t 19), (1, 1, .t 27)], none, []⟩,
  ⟨some 29, .iad (.t 5) (.t 18) 2 5, none, [5]⟩,
  ⟨none, .store (.t 29) 2 (.t 28), none, [5]⟩] [1, 4, 5, 9, 10]
theorem r23_7 : type_of% (@rr _ _ c23_7.eq_1) := rr c23_7.eq_1
def c23_8 : ACode := .seq c23_6 c23_7
theorem r23_8 : type_of% (@rr _ _ c23_8.eq_1) := rr c23_8.eq_1
def c23_9 : ACode := .seq c23_5 c23_8
theorem r23_9 : type_of% (@rr _ _ c23_9.eq_1) := rr c23_9.eq_1
def c23_10 : ACode := .block 1 c23_9
theorem r23_10 : type_of% (@rr _ _ c23_10.eq_1) := rr c23_10.eq_1
def c23_11 : ACode := .ops [⟨some 30, .bin .add (.t 10) (.c (.int .i64 1)), none, []⟩,
  ⟨some 10, .mv (.t 30), none, []⟩] [1, 4, 5, 9, 10]
theorem r23_11 : type_of% (@rr _ _ c23_11.eq_1) := rr c23_11.eq_1
def c23_12 : ACode := .seq c23_10 c23_11
theorem r23_12 : type_of% (@rr _ _ c23_12.eq_1) := rr c23_12.eq_1
def c23_13 : ACode := .seq c23_4 c23_12
theorem r23_13 : type_of% (@rr _ _ c23_13.eq_1) := rr c23_13.eq_1
def c23_14 : ACode := .seq c23_3 c23_13
theorem r23_14 : type_of% (@rr _ _ c23_14.eq_1) := rr c23_14.eq_1
def c23_15 : ACode := .keep [1, 4, 5, 9, 10] [4, 5] c23_14
theorem r23_15 : type_of% (@rr _ _ c23_15.eq_1) := rr c23_15.eq_1
def c23_16 : ACode := .loop c23_15
theorem r23_16 : type_of% (@rr _ _ c23_16.eq_1) := rr c23_16.eq_1
def c23_17 : ACode := .block 0 c23_16
theorem r23_17 : type_of% (@rr _ _ c23_17.eq_1) := rr c23_17.eq_1
def c23_18 : ACode := .seq c23_2 c23_17
theorem r23_18 : type_of% (@rr _ _ c23_18.eq_1) := rr c23_18.eq_1
def c23_19 : ACode := .ops [⟨some 31, .load 10 true (.t 5), none, [5]⟩,
  ⟨none, .store (.t 4) 10 (.t 31), none, [4]⟩] [4]
theorem r23_19 : type_of% (@rr _ _ c23_19.eq_1) := rr c23_19.eq_1
def c23_20 : ACode := .seq c23_19 .ret
theorem r23_20 : type_of% (@rr _ _ c23_20.eq_1) := rr c23_20.eq_1
def c23_21 : ACode := .seq c23_18 c23_20
theorem r23_21 : type_of% (@rr _ _ c23_21.eq_1) := rr c23_21.eq_1
def c23_22 : ACode := .seq c23_1 c23_21
theorem r23_22 : type_of% (@rr _ _ c23_22.eq_1) := rr c23_22.eq_1
def c23_23 : ACode := .seq c23_0 c23_22
theorem r23_23 : type_of% (@rr _ _ c23_23.eq_1) := rr c23_23.eq_1
def a23 : AFun := ⟨2, 32, c23_23, [.cell 4 10 true]⟩
attribute [simp] r23_0 r23_1 r23_2 r23_3 r23_4 r23_5 r23_6 r23_7 r23_8 r23_9 r23_10 r23_11 r23_12 r23_13 r23_14 r23_15 r23_16 r23_17 r23_18 r23_19 r23_20 r23_21 r23_22 r23_23
theorem m23 : mFun Tryz.prog Tryz.f23 a23 = true := by decide +kernel
/- (copse/copsekeep.Ask).Query -/
def c6_0 : ACode := .ops [⟨some 2, .box (.t 0) 8, none, []⟩,
  ⟨some 3, .box (.t 1) 6, none, []⟩,
  ⟨some 4, .alloc [.int .i64 0, .int .i64 0, .int .i64 0, .int .i64 0, .int .i64 0, .int .i64 0, .int .i64 0, .int .i64 0, .int .i64 0, .int .i64 0, .int .i64 0, .int .i64 0, .int .i64 0, .int .i64 0, .int .i64 0, .bool false, .int .i64 0], none, []⟩] [2, 3, 4]
theorem r6_0 : type_of% (@rr _ _ c6_0.eq_1) := rr c6_0.eq_1
def c6_1 : ACode := .ops [⟨some 6, .fad (.t 2) 0, none, [2]⟩,
  ⟨some 7, .load 1 false (.t 6), none, [2]⟩,
  ⟨some 8, .call 16 [.t 7, .c (.int .i64 1), .c (.int .i64 3)], none, []⟩,
  ⟨some 9, .fad (.t 2) 1, none, [2]⟩,
  ⟨some 10, .load 1 false (.t 9), none, [2]⟩,
  ⟨some 11, .fad (.t 3) 1, none, [3]⟩,
  ⟨some 12, .load 1 false (.t 11), none, [3]⟩,
  ⟨some 13, .bin .sub (.t 12) (.c (.int .i64 1)), none, []⟩,
  ⟨some 14, .call 16 [.t 10, .c (.int .i64 0), .t 13], none, []⟩,
  ⟨some 15, .load 6 true (.t 3), none, [3]⟩,
  ⟨some 16, .fad (.t 2) 7, none, [2]⟩,
  ⟨some 17, .load 1 false (.t 16), none, [2]⟩,
  ⟨some 18, .call 23 [.t 15, .t 17], none, []⟩,
  ⟨some 19, .fad (.t 2) 5, none, [2]⟩,
  ⟨some 20, .load 1 false (.t 19), none, [2]⟩,
  ⟨some 21, .call 16 [.t 20, .c (.int .i64 0), .c (.int .i64 65536)], none, []⟩,
  ⟨some 22, .build [.int .i64 0, .int .i64 0, .int .i64 0, .int .i64 0, .int .i64 0, .int .i64 0, .int .i64 0, .int .i64 0, .int .i64 0, .int .i64 0, .int .i64 0, .int .i64 0, .int .i64 0, .int .i64 0, .int .i64 0, .bool false, .int .i64 0] [(0, 1, .t 8), (1, 1, .t 14), (2, 10, .t 18), (16, 1, .t 21)], none, []⟩,
  ⟨some 5, .alloc [.int .i64 0, .int .i64 0, .int .i64 0, .int .i64 0, .int .i64 0, .int .i64 0, .int .i64 0, .int .i64 0, .int .i64 0, .int .i64 0, .int .i64 0, .int .i64 0, .int .i64 0, .int .i64 0, .int .i64 0, .bool false, .int .i64 0], none, []⟩,
  ⟨none, .store (.t 5) 17 (.t 22), none, [5]⟩] [2, 3, 4, 5]
theorem r6_1 : type_of% (@rr _ _ c6_1.eq_1) := rr c6_1.eq_1
def c6_2 : ACode := .ops [⟨some 23, .fad (.t 5) 0, none, [5]⟩,
  ⟨some 24, .load 1 false (.t 23), none, [5]⟩] [2, 3, 4, 5, 24]
theorem r6_2 : type_of% (@rr _ _ c6_2.eq_1) := rr c6_2.eq_1
def c6_3 : ACode := .ops [⟨some 26, .bin .eql (.t 24) (.c (.int .i64 2)), none, []⟩,
  ⟨some 25, .mv (.t 26), none, []⟩] [2, 3, 4, 5, 24, 25]
theorem r6_3 : type_of% (@rr _ _ c6_3.eq_1) := rr c6_3.eq_1
def c6_4 : ACode := .ops [⟨some 27, .fad (.t 3) 1, none, [3]⟩,
  ⟨some 28, .load 1 false (.t 27), none, [3]⟩,
  ⟨some 29, .bin .lss (.t 28) (.c (.int .i64 2)), none, []⟩] [2, 4, 5, 29]
theorem r6_4 : type_of% (@rr _ _ c6_4.eq_1) := rr c6_4.eq_1
def c6_5 : ACode := .ops [⟨some 30, .fad (.t 5) 0, none, [5]⟩,
  ⟨none, .store (.t 30) 1 (.c (.int .i64 1)), none, [5]⟩] [2, 4, 5]
theorem r6_5 : type_of% (@rr _ _ c6_5.eq_1) := rr c6_5.eq_1
def c6_6 : ACode := .cond (.t 29) c6_5 .skip
theorem r6_6 : type_of% (@rr _ _ c6_6.eq_1) := rr c6_6.eq_1
def c6_7 : ACode := .seq c6_4 c6_6
theorem r6_7 : type_of% (@rr _ _ c6_7.eq_1) := rr c6_7.eq_1
def c6_8 : ACode := .ops [⟨some 32, .bin .eql (.t 24) (.c (.int .i64 3)), none, []⟩,
  ⟨some 31, .mv (.t 32), none, []⟩] [2, 3, 4, 5, 31]
theorem r6_8 : type_of% (@rr _ _ c6_8.eq_1) := rr c6_8.eq_1
def c6_9 : ACode := .ops [⟨some 33, .fad (.t 2) 4, none, [2]⟩,
  ⟨some 34, .load 1 false (.t 33), none, [2]⟩,
  ⟨some 35, .fad (.t 3) 0, none, [3]⟩,
  ⟨some 36, .load 1 false (.t 35), none, [3]⟩,
  ⟨some 37, .bin .sub (.t 36) (.c (.int .i64 1)), none, []⟩,
  ⟨some 38, .call 16 [.t 34, .c (.int .i64 0), .t 37], none, []⟩,
  ⟨some 39, .fad (.t 2) 6, none, [2]⟩,
  ⟨some 40, .load 1 false (.t 39), none, [2]⟩,
  ⟨some 41, .fad (.t 5) 14, none, [5]⟩,
  ⟨none, .store (.t 41) 1 (.t 38), none, [5]⟩,
  ⟨some 42, .fad (.t 5) 15, none, [5]⟩,
  ⟨none, .store (.t 42) 1 (.t 40), none, [5]⟩] [2, 4, 5]
theorem r6_9 : type_of% (@rr _ _ c6_9.eq_1) := rr c6_9.eq_1
def c6_10 : ACode := .cond (.t 31) c6_9 .skip
theorem r6_10 : type_of% (@rr _ _ c6_10.eq_1) := rr c6_10.eq_1
def c6_11 : ACode := .seq c6_8 c6_10
theorem r6_11 : type_of% (@rr _ _ c6_11.eq_1) := rr c6_11.eq_1
def c6_12 : ACode := .cond (.t 25) c6_7 c6_11
theorem r6_12 : type_of% (@rr _ _ c6_12.eq_1) := rr c6_12.eq_1
def c6_13 : ACode := .seq c6_3 c6_12
theorem r6_13 : type_of% (@rr _ _ c6_13.eq_1) := rr c6_13.eq_1
def c6_14 : ACode := .block 0 c6_13
theorem r6_14 : type_of% (@rr _ _ c6_14.eq_1) := rr c6_14.eq_1
def c6_15 : ACode := .seq c6_2 c6_14
theorem r6_15 : type_of% (@rr _ _ c6_15.eq_1) := rr c6_15.eq_1
def c6_16 : ACode := .ops [⟨some 43, .fad (.t 5) 0, none, [5]⟩,
  ⟨some 44, .load 1 false (.t 43), none, [5]⟩,
  ⟨some 45, .bin .eql (.t 44) (.c (.int .i64 1)), none, []⟩] [2, 4, 5, 45]
theorem r6_16 : type_of% (@rr _ _ c6_16.eq_1) := rr c6_16.eq_1
def c6_17 : ACode := .ops [⟨some 46, .fad (.t 2) 2, none, [2]⟩,
  ⟨some 47, .load 1 false (.t 46), none, [2]⟩,
  ⟨some 48, .call 16 [.t 47, .c (.int .i64 (-9000)), .c (.int .i64 9000)], none, []⟩,
  ⟨some 49, .fad (.t 5) 12, none, [5]⟩,
  ⟨none, .store (.t 49) 1 (.t 48), none, [5]⟩] [2, 4, 5]
theorem r6_17 : type_of% (@rr _ _ c6_17.eq_1) := rr c6_17.eq_1
def c6_18 : ACode := .ops [⟨some 50, .fad (.t 5) 12, none, [5]⟩,
  ⟨some 51, .load 1 false (.t 50), none, [5]⟩,
  ⟨some 52, .fad (.t 2) 3, none, [2]⟩,
  ⟨some 53, .load 1 false (.t 52), none, [2]⟩,
  ⟨some 54, .call 16 [.t 53, .c (.int .i64 0), .c (.int .i64 18000)], none, []⟩,
  ⟨some 55, .bin .add (.t 51) (.t 54), none, []⟩,
  ⟨some 56, .fad (.t 5) 13, none, [5]⟩,
  ⟨none, .store (.t 56) 1 (.t 55), none, [5]⟩] [4, 5]
theorem r6_18 : type_of% (@rr _ _ c6_18.eq_1) := rr c6_18.eq_1
def c6_19 : ACode := .seq c6_17 c6_18
theorem r6_19 : type_of% (@rr _ _ c6_19.eq_1) := rr c6_19.eq_1
def c6_20 : ACode := .cond (.t 45) c6_19 .skip
theorem r6_20 : type_of% (@rr _ _ c6_20.eq_1) := rr c6_20.eq_1
def c6_21 : ACode := .seq c6_16 c6_20
theorem r6_21 : type_of% (@rr _ _ c6_21.eq_1) := rr c6_21.eq_1
def c6_22 : ACode := .ops [⟨some 57, .load 17 true (.t 5), none, [5]⟩,
  ⟨none, .store (.t 4) 17 (.t 57), none, [4]⟩] [4]
theorem r6_22 : type_of% (@rr _ _ c6_22.eq_1) := rr c6_22.eq_1
def c6_23 : ACode := .seq c6_22 .ret
theorem r6_23 : type_of% (@rr _ _ c6_23.eq_1) := rr c6_23.eq_1
def c6_24 : ACode := .seq c6_21 c6_23
theorem r6_24 : type_of% (@rr _ _ c6_24.eq_1) := rr c6_24.eq_1
def c6_25 : ACode := .seq c6_15 c6_24
theorem r6_25 : type_of% (@rr _ _ c6_25.eq_1) := rr c6_25.eq_1
def c6_26 : ACode := .seq c6_1 c6_25
theorem r6_26 : type_of% (@rr _ _ c6_26.eq_1) := rr c6_26.eq_1
def c6_27 : ACode := .seq c6_0 c6_26
theorem r6_27 : type_of% (@rr _ _ c6_27.eq_1) := rr c6_27.eq_1
def a6 : AFun := ⟨2, 58, c6_27, [.cell 4 17 true]⟩
attribute [simp] r6_0 r6_1 r6_2 r6_3 r6_4 r6_5 r6_6 r6_7 r6_8 r6_9 r6_10 r6_11 r6_12 r6_13 r6_14 r6_15 r6_16 r6_17 r6_18 r6_19 r6_20 r6_21 r6_22 r6_23 r6_24 r6_25 r6_26 r6_27
theorem m6 : mFun Tryz.prog Tryz.f6 a6 = true := by decide +kernel
noncomputable def RegionC (m : Model) (l : List Int) : Option Box := Part (1 ≤ m.dim ∧ m.dim ≤ 4) (regionOf m.dim l)
set_option maxRecDepth 8000 in
theorem runs_Region (m : Model) (l : List Int) (c : Box) (h : RegionC m l = some c) : Runs (tbl [(21, sp2 Pick), (16, sp3 Within)]) a23 [Arg.enc m, Arg.enc l] (Arg.enc c) := by
  obtain ⟨⟨d1, d2⟩, rfl⟩ := part_some h
  refine ⟨rfl, fun g => run_def ?_⟩
  unfold a23
  have p0 : Pick l 0 = some (pick l 0) := pick_of l 0
  have p1 : Pick l 1 = some (pick l 1) := pick_of l 1
  have p2 : Pick l 2 = some (pick l 2) := pick_of l 2
  have p3 : Pick l 3 = some (pick l 3) := pick_of l 3
  have p4 : Pick l 4 = some (pick l 4) := pick_of l 4
  have p5 : Pick l 5 = some (pick l 5) := pick_of l 5
  have p6 : Pick l 6 = some (pick l 6) := pick_of l 6
  have p7 : Pick l 7 = some (pick l 7) := pick_of l 7
  have v0 := within_of (pick l 0) (-2) 9 (by omega)
  have u0 := within_of (pick l 1) 0 11 (by omega)
  have a0 := within_le (pick l 0) (-2) 9 (by omega)
  have b0 := within_le (pick l 1) 0 11 (by omega)
  have w0 : IntKind.i64.wrap (within (pick l 0) (-2) 9 + within (pick l 1) 0 11) = within (pick l 0) (-2) 9 + within (pick l 1) 0 11 := wrap64 (by omega) (by omega)
  have v1 := within_of (pick l 2) (-2) 9 (by omega)
  have u1 := within_of (pick l 3) 0 11 (by omega)
  have a1 := within_le (pick l 2) (-2) 9 (by omega)
  have b1 := within_le (pick l 3) 0 11 (by omega)
  have w1 : IntKind.i64.wrap (within (pick l 2) (-2) 9 + within (pick l 3) 0 11) = within (pick l 2) (-2) 9 + within (pick l 3) 0 11 := wrap64 (by omega) (by omega)
  have v2 := within_of (pick l 4) (-2) 9 (by omega)
  have u2 := within_of (pick l 5) 0 11 (by omega)
  have a2 := within_le (pick l 4) (-2) 9 (by omega)
  have b2 := within_le (pick l 5) 0 11 (by omega)
  have w2 : IntKind.i64.wrap (within (pick l 4) (-2) 9 + within (pick l 5) 0 11) = within (pick l 4) (-2) 9 + within (pick l 5) 0 11 := wrap64 (by omega) (by omega)
  have v3 := within_of (pick l 6) (-2) 9 (by omega)
  have u3 := within_of (pick l 7) 0 11 (by omega)
  have a3 := within_le (pick l 6) (-2) 9 (by omega)
  have b3 := within_le (pick l 7) 0 11 (by omega)
  have w3 : IntKind.i64.wrap (within (pick l 6) (-2) 9 + within (pick l 7) 0 11) = within (pick l 6) (-2) 9 + within (pick l 7) 0 11 := wrap64 (by omega) (by omega)
  have hd : m.dim = 1 ∨ m.dim = 2 ∨ m.dim = 3 ∨ m.dim = 4 := by omega
  rcases hd with hd | hd | hd | hd <;>
    simp -implicitDefEqProofs [hd, run_round, p0, p1, p2, p3, p4, p5, p6, p7, v0, v1, v2, v3, u0, u1, u2, u3, w0, w1, w2, w3, regionOf, rSpan]
theorem c_Region : Contract Tryz.prog 23 (sp2 RegionC) :=
  contract_of_runs mixed (tbl_cons c_pick (tbl_cons c_Within tbl_nil)) Tryz.func23 m23 (sp2_runs runs_Region)
noncomputable def QueryC (a : Ask) (m : Model) : Option Query := Part (1 ≤ m.dim ∧ m.dim ≤ 4 ∧ 1 ≤ m.classes ∧ m.classes ≤ 3) (queryOf m a)
set_option maxRecDepth 8000 in
theorem runs_Query (a : Ask) (m : Model) (c : Query) (h : QueryC a m = some c) : Runs (tbl [(16, sp3 Within), (23, sp2 RegionC)]) a6 [Arg.enc a, Arg.enc m] (Arg.enc c) := by
  obtain ⟨⟨d1, d2, k1, k2⟩, rfl⟩ := part_some h
  refine ⟨rfl, fun g => run_def ?_⟩
  unfold a6
  have v1 := within_of a.kind 1 3 (by omega)
  have v2 := within_of a.cls 0 (m.classes - 1) (by omega)
  have v3 := within_of a.budget 0 65536 (by omega)
  have v4 := within_of a.feature 0 (m.dim - 1) (by omega)
  have v5 := within_of a.lo (-9000) 9000 (by omega)
  have v6 := within_of a.size 0 18000 (by omega)
  have w1 : IntKind.i64.wrap (m.classes - 1) = m.classes - 1 := wrap64 (by omega) (by omega)
  have w2 : IntKind.i64.wrap (m.dim - 1) = m.dim - 1 := wrap64 (by omega) (by omega)
  have a5 := within_le a.lo (-9000) 9000 (by omega)
  have a6 := within_le a.size 0 18000 (by omega)
  have w3 : IntKind.i64.wrap (within a.lo (-9000) 9000 + within a.size 0 18000) = within a.lo (-9000) 9000 + within a.size 0 18000 := wrap64 (by omega) (by omega)
  have hR : RegionC m a.spans = some (regionOf m.dim a.spans) := part_of ⟨d1, d2⟩ _
  have hk := within_le a.kind 1 3 (by omega)
  have hk : within a.kind 1 3 = 1 ∨ within a.kind 1 3 = 2 ∨ within a.kind 1 3 = 3 := by omega
  rcases hk with hk | hk | hk
  · have q : qKind m a = 1 := by unfold qKind; rw [hk]; simp
    rw [hk] at v1
    simp -implicitDefEqProofs [v1, v2, v3, v4, v5, v6, w1, w2, w3, hR, queryOf, q]
  · rw [hk] at v1
    by_cases hc : m.classes < 2
    · have q : qKind m a = 1 := by unfold qKind; rw [hk]; simp [hc]
      simp -implicitDefEqProofs [v1, v2, v3, v4, v5, v6, w1, w2, w3, hR, queryOf, q, hc]
    · have q : qKind m a = 2 := by unfold qKind; rw [hk]; simp [hc]
      simp -implicitDefEqProofs [v1, v2, v3, v4, v5, v6, w1, w2, w3, hR, queryOf, q, hc]
  · have q : qKind m a = 3 := by unfold qKind; rw [hk]; simp
    rw [hk] at v1
    simp -implicitDefEqProofs [v1, v2, v3, v4, v5, v6, w1, w2, w3, hR, queryOf, q]
theorem c_Query : Contract Tryz.prog 6 (sp2 QueryC) :=
  contract_of_runs mixed (tbl_cons c_Within (tbl_cons c_Region tbl_nil)) Tryz.func6 m6 (sp2_runs runs_Query)
end Go.Co
/- CO: a point of a box, by numbers. -/
namespace Go.Co
open Go.Am Go.Proofs
set_option linter.unusedSimpArgs false
set_option linter.unusedVariables false
def small (s : Span) : Prop := -1125899906842624 ≤ s.lo ∧ s.lo ≤ 1125899906842624 ∧ s.hi ≤ 1125899906842624
theorem empty_spec {b : Box} (h : b.empty = false) : b.s0.empty = false ∧ b.s1.empty = false ∧ b.s2.empty = false ∧ b.s3.empty = false ∧ b.s4.empty = false := by
  unfold Box.empty at h
  simp only [Bool.or_eq_false_iff] at h
  exact ⟨h.1.1.1.1, h.1.1.1.2, h.1.1.2, h.1.2, h.2⟩
end Go.Co
/- CO: margins, the best class (written by mkCoO.py). -/
namespace Go.Co
open Go.Am Go.Proofs
set_option linter.unusedSimpArgs false
set_option linter.unusedVariables false
def c28_0 : ACode := .ops [⟨some 3, .box (.t 0) 6, none, []⟩,
  ⟨some 5, .box (.t 2) 10, none, []⟩,
  ⟨some 6, .mv (.c (.int .i64 0)), none, []⟩,
  ⟨some 7, .mv (.c (.bool false)), none, []⟩] [1, 3, 5]
theorem r28_0 : type_of% (@rr _ _ c28_0.eq_1) := rr c28_0.eq_1
def c28_1 : ACode := .ops [⟨some 18, .load 6 true (.t 3), none, [3]⟩,
  ⟨some 19, .mv (.t 1), none, []⟩,
  ⟨some 20, .load 10 true (.t 5), none, [5]⟩,
  ⟨some 21, .call 27 [.t 18, .t 19, .t 20], none, []⟩,
  ⟨some 17, .mv (.t 21), none, []⟩,
  ⟨some 22, .ext (.t 17) 0, none, []⟩,
  ⟨some 23, .ext (.t 17) 1, none, []⟩,
  ⟨some 24, .ext (.t 17) 2, none, []⟩,
  ⟨some 8, .mv (.t 22), none, []⟩,
  ⟨some 9, .mv (.t 23), none, []⟩,
  ⟨some 10, .mv (.t 24), none, []⟩] [1, 3, 5, 8, 10]
theorem r28_1 : type_of% (@rr _ _ c28_1.eq_1) := rr c28_1.eq_1
def c28_2 : ACode := .ops [⟨some 25, .mv (.t 10), none, []⟩,
  ⟨some 26, .un .not (.t 25), none, []⟩,
  ⟨some 27, .mv (.t 26), none, []⟩,
  ⟨some 28, .fad (.t 3) 1, some (27, false), [3]⟩,
  ⟨some 29, .load 1 false (.t 28), some (27, false), [3]⟩,
  ⟨some 30, .bin .lss (.t 29) (.c (.int .i64 2)), some (27, false), []⟩,
  ⟨some 31, .pick (.t 27) (.c (.bool true)) (.t 30), none, []⟩] [1, 3, 5, 8, 31]
theorem r28_2 : type_of% (@rr _ _ c28_2.eq_1) := rr c28_2.eq_1
def c28_3 : ACode := .ops [⟨some 6, .mv (.c (.int .i64 0)), none, []⟩,
  ⟨some 7, .mv (.c (.bool false)), none, []⟩] [6, 7]
theorem r28_3 : type_of% (@rr _ _ c28_3.eq_1) := rr c28_3.eq_1
def c28_4 : ACode := .seq c28_3 .ret
theorem r28_4 : type_of% (@rr _ _ c28_4.eq_1) := rr c28_4.eq_1
def c28_5 : ACode := .cond (.t 31) c28_4 .skip
theorem r28_5 : type_of% (@rr _ _ c28_5.eq_1) := rr c28_5.eq_1
def c28_6 : ACode := .seq c28_2 c28_5
theorem r28_6 : type_of% (@rr _ _ c28_6.eq_1) := rr c28_6.eq_1
def c28_7 : ACode := .ops [⟨some 11, .mv (.c (.int .i64 0)), none, []⟩,
  ⟨some 12, .mv (.c (.bool false)), none, []⟩] [1, 3, 5, 8, 11, 12]
theorem r28_7 : type_of% (@rr _ _ c28_7.eq_1) := rr c28_7.eq_1
def c28_8 : ACode := .ops [⟨some 32, .fad (.t 3) 1, none, [3]⟩,
  ⟨some 33, .load 1 false (.t 32), none, [3]⟩,
  ⟨some 34, .mv (.c (.int .i64 0)), none, []⟩] [1, 3, 5, 8, 11, 12, 33, 34]
theorem r28_8 : type_of% (@rr _ _ c28_8.eq_1) := rr c28_8.eq_1
def c28_9 : ACode := .ops [⟨some 35, .bin .lss (.t 34) (.t 33), none, []⟩] [1, 3, 5, 8, 11, 12, 33, 34, 35]
theorem r28_9 : type_of% (@rr _ _ c28_9.eq_1) := rr c28_9.eq_1
def c28_10 : ACode := .cond (.t 35) .skip (.exit 0)
theorem r28_10 : type_of% (@rr _ _ c28_10.eq_1) := rr c28_10.eq_1
def c28_11 : ACode := .ops [⟨some 36, .mv (.t 34), none, []⟩,
  ⟨some 13, .mv (.t 36), none, []⟩] [1, 3, 5, 8, 11, 12, 13, 33, 34]
theorem r28_11 : type_of% (@rr _ _ c28_11.eq_1) := rr c28_11.eq_1
def c28_12 : ACode := .ops [⟨some 37, .mv (.t 13), none, []⟩,
  ⟨some 38, .mv (.t 1), none, []⟩,
  ⟨some 39, .bin .eql (.t 37) (.t 38), none, []⟩] [1, 3, 5, 8, 11, 12, 13, 33, 34, 39]
theorem r28_12 : type_of% (@rr _ _ c28_12.eq_1) := rr c28_12.eq_1
def c28_13 : ACode := .cond (.t 39) (.exit 1) .skip
theorem r28_13 : type_of% (@rr _ _ c28_13.eq_1) := rr c28_13.eq_1
def c28_14 : ACode := .seq c28_12 c28_13
theorem r28_14 : type_of% (@rr _ _ c28_14.eq_1) := rr c28_14.eq_1
def c28_15 : ACode := .ops [⟨some 41, .load 6 true (.t 3), none, [3]⟩,
  ⟨some 42, .mv (.t 13), none, []⟩,
  ⟨some 43, .load 10 true (.t 5), none, [5]⟩,
  ⟨some 44, .call 27 [.t 41, .t 42, .t 43], none, []⟩,
  ⟨some 40, .mv (.t 44), none, []⟩,
  ⟨some 45, .ext (.t 40) 0, none, []⟩,
  ⟨some 46, .ext (.t 40) 1, none, []⟩,
  ⟨some 47, .ext (.t 40) 2, none, []⟩,
  ⟨some 14, .mv (.t 45), none, []⟩,
  ⟨some 15, .mv (.t 46), none, []⟩,
  ⟨some 16, .mv (.t 47), none, []⟩] [1, 3, 5, 8, 11, 12, 15, 33, 34]
theorem r28_15 : type_of% (@rr _ _ c28_15.eq_1) := rr c28_15.eq_1
def c28_16 : ACode := .ops [⟨some 48, .mv (.t 12), none, []⟩,
  ⟨some 49, .un .not (.t 48), none, []⟩,
  ⟨some 50, .mv (.t 49), none, []⟩,
  ⟨some 51, .mv (.t 8), some (50, false), []⟩,
  ⟨some 52, .mv (.t 15), some (50, false), []⟩,
  ⟨some 53, .bin .sub (.t 51) (.t 52), some (50, false), []⟩,
  ⟨some 54, .mv (.t 11), some (50, false), []⟩,
  ⟨some 55, .bin .lss (.t 53) (.t 54), some (50, false), []⟩,
  ⟨some 56, .pick (.t 50) (.c (.bool true)) (.t 55), none, []⟩] [1, 3, 5, 8, 11, 12, 15, 33, 34, 56]
theorem r28_16 : type_of% (@rr _ _ c28_16.eq_1) := rr c28_16.eq_1
def c28_17 : ACode := .ops [⟨some 57, .mv (.t 8), none, []⟩,
  ⟨some 58, .mv (.t 15), none, []⟩,
  ⟨some 59, .bin .sub (.t 57) (.t 58), none, []⟩,
  ⟨some 11, .mv (.t 59), none, []⟩,
  ⟨some 12, .mv (.c (.bool true)), none, []⟩] [1, 3, 5, 8, 11, 12, 33, 34]
theorem r28_17 : type_of% (@rr _ _ c28_17.eq_1) := rr c28_17.eq_1
def c28_18 : ACode := .cond (.t 56) c28_17 .skip
theorem r28_18 : type_of% (@rr _ _ c28_18.eq_1) := rr c28_18.eq_1
def c28_19 : ACode := .seq c28_16 c28_18
theorem r28_19 : type_of% (@rr _ _ c28_19.eq_1) := rr c28_19.eq_1
def c28_20 : ACode := .seq c28_15 c28_19
theorem r28_20 : type_of% (@rr _ _ c28_20.eq_1) := rr c28_20.eq_1
def c28_21 : ACode := .seq c28_14 c28_20
theorem r28_21 : type_of% (@rr _ _ c28_21.eq_1) := rr c28_21.eq_1
def c28_22 : ACode := .seq c28_11 c28_21
theorem r28_22 : type_of% (@rr _ _ c28_22.eq_1) := rr c28_22.eq_1
def c28_23 : ACode := .block 1 c28_22
theorem r28_23 : type_of% (@rr _ _ c28_23.eq_1) := rr c28_23.eq_1
def c28_24 : ACode := .ops [⟨some 60, .bin .add (.t 34) (.c (.int .i64 1)), none, []⟩,
  ⟨some 34, .mv (.t 60), none, []⟩] [1, 3, 5, 8, 11, 12, 33, 34]
theorem r28_24 : type_of% (@rr _ _ c28_24.eq_1) := rr c28_24.eq_1
def c28_25 : ACode := .seq c28_23 c28_24
theorem r28_25 : type_of% (@rr _ _ c28_25.eq_1) := rr c28_25.eq_1
def c28_26 : ACode := .seq c28_10 c28_25
theorem r28_26 : type_of% (@rr _ _ c28_26.eq_1) := rr c28_26.eq_1
def c28_27 : ACode := .seq c28_9 c28_26
theorem r28_27 : type_of% (@rr _ _ c28_27.eq_1) := rr c28_27.eq_1
def c28_28 : ACode := .keep [1, 3, 5, 8, 11, 12, 33, 34] [3, 5] c28_27
theorem r28_28 : type_of% (@rr _ _ c28_28.eq_1) := rr c28_28.eq_1
def c28_29 : ACode := .loop c28_28
theorem r28_29 : type_of% (@rr _ _ c28_29.eq_1) := rr c28_29.eq_1
def c28_30 : ACode := .block 0 c28_29
theorem r28_30 : type_of% (@rr _ _ c28_30.eq_1) := rr c28_30.eq_1
def c28_31 : ACode := .seq c28_8 c28_30
theorem r28_31 : type_of% (@rr _ _ c28_31.eq_1) := rr c28_31.eq_1
def c28_32 : ACode := .ops [⟨some 61, .mv (.t 11), none, []⟩,
  ⟨some 6, .mv (.t 61), none, []⟩,
  ⟨some 7, .mv (.c (.bool true)), none, []⟩] [6, 7]
theorem r28_32 : type_of% (@rr _ _ c28_32.eq_1) := rr c28_32.eq_1
def c28_33 : ACode := .seq c28_32 .ret
theorem r28_33 : type_of% (@rr _ _ c28_33.eq_1) := rr c28_33.eq_1
def c28_34 : ACode := .seq c28_31 c28_33
theorem r28_34 : type_of% (@rr _ _ c28_34.eq_1) := rr c28_34.eq_1
def c28_35 : ACode := .seq c28_7 c28_34
theorem r28_35 : type_of% (@rr _ _ c28_35.eq_1) := rr c28_35.eq_1
def c28_36 : ACode := .seq c28_6 c28_35
theorem r28_36 : type_of% (@rr _ _ c28_36.eq_1) := rr c28_36.eq_1
def c28_37 : ACode := .seq c28_1 c28_36
theorem r28_37 : type_of% (@rr _ _ c28_37.eq_1) := rr c28_37.eq_1
def c28_38 : ACode := .seq c28_0 c28_37
theorem r28_38 : type_of% (@rr _ _ c28_38.eq_1) := rr c28_38.eq_1
def a28 : AFun := ⟨3, 62, c28_38, [.t 6, .t 7]⟩
attribute [simp] r28_0 r28_1 r28_2 r28_3 r28_4 r28_5 r28_6 r28_7 r28_8 r28_9 r28_10 r28_11 r28_12 r28_13 r28_14 r28_15 r28_16 r28_17 r28_18 r28_19 r28_20 r28_21 r28_22 r28_23 r28_24 r28_25 r28_26 r28_27 r28_28 r28_29 r28_30 r28_31 r28_32 r28_33 r28_34 r28_35 r28_36 r28_37 r28_38
theorem m28 : mFun Tryz.prog Tryz.f28 a28 = true := by decide +kernel
def other1 (c : Int) : Int := if c = 0 then 1 else 0
def other2 (c : Int) : Int := if c = 2 then 1 else 2
def marD (m : Model) (c : Int) (b : Box) (o : Int) : Int := (boundP m c b).1 - (boundP m o b).2
def margin (m : Model) (c : Int) (b : Box) : Int := if m.classes = 2 then marD m c b (other1 c) else min2 (marD m c b (other1 c)) (marD m c b (other2 c))
noncomputable def MarginC (m : Model) (c : Int) (b : Box) : Option (Int × Bool) := Part (RM m ∧ okB b) (if c < 0 ∨ m.classes ≤ c ∨ m.classes < 2 ∨ b.empty = true then (0, false) else (margin m c b, true))
theorem boundS_some {m : Model} (hm : RM m) {b : Box} (hb : okB b) (he : b.empty = false) {c : Int} (h0 : 0 ≤ c) (h1 : c < m.classes) : BoundS m c b = some ⟨(boundP m c b).1, (boundP m c b).2, true⟩ := by
  unfold BoundS
  rw [part_of ⟨hm, hb⟩, boundM, if_neg (by simp [he]; omega)]
theorem boundS_none {m : Model} (hm : RM m) {b : Box} (hb : okB b) {c : Int} (h : c < 0 ∨ m.classes ≤ c ∨ b.empty = true) : BoundS m c b = some ⟨0, 0, false⟩ := by
  unfold BoundS
  rw [part_of ⟨hm, hb⟩, boundM, if_pos h]
set_option maxHeartbeats 4000000 in
set_option maxRecDepth 100000 in
theorem runs_Margin (m : Model) (c : Int) (b : Box) (r : Int × Bool) (h : MarginC m c b = some r) : Runs (tbl [(27, sp3 BoundS)]) a28 [Arg.enc m, Arg.enc c, Arg.enc b] (Arg.enc r) := by
  obtain ⟨⟨hm, hb⟩, rfl⟩ := part_some h
  clear h
  refine ⟨rfl, fun g => run_def ?_⟩
  unfold a28
  have hcl := hm.classes
  by_cases hn : c < 0 ∨ m.classes ≤ c ∨ b.empty = true
  case pos =>
    have hS := boundS_none hm hb hn
    have : c < 0 ∨ m.classes ≤ c ∨ m.classes < 2 ∨ b.empty = true := by rcases hn with h | h | h <;> simp [h]
    rw [if_pos this]
    simp -implicitDefEqProofs [hS]
  have he : b.empty = false := by cases he : b.empty <;> simp [he] at hn ⊢
  have h0 : 0 ≤ c := by omega
  have h1 : c < m.classes := by omega
  have hS := boundS_some hm hb he h0 h1
  by_cases h2 : m.classes < 2
  case pos =>
    rw [if_pos (Or.inr (Or.inr (Or.inl h2)))]
    simp -implicitDefEqProofs [hS, h2]
  rw [if_neg (by simp [he]; omega)]
  have p0 := boundP_le hm 0 he
  have p1 := boundP_le hm 1 he
  have p2 := boundP_le hm 2 he
  have s0 := boundS_some hm hb he (c := 0) (by omega) (by omega)
  have s1 := boundS_some hm hb he (c := 1) (by omega) (by omega)
  have s2 : m.classes = 3 → _ := fun h => boundS_some hm hb he (c := 2) (by omega) (by omega)
  obtain ⟨dim, classes, bias, trees⟩ := m
  simp only at hcl h1 h2 s2
  have hcs : (classes = 2 ∧ c = 0) ∨ (classes = 2 ∧ c = 1) ∨ (classes = 3 ∧ c = 0) ∨ (classes = 3 ∧ c = 1) ∨ (classes = 3 ∧ c = 2) := by omega
  rcases hcs with ⟨rfl, rfl⟩ | ⟨rfl, rfl⟩ | ⟨rfl, rfl⟩ | ⟨rfl, rfl⟩ | ⟨rfl, rfl⟩
  · skip
    have w0 : IntKind.i64.wrap ((boundP ⟨dim, 2, bias, trees⟩ 0 b).1 - (boundP ⟨dim, 2, bias, trees⟩ 1 b).2) = marD ⟨dim, 2, bias, trees⟩ 0 b 1 := by unfold marD; exact wrap64 (by omega) (by omega)
    have hmm : margin ⟨dim, 2, bias, trees⟩ 0 b = marD ⟨dim, 2, bias, trees⟩ 0 b 1 := by simp [margin, other1]
    rw [hmm]
    clear hmm
    simp -implicitDefEqProofs [hS, s0, s1, w0]
    rw [run_round]
    simp -implicitDefEqProofs [hS, s0, s1, w0]
    rw [run_round]
    simp -implicitDefEqProofs [hS, s0, s1, w0]
    rw [run_round]
    simp -implicitDefEqProofs [hS, s0, s1, w0]
  · skip
    have w0 : IntKind.i64.wrap ((boundP ⟨dim, 2, bias, trees⟩ 1 b).1 - (boundP ⟨dim, 2, bias, trees⟩ 0 b).2) = marD ⟨dim, 2, bias, trees⟩ 1 b 0 := by unfold marD; exact wrap64 (by omega) (by omega)
    have hmm : margin ⟨dim, 2, bias, trees⟩ 1 b = marD ⟨dim, 2, bias, trees⟩ 1 b 0 := by simp [margin, other1]
    rw [hmm]
    clear hmm
    simp -implicitDefEqProofs [hS, s0, s1, w0]
    rw [run_round]
    simp -implicitDefEqProofs [hS, s0, s1, w0]
    rw [run_round]
    simp -implicitDefEqProofs [hS, s0, s1, w0]
    rw [run_round]
    simp -implicitDefEqProofs [hS, s0, s1, w0]
  · skip
    have w0 : IntKind.i64.wrap ((boundP ⟨dim, 3, bias, trees⟩ 0 b).1 - (boundP ⟨dim, 3, bias, trees⟩ 1 b).2) = marD ⟨dim, 3, bias, trees⟩ 0 b 1 := by unfold marD; exact wrap64 (by omega) (by omega)
    have w1 : IntKind.i64.wrap ((boundP ⟨dim, 3, bias, trees⟩ 0 b).1 - (boundP ⟨dim, 3, bias, trees⟩ 2 b).2) = marD ⟨dim, 3, bias, trees⟩ 0 b 2 := by unfold marD; exact wrap64 (by omega) (by omega)
    have s2 := s2 rfl
    have hmm : margin ⟨dim, 3, bias, trees⟩ 0 b = min2 (marD ⟨dim, 3, bias, trees⟩ 0 b 1) (marD ⟨dim, 3, bias, trees⟩ 0 b 2) := by simp [margin, other1, other2]
    rw [hmm]
    clear hmm
    unfold min2
    by_cases g : marD ⟨dim, 3, bias, trees⟩ 0 b 2 < marD ⟨dim, 3, bias, trees⟩ 0 b 1
    · simp -implicitDefEqProofs [hS, s0, s1, s2, w0, w1, g]
      rw [run_round]
      simp -implicitDefEqProofs [hS, s0, s1, s2, w0, w1, g]
      rw [run_round]
      simp -implicitDefEqProofs [hS, s0, s1, s2, w0, w1, g]
      rw [run_round]
      simp -implicitDefEqProofs [hS, s0, s1, s2, w0, w1, g]
      rw [run_round]
      simp -implicitDefEqProofs [hS, s0, s1, s2, w0, w1, g]
    · simp -implicitDefEqProofs [hS, s0, s1, s2, w0, w1, g]
      rw [run_round]
      simp -implicitDefEqProofs [hS, s0, s1, s2, w0, w1, g]
      rw [run_round]
      simp -implicitDefEqProofs [hS, s0, s1, s2, w0, w1, g]
      rw [run_round]
      simp -implicitDefEqProofs [hS, s0, s1, s2, w0, w1, g]
      rw [run_round]
      simp -implicitDefEqProofs [hS, s0, s1, s2, w0, w1, g]
  · skip
    have w0 : IntKind.i64.wrap ((boundP ⟨dim, 3, bias, trees⟩ 1 b).1 - (boundP ⟨dim, 3, bias, trees⟩ 0 b).2) = marD ⟨dim, 3, bias, trees⟩ 1 b 0 := by unfold marD; exact wrap64 (by omega) (by omega)
    have w1 : IntKind.i64.wrap ((boundP ⟨dim, 3, bias, trees⟩ 1 b).1 - (boundP ⟨dim, 3, bias, trees⟩ 2 b).2) = marD ⟨dim, 3, bias, trees⟩ 1 b 2 := by unfold marD; exact wrap64 (by omega) (by omega)
    have s2 := s2 rfl
    have hmm : margin ⟨dim, 3, bias, trees⟩ 1 b = min2 (marD ⟨dim, 3, bias, trees⟩ 1 b 0) (marD ⟨dim, 3, bias, trees⟩ 1 b 2) := by simp [margin, other1, other2]
    rw [hmm]
    clear hmm
    unfold min2
    by_cases g : marD ⟨dim, 3, bias, trees⟩ 1 b 2 < marD ⟨dim, 3, bias, trees⟩ 1 b 0
    · simp -implicitDefEqProofs [hS, s0, s1, s2, w0, w1, g]
      rw [run_round]
      simp -implicitDefEqProofs [hS, s0, s1, s2, w0, w1, g]
      rw [run_round]
      simp -implicitDefEqProofs [hS, s0, s1, s2, w0, w1, g]
      rw [run_round]
      simp -implicitDefEqProofs [hS, s0, s1, s2, w0, w1, g]
      rw [run_round]
      simp -implicitDefEqProofs [hS, s0, s1, s2, w0, w1, g]
    · simp -implicitDefEqProofs [hS, s0, s1, s2, w0, w1, g]
      rw [run_round]
      simp -implicitDefEqProofs [hS, s0, s1, s2, w0, w1, g]
      rw [run_round]
      simp -implicitDefEqProofs [hS, s0, s1, s2, w0, w1, g]
      rw [run_round]
      simp -implicitDefEqProofs [hS, s0, s1, s2, w0, w1, g]
      rw [run_round]
      simp -implicitDefEqProofs [hS, s0, s1, s2, w0, w1, g]
  · skip
    have w0 : IntKind.i64.wrap ((boundP ⟨dim, 3, bias, trees⟩ 2 b).1 - (boundP ⟨dim, 3, bias, trees⟩ 0 b).2) = marD ⟨dim, 3, bias, trees⟩ 2 b 0 := by unfold marD; exact wrap64 (by omega) (by omega)
    have w1 : IntKind.i64.wrap ((boundP ⟨dim, 3, bias, trees⟩ 2 b).1 - (boundP ⟨dim, 3, bias, trees⟩ 1 b).2) = marD ⟨dim, 3, bias, trees⟩ 2 b 1 := by unfold marD; exact wrap64 (by omega) (by omega)
    have s2 := s2 rfl
    have hmm : margin ⟨dim, 3, bias, trees⟩ 2 b = min2 (marD ⟨dim, 3, bias, trees⟩ 2 b 0) (marD ⟨dim, 3, bias, trees⟩ 2 b 1) := by simp [margin, other1, other2]
    rw [hmm]
    clear hmm
    unfold min2
    by_cases g : marD ⟨dim, 3, bias, trees⟩ 2 b 1 < marD ⟨dim, 3, bias, trees⟩ 2 b 0
    · simp -implicitDefEqProofs [hS, s0, s1, s2, w0, w1, g]
      rw [run_round]
      simp -implicitDefEqProofs [hS, s0, s1, s2, w0, w1, g]
      rw [run_round]
      simp -implicitDefEqProofs [hS, s0, s1, s2, w0, w1, g]
      rw [run_round]
      simp -implicitDefEqProofs [hS, s0, s1, s2, w0, w1, g]
      rw [run_round]
      simp -implicitDefEqProofs [hS, s0, s1, s2, w0, w1, g]
    · simp -implicitDefEqProofs [hS, s0, s1, s2, w0, w1, g]
      rw [run_round]
      simp -implicitDefEqProofs [hS, s0, s1, s2, w0, w1, g]
      rw [run_round]
      simp -implicitDefEqProofs [hS, s0, s1, s2, w0, w1, g]
      rw [run_round]
      simp -implicitDefEqProofs [hS, s0, s1, s2, w0, w1, g]
      rw [run_round]
      simp -implicitDefEqProofs [hS, s0, s1, s2, w0, w1, g]
theorem c_Margin : Contract Tryz.prog 28 (sp3 MarginC) :=
  contract_of_runs mixed (tbl_cons c_bSum tbl_nil) Tryz.func28 m28 (sp3_runs runs_Margin)
end Go.Co
