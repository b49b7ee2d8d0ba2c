/- CO: the model that numbers make. -/
import Derived.Test.YtcjflbmpfmibbaaCoG
namespace Go.Co
open Go.Am Go.Proofs
set_option linter.unusedSimpArgs false
set_option linter.unusedVariables false
/- (copse/copsekeep.Forest).Model -/
def c15_0 : ACode := .ops [⟨some 1, .box (.t 0) 4, none, []⟩,
  ⟨some 2, .alloc [.int .i64 0, .int .i64 0, .int .i64 0, .int .i64 0, .int .i64 0, .nils], none, []⟩] [1, 2]
theorem r15_0 : type_of% (@rr _ _ c15_0.eq_1) := rr c15_0.eq_1
def c15_1 : ACode := .ops [⟨some 6, .fad (.t 1) 0, none, [1]⟩,
  ⟨some 7, .load 1 false (.t 6), none, [1]⟩,
  ⟨some 8, .call 24 [.t 7, .c (.int .i64 1), .c (.int .i64 3)], none, []⟩,
  ⟨some 9, .fad (.t 1) 1, none, [1]⟩,
  ⟨some 10, .load 1 false (.t 9), none, [1]⟩,
  ⟨some 11, .call 24 [.t 10, .c (.int .i64 1), .c (.int .i64 3)], none, []⟩,
  ⟨some 12, .build [.int .i64 0, .int .i64 0, .int .i64 0, .int .i64 0, .int .i64 0, .nils] [(0, 1, .t 8), (1, 1, .t 11)], none, []⟩,
  ⟨some 3, .alloc [.int .i64 0, .int .i64 0, .int .i64 0, .int .i64 0, .int .i64 0, .nils], none, []⟩,
  ⟨none, .store (.t 3) 6 (.t 12), none, [3]⟩] [1, 2, 3]
theorem r15_1 : type_of% (@rr _ _ c15_1.eq_1) := rr c15_1.eq_1
def c15_2 : ACode := .ops [⟨some 13, .fad (.t 3) 1, none, [3]⟩,
  ⟨some 14, .load 1 false (.t 13), none, [3]⟩,
  ⟨some 15, .mv (.c (.int .i64 0)), none, []⟩] [1, 2, 3, 14, 15]
theorem r15_2 : type_of% (@rr _ _ c15_2.eq_1) := rr c15_2.eq_1
def c15_3 : ACode := .ops [⟨some 16, .bin .lss (.t 15) (.t 14), none, []⟩] [1, 2, 3, 14, 15, 16]
theorem r15_3 : type_of% (@rr _ _ c15_3.eq_1) := rr c15_3.eq_1
def c15_4 : ACode := .cond (.t 16) .skip (.exit 0)
theorem r15_4 : type_of% (@rr _ _ c15_4.eq_1) := rr c15_4.eq_1
def c15_5 : ACode := .ops [⟨some 17, .mv (.t 15), none, []⟩,
  ⟨some 4, .mv (.t 17), none, []⟩] [1, 2, 3, 4, 14, 15]
theorem r15_5 : type_of% (@rr _ _ c15_5.eq_1) := rr c15_5.eq_1
def c15_6 : ACode := .ops [⟨some 18, .mv (.t 4), none, []⟩,
  ⟨some 19, .fad (.t 1) 2, none, [1]⟩,
  ⟨some 20, .load 1 false (.t 19), none, [1]⟩,
  ⟨some 21, .mv (.t 4), none, []⟩,
  ⟨some 22, .call 65 [.t 20, .t 21], none, []⟩,
  ⟨some 23, .call 24 [.t 22, .c (.int .i64 (-500)), .c (.int .i64 500)], none, []⟩,
  ⟨some 24, .fad (.t 3) 2, none, [3]⟩,
  ⟨some 25, .iad (.t 24) (.t 18) 1 3, none, [3]⟩,
  ⟨none, .store (.t 25) 1 (.t 23), none, [3]⟩] [1, 2, 3, 14, 15]
theorem r15_6 : type_of% (@rr _ _ c15_6.eq_1) := rr c15_6.eq_1
def c15_7 : ACode := .seq c15_5 c15_6
theorem r15_7 : type_of% (@rr _ _ c15_7.eq_1) := rr c15_7.eq_1
def c15_8 : ACode := .block 1 c15_7
theorem r15_8 : type_of% (@rr _ _ c15_8.eq_1) := rr c15_8.eq_1
def c15_9 : ACode := .ops [⟨some 26, .bin .add (.t 15) (.c (.int .i64 1)), none, []⟩,
  ⟨some 15, .mv (.t 26), none, []⟩] [1, 2, 3, 14, 15]
theorem r15_9 : type_of% (@rr _ _ c15_9.eq_1) := rr c15_9.eq_1
def c15_10 : ACode := .seq c15_8 c15_9
theorem r15_10 : type_of% (@rr _ _ c15_10.eq_1) := rr c15_10.eq_1
def c15_11 : ACode := .seq c15_4 c15_10
theorem r15_11 : type_of% (@rr _ _ c15_11.eq_1) := rr c15_11.eq_1
def c15_12 : ACode := .seq c15_3 c15_11
theorem r15_12 : type_of% (@rr _ _ c15_12.eq_1) := rr c15_12.eq_1
def c15_13 : ACode := .keep [1, 2, 3, 14, 15] [1, 2, 3, 10305] c15_12
theorem r15_13 : type_of% (@rr _ _ c15_13.eq_1) := rr c15_13.eq_1
def c15_14 : ACode := .loop c15_13
theorem r15_14 : type_of% (@rr _ _ c15_14.eq_1) := rr c15_14.eq_1
def c15_15 : ACode := .block 0 c15_14
theorem r15_15 : type_of% (@rr _ _ c15_15.eq_1) := rr c15_15.eq_1
def c15_16 : ACode := .seq c15_2 c15_15
theorem r15_16 : type_of% (@rr _ _ c15_16.eq_1) := rr c15_16.eq_1
def c15_17 : ACode := .ops [⟨some 5, .mv (.c (.int .i64 0)), none, []⟩] [1, 2, 3, 5]
theorem r15_17 : type_of% (@rr _ _ c15_17.eq_1) := rr c15_17.eq_1
def c15_18 : ACode := .ops [⟨some 27, .mv (.t 5), none, []⟩,
  ⟨some 28, .fad (.t 1) 3, none, [1]⟩,
  ⟨some 29, .load 1 false (.t 28), none, [1]⟩,
  ⟨some 30, .len (.t 29), none, []⟩,
  ⟨some 31, .bin .lss (.t 27) (.t 30), none, []⟩,
  ⟨some 32, .mv (.t 31), none, []⟩,
  ⟨some 33, .mv (.t 5), some (32, true), []⟩,
  ⟨some 34, .bin .lss (.t 33) (.c (.int .i64 4)), some (32, true), []⟩,
  ⟨some 35, .pick (.t 32) (.t 34) (.c (.bool false)), none, []⟩] [1, 2, 3, 5, 35]
theorem r15_18 : type_of% (@rr _ _ c15_18.eq_1) := rr c15_18.eq_1
def c15_19 : ACode := .cond (.t 35) .skip (.exit 2)
theorem r15_19 : type_of% (@rr _ _ c15_19.eq_1) := rr c15_19.eq_1
def c15_20 : ACode := .seq c15_18 c15_19
theorem r15_20 : type_of% (@rr _ _ c15_20.eq_1) := rr c15_20.eq_1
def c15_21 : ACode := .ops [⟨some 38, .fad (.t 3) 5, none, [3]⟩,
  ⟨some 39, .load 1 false (.t 38), none, [3]⟩,
  ⟨some 40, .fad (.t 1) 3, none, [1]⟩,
  ⟨some 41, .load 1 false (.t 40), none, [1]⟩,
  ⟨some 42, .mv (.t 5), none, []⟩,
  ⟨some 43, .ias (.t 41) (.t 42) 5, none, []⟩,
  ⟨some 44, .fad (.t 43) 0, none, []⟩,
  ⟨some 45, .load 1 false (.t 44), none, []⟩,
  ⟨some 46, .fad (.t 3) 1, none, [3]⟩,
  ⟨some 47, .load 1 false (.t 46), none, [3]⟩,
  ⟨some 48, .bin .sub (.t 47) (.c (.int .i64 1)), none, []⟩,
  ⟨some 49, .call 24 [.t 45, .c (.int .i64 0), .t 48], none, []⟩,
  ⟨some 50, .fad (.t 1) 3, none, [1]⟩,
  ⟨some 51, .load 1 false (.t 50), none, [1]⟩,
  ⟨some 52, .mv (.t 5), none, []⟩,
  ⟨some 53, .ias (.t 51) (.t 52) 5, none, []⟩,
  ⟨some 54, .load 5 true (.t 53), none, []⟩,
  ⟨some 55, .fad (.t 3) 0, none, [3]⟩,
  ⟨some 56, .load 1 false (.t 55), none, [3]⟩,
  ⟨some 57, .call 18 [.t 54, .t 56], none, []⟩,
  ⟨some 58, .build [.int .i64 0, .nils] [(0, 1, .t 49), (1, 1, .t 57)], none, []⟩,
  ⟨some 59, .mkrow 59 1 2 [.int .i64 0, .nils] [(0, 2, .t 58)], none, []⟩,
  ⟨some 60, .app 10305 [10305] (.t 39) (.t 59) 2, none, [59, 10305]⟩,
  ⟨some 61, .fad (.t 3) 5, none, [3]⟩,
  ⟨none, .store (.t 61) 1 (.t 60), none, [3]⟩] [1, 2, 3, 5]
theorem r15_21 : type_of% (@rr _ _ c15_21.eq_1) := rr c15_21.eq_1
def c15_22 : ACode := .block 3 c15_21
theorem r15_22 : type_of% (@rr _ _ c15_22.eq_1) := rr c15_22.eq_1
def c15_23 : ACode := .ops [⟨some 36, .mv (.t 5), none, []⟩,
  ⟨some 37, .bin .add (.t 36) (.c (.int .i64 1)), none, []⟩,
  ⟨some 5, .mv (.t 37), none, []⟩] [1, 2, 3, 5]
theorem r15_23 : type_of% (@rr _ _ c15_23.eq_1) := rr c15_23.eq_1
def c15_24 : ACode := .seq c15_22 c15_23
theorem r15_24 : type_of% (@rr _ _ c15_24.eq_1) := rr c15_24.eq_1
def c15_25 : ACode := .seq c15_20 c15_24
theorem r15_25 : type_of% (@rr _ _ c15_25.eq_1) := rr c15_25.eq_1
def c15_26 : ACode := .keep [1, 2, 3, 5] [1, 2, 3, 10305] c15_25
theorem r15_26 : type_of% (@rr _ _ c15_26.eq_1) := rr c15_26.eq_1
def c15_27 : ACode := .loop c15_26
theorem r15_27 : type_of% (@rr _ _ c15_27.eq_1) := rr c15_27.eq_1
def c15_28 : ACode := .block 2 c15_27
theorem r15_28 : type_of% (@rr _ _ c15_28.eq_1) := rr c15_28.eq_1
def c15_29 : ACode := .seq c15_17 c15_28
theorem r15_29 : type_of% (@rr _ _ c15_29.eq_1) := rr c15_29.eq_1
def c15_30 : ACode := .ops [⟨some 62, .load 6 true (.t 3), none, [3]⟩,
  ⟨none, .store (.t 2) 6 (.t 62), none, [2]⟩] [2]
theorem r15_30 : type_of% (@rr _ _ c15_30.eq_1) := rr c15_30.eq_1
def c15_31 : ACode := .seq c15_30 .ret
theorem r15_31 : type_of% (@rr _ _ c15_31.eq_1) := rr c15_31.eq_1
def c15_32 : ACode := .seq c15_29 c15_31
theorem r15_32 : type_of% (@rr _ _ c15_32.eq_1) := rr c15_32.eq_1
def c15_33 : ACode := .seq c15_16 c15_32
theorem r15_33 : type_of% (@rr _ _ c15_33.eq_1) := rr c15_33.eq_1
def c15_34 : ACode := .seq c15_1 c15_33
theorem r15_34 : type_of% (@rr _ _ c15_34.eq_1) := rr c15_34.eq_1
def c15_35 : ACode := .seq c15_0 c15_34
theorem r15_35 : type_of% (@rr _ _ c15_35.eq_1) := rr c15_35.eq_1
def a15 : AFun := ⟨1, 63, c15_35, [.cell 2 6 true]⟩
attribute [simp] r15_0 r15_1 r15_2 r15_3 r15_4 r15_5 r15_6 r15_7 r15_8 r15_9 r15_10 r15_11 r15_12 r15_13 r15_14 r15_15 r15_16 r15_17 r15_18 r15_19 r15_20 r15_21 r15_22 r15_23 r15_24 r15_25 r15_26 r15_27 r15_28 r15_29 r15_30 r15_31 r15_32 r15_33 r15_34 r15_35
theorem m15 : mFun Try.prog Try.f15 a15 = true := by decide +kernel
theorem rd_ktree (l : List KTree) (i : Nat) (h : i < l.length) : rd (encL l) (i * 5) 5 true = some (.agg [.int .i64 l[i].cls, .lst l[i].part.length (encL l[i].part), .lst l[i].dir.length (encL l[i].dir), .lst l[i].cut.length (encL l[i].cut), .lst l[i].val.length (encL l[i].val)]) := rd_row l i h
theorem rd_ktree0 (l : List KTree) (i : Nat) (h : i < l.length) : rd (encL l) (i * 5) 1 false = some (.int .i64 l[i].cls) := rd_cell l i 0 h (by decide)
def fcells (f : Forest) : List AV := [.int .i64 f.dim, .int .i64 f.classes, .lst f.bias.length (encL f.bias), .lst f.trees.length (encL f.trees)]
theorem forest_trees {C : Cs} (hW : ∀ n lo hi : Int, C 24 [.int .i64 n, .int .i64 lo, .int .i64 hi] = (Within n lo hi).map Arg.enc)
    (hN : ∀ (t : KTree) (dim : Int), C 18 [.agg [.int .i64 t.cls, .lst t.part.length (encL t.part), .lst t.dir.length (encL t.dir), .lst t.cut.length (encL t.cut), .lst t.val.length (encL t.val)], .int .i64 dim] = (NodesC t dim).map Arg.enc)
    (f : Forest) (b : Bias) (g : Nat → Nat) (h : Hp)
    (hh : keepH h [1, 2, 3, 10305] = [(1, ⟨fcells f, false, 0⟩), (2, ⟨[.int .i64 0, .int .i64 0, .int .i64 0, .int .i64 0, .int .i64 0, .nils], false, 0⟩), (3, ⟨[.int .i64 (mDim f), .int .i64 (mClasses f), .int .i64 b.b0, .int .i64 b.b1, .int .i64 b.b2, .nils], false, 0⟩)]) :
    run C (.loop c15_26) [Fr.blk 2, Fr.c c15_31] ⟨[(1, .ptr 1 (g 1) 0), (2, .ptr 2 (g 2) 0), (3, .ptr 3 (g 3) 0), (5, .int .i64 0)], h, g⟩
      (fin [ARes.cell 2 6 true] (Arg.enc (⟨mDim f, mClasses f, b, (f.trees.take 4).map (mTree f)⟩ : Model))) := by
  have hd := mDim_le f
  have hc := mClasses_le f
  by_cases hm : f.trees.length ≤ maxN
  case neg =>
    rw [run_round]
    unfold c15_26
    rw [run_keep]
    simp only [hh]
    simp -implicitDefEqProofs [hm, fcells]
  refine run_while (c := c15_25) (fun n s => ∃ (i : Nat) (g : Nat → Nat), i + n = min f.trees.length 4 ∧ s = ⟨[(1, .ptr 1 (g 1) 0), (2, .ptr 2 (g 2) 0), (3, .ptr 3 (g 3) 0), (5, .int .i64 i)],
    (1, ⟨fcells f, false, 0⟩) :: (2, ⟨[.int .i64 0, .int .i64 0, .int .i64 0, .int .i64 0, .int .i64 0, .nils], false, 0⟩) :: (3, ⟨[.int .i64 (mDim f), .int .i64 (mClasses f), .int .i64 b.b0, .int .i64 b.b1, .int .i64 b.b2, if i = 0 then .nils else .own 10305 (g 10305) 0 i], false, 0⟩) ::
      (if i = 0 then [] else [(10305, ⟨encL ((f.trees.map (mTree f)).take i), false, 2⟩)]), g⟩) (min f.trees.length 4) ⟨0, g, by omega, ?_⟩ ?_
  · simp only [hh]
    simp
  rintro n s ⟨i, g, hi, rfl⟩
  have w1 : IntKind.i64.wrap ((i : Int) + 1) = (i : Int) + 1 := wrap64 (by omega) (by omega)
  by_cases h1 : i < min f.trees.length 4
  case pos =>
    have c1 : i < f.trees.length := by omega
    have c2 : (i : Int) < 4 := by omega
    have r1 := rd_ktree f.trees i c1
    have r0 := rd_ktree0 f.trees i c1
    have w2 : IntKind.i64.wrap (mClasses f - 1) = mClasses f - 1 := wrap64 (by omega) (by omega)
    have v1 := within_of f.trees[i].cls 0 (mClasses f - 1) (by omega)
    have v2 : NodesC f.trees[i] (mDim f) = some (treeNodes f.trees[i] (mDim f)) := part_of ⟨hd.1, by omega⟩ _
    have c3 : i ≤ 1099511627775 := by omega
    have hL : ((f.trees.map (mTree f)).take i).length = i := by simp; omega
    have c4 : i ≤ f.trees.length := by omega
    have c5 : i * 2 ≤ (encL ((f.trees.map (mTree f)).take i)).length := by rw [encL_length, hL]; exact Nat.le_refl _
    have htk : List.take (i * 2) (encL ((f.trees.map (mTree f)).take i)) = encL ((f.trees.map (mTree f)).take i) := take_rows _ _ (by rw [hL]; exact Nat.le_refl _)
    have he : encL ((f.trees.map (mTree f)).take (i + 1)) = encL ((f.trees.map (mTree f)).take i) ++ [.int .i64 (within f.trees[i].cls 0 (mClasses f - 1)), .lst (treeNodes f.trees[i] (mDim f)).length (encL (treeNodes f.trees[i] (mDim f)))] := by
      rw [List.take_succ_eq_append_getElem (show i < (f.trees.map (mTree f)).length by simpa using c1), encL_append, List.getElem_map]
      rfl
    by_cases hz : i = 0
    · subst hz
      simp -implicitDefEqProofs [hm, fcells, c1, c2, r0, r1, w1, w2, hW, hN, v1, v2]
      refine ⟨n - 1, by omega, 1, by omega, by omega, by rw [if_neg (by omega)], ?_⟩
      rw [if_neg (by omega), he]
      rfl
    · simp -implicitDefEqProofs [hm, fcells, c1, c2, r0, r1, w1, w2, hW, hN, v1, v2, hz, c3, c5, htk]
      refine ⟨n - 1, by omega, i + 1, by omega, by omega, by rw [if_neg (by omega)], ?_⟩
      rw [if_neg (by omega), he]
  case neg =>
    have hil : i = min f.trees.length 4 := by omega
    have ht : f.trees.take 4 = f.trees.take i := by
      rw [hil]
      by_cases h4 : f.trees.length ≤ 4
      · rw [List.take_of_length_le h4, List.take_of_length_le (by omega)]
      · rw [show min f.trees.length 4 = 4 by omega]
    have hT : (f.trees.take 4).map (mTree f) = (f.trees.map (mTree f)).take i := by rw [ht, List.map_take]
    have hL : ((f.trees.map (mTree f)).take i).length = i := by simp; omega
    have htk : List.take (i * 2) (encL ((f.trees.map (mTree f)).take i)) = encL ((f.trees.map (mTree f)).take i) := take_rows _ _ (by rw [hL]; exact Nat.le_refl _)
    have c5 : i * 2 ≤ (encL ((f.trees.map (mTree f)).take i)).length := by rw [encL_length, hL]; exact Nat.le_refl _
    rw [hT]
    by_cases hz : i = 0
    · subst hz
      by_cases k1 : (0 : Int) < f.trees.length
      · omega
      · have k2 : ¬ 0 < f.trees.length := by omega
        simp -implicitDefEqProofs [hm, fcells, k2]
        rfl
    · by_cases k1 : (i : Int) < f.trees.length
      · have k2 : ¬ (i : Int) < 4 := by omega
        simp -implicitDefEqProofs [hm, fcells, k1, k2, hz, c5, htk]
        omega
      · simp -implicitDefEqProofs [hm, fcells, k1, hz, c5, htk]
        omega
noncomputable def ModelC (f : Forest) : Option Model := some (modelOf f)
set_option maxRecDepth 8000 in
theorem runs_Model (f : Forest) (c : Model) (h : ModelC f = some c) : Runs (tbl [(65, sp2 Pick), (24, sp3 Within), (18, sp2 NodesC)]) a15 [Arg.enc f] (Arg.enc c) := by
  cases h
  refine ⟨rfl, fun g => run_def ?_⟩
  unfold a15
  have v1 : Within f.dim 1 3 = some (mDim f) := within_of f.dim 1 3 (by omega)
  have v2 : Within f.classes 1 3 = some (mClasses f) := within_of f.classes 1 3 (by omega)
  have hc := mClasses_le f
  have p0 := pick_of f.bias 0
  have p1 : Pick f.bias 1 = some (pick f.bias 1) := pick_of f.bias 1
  have p2 : Pick f.bias 2 = some (pick f.bias 2) := pick_of f.bias 2
  have v3 := within_of (pick f.bias 0) (-500) 500 (by omega)
  have v4 := within_of (pick f.bias 1) (-500) 500 (by omega)
  have v5 := within_of (pick f.bias 2) (-500) 500 (by omega)
  have b0 : within (pick f.bias 0) (-500) 500 = mBias f 0 := by unfold mBias; rw [if_pos (by omega)]
  rw [b0] at v3
  have hcc : mClasses f = 1 ∨ mClasses f = 2 ∨ mClasses f = 3 := by omega
  have hW : ∀ n lo hi : Int, tbl [(65, sp2 Pick), (24, sp3 Within), (18, sp2 NodesC)] 24 [.int .i64 n, .int .i64 lo, .int .i64 hi] = (Within n lo hi).map Arg.enc := fun n lo hi => by simp
  have hN : ∀ (t : KTree) (dim : Int), tbl [(65, sp2 Pick), (24, sp3 Within), (18, sp2 NodesC)] 18 [.agg [.int .i64 t.cls, .lst t.part.length (encL t.part), .lst t.dir.length (encL t.dir), .lst t.cut.length (encL t.cut), .lst t.val.length (encL t.val)], .int .i64 dim] = (NodesC t dim).map Arg.enc := fun t dim => by simp
  rcases hcc with hcc | hcc | hcc
  · have z1 : mBias f 1 = 0 := by unfold mBias; rw [if_neg (by omega)]
    have z2 : mBias f 2 = 0 := by unfold mBias; rw [if_neg (by omega)]
    simp -implicitDefEqProofs [v1, v2, v3, p0, pick_0, hcc, run_round, -r15_27]
    exact forest_trees hW hN f ⟨mBias f 0, mBias f 1, mBias f 2⟩ (bump 3 (bump 2 (bump 1 g))) _ (by simp [hcc, fcells, z1, z2])
  · have b1 : within (pick f.bias 1) (-500) 500 = mBias f 1 := by unfold mBias; rw [if_pos (by omega)]
    rw [b1] at v4
    have z2 : mBias f 2 = 0 := by unfold mBias; rw [if_neg (by omega)]
    simp -implicitDefEqProofs [v1, v2, v3, v4, p0, p1, pick_0, hcc, run_round, -r15_27]
    exact forest_trees hW hN f ⟨mBias f 0, mBias f 1, mBias f 2⟩ (bump 3 (bump 2 (bump 1 g))) _ (by simp [hcc, fcells, z2])
  · have b1 : within (pick f.bias 1) (-500) 500 = mBias f 1 := by unfold mBias; rw [if_pos (by omega)]
    have b2 : within (pick f.bias 2) (-500) 500 = mBias f 2 := by unfold mBias; rw [if_pos (by omega)]
    rw [b1] at v4
    rw [b2] at v5
    simp -implicitDefEqProofs [v1, v2, v3, v4, v5, p0, p1, p2, pick_0, hcc, run_round, -r15_27]
    exact forest_trees hW hN f ⟨mBias f 0, mBias f 1, mBias f 2⟩ (bump 3 (bump 2 (bump 1 g))) _ (by simp [hcc, fcells])
theorem c_Model : Contract Try.prog 15 (sp1 ModelC) :=
  contract_of_runs mixed (tbl_cons c_pick (tbl_cons c_Within (tbl_cons c_Nodes tbl_nil))) Try.func15 m15 (sp1_runs runs_Model)
end Go.Co
