/- CO: a model that numbers make, its trees handed over. -/
import Derived.Test.YtbjnmbbhlaghaaaCoH
import Derived.Test.YtbjnmbbhlaghaaaCoGate
namespace Go.Co
open Go.Am Go.Proofs
set_option linter.unusedSimpArgs false
set_option linter.unusedVariables false
attribute [-simp] Go.Am.eff_gcall

def mgV (m : Model) : AV := .agg [.int .i64 m.dim, .int .i64 m.classes, .int .i64 m.bias.b0, .int .i64 m.bias.b1, .int .i64 m.bias.b2, if m.trees.length = 0 then .nils else .own 2 0 0 m.trees.length]
def mgH (m : Model) : Hp := if m.trees.length = 0 then [] else [(2, ⟨encL m.trees, false, 2⟩)]
def nwOf {α : Type} (l : List α) : Option Nat := if l.length = 0 then none else some 10305
theorem forest_treesG {C : Cs} (hW : ∀ n lo hi : Int, C 63 [.int .i64 n, .int .i64 lo, .int .i64 hi] = (Within n lo hi).map Arg.enc)
    (hN : ∀ (t : KTree) (dim : Int), C 75 [.agg [.int .i64 t.cls, .lst t.part.length (encL t.part), .lst t.dir.length (encL t.dir), .lst t.cut.length (encL t.cut), .lst t.val.length (encL t.val)], .int .i64 dim] = (NodesC t dim).map Arg.enc)
    (f : Forest) (b : Bias) (g : Nat → Nat) (h : Hp)
    (hg0 : g 0 = 0) (hh : keepH h [1, 2, 3, 10305] = [(1, ⟨fcells f, false, 0⟩), (2, ⟨[.int .i64 0, .int .i64 0, .int .i64 0, .int .i64 0, .int .i64 0, .nils], false, 0⟩), (3, ⟨[.int .i64 (mDim f), .int .i64 (mClasses f), .int .i64 b.b0, .int .i64 b.b1, .int .i64 b.b2, .nils], false, 0⟩)]) :
    run C (.loop c45_26) [Fr.blk 2, Fr.c c45_31] ⟨[(1, .ptr 1 (g 1) 0), (2, .ptr 2 (g 2) 0), (3, .ptr 3 (g 3) 0), (5, .int .i64 0)], h, g⟩
      (gfinN [ARes.cell 2 6 true] false (nwOf (f.trees.take 4)) (mgV ⟨mDim f, mClasses f, b, (f.trees.take 4).map (mTree f)⟩) (mgH ⟨mDim f, mClasses f, b, (f.trees.take 4).map (mTree f)⟩)) := by
  have hd := mDim_le f
  have hc := mClasses_le f
  by_cases hm : f.trees.length ≤ maxN
  case neg =>
    rw [run_round]
    unfold c45_26
    rw [run_keep]
    simp only [hh]
    simp -implicitDefEqProofs [hm, fcells]
  refine run_while (c := c45_25) (fun n s => ∃ (i : Nat) (g : Nat → Nat), i + n = min f.trees.length 4 ∧ g 0 = 0 ∧ s = ⟨[(1, .ptr 1 (g 1) 0), (2, .ptr 2 (g 2) 0), (3, .ptr 3 (g 3) 0), (5, .int .i64 i)],
    (1, ⟨fcells f, false, 0⟩) :: (2, ⟨[.int .i64 0, .int .i64 0, .int .i64 0, .int .i64 0, .int .i64 0, .nils], false, 0⟩) :: (3, ⟨[.int .i64 (mDim f), .int .i64 (mClasses f), .int .i64 b.b0, .int .i64 b.b1, .int .i64 b.b2, if i = 0 then .nils else .own 10305 (g 10305) 0 i], false, 0⟩) ::
      (if i = 0 then [] else [(10305, ⟨encL ((f.trees.map (mTree f)).take i), false, 2⟩)]), g⟩) (min f.trees.length 4) ⟨0, g, by omega, hg0, ?_⟩ ?_
  · simp only [hh]
    simp
  rintro n s ⟨i, g, hi, hg0, rfl⟩
  have w1 : IntKind.i64.wrap ((i : Int) + 1) = (i : Int) + 1 := wrap64 (by omega) (by omega)
  by_cases h1 : i < min f.trees.length 4
  case pos =>
    have c1 : i < f.trees.length := by omega
    have c2 : (i : Int) < 4 := by omega
    have r1 := rd_ktree f.trees i c1
    have r0 := rd_ktree0 f.trees i c1
    have w2 : IntKind.i64.wrap (mClasses f - 1) = mClasses f - 1 := wrap64 (by omega) (by omega)
    have v1 := within_of f.trees[i].cls 0 (mClasses f - 1) (by omega)
    have v2 : NodesC f.trees[i] (mDim f) = some (treeNodes f.trees[i] (mDim f)) := part_of ⟨hd.1, by omega⟩ _
    have c3 : i ≤ 1099511627775 := by omega
    have hL : ((f.trees.map (mTree f)).take i).length = i := by simp; omega
    have c4 : i ≤ f.trees.length := by omega
    have c5 : i * 2 ≤ (encL ((f.trees.map (mTree f)).take i)).length := by rw [encL_length, hL]; exact Nat.le_refl _
    have htk : List.take (i * 2) (encL ((f.trees.map (mTree f)).take i)) = encL ((f.trees.map (mTree f)).take i) := take_rows _ _ (by rw [hL]; exact Nat.le_refl _)
    have he : encL ((f.trees.map (mTree f)).take (i + 1)) = encL ((f.trees.map (mTree f)).take i) ++ [.int .i64 (within f.trees[i].cls 0 (mClasses f - 1)), .lst (treeNodes f.trees[i] (mDim f)).length (encL (treeNodes f.trees[i] (mDim f)))] := by
      rw [List.take_succ_eq_append_getElem (show i < (f.trees.map (mTree f)).length by simpa using c1), encL_append, List.getElem_map]
      rfl
    by_cases hz : i = 0
    · subst hz
      have he0 := he
      simp only [List.take_zero, encL_nil, List.nil_append, Nat.zero_add] at he0
      simp -implicitDefEqProofs [hm, fcells, c1, c2, r0, r1, w1, w2, hW, hN, v1, v2]
      exact ⟨n - 1, by omega, 1, by omega, _, by simp [hg0], ⟨by simp, by simp, by simp, rfl⟩, ⟨by simp, by simp; exact he0.symm⟩, rfl⟩
    · simp -implicitDefEqProofs [hm, fcells, c1, c2, r0, r1, w1, w2, hW, hN, v1, v2, hz, c3, c5, htk]
      exact ⟨n - 1, by omega, i + 1, by omega, _, by simp [hg0], ⟨by simp, by simp, by simp, by omega⟩, ⟨by simp, by simp; exact he.symm⟩, rfl⟩
  case neg =>
    have hil : i = min f.trees.length 4 := by omega
    have ht : f.trees.take 4 = f.trees.take i := by
      rw [hil]
      by_cases h4 : f.trees.length ≤ 4
      · rw [List.take_of_length_le h4, List.take_of_length_le (by omega)]
      · rw [show min f.trees.length 4 = 4 by omega]
    have hT : (f.trees.take 4).map (mTree f) = (f.trees.map (mTree f)).take i := by rw [ht, List.map_take]
    have hL : ((f.trees.map (mTree f)).take i).length = i := by simp; omega
    have htk : List.take (i * 2) (encL ((f.trees.map (mTree f)).take i)) = encL ((f.trees.map (mTree f)).take i) := take_rows _ _ (by rw [hL]; exact Nat.le_refl _)
    have c5 : i * 2 ≤ (encL ((f.trees.map (mTree f)).take i)).length := by rw [encL_length, hL]; exact Nat.le_refl _
    have hTl : (f.trees.take 4).length = i := by rw [ht]; simp; omega
    rw [hT]
    by_cases hz : i = 0
    · subst hz
      have hnw : nwOf (f.trees.take 4) = none := by unfold nwOf; rw [if_pos hTl]
      have hV : mgV ⟨mDim f, mClasses f, b, (f.trees.map (mTree f)).take 0⟩ = .agg [.int .i64 (mDim f), .int .i64 (mClasses f), .int .i64 b.b0, .int .i64 b.b1, .int .i64 b.b2, .nils] := rfl
      have hH : mgH ⟨mDim f, mClasses f, b, (f.trees.map (mTree f)).take 0⟩ = [] := rfl
      rw [hnw, hV, hH]
      by_cases k1 : (0 : Int) < f.trees.length
      · omega
      · have k2 : ¬ 0 < f.trees.length := by omega
        simp -implicitDefEqProofs [hm, fcells, k2, hg0]
    · have hnw : nwOf (f.trees.take 4) = some 10305 := by unfold nwOf; rw [hTl, if_neg hz]
      have hV : mgV ⟨mDim f, mClasses f, b, (f.trees.map (mTree f)).take i⟩ = .agg [.int .i64 (mDim f), .int .i64 (mClasses f), .int .i64 b.b0, .int .i64 b.b1, .int .i64 b.b2, .own 2 0 0 i] := by unfold mgV; rw [hL, if_neg hz]
      have hH : mgH ⟨mDim f, mClasses f, b, (f.trees.map (mTree f)).take i⟩ = [(2, ⟨encL ((f.trees.map (mTree f)).take i), false, 2⟩)] := by unfold mgH; rw [hL, if_neg hz]
      rw [hnw, hV, hH]
      by_cases k1 : (i : Int) < f.trees.length
      · have k2 : ¬ (i : Int) < 4 := by omega
        simp -implicitDefEqProofs [hm, fcells, k1, k2, hz, c5, htk, mapM1_nrm, hg0]

      · simp -implicitDefEqProofs [hm, fcells, k1, hz, c5, htk, mapM1_nrm, hg0]


set_option maxRecDepth 8000 in
theorem run_ModelG (f : Forest) (g : Nat → Nat) (hg0 : g 0 = 0) : run (tbl [(112, sp2 Pick), (63, sp3 Within), (75, sp2 NodesC)]) a45.code [] ⟨argEnv 0 [Arg.enc f], [], g⟩ (gfinN a45.res false (nwOf (f.trees.take 4)) (mgV (modelOf f)) (mgH (modelOf f))) := by
  unfold a45
  have v1 : Within f.dim 1 3 = some (mDim f) := within_of f.dim 1 3 (by omega)
  have v2 : Within f.classes 1 3 = some (mClasses f) := within_of f.classes 1 3 (by omega)
  have hc := mClasses_le f
  have p0 := pick_of f.bias 0
  have p1 : Pick f.bias 1 = some (pick f.bias 1) := pick_of f.bias 1
  have p2 : Pick f.bias 2 = some (pick f.bias 2) := pick_of f.bias 2
  have v3 := within_of (pick f.bias 0) (-500) 500 (by omega)
  have v4 := within_of (pick f.bias 1) (-500) 500 (by omega)
  have v5 := within_of (pick f.bias 2) (-500) 500 (by omega)
  have b0 : within (pick f.bias 0) (-500) 500 = mBias f 0 := by unfold mBias; rw [if_pos (by omega)]
  rw [b0] at v3
  have hcc : mClasses f = 1 ∨ mClasses f = 2 ∨ mClasses f = 3 := by omega
  have hW : ∀ n lo hi : Int, tbl [(112, sp2 Pick), (63, sp3 Within), (75, sp2 NodesC)] 63 [.int .i64 n, .int .i64 lo, .int .i64 hi] = (Within n lo hi).map Arg.enc := fun n lo hi => by simp
  have hN : ∀ (t : KTree) (dim : Int), tbl [(112, sp2 Pick), (63, sp3 Within), (75, sp2 NodesC)] 75 [.agg [.int .i64 t.cls, .lst t.part.length (encL t.part), .lst t.dir.length (encL t.dir), .lst t.cut.length (encL t.cut), .lst t.val.length (encL t.val)], .int .i64 dim] = (NodesC t dim).map Arg.enc := fun t dim => by simp
  rcases hcc with hcc | hcc | hcc
  · have z1 : mBias f 1 = 0 := by unfold mBias; rw [if_neg (by omega)]
    have z2 : mBias f 2 = 0 := by unfold mBias; rw [if_neg (by omega)]
    simp -implicitDefEqProofs [v1, v2, v3, p0, pick_0, hcc, run_round, -r45_27]
    exact forest_treesG hW hN f ⟨mBias f 0, mBias f 1, mBias f 2⟩ (bump 3 (bump 2 (bump 1 g))) _ (by simp [hg0]) (by simp [hcc, fcells, z1, z2])
  · have b1 : within (pick f.bias 1) (-500) 500 = mBias f 1 := by unfold mBias; rw [if_pos (by omega)]
    rw [b1] at v4
    have z2 : mBias f 2 = 0 := by unfold mBias; rw [if_neg (by omega)]
    simp -implicitDefEqProofs [v1, v2, v3, v4, p0, p1, pick_0, hcc, run_round, -r45_27]
    exact forest_treesG hW hN f ⟨mBias f 0, mBias f 1, mBias f 2⟩ (bump 3 (bump 2 (bump 1 g))) _ (by simp [hg0]) (by simp [hcc, fcells, z2])
  · have b1 : within (pick f.bias 1) (-500) 500 = mBias f 1 := by unfold mBias; rw [if_pos (by omega)]
    have b2 : within (pick f.bias 2) (-500) 500 = mBias f 2 := by unfold mBias; rw [if_pos (by omega)]
    rw [b1] at v4
    rw [b2] at v5
    simp -implicitDefEqProofs [v1, v2, v3, v4, v5, p0, p1, p2, pick_0, hcc, run_round, -r45_27]
    exact forest_treesG hW hN f ⟨mBias f 0, mBias f 1, mBias f 2⟩ (bump 3 (bump 2 (bump 1 g))) _ (by simp [hg0]) (by simp [hcc, fcells])
def modelG : GSp := fun args h => match args, h with
  | [x], [] => (Arg.dec x : Option Forest).map fun f => (mgV (modelOf f), mgH (modelOf f))
  | _, _ => none
theorem c_ModelG : Contract Try.prog (gBase + 45) (gspec modelG) :=
  gcontractN (C := tbl [(112, sp2 Pick), (63, sp3 Within), (75, sp2 NodesC)]) mixed (tbl_cons c_pick (tbl_cons c_Within (tbl_cons c_Nodes tbl_nil))) Try.func45 m45 fun args h r h' hs => by
    unfold modelG at hs
    split at hs
    · rename_i x
      rw [Option.map_eq_some_iff] at hs
      obtain ⟨f, hf, hs⟩ := hs
      simp only [Prod.mk.injEq] at hs
      obtain ⟨rfl, rfl⟩ := hs
      obtain rfl := Arg.enc_dec _ _ hf
      exact ⟨rfl, false, _, run_ModelG f _ rfl⟩
    · cases hs
end Go.Co
