/- CO: texts of this claim, one behind the other. -/
import Derived.Test.YtcjflbmpfmibbaaGreatCz10
import Derived.Test.YtcjflbmpfmibbaaGreatCz4
import Derived.Test.YtcjflbmpfmibbaaGreatCz7
/- CO: pieces that meet, groups, levels. -/
namespace Go.Co
open Go.Am
set_option linter.unusedSimpArgs false
set_option linter.unusedVariables false
instance rowList {α : Type} [Row α] : Row (List α) where
  sz := 1
  enc l := [.lst l.length (encL l)]
  dec xs := match xs with
    | [.lst n ys] => decL α n ys
    | _ => none
  pos := by decide
  len _ := rfl
  dec_enc l := decL_encL l
  enc_dec xs a h := by
    split at h
    · obtain ⟨h1, h2⟩ := decL_some _ _ _ h
      rw [h1, h2]
    · cases h
@[simp] theorem enc_rowList {α : Type} [Row α] (l : List α) : Row.enc l = [.lst l.length (encL l)] := rfl
@[simp] theorem sz_rowList {α : Type} [Row α] : Row.sz (List α) = 1 := rfl
instance {α : Type} [Row α] : Cells (List α) := ⟨fun _ => rfl⟩
def meetB (a b : Box) : Box := ⟨meetS a.s0 b.s0, meetS a.s1 b.s1, meetS a.s2 b.s2, meetS a.s3 b.s3, meetS a.s4 b.s4⟩
def meetF (x y : Piece) : Option Piece := if (meetB x.box y.box).empty then none else some ⟨meetB x.box y.box, x.value + y.value⟩
def row (x : Piece) (b : List Piece) : List Piece := b.filterMap (meetF x)
def smallG (k : Nat) (gs : List (List Piece)) : Prop := ∀ g ∈ gs, (∀ x ∈ g, -(2 : Int) ^ k ≤ x.value ∧ x.value ≤ (2 : Int) ^ k) ∧ g.length ≤ 1073741824
theorem pow_up {j k : Nat} (h : j ≤ k) : (2 : Int) ^ j ≤ 2 ^ k := by
  have : (2 : Nat) ^ j ≤ 2 ^ k := Nat.pow_le_pow_right (by omega) h
  exact_mod_cast this
theorem smallG.up {j k : Nat} (h : j ≤ k) {gs : List (List Piece)} (hs : smallG j gs) : smallG k gs := by
  intro g hg
  refine ⟨fun x hx => ?_, (hs g hg).2⟩
  have h1 := (hs g hg).1 x hx
  have h2 := pow_up h
  omega
end Go.Co
/- CO: what breaks in a cell breaks at its corner; parts of a region. -/
namespace Go.Co
open Go.Am Go.Proofs
set_option linter.unusedSimpArgs false
set_option linter.unusedVariables false
attribute [-simp] Go.Am.eff_gcall
instance {α : Type} [Row α] [Sh α] : Sh (List α) where
  ss := [.sl (Sh.ss α)]
  good l := (∀ a ∈ l, Sh.good a) ∧ l.length ≤ maxLen
  len := rfl
  read xs h := by
    obtain ⟨x0, xs, rfl, h0, h⟩ := okR_cons h
    obtain rfl := okR_nil h
    obtain ⟨l, rfl, hg, hl⟩ := okS_list h0
    exact ⟨l, rfl, hg, hl⟩
/-! ### has, within -/
end Go.Co
/- CO: pairs. -/
namespace Go.Co
open Go.Am Go.Proofs
set_option linter.unusedSimpArgs false
set_option linter.unusedVariables false
def c56_0 : ACode := .ops [⟨some 1, .box (.t 0) 17, none, []⟩,
  ⟨some 2, .mv (.c (.bool false)), none, []⟩] [1]
theorem r56_0 : type_of% (@rr _ _ c56_0.eq_1) := rr c56_0.eq_1
def c56_1 : ACode := .ops [⟨some 3, .fad (.t 1) 0, none, [1]⟩,
  ⟨some 4, .load 1 false (.t 3), none, [1]⟩,
  ⟨some 5, .bin .eql (.t 4) (.c (.int .i64 3)), none, []⟩,
  ⟨some 6, .mv (.t 5), none, []⟩,
  ⟨some 7, .fad (.t 1) 14, some (6, true), [1]⟩,
  ⟨some 8, .load 1 false (.t 7), some (6, true), [1]⟩,
  ⟨some 9, .bin .geq (.t 8) (.c (.int .i64 0)), some (6, true), []⟩,
  ⟨some 10, .pick (.t 6) (.t 9) (.c (.bool false)), none, []⟩,
  ⟨some 11, .mv (.t 10), none, []⟩,
  ⟨some 12, .fad (.t 1) 14, some (11, true), [1]⟩,
  ⟨some 13, .load 1 false (.t 12), some (11, true), [1]⟩,
  ⟨some 14, .bin .lss (.t 13) (.c (.int .i64 4)), some (11, true), []⟩,
  ⟨some 15, .pick (.t 11) (.t 14) (.c (.bool false)), none, []⟩,
  ⟨some 2, .mv (.t 15), none, []⟩] [2]
theorem r56_1 : type_of% (@rr _ _ c56_1.eq_1) := rr c56_1.eq_1
def c56_2 : ACode := .seq c56_1 .ret
theorem r56_2 : type_of% (@rr _ _ c56_2.eq_1) := rr c56_2.eq_1
def c56_3 : ACode := .seq c56_0 c56_2
theorem r56_3 : type_of% (@rr _ _ c56_3.eq_1) := rr c56_3.eq_1
def a56 : AFun := ⟨1, 16, c56_3, [.t 2]⟩
attribute [simp] r56_0 r56_1 r56_2 r56_3
theorem m56 : mFun Tryz.prog Tryz.f56 a56 = true := by decide +kernel
def c57_0 : ACode := .ops [⟨some 2, .box (.t 0) 17, none, []⟩,
  ⟨some 3, .box (.t 1) 10, none, []⟩,
  ⟨some 4, .alloc [.int .i64 0, .int .i64 0, .int .i64 0, .int .i64 0, .int .i64 0, .int .i64 0, .int .i64 0, .int .i64 0, .int .i64 0, .int .i64 0], none, []⟩] [2, 3, 4]
theorem r57_0 : type_of% (@rr _ _ c57_0.eq_1) := rr c57_0.eq_1
def c57_1 : ACode := .ops [⟨some 5, .load 17 true (.t 2), none, [2]⟩,
  ⟨some 6, .call 56 [.t 5], none, []⟩] [3, 4, 6]
theorem r57_1 : type_of% (@rr _ _ c57_1.eq_1) := rr c57_1.eq_1
def c57_2 : ACode := .ops [⟨some 7, .build [.int .i64 0, .int .i64 0] [], none, []⟩,
  ⟨some 8, .iad (.t 3) (.c (.int .i64 4)) 2 5, none, [3]⟩,
  ⟨none, .store (.t 8) 2 (.t 7), none, [3]⟩] [3, 4]
theorem r57_2 : type_of% (@rr _ _ c57_2.eq_1) := rr c57_2.eq_1
def c57_3 : ACode := .cond (.t 6) c57_2 .skip
theorem r57_3 : type_of% (@rr _ _ c57_3.eq_1) := rr c57_3.eq_1
def c57_4 : ACode := .seq c57_1 c57_3
theorem r57_4 : type_of% (@rr _ _ c57_4.eq_1) := rr c57_4.eq_1
def c57_5 : ACode := .ops [⟨some 9, .load 10 true (.t 3), none, [3]⟩,
  ⟨none, .store (.t 4) 10 (.t 9), none, [4]⟩] [4]
theorem r57_5 : type_of% (@rr _ _ c57_5.eq_1) := rr c57_5.eq_1
def c57_6 : ACode := .seq c57_5 .ret
theorem r57_6 : type_of% (@rr _ _ c57_6.eq_1) := rr c57_6.eq_1
def c57_7 : ACode := .seq c57_4 c57_6
theorem r57_7 : type_of% (@rr _ _ c57_7.eq_1) := rr c57_7.eq_1
def c57_8 : ACode := .seq c57_0 c57_7
theorem r57_8 : type_of% (@rr _ _ c57_8.eq_1) := rr c57_8.eq_1
def a57 : AFun := ⟨2, 10, c57_8, [.cell 4 10 true]⟩
attribute [simp] r57_0 r57_1 r57_2 r57_3 r57_4 r57_5 r57_6 r57_7 r57_8
theorem m57 : mFun Tryz.prog Tryz.f57 a57 = true := by decide +kernel
def c58_0 : ACode := .ops [⟨some 2, .box (.t 0) 17, none, []⟩,
  ⟨some 3, .box (.t 1) 10, none, []⟩,
  ⟨some 4, .alloc [.int .i64 0, .int .i64 0, .int .i64 0, .int .i64 0, .int .i64 0, .int .i64 0, .int .i64 0, .int .i64 0, .int .i64 0, .int .i64 0], none, []⟩] [2, 3, 4]
theorem r58_0 : type_of% (@rr _ _ c58_0.eq_1) := rr c58_0.eq_1
def c58_1 : ACode := .ops [⟨some 5, .load 17 true (.t 2), none, [2]⟩,
  ⟨some 6, .call 56 [.t 5], none, []⟩] [2, 3, 4, 6]
theorem r58_1 : type_of% (@rr _ _ c58_1.eq_1) := rr c58_1.eq_1
def c58_2 : ACode := .ops [⟨some 7, .fad (.t 2) 14, none, [2]⟩,
  ⟨some 8, .load 1 false (.t 7), none, [2]⟩,
  ⟨some 9, .iad (.t 3) (.c (.int .i64 4)) 2 5, none, [3]⟩,
  ⟨some 10, .load 2 true (.t 9), none, [3]⟩,
  ⟨some 11, .build [.int .i64 0, .int .i64 0] [], none, []⟩,
  ⟨some 12, .iad (.t 3) (.t 8) 2 5, none, [3]⟩,
  ⟨none, .store (.t 12) 2 (.t 10), none, [3]⟩,
  ⟨some 13, .iad (.t 3) (.c (.int .i64 4)) 2 5, none, [3]⟩,
  ⟨none, .store (.t 13) 2 (.t 11), none, [3]⟩] [3, 4]
theorem r58_2 : type_of% (@rr _ _ c58_2.eq_1) := rr c58_2.eq_1
def c58_3 : ACode := .cond (.t 6) c58_2 .skip
theorem r58_3 : type_of% (@rr _ _ c58_3.eq_1) := rr c58_3.eq_1
def c58_4 : ACode := .seq c58_1 c58_3
theorem r58_4 : type_of% (@rr _ _ c58_4.eq_1) := rr c58_4.eq_1
def c58_5 : ACode := .ops [⟨some 14, .load 10 true (.t 3), none, [3]⟩,
  ⟨none, .store (.t 4) 10 (.t 14), none, [4]⟩] [4]
theorem r58_5 : type_of% (@rr _ _ c58_5.eq_1) := rr c58_5.eq_1
def c58_6 : ACode := .seq c58_5 .ret
theorem r58_6 : type_of% (@rr _ _ c58_6.eq_1) := rr c58_6.eq_1
def c58_7 : ACode := .seq c58_4 c58_6
theorem r58_7 : type_of% (@rr _ _ c58_7.eq_1) := rr c58_7.eq_1
def c58_8 : ACode := .seq c58_0 c58_7
theorem r58_8 : type_of% (@rr _ _ c58_8.eq_1) := rr c58_8.eq_1
def a58 : AFun := ⟨2, 15, c58_8, [.cell 4 10 true]⟩
attribute [simp] r58_0 r58_1 r58_2 r58_3 r58_4 r58_5 r58_6 r58_7 r58_8
theorem m58 : mFun Tryz.prog Tryz.f58 a58 = true := by decide +kernel
def c29_0 : ACode := .ops [⟨some 2, .box (.t 0) 17, none, []⟩,
  ⟨some 3, .box (.t 1) 10, none, []⟩,
  ⟨some 4, .mv (.c (.bool false)), none, []⟩] [2, 3]
theorem r29_0 : type_of% (@rr _ _ c29_0.eq_1) := rr c29_0.eq_1
def c29_1 : ACode := .ops [⟨some 5, .load 17 true (.t 2), none, [2]⟩,
  ⟨some 6, .call 56 [.t 5], none, []⟩,
  ⟨some 7, .mv (.t 6), none, []⟩,
  ⟨some 8, .load 10 true (.t 3), some (7, true), [3]⟩,
  ⟨some 9, .call 26 [.t 8], some (7, true), []⟩,
  ⟨some 10, .un .not (.t 9), some (7, true), []⟩,
  ⟨some 11, .pick (.t 7) (.t 10) (.c (.bool false)), none, []⟩,
  ⟨some 12, .mv (.t 11), none, []⟩,
  ⟨some 13, .fad (.t 2) 14, some (12, true), [2]⟩,
  ⟨some 14, .load 1 false (.t 13), some (12, true), [2]⟩,
  ⟨some 15, .iad (.t 3) (.t 14) 2 5, some (12, true), [3]⟩,
  ⟨some 16, .fad (.t 15) 0, some (12, true), [3]⟩,
  ⟨some 17, .load 1 false (.t 16), some (12, true), [3]⟩,
  ⟨some 18, .iad (.t 3) (.c (.int .i64 4)) 2 5, some (12, true), [3]⟩,
  ⟨some 19, .fad (.t 18) 1, some (12, true), [3]⟩,
  ⟨some 20, .load 1 false (.t 19), some (12, true), [3]⟩,
  ⟨some 21, .bin .lss (.t 17) (.t 20), some (12, true), []⟩,
  ⟨some 22, .pick (.t 12) (.t 21) (.c (.bool false)), none, []⟩,
  ⟨some 4, .mv (.t 22), none, []⟩] [4]
theorem r29_1 : type_of% (@rr _ _ c29_1.eq_1) := rr c29_1.eq_1
def c29_2 : ACode := .seq c29_1 .ret
theorem r29_2 : type_of% (@rr _ _ c29_2.eq_1) := rr c29_2.eq_1
def c29_3 : ACode := .seq c29_0 c29_2
theorem r29_3 : type_of% (@rr _ _ c29_3.eq_1) := rr c29_3.eq_1
def a29 : AFun := ⟨2, 23, c29_3, [.t 4]⟩
attribute [simp] r29_0 r29_1 r29_2 r29_3
theorem m29 : mFun Tryz.prog Tryz.f29 a29 = true := by decide +kernel
def c30_0 : ACode := .ops [⟨some 3, .box (.t 0) 6, none, []⟩,
  ⟨some 4, .box (.t 1) 17, none, []⟩,
  ⟨some 5, .box (.t 2) 10, none, []⟩,
  ⟨some 6, .mv (.c (.int .i64 0)), none, []⟩,
  ⟨some 7, .mv (.c (.int .i64 0)), none, []⟩,
  ⟨some 8, .mv (.c (.bool false)), none, []⟩] [3, 4, 5]
theorem r30_0 : type_of% (@rr _ _ c30_0.eq_1) := rr c30_0.eq_1
def c30_1 : ACode := .ops [⟨some 16, .load 6 true (.t 3), none, [3]⟩,
  ⟨some 17, .fad (.t 4) 1, none, [4]⟩,
  ⟨some 18, .load 1 false (.t 17), none, [4]⟩,
  ⟨some 19, .load 17 true (.t 4), none, [4]⟩,
  ⟨some 20, .load 10 true (.t 5), none, [5]⟩,
  ⟨some 21, .call 57 [.t 19, .t 20], none, []⟩,
  ⟨some 22, .call 27 [.t 16, .t 18, .t 21], none, []⟩,
  ⟨some 15, .mv (.t 22), none, []⟩,
  ⟨some 23, .ext (.t 15) 0, none, []⟩,
  ⟨some 24, .ext (.t 15) 1, none, []⟩,
  ⟨some 25, .ext (.t 15) 2, none, []⟩,
  ⟨some 9, .mv (.t 23), none, []⟩,
  ⟨some 10, .mv (.t 24), none, []⟩,
  ⟨some 11, .mv (.t 25), none, []⟩] [3, 4, 5, 9, 10, 11]
theorem r30_1 : type_of% (@rr _ _ c30_1.eq_1) := rr c30_1.eq_1
def c30_2 : ACode := .ops [⟨some 27, .load 6 true (.t 3), none, [3]⟩,
  ⟨some 28, .fad (.t 4) 1, none, [4]⟩,
  ⟨some 29, .load 1 false (.t 28), none, [4]⟩,
  ⟨some 30, .load 17 true (.t 4), none, [4]⟩,
  ⟨some 31, .load 10 true (.t 5), none, [5]⟩,
  ⟨some 32, .call 58 [.t 30, .t 31], none, []⟩,
  ⟨some 33, .call 27 [.t 27, .t 29, .t 32], none, []⟩,
  ⟨some 26, .mv (.t 33), none, []⟩,
  ⟨some 34, .ext (.t 26) 0, none, []⟩,
  ⟨some 35, .ext (.t 26) 1, none, []⟩,
  ⟨some 36, .ext (.t 26) 2, none, []⟩,
  ⟨some 12, .mv (.t 34), none, []⟩,
  ⟨some 13, .mv (.t 35), none, []⟩,
  ⟨some 14, .mv (.t 36), none, []⟩] [4, 9, 10, 11, 12, 13, 14]
theorem r30_2 : type_of% (@rr _ _ c30_2.eq_1) := rr c30_2.eq_1
def c30_3 : ACode := .ops [⟨some 37, .load 17 true (.t 4), none, [4]⟩,
  ⟨some 38, .call 56 [.t 37], none, []⟩,
  ⟨some 39, .un .not (.t 38), none, []⟩,
  ⟨some 40, .mv (.t 39), none, []⟩,
  ⟨some 41, .mv (.t 11), some (40, false), []⟩,
  ⟨some 42, .un .not (.t 41), some (40, false), []⟩,
  ⟨some 43, .pick (.t 40) (.c (.bool true)) (.t 42), none, []⟩,
  ⟨some 44, .mv (.t 43), none, []⟩,
  ⟨some 45, .mv (.t 14), some (44, false), []⟩,
  ⟨some 46, .un .not (.t 45), some (44, false), []⟩,
  ⟨some 47, .pick (.t 44) (.c (.bool true)) (.t 46), none, []⟩] [9, 10, 12, 13, 47]
theorem r30_3 : type_of% (@rr _ _ c30_3.eq_1) := rr c30_3.eq_1
def c30_4 : ACode := .ops [⟨some 6, .mv (.c (.int .i64 0)), none, []⟩,
  ⟨some 7, .mv (.c (.int .i64 0)), none, []⟩,
  ⟨some 8, .mv (.c (.bool false)), none, []⟩] [6, 7, 8]
theorem r30_4 : type_of% (@rr _ _ c30_4.eq_1) := rr c30_4.eq_1
def c30_5 : ACode := .seq c30_4 .ret
theorem r30_5 : type_of% (@rr _ _ c30_5.eq_1) := rr c30_5.eq_1
def c30_6 : ACode := .cond (.t 47) c30_5 .skip
theorem r30_6 : type_of% (@rr _ _ c30_6.eq_1) := rr c30_6.eq_1
def c30_7 : ACode := .seq c30_3 c30_6
theorem r30_7 : type_of% (@rr _ _ c30_7.eq_1) := rr c30_7.eq_1
def c30_8 : ACode := .ops [⟨some 48, .mv (.t 12), none, []⟩,
  ⟨some 49, .mv (.t 10), none, []⟩,
  ⟨some 50, .bin .sub (.t 48) (.t 49), none, []⟩,
  ⟨some 51, .mv (.t 13), none, []⟩,
  ⟨some 52, .mv (.t 9), none, []⟩,
  ⟨some 53, .bin .sub (.t 51) (.t 52), none, []⟩,
  ⟨some 6, .mv (.t 50), none, []⟩,
  ⟨some 7, .mv (.t 53), none, []⟩,
  ⟨some 8, .mv (.c (.bool true)), none, []⟩] [6, 7, 8]
theorem r30_8 : type_of% (@rr _ _ c30_8.eq_1) := rr c30_8.eq_1
def c30_9 : ACode := .seq c30_8 .ret
theorem r30_9 : type_of% (@rr _ _ c30_9.eq_1) := rr c30_9.eq_1
def c30_10 : ACode := .seq c30_7 c30_9
theorem r30_10 : type_of% (@rr _ _ c30_10.eq_1) := rr c30_10.eq_1
def c30_11 : ACode := .seq c30_2 c30_10
theorem r30_11 : type_of% (@rr _ _ c30_11.eq_1) := rr c30_11.eq_1
def c30_12 : ACode := .seq c30_1 c30_11
theorem r30_12 : type_of% (@rr _ _ c30_12.eq_1) := rr c30_12.eq_1
def c30_13 : ACode := .seq c30_0 c30_12
theorem r30_13 : type_of% (@rr _ _ c30_13.eq_1) := rr c30_13.eq_1
def a30 : AFun := ⟨3, 54, c30_13, [.t 6, .t 7, .t 8]⟩
attribute [simp] r30_0 r30_1 r30_2 r30_3 r30_4 r30_5 r30_6 r30_7 r30_8 r30_9 r30_10 r30_11 r30_12 r30_13
theorem m30 : mFun Tryz.prog Tryz.f30 a30 = true := by decide +kernel
theorem runs_pairs (q : Query) (c : Bool) (h : some (paired q) = some c) : Runs (tbl []) a56 [Arg.enc q] (Arg.enc c) := by
  cases h
  refine ⟨rfl, fun g => run_def ?_⟩
  unfold a56
  by_cases k1 : q.kind = 3
  case neg => simp -implicitDefEqProofs [paired, k1]
  by_cases k2 : 0 ≤ q.feature
  case neg => simp -implicitDefEqProofs [paired, k1, k2]
  simp -implicitDefEqProofs [paired, k1, k2]
theorem c_pairs : Contract Tryz.prog 56 (sp1 fun q => some (paired q)) :=
  contract_of_runs mixed tbl_nil Tryz.func56 m56 (sp1_runs runs_pairs)
def firstB (q : Query) (b : Box) : Box := if paired q then { b with s4 := ⟨0, 0⟩ } else b
def secondB (q : Query) (b : Box) : Box := if paired q then { b.set q.feature b.s4 with s4 := ⟨0, 0⟩ } else b
def orderedB (q : Query) (b : Box) : Bool := paired q && !b.empty && decide ((b.get q.feature).lo < b.s4.hi)
theorem runs_First (q : Query) (b : Box) (c : Box) (h : some (firstB q b) = some c) : Runs (tbl [(56, sp1 fun q => some (paired q))]) a57 [Arg.enc q, Arg.enc b] (Arg.enc c) := by
  cases h
  refine ⟨rfl, fun g => run_def ?_⟩
  unfold a57
  cases hp : paired q <;> simp -implicitDefEqProofs [firstB, hp]
theorem c_First : Contract Tryz.prog 57 (sp2 fun q b => some (firstB q b)) :=
  contract_of_runs mixed (tbl_cons c_pairs tbl_nil) Tryz.func57 m57 (sp2_runs runs_First)
theorem runs_cSecond (q : Query) (b : Box) (c : Box) (h : some (secondB q b) = some c) : Runs (tbl [(56, sp1 fun q => some (paired q))]) a58 [Arg.enc q, Arg.enc b] (Arg.enc c) := by
  cases h
  refine ⟨rfl, fun g => run_def ?_⟩
  unfold a58
  cases hp : paired q
  · simp -implicitDefEqProofs [secondB, hp]
  · have hf := paired_feature hp
    obtain ⟨kind, cls, region, lo, hi, feature, falls, budget⟩ := q
    simp only at hf
    rcases hf with rfl | rfl | rfl | rfl <;> simp -implicitDefEqProofs [secondB, hp, Box.set]
theorem c_cSecond : Contract Tryz.prog 58 (sp2 fun q b => some (secondB q b)) :=
  contract_of_runs mixed (tbl_cons c_pairs tbl_nil) Tryz.func58 m58 (sp2_runs runs_cSecond)
theorem runs_Ordered (q : Query) (b : Box) (c : Bool) (h : some (orderedB q b) = some c) : Runs (tbl [(56, sp1 fun q => some (paired q)), (26, sp1 fun (b : Box) => some b.empty)]) a29 [Arg.enc q, Arg.enc b] (Arg.enc c) := by
  cases h
  refine ⟨rfl, fun g => run_def ?_⟩
  unfold a29
  cases hp : paired q
  · simp -implicitDefEqProofs [orderedB, hp]
  · have hf := paired_feature hp
    cases he : b.empty
    case true => simp -implicitDefEqProofs [orderedB, hp, he]
    obtain ⟨kind, cls, region, lo, hi, feature, falls, budget⟩ := q
    simp only at hf
    rcases hf with rfl | rfl | rfl | rfl <;> simp -implicitDefEqProofs [orderedB, hp, he, Box.get]
theorem c_Ordered : Contract Tryz.prog 29 (sp2 fun q b => some (orderedB q b)) :=
  contract_of_runs mixed (tbl_cons c_pairs (tbl_cons c_bEmpty tbl_nil)) Tryz.func29 m29 (sp2_runs runs_Ordered)
def changeM (m : Model) (q : Query) (b : Box) : Tri Int Int Bool :=
  if paired q && (boundM m q.cls (firstB q b)).c && (boundM m q.cls (secondB q b)).c then
    ⟨(boundM m q.cls (secondB q b)).a - (boundM m q.cls (firstB q b)).b, (boundM m q.cls (secondB q b)).b - (boundM m q.cls (firstB q b)).a, true⟩ else ⟨0, 0, false⟩
theorem boundM_le {m : Model} (hm : RM m) (c : Int) (b : Box) : -19327352832 ≤ (boundM m c b).a ∧ (boundM m c b).a ≤ 19327352823 ∧ -19327352832 ≤ (boundM m c b).b ∧ (boundM m c b).b ≤ 19327352823 := by
  unfold boundM
  split
  · simp
  · rename_i h
    have he : b.empty = false := by cases he : b.empty <;> simp [he] at h ⊢
    have := boundP_le hm c he
    simp only
    omega
theorem okB_first {b : Box} (h : okB b) (q : Query) : okB (firstB q b) ∧ okB (secondB q b) := by
  have z : okS64 ⟨0, 0⟩ := by unfold okS64 ok64; simp only; omega
  unfold firstB secondB
  cases paired q
  · exact ⟨h, h⟩
  · have h2 := okB_set h q.feature h.2.2.2.2
    exact ⟨⟨h.1, h.2.1, h.2.2.1, h.2.2.2.1, z⟩, h2.1, h2.2.1, h2.2.2.1, h2.2.2.2.1, z⟩
noncomputable def ChangeC (m : Model) (q : Query) (b : Box) : Option (Tri Int Int Bool) := Part (RM m ∧ okB b) (changeM m q b)
set_option maxHeartbeats 1000000 in
theorem runs_Change (m : Model) (q : Query) (b : Box) (c : Tri Int Int Bool) (h : ChangeC m q b = some c) : Runs (tbl [(57, sp2 fun q b => some (firstB q b)), (58, sp2 fun q b => some (secondB q b)), (27, sp3 BoundS), (56, sp1 fun q => some (paired q))]) a30 [Arg.enc m, Arg.enc q, Arg.enc b] (Arg.enc c) := by
  obtain ⟨⟨hm, hb⟩, rfl⟩ := part_some h
  clear h
  refine ⟨rfl, fun g => run_def ?_⟩
  unfold a30
  have hk := okB_first hb q
  have s1 : BoundS m q.cls (firstB q b) = some (boundM m q.cls (firstB q b)) := part_of ⟨hm, hk.1⟩ _
  have s2 : BoundS m q.cls (secondB q b) = some (boundM m q.cls (secondB q b)) := part_of ⟨hm, hk.2⟩ _
  have l1 := boundM_le hm q.cls (firstB q b)
  have l2 := boundM_le hm q.cls (secondB q b)
  have w1 : IntKind.i64.wrap ((boundM m q.cls (secondB q b)).a - (boundM m q.cls (firstB q b)).b) = (boundM m q.cls (secondB q b)).a - (boundM m q.cls (firstB q b)).b := wrap64 (by omega) (by omega)
  have w2 : IntKind.i64.wrap ((boundM m q.cls (secondB q b)).b - (boundM m q.cls (firstB q b)).a) = (boundM m q.cls (secondB q b)).b - (boundM m q.cls (firstB q b)).a := wrap64 (by omega) (by omega)
  cases hp : paired q
  case false => simp -implicitDefEqProofs [changeM, hp, s1, s2]
  cases h1 : (boundM m q.cls (firstB q b)).c
  case false => simp -implicitDefEqProofs [changeM, hp, s1, s2, h1]
  cases h2 : (boundM m q.cls (secondB q b)).c <;> simp -implicitDefEqProofs [changeM, hp, s1, s2, h1, h2, w1, w2]
theorem c_Change : Contract Tryz.prog 30 (sp3 ChangeC) :=
  contract_of_runs mixed (tbl_cons c_First (tbl_cons c_cSecond (tbl_cons c_bSum (tbl_cons c_pairs tbl_nil)))) Tryz.func30 m30 (sp3_runs runs_Change)
end Go.Co
/- CO: what changes of pairs are. -/
namespace Go.Co
open Go.Am Go.Proofs
set_option linter.unusedSimpArgs false
set_option linter.unusedVariables false
theorem first_in {q : Query} (hp : paired q = true) {b : Box} {p : Point} {t : Int} : InB (firstB q b) p t ↔ (t = 0 ∧ InS b.s0 p.p0 ∧ InS b.s1 p.p1 ∧ InS b.s2 p.p2 ∧ InS b.s3 p.p3) := by
  unfold firstB InB
  rw [if_pos hp]
  simp only
  constructor
  · rintro ⟨h0, h1, h2, h3, h4⟩
    exact ⟨by unfold InS at h4; simp only at h4; omega, h0, h1, h2, h3⟩
  · rintro ⟨rfl, h0, h1, h2, h3⟩
    exact ⟨h0, h1, h2, h3, by unfold InS; simp⟩
theorem second_in {q : Query} (hp : paired q = true) {b : Box} {p : Point} {t : Int} (h : InB b p t) : InB (secondB q b) (p.set q.feature t) 0 := by
  have hf := paired_feature hp
  obtain ⟨h0, h1, h2, h3, h4⟩ := h
  have z : InS ⟨0, 0⟩ 0 := by unfold InS; simp
  unfold secondB
  rw [if_pos hp]
  rcases hf with hf | hf | hf | hf <;> rw [hf] <;> simp only [Box.set, Point.set, InB, if_true, Int.reduceEq, if_false, reduceIte]
  · exact ⟨h4, h1, h2, h3, z⟩
  · exact ⟨h0, h4, h2, h3, z⟩
  · exact ⟨h0, h1, h4, h3, z⟩
  · exact ⟨h0, h1, h2, h4, z⟩
theorem first_some {q : Query} (hp : paired q = true) {b : Box} (he : b.empty = false) : (firstB q b).empty = false := by
  obtain ⟨p, t, h0, h1, h2, h3, h4⟩ := empty_false.1 he
  exact empty_false.2 ⟨p, 0, (first_in hp).2 ⟨rfl, h0, h1, h2, h3⟩⟩
theorem second_some {q : Query} (hp : paired q = true) {b : Box} (he : b.empty = false) : (secondB q b).empty = false := by
  obtain ⟨p, t, h⟩ := empty_false.1 he
  exact empty_false.2 ⟨_, _, second_in hp h⟩
theorem change_some {m : Model} {q : Query} (hp : paired q = true) (h0 : 0 ≤ q.cls) (h1 : q.cls < m.classes) {b : Box} (he : b.empty = false) :
    changeM m q b = ⟨(boundP m q.cls (secondB q b)).1 - (boundP m q.cls (firstB q b)).2, (boundP m q.cls (secondB q b)).2 - (boundP m q.cls (firstB q b)).1, true⟩ := by
  have e1 := first_some hp he
  have e2 := second_some hp he
  have a1 : boundM m q.cls (firstB q b) = ⟨(boundP m q.cls (firstB q b)).1, (boundP m q.cls (firstB q b)).2, true⟩ := by unfold boundM; rw [if_neg (by simp [e1]; omega)]
  have a2 : boundM m q.cls (secondB q b) = ⟨(boundP m q.cls (secondB q b)).1, (boundP m q.cls (secondB q b)).2, true⟩ := by unfold boundM; rw [if_neg (by simp [e2]; omega)]
  unfold changeM
  rw [a1, a2, hp]
  rfl
end Go.Co
/- CO: do sums show what is asked within a box? where is it cut? -/
namespace Go.Co
open Go.Am Go.Proofs
set_option linter.unusedSimpArgs false
set_option linter.unusedVariables false
attribute [-simp] Go.Am.eff_gcall
def c9_0 : ACode := .ops [⟨some 3, .box (.t 0) 6, none, []⟩,
  ⟨some 4, .box (.t 1) 17, none, []⟩,
  ⟨some 5, .box (.t 2) 10, none, []⟩,
  ⟨some 6, .mv (.c (.bool false)), none, []⟩] [3, 4, 5]
theorem r9_0 : type_of% (@rr _ _ c9_0.eq_1) := rr c9_0.eq_1
def c9_1 : ACode := .ops [⟨some 15, .load 6 true (.t 3), none, [3]⟩,
  ⟨some 16, .load 17 true (.t 4), none, [4]⟩,
  ⟨some 17, .call 25 [.t 15, .t 16], none, []⟩,
  ⟨some 18, .un .not (.t 17), none, []⟩] [3, 4, 5, 18]
theorem r9_1 : type_of% (@rr _ _ c9_1.eq_1) := rr c9_1.eq_1
def c9_2 : ACode := .ops [⟨some 6, .mv (.c (.bool false)), none, []⟩] [6]
theorem r9_2 : type_of% (@rr _ _ c9_2.eq_1) := rr c9_2.eq_1
def c9_3 : ACode := .seq c9_2 .ret
theorem r9_3 : type_of% (@rr _ _ c9_3.eq_1) := rr c9_3.eq_1
def c9_4 : ACode := .cond (.t 18) c9_3 .skip
theorem r9_4 : type_of% (@rr _ _ c9_4.eq_1) := rr c9_4.eq_1
def c9_5 : ACode := .seq c9_1 c9_4
theorem r9_5 : type_of% (@rr _ _ c9_5.eq_1) := rr c9_5.eq_1
def c9_6 : ACode := .ops [⟨some 19, .load 10 true (.t 5), none, [5]⟩,
  ⟨some 20, .call 26 [.t 19], none, []⟩] [3, 4, 5, 20]
theorem r9_6 : type_of% (@rr _ _ c9_6.eq_1) := rr c9_6.eq_1
def c9_7 : ACode := .ops [⟨some 6, .mv (.c (.bool true)), none, []⟩] [6]
theorem r9_7 : type_of% (@rr _ _ c9_7.eq_1) := rr c9_7.eq_1
def c9_8 : ACode := .seq c9_7 .ret
theorem r9_8 : type_of% (@rr _ _ c9_8.eq_1) := rr c9_8.eq_1
def c9_9 : ACode := .cond (.t 20) c9_8 .skip
theorem r9_9 : type_of% (@rr _ _ c9_9.eq_1) := rr c9_9.eq_1
def c9_10 : ACode := .seq c9_6 c9_9
theorem r9_10 : type_of% (@rr _ _ c9_10.eq_1) := rr c9_10.eq_1
def c9_11 : ACode := .ops [⟨some 21, .fad (.t 4) 0, none, [4]⟩,
  ⟨some 22, .load 1 false (.t 21), none, [4]⟩] [3, 4, 5, 22]
theorem r9_11 : type_of% (@rr _ _ c9_11.eq_1) := rr c9_11.eq_1
def c9_12 : ACode := .ops [⟨some 24, .bin .eql (.t 22) (.c (.int .i64 1)), none, []⟩,
  ⟨some 23, .mv (.t 24), none, []⟩] [3, 4, 5, 22, 23]
theorem r9_12 : type_of% (@rr _ _ c9_12.eq_1) := rr c9_12.eq_1
def c9_13 : ACode := .ops [⟨some 26, .load 6 true (.t 3), none, [3]⟩,
  ⟨some 27, .fad (.t 4) 1, none, [4]⟩,
  ⟨some 28, .load 1 false (.t 27), none, [4]⟩,
  ⟨some 29, .load 10 true (.t 5), none, [5]⟩,
  ⟨some 30, .call 27 [.t 26, .t 28, .t 29], none, []⟩,
  ⟨some 25, .mv (.t 30), none, []⟩,
  ⟨some 31, .ext (.t 25) 0, none, []⟩,
  ⟨some 32, .ext (.t 25) 1, none, []⟩,
  ⟨some 33, .ext (.t 25) 2, none, []⟩,
  ⟨some 7, .mv (.t 31), none, []⟩,
  ⟨some 8, .mv (.t 32), none, []⟩,
  ⟨some 9, .mv (.t 33), none, []⟩] [4, 7, 8, 9]
theorem r9_13 : type_of% (@rr _ _ c9_13.eq_1) := rr c9_13.eq_1
def c9_14 : ACode := .ops [⟨some 34, .mv (.t 9), none, []⟩,
  ⟨some 35, .mv (.t 34), none, []⟩,
  ⟨some 36, .fad (.t 4) 12, some (35, true), [4]⟩,
  ⟨some 37, .load 1 false (.t 36), some (35, true), [4]⟩,
  ⟨some 38, .mv (.t 7), some (35, true), []⟩,
  ⟨some 39, .bin .leq (.t 37) (.t 38), some (35, true), []⟩,
  ⟨some 40, .pick (.t 35) (.t 39) (.c (.bool false)), none, []⟩,
  ⟨some 41, .mv (.t 40), none, []⟩,
  ⟨some 42, .mv (.t 8), some (41, true), []⟩,
  ⟨some 43, .fad (.t 4) 13, some (41, true), [4]⟩,
  ⟨some 44, .load 1 false (.t 43), some (41, true), [4]⟩,
  ⟨some 45, .bin .leq (.t 42) (.t 44), some (41, true), []⟩,
  ⟨some 46, .pick (.t 41) (.t 45) (.c (.bool false)), none, []⟩,
  ⟨some 6, .mv (.t 46), none, []⟩] [6]
theorem r9_14 : type_of% (@rr _ _ c9_14.eq_1) := rr c9_14.eq_1
def c9_15 : ACode := .seq c9_14 .ret
theorem r9_15 : type_of% (@rr _ _ c9_15.eq_1) := rr c9_15.eq_1
def c9_16 : ACode := .seq c9_13 c9_15
theorem r9_16 : type_of% (@rr _ _ c9_16.eq_1) := rr c9_16.eq_1
def c9_17 : ACode := .ops [⟨some 48, .bin .eql (.t 22) (.c (.int .i64 2)), none, []⟩,
  ⟨some 47, .mv (.t 48), none, []⟩] [3, 4, 5, 47]
theorem r9_17 : type_of% (@rr _ _ c9_17.eq_1) := rr c9_17.eq_1
def c9_18 : ACode := .ops [⟨some 50, .load 6 true (.t 3), none, [3]⟩,
  ⟨some 51, .fad (.t 4) 1, none, [4]⟩,
  ⟨some 52, .load 1 false (.t 51), none, [4]⟩,
  ⟨some 53, .load 10 true (.t 5), none, [5]⟩,
  ⟨some 54, .call 28 [.t 50, .t 52, .t 53], none, []⟩,
  ⟨some 49, .mv (.t 54), none, []⟩,
  ⟨some 55, .ext (.t 49) 0, none, []⟩,
  ⟨some 56, .ext (.t 49) 1, none, []⟩,
  ⟨some 10, .mv (.t 55), none, []⟩,
  ⟨some 11, .mv (.t 56), none, []⟩] [10, 11]
theorem r9_18 : type_of% (@rr _ _ c9_18.eq_1) := rr c9_18.eq_1
def c9_19 : ACode := .ops [⟨some 57, .mv (.t 11), none, []⟩,
  ⟨some 58, .mv (.t 57), none, []⟩,
  ⟨some 59, .mv (.t 10), some (58, true), []⟩,
  ⟨some 60, .bin .gtr (.t 59) (.c (.int .i64 0)), some (58, true), []⟩,
  ⟨some 61, .pick (.t 58) (.t 60) (.c (.bool false)), none, []⟩,
  ⟨some 6, .mv (.t 61), none, []⟩] [6]
theorem r9_19 : type_of% (@rr _ _ c9_19.eq_1) := rr c9_19.eq_1
def c9_20 : ACode := .seq c9_19 .ret
theorem r9_20 : type_of% (@rr _ _ c9_20.eq_1) := rr c9_20.eq_1
def c9_21 : ACode := .seq c9_18 c9_20
theorem r9_21 : type_of% (@rr _ _ c9_21.eq_1) := rr c9_21.eq_1
def c9_22 : ACode := .cond (.t 47) c9_21 .skip
theorem r9_22 : type_of% (@rr _ _ c9_22.eq_1) := rr c9_22.eq_1
def c9_23 : ACode := .seq c9_17 c9_22
theorem r9_23 : type_of% (@rr _ _ c9_23.eq_1) := rr c9_23.eq_1
def c9_24 : ACode := .cond (.t 23) c9_16 c9_23
theorem r9_24 : type_of% (@rr _ _ c9_24.eq_1) := rr c9_24.eq_1
def c9_25 : ACode := .seq c9_12 c9_24
theorem r9_25 : type_of% (@rr _ _ c9_25.eq_1) := rr c9_25.eq_1
def c9_26 : ACode := .block 0 c9_25
theorem r9_26 : type_of% (@rr _ _ c9_26.eq_1) := rr c9_26.eq_1
def c9_27 : ACode := .seq c9_11 c9_26
theorem r9_27 : type_of% (@rr _ _ c9_27.eq_1) := rr c9_27.eq_1
def c9_28 : ACode := .ops [⟨some 62, .load 17 true (.t 4), none, [4]⟩,
  ⟨some 63, .load 10 true (.t 5), none, [5]⟩,
  ⟨some 64, .call 29 [.t 62, .t 63], none, []⟩,
  ⟨some 65, .un .not (.t 64), none, []⟩] [3, 4, 5, 65]
theorem r9_28 : type_of% (@rr _ _ c9_28.eq_1) := rr c9_28.eq_1
def c9_29 : ACode := .ops [⟨some 6, .mv (.c (.bool true)), none, []⟩] [6]
theorem r9_29 : type_of% (@rr _ _ c9_29.eq_1) := rr c9_29.eq_1
def c9_30 : ACode := .seq c9_29 .ret
theorem r9_30 : type_of% (@rr _ _ c9_30.eq_1) := rr c9_30.eq_1
def c9_31 : ACode := .cond (.t 65) c9_30 .skip
theorem r9_31 : type_of% (@rr _ _ c9_31.eq_1) := rr c9_31.eq_1
def c9_32 : ACode := .seq c9_28 c9_31
theorem r9_32 : type_of% (@rr _ _ c9_32.eq_1) := rr c9_32.eq_1
def c9_33 : ACode := .ops [⟨some 67, .load 6 true (.t 3), none, [3]⟩,
  ⟨some 68, .load 17 true (.t 4), none, [4]⟩,
  ⟨some 69, .load 10 true (.t 5), none, [5]⟩,
  ⟨some 70, .call 30 [.t 67, .t 68, .t 69], none, []⟩,
  ⟨some 66, .mv (.t 70), none, []⟩,
  ⟨some 71, .ext (.t 66) 0, none, []⟩,
  ⟨some 72, .ext (.t 66) 1, none, []⟩,
  ⟨some 73, .ext (.t 66) 2, none, []⟩,
  ⟨some 12, .mv (.t 71), none, []⟩,
  ⟨some 13, .mv (.t 72), none, []⟩,
  ⟨some 14, .mv (.t 73), none, []⟩] [4, 12, 13, 14]
theorem r9_33 : type_of% (@rr _ _ c9_33.eq_1) := rr c9_33.eq_1
def c9_34 : ACode := .ops [⟨some 74, .fad (.t 4) 15, none, [4]⟩,
  ⟨some 75, .load 1 false (.t 74), none, [4]⟩] [12, 13, 14, 75]
theorem r9_34 : type_of% (@rr _ _ c9_34.eq_1) := rr c9_34.eq_1
def c9_35 : ACode := .ops [⟨some 76, .mv (.t 14), none, []⟩,
  ⟨some 77, .mv (.t 76), none, []⟩,
  ⟨some 78, .mv (.t 13), some (77, true), []⟩,
  ⟨some 79, .bin .leq (.t 78) (.c (.int .i64 0)), some (77, true), []⟩,
  ⟨some 80, .pick (.t 77) (.t 79) (.c (.bool false)), none, []⟩,
  ⟨some 6, .mv (.t 80), none, []⟩] [6]
theorem r9_35 : type_of% (@rr _ _ c9_35.eq_1) := rr c9_35.eq_1
def c9_36 : ACode := .seq c9_35 .ret
theorem r9_36 : type_of% (@rr _ _ c9_36.eq_1) := rr c9_36.eq_1
def c9_37 : ACode := .cond (.t 75) c9_36 .skip
theorem r9_37 : type_of% (@rr _ _ c9_37.eq_1) := rr c9_37.eq_1
def c9_38 : ACode := .seq c9_34 c9_37
theorem r9_38 : type_of% (@rr _ _ c9_38.eq_1) := rr c9_38.eq_1
def c9_39 : ACode := .ops [⟨some 81, .mv (.t 14), none, []⟩,
  ⟨some 82, .mv (.t 81), none, []⟩,
  ⟨some 83, .mv (.t 12), some (82, true), []⟩,
  ⟨some 84, .bin .geq (.t 83) (.c (.int .i64 0)), some (82, true), []⟩,
  ⟨some 85, .pick (.t 82) (.t 84) (.c (.bool false)), none, []⟩,
  ⟨some 6, .mv (.t 85), none, []⟩] [6]
theorem r9_39 : type_of% (@rr _ _ c9_39.eq_1) := rr c9_39.eq_1
def c9_40 : ACode := .seq c9_39 .ret
theorem r9_40 : type_of% (@rr _ _ c9_40.eq_1) := rr c9_40.eq_1
def c9_41 : ACode := .seq c9_38 c9_40
theorem r9_41 : type_of% (@rr _ _ c9_41.eq_1) := rr c9_41.eq_1
def c9_42 : ACode := .seq c9_33 c9_41
theorem r9_42 : type_of% (@rr _ _ c9_42.eq_1) := rr c9_42.eq_1
def c9_43 : ACode := .seq c9_32 c9_42
theorem r9_43 : type_of% (@rr _ _ c9_43.eq_1) := rr c9_43.eq_1
def c9_44 : ACode := .seq c9_27 c9_43
theorem r9_44 : type_of% (@rr _ _ c9_44.eq_1) := rr c9_44.eq_1
def c9_45 : ACode := .seq c9_10 c9_44
theorem r9_45 : type_of% (@rr _ _ c9_45.eq_1) := rr c9_45.eq_1
def c9_46 : ACode := .seq c9_5 c9_45
theorem r9_46 : type_of% (@rr _ _ c9_46.eq_1) := rr c9_46.eq_1
def c9_47 : ACode := .seq c9_0 c9_46
theorem r9_47 : type_of% (@rr _ _ c9_47.eq_1) := rr c9_47.eq_1
def a9 : AFun := ⟨3, 86, c9_47, [.t 6]⟩
attribute [simp] r9_0 r9_1 r9_2 r9_3 r9_4 r9_5 r9_6 r9_7 r9_8 r9_9 r9_10 r9_11 r9_12 r9_13 r9_14 r9_15 r9_16 r9_17 r9_18 r9_19 r9_20 r9_21 r9_22 r9_23 r9_24 r9_25 r9_26 r9_27 r9_28 r9_29 r9_30 r9_31 r9_32 r9_33 r9_34 r9_35 r9_36 r9_37 r9_38 r9_39 r9_40 r9_41 r9_42 r9_43 r9_44 r9_45 r9_46 r9_47
theorem m9 : mFun Tryz.prog Tryz.f9 a9 = true := by decide +kernel
def c12_0 : ACode := .ops [⟨some 3, .box (.t 0) 6, none, []⟩,
  ⟨some 4, .box (.t 1) 17, none, []⟩,
  ⟨some 5, .box (.t 2) 10, none, []⟩,
  ⟨some 6, .mv (.c (.int .i64 0)), none, []⟩,
  ⟨some 7, .mv (.c (.int .i64 0)), none, []⟩,
  ⟨some 8, .mv (.c (.bool false)), none, []⟩] [3, 4, 5]
theorem r12_0 : type_of% (@rr _ _ c12_0.eq_1) := rr c12_0.eq_1
def c12_1 : ACode := .ops [⟨some 11, .mv (.c (.int .i64 0)), none, []⟩] [3, 4, 5, 11]
theorem r12_1 : type_of% (@rr _ _ c12_1.eq_1) := rr c12_1.eq_1
def c12_2 : ACode := .ops [⟨some 12, .bin .lss (.t 11) (.c (.int .i64 5)), none, []⟩] [3, 4, 5, 11, 12]
theorem r12_2 : type_of% (@rr _ _ c12_2.eq_1) := rr c12_2.eq_1
def c12_3 : ACode := .cond (.t 12) .skip (.exit 0)
theorem r12_3 : type_of% (@rr _ _ c12_3.eq_1) := rr c12_3.eq_1
def c12_4 : ACode := .ops [⟨some 13, .mv (.t 11), none, []⟩,
  ⟨some 9, .mv (.t 13), none, []⟩] [3, 4, 5, 9, 11]
theorem r12_4 : type_of% (@rr _ _ c12_4.eq_1) := rr c12_4.eq_1
def c12_5 : ACode := .ops [⟨some 14, .load 6 true (.t 3), none, [3]⟩,
  ⟨some 15, .load 17 true (.t 4), none, [4]⟩,
  ⟨some 16, .load 10 true (.t 5), none, [5]⟩,
  ⟨some 17, .mv (.t 9), none, []⟩,
  ⟨some 18, .call 37 [.t 14, .t 15, .t 16, .t 17], none, []⟩,
  ⟨some 10, .mv (.t 18), none, []⟩] [3, 4, 5, 9, 10, 11]
theorem r12_5 : type_of% (@rr _ _ c12_5.eq_1) := rr c12_5.eq_1
def c12_6 : ACode := .ops [⟨some 19, .mv (.t 10), none, []⟩,
  ⟨some 20, .len (.t 19), none, []⟩,
  ⟨some 21, .bin .gtr (.t 20) (.c (.int .i64 0)), none, []⟩] [3, 4, 5, 9, 10, 11, 21]
theorem r12_6 : type_of% (@rr _ _ c12_6.eq_1) := rr c12_6.eq_1
def c12_7 : ACode := .ops [⟨some 22, .mv (.t 9), none, []⟩,
  ⟨some 23, .mv (.t 10), none, []⟩,
  ⟨some 24, .mv (.t 10), none, []⟩,
  ⟨some 25, .len (.t 24), none, []⟩,
  ⟨some 26, .bin .sub (.t 25) (.c (.int .i64 1)), none, []⟩,
  ⟨some 27, .bin .quo (.t 26) (.c (.int .i64 2)), none, []⟩,
  ⟨some 28, .ias (.t 23) (.t 27) 1, none, []⟩,
  ⟨some 29, .load 1 false (.t 28), none, []⟩,
  ⟨some 6, .mv (.t 22), none, []⟩,
  ⟨some 7, .mv (.t 29), none, []⟩,
  ⟨some 8, .mv (.c (.bool true)), none, []⟩] [6, 7, 8]
theorem r12_7 : type_of% (@rr _ _ c12_7.eq_1) := rr c12_7.eq_1
def c12_8 : ACode := .seq c12_7 .ret
theorem r12_8 : type_of% (@rr _ _ c12_8.eq_1) := rr c12_8.eq_1
def c12_9 : ACode := .cond (.t 21) c12_8 .skip
theorem r12_9 : type_of% (@rr _ _ c12_9.eq_1) := rr c12_9.eq_1
def c12_10 : ACode := .seq c12_6 c12_9
theorem r12_10 : type_of% (@rr _ _ c12_10.eq_1) := rr c12_10.eq_1
def c12_11 : ACode := .seq c12_5 c12_10
theorem r12_11 : type_of% (@rr _ _ c12_11.eq_1) := rr c12_11.eq_1
def c12_12 : ACode := .seq c12_4 c12_11
theorem r12_12 : type_of% (@rr _ _ c12_12.eq_1) := rr c12_12.eq_1
def c12_13 : ACode := .block 1 c12_12
theorem r12_13 : type_of% (@rr _ _ c12_13.eq_1) := rr c12_13.eq_1
def c12_14 : ACode := .ops [⟨some 30, .bin .add (.t 11) (.c (.int .i64 1)), none, []⟩,
  ⟨some 11, .mv (.t 30), none, []⟩] [3, 4, 5, 11]
theorem r12_14 : type_of% (@rr _ _ c12_14.eq_1) := rr c12_14.eq_1
def c12_15 : ACode := .seq c12_13 c12_14
theorem r12_15 : type_of% (@rr _ _ c12_15.eq_1) := rr c12_15.eq_1
def c12_16 : ACode := .seq c12_3 c12_15
theorem r12_16 : type_of% (@rr _ _ c12_16.eq_1) := rr c12_16.eq_1
def c12_17 : ACode := .seq c12_2 c12_16
theorem r12_17 : type_of% (@rr _ _ c12_17.eq_1) := rr c12_17.eq_1
def c12_18 : ACode := .keep [3, 4, 5, 11] [3, 4, 5] c12_17
theorem r12_18 : type_of% (@rr _ _ c12_18.eq_1) := rr c12_18.eq_1
def c12_19 : ACode := .loop c12_18
theorem r12_19 : type_of% (@rr _ _ c12_19.eq_1) := rr c12_19.eq_1
def c12_20 : ACode := .block 0 c12_19
theorem r12_20 : type_of% (@rr _ _ c12_20.eq_1) := rr c12_20.eq_1
def c12_21 : ACode := .seq c12_1 c12_20
theorem r12_21 : type_of% (@rr _ _ c12_21.eq_1) := rr c12_21.eq_1
def c12_22 : ACode := .ops [⟨some 6, .mv (.c (.int .i64 0)), none, []⟩,
  ⟨some 7, .mv (.c (.int .i64 0)), none, []⟩,
  ⟨some 8, .mv (.c (.bool false)), none, []⟩] [6, 7, 8]
theorem r12_22 : type_of% (@rr _ _ c12_22.eq_1) := rr c12_22.eq_1
def c12_23 : ACode := .seq c12_22 .ret
theorem r12_23 : type_of% (@rr _ _ c12_23.eq_1) := rr c12_23.eq_1
def c12_24 : ACode := .seq c12_21 c12_23
theorem r12_24 : type_of% (@rr _ _ c12_24.eq_1) := rr c12_24.eq_1
def c12_25 : ACode := .seq c12_0 c12_24
theorem r12_25 : type_of% (@rr _ _ c12_25.eq_1) := rr c12_25.eq_1
def a12 : AFun := ⟨3, 31, c12_25, [.t 6, .t 7, .t 8]⟩
attribute [simp] r12_0 r12_1 r12_2 r12_3 r12_4 r12_5 r12_6 r12_7 r12_8 r12_9 r12_10 r12_11 r12_12 r12_13 r12_14 r12_15 r12_16 r12_17 r12_18 r12_19 r12_20 r12_21 r12_22 r12_23 r12_24 r12_25
theorem m12 : mFun Tryz.prog Tryz.f12 a12 = true := by decide +kernel
def c14_0 : ACode := .ops [⟨some 1, .box (.t 0) 10, none, []⟩,
  ⟨some 2, .alloc [.int .i64 0, .int .i64 0, .int .i64 0, .int .i64 0], none, []⟩,
  ⟨some 3, .mv (.c (.int .i64 0)), none, []⟩] [1, 2]
theorem r14_0 : type_of% (@rr _ _ c14_0.eq_1) := rr c14_0.eq_1
def c14_1 : ACode := .ops [⟨some 4, .load 10 true (.t 1), none, [1]⟩,
  ⟨some 5, .call 39 [.t 4], none, []⟩,
  ⟨some 6, .iad (.t 1) (.c (.int .i64 4)) 2 5, none, [1]⟩,
  ⟨some 7, .fad (.t 6) 1, none, [1]⟩,
  ⟨some 8, .load 1 false (.t 7), none, [1]⟩,
  ⟨none, .store (.t 2) 4 (.t 5), none, [2]⟩,
  ⟨some 3, .mv (.t 8), none, []⟩] [2, 3]
theorem r14_1 : type_of% (@rr _ _ c14_1.eq_1) := rr c14_1.eq_1
def c14_2 : ACode := .seq c14_1 .ret
theorem r14_2 : type_of% (@rr _ _ c14_2.eq_1) := rr c14_2.eq_1
def c14_3 : ACode := .seq c14_0 c14_2
theorem r14_3 : type_of% (@rr _ _ c14_3.eq_1) := rr c14_3.eq_1
def a14 : AFun := ⟨1, 9, c14_3, [.cell 2 4 true, .t 3]⟩
attribute [simp] r14_0 r14_1 r14_2 r14_3
theorem m14 : mFun Tryz.prog Tryz.f14 a14 = true := by decide +kernel
/-! ### points of one cell -/
/-! ### closed boxes -/
def ahead (m : Model) (c : Int) (b : Box) : Prop := ∀ o : Int, 0 ≤ o → o < m.classes → o ≠ c → 0 < marD m c b o
theorem margin_pos {m : Model} {c : Int} {b : Box} (h0 : 0 ≤ c) (h1 : c < m.classes) (h2 : m.classes = 2 ∨ m.classes = 3) : 0 < margin m c b ↔ ahead m c b := by
  unfold margin ahead
  have hm2 := min2_le (a := marD m c b (other1 c)) (b := marD m c b (other2 c))
  rcases h2 with e | e
  · rw [if_pos e]
    have hc : c = 0 ∨ c = 1 := by omega
    constructor
    · intro h o o0 o1 oc
      have : o = other1 c := by unfold other1; split <;> omega
      rw [this]; exact h
    · intro h
      exact h _ (by unfold other1; split <;> omega) (by unfold other1; split <;> omega) (by unfold other1; split <;> omega)
  · rw [if_neg (by omega)]
    have hc : c = 0 ∨ c = 1 ∨ c = 2 := by omega
    constructor
    · intro h o o0 o1 oc
      have : o = other1 c ∨ o = other2 c := by unfold other1 other2; split <;> split <;> omega
      rcases this with e2 | e2 <;> rw [e2] <;> omega
    · intro h
      have k1 := h (other1 c) (by unfold other1; split <;> omega) (by unfold other1; split <;> omega) (by unfold other1; split <;> omega)
      have k2 := h (other2 c) (by unfold other2; split <;> omega) (by unfold other2; split <;> omega) (by unfold other2; split <;> omega)
      omega
def closedM (m : Model) (q : Query) (b : Box) : Bool :=
  if okQuery m q = false then false else if b.empty then true else
  if q.kind = 1 then (boundM m q.cls b).c && decide (q.lo ≤ (boundM m q.cls b).a) && decide ((boundM m q.cls b).b ≤ q.hi) else
  if q.kind = 2 then decide (0 < margin m q.cls b) else
  if orderedB q b then (changeM m q b).c && (if q.falls then decide ((changeM m q b).b ≤ 0) else decide (0 ≤ (changeM m q b).a)) else true
def Shown (m : Model) (q : Query) (b : Box) : Prop :=
  (q.kind = 1 ∧ q.lo ≤ (boundP m q.cls b).1 ∧ (boundP m q.cls b).2 ≤ q.hi) ∨ (q.kind = 2 ∧ ahead m q.cls b) ∨
  (q.kind = 3 ∧ ((b.get q.feature).lo < b.s4.hi → (if q.falls then (changeM m q b).b ≤ 0 else 0 ≤ (changeM m q b).a)))
theorem closed_iff {m : Model} (hm : RM m) {q : Query} (hq : okQuery m q = true) {b : Box} (hb : b.empty = false) : closedM m q b = true ↔ Shown m q b := by
  have hs := okQuery_spec hq
  have hk := okKind_spec hs.2.2.2.2.2
  have hcl := hm.classes
  have hd := hm.dim
  unfold closedM Shown
  rw [if_neg (by simp [hq]), if_neg (by simp [hb])]
  have hB : boundM m q.cls b = ⟨(boundP m q.cls b).1, (boundP m q.cls b).2, true⟩ := by unfold boundM; rw [if_neg (by simp [hb]; omega)]
  rcases hk with ⟨k, _⟩ | ⟨k, k2, _⟩ | ⟨k, f0, f1, _⟩
  · rw [if_pos k, hB]
    simp [k]
  · rw [if_neg (by omega), if_pos k, decide_eq_true_eq, margin_pos hs.1 hs.2.1 (by omega)]
    simp [k]
  · have hp : paired q = true := by unfold paired; simp; omega
    have ho : orderedB q b = decide ((b.get q.feature).lo < b.s4.hi) := by unfold orderedB; rw [hp, hb]; rfl
    have hc : (changeM m q b).c = true := by rw [change_some hp hs.1 hs.2.1 hb]
    rw [if_neg (by omega), if_neg (by omega), ho, hc]
    by_cases h : (b.get q.feature).lo < b.s4.hi
    · cases hf : q.falls <;> simp [k, h]
    · simp [k, h]
theorem closed_wrong {m : Model} {q : Query} {b : Box} (h : okQuery m q = false) : closedM m q b = false := by unfold closedM; rw [if_pos h]
noncomputable def ClosedC (m : Model) (q : Query) (b : Box) : Option Bool := Part (RM m ∧ okB b) (closedM m q b)
set_option maxHeartbeats 2000000 in
set_option maxRecDepth 8000 in
theorem runs_Closed (m : Model) (q : Query) (b : Box) (r : Bool) (h : ClosedC m q b = some r) : Runs (tbl [(25, sp2 QRight), (26, sp1 fun (b : Box) => some b.empty), (27, sp3 BoundS), (28, sp3 MarginC), (29, sp2 fun q b => some (orderedB q b)), (30, sp3 ChangeC)]) a9 [Arg.enc m, Arg.enc q, Arg.enc b] (Arg.enc r) := by
  obtain ⟨⟨hm, hb⟩, rfl⟩ := part_some h
  clear h
  refine ⟨rfl, fun g => run_def ?_⟩
  unfold a9 closedM
  have hM : QRight m q = some (okQuery m q) := by unfold QRight; rw [if_neg (by have := hm.dim; omega)]; exact part_of hm _
  cases hq : okQuery m q
  case false => simp -implicitDefEqProofs [hM, hq]
  cases he : b.empty
  case true => simp -implicitDefEqProofs [hM, hq, he]
  have hs := okQuery_spec hq
  have hk := okKind_spec hs.2.2.2.2.2
  have hS : BoundS m q.cls b = some (boundM m q.cls b) := part_of ⟨hm, hb⟩ _
  have hC : ChangeC m q b = some (changeM m q b) := part_of ⟨hm, hb⟩ _
  have hG : 2 ≤ m.classes → MarginC m q.cls b = some (margin m q.cls b, true) := fun h => by
    unfold MarginC
    rw [part_of ⟨hm, hb⟩, if_neg (by simp [he]; omega)]
  generalize boundM m q.cls b = z at *
  generalize changeM m q b = y at *
  obtain ⟨z1, z2, z3⟩ := z
  obtain ⟨y1, y2, y3⟩ := y
  obtain ⟨kind, cls, region, lo, hi, feature, falls, budget⟩ := q
  simp only at *
  by_cases k1 : kind = 1
  · subst k1
    cases z3
    · simp -implicitDefEqProofs [hM, hq, he, hS]
    · by_cases c1 : lo ≤ z1
      · simp -implicitDefEqProofs [hM, hq, he, hS, c1]
      · simp -implicitDefEqProofs [hM, hq, he, hS, c1]
  by_cases k2 : kind = 2
  · subst k2
    have hG := hG (by omega)
    simp -implicitDefEqProofs [hM, hq, he, hG]
  cases ho : orderedB ⟨kind, cls, region, lo, hi, feature, falls, budget⟩ b
  · simp -implicitDefEqProofs [hM, hq, he, k1, k2, ho]
  cases falls <;> cases y3 <;> simp -implicitDefEqProofs [hM, hq, he, k1, k2, ho, hC]
theorem c_Closed : Contract Tryz.prog 9 (sp3 ClosedC) :=
  contract_of_runs mixed (tbl_cons c_qRight (tbl_cons c_bEmpty (tbl_cons c_bSum (tbl_cons c_Margin (tbl_cons c_Ordered (tbl_cons c_Change tbl_nil)))))) Tryz.func9 m9 (sp3_runs runs_Closed)
theorem runs_gCorner (b : Box) (r : Point × Int) (h : some (lowB b, b.s4.hi) = some r) : Runs (tbl [(39, sp1 fun b => some (lowB b))]) a14 [Arg.enc b] (Arg.enc r) := by
  cases h
  refine ⟨rfl, fun g => run_def ?_⟩
  unfold a14
  simp -implicitDefEqProofs []
theorem c_gCorner : Contract Tryz.prog 14 (sp1 fun b => some (lowB b, b.s4.hi)) :=
  contract_of_runs mixed (tbl_cons c_Low tbl_nil) Tryz.func14 m14 (sp1_runs runs_gCorner)
/-! ### where a box is cut -/
def midL (l : List Int) : Int := l.getD ((l.length - 1) / 2) 0
def splitFrom (m : Model) (q : Query) (b : Box) : List Int → Tri Int Int Bool
  | [] => ⟨0, 0, false⟩
  | k :: ks => if cutsL m q b k = [] then splitFrom m q b ks else ⟨k, midL (cutsL m q b k), true⟩
def splitM (m : Model) (q : Query) (b : Box) : Tri Int Int Bool := splitFrom m q b [0, 1, 2, 3, 4]
noncomputable def SplitC (m : Model) (q : Query) (b : Box) : Option (Tri Int Int Bool) := Part (RM m) (splitM m q b)
set_option maxHeartbeats 4000000 in
set_option maxRecDepth 8000 in
theorem runs_Split (m : Model) (q : Query) (b : Box) (r : Tri Int Int Bool) (h : SplitC m q b = some r) : Runs (tbl [(37, sp4 CutsC)]) a12 [Arg.enc m, Arg.enc q, Arg.enc b] (Arg.enc r) := by
  obtain ⟨hm, rfl⟩ := part_some h
  clear h
  refine ⟨rfl, fun g => run_def ?_⟩
  unfold a12 splitM
  have hK : ∀ i : Int, 0 ≤ i → i ≤ 4 → CutsC m q b i = some (cutsL m q b i) := fun i i0 i5 => part_of ⟨hm, .inr ⟨i0, i5⟩⟩ _
  have hL : ∀ i, (cutsL m q b i).length ≤ 248 := fun i => by rw [cutsL_len]; exact cutN_le hm q b i
  have fin : ∀ (l : List Int), l.length ≤ 248 → l ≠ [] → 0 < l.length ∧ l.length ≤ maxN ∧ IntKind.i64.wrap ((l.length : Int) - 1) = ((l.length - 1 : Nat) : Int) ∧ ∃ x : Nat, IntKind.i64.wrap (((l.length - 1 : Nat) : Int) / 2) = (x : Int) ∧ x < l.length ∧ rd (encL l) x 1 false = some (.int .i64 (midL l)) := by
    intro l hl hne
    have hp : 0 < l.length := List.length_pos_iff.2 hne
    have hlt : (l.length - 1) / 2 < l.length := by omega
    refine ⟨by omega, by unfold maxN; omega, ?_, (l.length - 1) / 2, ?_, hlt, ?_⟩
    · rw [show (l.length : Int) - 1 = ((l.length - 1 : Nat) : Int) by omega]
      exact wrap64 (by omega) (by omega)
    · rw [show ((l.length - 1 : Nat) : Int) / 2 = (((l.length - 1) / 2 : Nat) : Int) by omega]
      exact wrap64 (by omega) (by omega)
    · rw [rd_ints l _ hlt]
      unfold midL
      simp [hlt]
  have K0 := hK 0 (by omega) (by omega)
  have K1 := hK 1 (by omega) (by omega)
  have K2 := hK 2 (by omega) (by omega)
  have K3 := hK 3 (by omega) (by omega)
  have K4 := hK 4 (by omega) (by omega)
  have L0 := fin _ (hL 0)
  have L1 := fin _ (hL 1)
  have L2 := fin _ (hL 2)
  have L3 := fin _ (hL 3)
  have L4 := fin _ (hL 4)
  clear hK hL fin
  unfold splitFrom splitFrom splitFrom splitFrom splitFrom splitFrom
  generalize cutsL m q b 0 = l0 at *
  generalize cutsL m q b 1 = l1 at *
  generalize cutsL m q b 2 = l2 at *
  generalize cutsL m q b 3 = l3 at *
  generalize cutsL m q b 4 = l4 at *
  by_cases h0 : l0 = []
  case neg =>
    obtain ⟨a1, a2, a3, x, a4, a5, a6⟩ := L0 h0
    simp -implicitDefEqProofs [run_round, K0, h0, a1, a2, a3, a4, a5, a6, encL_nil]
  subst h0
  by_cases h1 : l1 = []
  case neg =>
    obtain ⟨a1, a2, a3, x, a4, a5, a6⟩ := L1 h1
    simp -implicitDefEqProofs [run_round, K0, K1, h1, a1, a2, a3, a4, a5, a6, encL_nil]
  subst h1
  by_cases h2 : l2 = []
  case neg =>
    obtain ⟨a1, a2, a3, x, a4, a5, a6⟩ := L2 h2
    simp -implicitDefEqProofs [run_round, K0, K1, K2, h2, a1, a2, a3, a4, a5, a6, encL_nil]
  subst h2
  by_cases h3 : l3 = []
  case neg =>
    obtain ⟨a1, a2, a3, x, a4, a5, a6⟩ := L3 h3
    simp -implicitDefEqProofs [run_round, K0, K1, K2, K3, h3, a1, a2, a3, a4, a5, a6, encL_nil]
  subst h3
  by_cases h4 : l4 = []
  case neg =>
    obtain ⟨a1, a2, a3, x, a4, a5, a6⟩ := L4 h4
    simp -implicitDefEqProofs [run_round, K0, K1, K2, K3, K4, h4, a1, a2, a3, a4, a5, a6, encL_nil]
  subst h4
  simp -implicitDefEqProofs [run_round, K0, K1, K2, K3, K4, encL_nil]
theorem c_Split : Contract Tryz.prog 12 (sp3 SplitC) :=
  contract_of_runs mixed (tbl_cons c_Cuts tbl_nil) Tryz.func12 m12 (sp3_runs runs_Split)
end Go.Co
/- CO: a part of a box, by numbers. -/
namespace Go.Co
open Go.Am Go.Proofs
set_option linter.unusedSimpArgs false
set_option linter.unusedVariables false
attribute [-simp] Go.Am.eff_gcall
def c7_0 : ACode := .ops [⟨some 2, .box (.t 0) 10, none, []⟩,
  ⟨some 4, .alloc [.int .i64 0, .int .i64 0, .int .i64 0, .int .i64 0, .int .i64 0, .int .i64 0, .int .i64 0, .int .i64 0, .int .i64 0, .int .i64 0], none, []⟩] [1, 2, 4]
theorem r7_0 : type_of% (@rr _ _ c7_0.eq_1) := rr c7_0.eq_1
def c7_1 : ACode := .ops [⟨some 5, .mv (.c (.int .i64 0)), none, []⟩] [1, 2, 4, 5]
theorem r7_1 : type_of% (@rr _ _ c7_1.eq_1) := rr c7_1.eq_1
def c7_2 : ACode := .ops [⟨some 6, .mv (.t 5), none, []⟩,
  ⟨some 7, .mv (.t 1), none, []⟩,
  ⟨some 8, .len (.t 7), none, []⟩,
  ⟨some 9, .bin .lss (.t 6) (.t 8), none, []⟩,
  ⟨some 10, .mv (.t 9), none, []⟩,
  ⟨some 11, .mv (.t 5), some (10, true), []⟩,
  ⟨some 12, .bin .lss (.t 11) (.c (.int .i64 5)), some (10, true), []⟩,
  ⟨some 13, .pick (.t 10) (.t 12) (.c (.bool false)), none, []⟩] [1, 2, 4, 5, 13]
theorem r7_2 : type_of% (@rr _ _ c7_2.eq_1) := rr c7_2.eq_1
def c7_3 : ACode := .cond (.t 13) .skip (.exit 0)
theorem r7_3 : type_of% (@rr _ _ c7_3.eq_1) := rr c7_3.eq_1
def c7_4 : ACode := .seq c7_2 c7_3
theorem r7_4 : type_of% (@rr _ _ c7_4.eq_1) := rr c7_4.eq_1
def c7_5 : ACode := .ops [⟨some 16, .mv (.t 1), none, []⟩,
  ⟨some 17, .mv (.t 5), none, []⟩,
  ⟨some 18, .ias (.t 16) (.t 17) 1, none, []⟩,
  ⟨some 19, .load 1 false (.t 18), none, []⟩,
  ⟨some 20, .bin .and (.t 19) (.c (.int .i64 1)), none, []⟩,
  ⟨some 21, .bin .eql (.t 20) (.c (.int .i64 0)), none, []⟩] [1, 2, 4, 5, 21]
theorem r7_5 : type_of% (@rr _ _ c7_5.eq_1) := rr c7_5.eq_1
def c7_6 : ACode := .ops [⟨some 22, .mv (.t 5), none, []⟩,
  ⟨some 23, .mv (.t 1), none, []⟩,
  ⟨some 24, .mv (.t 5), none, []⟩,
  ⟨some 25, .ias (.t 23) (.t 24) 1, none, []⟩,
  ⟨some 26, .load 1 false (.t 25), none, []⟩,
  ⟨some 27, .bin .quo (.t 26) (.c (.int .i64 2)), none, []⟩,
  ⟨some 28, .mv (.t 5), none, []⟩,
  ⟨some 29, .iad (.t 2) (.t 28) 2 5, none, [2]⟩,
  ⟨some 30, .fad (.t 29) 0, none, [2]⟩,
  ⟨some 31, .load 1 false (.t 30), none, [2]⟩,
  ⟨some 32, .mv (.t 5), none, []⟩,
  ⟨some 33, .iad (.t 2) (.t 32) 2 5, none, [2]⟩,
  ⟨some 34, .fad (.t 33) 1, none, [2]⟩,
  ⟨some 35, .load 1 false (.t 34), none, [2]⟩,
  ⟨some 36, .call 16 [.t 27, .t 31, .t 35], none, []⟩,
  ⟨some 37, .iad (.t 2) (.t 22) 2 5, none, [2]⟩,
  ⟨some 38, .fad (.t 37) 0, none, [2]⟩,
  ⟨none, .store (.t 38) 1 (.t 36), none, [2]⟩] [1, 2, 4, 5]
theorem r7_6 : type_of% (@rr _ _ c7_6.eq_1) := rr c7_6.eq_1
def c7_7 : ACode := .ops [⟨some 39, .mv (.t 5), none, []⟩,
  ⟨some 40, .mv (.t 1), none, []⟩,
  ⟨some 41, .mv (.t 5), none, []⟩,
  ⟨some 42, .ias (.t 40) (.t 41) 1, none, []⟩,
  ⟨some 43, .load 1 false (.t 42), none, []⟩,
  ⟨some 44, .bin .quo (.t 43) (.c (.int .i64 2)), none, []⟩,
  ⟨some 45, .mv (.t 5), none, []⟩,
  ⟨some 46, .iad (.t 2) (.t 45) 2 5, none, [2]⟩,
  ⟨some 47, .fad (.t 46) 0, none, [2]⟩,
  ⟨some 48, .load 1 false (.t 47), none, [2]⟩,
  ⟨some 49, .mv (.t 5), none, []⟩,
  ⟨some 50, .iad (.t 2) (.t 49) 2 5, none, [2]⟩,
  ⟨some 51, .fad (.t 50) 1, none, [2]⟩,
  ⟨some 52, .load 1 false (.t 51), none, [2]⟩,
  ⟨some 53, .call 16 [.t 44, .t 48, .t 52], none, []⟩,
  ⟨some 54, .iad (.t 2) (.t 39) 2 5, none, [2]⟩,
  ⟨some 55, .fad (.t 54) 1, none, [2]⟩,
  ⟨none, .store (.t 55) 1 (.t 53), none, [2]⟩] [1, 2, 4, 5]
theorem r7_7 : type_of% (@rr _ _ c7_7.eq_1) := rr c7_7.eq_1
def c7_8 : ACode := .cond (.t 21) c7_6 c7_7
theorem r7_8 : type_of% (@rr _ _ c7_8.eq_1) := rr c7_8.eq_1
def c7_9 : ACode := .seq c7_5 c7_8
theorem r7_9 : type_of% (@rr _ _ c7_9.eq_1) := rr c7_9.eq_1
def c7_10 : ACode := .block 1 c7_9
theorem r7_10 : type_of% (@rr _ _ c7_10.eq_1) := rr c7_10.eq_1
def c7_11 : ACode := .ops [⟨some 14, .mv (.t 5), none, []⟩,
  ⟨some 15, .bin .add (.t 14) (.c (.int .i64 1)), none, []⟩,
  ⟨some 5, .mv (.t 15), none, []⟩] [1, 2, 4, 5]
theorem r7_11 : type_of% (@rr _ _ c7_11.eq_1) := rr c7_11.eq_1
def c7_12 : ACode := .seq c7_10 c7_11
theorem r7_12 : type_of% (@rr _ _ c7_12.eq_1) := rr c7_12.eq_1
def c7_13 : ACode := .seq c7_4 c7_12
theorem r7_13 : type_of% (@rr _ _ c7_13.eq_1) := rr c7_13.eq_1
def c7_14 : ACode := .keep [1, 2, 4, 5] [2, 4] c7_13
theorem r7_14 : type_of% (@rr _ _ c7_14.eq_1) := rr c7_14.eq_1
def c7_15 : ACode := .loop c7_14
theorem r7_15 : type_of% (@rr _ _ c7_15.eq_1) := rr c7_15.eq_1
def c7_16 : ACode := .block 0 c7_15
theorem r7_16 : type_of% (@rr _ _ c7_16.eq_1) := rr c7_16.eq_1
def c7_17 : ACode := .seq c7_1 c7_16
theorem r7_17 : type_of% (@rr _ _ c7_17.eq_1) := rr c7_17.eq_1
def c7_18 : ACode := .ops [⟨some 56, .load 10 true (.t 2), none, [2]⟩,
  ⟨none, .store (.t 4) 10 (.t 56), none, [4]⟩] [4]
theorem r7_18 : type_of% (@rr _ _ c7_18.eq_1) := rr c7_18.eq_1
def c7_19 : ACode := .seq c7_18 .ret
theorem r7_19 : type_of% (@rr _ _ c7_19.eq_1) := rr c7_19.eq_1
def c7_20 : ACode := .seq c7_17 c7_19
theorem r7_20 : type_of% (@rr _ _ c7_20.eq_1) := rr c7_20.eq_1
def c7_21 : ACode := .seq c7_0 c7_20
theorem r7_21 : type_of% (@rr _ _ c7_21.eq_1) := rr c7_21.eq_1
def a7 : AFun := ⟨2, 57, c7_21, [.cell 4 10 true]⟩
attribute [simp] r7_0 r7_1 r7_2 r7_3 r7_4 r7_5 r7_6 r7_7 r7_8 r7_9 r7_10 r7_11 r7_12 r7_13 r7_14 r7_15 r7_16 r7_17 r7_18 r7_19 r7_20 r7_21
theorem m7 : mFun Tryz.prog Tryz.f7 a7 = true := by decide +kernel
theorem rd_nlo (b : Box) (i : Nat) (h : i < 5) : rd [.int .i64 b.s0.lo, .int .i64 b.s0.hi, .int .i64 b.s1.lo, .int .i64 b.s1.hi, .int .i64 b.s2.lo, .int .i64 b.s2.hi, .int .i64 b.s3.lo, .int .i64 b.s3.hi, .int .i64 b.s4.lo, .int .i64 b.s4.hi] (i * 2) 1 false = some (.int .i64 (b.get i).lo) := by
  have hf : i = 0 ∨ i = 1 ∨ i = 2 ∨ i = 3 ∨ i = 4 := by omega
  rcases hf with rfl | rfl | rfl | rfl | rfl <;> rfl
theorem rd_nhi (b : Box) (i : Nat) (h : i < 5) : rd [.int .i64 b.s0.lo, .int .i64 b.s0.hi, .int .i64 b.s1.lo, .int .i64 b.s1.hi, .int .i64 b.s2.lo, .int .i64 b.s2.hi, .int .i64 b.s3.lo, .int .i64 b.s3.hi, .int .i64 b.s4.lo, .int .i64 b.s4.hi] (i * 2 + 1) 1 false = some (.int .i64 (b.get i).hi) := by
  have hf : i = 0 ∨ i = 1 ∨ i = 2 ∨ i = 3 ∨ i = 4 := by omega
  rcases hf with rfl | rfl | rfl | rfl | rfl <;> rfl
theorem wr_nlo (b : Box) (i : Nat) (h : i < 5) (x : Int) : wr [.int .i64 b.s0.lo, .int .i64 b.s0.hi, .int .i64 b.s1.lo, .int .i64 b.s1.hi, .int .i64 b.s2.lo, .int .i64 b.s2.hi, .int .i64 b.s3.lo, .int .i64 b.s3.hi, .int .i64 b.s4.lo, .int .i64 b.s4.hi] (i * 2) [.int .i64 x] = Row.enc (b.set i ⟨x, (b.get i).hi⟩) := by
  have hf : i = 0 ∨ i = 1 ∨ i = 2 ∨ i = 3 ∨ i = 4 := by omega
  rcases hf with rfl | rfl | rfl | rfl | rfl <;> rfl
theorem wr_nhi (b : Box) (i : Nat) (h : i < 5) (x : Int) : wr [.int .i64 b.s0.lo, .int .i64 b.s0.hi, .int .i64 b.s1.lo, .int .i64 b.s1.hi, .int .i64 b.s2.lo, .int .i64 b.s2.hi, .int .i64 b.s3.lo, .int .i64 b.s3.hi, .int .i64 b.s4.lo, .int .i64 b.s4.hi] (i * 2 + 1) [.int .i64 x] = Row.enc (b.set i ⟨(b.get i).lo, x⟩) := by
  have hf : i = 0 ∨ i = 1 ∨ i = 2 ∨ i = 3 ∨ i = 4 := by omega
  rcases hf with rfl | rfl | rfl | rfl | rfl <;> rfl
def evenB (x : Int) : Prop := iand IntKind.i64 x 1 = 0
noncomputable def partStep (b : Box) (i : Nat) (x : Int) : Box := open Classical in
  if evenB x then b.set i ⟨within (IntKind.i64.wrap (x.tdiv 2)) (b.get i).lo (b.get i).hi, (b.get i).hi⟩ else b.set i ⟨(b.get i).lo, within (IntKind.i64.wrap (x.tdiv 2)) (b.get i).lo (b.get i).hi⟩
noncomputable def partTo (b : Box) (l : List Int) : Nat → Box
  | 0 => b
  | j + 1 => if h : j < l.length then partStep (partTo b l j) j l[j] else partTo b l j
structure PartOk (b x : Box) : Prop where
  some : x.empty = false
  sub : ∀ i : Int, 0 ≤ i → i < 5 → (b.get i).lo ≤ (x.get i).lo ∧ (x.get i).hi ≤ (b.get i).hi
theorem PartOk.set {b x : Box} (h : PartOk b x) {i : Nat} (hi : i < 5) {s : Span} (h1 : s.lo ≤ s.hi) (h2 : (x.get i).lo ≤ s.lo) (h3 : s.hi ≤ (x.get i).hi) : PartOk b (x.set i s) := by
  refine ⟨empty_get.2 fun j j0 j5 => ?_, fun j j0 j5 => ?_⟩
  · rw [set_get_ite x s (by omega) (by omega) j0 j5]
    split
    · exact h1
    · exact get_spans h.some j
  · rw [set_get_ite x s (by omega) (by omega) j0 j5]
    have := h.sub j j0 j5
    split
    · rename_i e; subst e; omega
    · exact this
theorem partStep_ok {b x : Box} (h : PartOk b x) {i : Nat} (hi : i < 5) (n : Int) : PartOk b (partStep x i n) := by
  have hl := get_spans h.some (i : Int)
  have hw := within_le (IntKind.i64.wrap (n.tdiv 2)) (x.get i).lo (x.get i).hi hl
  unfold partStep
  split
  · exact h.set hi (by simp only; omega) (by simp only; omega) (by simp only; omega)
  · exact h.set hi (by simp only; omega) (by simp only; omega) (by simp only; omega)
theorem partTo_ok {b : Box} (hb : b.empty = false) (l : List Int) : ∀ {j : Nat}, j ≤ 5 → PartOk b (partTo b l j)
  | 0, _ => ⟨hb, fun i _ _ => ⟨Int.le_refl _, Int.le_refl _⟩⟩
  | j + 1, h => by
    unfold partTo
    split
    · exact partStep_ok (partTo_ok hb l (by omega)) (by omega) _
    · exact partTo_ok hb l (by omega)
theorem PartOk.small {b x : Box} (h : PartOk b x) (hb : smallB b) : smallB x := by
  have key : ∀ i : Int, 0 ≤ i → i < 5 → Co.small (x.get i) := fun i i0 i5 => by
    have h1 := get_small hb i
    have h2 := h.sub i i0 i5
    have h3 := get_spans h.some i
    unfold Co.small at *
    omega
  exact ⟨key 0 (by omega) (by omega), key 1 (by omega) (by omega), key 2 (by omega) (by omega), key 3 (by omega) (by omega), key 4 (by omega) (by omega)⟩
theorem small_ok {b : Box} (h : smallB b) (he : b.empty = false) : okB b := by
  have key : ∀ i : Int, 0 ≤ i → i < 5 → okS64 (b.get i) := fun i i0 i5 => by
    have h1 := get_small h i
    have h2 := get_spans he i
    unfold Co.small at h1
    unfold okS64 ok64
    omega
  exact ⟨key 0 (by omega) (by omega), key 1 (by omega) (by omega), key 2 (by omega) (by omega), key 3 (by omega) (by omega), key 4 (by omega) (by omega)⟩
noncomputable def PartC (b : Box) (l : List Int) : Option Box := Part (smallB b ∧ b.empty = false) (partTo b l 5)
set_option maxHeartbeats 2000000 in
set_option maxRecDepth 8000 in
theorem runs_part (b : Box) (l : List Int) (r : Box) (h : PartC b l = some r) : Runs (tbl [(16, sp3 Within)]) a7 [Arg.enc b, Arg.enc l] (Arg.enc r) := by
  obtain ⟨⟨hs, he⟩, rfl⟩ := part_some h
  clear h
  refine ⟨rfl, fun g => run_def ?_⟩
  unfold a7
  simp -implicitDefEqProofs []
  refine run_while (c := c7_13) (fun n s => ∃ (j : Nat) (g : Nat → Nat), j + n = 5 ∧ s = ⟨[(1, .lst l.length (encL l)), (2, .ptr 2 (g 2) 0), (4, .ptr 4 (g 4) 0), (5, .int .i64 j)], [(2, ⟨Row.enc (partTo b l j), false, 0⟩), (4, ⟨Row.enc zeroB, false, 0⟩)], g⟩) 5 ⟨0, bump 4 (bump 2 g), by omega, by simp [partTo, zeroB]⟩ ?_
  rintro n s ⟨j, g, hj, rfl⟩
  have w1 : IntKind.i64.wrap ((j : Int) + 1) = (j : Int) + 1 := wrap64 (by omega) (by omega)
  by_cases h1 : j < l.length ∧ j < 5
  case pos =>
    have c1 : j < l.length := h1.1
    have c2 : (j : Int) < 5 := by omega
    have c3 : j < 5 := h1.2
    have c4 : j * 2 ≤ 9 := by omega
    have c5 : j * 2 ≤ 8 := by omega
    have hrow := rd_ints l j c1
    have hx := partTo_ok he l (j := j) (by omega)
    have hstep : partTo b l (j + 1) = partStep (partTo b l j) j l[j] := by rw [partTo, dif_pos c1]
    have hxs := get_small (hx.small hs) (j : Int)
    have hxl := get_spans hx.some (j : Int)
    generalize l[j] = n0 at *
    generalize partTo b l j = x at *
    unfold small at hxs
    have hW := within_of (IntKind.i64.wrap (n0.tdiv 2)) (x.get j).lo (x.get j).hi (by omega)
    have r1 := rd_nlo x j c3
    have r2 := rd_nhi x j c3
    have q1 := wr_nlo x j c3 (within (IntKind.i64.wrap (n0.tdiv 2)) (x.get j).lo (x.get j).hi)
    have q2 := wr_nhi x j c3 (within (IntKind.i64.wrap (n0.tdiv 2)) (x.get j).lo (x.get j).hi)
    unfold partStep at hstep
    by_cases hev : evenB n0
    · rw [if_pos hev] at hstep
      unfold evenB at hev
      simp -implicitDefEqProofs [c1, c2, c3, hrow, w1, hW, r1, r2, q1, hev, c4, c5]
      exact fun _ => ⟨n - 1, by omega, j + 1, by omega, by omega, by rw [hstep], by rw [hstep], by rw [hstep], by rw [hstep], by rw [hstep], by rw [hstep], by rw [hstep], by rw [hstep], by rw [hstep], by rw [hstep]⟩
    · rw [if_neg hev] at hstep
      unfold evenB at hev
      simp -implicitDefEqProofs [c1, c2, c3, hrow, w1, hW, r1, r2, q2, hev, c4, c5]
      exact fun _ => ⟨n - 1, by omega, j + 1, by omega, by omega, by rw [hstep], by rw [hstep], by rw [hstep], by rw [hstep], by rw [hstep], by rw [hstep], by rw [hstep], by rw [hstep], by rw [hstep], by rw [hstep]⟩
  case neg =>
    have hfin : partTo b l j = partTo b l 5 := by
      have key : ∀ k, j ≤ k → k ≤ 5 → partTo b l k = partTo b l j := by
        intro k hk
        induction k with
        | zero => intro _; rw [show j = 0 by omega]
        | succ k ih =>
          intro h5
          by_cases e : j = k + 1
          · rw [e]
          · rw [partTo, dif_neg (by omega)]
            exact ih (by omega) (by omega)
      exact (key 5 (by omega) (by omega)).symm
    by_cases c1 : j < l.length
    · have c2 : ¬ (j : Int) < 5 := by omega
      rw [hfin]
      simp -implicitDefEqProofs [c1, c2]
    · rw [hfin]
      simp -implicitDefEqProofs [c1]
theorem c_part : Contract Tryz.prog 7 (sp2 PartC) :=
  contract_of_runs mixed (tbl_cons c_Within tbl_nil) Tryz.func7 m7 (sp2_runs runs_part)
end Go.Co
