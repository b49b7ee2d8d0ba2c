/- CO: pieces that meet, groups, levels. -/
import Derived.Test.YtcjflbmpfmibbaaCoSh
import Derived.Test.YtcjflbmpfmibbaaCoBound
namespace Go.Co
open Go.Am
set_option linter.unusedSimpArgs false
set_option linter.unusedVariables false
instance rowList {α : Type} [Row α] : Row (List α) where
  sz := 1
  enc l := [.lst l.length (encL l)]
  dec xs := match xs with
    | [.lst n ys] => decL α n ys
    | _ => none
  pos := by decide
  len _ := rfl
  dec_enc l := decL_encL l
  enc_dec xs a h := by
    split at h
    · obtain ⟨h1, h2⟩ := decL_some _ _ _ h
      rw [h1, h2]
    · cases h
@[simp] theorem enc_rowList {α : Type} [Row α] (l : List α) : Row.enc l = [.lst l.length (encL l)] := rfl
@[simp] theorem sz_rowList {α : Type} [Row α] : Row.sz (List α) = 1 := rfl
instance {α : Type} [Row α] : Cells (List α) := ⟨fun _ => rfl⟩
def meetB (a b : Box) : Box := ⟨meetS a.s0 b.s0, meetS a.s1 b.s1, meetS a.s2 b.s2, meetS a.s3 b.s3, meetS a.s4 b.s4⟩
def meetF (x y : Piece) : Option Piece := if (meetB x.box y.box).empty then none else some ⟨meetB x.box y.box, x.value + y.value⟩
def row (x : Piece) (b : List Piece) : List Piece := b.filterMap (meetF x)
def smallG (k : Nat) (gs : List (List Piece)) : Prop := ∀ g ∈ gs, (∀ x ∈ g, -(2 : Int) ^ k ≤ x.value ∧ x.value ≤ (2 : Int) ^ k) ∧ g.length ≤ 1073741824
theorem pow_up {j k : Nat} (h : j ≤ k) : (2 : Int) ^ j ≤ 2 ^ k := by
  have : (2 : Nat) ^ j ≤ 2 ^ k := Nat.pow_le_pow_right (by omega) h
  exact_mod_cast this
theorem smallG.up {j k : Nat} (h : j ≤ k) {gs : List (List Piece)} (hs : smallG j gs) : smallG k gs := by
  intro g hg
  refine ⟨fun x hx => ?_, (hs g hg).2⟩
  have h1 := (hs g hg).1 x hx
  have h2 := pow_up h
  omega
end Go.Co
