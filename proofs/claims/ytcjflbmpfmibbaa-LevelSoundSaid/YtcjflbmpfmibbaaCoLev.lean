/- CO: pieces that meet, groups, levels. -/
import Derived.Test.YtcjflbmpfmibbaaCoSh
import Derived.Test.YtcjflbmpfmibbaaCoBound
namespace Go.Co
open Go.Am
set_option linter.unusedSimpArgs false
set_option linter.unusedVariables false
instance rowList {α : Type} [Row α] : Row (List α) where
  sz := 1
  enc l := [.lst l.length (encL l)]
  dec xs := match xs with
    | [.lst n ys] => decL α n ys
    | _ => none
  pos := by decide
  len _ := rfl
  dec_enc l := decL_encL l
  enc_dec xs a h := by
    split at h
    · obtain ⟨h1, h2⟩ := decL_some _ _ _ h
      rw [h1, h2]
    · cases h
@[simp] theorem enc_rowList {α : Type} [Row α] (l : List α) : Row.enc l = [.lst l.length (encL l)] := rfl
@[simp] theorem sz_rowList {α : Type} [Row α] : Row.sz (List α) = 1 := rfl
instance {α : Type} [Row α] : Cells (List α) := ⟨fun _ => rfl⟩
def meetB (a b : Box) : Box := ⟨meetS a.s0 b.s0, meetS a.s1 b.s1, meetS a.s2 b.s2, meetS a.s3 b.s3, meetS a.s4 b.s4⟩
theorem inS_meet {a b : Span} {n : Int} : InS (meetS a b) n ↔ InS a n ∧ InS b n := by
  have h1 := max2_le (a := a.lo) (b := b.lo)
  have h2 := min2_le (a := a.hi) (b := b.hi)
  unfold meetS
  generalize max2 a.lo b.lo = x at *
  generalize min2 a.hi b.hi = y at *
  unfold ofS InS
  by_cases h : y < x
  · rw [if_pos h]
    simp only [noneS]
    omega
  · rw [if_neg h]
    simp only
    omega
theorem inB_meet {a b : Box} {p : Point} {t : Int} : InB (meetB a b) p t ↔ InB a p t ∧ InB b p t := by
  unfold InB meetB
  simp only [inS_meet]
  constructor <;> rintro ⟨⟩ <;> simp_all
def meetF (x y : Piece) : Option Piece := if (meetB x.box y.box).empty then none else some ⟨meetB x.box y.box, x.value + y.value⟩
def row (x : Piece) (b : List Piece) : List Piece := b.filterMap (meetF x)
def prod (a b : List Piece) : List Piece := a.flatMap fun x => row x b
def meetP (a b : List Piece) (most : Int) : List Piece × Bool := if ((prod a b).length : Int) ≤ most then (prod a b, true) else ([], false)
theorem row_append (x : Piece) (b c : List Piece) : row x (b ++ c) = row x b ++ row x c := by simp [row]
theorem prod_append (a c b : List Piece) : prod (a ++ c) b = prod a b ++ prod c b := by simp [prod]
theorem prod_one (x : Piece) (b : List Piece) : prod [x] b = row x b := by simp [prod]
theorem row_some {x y z : Piece} (h : meetF x y = some z) : row x [y] = [z] := by simp [row, h]
theorem row_none {x y : Piece} (h : meetF x y = none) : row x [y] = [] := by simp [row, h]
def sofar (a b : List Piece) (i j : Nat) (x : Piece) : List Piece := prod (a.take i) b ++ row x (b.take j)
theorem sofar_row {a b : List Piece} {i j : Nat} {x : Piece} (h : j < b.length) : sofar a b i (j + 1) x = sofar a b i j x ++ row x [b[j]] := by
  unfold sofar
  rw [List.take_succ_eq_append_getElem h, row_append, List.append_assoc]
theorem sofar_end {a b : List Piece} {i : Nat} (h : i < a.length) : sofar a b i b.length a[i] = prod (a.take (i + 1)) b := by
  unfold sofar
  rw [List.take_length, List.take_succ_eq_append_getElem h, prod_append, prod_one]
theorem sofar_pre {a b : List Piece} {i j : Nat} (h : i < a.length) : ∃ r, prod a b = sofar a b i j a[i] ++ r := by
  refine ⟨row a[i] (b.drop j) ++ prod (a.drop (i + 1)) b, ?_⟩
  have e1 : prod a b = prod (a.take (i + 1)) b ++ prod (a.drop (i + 1)) b := by rw [← prod_append, List.take_append_drop]
  have e2 : row a[i] b = row a[i] (b.take j) ++ row a[i] (b.drop j) := by rw [← row_append, List.take_append_drop]
  rw [e1, List.take_succ_eq_append_getElem h, prod_append, prod_one, e2]
  unfold sofar
  simp
def levelP (most : Int) : List (List Piece) → List (List Piece) × Bool
  | g1 :: g2 :: gs => if ((prod g1 g2).length : Int) ≤ most then (prod g1 g2 :: (levelP most gs).1, true) else (g1 :: (levelP most (g2 :: gs)).1, (levelP most (g2 :: gs)).2)
  | [g] => ([g], false)
  | [] => ([], false)
def climbP (most : Int) : Nat → List (List Piece) → List (List Piece) × List Int
  | 0, gs => (gs, [(gs.length : Int)])
  | n + 1, gs => if (levelP most gs).2 = true then ((climbP most n (levelP most gs).1).1, (gs.length : Int) :: (climbP most n (levelP most gs).1).2) else (gs, [(gs.length : Int)])
def climb (most : Int) (gs : List (List Piece)) : List (List Piece) × List Int := climbP most gs.length gs
def startG (m : Model) (c : Int) (b : Box) : List (List Piece) := (m.trees.filter fun t => decide (t.cls = c)).map fun t => pieces t.nodes b
def startP (m : Model) (c : Int) (b : Box) : List (List Piece) × Bool := if c < 0 ∨ m.classes ≤ c ∨ b.empty = true then ([], false) else (startG m c b, true)
def rangeF (a : Int × Int) (g : List Piece) : Int × Int := (a.1 + (ends g).a, a.2 + (ends g).b)
def rangeP (m : Model) (c : Int) (b : Box) (most : Int) : Tri Int Int Bool :=
  if c < 0 ∨ m.classes ≤ c ∨ b.empty = true then ⟨0, 0, false⟩
  else ⟨((climb most (startG m c b)).1.foldl rangeF (m.bias.get c, m.bias.get c)).1, ((climb most (startG m c b)).1.foldl rangeF (m.bias.get c, m.bias.get c)).2, decide (((climb most (startG m c b)).1.length : Int) ≤ 1)⟩
def smallG (k : Nat) (gs : List (List Piece)) : Prop := ∀ g ∈ gs, (∀ x ∈ g, -(2 : Int) ^ k ≤ x.value ∧ x.value ≤ (2 : Int) ^ k) ∧ g.length ≤ 1073741824
theorem pow_up {j k : Nat} (h : j ≤ k) : (2 : Int) ^ j ≤ 2 ^ k := by
  have : (2 : Nat) ^ j ≤ 2 ^ k := Nat.pow_le_pow_right (by omega) h
  exact_mod_cast this
theorem smallG.up {j k : Nat} (h : j ≤ k) {gs : List (List Piece)} (hs : smallG j gs) : smallG k gs := by
  intro g hg
  refine ⟨fun x hx => ?_, (hs g hg).2⟩
  have h1 := (hs g hg).1 x hx
  have h2 := pow_up h
  omega
theorem mem_prod {a b : List Piece} {z : Piece} : z ∈ prod a b ↔ ∃ x ∈ a, ∃ y ∈ b, (meetB x.box y.box).empty = false ∧ z = ⟨meetB x.box y.box, x.value + y.value⟩ := by
  unfold prod row
  simp only [List.mem_flatMap, List.mem_filterMap, meetF]
  constructor
  · rintro ⟨x, hx, y, hy, h⟩
    split at h
    · cases h
    · rename_i hne
      cases h
      exact ⟨x, hx, y, hy, by simpa using hne, rfl⟩
  · rintro ⟨x, hx, y, hy, h, rfl⟩
    exact ⟨x, hx, y, hy, by rw [if_neg (by simp [h])]⟩
theorem level_small {k : Nat} {most : Int} (hm : most ≤ 1073741824) : ∀ (gs : List (List Piece)), smallG k gs → smallG (k + 1) (levelP most gs).1
  | [], h => fun g hg => by simp [levelP] at hg
  | [g], h => h.up (by omega)
  | g1 :: g2 :: gs, h => by
    rw [levelP]
    split
    · rename_i hc
      intro g hg
      rcases List.mem_cons.1 hg with rfl | hg
      · refine ⟨fun z hz => ?_, by omega⟩
        obtain ⟨x, hx, y, hy, _, rfl⟩ := mem_prod.1 hz
        have h1 := (h g1 (by simp)).1 x hx
        have h2 := (h g2 (by simp)).1 y hy
        rw [Int.pow_succ]
        simp only
        omega
      · exact level_small hm gs (fun g hg => h g (by simp [hg])) g hg
    · intro g hg
      rcases List.mem_cons.1 hg with rfl | hg
      · exact (h.up (show k ≤ k + 1 by omega)) _ (by simp)
      · exact level_small hm (g2 :: gs) (fun g hg => h g (by
          rcases List.mem_cons.1 hg with rfl | hg
          · simp
          · simp [hg])) g hg
theorem level_len {most : Int} : ∀ (gs : List (List Piece)), (levelP most gs).1.length ≤ gs.length ∧ gs.length ≤ 2 * (levelP most gs).1.length ∧ ((levelP most gs).2 = true → (levelP most gs).1.length < gs.length) ∧ ((levelP most gs).2 = false → (levelP most gs).1 = gs)
  | [] => by simp [levelP]
  | [g] => by simp [levelP]
  | g1 :: g2 :: gs => by
    have h1 := level_len (most := most) gs
    have h2 := level_len (most := most) (g2 :: gs)
    rw [levelP]
    split
    · simp only [List.length_cons] at *
      refine ⟨by omega, by omega, fun _ => by omega, fun h => by cases h⟩
    · simp only [List.length_cons] at *
      refine ⟨by omega, by omega, fun h => by have := h2.2.2.1 h; omega, fun h => by rw [h2.2.2.2 h]⟩
end Go.Co
