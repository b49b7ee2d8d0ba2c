/- CO: values of the program's types as Lean values: rows of cells and back. -/
import Derived.Test.YtcjflbmpfmibbaaAm1
import Derived.Test.YtcjflbmpfmibbaaAm4
namespace Go.Co
open Go.Am
set_option linter.unusedVariables false
class Row (α : Type) where
  sz : Nat
  enc : α → List AV
  dec : List AV → Option α
  pos : 0 < sz
  len : ∀ a, (enc a).length = sz
  dec_enc : ∀ a, dec (enc a) = some a
  enc_dec : ∀ xs a, dec xs = some a → xs = enc a
section
variable {α : Type} [Row α]
def encL (l : List α) : List AV := l.flatMap Row.enc
def decL (α : Type) [Row α] : Nat → List AV → Option (List α)
  | 0, [] => some []
  | 0, _ :: _ => none
  | n + 1, xs => match Row.dec (xs.take (Row.sz α)) with
    | some a => match decL α n (xs.drop (Row.sz α)) with
      | some l => some (a :: l)
      | none => none
    | none => none
theorem encL_nil : encL ([] : List α) = [] := rfl
theorem encL_cons (a : α) (l : List α) : encL (a :: l) = Row.enc a ++ encL l := rfl
theorem encL_append (l m : List α) : encL (l ++ m) = encL l ++ encL m := by simp [encL]
theorem encL_length (l : List α) : (encL l).length = l.length * Row.sz α := by
  induction l with
  | nil => simp [encL]
  | cons a l ih => rw [encL_cons, List.length_append, ih, Row.len, List.length_cons, Nat.succ_mul]; omega
theorem decL_encL : ∀ (l : List α), decL α l.length (encL l) = some l
  | [] => rfl
  | a :: l => by
    rw [List.length_cons, decL, encL_cons]
    rw [List.take_append_of_le_length (by rw [Row.len]; exact Nat.le_refl _), List.take_of_length_le (by rw [Row.len]; exact Nat.le_refl _), Row.dec_enc]
    have : (Row.enc a ++ encL l).drop (Row.sz α) = encL l := by
      have := Row.len a
      rw [← this, List.drop_left]
    rw [this, decL_encL l]
theorem decL_some : ∀ (n : Nat) (xs : List AV) (l : List α), decL α n xs = some l → n = l.length ∧ xs = encL l
  | 0, [], l, h => by simp only [decL, Option.some.injEq] at h; subst h; exact ⟨rfl, rfl⟩
  | 0, _ :: _, l, h => by simp [decL] at h
  | n + 1, xs, l, h => by
    unfold decL at h
    split at h
    · rename_i a ha
      split at h
      · rename_i m hm
        cases h
        obtain ⟨h1, h2⟩ := decL_some n _ m hm
        have h3 := Row.enc_dec _ _ ha
        refine ⟨by simp [h1], ?_⟩
        rw [encL_cons, ← h2, ← h3, List.take_append_drop]
      · cases h
    · cases h
theorem encL_get (l : List α) (i : Nat) (h : i < l.length) : ((encL l).drop (i * Row.sz α)).take (Row.sz α) = Row.enc l[i] := by
  induction l generalizing i with
  | nil => simp at h
  | cons a l ih =>
    cases i with
    | zero =>
      simp only [Nat.zero_mul, List.drop_zero, encL_cons, List.getElem_cons_zero]
      rw [List.take_append_of_le_length (by rw [Row.len]; exact Nat.le_refl _), List.take_of_length_le (by rw [Row.len]; exact Nat.le_refl _)]
    | succ i =>
      have := ih i (by simpa using h)
      rw [encL_cons, Nat.succ_mul, Nat.add_comm, ← List.drop_drop]
      have h2 : (Row.enc a ++ encL l).drop (Row.sz α) = encL l := by
        have := Row.len a
        rw [← this, List.drop_left]
      rw [h2]
      simpa using this
theorem encL_take (l : List α) (n : Nat) : (encL l).take (n * Row.sz α) = encL (l.take n) := by
  induction l generalizing n with
  | nil => simp [encL]
  | cons a l ih =>
    cases n with
    | zero => simp [encL]
    | succ n =>
      have hl := Row.len a
      rw [encL_cons, List.take_succ_cons, encL_cons, Nat.succ_mul, Nat.add_comm, ← ih n, List.take_append, hl]
      rw [List.take_of_length_le (by omega)]
      congr 2
      omega
theorem encL_drop (l : List α) (n : Nat) : (encL l).drop (n * Row.sz α) = encL (l.drop n) := by
  induction l generalizing n with
  | nil => simp [encL]
  | cons a l ih =>
    cases n with
    | zero => simp
    | succ n =>
      have hl := Row.len a
      rw [encL_cons, List.drop_succ_cons, Nat.succ_mul, Nat.add_comm, ← List.drop_drop, ← ih n]
      congr 1
      rw [← hl, List.drop_left]
theorem encL_set (l : List α) (i : Nat) (h : i < l.length) (a : α) : wr (encL l) (i * Row.sz α) (Row.enc a) = encL (l.set i a) := by
  unfold wr
  rw [Row.len, ← Nat.succ_mul, encL_take, encL_drop]
  have : l.set i a = l.take i ++ a :: l.drop (i + 1) := List.set_eq_take_append_cons_drop .. ▸ by rw [if_pos h]
  rw [this, encL_append, encL_cons, List.append_assoc]
end
class Arg (α : Type) where
  enc : α → AV
  dec : AV → Option α
  dec_enc : ∀ a, dec (enc a) = some a
  enc_dec : ∀ x a, dec x = some a → x = enc a
instance listArg {α : Type} [Row α] : Arg (List α) where
  enc l := .lst l.length (encL l)
  dec x := match x with
    | .lst n xs => decL α n xs
    | _ => none
  dec_enc l := decL_encL l
  enc_dec x l h := by
    split at h
    · obtain ⟨h1, h2⟩ := decL_some _ _ _ h
      rw [h1, h2]
    · cases h
theorem dec_lst {α : Type} [Row α] (l : List α) : (Arg.dec (.lst l.length (encL l)) : Option (List α)) = some l := decL_encL l
@[reducible] def aggArg (α : Type) [Row α] : Arg α where
  enc a := .agg (Row.enc a)
  dec x := match x with
    | .agg xs => Row.dec xs
    | _ => none
  dec_enc a := Row.dec_enc a
  enc_dec x a h := by
    split at h
    · rw [Row.enc_dec _ _ h]
    · cases h
/-! ### numbers, words, bools -/
structure Word where
  v : Int
  deriving DecidableEq, Inhabited
instance : Row Int where
  sz := 1
  enc n := [.int .i64 n]
  dec xs := match xs with
    | [.int .i64 n] => some n
    | _ => none
  pos := by decide
  len _ := rfl
  dec_enc _ := rfl
  enc_dec xs a h := by
    split at h
    · cases h; rfl
    · cases h
instance : Row Word where
  sz := 1
  enc n := [.int .u64 n.v]
  dec xs := match xs with
    | [.int .u64 n] => some ⟨n⟩
    | _ => none
  pos := by decide
  len _ := rfl
  dec_enc _ := rfl
  enc_dec xs a h := by
    split at h
    · cases h; rfl
    · cases h
instance : Arg Int where
  enc n := .int .i64 n
  dec x := match x with
    | .int .i64 n => some n
    | _ => none
  dec_enc _ := rfl
  enc_dec x a h := by
    split at h
    · cases h; rfl
    · cases h
instance : Arg Word where
  enc n := .int .u64 n.v
  dec x := match x with
    | .int .u64 n => some ⟨n⟩
    | _ => none
  dec_enc _ := rfl
  enc_dec x a h := by
    split at h
    · cases h; rfl
    · cases h
instance : Arg Bool where
  enc b := .bool b
  dec x := match x with
    | .bool b => some b
    | _ => none
  dec_enc _ := rfl
  enc_dec x a h := by
    split at h
    · cases h; rfl
    · cases h
instance pairArg {α β : Type} [Arg α] [Arg β] : Arg (α × β) where
  enc p := .tup [Arg.enc p.1, Arg.enc p.2]
  dec x := match x with
    | .tup [y, z] => (Arg.dec y).bind fun a => (Arg.dec z).map fun b => (a, b)
    | _ => none
  dec_enc p := by simp [Arg.dec_enc]
  enc_dec x p h := by
    split at h
    · rename_i y z
      rw [Option.bind_eq_some_iff] at h
      obtain ⟨a, ha, h⟩ := h
      rw [Option.map_eq_some_iff] at h
      obtain ⟨b, hb, rfl⟩ := h
      rw [Arg.enc_dec _ _ ha, Arg.enc_dec _ _ hb]
    · cases h
end Go.Co
