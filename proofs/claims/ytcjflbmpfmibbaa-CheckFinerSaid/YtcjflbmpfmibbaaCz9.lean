/- CO: texts of this claim, one behind the other. -/
import Derived.Test.YtcjflbmpfmibbaaCz1
import Derived.Test.YtcjflbmpfmibbaaCz2
import Derived.Test.YtcjflbmpfmibbaaAm4
import Derived.Test.YtcjflbmpfmibbaaCz4
import Derived.Test.YtcjflbmpfmibbaaCz8
import Derived.Test.YtcjflbmpfmibbaaCz7
/- CO: what a statement's reading of an argument says, type by type (written by mkCoSh.py). -/
namespace Go.Co
open Go.Am Go.RowKit
set_option linter.unusedVariables false
theorem okR_nil {xs : List AV} (h : okR [] xs) : xs = [] := by
  cases xs with
  | nil => rfl
  | cons x xs => simp [okR] at h
theorem okR_cons {s : Shp} {ss : List Shp} {xs : List AV} (h : okR (s :: ss) xs) : ∃ x ys, xs = x :: ys ∧ okS s x ∧ okR ss ys := by
  cases xs with
  | nil => simp [okR] at h
  | cons x xs => simp only [okR] at h; exact ⟨x, xs, rfl, h.1, h.2⟩
theorem okS_int {x : AV} (h : okS (.int .i64) x) : ∃ n, x = .int .i64 n ∧ ok64 n := by
  cases x <;> simp only [okS] at h
  obtain ⟨rfl, h1, h2⟩ := h
  exact ⟨_, rfl, h1, h2⟩
theorem okS_word {x : AV} (h : okS (.int .u64) x) : ∃ n, x = .int .u64 n ∧ okW n := by
  cases x <;> simp only [okS] at h
  obtain ⟨rfl, h1, h2⟩ := h
  exact ⟨_, rfl, h1, Int.lt_of_le_of_lt h2 (by decide)⟩
theorem okS_bool {x : AV} (h : okS .bool x) : ∃ b, x = .bool b := by
  cases x <;> simp only [okS] at h
  exact ⟨_, rfl⟩
class Sh (α : Type) [Row α] where
  ss : List Shp
  good : α → Prop
  len : ss.length = Row.sz α
  read : ∀ xs, okR ss xs → ∃ a, xs = Row.enc a ∧ good a
theorem rows_read {α : Type} [Row α] [Sh α] : ∀ (n : Nat) (xs : List AV), xs.length = n * Row.sz α → (∀ i, i < n → okR (Sh.ss α) ((xs.drop (i * Row.sz α)).take (Row.sz α))) → ∃ l : List α, l.length = n ∧ xs = encL l ∧ ∀ a ∈ l, Sh.good a
  | 0, xs, h, _ => ⟨[], rfl, by rw [encL_nil]; exact List.eq_nil_of_length_eq_zero (by simpa using h), by simp⟩
  | n + 1, xs, h, hr => by
    have hp := Row.pos (α := α)
    obtain ⟨a, ha, hg⟩ := Sh.read _ (hr 0 (by omega))
    rw [Nat.succ_mul] at h
    obtain ⟨l, hl, hx, hgl⟩ := rows_read (α := α) n (xs.drop (Row.sz α)) (by rw [List.length_drop]; omega) (fun i hi => by
      have := hr (i + 1) (by omega)
      rw [Nat.succ_mul, Nat.add_comm, ← List.drop_drop] at this
      exact this)
    refine ⟨a :: l, by simp [hl], ?_, ?_⟩
    · rw [encL_cons, ← hx]
      simp only [Nat.zero_mul, List.drop_zero] at ha
      rw [← ha, List.take_append_drop]
    · intro b hb
      rcases List.mem_cons.1 hb with rfl | hb
      · exact hg
      · exact hgl b hb
theorem okS_list {α : Type} [Row α] [Sh α] {x : AV} (h : okS (.sl (Sh.ss α)) x) : ∃ l : List α, x = .lst l.length (encL l) ∧ (∀ a ∈ l, Sh.good a) ∧ l.length ≤ maxLen := by
  cases x <;> simp only [okS] at h
  rename_i n xs
  rw [Sh.len] at h
  obtain ⟨l, rfl, rfl, hg⟩ := rows_read (α := α) n xs h.2.1 h.2.2
  exact ⟨l, rfl, hg, h.1⟩
instance : Sh Int where
  ss := [.int .i64]
  good n := ok64 n
  len := rfl
  read xs h := by
    obtain ⟨x, xs, rfl, h0, h⟩ := okR_cons h
    obtain rfl := okR_nil h
    obtain ⟨n, rfl, b⟩ := okS_int h0
    exact ⟨n, rfl, b⟩
instance : Sh Word where
  ss := [.int .u64]
  good n := okW n.v
  len := rfl
  read xs h := by
    obtain ⟨x, xs, rfl, h0, h⟩ := okR_cons h
    obtain rfl := okR_nil h
    obtain ⟨n, rfl, b⟩ := okS_word h0
    exact ⟨⟨n⟩, rfl, b⟩
instance : Sh Span where
  ss := [.int .i64, .int .i64]
  good a := ok64 a.lo ∧ ok64 a.hi
  len := rfl
  read xs h := by
    obtain ⟨x0, xs, rfl, h0, h⟩ := okR_cons h
    obtain ⟨x1, xs, rfl, h1, h⟩ := okR_cons h
    obtain rfl := okR_nil h
    obtain ⟨v0, rfl, b0⟩ := okS_int h0
    obtain ⟨v1, rfl, b1⟩ := okS_int h1
    exact ⟨⟨v0, v1⟩, rfl, b0, b1⟩
instance : Sh Box where
  ss := [.int .i64, .int .i64, .int .i64, .int .i64, .int .i64, .int .i64, .int .i64, .int .i64, .int .i64, .int .i64]
  good a := ok64 a.s0.lo ∧ ok64 a.s0.hi ∧ ok64 a.s1.lo ∧ ok64 a.s1.hi ∧ ok64 a.s2.lo ∧ ok64 a.s2.hi ∧ ok64 a.s3.lo ∧ ok64 a.s3.hi ∧ ok64 a.s4.lo ∧ ok64 a.s4.hi
  len := rfl
  read xs h := by
    obtain ⟨x0, xs, rfl, h0, h⟩ := okR_cons h
    obtain ⟨x1, xs, rfl, h1, h⟩ := okR_cons h
    obtain ⟨x2, xs, rfl, h2, h⟩ := okR_cons h
    obtain ⟨x3, xs, rfl, h3, h⟩ := okR_cons h
    obtain ⟨x4, xs, rfl, h4, h⟩ := okR_cons h
    obtain ⟨x5, xs, rfl, h5, h⟩ := okR_cons h
    obtain ⟨x6, xs, rfl, h6, h⟩ := okR_cons h
    obtain ⟨x7, xs, rfl, h7, h⟩ := okR_cons h
    obtain ⟨x8, xs, rfl, h8, h⟩ := okR_cons h
    obtain ⟨x9, xs, rfl, h9, h⟩ := okR_cons h
    obtain rfl := okR_nil h
    obtain ⟨v0, rfl, b0⟩ := okS_int h0
    obtain ⟨v1, rfl, b1⟩ := okS_int h1
    obtain ⟨v2, rfl, b2⟩ := okS_int h2
    obtain ⟨v3, rfl, b3⟩ := okS_int h3
    obtain ⟨v4, rfl, b4⟩ := okS_int h4
    obtain ⟨v5, rfl, b5⟩ := okS_int h5
    obtain ⟨v6, rfl, b6⟩ := okS_int h6
    obtain ⟨v7, rfl, b7⟩ := okS_int h7
    obtain ⟨v8, rfl, b8⟩ := okS_int h8
    obtain ⟨v9, rfl, b9⟩ := okS_int h9
    exact ⟨⟨⟨v0, v1⟩, ⟨v2, v3⟩, ⟨v4, v5⟩, ⟨v6, v7⟩, ⟨v8, v9⟩⟩, rfl, b0, b1, b2, b3, b4, b5, b6, b7, b8, b9⟩
instance : Sh Point where
  ss := [.int .i64, .int .i64, .int .i64, .int .i64]
  good a := ok64 a.p0 ∧ ok64 a.p1 ∧ ok64 a.p2 ∧ ok64 a.p3
  len := rfl
  read xs h := by
    obtain ⟨x0, xs, rfl, h0, h⟩ := okR_cons h
    obtain ⟨x1, xs, rfl, h1, h⟩ := okR_cons h
    obtain ⟨x2, xs, rfl, h2, h⟩ := okR_cons h
    obtain ⟨x3, xs, rfl, h3, h⟩ := okR_cons h
    obtain rfl := okR_nil h
    obtain ⟨v0, rfl, b0⟩ := okS_int h0
    obtain ⟨v1, rfl, b1⟩ := okS_int h1
    obtain ⟨v2, rfl, b2⟩ := okS_int h2
    obtain ⟨v3, rfl, b3⟩ := okS_int h3
    exact ⟨⟨v0, v1, v2, v3⟩, rfl, b0, b1, b2, b3⟩
instance : Sh Bias where
  ss := [.int .i64, .int .i64, .int .i64]
  good a := ok64 a.b0 ∧ ok64 a.b1 ∧ ok64 a.b2
  len := rfl
  read xs h := by
    obtain ⟨x0, xs, rfl, h0, h⟩ := okR_cons h
    obtain ⟨x1, xs, rfl, h1, h⟩ := okR_cons h
    obtain ⟨x2, xs, rfl, h2, h⟩ := okR_cons h
    obtain rfl := okR_nil h
    obtain ⟨v0, rfl, b0⟩ := okS_int h0
    obtain ⟨v1, rfl, b1⟩ := okS_int h1
    obtain ⟨v2, rfl, b2⟩ := okS_int h2
    exact ⟨⟨v0, v1, v2⟩, rfl, b0, b1, b2⟩
instance : Sh Node where
  ss := [.bool, .int .i64, .int .i64, .int .i64, .int .i64, .int .i64]
  good a := True ∧ ok64 a.value ∧ ok64 a.feature ∧ ok64 a.cut ∧ ok64 a.left ∧ ok64 a.right
  len := rfl
  read xs h := by
    obtain ⟨x0, xs, rfl, h0, h⟩ := okR_cons h
    obtain ⟨x1, xs, rfl, h1, h⟩ := okR_cons h
    obtain ⟨x2, xs, rfl, h2, h⟩ := okR_cons h
    obtain ⟨x3, xs, rfl, h3, h⟩ := okR_cons h
    obtain ⟨x4, xs, rfl, h4, h⟩ := okR_cons h
    obtain ⟨x5, xs, rfl, h5, h⟩ := okR_cons h
    obtain rfl := okR_nil h
    obtain ⟨v0, rfl⟩ := okS_bool h0
    obtain ⟨v1, rfl, b1⟩ := okS_int h1
    obtain ⟨v2, rfl, b2⟩ := okS_int h2
    obtain ⟨v3, rfl, b3⟩ := okS_int h3
    obtain ⟨v4, rfl, b4⟩ := okS_int h4
    obtain ⟨v5, rfl, b5⟩ := okS_int h5
    exact ⟨⟨v0, v1, v2, v3, v4, v5⟩, rfl, trivial, b1, b2, b3, b4, b5⟩
instance : Sh Tree where
  ss := [.int .i64, .sl (Sh.ss Word)]
  good a := ok64 a.cls ∧ ((∀ x ∈ a.nodes, Sh.good x) ∧ a.nodes.length ≤ maxLen)
  len := rfl
  read xs h := by
    obtain ⟨x0, xs, rfl, h0, h⟩ := okR_cons h
    obtain ⟨x1, xs, rfl, h1, h⟩ := okR_cons h
    obtain rfl := okR_nil h
    obtain ⟨v0, rfl, b0⟩ := okS_int h0
    obtain ⟨v1, rfl, b1⟩ := okS_list (α := Word) h1
    exact ⟨⟨v0, v1⟩, rfl, b0, b1⟩
instance : Sh Model where
  ss := [.int .i64, .int .i64, .int .i64, .int .i64, .int .i64, .sl (Sh.ss Tree)]
  good a := ok64 a.dim ∧ ok64 a.classes ∧ ok64 a.bias.b0 ∧ ok64 a.bias.b1 ∧ ok64 a.bias.b2 ∧ ((∀ x ∈ a.trees, Sh.good x) ∧ a.trees.length ≤ maxLen)
  len := rfl
  read xs h := by
    obtain ⟨x0, xs, rfl, h0, h⟩ := okR_cons h
    obtain ⟨x1, xs, rfl, h1, h⟩ := okR_cons h
    obtain ⟨x2, xs, rfl, h2, h⟩ := okR_cons h
    obtain ⟨x3, xs, rfl, h3, h⟩ := okR_cons h
    obtain ⟨x4, xs, rfl, h4, h⟩ := okR_cons h
    obtain ⟨x5, xs, rfl, h5, h⟩ := okR_cons h
    obtain rfl := okR_nil h
    obtain ⟨v0, rfl, b0⟩ := okS_int h0
    obtain ⟨v1, rfl, b1⟩ := okS_int h1
    obtain ⟨v2, rfl, b2⟩ := okS_int h2
    obtain ⟨v3, rfl, b3⟩ := okS_int h3
    obtain ⟨v4, rfl, b4⟩ := okS_int h4
    obtain ⟨v5, rfl, b5⟩ := okS_list (α := Tree) h5
    exact ⟨⟨v0, v1, ⟨v2, v3, v4⟩, v5⟩, rfl, b0, b1, b2, b3, b4, b5⟩
instance : Sh Piece where
  ss := [.int .i64, .int .i64, .int .i64, .int .i64, .int .i64, .int .i64, .int .i64, .int .i64, .int .i64, .int .i64, .int .i64]
  good a := ok64 a.box.s0.lo ∧ ok64 a.box.s0.hi ∧ ok64 a.box.s1.lo ∧ ok64 a.box.s1.hi ∧ ok64 a.box.s2.lo ∧ ok64 a.box.s2.hi ∧ ok64 a.box.s3.lo ∧ ok64 a.box.s3.hi ∧ ok64 a.box.s4.lo ∧ ok64 a.box.s4.hi ∧ ok64 a.value
  len := rfl
  read xs h := by
    obtain ⟨x0, xs, rfl, h0, h⟩ := okR_cons h
    obtain ⟨x1, xs, rfl, h1, h⟩ := okR_cons h
    obtain ⟨x2, xs, rfl, h2, h⟩ := okR_cons h
    obtain ⟨x3, xs, rfl, h3, h⟩ := okR_cons h
    obtain ⟨x4, xs, rfl, h4, h⟩ := okR_cons h
    obtain ⟨x5, xs, rfl, h5, h⟩ := okR_cons h
    obtain ⟨x6, xs, rfl, h6, h⟩ := okR_cons h
    obtain ⟨x7, xs, rfl, h7, h⟩ := okR_cons h
    obtain ⟨x8, xs, rfl, h8, h⟩ := okR_cons h
    obtain ⟨x9, xs, rfl, h9, h⟩ := okR_cons h
    obtain ⟨x10, xs, rfl, h10, h⟩ := okR_cons h
    obtain rfl := okR_nil h
    obtain ⟨v0, rfl, b0⟩ := okS_int h0
    obtain ⟨v1, rfl, b1⟩ := okS_int h1
    obtain ⟨v2, rfl, b2⟩ := okS_int h2
    obtain ⟨v3, rfl, b3⟩ := okS_int h3
    obtain ⟨v4, rfl, b4⟩ := okS_int h4
    obtain ⟨v5, rfl, b5⟩ := okS_int h5
    obtain ⟨v6, rfl, b6⟩ := okS_int h6
    obtain ⟨v7, rfl, b7⟩ := okS_int h7
    obtain ⟨v8, rfl, b8⟩ := okS_int h8
    obtain ⟨v9, rfl, b9⟩ := okS_int h9
    obtain ⟨v10, rfl, b10⟩ := okS_int h10
    exact ⟨⟨⟨⟨v0, v1⟩, ⟨v2, v3⟩, ⟨v4, v5⟩, ⟨v6, v7⟩, ⟨v8, v9⟩⟩, v10⟩, rfl, b0, b1, b2, b3, b4, b5, b6, b7, b8, b9, b10⟩
instance : Sh Step where
  ss := [.bool, .int .i64, .int .i64]
  good a := True ∧ ok64 a.place ∧ ok64 a.cut
  len := rfl
  read xs h := by
    obtain ⟨x0, xs, rfl, h0, h⟩ := okR_cons h
    obtain ⟨x1, xs, rfl, h1, h⟩ := okR_cons h
    obtain ⟨x2, xs, rfl, h2, h⟩ := okR_cons h
    obtain rfl := okR_nil h
    obtain ⟨v0, rfl⟩ := okS_bool h0
    obtain ⟨v1, rfl, b1⟩ := okS_int h1
    obtain ⟨v2, rfl, b2⟩ := okS_int h2
    exact ⟨⟨v0, v1, v2⟩, rfl, trivial, b1, b2⟩
instance : Sh Query where
  ss := [.int .i64, .int .i64, .int .i64, .int .i64, .int .i64, .int .i64, .int .i64, .int .i64, .int .i64, .int .i64, .int .i64, .int .i64, .int .i64, .int .i64, .int .i64, .bool, .int .i64]
  good a := ok64 a.kind ∧ ok64 a.cls ∧ ok64 a.region.s0.lo ∧ ok64 a.region.s0.hi ∧ ok64 a.region.s1.lo ∧ ok64 a.region.s1.hi ∧ ok64 a.region.s2.lo ∧ ok64 a.region.s2.hi ∧ ok64 a.region.s3.lo ∧ ok64 a.region.s3.hi ∧ ok64 a.region.s4.lo ∧ ok64 a.region.s4.hi ∧ ok64 a.lo ∧ ok64 a.hi ∧ ok64 a.feature ∧ True ∧ ok64 a.budget
  len := rfl
  read xs h := by
    obtain ⟨x0, xs, rfl, h0, h⟩ := okR_cons h
    obtain ⟨x1, xs, rfl, h1, h⟩ := okR_cons h
    obtain ⟨x2, xs, rfl, h2, h⟩ := okR_cons h
    obtain ⟨x3, xs, rfl, h3, h⟩ := okR_cons h
    obtain ⟨x4, xs, rfl, h4, h⟩ := okR_cons h
    obtain ⟨x5, xs, rfl, h5, h⟩ := okR_cons h
    obtain ⟨x6, xs, rfl, h6, h⟩ := okR_cons h
    obtain ⟨x7, xs, rfl, h7, h⟩ := okR_cons h
    obtain ⟨x8, xs, rfl, h8, h⟩ := okR_cons h
    obtain ⟨x9, xs, rfl, h9, h⟩ := okR_cons h
    obtain ⟨x10, xs, rfl, h10, h⟩ := okR_cons h
    obtain ⟨x11, xs, rfl, h11, h⟩ := okR_cons h
    obtain ⟨x12, xs, rfl, h12, h⟩ := okR_cons h
    obtain ⟨x13, xs, rfl, h13, h⟩ := okR_cons h
    obtain ⟨x14, xs, rfl, h14, h⟩ := okR_cons h
    obtain ⟨x15, xs, rfl, h15, h⟩ := okR_cons h
    obtain ⟨x16, xs, rfl, h16, h⟩ := okR_cons h
    obtain rfl := okR_nil h
    obtain ⟨v0, rfl, b0⟩ := okS_int h0
    obtain ⟨v1, rfl, b1⟩ := okS_int h1
    obtain ⟨v2, rfl, b2⟩ := okS_int h2
    obtain ⟨v3, rfl, b3⟩ := okS_int h3
    obtain ⟨v4, rfl, b4⟩ := okS_int h4
    obtain ⟨v5, rfl, b5⟩ := okS_int h5
    obtain ⟨v6, rfl, b6⟩ := okS_int h6
    obtain ⟨v7, rfl, b7⟩ := okS_int h7
    obtain ⟨v8, rfl, b8⟩ := okS_int h8
    obtain ⟨v9, rfl, b9⟩ := okS_int h9
    obtain ⟨v10, rfl, b10⟩ := okS_int h10
    obtain ⟨v11, rfl, b11⟩ := okS_int h11
    obtain ⟨v12, rfl, b12⟩ := okS_int h12
    obtain ⟨v13, rfl, b13⟩ := okS_int h13
    obtain ⟨v14, rfl, b14⟩ := okS_int h14
    obtain ⟨v15, rfl⟩ := okS_bool h15
    obtain ⟨v16, rfl, b16⟩ := okS_int h16
    exact ⟨⟨v0, v1, ⟨⟨v2, v3⟩, ⟨v4, v5⟩, ⟨v6, v7⟩, ⟨v8, v9⟩, ⟨v10, v11⟩⟩, v12, v13, v14, v15, v16⟩, rfl, b0, b1, b2, b3, b4, b5, b6, b7, b8, b9, b10, b11, b12, b13, b14, trivial, b16⟩
instance : Sh Verdict where
  ss := [.int .i64, .sl (Sh.ss Step), .int .i64, .int .i64, .int .i64, .int .i64, .int .i64, .int .i64]
  good a := ok64 a.kind ∧ ((∀ x ∈ a.proof, Sh.good x) ∧ a.proof.length ≤ maxLen) ∧ ok64 a.witness.p0 ∧ ok64 a.witness.p1 ∧ ok64 a.witness.p2 ∧ ok64 a.witness.p3 ∧ ok64 a.twin ∧ ok64 a.spent
  len := rfl
  read xs h := by
    obtain ⟨x0, xs, rfl, h0, h⟩ := okR_cons h
    obtain ⟨x1, xs, rfl, h1, h⟩ := okR_cons h
    obtain ⟨x2, xs, rfl, h2, h⟩ := okR_cons h
    obtain ⟨x3, xs, rfl, h3, h⟩ := okR_cons h
    obtain ⟨x4, xs, rfl, h4, h⟩ := okR_cons h
    obtain ⟨x5, xs, rfl, h5, h⟩ := okR_cons h
    obtain ⟨x6, xs, rfl, h6, h⟩ := okR_cons h
    obtain ⟨x7, xs, rfl, h7, h⟩ := okR_cons h
    obtain rfl := okR_nil h
    obtain ⟨v0, rfl, b0⟩ := okS_int h0
    obtain ⟨v1, rfl, b1⟩ := okS_list (α := Step) h1
    obtain ⟨v2, rfl, b2⟩ := okS_int h2
    obtain ⟨v3, rfl, b3⟩ := okS_int h3
    obtain ⟨v4, rfl, b4⟩ := okS_int h4
    obtain ⟨v5, rfl, b5⟩ := okS_int h5
    obtain ⟨v6, rfl, b6⟩ := okS_int h6
    obtain ⟨v7, rfl, b7⟩ := okS_int h7
    exact ⟨⟨v0, v1, ⟨v2, v3, v4, v5⟩, v6, v7⟩, rfl, b0, b1, b2, b3, b4, b5, b6, b7⟩
instance : Sh KTree where
  ss := [.int .i64, .sl (Sh.ss Int), .sl (Sh.ss Int), .sl (Sh.ss Int), .sl (Sh.ss Int)]
  good a := ok64 a.cls ∧ ((∀ x ∈ a.part, Sh.good x) ∧ a.part.length ≤ maxLen) ∧ ((∀ x ∈ a.dir, Sh.good x) ∧ a.dir.length ≤ maxLen) ∧ ((∀ x ∈ a.cut, Sh.good x) ∧ a.cut.length ≤ maxLen) ∧ ((∀ x ∈ a.val, Sh.good x) ∧ a.val.length ≤ maxLen)
  len := rfl
  read xs h := by
    obtain ⟨x0, xs, rfl, h0, h⟩ := okR_cons h
    obtain ⟨x1, xs, rfl, h1, h⟩ := okR_cons h
    obtain ⟨x2, xs, rfl, h2, h⟩ := okR_cons h
    obtain ⟨x3, xs, rfl, h3, h⟩ := okR_cons h
    obtain ⟨x4, xs, rfl, h4, h⟩ := okR_cons h
    obtain rfl := okR_nil h
    obtain ⟨v0, rfl, b0⟩ := okS_int h0
    obtain ⟨v1, rfl, b1⟩ := okS_list (α := Int) h1
    obtain ⟨v2, rfl, b2⟩ := okS_list (α := Int) h2
    obtain ⟨v3, rfl, b3⟩ := okS_list (α := Int) h3
    obtain ⟨v4, rfl, b4⟩ := okS_list (α := Int) h4
    exact ⟨⟨v0, v1, v2, v3, v4⟩, rfl, b0, b1, b2, b3, b4⟩
instance : Sh Forest where
  ss := [.int .i64, .int .i64, .sl (Sh.ss Int), .sl (Sh.ss KTree)]
  good a := ok64 a.dim ∧ ok64 a.classes ∧ ((∀ x ∈ a.bias, Sh.good x) ∧ a.bias.length ≤ maxLen) ∧ ((∀ x ∈ a.trees, Sh.good x) ∧ a.trees.length ≤ maxLen)
  len := rfl
  read xs h := by
    obtain ⟨x0, xs, rfl, h0, h⟩ := okR_cons h
    obtain ⟨x1, xs, rfl, h1, h⟩ := okR_cons h
    obtain ⟨x2, xs, rfl, h2, h⟩ := okR_cons h
    obtain ⟨x3, xs, rfl, h3, h⟩ := okR_cons h
    obtain rfl := okR_nil h
    obtain ⟨v0, rfl, b0⟩ := okS_int h0
    obtain ⟨v1, rfl, b1⟩ := okS_int h1
    obtain ⟨v2, rfl, b2⟩ := okS_list (α := Int) h2
    obtain ⟨v3, rfl, b3⟩ := okS_list (α := KTree) h3
    exact ⟨⟨v0, v1, v2, v3⟩, rfl, b0, b1, b2, b3⟩
instance : Sh Ask where
  ss := [.int .i64, .int .i64, .int .i64, .int .i64, .int .i64, .int .i64, .bool, .sl (Sh.ss Int)]
  good a := ok64 a.kind ∧ ok64 a.cls ∧ ok64 a.lo ∧ ok64 a.size ∧ ok64 a.feature ∧ ok64 a.budget ∧ True ∧ ((∀ x ∈ a.spans, Sh.good x) ∧ a.spans.length ≤ maxLen)
  len := rfl
  read xs h := by
    obtain ⟨x0, xs, rfl, h0, h⟩ := okR_cons h
    obtain ⟨x1, xs, rfl, h1, h⟩ := okR_cons h
    obtain ⟨x2, xs, rfl, h2, h⟩ := okR_cons h
    obtain ⟨x3, xs, rfl, h3, h⟩ := okR_cons h
    obtain ⟨x4, xs, rfl, h4, h⟩ := okR_cons h
    obtain ⟨x5, xs, rfl, h5, h⟩ := okR_cons h
    obtain ⟨x6, xs, rfl, h6, h⟩ := okR_cons h
    obtain ⟨x7, xs, rfl, h7, h⟩ := okR_cons h
    obtain rfl := okR_nil h
    obtain ⟨v0, rfl, b0⟩ := okS_int h0
    obtain ⟨v1, rfl, b1⟩ := okS_int h1
    obtain ⟨v2, rfl, b2⟩ := okS_int h2
    obtain ⟨v3, rfl, b3⟩ := okS_int h3
    obtain ⟨v4, rfl, b4⟩ := okS_int h4
    obtain ⟨v5, rfl, b5⟩ := okS_int h5
    obtain ⟨v6, rfl⟩ := okS_bool h6
    obtain ⟨v7, rfl, b7⟩ := okS_list (α := Int) h7
    exact ⟨⟨v0, v1, v2, v3, v4, v5, v6, v7⟩, rfl, b0, b1, b2, b3, b4, b5, trivial, b7⟩
instance : Sh Cutting where
  ss := [.sl (Sh.ss Int), .sl (Sh.ss Int)]
  good a := ((∀ x ∈ a.place, Sh.good x) ∧ a.place.length ≤ maxLen) ∧ ((∀ x ∈ a.cut, Sh.good x) ∧ a.cut.length ≤ maxLen)
  len := rfl
  read xs h := by
    obtain ⟨x0, xs, rfl, h0, h⟩ := okR_cons h
    obtain ⟨x1, xs, rfl, h1, h⟩ := okR_cons h
    obtain rfl := okR_nil h
    obtain ⟨v0, rfl, b0⟩ := okS_list (α := Int) h0
    obtain ⟨v1, rfl, b1⟩ := okS_list (α := Int) h1
    exact ⟨⟨v0, v1⟩, rfl, b0, b1⟩
variable {P : Program} {t : TypeId} {x : AV}
theorem arg_agg {α : Type} [Row α] [Sh α] (h1 : isAggT P t = true) (h2 : shp P 20 t = some (Sh.ss α)) (h : argOk P t x) : ∃ a : α, x = .agg (Row.enc a) ∧ Sh.good a := by
  unfold argOk at h
  rw [h1] at h
  obtain ⟨xs, ss, rfl, hs, hr⟩ := h
  rw [h2] at hs
  cases hs
  obtain ⟨a, rfl, hg⟩ := Sh.read _ hr
  exact ⟨a, rfl, hg⟩
theorem arg_cell {s : Shp} (h1 : isAggT P t = false) (h2 : shp P 20 t = some [s]) (h : argOk P t x) : okS s x := by
  unfold argOk at h
  rw [h1] at h
  obtain ⟨s', hs, hr⟩ := h
  rw [h2] at hs
  cases hs
  exact hr
theorem arg_int (h1 : isAggT P t = false) (h2 : shp P 20 t = some [.int .i64]) (h : argOk P t x) : ∃ n, x = .int .i64 n ∧ ok64 n := okS_int (arg_cell h1 h2 h)
theorem argsOk_cons {t : TypeId} {ts : List TypeId} {xs : List AV} (h : argsOk P (t :: ts) xs) : ∃ x ys, xs = x :: ys ∧ argOk P t x ∧ argsOk P ts ys := by
  cases xs with
  | nil => simp [argsOk] at h
  | cons x xs => simp only [argsOk] at h; exact ⟨x, xs, rfl, h.1, h.2⟩
theorem argsOk_nil {xs : List AV} (h : argsOk P [] xs) : xs = [] := by
  cases xs with
  | nil => rfl
  | cons x xs => simp [argsOk] at h
end Go.Co
/- CO: pieces that meet, groups, levels. -/
namespace Go.Co
open Go.Am
set_option linter.unusedSimpArgs false
set_option linter.unusedVariables false
instance rowList {α : Type} [Row α] : Row (List α) where
  sz := 1
  enc l := [.lst l.length (encL l)]
  dec xs := match xs with
    | [.lst n ys] => decL α n ys
    | _ => none
  pos := by decide
  len _ := rfl
  dec_enc l := decL_encL l
  enc_dec xs a h := by
    split at h
    · obtain ⟨h1, h2⟩ := decL_some _ _ _ h
      rw [h1, h2]
    · cases h
@[simp] theorem enc_rowList {α : Type} [Row α] (l : List α) : Row.enc l = [.lst l.length (encL l)] := rfl
@[simp] theorem sz_rowList {α : Type} [Row α] : Row.sz (List α) = 1 := rfl
instance {α : Type} [Row α] : Cells (List α) := ⟨fun _ => rfl⟩
def meetB (a b : Box) : Box := ⟨meetS a.s0 b.s0, meetS a.s1 b.s1, meetS a.s2 b.s2, meetS a.s3 b.s3, meetS a.s4 b.s4⟩
def meetF (x y : Piece) : Option Piece := if (meetB x.box y.box).empty then none else some ⟨meetB x.box y.box, x.value + y.value⟩
def row (x : Piece) (b : List Piece) : List Piece := b.filterMap (meetF x)
def smallG (k : Nat) (gs : List (List Piece)) : Prop := ∀ g ∈ gs, (∀ x ∈ g, -(2 : Int) ^ k ≤ x.value ∧ x.value ≤ (2 : Int) ^ k) ∧ g.length ≤ 1073741824
theorem pow_up {j k : Nat} (h : j ≤ k) : (2 : Int) ^ j ≤ 2 ^ k := by
  have : (2 : Nat) ^ j ≤ 2 ^ k := Nat.pow_le_pow_right (by omega) h
  exact_mod_cast this
theorem smallG.up {j k : Nat} (h : j ≤ k) {gs : List (List Piece)} (hs : smallG j gs) : smallG k gs := by
  intro g hg
  refine ⟨fun x hx => ?_, (hs g hg).2⟩
  have h1 := (hs g hg).1 x hx
  have h2 := pow_up h
  omega
end Go.Co
/- CO: what breaks in a cell breaks at its corner; parts of a region. -/
set_option maxHeartbeats 16000000
set_option maxRecDepth 100000
namespace Go.Co
open Go.Am Go.Proofs
set_option linter.unusedSimpArgs false
set_option linter.unusedVariables false
attribute [-simp] Go.Am.eff_gcall
instance {α : Type} [Row α] [Sh α] : Sh (List α) where
  ss := [.sl (Sh.ss α)]
  good l := (∀ a ∈ l, Sh.good a) ∧ l.length ≤ maxLen
  len := rfl
  read xs h := by
    obtain ⟨x0, xs, rfl, h0, h⟩ := okR_cons h
    obtain rfl := okR_nil h
    obtain ⟨l, rfl, hg, hl⟩ := okS_list h0
    exact ⟨l, rfl, hg, hl⟩
def c92_0 : ACode := .ops [⟨some 3, .box (.t 0) 10, none, []⟩,⟨some 4, .box (.t 1) 4, none, []⟩,⟨some 6, .mv (.c (.bool false)), none, []⟩] [2, 3, 4]
theorem r92_0 : type_of% (@rr _ _ c92_0.eq_1) := rr rfl
def c92_1 : ACode := .ops [⟨some 9, .load 4 true (.t 4), none, [4]⟩,⟨some 10, .mv (.c (.int .i64 0)), none, []⟩] [2, 3, 9, 10]
theorem r92_1 : type_of% (@rr _ _ c92_1.eq_1) := rr rfl
def c92_2 : ACode := .ops [⟨some 11, .bin .lss (.t 10) (.c (.int .i64 4)), none, []⟩] [2, 3, 9, 10, 11]
theorem r92_2 : type_of% (@rr _ _ c92_2.eq_1) := rr rfl
def c92_3 : ACode := .cond (.t 11) .skip (.exit 0)
theorem r92_3 : type_of% (@rr _ _ c92_3.eq_1) := rr rfl
def c92_4 : ACode := .ops [⟨some 12, .mv (.t 10), none, []⟩,⟨some 13, .idx (.t 9) (.t 10) 1 4 false, none, []⟩,⟨some 7, .mv (.t 12), none, []⟩,⟨some 8, .mv (.t 13), none, []⟩] [2, 3, 7, 8, 9, 10]
theorem r92_4 : type_of% (@rr _ _ c92_4.eq_1) := rr rfl
def c92_5 : ACode := .ops [⟨some 14, .mv (.t 7), none, []⟩,⟨some 15, .iad (.t 3) (.t 14) 2 5, none, [3]⟩,⟨some 16, .load 2 true (.t 15), none, [3]⟩,⟨some 17, .mv (.t 8), none, []⟩,⟨some 18, .call 108 [.t 16, .t 17], none, []⟩,⟨some 19, .un .not (.t 18), none, []⟩] [2, 3, 9, 10, 19]
theorem r92_5 : type_of% (@rr _ _ c92_5.eq_1) := rr rfl
def c92_6 : ACode := .ops [⟨some 6, .mv (.c (.bool false)), none, []⟩] [6]
theorem r92_6 : type_of% (@rr _ _ c92_6.eq_1) := rr rfl
def c92_7 : ACode := .seq c92_6 .ret
theorem r92_7 : type_of% (@rr _ _ c92_7.eq_1) := rr rfl
def c92_8 : ACode := .cond (.t 19) c92_7 .skip
theorem r92_8 : type_of% (@rr _ _ c92_8.eq_1) := rr rfl
def c92_9 : ACode := .seq c92_5 c92_8
theorem r92_9 : type_of% (@rr _ _ c92_9.eq_1) := rr rfl
def c92_10 : ACode := .seq c92_4 c92_9
theorem r92_10 : type_of% (@rr _ _ c92_10.eq_1) := rr rfl
def c92_11 : ACode := .block 1 c92_10
theorem r92_11 : type_of% (@rr _ _ c92_11.eq_1) := rr rfl
def c92_12 : ACode := .ops [⟨some 20, .bin .add (.t 10) (.c (.int .i64 1)), none, []⟩,⟨some 10, .mv (.t 20), none, []⟩] [2, 3, 9, 10]
theorem r92_12 : type_of% (@rr _ _ c92_12.eq_1) := rr rfl
def c92_13 : ACode := .seq c92_11 c92_12
theorem r92_13 : type_of% (@rr _ _ c92_13.eq_1) := rr rfl
def c92_14 : ACode := .seq c92_3 c92_13
theorem r92_14 : type_of% (@rr _ _ c92_14.eq_1) := rr rfl
def c92_15 : ACode := .seq c92_2 c92_14
theorem r92_15 : type_of% (@rr _ _ c92_15.eq_1) := rr rfl
def c92_16 : ACode := .keep [2, 3, 9, 10] [3] c92_15
theorem r92_16 : type_of% (@rr _ _ c92_16.eq_1) := rr rfl
def c92_17 : ACode := .loop c92_16
theorem r92_17 : type_of% (@rr _ _ c92_17.eq_1) := rr rfl
def c92_18 : ACode := .block 0 c92_17
theorem r92_18 : type_of% (@rr _ _ c92_18.eq_1) := rr rfl
def c92_19 : ACode := .seq c92_1 c92_18
theorem r92_19 : type_of% (@rr _ _ c92_19.eq_1) := rr rfl
def c92_20 : ACode := .ops [⟨some 21, .iad (.t 3) (.c (.int .i64 4)) 2 5, none, [3]⟩,⟨some 22, .load 2 true (.t 21), none, [3]⟩,⟨some 23, .mv (.t 2), none, []⟩,⟨some 24, .call 108 [.t 22, .t 23], none, []⟩,⟨some 6, .mv (.t 24), none, []⟩] [6]
theorem r92_20 : type_of% (@rr _ _ c92_20.eq_1) := rr rfl
def c92_21 : ACode := .seq c92_20 .ret
theorem r92_21 : type_of% (@rr _ _ c92_21.eq_1) := rr rfl
def c92_22 : ACode := .seq c92_19 c92_21
theorem r92_22 : type_of% (@rr _ _ c92_22.eq_1) := rr rfl
def c92_23 : ACode := .seq c92_0 c92_22
theorem r92_23 : type_of% (@rr _ _ c92_23.eq_1) := rr rfl
def a92 : AFun := ⟨3, 25, c92_23, [.t 6]⟩
attribute [simp] r92_0 r92_1 r92_2 r92_3 r92_4 r92_5 r92_6 r92_7 r92_8 r92_9 r92_10 r92_11 r92_12 r92_13 r92_14 r92_15 r92_16 r92_17 r92_18 r92_19 r92_20 r92_21 r92_22 r92_23
theorem m92 : mFun Try.prog Try.f92 a92 = true := by decide +kernel
def hasB (b : Box) (p : Point) (t : Int) : Bool := b.s0.has p.p0 && b.s1.has p.p1 && b.s2.has p.p2 && b.s3.has p.p3 && b.s4.has t
theorem runs_Has (b : Box) (p : Point) (t : Int) (c : Bool) (h : some (hasB b p t) = some c) : Runs (tbl [(108, sp2 fun (s : Span) n => some (s.has n))]) a92 [Arg.enc b, Arg.enc p, Arg.enc t] (Arg.enc c) := by
  cases h
  refine ⟨rfl, fun g => run_def ?_⟩
  unfold a92
  cases h0 : b.s0.has p.p0
  case false => simp -implicitDefEqProofs [hasB, run_round, h0]
  cases h1 : b.s1.has p.p1
  case false => simp -implicitDefEqProofs [hasB, run_round, h0, h1]
  cases h2 : b.s2.has p.p2
  case false => simp -implicitDefEqProofs [hasB, run_round, h0, h1, h2]
  cases h3 : b.s3.has p.p3
  case false => simp -implicitDefEqProofs [hasB, run_round, h0, h1, h2, h3]
  simp -implicitDefEqProofs [hasB, run_round, h0, h1, h2, h3]
theorem c_Has : Contract Try.prog 92 (sp3 fun b p t => some (hasB b p t)) :=
  contract_of_runs mixed (tbl_cons c_sHas tbl_nil) Try.func92 m92 (sp3_runs runs_Has)
end Go.Co
/- CO: pairs. -/
namespace Go.Co
open Go.Am Go.Proofs
set_option linter.unusedSimpArgs false
set_option linter.unusedVariables false
def firstB (q : Query) (b : Box) : Box := if paired q then { b with s4 := ⟨0, 0⟩ } else b
def secondB (q : Query) (b : Box) : Box := if paired q then { b.set q.feature b.s4 with s4 := ⟨0, 0⟩ } else b
def orderedB (q : Query) (b : Box) : Bool := paired q && !b.empty && decide ((b.get q.feature).lo < b.s4.hi)
def changeM (m : Model) (q : Query) (b : Box) : Tri Int Int Bool :=
  if paired q && (boundM m q.cls (firstB q b)).c && (boundM m q.cls (secondB q b)).c then
    ⟨(boundM m q.cls (secondB q b)).a - (boundM m q.cls (firstB q b)).b, (boundM m q.cls (secondB q b)).b - (boundM m q.cls (firstB q b)).a, true⟩ else ⟨0, 0, false⟩
end Go.Co
/- CO: what changes of pairs are. -/
namespace Go.Co
open Go.Am Go.Proofs
set_option linter.unusedSimpArgs false
set_option linter.unusedVariables false
theorem first_in {q : Query} (hp : paired q = true) {b : Box} {p : Point} {t : Int} : InB (firstB q b) p t ↔ (t = 0 ∧ InS b.s0 p.p0 ∧ InS b.s1 p.p1 ∧ InS b.s2 p.p2 ∧ InS b.s3 p.p3) := by
  unfold firstB InB
  rw [if_pos hp]
  simp only
  constructor
  · rintro ⟨h0, h1, h2, h3, h4⟩
    exact ⟨by unfold InS at h4; simp only at h4; omega, h0, h1, h2, h3⟩
  · rintro ⟨rfl, h0, h1, h2, h3⟩
    exact ⟨h0, h1, h2, h3, by unfold InS; simp⟩
theorem second_in {q : Query} (hp : paired q = true) {b : Box} {p : Point} {t : Int} (h : InB b p t) : InB (secondB q b) (p.set q.feature t) 0 := by
  have hf := paired_feature hp
  obtain ⟨h0, h1, h2, h3, h4⟩ := h
  have z : InS ⟨0, 0⟩ 0 := by unfold InS; simp
  unfold secondB
  rw [if_pos hp]
  rcases hf with hf | hf | hf | hf <;> rw [hf] <;> simp only [Box.set, Point.set, InB, if_true, Int.reduceEq, if_false, reduceIte]
  · exact ⟨h4, h1, h2, h3, z⟩
  · exact ⟨h0, h4, h2, h3, z⟩
  · exact ⟨h0, h1, h4, h3, z⟩
  · exact ⟨h0, h1, h2, h4, z⟩
theorem second_back {q : Query} (hp : paired q = true) {b : Box} (he : b.empty = false) {p : Point} {t : Int} (h : InB (secondB q b) p t) : t = 0 ∧ ∃ p' t', InB b p' t' ∧ p = p'.set q.feature t' := by
  have hf := paired_feature hp
  obtain ⟨p0, t0, h0, h1, h2, h3, h4⟩ := empty_false.1 he
  unfold secondB at h
  rw [if_pos hp] at h
  rcases hf with hf | hf | hf | hf <;> rw [hf] at h ⊢ <;> simp only [Box.set, InB, if_true, Int.reduceEq, if_false, reduceIte] at h <;> obtain ⟨k0, k1, k2, k3, k4⟩ := h <;>
    refine ⟨by unfold InS at k4; simp only at k4; omega, ?_⟩
  · exact ⟨⟨p0.p0, p.p1, p.p2, p.p3⟩, p.p0, ⟨h0, k1, k2, k3, k0⟩, rfl⟩
  · exact ⟨⟨p.p0, p0.p1, p.p2, p.p3⟩, p.p1, ⟨k0, h1, k2, k3, k1⟩, rfl⟩
  · exact ⟨⟨p.p0, p.p1, p0.p2, p.p3⟩, p.p2, ⟨k0, k1, h2, k3, k2⟩, rfl⟩
  · exact ⟨⟨p.p0, p.p1, p.p2, p0.p3⟩, p.p3, ⟨k0, k1, k2, h3, k3⟩, rfl⟩
theorem first_some {q : Query} (hp : paired q = true) {b : Box} (he : b.empty = false) : (firstB q b).empty = false := by
  obtain ⟨p, t, h0, h1, h2, h3, h4⟩ := empty_false.1 he
  exact empty_false.2 ⟨p, 0, (first_in hp).2 ⟨rfl, h0, h1, h2, h3⟩⟩
theorem second_some {q : Query} (hp : paired q = true) {b : Box} (he : b.empty = false) : (secondB q b).empty = false := by
  obtain ⟨p, t, h⟩ := empty_false.1 he
  exact empty_false.2 ⟨_, _, second_in hp h⟩
theorem change_some {m : Model} {q : Query} (hp : paired q = true) (h0 : 0 ≤ q.cls) (h1 : q.cls < m.classes) {b : Box} (he : b.empty = false) :
    changeM m q b = ⟨(boundP m q.cls (secondB q b)).1 - (boundP m q.cls (firstB q b)).2, (boundP m q.cls (secondB q b)).2 - (boundP m q.cls (firstB q b)).1, true⟩ := by
  have e1 := first_some hp he
  have e2 := second_some hp he
  have a1 : boundM m q.cls (firstB q b) = ⟨(boundP m q.cls (firstB q b)).1, (boundP m q.cls (firstB q b)).2, true⟩ := by unfold boundM; rw [if_neg (by simp [e1]; omega)]
  have a2 : boundM m q.cls (secondB q b) = ⟨(boundP m q.cls (secondB q b)).1, (boundP m q.cls (secondB q b)).2, true⟩ := by unfold boundM; rw [if_neg (by simp [e2]; omega)]
  unfold changeM
  rw [a1, a2, hp]
  rfl
theorem change_part {m : Model} (hm : RM m) {q : Query} (hp : paired q = true) (h0 : 0 ≤ q.cls) (h1 : q.cls < m.classes) {b z : Box} (hz : z.empty = false) (hsub : ∀ p t, InB z p t → InB b p t) :
    (changeM m q z).c = true ∧ (changeM m q b).a ≤ (changeM m q z).a ∧ (changeM m q z).b ≤ (changeM m q b).b := by
  have hb : b.empty = false := by
    obtain ⟨p, t, h⟩ := empty_false.1 hz
    exact empty_false.2 ⟨p, t, hsub p t h⟩
  rw [change_some hp h0 h1 hz, change_some hp h0 h1 hb]
  have hf := bound_part hm q.cls (first_some hp hz) (b := firstB q b) (fun p t h => by
    obtain ⟨rfl, k0, k1, k2, k3⟩ := (first_in hp).1 h
    obtain ⟨p0, t0, hh⟩ := empty_false.1 hz
    have := hsub p t0 ⟨k0, k1, k2, k3, hh.2.2.2.2⟩
    exact (first_in hp).2 ⟨rfl, this.1, this.2.1, this.2.2.1, this.2.2.2.1⟩)
  have hs := bound_part hm q.cls (second_some hp hz) (b := secondB q b) (fun p t h => by
    obtain ⟨rfl, p', t', h', rfl⟩ := second_back hp hz h
    exact second_in hp (hsub p' t' h'))
  refine ⟨rfl, ?_, ?_⟩
  · simp only; omega
  · simp only; omega
end Go.Co
/- CO: do sums show what is asked within a box? where is it cut? -/
namespace Go.Co
open Go.Am Go.Proofs
set_option linter.unusedSimpArgs false
set_option linter.unusedVariables false
attribute [-simp] Go.Am.eff_gcall
def ahead (m : Model) (c : Int) (b : Box) : Prop := ∀ o : Int, 0 ≤ o → o < m.classes → o ≠ c → 0 < marD m c b o
theorem margin_pos {m : Model} {c : Int} {b : Box} (h0 : 0 ≤ c) (h1 : c < m.classes) (h2 : m.classes = 2 ∨ m.classes = 3) : 0 < margin m c b ↔ ahead m c b := by
  unfold margin ahead
  have hm2 := min2_le (a := marD m c b (other1 c)) (b := marD m c b (other2 c))
  rcases h2 with e | e
  · rw [if_pos e]
    have hc : c = 0 ∨ c = 1 := by omega
    constructor
    · intro h o o0 o1 oc
      have : o = other1 c := by unfold other1; split <;> omega
      rw [this]; exact h
    · intro h
      exact h _ (by unfold other1; split <;> omega) (by unfold other1; split <;> omega) (by unfold other1; split <;> omega)
  · rw [if_neg (by omega)]
    have hc : c = 0 ∨ c = 1 ∨ c = 2 := by omega
    constructor
    · intro h o o0 o1 oc
      have : o = other1 c ∨ o = other2 c := by unfold other1 other2; split <;> split <;> omega
      rcases this with e2 | e2 <;> rw [e2] <;> omega
    · intro h
      have k1 := h (other1 c) (by unfold other1; split <;> omega) (by unfold other1; split <;> omega) (by unfold other1; split <;> omega)
      have k2 := h (other2 c) (by unfold other2; split <;> omega) (by unfold other2; split <;> omega) (by unfold other2; split <;> omega)
      omega
def closedM (m : Model) (q : Query) (b : Box) : Bool :=
  if okQuery m q = false then false else if b.empty then true else
  if q.kind = 1 then (boundM m q.cls b).c && decide (q.lo ≤ (boundM m q.cls b).a) && decide ((boundM m q.cls b).b ≤ q.hi) else
  if q.kind = 2 then decide (0 < margin m q.cls b) else
  if orderedB q b then (changeM m q b).c && (if q.falls then decide ((changeM m q b).b ≤ 0) else decide (0 ≤ (changeM m q b).a)) else true
def Shown (m : Model) (q : Query) (b : Box) : Prop :=
  (q.kind = 1 ∧ q.lo ≤ (boundP m q.cls b).1 ∧ (boundP m q.cls b).2 ≤ q.hi) ∨ (q.kind = 2 ∧ ahead m q.cls b) ∨
  (q.kind = 3 ∧ ((b.get q.feature).lo < b.s4.hi → (if q.falls then (changeM m q b).b ≤ 0 else 0 ≤ (changeM m q b).a)))
theorem closed_iff {m : Model} (hm : RM m) {q : Query} (hq : okQuery m q = true) {b : Box} (hb : b.empty = false) : closedM m q b = true ↔ Shown m q b := by
  have hs := okQuery_spec hq
  have hk := okKind_spec hs.2.2.2.2.2
  have hcl := hm.classes
  have hd := hm.dim
  unfold closedM Shown
  rw [if_neg (by simp [hq]), if_neg (by simp [hb])]
  have hB : boundM m q.cls b = ⟨(boundP m q.cls b).1, (boundP m q.cls b).2, true⟩ := by unfold boundM; rw [if_neg (by simp [hb]; omega)]
  rcases hk with ⟨k, _⟩ | ⟨k, k2, _⟩ | ⟨k, f0, f1, _⟩
  · rw [if_pos k, hB]
    simp [k]
  · rw [if_neg (by omega), if_pos k, decide_eq_true_eq, margin_pos hs.1 hs.2.1 (by omega)]
    simp [k]
  · have hp : paired q = true := by unfold paired; simp; omega
    have ho : orderedB q b = decide ((b.get q.feature).lo < b.s4.hi) := by unfold orderedB; rw [hp, hb]; rfl
    have hc : (changeM m q b).c = true := by rw [change_some hp hs.1 hs.2.1 hb]
    rw [if_neg (by omega), if_neg (by omega), ho, hc]
    by_cases h : (b.get q.feature).lo < b.s4.hi
    · cases hf : q.falls <;> simp [k, h]
    · simp [k, h]
theorem closed_part {m : Model} (hm : RM m) {q : Query} {b x : Box} (h : closedM m q b = true) (hx : ∀ p t, InB x p t → InB b p t) : closedM m q x = true := by
  have hq : okQuery m q = true := by
    cases hq : okQuery m q
    · unfold closedM at h; rw [if_pos hq] at h; cases h
    · rfl
  cases he : x.empty
  case true => unfold closedM; rw [if_neg (by simp [hq]), if_pos he]
  obtain ⟨p, t, hp⟩ := empty_false.1 he
  have hb : b.empty = false := empty_false.2 ⟨p, t, hx p t hp⟩
  rw [closed_iff hm hq hb] at h
  rw [closed_iff hm hq he]
  have hs := okQuery_spec hq
  have hk := okKind_spec hs.2.2.2.2.2
  have hd := hm.dim
  have hpt := fun c => bound_part hm c he hx
  rcases h with ⟨k, h1, h2⟩ | ⟨k, h1⟩ | ⟨k, h1⟩
  · have := hpt q.cls
    exact .inl ⟨k, by omega, by omega⟩
  · refine .inr (.inl ⟨k, fun o o0 o1 oc => ?_⟩)
    have k1 := h1 o o0 o1 oc
    have k2 := hpt q.cls
    have k3 := hpt o
    unfold marD at *
    omega
  · refine .inr (.inr ⟨k, fun hlt => ?_⟩)
    have hf : 0 ≤ q.feature ∧ q.feature < m.dim := by omega
    have hpr : paired q = true := by unfold paired; simp; omega
    have hc := change_part hm hpr hs.1 hs.2.1 he hx
    have hlo : (b.get q.feature).lo < b.s4.hi := by
      have hxs := get_spans he
      have low := inB_pt.1 (hx (lowB x) x.s4.hi (low_in he)) q.feature hf.1 (by omega)
      have h4 := inB_pt.1 (hx (lowB x) x.s4.hi (low_in he)) 4 (by omega) (by omega)
      have hl : ptG (lowB x) x.s4.hi q.feature = (x.get q.feature).lo := by
        have : q.feature = 0 ∨ q.feature = 1 ∨ q.feature = 2 ∨ q.feature = 3 := by omega
        rcases this with e | e | e | e <;> rw [e] <;> rfl
      rw [hl] at low
      have h5 : ptG (lowB x) x.s4.hi 4 = x.s4.hi := rfl
      rw [h5] at h4
      have g4 : b.get 4 = b.s4 := rfl
      rw [g4] at h4
      unfold InS at low h4
      omega
    have h1 := h1 hlo
    cases hfa : q.falls
    · rw [hfa] at h1
      simp at h1 ⊢
      omega
    · rw [hfa] at h1
      simp at h1 ⊢
      omega
theorem closed_wrong {m : Model} {q : Query} {b : Box} (h : okQuery m q = false) : closedM m q b = false := by unfold closedM; rw [if_pos h]
noncomputable def ClosedC (m : Model) (q : Query) (b : Box) : Option Bool := Part (RM m ∧ okB b) (closedM m q b)
def midL (l : List Int) : Int := l.getD ((l.length - 1) / 2) 0
def splitFrom (m : Model) (q : Query) (b : Box) : List Int → Tri Int Int Bool
  | [] => ⟨0, 0, false⟩
  | k :: ks => if cutsL m q b k = [] then splitFrom m q b ks else ⟨k, midL (cutsL m q b k), true⟩
def splitM (m : Model) (q : Query) (b : Box) : Tri Int Int Bool := splitFrom m q b [0, 1, 2, 3, 4]
theorem splitFrom_spec (m : Model) (q : Query) (b : Box) : ∀ (ks : List Int), ((splitFrom m q b ks).c = false ∧ splitFrom m q b ks = ⟨0, 0, false⟩ ∧ ∀ k ∈ ks, cutsL m q b k = []) ∨
    ∃ (l r : List Int) (k : Int), ks = l ++ k :: r ∧ cutsL m q b k ≠ [] ∧ (∀ i ∈ l, cutsL m q b i = []) ∧ splitFrom m q b ks = ⟨k, midL (cutsL m q b k), true⟩
  | [] => .inl ⟨rfl, rfl, fun k hk => by simp at hk⟩
  | k :: ks => by
    unfold splitFrom
    by_cases h : cutsL m q b k = []
    · rw [if_pos h]
      rcases splitFrom_spec m q b ks with ⟨h1, h2, h3⟩ | ⟨l, r, j, h1, h2, h3, h4⟩
      · exact .inl ⟨h1, h2, fun i hi => by
          rcases List.mem_cons.1 hi with rfl | hi
          · exact h
          · exact h3 i hi⟩
      · exact .inr ⟨k :: l, r, j, by rw [h1]; rfl, h2, fun i hi => by
          rcases List.mem_cons.1 hi with rfl | hi
          · exact h
          · exact h3 i hi, h4⟩
    · rw [if_neg h]
      exact .inr ⟨[], ks, k, rfl, h, fun i hi => by simp at hi, rfl⟩
noncomputable def SplitC (m : Model) (q : Query) (b : Box) : Option (Tri Int Int Bool) := Part (RM m) (splitM m q b)
end Go.Co
/- CO: a part of a box, by numbers. -/
namespace Go.Co
open Go.Am Go.Proofs
set_option linter.unusedSimpArgs false
set_option linter.unusedVariables false
attribute [-simp] Go.Am.eff_gcall
theorem rd_nlo (b : Box) (i : Nat) (h : i < 5) : rd [.int .i64 b.s0.lo, .int .i64 b.s0.hi, .int .i64 b.s1.lo, .int .i64 b.s1.hi, .int .i64 b.s2.lo, .int .i64 b.s2.hi, .int .i64 b.s3.lo, .int .i64 b.s3.hi, .int .i64 b.s4.lo, .int .i64 b.s4.hi] (i * 2) 1 false = some (.int .i64 (b.get i).lo) := by
  have hf : i = 0 ∨ i = 1 ∨ i = 2 ∨ i = 3 ∨ i = 4 := by omega
  rcases hf with rfl | rfl | rfl | rfl | rfl <;> rfl
theorem rd_nhi (b : Box) (i : Nat) (h : i < 5) : rd [.int .i64 b.s0.lo, .int .i64 b.s0.hi, .int .i64 b.s1.lo, .int .i64 b.s1.hi, .int .i64 b.s2.lo, .int .i64 b.s2.hi, .int .i64 b.s3.lo, .int .i64 b.s3.hi, .int .i64 b.s4.lo, .int .i64 b.s4.hi] (i * 2 + 1) 1 false = some (.int .i64 (b.get i).hi) := by
  have hf : i = 0 ∨ i = 1 ∨ i = 2 ∨ i = 3 ∨ i = 4 := by omega
  rcases hf with rfl | rfl | rfl | rfl | rfl <;> rfl
structure PartOk (b x : Box) : Prop where
  some : x.empty = false
  sub : ∀ i : Int, 0 ≤ i → i < 5 → (b.get i).lo ≤ (x.get i).lo ∧ (x.get i).hi ≤ (b.get i).hi
theorem PartOk.set {b x : Box} (h : PartOk b x) {i : Nat} (hi : i < 5) {s : Span} (h1 : s.lo ≤ s.hi) (h2 : (x.get i).lo ≤ s.lo) (h3 : s.hi ≤ (x.get i).hi) : PartOk b (x.set i s) := by
  refine ⟨empty_get.2 fun j j0 j5 => ?_, fun j j0 j5 => ?_⟩
  · rw [set_get_ite x s (by omega) (by omega) j0 j5]
    split
    · exact h1
    · exact get_spans h.some j
  · rw [set_get_ite x s (by omega) (by omega) j0 j5]
    have := h.sub j j0 j5
    split
    · rename_i e; subst e; omega
    · exact this
theorem PartOk.small {b x : Box} (h : PartOk b x) (hb : smallB b) : smallB x := by
  have key : ∀ i : Int, 0 ≤ i → i < 5 → Co.small (x.get i) := fun i i0 i5 => by
    have h1 := get_small hb i
    have h2 := h.sub i i0 i5
    have h3 := get_spans h.some i
    unfold Co.small at *
    omega
  exact ⟨key 0 (by omega) (by omega), key 1 (by omega) (by omega), key 2 (by omega) (by omega), key 3 (by omega) (by omega), key 4 (by omega) (by omega)⟩
theorem small_ok {b : Box} (h : smallB b) (he : b.empty = false) : okB b := by
  have key : ∀ i : Int, 0 ≤ i → i < 5 → okS64 (b.get i) := fun i i0 i5 => by
    have h1 := get_small h i
    have h2 := get_spans he i
    unfold Co.small at h1
    unfold okS64 ok64
    omega
  exact ⟨key 0 (by omega) (by omega), key 1 (by omega) (by omega), key 2 (by omega) (by omega), key 3 (by omega) (by omega), key 4 (by omega) (by omega)⟩
theorem cut_sub (b : Box) {k : Int} (h0 : 0 ≤ k) (h5 : k < 5) (n : Int) : (∀ p t, InB (cutB b k n).1 p t → InB b p t) ∧ (∀ p t, InB (cutB b k n).2 p t → InB b p t) := by
  unfold cutB
  rw [if_pos ⟨h0, h5⟩]
  constructor
  · intro p t h
    rw [inB_pt] at h ⊢
    intro i i0 i5
    have := h i i0 i5
    simp only at this
    rw [set_get_ite b _ h0 h5 i0 i5] at this
    split at this
    · rename_i e
      subst e
      exact ((cutS_1 _ _ _).1 this).1
    · exact this
  · intro p t h
    rw [inB_pt] at h ⊢
    intro i i0 i5
    have := h i i0 i5
    simp only at this
    rw [set_get_ite b _ h0 h5 i0 i5] at this
    split at this
    · rename_i e
      subst e
      exact ((cutS_2 _ _ _).1 this).1
    · exact this
end Go.Co
