/- CO: texts of this claim, one behind the other. -/
import Derived.Test.YtlbfmeijjgphfaaGreatCz1
import Derived.Test.YtlbfmeijjgphfaaGreatCz2
import Derived.Test.YtlbfmeijjgphfaaGreatAm4
import Derived.Test.YtlbfmeijjgphfaaGreatCz4
import Derived.Test.YtlbfmeijjgphfaaGreatCz9
import Derived.Test.YtlbfmeijjgphfaaGreatCz7
set_option linter.unusedVariables false
set_option linter.unusedSimpArgs false
/- CO: what a statement's reading of an argument says, type by type (written by mkCoSh.py). -/
namespace Go.Co
open Go.Am Go.RowKit
theorem okR_nil {xs : List AV} (h : okR [] xs) : xs = [] := by
  cases xs with
  | nil => rfl
  | cons x xs => simp [okR] at h
theorem okR_cons {s : Shp} {ss : List Shp} {xs : List AV} (h : okR (s :: ss) xs) : ∃ x ys, xs = x :: ys ∧ okS s x ∧ okR ss ys := by
  cases xs with
  | nil => simp [okR] at h
  | cons x xs => simp only [okR] at h; exact ⟨x, xs, rfl, h.1, h.2⟩
theorem okS_int {x : AV} (h : okS (.int .i64) x) : ∃ n, x = .int .i64 n ∧ ok64 n := by
  cases x <;> simp only [okS] at h
  obtain ⟨rfl, h1, h2⟩ := h
  exact ⟨_, rfl, h1, h2⟩
theorem okS_word {x : AV} (h : okS (.int .u64) x) : ∃ n, x = .int .u64 n ∧ okW n := by
  cases x <;> simp only [okS] at h
  obtain ⟨rfl, h1, h2⟩ := h
  exact ⟨_, rfl, h1, Int.lt_of_le_of_lt h2 (by decide)⟩
theorem okS_bool {x : AV} (h : okS .bool x) : ∃ b, x = .bool b := by
  cases x <;> simp only [okS] at h
  exact ⟨_, rfl⟩
class Sh (α : Type) [Row α] where
  ss : List Shp
  good : α → Prop
  len : ss.length = Row.sz α
  read : ∀ xs, okR ss xs → ∃ a, xs = Row.enc a ∧ good a
theorem rows_read {α : Type} [Row α] [Sh α] : ∀ (n : Nat) (xs : List AV), xs.length = n * Row.sz α → (∀ i, i < n → okR (Sh.ss α) ((xs.drop (i * Row.sz α)).take (Row.sz α))) → ∃ l : List α, l.length = n ∧ xs = encL l ∧ ∀ a ∈ l, Sh.good a
  | 0, xs, h, _ => ⟨[], rfl, by rw [encL_nil]; exact List.eq_nil_of_length_eq_zero (by simpa using h), by simp⟩
  | n + 1, xs, h, hr => by
    have hp := Row.pos (α := α)
    obtain ⟨a, ha, hg⟩ := Sh.read _ (hr 0 (by omega))
    rw [Nat.succ_mul] at h
    obtain ⟨l, hl, hx, hgl⟩ := rows_read (α := α) n (xs.drop (Row.sz α)) (by rw [List.length_drop]; omega) (fun i hi => by
      have := hr (i + 1) (by omega)
      rw [Nat.succ_mul, Nat.add_comm, ← List.drop_drop] at this
      exact this)
    refine ⟨a :: l, by simp [hl], ?_, ?_⟩
    · rw [encL_cons, ← hx]
      simp only [Nat.zero_mul, List.drop_zero] at ha
      rw [← ha, List.take_append_drop]
    · intro b hb
      rcases List.mem_cons.1 hb with rfl | hb
      · exact hg
      · exact hgl b hb
theorem okS_list {α : Type} [Row α] [Sh α] {x : AV} (h : okS (.sl (Sh.ss α)) x) : ∃ l : List α, x = .lst l.length (encL l) ∧ (∀ a ∈ l, Sh.good a) ∧ l.length ≤ maxLen := by
  cases x <;> simp only [okS] at h
  rename_i n xs
  rw [Sh.len] at h
  obtain ⟨l, rfl, rfl, hg⟩ := rows_read (α := α) n xs h.2.1 h.2.2
  exact ⟨l, rfl, hg, h.1⟩
instance : Sh Int where
  ss := [.int .i64]
  good n := ok64 n
  len := rfl
  read xs h := by
    obtain ⟨x, xs, rfl, h0, h⟩ := okR_cons h
    obtain rfl := okR_nil h
    obtain ⟨n, rfl, b⟩ := okS_int h0
    exact ⟨n, rfl, b⟩
instance : Sh Word where
  ss := [.int .u64]
  good n := okW n.v
  len := rfl
  read xs h := by
    obtain ⟨x, xs, rfl, h0, h⟩ := okR_cons h
    obtain rfl := okR_nil h
    obtain ⟨n, rfl, b⟩ := okS_word h0
    exact ⟨⟨n⟩, rfl, b⟩
instance : Sh Span where
  ss := [.int .i64, .int .i64]
  good a := ok64 a.lo ∧ ok64 a.hi
  len := rfl
  read xs h := by
    obtain ⟨x0, xs, rfl, h0, h⟩ := okR_cons h
    obtain ⟨x1, xs, rfl, h1, h⟩ := okR_cons h
    obtain rfl := okR_nil h
    obtain ⟨v0, rfl, b0⟩ := okS_int h0
    obtain ⟨v1, rfl, b1⟩ := okS_int h1
    exact ⟨⟨v0, v1⟩, rfl, b0, b1⟩
instance : Sh Box where
  ss := [.int .i64, .int .i64, .int .i64, .int .i64, .int .i64, .int .i64, .int .i64, .int .i64, .int .i64, .int .i64]
  good a := ok64 a.s0.lo ∧ ok64 a.s0.hi ∧ ok64 a.s1.lo ∧ ok64 a.s1.hi ∧ ok64 a.s2.lo ∧ ok64 a.s2.hi ∧ ok64 a.s3.lo ∧ ok64 a.s3.hi ∧ ok64 a.s4.lo ∧ ok64 a.s4.hi
  len := rfl
  read xs h := by
    obtain ⟨x0, xs, rfl, h0, h⟩ := okR_cons h
    obtain ⟨x1, xs, rfl, h1, h⟩ := okR_cons h
    obtain ⟨x2, xs, rfl, h2, h⟩ := okR_cons h
    obtain ⟨x3, xs, rfl, h3, h⟩ := okR_cons h
    obtain ⟨x4, xs, rfl, h4, h⟩ := okR_cons h
    obtain ⟨x5, xs, rfl, h5, h⟩ := okR_cons h
    obtain ⟨x6, xs, rfl, h6, h⟩ := okR_cons h
    obtain ⟨x7, xs, rfl, h7, h⟩ := okR_cons h
    obtain ⟨x8, xs, rfl, h8, h⟩ := okR_cons h
    obtain ⟨x9, xs, rfl, h9, h⟩ := okR_cons h
    obtain rfl := okR_nil h
    obtain ⟨v0, rfl, b0⟩ := okS_int h0
    obtain ⟨v1, rfl, b1⟩ := okS_int h1
    obtain ⟨v2, rfl, b2⟩ := okS_int h2
    obtain ⟨v3, rfl, b3⟩ := okS_int h3
    obtain ⟨v4, rfl, b4⟩ := okS_int h4
    obtain ⟨v5, rfl, b5⟩ := okS_int h5
    obtain ⟨v6, rfl, b6⟩ := okS_int h6
    obtain ⟨v7, rfl, b7⟩ := okS_int h7
    obtain ⟨v8, rfl, b8⟩ := okS_int h8
    obtain ⟨v9, rfl, b9⟩ := okS_int h9
    exact ⟨⟨⟨v0, v1⟩, ⟨v2, v3⟩, ⟨v4, v5⟩, ⟨v6, v7⟩, ⟨v8, v9⟩⟩, rfl, b0, b1, b2, b3, b4, b5, b6, b7, b8, b9⟩
instance : Sh Point where
  ss := [.int .i64, .int .i64, .int .i64, .int .i64]
  good a := ok64 a.p0 ∧ ok64 a.p1 ∧ ok64 a.p2 ∧ ok64 a.p3
  len := rfl
  read xs h := by
    obtain ⟨x0, xs, rfl, h0, h⟩ := okR_cons h
    obtain ⟨x1, xs, rfl, h1, h⟩ := okR_cons h
    obtain ⟨x2, xs, rfl, h2, h⟩ := okR_cons h
    obtain ⟨x3, xs, rfl, h3, h⟩ := okR_cons h
    obtain rfl := okR_nil h
    obtain ⟨v0, rfl, b0⟩ := okS_int h0
    obtain ⟨v1, rfl, b1⟩ := okS_int h1
    obtain ⟨v2, rfl, b2⟩ := okS_int h2
    obtain ⟨v3, rfl, b3⟩ := okS_int h3
    exact ⟨⟨v0, v1, v2, v3⟩, rfl, b0, b1, b2, b3⟩
instance : Sh Bias where
  ss := [.int .i64, .int .i64, .int .i64]
  good a := ok64 a.b0 ∧ ok64 a.b1 ∧ ok64 a.b2
  len := rfl
  read xs h := by
    obtain ⟨x0, xs, rfl, h0, h⟩ := okR_cons h
    obtain ⟨x1, xs, rfl, h1, h⟩ := okR_cons h
    obtain ⟨x2, xs, rfl, h2, h⟩ := okR_cons h
    obtain rfl := okR_nil h
    obtain ⟨v0, rfl, b0⟩ := okS_int h0
    obtain ⟨v1, rfl, b1⟩ := okS_int h1
    obtain ⟨v2, rfl, b2⟩ := okS_int h2
    exact ⟨⟨v0, v1, v2⟩, rfl, b0, b1, b2⟩
instance : Sh Node where
  ss := [.bool, .int .i64, .int .i64, .int .i64, .int .i64, .int .i64]
  good a := True ∧ ok64 a.value ∧ ok64 a.feature ∧ ok64 a.cut ∧ ok64 a.left ∧ ok64 a.right
  len := rfl
  read xs h := by
    obtain ⟨x0, xs, rfl, h0, h⟩ := okR_cons h
    obtain ⟨x1, xs, rfl, h1, h⟩ := okR_cons h
    obtain ⟨x2, xs, rfl, h2, h⟩ := okR_cons h
    obtain ⟨x3, xs, rfl, h3, h⟩ := okR_cons h
    obtain ⟨x4, xs, rfl, h4, h⟩ := okR_cons h
    obtain ⟨x5, xs, rfl, h5, h⟩ := okR_cons h
    obtain rfl := okR_nil h
    obtain ⟨v0, rfl⟩ := okS_bool h0
    obtain ⟨v1, rfl, b1⟩ := okS_int h1
    obtain ⟨v2, rfl, b2⟩ := okS_int h2
    obtain ⟨v3, rfl, b3⟩ := okS_int h3
    obtain ⟨v4, rfl, b4⟩ := okS_int h4
    obtain ⟨v5, rfl, b5⟩ := okS_int h5
    exact ⟨⟨v0, v1, v2, v3, v4, v5⟩, rfl, trivial, b1, b2, b3, b4, b5⟩
instance : Sh Tree where
  ss := [.int .i64, .sl (Sh.ss Word)]
  good a := ok64 a.cls ∧ ((∀ x ∈ a.nodes, Sh.good x) ∧ a.nodes.length ≤ maxLen)
  len := rfl
  read xs h := by
    obtain ⟨x0, xs, rfl, h0, h⟩ := okR_cons h
    obtain ⟨x1, xs, rfl, h1, h⟩ := okR_cons h
    obtain rfl := okR_nil h
    obtain ⟨v0, rfl, b0⟩ := okS_int h0
    obtain ⟨v1, rfl, b1⟩ := okS_list (α := Word) h1
    exact ⟨⟨v0, v1⟩, rfl, b0, b1⟩
instance : Sh Model where
  ss := [.int .i64, .int .i64, .int .i64, .int .i64, .int .i64, .sl (Sh.ss Tree)]
  good a := ok64 a.dim ∧ ok64 a.classes ∧ ok64 a.bias.b0 ∧ ok64 a.bias.b1 ∧ ok64 a.bias.b2 ∧ ((∀ x ∈ a.trees, Sh.good x) ∧ a.trees.length ≤ maxLen)
  len := rfl
  read xs h := by
    obtain ⟨x0, xs, rfl, h0, h⟩ := okR_cons h
    obtain ⟨x1, xs, rfl, h1, h⟩ := okR_cons h
    obtain ⟨x2, xs, rfl, h2, h⟩ := okR_cons h
    obtain ⟨x3, xs, rfl, h3, h⟩ := okR_cons h
    obtain ⟨x4, xs, rfl, h4, h⟩ := okR_cons h
    obtain ⟨x5, xs, rfl, h5, h⟩ := okR_cons h
    obtain rfl := okR_nil h
    obtain ⟨v0, rfl, b0⟩ := okS_int h0
    obtain ⟨v1, rfl, b1⟩ := okS_int h1
    obtain ⟨v2, rfl, b2⟩ := okS_int h2
    obtain ⟨v3, rfl, b3⟩ := okS_int h3
    obtain ⟨v4, rfl, b4⟩ := okS_int h4
    obtain ⟨v5, rfl, b5⟩ := okS_list (α := Tree) h5
    exact ⟨⟨v0, v1, ⟨v2, v3, v4⟩, v5⟩, rfl, b0, b1, b2, b3, b4, b5⟩
instance : Sh Piece where
  ss := [.int .i64, .int .i64, .int .i64, .int .i64, .int .i64, .int .i64, .int .i64, .int .i64, .int .i64, .int .i64, .int .i64]
  good a := ok64 a.box.s0.lo ∧ ok64 a.box.s0.hi ∧ ok64 a.box.s1.lo ∧ ok64 a.box.s1.hi ∧ ok64 a.box.s2.lo ∧ ok64 a.box.s2.hi ∧ ok64 a.box.s3.lo ∧ ok64 a.box.s3.hi ∧ ok64 a.box.s4.lo ∧ ok64 a.box.s4.hi ∧ ok64 a.value
  len := rfl
  read xs h := by
    obtain ⟨x0, xs, rfl, h0, h⟩ := okR_cons h
    obtain ⟨x1, xs, rfl, h1, h⟩ := okR_cons h
    obtain ⟨x2, xs, rfl, h2, h⟩ := okR_cons h
    obtain ⟨x3, xs, rfl, h3, h⟩ := okR_cons h
    obtain ⟨x4, xs, rfl, h4, h⟩ := okR_cons h
    obtain ⟨x5, xs, rfl, h5, h⟩ := okR_cons h
    obtain ⟨x6, xs, rfl, h6, h⟩ := okR_cons h
    obtain ⟨x7, xs, rfl, h7, h⟩ := okR_cons h
    obtain ⟨x8, xs, rfl, h8, h⟩ := okR_cons h
    obtain ⟨x9, xs, rfl, h9, h⟩ := okR_cons h
    obtain ⟨x10, xs, rfl, h10, h⟩ := okR_cons h
    obtain rfl := okR_nil h
    obtain ⟨v0, rfl, b0⟩ := okS_int h0
    obtain ⟨v1, rfl, b1⟩ := okS_int h1
    obtain ⟨v2, rfl, b2⟩ := okS_int h2
    obtain ⟨v3, rfl, b3⟩ := okS_int h3
    obtain ⟨v4, rfl, b4⟩ := okS_int h4
    obtain ⟨v5, rfl, b5⟩ := okS_int h5
    obtain ⟨v6, rfl, b6⟩ := okS_int h6
    obtain ⟨v7, rfl, b7⟩ := okS_int h7
    obtain ⟨v8, rfl, b8⟩ := okS_int h8
    obtain ⟨v9, rfl, b9⟩ := okS_int h9
    obtain ⟨v10, rfl, b10⟩ := okS_int h10
    exact ⟨⟨⟨⟨v0, v1⟩, ⟨v2, v3⟩, ⟨v4, v5⟩, ⟨v6, v7⟩, ⟨v8, v9⟩⟩, v10⟩, rfl, b0, b1, b2, b3, b4, b5, b6, b7, b8, b9, b10⟩
instance : Sh Step where
  ss := [.bool, .int .i64, .int .i64]
  good a := True ∧ ok64 a.place ∧ ok64 a.cut
  len := rfl
  read xs h := by
    obtain ⟨x0, xs, rfl, h0, h⟩ := okR_cons h
    obtain ⟨x1, xs, rfl, h1, h⟩ := okR_cons h
    obtain ⟨x2, xs, rfl, h2, h⟩ := okR_cons h
    obtain rfl := okR_nil h
    obtain ⟨v0, rfl⟩ := okS_bool h0
    obtain ⟨v1, rfl, b1⟩ := okS_int h1
    obtain ⟨v2, rfl, b2⟩ := okS_int h2
    exact ⟨⟨v0, v1, v2⟩, rfl, trivial, b1, b2⟩
instance : Sh Query where
  ss := [.int .i64, .int .i64, .int .i64, .int .i64, .int .i64, .int .i64, .int .i64, .int .i64, .int .i64, .int .i64, .int .i64, .int .i64, .int .i64, .int .i64, .int .i64, .bool, .int .i64]
  good a := ok64 a.kind ∧ ok64 a.cls ∧ ok64 a.region.s0.lo ∧ ok64 a.region.s0.hi ∧ ok64 a.region.s1.lo ∧ ok64 a.region.s1.hi ∧ ok64 a.region.s2.lo ∧ ok64 a.region.s2.hi ∧ ok64 a.region.s3.lo ∧ ok64 a.region.s3.hi ∧ ok64 a.region.s4.lo ∧ ok64 a.region.s4.hi ∧ ok64 a.lo ∧ ok64 a.hi ∧ ok64 a.feature ∧ True ∧ ok64 a.budget
  len := rfl
  read xs h := by
    obtain ⟨x0, xs, rfl, h0, h⟩ := okR_cons h
    obtain ⟨x1, xs, rfl, h1, h⟩ := okR_cons h
    obtain ⟨x2, xs, rfl, h2, h⟩ := okR_cons h
    obtain ⟨x3, xs, rfl, h3, h⟩ := okR_cons h
    obtain ⟨x4, xs, rfl, h4, h⟩ := okR_cons h
    obtain ⟨x5, xs, rfl, h5, h⟩ := okR_cons h
    obtain ⟨x6, xs, rfl, h6, h⟩ := okR_cons h
    obtain ⟨x7, xs, rfl, h7, h⟩ := okR_cons h
    obtain ⟨x8, xs, rfl, h8, h⟩ := okR_cons h
    obtain ⟨x9, xs, rfl, h9, h⟩ := okR_cons h
    obtain ⟨x10, xs, rfl, h10, h⟩ := okR_cons h
    obtain ⟨x11, xs, rfl, h11, h⟩ := okR_cons h
    obtain ⟨x12, xs, rfl, h12, h⟩ := okR_cons h
    obtain ⟨x13, xs, rfl, h13, h⟩ := okR_cons h
    obtain ⟨x14, xs, rfl, h14, h⟩ := okR_cons h
    obtain ⟨x15, xs, rfl, h15, h⟩ := okR_cons h
    obtain ⟨x16, xs, rfl, h16, h⟩ := okR_cons h
    obtain rfl := okR_nil h
    obtain ⟨v0, rfl, b0⟩ := okS_int h0
    obtain ⟨v1, rfl, b1⟩ := okS_int h1
    obtain ⟨v2, rfl, b2⟩ := okS_int h2
    obtain ⟨v3, rfl, b3⟩ := okS_int h3
    obtain ⟨v4, rfl, b4⟩ := okS_int h4
    obtain ⟨v5, rfl, b5⟩ := okS_int h5
    obtain ⟨v6, rfl, b6⟩ := okS_int h6
    obtain ⟨v7, rfl, b7⟩ := okS_int h7
    obtain ⟨v8, rfl, b8⟩ := okS_int h8
    obtain ⟨v9, rfl, b9⟩ := okS_int h9
    obtain ⟨v10, rfl, b10⟩ := okS_int h10
    obtain ⟨v11, rfl, b11⟩ := okS_int h11
    obtain ⟨v12, rfl, b12⟩ := okS_int h12
    obtain ⟨v13, rfl, b13⟩ := okS_int h13
    obtain ⟨v14, rfl, b14⟩ := okS_int h14
    obtain ⟨v15, rfl⟩ := okS_bool h15
    obtain ⟨v16, rfl, b16⟩ := okS_int h16
    exact ⟨⟨v0, v1, ⟨⟨v2, v3⟩, ⟨v4, v5⟩, ⟨v6, v7⟩, ⟨v8, v9⟩, ⟨v10, v11⟩⟩, v12, v13, v14, v15, v16⟩, rfl, b0, b1, b2, b3, b4, b5, b6, b7, b8, b9, b10, b11, b12, b13, b14, trivial, b16⟩
instance : Sh Verdict where
  ss := [.int .i64, .sl (Sh.ss Step), .int .i64, .int .i64, .int .i64, .int .i64, .int .i64, .int .i64]
  good a := ok64 a.kind ∧ ((∀ x ∈ a.proof, Sh.good x) ∧ a.proof.length ≤ maxLen) ∧ ok64 a.witness.p0 ∧ ok64 a.witness.p1 ∧ ok64 a.witness.p2 ∧ ok64 a.witness.p3 ∧ ok64 a.twin ∧ ok64 a.spent
  len := rfl
  read xs h := by
    obtain ⟨x0, xs, rfl, h0, h⟩ := okR_cons h
    obtain ⟨x1, xs, rfl, h1, h⟩ := okR_cons h
    obtain ⟨x2, xs, rfl, h2, h⟩ := okR_cons h
    obtain ⟨x3, xs, rfl, h3, h⟩ := okR_cons h
    obtain ⟨x4, xs, rfl, h4, h⟩ := okR_cons h
    obtain ⟨x5, xs, rfl, h5, h⟩ := okR_cons h
    obtain ⟨x6, xs, rfl, h6, h⟩ := okR_cons h
    obtain ⟨x7, xs, rfl, h7, h⟩ := okR_cons h
    obtain rfl := okR_nil h
    obtain ⟨v0, rfl, b0⟩ := okS_int h0
    obtain ⟨v1, rfl, b1⟩ := okS_list (α := Step) h1
    obtain ⟨v2, rfl, b2⟩ := okS_int h2
    obtain ⟨v3, rfl, b3⟩ := okS_int h3
    obtain ⟨v4, rfl, b4⟩ := okS_int h4
    obtain ⟨v5, rfl, b5⟩ := okS_int h5
    obtain ⟨v6, rfl, b6⟩ := okS_int h6
    obtain ⟨v7, rfl, b7⟩ := okS_int h7
    exact ⟨⟨v0, v1, ⟨v2, v3, v4, v5⟩, v6, v7⟩, rfl, b0, b1, b2, b3, b4, b5, b6, b7⟩
instance : Sh KTree where
  ss := [.int .i64, .sl (Sh.ss Int), .sl (Sh.ss Int), .sl (Sh.ss Int), .sl (Sh.ss Int)]
  good a := ok64 a.cls ∧ ((∀ x ∈ a.part, Sh.good x) ∧ a.part.length ≤ maxLen) ∧ ((∀ x ∈ a.dir, Sh.good x) ∧ a.dir.length ≤ maxLen) ∧ ((∀ x ∈ a.cut, Sh.good x) ∧ a.cut.length ≤ maxLen) ∧ ((∀ x ∈ a.val, Sh.good x) ∧ a.val.length ≤ maxLen)
  len := rfl
  read xs h := by
    obtain ⟨x0, xs, rfl, h0, h⟩ := okR_cons h
    obtain ⟨x1, xs, rfl, h1, h⟩ := okR_cons h
    obtain ⟨x2, xs, rfl, h2, h⟩ := okR_cons h
    obtain ⟨x3, xs, rfl, h3, h⟩ := okR_cons h
    obtain ⟨x4, xs, rfl, h4, h⟩ := okR_cons h
    obtain rfl := okR_nil h
    obtain ⟨v0, rfl, b0⟩ := okS_int h0
    obtain ⟨v1, rfl, b1⟩ := okS_list (α := Int) h1
    obtain ⟨v2, rfl, b2⟩ := okS_list (α := Int) h2
    obtain ⟨v3, rfl, b3⟩ := okS_list (α := Int) h3
    obtain ⟨v4, rfl, b4⟩ := okS_list (α := Int) h4
    exact ⟨⟨v0, v1, v2, v3, v4⟩, rfl, b0, b1, b2, b3, b4⟩
instance : Sh Forest where
  ss := [.int .i64, .int .i64, .sl (Sh.ss Int), .sl (Sh.ss KTree)]
  good a := ok64 a.dim ∧ ok64 a.classes ∧ ((∀ x ∈ a.bias, Sh.good x) ∧ a.bias.length ≤ maxLen) ∧ ((∀ x ∈ a.trees, Sh.good x) ∧ a.trees.length ≤ maxLen)
  len := rfl
  read xs h := by
    obtain ⟨x0, xs, rfl, h0, h⟩ := okR_cons h
    obtain ⟨x1, xs, rfl, h1, h⟩ := okR_cons h
    obtain ⟨x2, xs, rfl, h2, h⟩ := okR_cons h
    obtain ⟨x3, xs, rfl, h3, h⟩ := okR_cons h
    obtain rfl := okR_nil h
    obtain ⟨v0, rfl, b0⟩ := okS_int h0
    obtain ⟨v1, rfl, b1⟩ := okS_int h1
    obtain ⟨v2, rfl, b2⟩ := okS_list (α := Int) h2
    obtain ⟨v3, rfl, b3⟩ := okS_list (α := KTree) h3
    exact ⟨⟨v0, v1, v2, v3⟩, rfl, b0, b1, b2, b3⟩
instance : Sh Ask where
  ss := [.int .i64, .int .i64, .int .i64, .int .i64, .int .i64, .int .i64, .bool, .sl (Sh.ss Int)]
  good a := ok64 a.kind ∧ ok64 a.cls ∧ ok64 a.lo ∧ ok64 a.size ∧ ok64 a.feature ∧ ok64 a.budget ∧ True ∧ ((∀ x ∈ a.spans, Sh.good x) ∧ a.spans.length ≤ maxLen)
  len := rfl
  read xs h := by
    obtain ⟨x0, xs, rfl, h0, h⟩ := okR_cons h
    obtain ⟨x1, xs, rfl, h1, h⟩ := okR_cons h
    obtain ⟨x2, xs, rfl, h2, h⟩ := okR_cons h
    obtain ⟨x3, xs, rfl, h3, h⟩ := okR_cons h
    obtain ⟨x4, xs, rfl, h4, h⟩ := okR_cons h
    obtain ⟨x5, xs, rfl, h5, h⟩ := okR_cons h
    obtain ⟨x6, xs, rfl, h6, h⟩ := okR_cons h
    obtain ⟨x7, xs, rfl, h7, h⟩ := okR_cons h
    obtain rfl := okR_nil h
    obtain ⟨v0, rfl, b0⟩ := okS_int h0
    obtain ⟨v1, rfl, b1⟩ := okS_int h1
    obtain ⟨v2, rfl, b2⟩ := okS_int h2
    obtain ⟨v3, rfl, b3⟩ := okS_int h3
    obtain ⟨v4, rfl, b4⟩ := okS_int h4
    obtain ⟨v5, rfl, b5⟩ := okS_int h5
    obtain ⟨v6, rfl⟩ := okS_bool h6
    obtain ⟨v7, rfl, b7⟩ := okS_list (α := Int) h7
    exact ⟨⟨v0, v1, v2, v3, v4, v5, v6, v7⟩, rfl, b0, b1, b2, b3, b4, b5, trivial, b7⟩
instance : Sh Cutting where
  ss := [.sl (Sh.ss Int), .sl (Sh.ss Int)]
  good a := ((∀ x ∈ a.place, Sh.good x) ∧ a.place.length ≤ maxLen) ∧ ((∀ x ∈ a.cut, Sh.good x) ∧ a.cut.length ≤ maxLen)
  len := rfl
  read xs h := by
    obtain ⟨x0, xs, rfl, h0, h⟩ := okR_cons h
    obtain ⟨x1, xs, rfl, h1, h⟩ := okR_cons h
    obtain rfl := okR_nil h
    obtain ⟨v0, rfl, b0⟩ := okS_list (α := Int) h0
    obtain ⟨v1, rfl, b1⟩ := okS_list (α := Int) h1
    exact ⟨⟨v0, v1⟩, rfl, b0, b1⟩
variable {P : Program} {t : TypeId} {x : AV}
theorem arg_agg {α : Type} [Row α] [Sh α] (h1 : isAggT P t = true) (h2 : shp P 20 t = some (Sh.ss α)) (h : argOk P t x) : ∃ a : α, x = .agg (Row.enc a) ∧ Sh.good a := by
  unfold argOk at h
  rw [h1] at h
  obtain ⟨xs, ss, rfl, hs, hr⟩ := h
  rw [h2] at hs
  cases hs
  obtain ⟨a, rfl, hg⟩ := Sh.read _ hr
  exact ⟨a, rfl, hg⟩
theorem arg_cell {s : Shp} (h1 : isAggT P t = false) (h2 : shp P 20 t = some [s]) (h : argOk P t x) : okS s x := by
  unfold argOk at h
  rw [h1] at h
  obtain ⟨s', hs, hr⟩ := h
  rw [h2] at hs
  cases hs
  exact hr
theorem arg_int (h1 : isAggT P t = false) (h2 : shp P 20 t = some [.int .i64]) (h : argOk P t x) : ∃ n, x = .int .i64 n ∧ ok64 n := okS_int (arg_cell h1 h2 h)
theorem argsOk_cons {t : TypeId} {ts : List TypeId} {xs : List AV} (h : argsOk P (t :: ts) xs) : ∃ x ys, xs = x :: ys ∧ argOk P t x ∧ argsOk P ts ys := by
  cases xs with
  | nil => simp [argsOk] at h
  | cons x xs => simp only [argsOk] at h; exact ⟨x, xs, rfl, h.1, h.2⟩
theorem argsOk_nil {xs : List AV} (h : argsOk P [] xs) : xs = [] := by
  cases xs with
  | nil => rfl
  | cons x xs => simp [argsOk] at h
end Go.Co
/- CO: pieces that meet, groups, levels. -/
namespace Go.Co
open Go.Am
instance rowList {α : Type} [Row α] : Row (List α) where
  sz := 1
  enc l := [.lst l.length (encL l)]
  dec xs := match xs with
    | [.lst n ys] => decL α n ys
    | _ => none
  pos := by decide
  len _ := rfl
  dec_enc l := decL_encL l
  enc_dec xs a h := by
    split at h
    · obtain ⟨h1, h2⟩ := decL_some _ _ _ h
      rw [h1, h2]
    · cases h
@[simp] theorem enc_rowList {α : Type} [Row α] (l : List α) : Row.enc l = [.lst l.length (encL l)] := rfl
@[simp] theorem sz_rowList {α : Type} [Row α] : Row.sz (List α) = 1 := rfl
instance {α : Type} [Row α] : Cells (List α) := ⟨fun _ => rfl⟩
def meetB (a b : Box) : Box := ⟨meetS a.s0 b.s0, meetS a.s1 b.s1, meetS a.s2 b.s2, meetS a.s3 b.s3, meetS a.s4 b.s4⟩
def meetF (x y : Piece) : Option Piece := if (meetB x.box y.box).empty then none else some ⟨meetB x.box y.box, x.value + y.value⟩
def row (x : Piece) (b : List Piece) : List Piece := b.filterMap (meetF x)
def smallG (k : Nat) (gs : List (List Piece)) : Prop := ∀ g ∈ gs, (∀ x ∈ g, -(2 : Int) ^ k ≤ x.value ∧ x.value ≤ (2 : Int) ^ k) ∧ g.length ≤ 1073741824
theorem pow_up {j k : Nat} (h : j ≤ k) : (2 : Int) ^ j ≤ 2 ^ k := by
  have : (2 : Nat) ^ j ≤ 2 ^ k := Nat.pow_le_pow_right (by omega) h
  exact_mod_cast this
theorem smallG.up {j k : Nat} (h : j ≤ k) {gs : List (List Piece)} (hs : smallG j gs) : smallG k gs := by
  intro g hg
  refine ⟨fun x hx => ?_, (hs g hg).2⟩
  have h1 := (hs g hg).1 x hx
  have h2 := pow_up h
  omega
end Go.Co
/- CO: what breaks in a cell breaks at its corner; parts of a region. -/
set_option maxHeartbeats 16000000
set_option maxRecDepth 100000
namespace Go.Co
open Go.Am Go.Proofs
attribute [-simp] Go.Am.eff_gcall
instance {α : Type} [Row α] [Sh α] : Sh (List α) where
  ss := [.sl (Sh.ss α)]
  good l := (∀ a ∈ l, Sh.good a) ∧ l.length ≤ maxLen
  len := rfl
  read xs h := by
    obtain ⟨x0, xs, rfl, h0, h⟩ := okR_cons h
    obtain rfl := okR_nil h
    obtain ⟨l, rfl, hg, hl⟩ := okS_list h0
    exact ⟨l, rfl, hg, hl⟩
def c50_0 : ACode := .ops [⟨some 3, .box (.t 0) 10, none, []⟩,⟨some 4, .box (.t 1) 4, none, []⟩,⟨some 6, .mv (.c (.bool false)), none, []⟩] [2, 3, 4]
theorem r50_0 : type_of% (rr c50_0.eq_1) := rr rfl
def c50_1 : ACode := .ops [⟨some 9, .load 4 true (.t 4), none, [4]⟩,⟨some 10, .mv (.c (.int .i64 0)), none, []⟩] [2, 3, 9, 10]
theorem r50_1 : type_of% (rr c50_1.eq_1) := rr rfl
def c50_2 : ACode := .ops [⟨some 11, .bin .lss (.t 10) (.c (.int .i64 4)), none, []⟩] [2, 3, 9, 10, 11]
theorem r50_2 : type_of% (rr c50_2.eq_1) := rr rfl
def c50_3 : ACode := .cond (.t 11) .skip (.exit 0)
theorem r50_3 : type_of% (rr c50_3.eq_1) := rr rfl
def c50_4 : ACode := .ops [⟨some 12, .mv (.t 10), none, []⟩,⟨some 13, .idx (.t 9) (.t 10) 1 4 false, none, []⟩,⟨some 7, .mv (.t 12), none, []⟩,⟨some 8, .mv (.t 13), none, []⟩] [2, 3, 7, 8, 9, 10]
theorem r50_4 : type_of% (rr c50_4.eq_1) := rr rfl
def c50_5 : ACode := .ops [⟨some 14, .mv (.t 7), none, []⟩,⟨some 15, .iad (.t 3) (.t 14) 2 5, none, [3]⟩,⟨some 16, .load 2 true (.t 15), none, [3]⟩,⟨some 17, .mv (.t 8), none, []⟩,⟨some 18, .call 62 [.t 16, .t 17], none, []⟩,⟨some 19, .un .not (.t 18), none, []⟩] [2, 3, 9, 10, 19]
theorem r50_5 : type_of% (rr c50_5.eq_1) := rr rfl
def c50_6 : ACode := .ops [⟨some 6, .mv (.c (.bool false)), none, []⟩] [6]
theorem r50_6 : type_of% (rr c50_6.eq_1) := rr rfl
def c50_7 : ACode := .seq c50_6 .ret
theorem r50_7 : type_of% (rr c50_7.eq_1) := rr rfl
def c50_8 : ACode := .cond (.t 19) c50_7 .skip
theorem r50_8 : type_of% (rr c50_8.eq_1) := rr rfl
def c50_9 : ACode := .seq c50_5 c50_8
theorem r50_9 : type_of% (rr c50_9.eq_1) := rr rfl
def c50_10 : ACode := .seq c50_4 c50_9
theorem r50_10 : type_of% (rr c50_10.eq_1) := rr rfl
def c50_11 : ACode := .block 1 c50_10
theorem r50_11 : type_of% (rr c50_11.eq_1) := rr rfl
def c50_12 : ACode := .ops [⟨some 20, .bin .add (.t 10) (.c (.int .i64 1)), none, []⟩,⟨some 10, .mv (.t 20), none, []⟩] [2, 3, 9, 10]
theorem r50_12 : type_of% (rr c50_12.eq_1) := rr rfl
def c50_13 : ACode := .seq c50_11 c50_12
theorem r50_13 : type_of% (rr c50_13.eq_1) := rr rfl
def c50_14 : ACode := .seq c50_3 c50_13
theorem r50_14 : type_of% (rr c50_14.eq_1) := rr rfl
def c50_15 : ACode := .seq c50_2 c50_14
theorem r50_15 : type_of% (rr c50_15.eq_1) := rr rfl
def c50_16 : ACode := .keep [2, 3, 9, 10] [3] c50_15
theorem r50_16 : type_of% (rr c50_16.eq_1) := rr rfl
def c50_17 : ACode := .loop c50_16
theorem r50_17 : type_of% (rr c50_17.eq_1) := rr rfl
def c50_18 : ACode := .block 0 c50_17
theorem r50_18 : type_of% (rr c50_18.eq_1) := rr rfl
def c50_19 : ACode := .seq c50_1 c50_18
theorem r50_19 : type_of% (rr c50_19.eq_1) := rr rfl
def c50_20 : ACode := .ops [⟨some 21, .iad (.t 3) (.c (.int .i64 4)) 2 5, none, [3]⟩,⟨some 22, .load 2 true (.t 21), none, [3]⟩,⟨some 23, .mv (.t 2), none, []⟩,⟨some 24, .call 62 [.t 22, .t 23], none, []⟩,⟨some 6, .mv (.t 24), none, []⟩] [6]
theorem r50_20 : type_of% (rr c50_20.eq_1) := rr rfl
def c50_21 : ACode := .seq c50_20 .ret
theorem r50_21 : type_of% (rr c50_21.eq_1) := rr rfl
def c50_22 : ACode := .seq c50_19 c50_21
theorem r50_22 : type_of% (rr c50_22.eq_1) := rr rfl
def c50_23 : ACode := .seq c50_0 c50_22
theorem r50_23 : type_of% (rr c50_23.eq_1) := rr rfl
def a50 : AFun := ⟨3, 25, c50_23, [.t 6]⟩
attribute [simp] r50_0 r50_1 r50_2 r50_3 r50_4 r50_5 r50_6 r50_7 r50_8 r50_9 r50_10 r50_11 r50_12 r50_13 r50_14 r50_15 r50_16 r50_17 r50_18 r50_19 r50_20 r50_21 r50_22 r50_23
theorem m50 : mFun Tryz.prog Tryz.f50 a50 = true := by decide +kernel
theorem point_set_get (p : Point) {k i : Int} (n : Int) (h0 : 0 ≤ k) (h4 : k < 4) (i0 : 0 ≤ i) (i4 : i < 4) : (p.set k n).get i = if i = k then n else p.get i := by
  have h1 : k = 0 ∨ k = 1 ∨ k = 2 ∨ k = 3 := by omega
  have h2 : i = 0 ∨ i = 1 ∨ i = 2 ∨ i = 3 := by omega
  rcases h1 with rfl | rfl | rfl | rfl <;> rcases h2 with rfl | rfl | rfl | rfl <;> rfl
def hasB (b : Box) (p : Point) (t : Int) : Bool := b.s0.has p.p0 && b.s1.has p.p1 && b.s2.has p.p2 && b.s3.has p.p3 && b.s4.has t
theorem hasB_iff {b : Box} {p : Point} {t : Int} : hasB b p t = true ↔ InB b p t := by
  unfold hasB Span.has InB InS
  simp only [Bool.and_eq_true, decide_eq_true_eq]
  constructor
  · rintro ⟨⟨⟨⟨h0, h1⟩, h2⟩, h3⟩, h4⟩; exact ⟨h0, h1, h2, h3, h4⟩
  · rintro ⟨h0, h1, h2, h3, h4⟩; exact ⟨⟨⟨⟨h0, h1⟩, h2⟩, h3⟩, h4⟩
theorem runs_Has (b : Box) (p : Point) (t : Int) (c : Bool) (h : some (hasB b p t) = some c) : Runs (tbl [(62, sp2 fun (s : Span) n => some (s.has n))]) a50 [Arg.enc b, Arg.enc p, Arg.enc t] (Arg.enc c) := by
  cases h
  refine ⟨rfl, fun g => run_def ?_⟩
  unfold a50
  cases h0 : b.s0.has p.p0
  case false => simp -implicitDefEqProofs [hasB, run_round, h0]
  cases h1 : b.s1.has p.p1
  case false => simp -implicitDefEqProofs [hasB, run_round, h0, h1]
  cases h2 : b.s2.has p.p2
  case false => simp -implicitDefEqProofs [hasB, run_round, h0, h1, h2]
  cases h3 : b.s3.has p.p3
  case false => simp -implicitDefEqProofs [hasB, run_round, h0, h1, h2, h3]
  simp -implicitDefEqProofs [hasB, run_round, h0, h1, h2, h3]
theorem c_Has : Contract Tryz.prog 50 (sp3 fun b p t => some (hasB b p t)) :=
  contract_of_runs mixed (tbl_cons c_sHas tbl_nil) Tryz.func50 m50 (sp3_runs runs_Has)
end Go.Co
/- CO: pairs. -/
set_option maxHeartbeats 16000000
set_option maxRecDepth 100000
namespace Go.Co
open Go.Am Go.Proofs
def c56_0 : ACode := .ops [⟨some 1, .box (.t 0) 17, none, []⟩,⟨some 2, .mv (.c (.bool false)), none, []⟩] [1]
theorem r56_0 : type_of% (rr c56_0.eq_1) := rr rfl
def c56_1 : ACode := .ops [⟨some 3, .fad (.t 1) 0, none, [1]⟩,⟨some 4, .load 1 false (.t 3), none, [1]⟩,⟨some 5, .bin .eql (.t 4) (.c (.int .i64 3)), none, []⟩,⟨some 6, .mv (.t 5), none, []⟩,⟨some 7, .fad (.t 1) 14, some (6, true), [1]⟩,⟨some 8, .load 1 false (.t 7), some (6, true), [1]⟩,⟨some 9, .bin .geq (.t 8) (.c (.int .i64 0)), some (6, true), []⟩,⟨some 10, .pick (.t 6) (.t 9) (.c (.bool false)), none, []⟩,⟨some 11, .mv (.t 10), none, []⟩,⟨some 12, .fad (.t 1) 14, some (11, true), [1]⟩,⟨some 13, .load 1 false (.t 12), some (11, true), [1]⟩,⟨some 14, .bin .lss (.t 13) (.c (.int .i64 4)), some (11, true), []⟩,⟨some 15, .pick (.t 11) (.t 14) (.c (.bool false)), none, []⟩,⟨some 2, .mv (.t 15), none, []⟩] [2]
theorem r56_1 : type_of% (rr c56_1.eq_1) := rr rfl
def c56_2 : ACode := .seq c56_1 .ret
theorem r56_2 : type_of% (rr c56_2.eq_1) := rr rfl
def c56_3 : ACode := .seq c56_0 c56_2
theorem r56_3 : type_of% (rr c56_3.eq_1) := rr rfl
def a56 : AFun := ⟨1, 16, c56_3, [.t 2]⟩
attribute [simp] r56_0 r56_1 r56_2 r56_3
theorem m56 : mFun Tryz.prog Tryz.f56 a56 = true := by decide +kernel
def c57_0 : ACode := .ops [⟨some 2, .box (.t 0) 17, none, []⟩,⟨some 3, .box (.t 1) 10, none, []⟩,⟨some 4, .alloc [.int .i64 0, .int .i64 0, .int .i64 0, .int .i64 0, .int .i64 0, .int .i64 0, .int .i64 0, .int .i64 0, .int .i64 0, .int .i64 0], none, []⟩] [2, 3, 4]
theorem r57_0 : type_of% (rr c57_0.eq_1) := rr rfl
def c57_1 : ACode := .ops [⟨some 5, .load 17 true (.t 2), none, [2]⟩,⟨some 6, .call 56 [.t 5], none, []⟩] [3, 4, 6]
theorem r57_1 : type_of% (rr c57_1.eq_1) := rr rfl
def c57_2 : ACode := .ops [⟨some 7, .build [.int .i64 0, .int .i64 0] [], none, []⟩,⟨some 8, .iad (.t 3) (.c (.int .i64 4)) 2 5, none, [3]⟩,⟨none, .store (.t 8) 2 (.t 7), none, [3]⟩] [3, 4]
theorem r57_2 : type_of% (rr c57_2.eq_1) := rr rfl
def c57_3 : ACode := .cond (.t 6) c57_2 .skip
theorem r57_3 : type_of% (rr c57_3.eq_1) := rr rfl
def c57_4 : ACode := .seq c57_1 c57_3
theorem r57_4 : type_of% (rr c57_4.eq_1) := rr rfl
def c57_5 : ACode := .ops [⟨some 9, .load 10 true (.t 3), none, [3]⟩,⟨none, .store (.t 4) 10 (.t 9), none, [4]⟩] [4]
theorem r57_5 : type_of% (rr c57_5.eq_1) := rr rfl
def c57_6 : ACode := .seq c57_5 .ret
theorem r57_6 : type_of% (rr c57_6.eq_1) := rr rfl
def c57_7 : ACode := .seq c57_4 c57_6
theorem r57_7 : type_of% (rr c57_7.eq_1) := rr rfl
def c57_8 : ACode := .seq c57_0 c57_7
theorem r57_8 : type_of% (rr c57_8.eq_1) := rr rfl
def a57 : AFun := ⟨2, 10, c57_8, [.cell 4 10 true]⟩
attribute [simp] r57_0 r57_1 r57_2 r57_3 r57_4 r57_5 r57_6 r57_7 r57_8
theorem m57 : mFun Tryz.prog Tryz.f57 a57 = true := by decide +kernel
def c58_0 : ACode := .ops [⟨some 2, .box (.t 0) 17, none, []⟩,⟨some 3, .box (.t 1) 10, none, []⟩,⟨some 4, .alloc [.int .i64 0, .int .i64 0, .int .i64 0, .int .i64 0, .int .i64 0, .int .i64 0, .int .i64 0, .int .i64 0, .int .i64 0, .int .i64 0], none, []⟩] [2, 3, 4]
theorem r58_0 : type_of% (rr c58_0.eq_1) := rr rfl
def c58_1 : ACode := .ops [⟨some 5, .load 17 true (.t 2), none, [2]⟩,⟨some 6, .call 56 [.t 5], none, []⟩] [2, 3, 4, 6]
theorem r58_1 : type_of% (rr c58_1.eq_1) := rr rfl
def c58_2 : ACode := .ops [⟨some 7, .fad (.t 2) 14, none, [2]⟩,⟨some 8, .load 1 false (.t 7), none, [2]⟩,⟨some 9, .iad (.t 3) (.c (.int .i64 4)) 2 5, none, [3]⟩,⟨some 10, .load 2 true (.t 9), none, [3]⟩,⟨some 11, .build [.int .i64 0, .int .i64 0] [], none, []⟩,⟨some 12, .iad (.t 3) (.t 8) 2 5, none, [3]⟩,⟨none, .store (.t 12) 2 (.t 10), none, [3]⟩,⟨some 13, .iad (.t 3) (.c (.int .i64 4)) 2 5, none, [3]⟩,⟨none, .store (.t 13) 2 (.t 11), none, [3]⟩] [3, 4]
theorem r58_2 : type_of% (rr c58_2.eq_1) := rr rfl
def c58_3 : ACode := .cond (.t 6) c58_2 .skip
theorem r58_3 : type_of% (rr c58_3.eq_1) := rr rfl
def c58_4 : ACode := .seq c58_1 c58_3
theorem r58_4 : type_of% (rr c58_4.eq_1) := rr rfl
def c58_5 : ACode := .ops [⟨some 14, .load 10 true (.t 3), none, [3]⟩,⟨none, .store (.t 4) 10 (.t 14), none, [4]⟩] [4]
theorem r58_5 : type_of% (rr c58_5.eq_1) := rr rfl
def c58_6 : ACode := .seq c58_5 .ret
theorem r58_6 : type_of% (rr c58_6.eq_1) := rr rfl
def c58_7 : ACode := .seq c58_4 c58_6
theorem r58_7 : type_of% (rr c58_7.eq_1) := rr rfl
def c58_8 : ACode := .seq c58_0 c58_7
theorem r58_8 : type_of% (rr c58_8.eq_1) := rr rfl
def a58 : AFun := ⟨2, 15, c58_8, [.cell 4 10 true]⟩
attribute [simp] r58_0 r58_1 r58_2 r58_3 r58_4 r58_5 r58_6 r58_7 r58_8
theorem m58 : mFun Tryz.prog Tryz.f58 a58 = true := by decide +kernel
def c29_0 : ACode := .ops [⟨some 2, .box (.t 0) 17, none, []⟩,⟨some 3, .box (.t 1) 10, none, []⟩,⟨some 4, .mv (.c (.bool false)), none, []⟩] [2, 3]
theorem r29_0 : type_of% (rr c29_0.eq_1) := rr rfl
def c29_1 : ACode := .ops [⟨some 5, .load 17 true (.t 2), none, [2]⟩,⟨some 6, .call 56 [.t 5], none, []⟩,⟨some 7, .mv (.t 6), none, []⟩,⟨some 8, .load 10 true (.t 3), some (7, true), [3]⟩,⟨some 9, .call 26 [.t 8], some (7, true), []⟩,⟨some 10, .un .not (.t 9), some (7, true), []⟩,⟨some 11, .pick (.t 7) (.t 10) (.c (.bool false)), none, []⟩,⟨some 12, .mv (.t 11), none, []⟩,⟨some 13, .fad (.t 2) 14, some (12, true), [2]⟩,⟨some 14, .load 1 false (.t 13), some (12, true), [2]⟩,⟨some 15, .iad (.t 3) (.t 14) 2 5, some (12, true), [3]⟩,⟨some 16, .fad (.t 15) 0, some (12, true), [3]⟩,⟨some 17, .load 1 false (.t 16), some (12, true), [3]⟩,⟨some 18, .iad (.t 3) (.c (.int .i64 4)) 2 5, some (12, true), [3]⟩,⟨some 19, .fad (.t 18) 1, some (12, true), [3]⟩,⟨some 20, .load 1 false (.t 19), some (12, true), [3]⟩,⟨some 21, .bin .lss (.t 17) (.t 20), some (12, true), []⟩,⟨some 22, .pick (.t 12) (.t 21) (.c (.bool false)), none, []⟩,⟨some 4, .mv (.t 22), none, []⟩] [4]
theorem r29_1 : type_of% (rr c29_1.eq_1) := rr rfl
def c29_2 : ACode := .seq c29_1 .ret
theorem r29_2 : type_of% (rr c29_2.eq_1) := rr rfl
def c29_3 : ACode := .seq c29_0 c29_2
theorem r29_3 : type_of% (rr c29_3.eq_1) := rr rfl
def a29 : AFun := ⟨2, 23, c29_3, [.t 4]⟩
attribute [simp] r29_0 r29_1 r29_2 r29_3
theorem m29 : mFun Tryz.prog Tryz.f29 a29 = true := by decide +kernel
def c30_0 : ACode := .ops [⟨some 3, .box (.t 0) 6, none, []⟩,⟨some 4, .box (.t 1) 17, none, []⟩,⟨some 5, .box (.t 2) 10, none, []⟩,⟨some 6, .mv (.c (.int .i64 0)), none, []⟩,⟨some 7, .mv (.c (.int .i64 0)), none, []⟩,⟨some 8, .mv (.c (.bool false)), none, []⟩] [3, 4, 5]
theorem r30_0 : type_of% (rr c30_0.eq_1) := rr rfl
def c30_1 : ACode := .ops [⟨some 16, .load 6 true (.t 3), none, [3]⟩,⟨some 17, .fad (.t 4) 1, none, [4]⟩,⟨some 18, .load 1 false (.t 17), none, [4]⟩,⟨some 19, .load 17 true (.t 4), none, [4]⟩,⟨some 20, .load 10 true (.t 5), none, [5]⟩,⟨some 21, .call 57 [.t 19, .t 20], none, []⟩,⟨some 22, .call 27 [.t 16, .t 18, .t 21], none, []⟩,⟨some 15, .mv (.t 22), none, []⟩,⟨some 23, .ext (.t 15) 0, none, []⟩,⟨some 24, .ext (.t 15) 1, none, []⟩,⟨some 25, .ext (.t 15) 2, none, []⟩,⟨some 9, .mv (.t 23), none, []⟩,⟨some 10, .mv (.t 24), none, []⟩,⟨some 11, .mv (.t 25), none, []⟩] [3, 4, 5, 9, 10, 11]
theorem r30_1 : type_of% (rr c30_1.eq_1) := rr rfl
def c30_2 : ACode := .ops [⟨some 27, .load 6 true (.t 3), none, [3]⟩,⟨some 28, .fad (.t 4) 1, none, [4]⟩,⟨some 29, .load 1 false (.t 28), none, [4]⟩,⟨some 30, .load 17 true (.t 4), none, [4]⟩,⟨some 31, .load 10 true (.t 5), none, [5]⟩,⟨some 32, .call 58 [.t 30, .t 31], none, []⟩,⟨some 33, .call 27 [.t 27, .t 29, .t 32], none, []⟩,⟨some 26, .mv (.t 33), none, []⟩,⟨some 34, .ext (.t 26) 0, none, []⟩,⟨some 35, .ext (.t 26) 1, none, []⟩,⟨some 36, .ext (.t 26) 2, none, []⟩,⟨some 12, .mv (.t 34), none, []⟩,⟨some 13, .mv (.t 35), none, []⟩,⟨some 14, .mv (.t 36), none, []⟩] [4, 9, 10, 11, 12, 13, 14]
theorem r30_2 : type_of% (rr c30_2.eq_1) := rr rfl
def c30_3 : ACode := .ops [⟨some 37, .load 17 true (.t 4), none, [4]⟩,⟨some 38, .call 56 [.t 37], none, []⟩,⟨some 39, .un .not (.t 38), none, []⟩,⟨some 40, .mv (.t 39), none, []⟩,⟨some 41, .mv (.t 11), some (40, false), []⟩,⟨some 42, .un .not (.t 41), some (40, false), []⟩,⟨some 43, .pick (.t 40) (.c (.bool true)) (.t 42), none, []⟩,⟨some 44, .mv (.t 43), none, []⟩,⟨some 45, .mv (.t 14), some (44, false), []⟩,⟨some 46, .un .not (.t 45), some (44, false), []⟩,⟨some 47, .pick (.t 44) (.c (.bool true)) (.t 46), none, []⟩] [9, 10, 12, 13, 47]
theorem r30_3 : type_of% (rr c30_3.eq_1) := rr rfl
def c30_4 : ACode := .ops [⟨some 6, .mv (.c (.int .i64 0)), none, []⟩,⟨some 7, .mv (.c (.int .i64 0)), none, []⟩,⟨some 8, .mv (.c (.bool false)), none, []⟩] [6, 7, 8]
theorem r30_4 : type_of% (rr c30_4.eq_1) := rr rfl
def c30_5 : ACode := .seq c30_4 .ret
theorem r30_5 : type_of% (rr c30_5.eq_1) := rr rfl
def c30_6 : ACode := .cond (.t 47) c30_5 .skip
theorem r30_6 : type_of% (rr c30_6.eq_1) := rr rfl
def c30_7 : ACode := .seq c30_3 c30_6
theorem r30_7 : type_of% (rr c30_7.eq_1) := rr rfl
def c30_8 : ACode := .ops [⟨some 48, .mv (.t 12), none, []⟩,⟨some 49, .mv (.t 10), none, []⟩,⟨some 50, .bin .sub (.t 48) (.t 49), none, []⟩,⟨some 51, .mv (.t 13), none, []⟩,⟨some 52, .mv (.t 9), none, []⟩,⟨some 53, .bin .sub (.t 51) (.t 52), none, []⟩,⟨some 6, .mv (.t 50), none, []⟩,⟨some 7, .mv (.t 53), none, []⟩,⟨some 8, .mv (.c (.bool true)), none, []⟩] [6, 7, 8]
theorem r30_8 : type_of% (rr c30_8.eq_1) := rr rfl
def c30_9 : ACode := .seq c30_8 .ret
theorem r30_9 : type_of% (rr c30_9.eq_1) := rr rfl
def c30_10 : ACode := .seq c30_7 c30_9
theorem r30_10 : type_of% (rr c30_10.eq_1) := rr rfl
def c30_11 : ACode := .seq c30_2 c30_10
theorem r30_11 : type_of% (rr c30_11.eq_1) := rr rfl
def c30_12 : ACode := .seq c30_1 c30_11
theorem r30_12 : type_of% (rr c30_12.eq_1) := rr rfl
def c30_13 : ACode := .seq c30_0 c30_12
theorem r30_13 : type_of% (rr c30_13.eq_1) := rr rfl
def a30 : AFun := ⟨3, 54, c30_13, [.t 6, .t 7, .t 8]⟩
attribute [simp] r30_0 r30_1 r30_2 r30_3 r30_4 r30_5 r30_6 r30_7 r30_8 r30_9 r30_10 r30_11 r30_12 r30_13
theorem m30 : mFun Tryz.prog Tryz.f30 a30 = true := by decide +kernel
theorem runs_pairs (q : Query) (c : Bool) (h : some (paired q) = some c) : Runs (tbl []) a56 [Arg.enc q] (Arg.enc c) := by
  cases h
  refine ⟨rfl, fun g => run_def ?_⟩
  unfold a56
  by_cases k1 : q.kind = 3
  case neg => simp -implicitDefEqProofs [paired, k1]
  by_cases k2 : 0 ≤ q.feature
  case neg => simp -implicitDefEqProofs [paired, k1, k2]
  simp -implicitDefEqProofs [paired, k1, k2]
theorem c_pairs : Contract Tryz.prog 56 (sp1 fun q => some (paired q)) :=
  contract_of_runs mixed tbl_nil Tryz.func56 m56 (sp1_runs runs_pairs)
def firstB (q : Query) (b : Box) : Box := if paired q then { b with s4 := ⟨0, 0⟩ } else b
def secondB (q : Query) (b : Box) : Box := if paired q then { b.set q.feature b.s4 with s4 := ⟨0, 0⟩ } else b
def orderedB (q : Query) (b : Box) : Bool := paired q && !b.empty && decide ((b.get q.feature).lo < b.s4.hi)
theorem runs_First (q : Query) (b : Box) (c : Box) (h : some (firstB q b) = some c) : Runs (tbl [(56, sp1 fun q => some (paired q))]) a57 [Arg.enc q, Arg.enc b] (Arg.enc c) := by
  cases h
  refine ⟨rfl, fun g => run_def ?_⟩
  unfold a57
  cases hp : paired q <;> simp -implicitDefEqProofs [firstB, hp]
theorem c_First : Contract Tryz.prog 57 (sp2 fun q b => some (firstB q b)) :=
  contract_of_runs mixed (tbl_cons c_pairs tbl_nil) Tryz.func57 m57 (sp2_runs runs_First)
theorem runs_cSecond (q : Query) (b : Box) (c : Box) (h : some (secondB q b) = some c) : Runs (tbl [(56, sp1 fun q => some (paired q))]) a58 [Arg.enc q, Arg.enc b] (Arg.enc c) := by
  cases h
  refine ⟨rfl, fun g => run_def ?_⟩
  unfold a58
  cases hp : paired q
  · simp -implicitDefEqProofs [secondB, hp]
  · have hf := paired_feature hp
    obtain ⟨kind, cls, region, lo, hi, feature, falls, budget⟩ := q
    simp only at hf
    rcases hf with rfl | rfl | rfl | rfl <;> simp -implicitDefEqProofs [secondB, hp, Box.set]
theorem c_cSecond : Contract Tryz.prog 58 (sp2 fun q b => some (secondB q b)) :=
  contract_of_runs mixed (tbl_cons c_pairs tbl_nil) Tryz.func58 m58 (sp2_runs runs_cSecond)
theorem runs_Ordered (q : Query) (b : Box) (c : Bool) (h : some (orderedB q b) = some c) : Runs (tbl [(56, sp1 fun q => some (paired q)), (26, sp1 fun (b : Box) => some b.empty)]) a29 [Arg.enc q, Arg.enc b] (Arg.enc c) := by
  cases h
  refine ⟨rfl, fun g => run_def ?_⟩
  unfold a29
  cases hp : paired q
  · simp -implicitDefEqProofs [orderedB, hp]
  · have hf := paired_feature hp
    cases he : b.empty
    case true => simp -implicitDefEqProofs [orderedB, hp, he]
    obtain ⟨kind, cls, region, lo, hi, feature, falls, budget⟩ := q
    simp only at hf
    rcases hf with rfl | rfl | rfl | rfl <;> simp -implicitDefEqProofs [orderedB, hp, he, Box.get]
theorem c_Ordered : Contract Tryz.prog 29 (sp2 fun q b => some (orderedB q b)) :=
  contract_of_runs mixed (tbl_cons c_pairs (tbl_cons c_bEmpty tbl_nil)) Tryz.func29 m29 (sp2_runs runs_Ordered)
def changeM (m : Model) (q : Query) (b : Box) : Tri Int Int Bool :=
  if paired q && (boundM m q.cls (firstB q b)).c && (boundM m q.cls (secondB q b)).c then
    ⟨(boundM m q.cls (secondB q b)).a - (boundM m q.cls (firstB q b)).b, (boundM m q.cls (secondB q b)).b - (boundM m q.cls (firstB q b)).a, true⟩ else ⟨0, 0, false⟩
theorem boundM_le {m : Model} (hm : RM m) (c : Int) (b : Box) : -19327352832 ≤ (boundM m c b).a ∧ (boundM m c b).a ≤ 19327352823 ∧ -19327352832 ≤ (boundM m c b).b ∧ (boundM m c b).b ≤ 19327352823 := by
  unfold boundM
  split
  · simp
  · rename_i h
    have he : b.empty = false := by cases he : b.empty <;> simp [he] at h ⊢
    have := boundP_le hm c he
    simp only
    omega
theorem okB_first {b : Box} (h : okB b) (q : Query) : okB (firstB q b) ∧ okB (secondB q b) := by
  have z : okS64 ⟨0, 0⟩ := by unfold okS64 ok64; simp only; omega
  unfold firstB secondB
  cases paired q
  · exact ⟨h, h⟩
  · have h2 := okB_set h q.feature h.2.2.2.2
    exact ⟨⟨h.1, h.2.1, h.2.2.1, h.2.2.2.1, z⟩, h2.1, h2.2.1, h2.2.2.1, h2.2.2.2.1, z⟩
noncomputable def ChangeC (m : Model) (q : Query) (b : Box) : Option (Tri Int Int Bool) := Part (RM m ∧ okB b) (changeM m q b)
theorem runs_Change (m : Model) (q : Query) (b : Box) (c : Tri Int Int Bool) (h : ChangeC m q b = some c) : Runs (tbl [(57, sp2 fun q b => some (firstB q b)), (58, sp2 fun q b => some (secondB q b)), (27, sp3 BoundS), (56, sp1 fun q => some (paired q))]) a30 [Arg.enc m, Arg.enc q, Arg.enc b] (Arg.enc c) := by
  obtain ⟨⟨hm, hb⟩, rfl⟩ := part_some h
  clear h
  refine ⟨rfl, fun g => run_def ?_⟩
  unfold a30
  have hk := okB_first hb q
  have s1 : BoundS m q.cls (firstB q b) = some (boundM m q.cls (firstB q b)) := part_of ⟨hm, hk.1⟩ _
  have s2 : BoundS m q.cls (secondB q b) = some (boundM m q.cls (secondB q b)) := part_of ⟨hm, hk.2⟩ _
  have l1 := boundM_le hm q.cls (firstB q b)
  have l2 := boundM_le hm q.cls (secondB q b)
  have w1 : IntKind.i64.wrap ((boundM m q.cls (secondB q b)).a - (boundM m q.cls (firstB q b)).b) = (boundM m q.cls (secondB q b)).a - (boundM m q.cls (firstB q b)).b := wrap64 (by omega) (by omega)
  have w2 : IntKind.i64.wrap ((boundM m q.cls (secondB q b)).b - (boundM m q.cls (firstB q b)).a) = (boundM m q.cls (secondB q b)).b - (boundM m q.cls (firstB q b)).a := wrap64 (by omega) (by omega)
  cases hp : paired q
  case false => simp -implicitDefEqProofs [changeM, hp, s1, s2]
  cases h1 : (boundM m q.cls (firstB q b)).c
  case false => simp -implicitDefEqProofs [changeM, hp, s1, s2, h1]
  cases h2 : (boundM m q.cls (secondB q b)).c <;> simp -implicitDefEqProofs [changeM, hp, s1, s2, h1, h2, w1, w2]
theorem c_Change : Contract Tryz.prog 30 (sp3 ChangeC) :=
  contract_of_runs mixed (tbl_cons c_First (tbl_cons c_cSecond (tbl_cons c_bSum (tbl_cons c_pairs tbl_nil)))) Tryz.func30 m30 (sp3_runs runs_Change)
end Go.Co
/- CO: what changes of pairs are. -/
namespace Go.Co
open Go.Am Go.Proofs
theorem first_in {q : Query} (hp : paired q = true) {b : Box} {p : Point} {t : Int} : InB (firstB q b) p t ↔ (t = 0 ∧ InS b.s0 p.p0 ∧ InS b.s1 p.p1 ∧ InS b.s2 p.p2 ∧ InS b.s3 p.p3) := by
  unfold firstB InB
  rw [if_pos hp]
  simp only
  constructor
  · rintro ⟨h0, h1, h2, h3, h4⟩
    exact ⟨by unfold InS at h4; simp only at h4; omega, h0, h1, h2, h3⟩
  · rintro ⟨rfl, h0, h1, h2, h3⟩
    exact ⟨h0, h1, h2, h3, by unfold InS; simp⟩
theorem second_in {q : Query} (hp : paired q = true) {b : Box} {p : Point} {t : Int} (h : InB b p t) : InB (secondB q b) (p.set q.feature t) 0 := by
  have hf := paired_feature hp
  obtain ⟨h0, h1, h2, h3, h4⟩ := h
  have z : InS ⟨0, 0⟩ 0 := by unfold InS; simp
  unfold secondB
  rw [if_pos hp]
  rcases hf with hf | hf | hf | hf <;> rw [hf] <;> simp only [Box.set, Point.set, InB, if_true, Int.reduceEq, if_false, reduceIte]
  · exact ⟨h4, h1, h2, h3, z⟩
  · exact ⟨h0, h4, h2, h3, z⟩
  · exact ⟨h0, h1, h4, h3, z⟩
  · exact ⟨h0, h1, h2, h4, z⟩
theorem first_some {q : Query} (hp : paired q = true) {b : Box} (he : b.empty = false) : (firstB q b).empty = false := by
  obtain ⟨p, t, h0, h1, h2, h3, h4⟩ := empty_false.1 he
  exact empty_false.2 ⟨p, 0, (first_in hp).2 ⟨rfl, h0, h1, h2, h3⟩⟩
theorem second_some {q : Query} (hp : paired q = true) {b : Box} (he : b.empty = false) : (secondB q b).empty = false := by
  obtain ⟨p, t, h⟩ := empty_false.1 he
  exact empty_false.2 ⟨_, _, second_in hp h⟩
theorem change_some {m : Model} {q : Query} (hp : paired q = true) (h0 : 0 ≤ q.cls) (h1 : q.cls < m.classes) {b : Box} (he : b.empty = false) :
    changeM m q b = ⟨(boundP m q.cls (secondB q b)).1 - (boundP m q.cls (firstB q b)).2, (boundP m q.cls (secondB q b)).2 - (boundP m q.cls (firstB q b)).1, true⟩ := by
  have e1 := first_some hp he
  have e2 := second_some hp he
  have a1 : boundM m q.cls (firstB q b) = ⟨(boundP m q.cls (firstB q b)).1, (boundP m q.cls (firstB q b)).2, true⟩ := by unfold boundM; rw [if_neg (by simp [e1]; omega)]
  have a2 : boundM m q.cls (secondB q b) = ⟨(boundP m q.cls (secondB q b)).1, (boundP m q.cls (secondB q b)).2, true⟩ := by unfold boundM; rw [if_neg (by simp [e2]; omega)]
  unfold changeM
  rw [a1, a2, hp]
  rfl
theorem change_sound {m : Model} (hm : RM m) {q : Query} (hp : paired q = true) (h0 : 0 ≤ q.cls) (h1 : q.cls < m.classes) {b : Box} {p : Point} {t : Int} (h : InB b p t) :
    (changeM m q b).a ≤ evalM m q.cls (p.set q.feature t) - evalM m q.cls p ∧ evalM m q.cls (p.set q.feature t) - evalM m q.cls p ≤ (changeM m q b).b := by
  rw [change_some hp h0 h1 (empty_false.2 ⟨p, t, h⟩)]
  have k1 := bound_sound hm q.cls ((first_in hp (b := b) (p := p) (t := 0)).2 ⟨rfl, h.1, h.2.1, h.2.2.1, h.2.2.2.1⟩)
  have k2 := bound_sound hm q.cls (second_in hp h)
  simp only
  omega
end Go.Co
