/- CO: texts of this claim, one behind the other. -/
import Derived.Test.YtcjflbmpfmibbaaCz1
import Derived.Test.YtcjflbmpfmibbaaAm4
/- CO: what a statement's reading of an argument says, type by type (written by mkCoSh.py). -/
namespace Go.Co
open Go.Am Go.RowKit
set_option linter.unusedVariables false
theorem okR_nil {xs : List AV} (h : okR [] xs) : xs = [] := by
  cases xs with
  | nil => rfl
  | cons x xs => simp [okR] at h
theorem okR_cons {s : Shp} {ss : List Shp} {xs : List AV} (h : okR (s :: ss) xs) : ∃ x ys, xs = x :: ys ∧ okS s x ∧ okR ss ys := by
  cases xs with
  | nil => simp [okR] at h
  | cons x xs => simp only [okR] at h; exact ⟨x, xs, rfl, h.1, h.2⟩
theorem okS_int {x : AV} (h : okS (.int .i64) x) : ∃ n, x = .int .i64 n ∧ ok64 n := by
  cases x <;> simp only [okS] at h
  obtain ⟨rfl, h1, h2⟩ := h
  exact ⟨_, rfl, h1, h2⟩
theorem okS_word {x : AV} (h : okS (.int .u64) x) : ∃ n, x = .int .u64 n ∧ okW n := by
  cases x <;> simp only [okS] at h
  obtain ⟨rfl, h1, h2⟩ := h
  exact ⟨_, rfl, h1, Int.lt_of_le_of_lt h2 (by decide)⟩
theorem okS_bool {x : AV} (h : okS .bool x) : ∃ b, x = .bool b := by
  cases x <;> simp only [okS] at h
  exact ⟨_, rfl⟩
class Sh (α : Type) [Row α] where
  ss : List Shp
  good : α → Prop
  len : ss.length = Row.sz α
  read : ∀ xs, okR ss xs → ∃ a, xs = Row.enc a ∧ good a
theorem rows_read {α : Type} [Row α] [Sh α] : ∀ (n : Nat) (xs : List AV), xs.length = n * Row.sz α → (∀ i, i < n → okR (Sh.ss α) ((xs.drop (i * Row.sz α)).take (Row.sz α))) → ∃ l : List α, l.length = n ∧ xs = encL l ∧ ∀ a ∈ l, Sh.good a
  | 0, xs, h, _ => ⟨[], rfl, by rw [encL_nil]; exact List.eq_nil_of_length_eq_zero (by simpa using h), by simp⟩
  | n + 1, xs, h, hr => by
    have hp := Row.pos (α := α)
    obtain ⟨a, ha, hg⟩ := Sh.read _ (hr 0 (by omega))
    rw [Nat.succ_mul] at h
    obtain ⟨l, hl, hx, hgl⟩ := rows_read (α := α) n (xs.drop (Row.sz α)) (by rw [List.length_drop]; omega) (fun i hi => by
      have := hr (i + 1) (by omega)
      rw [Nat.succ_mul, Nat.add_comm, ← List.drop_drop] at this
      exact this)
    refine ⟨a :: l, by simp [hl], ?_, ?_⟩
    · rw [encL_cons, ← hx]
      simp only [Nat.zero_mul, List.drop_zero] at ha
      rw [← ha, List.take_append_drop]
    · intro b hb
      rcases List.mem_cons.1 hb with rfl | hb
      · exact hg
      · exact hgl b hb
theorem okS_list {α : Type} [Row α] [Sh α] {x : AV} (h : okS (.sl (Sh.ss α)) x) : ∃ l : List α, x = .lst l.length (encL l) ∧ (∀ a ∈ l, Sh.good a) ∧ l.length ≤ maxLen := by
  cases x <;> simp only [okS] at h
  rename_i n xs
  rw [Sh.len] at h
  obtain ⟨l, rfl, rfl, hg⟩ := rows_read (α := α) n xs h.2.1 h.2.2
  exact ⟨l, rfl, hg, h.1⟩
instance : Sh Int where
  ss := [.int .i64]
  good n := ok64 n
  len := rfl
  read xs h := by
    obtain ⟨x, xs, rfl, h0, h⟩ := okR_cons h
    obtain rfl := okR_nil h
    obtain ⟨n, rfl, b⟩ := okS_int h0
    exact ⟨n, rfl, b⟩
instance : Sh Word where
  ss := [.int .u64]
  good n := okW n.v
  len := rfl
  read xs h := by
    obtain ⟨x, xs, rfl, h0, h⟩ := okR_cons h
    obtain rfl := okR_nil h
    obtain ⟨n, rfl, b⟩ := okS_word h0
    exact ⟨⟨n⟩, rfl, b⟩
instance : Sh Span where
  ss := [.int .i64, .int .i64]
  good a := ok64 a.lo ∧ ok64 a.hi
  len := rfl
  read xs h := by
    obtain ⟨x0, xs, rfl, h0, h⟩ := okR_cons h
    obtain ⟨x1, xs, rfl, h1, h⟩ := okR_cons h
    obtain rfl := okR_nil h
    obtain ⟨v0, rfl, b0⟩ := okS_int h0
    obtain ⟨v1, rfl, b1⟩ := okS_int h1
    exact ⟨⟨v0, v1⟩, rfl, b0, b1⟩
instance : Sh Box where
  ss := [.int .i64, .int .i64, .int .i64, .int .i64, .int .i64, .int .i64, .int .i64, .int .i64, .int .i64, .int .i64]
  good a := ok64 a.s0.lo ∧ ok64 a.s0.hi ∧ ok64 a.s1.lo ∧ ok64 a.s1.hi ∧ ok64 a.s2.lo ∧ ok64 a.s2.hi ∧ ok64 a.s3.lo ∧ ok64 a.s3.hi ∧ ok64 a.s4.lo ∧ ok64 a.s4.hi
  len := rfl
  read xs h := by
    obtain ⟨x0, xs, rfl, h0, h⟩ := okR_cons h
    obtain ⟨x1, xs, rfl, h1, h⟩ := okR_cons h
    obtain ⟨x2, xs, rfl, h2, h⟩ := okR_cons h
    obtain ⟨x3, xs, rfl, h3, h⟩ := okR_cons h
    obtain ⟨x4, xs, rfl, h4, h⟩ := okR_cons h
    obtain ⟨x5, xs, rfl, h5, h⟩ := okR_cons h
    obtain ⟨x6, xs, rfl, h6, h⟩ := okR_cons h
    obtain ⟨x7, xs, rfl, h7, h⟩ := okR_cons h
    obtain ⟨x8, xs, rfl, h8, h⟩ := okR_cons h
    obtain ⟨x9, xs, rfl, h9, h⟩ := okR_cons h
    obtain rfl := okR_nil h
    obtain ⟨v0, rfl, b0⟩ := okS_int h0
    obtain ⟨v1, rfl, b1⟩ := okS_int h1
    obtain ⟨v2, rfl, b2⟩ := okS_int h2
    obtain ⟨v3, rfl, b3⟩ := okS_int h3
    obtain ⟨v4, rfl, b4⟩ := okS_int h4
    obtain ⟨v5, rfl, b5⟩ := okS_int h5
    obtain ⟨v6, rfl, b6⟩ := okS_int h6
    obtain ⟨v7, rfl, b7⟩ := okS_int h7
    obtain ⟨v8, rfl, b8⟩ := okS_int h8
    obtain ⟨v9, rfl, b9⟩ := okS_int h9
    exact ⟨⟨⟨v0, v1⟩, ⟨v2, v3⟩, ⟨v4, v5⟩, ⟨v6, v7⟩, ⟨v8, v9⟩⟩, rfl, b0, b1, b2, b3, b4, b5, b6, b7, b8, b9⟩
instance : Sh Point where
  ss := [.int .i64, .int .i64, .int .i64, .int .i64]
  good a := ok64 a.p0 ∧ ok64 a.p1 ∧ ok64 a.p2 ∧ ok64 a.p3
  len := rfl
  read xs h := by
    obtain ⟨x0, xs, rfl, h0, h⟩ := okR_cons h
    obtain ⟨x1, xs, rfl, h1, h⟩ := okR_cons h
    obtain ⟨x2, xs, rfl, h2, h⟩ := okR_cons h
    obtain ⟨x3, xs, rfl, h3, h⟩ := okR_cons h
    obtain rfl := okR_nil h
    obtain ⟨v0, rfl, b0⟩ := okS_int h0
    obtain ⟨v1, rfl, b1⟩ := okS_int h1
    obtain ⟨v2, rfl, b2⟩ := okS_int h2
    obtain ⟨v3, rfl, b3⟩ := okS_int h3
    exact ⟨⟨v0, v1, v2, v3⟩, rfl, b0, b1, b2, b3⟩
instance : Sh Bias where
  ss := [.int .i64, .int .i64, .int .i64]
  good a := ok64 a.b0 ∧ ok64 a.b1 ∧ ok64 a.b2
  len := rfl
  read xs h := by
    obtain ⟨x0, xs, rfl, h0, h⟩ := okR_cons h
    obtain ⟨x1, xs, rfl, h1, h⟩ := okR_cons h
    obtain ⟨x2, xs, rfl, h2, h⟩ := okR_cons h
    obtain rfl := okR_nil h
    obtain ⟨v0, rfl, b0⟩ := okS_int h0
    obtain ⟨v1, rfl, b1⟩ := okS_int h1
    obtain ⟨v2, rfl, b2⟩ := okS_int h2
    exact ⟨⟨v0, v1, v2⟩, rfl, b0, b1, b2⟩
instance : Sh Node where
  ss := [.bool, .int .i64, .int .i64, .int .i64, .int .i64, .int .i64]
  good a := True ∧ ok64 a.value ∧ ok64 a.feature ∧ ok64 a.cut ∧ ok64 a.left ∧ ok64 a.right
  len := rfl
  read xs h := by
    obtain ⟨x0, xs, rfl, h0, h⟩ := okR_cons h
    obtain ⟨x1, xs, rfl, h1, h⟩ := okR_cons h
    obtain ⟨x2, xs, rfl, h2, h⟩ := okR_cons h
    obtain ⟨x3, xs, rfl, h3, h⟩ := okR_cons h
    obtain ⟨x4, xs, rfl, h4, h⟩ := okR_cons h
    obtain ⟨x5, xs, rfl, h5, h⟩ := okR_cons h
    obtain rfl := okR_nil h
    obtain ⟨v0, rfl⟩ := okS_bool h0
    obtain ⟨v1, rfl, b1⟩ := okS_int h1
    obtain ⟨v2, rfl, b2⟩ := okS_int h2
    obtain ⟨v3, rfl, b3⟩ := okS_int h3
    obtain ⟨v4, rfl, b4⟩ := okS_int h4
    obtain ⟨v5, rfl, b5⟩ := okS_int h5
    exact ⟨⟨v0, v1, v2, v3, v4, v5⟩, rfl, trivial, b1, b2, b3, b4, b5⟩
instance : Sh Tree where
  ss := [.int .i64, .sl (Sh.ss Word)]
  good a := ok64 a.cls ∧ ((∀ x ∈ a.nodes, Sh.good x) ∧ a.nodes.length ≤ maxLen)
  len := rfl
  read xs h := by
    obtain ⟨x0, xs, rfl, h0, h⟩ := okR_cons h
    obtain ⟨x1, xs, rfl, h1, h⟩ := okR_cons h
    obtain rfl := okR_nil h
    obtain ⟨v0, rfl, b0⟩ := okS_int h0
    obtain ⟨v1, rfl, b1⟩ := okS_list (α := Word) h1
    exact ⟨⟨v0, v1⟩, rfl, b0, b1⟩
instance : Sh Model where
  ss := [.int .i64, .int .i64, .int .i64, .int .i64, .int .i64, .sl (Sh.ss Tree)]
  good a := ok64 a.dim ∧ ok64 a.classes ∧ ok64 a.bias.b0 ∧ ok64 a.bias.b1 ∧ ok64 a.bias.b2 ∧ ((∀ x ∈ a.trees, Sh.good x) ∧ a.trees.length ≤ maxLen)
  len := rfl
  read xs h := by
    obtain ⟨x0, xs, rfl, h0, h⟩ := okR_cons h
    obtain ⟨x1, xs, rfl, h1, h⟩ := okR_cons h
    obtain ⟨x2, xs, rfl, h2, h⟩ := okR_cons h
    obtain ⟨x3, xs, rfl, h3, h⟩ := okR_cons h
    obtain ⟨x4, xs, rfl, h4, h⟩ := okR_cons h
    obtain ⟨x5, xs, rfl, h5, h⟩ := okR_cons h
    obtain rfl := okR_nil h
    obtain ⟨v0, rfl, b0⟩ := okS_int h0
    obtain ⟨v1, rfl, b1⟩ := okS_int h1
    obtain ⟨v2, rfl, b2⟩ := okS_int h2
    obtain ⟨v3, rfl, b3⟩ := okS_int h3
    obtain ⟨v4, rfl, b4⟩ := okS_int h4
    obtain ⟨v5, rfl, b5⟩ := okS_list (α := Tree) h5
    exact ⟨⟨v0, v1, ⟨v2, v3, v4⟩, v5⟩, rfl, b0, b1, b2, b3, b4, b5⟩
instance : Sh Piece where
  ss := [.int .i64, .int .i64, .int .i64, .int .i64, .int .i64, .int .i64, .int .i64, .int .i64, .int .i64, .int .i64, .int .i64]
  good a := ok64 a.box.s0.lo ∧ ok64 a.box.s0.hi ∧ ok64 a.box.s1.lo ∧ ok64 a.box.s1.hi ∧ ok64 a.box.s2.lo ∧ ok64 a.box.s2.hi ∧ ok64 a.box.s3.lo ∧ ok64 a.box.s3.hi ∧ ok64 a.box.s4.lo ∧ ok64 a.box.s4.hi ∧ ok64 a.value
  len := rfl
  read xs h := by
    obtain ⟨x0, xs, rfl, h0, h⟩ := okR_cons h
    obtain ⟨x1, xs, rfl, h1, h⟩ := okR_cons h
    obtain ⟨x2, xs, rfl, h2, h⟩ := okR_cons h
    obtain ⟨x3, xs, rfl, h3, h⟩ := okR_cons h
    obtain ⟨x4, xs, rfl, h4, h⟩ := okR_cons h
    obtain ⟨x5, xs, rfl, h5, h⟩ := okR_cons h
    obtain ⟨x6, xs, rfl, h6, h⟩ := okR_cons h
    obtain ⟨x7, xs, rfl, h7, h⟩ := okR_cons h
    obtain ⟨x8, xs, rfl, h8, h⟩ := okR_cons h
    obtain ⟨x9, xs, rfl, h9, h⟩ := okR_cons h
    obtain ⟨x10, xs, rfl, h10, h⟩ := okR_cons h
    obtain rfl := okR_nil h
    obtain ⟨v0, rfl, b0⟩ := okS_int h0
    obtain ⟨v1, rfl, b1⟩ := okS_int h1
    obtain ⟨v2, rfl, b2⟩ := okS_int h2
    obtain ⟨v3, rfl, b3⟩ := okS_int h3
    obtain ⟨v4, rfl, b4⟩ := okS_int h4
    obtain ⟨v5, rfl, b5⟩ := okS_int h5
    obtain ⟨v6, rfl, b6⟩ := okS_int h6
    obtain ⟨v7, rfl, b7⟩ := okS_int h7
    obtain ⟨v8, rfl, b8⟩ := okS_int h8
    obtain ⟨v9, rfl, b9⟩ := okS_int h9
    obtain ⟨v10, rfl, b10⟩ := okS_int h10
    exact ⟨⟨⟨⟨v0, v1⟩, ⟨v2, v3⟩, ⟨v4, v5⟩, ⟨v6, v7⟩, ⟨v8, v9⟩⟩, v10⟩, rfl, b0, b1, b2, b3, b4, b5, b6, b7, b8, b9, b10⟩
instance : Sh Step where
  ss := [.bool, .int .i64, .int .i64]
  good a := True ∧ ok64 a.place ∧ ok64 a.cut
  len := rfl
  read xs h := by
    obtain ⟨x0, xs, rfl, h0, h⟩ := okR_cons h
    obtain ⟨x1, xs, rfl, h1, h⟩ := okR_cons h
    obtain ⟨x2, xs, rfl, h2, h⟩ := okR_cons h
    obtain rfl := okR_nil h
    obtain ⟨v0, rfl⟩ := okS_bool h0
    obtain ⟨v1, rfl, b1⟩ := okS_int h1
    obtain ⟨v2, rfl, b2⟩ := okS_int h2
    exact ⟨⟨v0, v1, v2⟩, rfl, trivial, b1, b2⟩
instance : Sh Query where
  ss := [.int .i64, .int .i64, .int .i64, .int .i64, .int .i64, .int .i64, .int .i64, .int .i64, .int .i64, .int .i64, .int .i64, .int .i64, .int .i64, .int .i64, .int .i64, .bool, .int .i64]
  good a := ok64 a.kind ∧ ok64 a.cls ∧ ok64 a.region.s0.lo ∧ ok64 a.region.s0.hi ∧ ok64 a.region.s1.lo ∧ ok64 a.region.s1.hi ∧ ok64 a.region.s2.lo ∧ ok64 a.region.s2.hi ∧ ok64 a.region.s3.lo ∧ ok64 a.region.s3.hi ∧ ok64 a.region.s4.lo ∧ ok64 a.region.s4.hi ∧ ok64 a.lo ∧ ok64 a.hi ∧ ok64 a.feature ∧ True ∧ ok64 a.budget
  len := rfl
  read xs h := by
    obtain ⟨x0, xs, rfl, h0, h⟩ := okR_cons h
    obtain ⟨x1, xs, rfl, h1, h⟩ := okR_cons h
    obtain ⟨x2, xs, rfl, h2, h⟩ := okR_cons h
    obtain ⟨x3, xs, rfl, h3, h⟩ := okR_cons h
    obtain ⟨x4, xs, rfl, h4, h⟩ := okR_cons h
    obtain ⟨x5, xs, rfl, h5, h⟩ := okR_cons h
    obtain ⟨x6, xs, rfl, h6, h⟩ := okR_cons h
    obtain ⟨x7, xs, rfl, h7, h⟩ := okR_cons h
    obtain ⟨x8, xs, rfl, h8, h⟩ := okR_cons h
    obtain ⟨x9, xs, rfl, h9, h⟩ := okR_cons h
    obtain ⟨x10, xs, rfl, h10, h⟩ := okR_cons h
    obtain ⟨x11, xs, rfl, h11, h⟩ := okR_cons h
    obtain ⟨x12, xs, rfl, h12, h⟩ := okR_cons h
    obtain ⟨x13, xs, rfl, h13, h⟩ := okR_cons h
    obtain ⟨x14, xs, rfl, h14, h⟩ := okR_cons h
    obtain ⟨x15, xs, rfl, h15, h⟩ := okR_cons h
    obtain ⟨x16, xs, rfl, h16, h⟩ := okR_cons h
    obtain rfl := okR_nil h
    obtain ⟨v0, rfl, b0⟩ := okS_int h0
    obtain ⟨v1, rfl, b1⟩ := okS_int h1
    obtain ⟨v2, rfl, b2⟩ := okS_int h2
    obtain ⟨v3, rfl, b3⟩ := okS_int h3
    obtain ⟨v4, rfl, b4⟩ := okS_int h4
    obtain ⟨v5, rfl, b5⟩ := okS_int h5
    obtain ⟨v6, rfl, b6⟩ := okS_int h6
    obtain ⟨v7, rfl, b7⟩ := okS_int h7
    obtain ⟨v8, rfl, b8⟩ := okS_int h8
    obtain ⟨v9, rfl, b9⟩ := okS_int h9
    obtain ⟨v10, rfl, b10⟩ := okS_int h10
    obtain ⟨v11, rfl, b11⟩ := okS_int h11
    obtain ⟨v12, rfl, b12⟩ := okS_int h12
    obtain ⟨v13, rfl, b13⟩ := okS_int h13
    obtain ⟨v14, rfl, b14⟩ := okS_int h14
    obtain ⟨v15, rfl⟩ := okS_bool h15
    obtain ⟨v16, rfl, b16⟩ := okS_int h16
    exact ⟨⟨v0, v1, ⟨⟨v2, v3⟩, ⟨v4, v5⟩, ⟨v6, v7⟩, ⟨v8, v9⟩, ⟨v10, v11⟩⟩, v12, v13, v14, v15, v16⟩, rfl, b0, b1, b2, b3, b4, b5, b6, b7, b8, b9, b10, b11, b12, b13, b14, trivial, b16⟩
instance : Sh Verdict where
  ss := [.int .i64, .sl (Sh.ss Step), .int .i64, .int .i64, .int .i64, .int .i64, .int .i64, .int .i64]
  good a := ok64 a.kind ∧ ((∀ x ∈ a.proof, Sh.good x) ∧ a.proof.length ≤ maxLen) ∧ ok64 a.witness.p0 ∧ ok64 a.witness.p1 ∧ ok64 a.witness.p2 ∧ ok64 a.witness.p3 ∧ ok64 a.twin ∧ ok64 a.spent
  len := rfl
  read xs h := by
    obtain ⟨x0, xs, rfl, h0, h⟩ := okR_cons h
    obtain ⟨x1, xs, rfl, h1, h⟩ := okR_cons h
    obtain ⟨x2, xs, rfl, h2, h⟩ := okR_cons h
    obtain ⟨x3, xs, rfl, h3, h⟩ := okR_cons h
    obtain ⟨x4, xs, rfl, h4, h⟩ := okR_cons h
    obtain ⟨x5, xs, rfl, h5, h⟩ := okR_cons h
    obtain ⟨x6, xs, rfl, h6, h⟩ := okR_cons h
    obtain ⟨x7, xs, rfl, h7, h⟩ := okR_cons h
    obtain rfl := okR_nil h
    obtain ⟨v0, rfl, b0⟩ := okS_int h0
    obtain ⟨v1, rfl, b1⟩ := okS_list (α := Step) h1
    obtain ⟨v2, rfl, b2⟩ := okS_int h2
    obtain ⟨v3, rfl, b3⟩ := okS_int h3
    obtain ⟨v4, rfl, b4⟩ := okS_int h4
    obtain ⟨v5, rfl, b5⟩ := okS_int h5
    obtain ⟨v6, rfl, b6⟩ := okS_int h6
    obtain ⟨v7, rfl, b7⟩ := okS_int h7
    exact ⟨⟨v0, v1, ⟨v2, v3, v4, v5⟩, v6, v7⟩, rfl, b0, b1, b2, b3, b4, b5, b6, b7⟩
instance : Sh KTree where
  ss := [.int .i64, .sl (Sh.ss Int), .sl (Sh.ss Int), .sl (Sh.ss Int), .sl (Sh.ss Int)]
  good a := ok64 a.cls ∧ ((∀ x ∈ a.part, Sh.good x) ∧ a.part.length ≤ maxLen) ∧ ((∀ x ∈ a.dir, Sh.good x) ∧ a.dir.length ≤ maxLen) ∧ ((∀ x ∈ a.cut, Sh.good x) ∧ a.cut.length ≤ maxLen) ∧ ((∀ x ∈ a.val, Sh.good x) ∧ a.val.length ≤ maxLen)
  len := rfl
  read xs h := by
    obtain ⟨x0, xs, rfl, h0, h⟩ := okR_cons h
    obtain ⟨x1, xs, rfl, h1, h⟩ := okR_cons h
    obtain ⟨x2, xs, rfl, h2, h⟩ := okR_cons h
    obtain ⟨x3, xs, rfl, h3, h⟩ := okR_cons h
    obtain ⟨x4, xs, rfl, h4, h⟩ := okR_cons h
    obtain rfl := okR_nil h
    obtain ⟨v0, rfl, b0⟩ := okS_int h0
    obtain ⟨v1, rfl, b1⟩ := okS_list (α := Int) h1
    obtain ⟨v2, rfl, b2⟩ := okS_list (α := Int) h2
    obtain ⟨v3, rfl, b3⟩ := okS_list (α := Int) h3
    obtain ⟨v4, rfl, b4⟩ := okS_list (α := Int) h4
    exact ⟨⟨v0, v1, v2, v3, v4⟩, rfl, b0, b1, b2, b3, b4⟩
instance : Sh Forest where
  ss := [.int .i64, .int .i64, .sl (Sh.ss Int), .sl (Sh.ss KTree)]
  good a := ok64 a.dim ∧ ok64 a.classes ∧ ((∀ x ∈ a.bias, Sh.good x) ∧ a.bias.length ≤ maxLen) ∧ ((∀ x ∈ a.trees, Sh.good x) ∧ a.trees.length ≤ maxLen)
  len := rfl
  read xs h := by
    obtain ⟨x0, xs, rfl, h0, h⟩ := okR_cons h
    obtain ⟨x1, xs, rfl, h1, h⟩ := okR_cons h
    obtain ⟨x2, xs, rfl, h2, h⟩ := okR_cons h
    obtain ⟨x3, xs, rfl, h3, h⟩ := okR_cons h
    obtain rfl := okR_nil h
    obtain ⟨v0, rfl, b0⟩ := okS_int h0
    obtain ⟨v1, rfl, b1⟩ := okS_int h1
    obtain ⟨v2, rfl, b2⟩ := okS_list (α := Int) h2
    obtain ⟨v3, rfl, b3⟩ := okS_list (α := KTree) h3
    exact ⟨⟨v0, v1, v2, v3⟩, rfl, b0, b1, b2, b3⟩
instance : Sh Ask where
  ss := [.int .i64, .int .i64, .int .i64, .int .i64, .int .i64, .int .i64, .bool, .sl (Sh.ss Int)]
  good a := ok64 a.kind ∧ ok64 a.cls ∧ ok64 a.lo ∧ ok64 a.size ∧ ok64 a.feature ∧ ok64 a.budget ∧ True ∧ ((∀ x ∈ a.spans, Sh.good x) ∧ a.spans.length ≤ maxLen)
  len := rfl
  read xs h := by
    obtain ⟨x0, xs, rfl, h0, h⟩ := okR_cons h
    obtain ⟨x1, xs, rfl, h1, h⟩ := okR_cons h
    obtain ⟨x2, xs, rfl, h2, h⟩ := okR_cons h
    obtain ⟨x3, xs, rfl, h3, h⟩ := okR_cons h
    obtain ⟨x4, xs, rfl, h4, h⟩ := okR_cons h
    obtain ⟨x5, xs, rfl, h5, h⟩ := okR_cons h
    obtain ⟨x6, xs, rfl, h6, h⟩ := okR_cons h
    obtain ⟨x7, xs, rfl, h7, h⟩ := okR_cons h
    obtain rfl := okR_nil h
    obtain ⟨v0, rfl, b0⟩ := okS_int h0
    obtain ⟨v1, rfl, b1⟩ := okS_int h1
    obtain ⟨v2, rfl, b2⟩ := okS_int h2
    obtain ⟨v3, rfl, b3⟩ := okS_int h3
    obtain ⟨v4, rfl, b4⟩ := okS_int h4
    obtain ⟨v5, rfl, b5⟩ := okS_int h5
    obtain ⟨v6, rfl⟩ := okS_bool h6
    obtain ⟨v7, rfl, b7⟩ := okS_list (α := Int) h7
    exact ⟨⟨v0, v1, v2, v3, v4, v5, v6, v7⟩, rfl, b0, b1, b2, b3, b4, b5, trivial, b7⟩
instance : Sh Cutting where
  ss := [.sl (Sh.ss Int), .sl (Sh.ss Int)]
  good a := ((∀ x ∈ a.place, Sh.good x) ∧ a.place.length ≤ maxLen) ∧ ((∀ x ∈ a.cut, Sh.good x) ∧ a.cut.length ≤ maxLen)
  len := rfl
  read xs h := by
    obtain ⟨x0, xs, rfl, h0, h⟩ := okR_cons h
    obtain ⟨x1, xs, rfl, h1, h⟩ := okR_cons h
    obtain rfl := okR_nil h
    obtain ⟨v0, rfl, b0⟩ := okS_list (α := Int) h0
    obtain ⟨v1, rfl, b1⟩ := okS_list (α := Int) h1
    exact ⟨⟨v0, v1⟩, rfl, b0, b1⟩
variable {P : Program} {t : TypeId} {x : AV}
theorem arg_agg {α : Type} [Row α] [Sh α] (h1 : isAggT P t = true) (h2 : shp P 20 t = some (Sh.ss α)) (h : argOk P t x) : ∃ a : α, x = .agg (Row.enc a) ∧ Sh.good a := by
  unfold argOk at h
  rw [h1] at h
  obtain ⟨xs, ss, rfl, hs, hr⟩ := h
  rw [h2] at hs
  cases hs
  obtain ⟨a, rfl, hg⟩ := Sh.read _ hr
  exact ⟨a, rfl, hg⟩
theorem arg_cell {s : Shp} (h1 : isAggT P t = false) (h2 : shp P 20 t = some [s]) (h : argOk P t x) : okS s x := by
  unfold argOk at h
  rw [h1] at h
  obtain ⟨s', hs, hr⟩ := h
  rw [h2] at hs
  cases hs
  exact hr
theorem arg_list {α : Type} [Row α] [Sh α] (h1 : isAggT P t = false) (h2 : shp P 20 t = some [.sl (Sh.ss α)]) (h : argOk P t x) : ∃ l : List α, x = .lst l.length (encL l) ∧ (∀ a ∈ l, Sh.good a) ∧ l.length ≤ maxLen := okS_list (arg_cell h1 h2 h)
theorem argsOk_cons {t : TypeId} {ts : List TypeId} {xs : List AV} (h : argsOk P (t :: ts) xs) : ∃ x ys, xs = x :: ys ∧ argOk P t x ∧ argsOk P ts ys := by
  cases xs with
  | nil => simp [argsOk] at h
  | cons x xs => simp only [argsOk] at h; exact ⟨x, xs, rfl, h.1, h.2⟩
theorem argsOk_nil {xs : List AV} (h : argsOk P [] xs) : xs = [] := by
  cases xs with
  | nil => rfl
  | cons x xs => simp [argsOk] at h
end Go.Co
