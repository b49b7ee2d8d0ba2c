/- CO: texts of this claim, one behind the other. -/
import Derived.Test.YtcjflbmpfmibbaaCz15
/- CO: the document's check, and that it says what the checker says. -/
namespace Go.Co
open Go.Am Go.Proofs
set_option linter.unusedSimpArgs false
set_option linter.unusedVariables false
attribute [-simp] Go.Am.eff_gcall
theorem checkN_deep {m : Model} {q : Query} {b : Box} {bs : List Box} {l : List Step} (h : checkN m q (b :: bs) l = true) : bs.length < 200 := by
  cases l with
  | nil => unfold checkN at h; cases h
  | cons s l =>
    unfold checkN at h
    split at h
    · cases h
    · omega
theorem check_walk {m : Model} (hm : RM m) {q : Query} (hq : okQuery m q = true) : ∀ (l : List Step) (bs : List Box) (most : Nat), bs.length ≤ most → 1 ≤ most → ((0 < deepN bs.length most l ∧ allShown m q (walkS bs l) = true) ↔ (most ≤ 200 ∧ checkN m q bs l = true))
  | [], bs, most, h1, h2 => by
    cases bs with
    | nil =>
      rw [List.length_nil, deepN, walkS, checkN]
      by_cases h : most ≤ 200
      · rw [if_pos ⟨rfl, h⟩]
        simp [allShown, h]
        omega
      · rw [if_neg (fun x => h x.2)]
        simp [h]
    | cons b bs =>
      rw [deepN, walkS, checkN, if_neg (by simp)]
      simp
  | s :: l, [], most, h1, h2 => by
    rw [List.length_nil, deepN, checkN, if_pos rfl]
    simp
  | s :: l, b :: bs, most, h1, h2 => by
    rw [deepN, if_neg (by simp), walkS, checkN]
    rw [List.length_cons] at h1 ⊢
    have hsb := closed_shownB hm hq b
    unfold rightS
    obtain ⟨sm, k, c⟩ := s
    simp only
    cases sm
    case true =>
      simp only [if_true]
      by_cases hz : k = 0 ∧ c = 0
      case neg =>
        rw [if_neg hz, if_neg (by simpa using fun e e' => hz ⟨e, e'⟩)]
        simp
      rw [if_pos hz, if_pos (by simp [hz.1, hz.2]), Nat.add_sub_cancel]
      have ih := check_walk hm hq l bs most (by omega) h2
      have e : allShown m q ((walkS bs l).map (b :: ·)) = (shownB m q b && allShown m q (walkS bs l)) := by
        cases walkS bs l <;> simp [allShown]
      rw [e, Bool.and_eq_true, ← hsb]
      cases hc : closedM m q b
      · simp
      · simp only [if_true, true_and]
        rw [ih]
        by_cases h200 : 200 ≤ bs.length
        · rw [if_pos h200]
          simp
          omega
        · rw [if_neg h200]
    case false =>
      simp only [if_false, Bool.false_eq_true]
      by_cases hk : 0 ≤ k ∧ k ≤ 4
      case neg =>
        rw [if_neg hk, if_neg (by simpa using fun e => (by omega : 4 < k))]
        simp
      rw [if_pos hk, if_pos (by simp [hk.1, hk.2])]
      by_cases hin : (b.get k).lo ≤ c ∧ c < (b.get k).hi
      case neg =>
        rw [if_neg hin, if_neg hin]
        simp [allShown]
      rw [if_pos hin, if_pos hin]
      have ih := check_walk hm hq l ((cutB b k c).1 :: (cutB b k c).2 :: bs) (if most < bs.length + 1 + 1 then bs.length + 1 + 1 else most) (by simp only [List.length_cons]; split <;> omega) (by split <;> omega)
      rw [List.length_cons, List.length_cons] at ih
      rw [ih]
      constructor
      · rintro ⟨g1, g2⟩
        split at g1
        · exact ⟨by omega, by rw [if_neg (by omega)]; exact g2⟩
        · exact ⟨by omega, by rw [if_neg (by omega)]; exact g2⟩
      · rintro ⟨g1, g2⟩
        split at g2
        · cases g2
        · have := checkN_deep g2
          rw [List.length_cons] at this
          exact ⟨by split <;> omega, g2⟩
theorem holds_check {m : Model} (hm : RM m) {q : Query} (l : List Step) : (okQuery m q && holdsV m q l) = checkM m q l := by
  unfold checkM
  cases hq : okQuery m q
  · simp
  have h := check_walk hm hq l [startOf q] 1 (by simp) (by omega)
  rw [List.length_singleton] at h
  simp only [Bool.true_and]
  unfold holdsV deepV
  by_cases h6 : l.length ≤ 65536
  · rw [if_pos h6]
    rw [Bool.eq_iff_iff, Bool.and_eq_true, Bool.and_eq_true, decide_eq_true_eq, decide_eq_true_eq]
    constructor
    · rintro ⟨g1, g2⟩
      exact ⟨h6, (h.1 ⟨by omega, g2⟩).2⟩
    · rintro ⟨_, g2⟩
      have := h.2 ⟨by omega, g2⟩
      exact ⟨by omega, this.2⟩
  · rw [if_neg h6]
    simp [h6]
end Go.Co
/- CO: what proofs and searches say of points. -/
namespace Go.Co
open Go.Am Go.Proofs
set_option linter.unusedSimpArgs false
set_option linter.unusedVariables false
theorem cut_some {b : Box} (hb : b.empty = false) {k : Int} (h0 : 0 ≤ k) (h5 : k < 5) {n : Int} (h1 : (b.get k).lo ≤ n) (h2 : n < (b.get k).hi) : (cutB b k n).1.empty = false ∧ (cutB b k n).2.empty = false := by
  rw [cutB_halves h0 h5 h1 h2, set_empty hb _ _ h0 h5, set_empty hb _ _ h0 h5]
  unfold Span.empty
  simp only [decide_eq_false_iff_not]
  omega
theorem searchN_cons (m : Model) (q : Query) (n : Nat) (sp : Int) (b : Box) (bs : List Box) (pf : List Step) : searchN m q (n + 1) sp (b :: bs) pf = if closedM m q b then searchN m q n (sp + 1) bs (pf ++ [sumS]) else
    if corner m q b then ⟨2, [], lowB b, b.s4.hi, sp + 1⟩ else
    if (splitM m q b).c then searchN m q n (sp + 1) ((cutB b (splitM m q b).a (splitM m q b).b).1 :: (cutB b (splitM m q b).a (splitM m q b).b).2 :: bs) (pf ++ [⟨false, (splitM m q b).a, (splitM m q b).b⟩]) else ⟨3, [], zeroP, 0, sp + 1⟩ := rfl
theorem searchN_nil (m : Model) (q : Query) (n : Nat) (sp : Int) (pf : List Step) : searchN m q n sp [] pf = ⟨1, pf, zeroP, 0, sp⟩ := by cases n <;> rfl
theorem splitM_in {m : Model} {q : Query} {b : Box} (h : (splitM m q b).c = true) : 0 ≤ (splitM m q b).a ∧ (splitM m q b).a < 5 ∧ (b.get (splitM m q b).a).lo ≤ (splitM m q b).b ∧ (splitM m q b).b < (b.get (splitM m q b).a).hi := by
  obtain ⟨h0, h5, hi⟩ := split_in h
  have := cuts_in _ hi
  exact ⟨h0, h5, this.1, this.2⟩
theorem searchM_eq {m : Model} {q : Query} (h : okQuery m q = true) : searchM m q = searchN m q q.budget.toNat 0 [startOf q] [] := by unfold searchM; rw [if_pos h]
end Go.Co
/- CO: queries whose region, budget or ends are others. -/
namespace Go.Co
open Go.Am Go.Proofs
set_option linter.unusedSimpArgs false
set_option linter.unusedVariables false
def withBudget (q : Query) (n : Int) : Query := { q with budget := n }
theorem okQuery_budget {m : Model} {q : Query} (h : okQuery m q = true) {n : Int} (h0 : 0 ≤ n) (h1 : n ≤ 65536) : okQuery m (withBudget q n) = true := by
  have hs := okQuery_spec h
  unfold okQuery withBudget
  have h5 := hs.2.2.2.2.1
  have h6 : okKind m q = true := hs.2.2.2.2.2
  have h6' : okKind m { q with budget := n } = true := h6
  rw [h6']
  simp only [h5, Bool.and_true, Bool.and_eq_true, decide_eq_true_eq]
  exact ⟨⟨⟨hs.1, hs.2.1⟩, h0⟩, h1⟩
end Go.Co
/- CO: how deep proofs go; a search's proof is one; boxes that numbers cut. -/
set_option maxHeartbeats 16000000
set_option maxRecDepth 100000
namespace Go.Co
open Go.Am Go.Proofs
set_option linter.unusedSimpArgs false
set_option linter.unusedVariables false
attribute [-simp] Go.Am.eff_gcall
def wS (s : Span) : Nat := (s.hi - s.lo).toNat
def wide (b : Box) : Nat := wS b.s0 + wS b.s1 + wS b.s2 + wS b.s3 + wS b.s4
theorem wide_set (b : Box) {k : Int} (h0 : 0 ≤ k) (h5 : k < 5) (s : Span) : wide (b.set k s) + wS (b.get k) = wide b + wS s := by
  have hc : k = 0 ∨ k = 1 ∨ k = 2 ∨ k = 3 ∨ k = 4 := by omega
  rcases hc with rfl | rfl | rfl | rfl | rfl <;> simp only [Box.set, Box.get, reduceIte, Int.reduceEq, wide] <;> omega
theorem wide_cut {b : Box} {k n : Int} (h0 : 0 ≤ k) (h5 : k < 5) (h1 : (b.get k).lo ≤ n) (h2 : n < (b.get k).hi) : wide (cutB b k n).1 + 1 ≤ wide b ∧ wide (cutB b k n).2 + 1 ≤ wide b := by
  rw [cutB_halves h0 h5 h1 h2]
  have e1 := wide_set b h0 h5 ⟨(b.get k).lo, n⟩
  have e2 := wide_set b h0 h5 ⟨n + 1, (b.get k).hi⟩
  unfold wS at e1 e2
  simp only at e1 e2 ⊢
  omega
def WI (W : Nat) : List Box → Prop
  | [] => True
  | x :: R => R.length + wide x ≤ W ∧ WI W R
theorem WI.cut {W : Nat} {x : Box} {R : List Box} (h : WI W (x :: R)) {k n : Int} (h0 : 0 ≤ k) (h5 : k < 5) (h1 : (x.get k).lo ≤ n) (h2 : n < (x.get k).hi) : WI W ((cutB x k n).1 :: (cutB x k n).2 :: R) := by
  obtain ⟨g1, g2⟩ := h
  have hw := wide_cut h0 h5 h1 h2
  exact ⟨by rw [List.length_cons]; omega, by omega, g2⟩
theorem wide_start (m : Model) (a : Ask) : wide (startOf (queryOf m a)) ≤ 199 := by
  have k0 := rSpan_le m.dim a.spans 0
  have k1 := rSpan_le m.dim a.spans 1
  have k2 := rSpan_le m.dim a.spans 2
  have k3 := rSpan_le m.dim a.spans 3
  have e0 : (startOf (queryOf m a)).s0 = rSpan m.dim a.spans 0 := rfl
  have e1 : (startOf (queryOf m a)).s1 = rSpan m.dim a.spans 1 := rfl
  have e2 : (startOf (queryOf m a)).s2 = rSpan m.dim a.spans 2 := rfl
  have e3 : (startOf (queryOf m a)).s3 = rSpan m.dim a.spans 3 := rfl
  have e4 : (startOf (queryOf m a)).s4.hi - (startOf (queryOf m a)).s4.lo ≤ 22 := by
    unfold startOf
    simp only
    split
    · rename_i hp
      have hf := paired_feature hp
      rcases hf with hf | hf | hf | hf <;> rw [hf] <;> simp only [Box.get, reduceIte, Int.reduceEq] <;> simp only [queryOf, regionOf] <;> omega
    · simp
  unfold wide wS
  rw [e0, e1, e2, e3]
  omega
theorem checkN_cut {m : Model} {q : Query} {x : Box} {bs : List Box} (hd : bs.length < 200) {k n : Int} (h0 : 0 ≤ k) (h5 : k < 5) (h1 : (x.get k).lo ≤ n) (h2 : n < (x.get k).hi) (l : List Step) :
    checkN m q (x :: bs) (⟨false, k, n⟩ :: l) = checkN m q ((cutB x k n).1 :: (cutB x k n).2 :: bs) l := by
  rw [checkN, if_neg (by omega)]
  simp only [Bool.false_eq_true, if_false]
  rw [if_pos ⟨h0, by omega⟩, if_pos ⟨h1, h2⟩]
theorem checkN_sum {m : Model} {q : Query} {x : Box} {bs : List Box} (hd : bs.length < 200) (hc : closedM m q x = true) (l : List Step) : checkN m q (x :: bs) (sumS :: l) = checkN m q bs l := by
  rw [checkN, if_neg (by omega)]
  unfold sumS
  simp [hc]
theorem search_check {m : Model} {q : Query} : ∀ (n : Nat) (sp : Int) (bs : List Box) (pf : List Step), WI 199 bs → (searchN m q n sp bs pf).kind = 1 →
    ∃ l, (searchN m q n sp bs pf).proof = pf ++ l ∧ l.length ≤ n ∧ checkN m q bs l = true
  | n, sp, [], pf, _, h => by
    rw [searchN_nil]
    exact ⟨[], by simp, by simp, rfl⟩
  | 0, sp, b :: bs, pf, _, h => by cases h
  | n + 1, sp, b :: bs, pf, hw, h => by
    have hd : bs.length < 200 := by have := hw.1; omega
    rw [searchN_cons] at h ⊢
    split
    · rename_i hc
      rw [if_pos hc] at h
      obtain ⟨l, h1, h2, h3⟩ := search_check n _ bs _ hw.2 h
      refine ⟨sumS :: l, by rw [h1, List.append_assoc]; rfl, by simp; omega, ?_⟩
      rw [checkN_sum hd hc]
      exact h3
    · rename_i hc
      rw [if_neg hc] at h
      split
      · rename_i hco; rw [if_pos hco] at h; cases h
      · rename_i hco
        rw [if_neg hco] at h
        split
        · rename_i hs
          rw [if_pos hs] at h
          obtain ⟨s0, s5, s1, s2⟩ := splitM_in hs
          obtain ⟨l, h1, h2, h3⟩ := search_check n _ _ _ (hw.cut s0 s5 s1 s2) h
          refine ⟨⟨false, (splitM m q b).a, (splitM m q b).b⟩ :: l, by rw [h1, List.append_assoc]; rfl, by simp; omega, ?_⟩
          rw [checkN_cut hd s0 s5 s1 s2]
          exact h3
        · rename_i hs
          rw [if_neg hs] at h
          cases h
theorem holds_checked {m : Model} {q : Query} (h : okQuery m q = true) (hw : wide (startOf q) ≤ 199) (hk : (searchM m q).kind = 1) : checkN m q [startOf q] (searchM m q).proof = true ∧ ((searchM m q).proof.length : Int) ≤ q.budget := by
  rw [searchM_eq h] at hk ⊢
  have hb := okQuery_spec h
  obtain ⟨l, h1, h2, h3⟩ := search_check _ _ _ _ (show WI 199 [startOf q] from ⟨by simp; omega, trivial⟩) hk
  rw [h1, List.nil_append]
  exact ⟨h3, by omega⟩
theorem check_proven {m : Model} (hm : RM m) {q : Query} (h : okQuery m q = true) {l : List Step} (h1 : checkN m q [startOf q] l = true) (h2 : l.length ≤ 65536) (p : Point) (t s : Int) : provesM m q ⟨1, l, p, t, s⟩ = true := by
  unfold provesM
  simp only [if_true]
  rw [holds_check hm]
  unfold checkM
  rw [h, h1]
  simp [h2]
def c32_0 : ACode := .ops [⟨some 2, .box (.t 0) 2, none, []⟩,⟨some 3, .box (.t 1) 10, none, []⟩,⟨some 4, .mv (.c (.nils)), none, []⟩,⟨some 5, .mv (.c (.nils)), none, []⟩] [2, 3]
theorem r32_0 : type_of% (@rr _ _ c32_0.eq_1) := rr rfl
def c32_1 : ACode := .ops [⟨some 6, .nil0 6 10, none, []⟩] [2, 3, 6]
theorem r32_1 : type_of% (@rr _ _ c32_1.eq_1) := rr rfl
def c32_2 : ACode := .ops [⟨some 7, .nil0 7 3, none, []⟩] [2, 3, 6, 7]
theorem r32_2 : type_of% (@rr _ _ c32_2.eq_1) := rr rfl
def c32_3 : ACode := .ops [⟨some 14, .load 10 true (.t 3), none, [3]⟩,⟨some 15, .mkrow 8 1 10 [.int .i64 0, .int .i64 0, .int .i64 0, .int .i64 0, .int .i64 0, .int .i64 0, .int .i64 0, .int .i64 0, .int .i64 0, .int .i64 0] [(0, 10, .t 14)], none, []⟩,⟨some 8, .mv (.t 15), none, []⟩] [2, 6, 7, 8]
theorem r32_3 : type_of% (@rr _ _ c32_3.eq_1) := rr rfl
def c32_4 : ACode := .ops [⟨some 9, .mv (.c (.int .i64 0)), none, []⟩] [2, 6, 7, 8, 9]
theorem r32_4 : type_of% (@rr _ _ c32_4.eq_1) := rr rfl
def c32_5 : ACode := .ops [⟨some 16, .mv (.t 8), none, []⟩,⟨some 17, .len (.t 16), none, [8]⟩,⟨some 18, .bin .gtr (.t 17) (.c (.int .i64 0)), none, []⟩] [2, 6, 7, 8, 9, 18]
theorem r32_5 : type_of% (@rr _ _ c32_5.eq_1) := rr rfl
def c32_6 : ACode := .cond (.t 18) .skip (.exit 0)
theorem r32_6 : type_of% (@rr _ _ c32_6.eq_1) := rr rfl
def c32_7 : ACode := .seq c32_5 c32_6
theorem r32_7 : type_of% (@rr _ _ c32_7.eq_1) := rr rfl
def c32_8 : ACode := .ops [⟨some 19, .mv (.t 8), none, []⟩,⟨some 20, .mv (.t 8), none, []⟩,⟨some 21, .len (.t 20), none, [8]⟩,⟨some 22, .bin .sub (.t 21) (.c (.int .i64 1)), none, []⟩,⟨some 23, .ias (.t 19) (.t 22) 10, none, [8]⟩,⟨some 24, .load 10 true (.t 23), none, [8]⟩,⟨some 10, .alloc [.int .i64 0, .int .i64 0, .int .i64 0, .int .i64 0, .int .i64 0, .int .i64 0, .int .i64 0, .int .i64 0, .int .i64 0, .int .i64 0], none, []⟩,⟨none, .store (.t 10) 10 (.t 24), none, [10]⟩] [2, 6, 7, 8, 9, 10]
theorem r32_8 : type_of% (@rr _ _ c32_8.eq_1) := rr rfl
def c32_9 : ACode := .ops [⟨some 25, .mv (.t 8), none, []⟩,⟨some 26, .mv (.t 8), none, []⟩,⟨some 27, .len (.t 26), none, [8]⟩,⟨some 28, .bin .sub (.t 27) (.c (.int .i64 1)), none, []⟩,⟨some 29, .sl (.t 25) none (some (.t 28)) 10, none, [8]⟩,⟨some 8, .mv (.t 29), none, []⟩] [2, 6, 7, 8, 9, 10]
theorem r32_9 : type_of% (@rr _ _ c32_9.eq_1) := rr rfl
def c32_10 : ACode := .ops [⟨some 30, .fad (.t 2) 0, none, [2]⟩,⟨some 31, .load 1 false (.t 30), none, [2]⟩,⟨some 32, .mv (.t 7), none, []⟩,⟨some 33, .len (.t 32), none, [7]⟩,⟨some 34, .call 65 [.t 31, .t 33], none, []⟩,⟨some 35, .call 24 [.t 34, .c (.int .i64 0), .c (.int .i64 5)], none, []⟩,⟨some 11, .mv (.t 35), none, []⟩] [2, 6, 7, 8, 9, 10, 11]
theorem r32_10 : type_of% (@rr _ _ c32_10.eq_1) := rr rfl
def c32_11 : ACode := .ops [⟨some 36, .mv (.t 11), none, []⟩,⟨some 37, .bin .eql (.t 36) (.c (.int .i64 5)), none, []⟩,⟨some 38, .mv (.t 37), none, []⟩,⟨some 39, .mv (.t 9), some (38, false), []⟩,⟨some 40, .bin .geq (.t 39) (.c (.int .i64 20)), some (38, false), []⟩,⟨some 41, .pick (.t 38) (.c (.bool true)) (.t 40), none, []⟩,⟨some 42, .mv (.t 41), none, []⟩,⟨some 43, .fad (.t 2) 0, some (42, false), [2]⟩,⟨some 44, .load 1 false (.t 43), some (42, false), [2]⟩,⟨some 45, .len (.t 44), some (42, false), []⟩,⟨some 46, .bin .eql (.t 45) (.c (.int .i64 0)), some (42, false), []⟩,⟨some 47, .pick (.t 42) (.c (.bool true)) (.t 46), none, []⟩,⟨some 48, .mv (.t 47), none, []⟩,⟨some 49, .mv (.t 11), some (48, false), []⟩,⟨some 50, .iad (.t 10) (.t 49) 2 5, some (48, false), [10]⟩,⟨some 51, .fad (.t 50) 0, some (48, false), [10]⟩,⟨some 52, .load 1 false (.t 51), some (48, false), [10]⟩,⟨some 53, .mv (.t 11), some (48, false), []⟩,⟨some 54, .iad (.t 10) (.t 53) 2 5, some (48, false), [10]⟩,⟨some 55, .fad (.t 54) 1, some (48, false), [10]⟩,⟨some 56, .load 1 false (.t 55), some (48, false), [10]⟩,⟨some 57, .bin .geq (.t 52) (.t 56), some (48, false), []⟩,⟨some 58, .pick (.t 48) (.c (.bool true)) (.t 57), none, []⟩] [2, 6, 7, 8, 9, 10, 11, 58]
theorem r32_11 : type_of% (@rr _ _ c32_11.eq_1) := rr rfl
def c32_12 : ACode := .ops [⟨some 59, .mv (.t 6), none, []⟩,⟨some 60, .load 10 true (.t 10), none, [10]⟩,⟨some 61, .mkrow 61 1 10 [.int .i64 0, .int .i64 0, .int .i64 0, .int .i64 0, .int .i64 0, .int .i64 0, .int .i64 0, .int .i64 0, .int .i64 0, .int .i64 0] [(0, 10, .t 60)], none, []⟩,⟨some 62, .app 6 [6] (.t 59) (.t 61) 10, none, [6, 61]⟩,⟨some 6, .mv (.t 62), none, []⟩] [2, 6, 7, 8, 9]
theorem r32_12 : type_of% (@rr _ _ c32_12.eq_1) := rr rfl
def c32_13 : ACode := .ops [⟨some 63, .mv (.t 7), none, []⟩,⟨some 64, .build [.bool false, .int .i64 0, .int .i64 0] [(0, 1, .c (.bool true))], none, []⟩,⟨some 65, .mkrow 65 1 3 [.bool false, .int .i64 0, .int .i64 0] [(0, 3, .t 64)], none, []⟩,⟨some 66, .app 7 [7] (.t 63) (.t 65) 3, none, [7, 65]⟩,⟨some 7, .mv (.t 66), none, []⟩] [2, 6, 7, 8, 9]
theorem r32_13 : type_of% (@rr _ _ c32_13.eq_1) := rr rfl
def c32_14 : ACode := .seq c32_13 (.exit 1)
theorem r32_14 : type_of% (@rr _ _ c32_14.eq_1) := rr rfl
def c32_15 : ACode := .seq c32_12 c32_14
theorem r32_15 : type_of% (@rr _ _ c32_15.eq_1) := rr rfl
def c32_16 : ACode := .cond (.t 58) c32_15 .skip
theorem r32_16 : type_of% (@rr _ _ c32_16.eq_1) := rr rfl
def c32_17 : ACode := .seq c32_11 c32_16
theorem r32_17 : type_of% (@rr _ _ c32_17.eq_1) := rr rfl
def c32_18 : ACode := .ops [⟨some 67, .mv (.t 9), none, []⟩,⟨some 68, .bin .add (.t 67) (.c (.int .i64 1)), none, []⟩,⟨some 9, .mv (.t 68), none, []⟩] [2, 6, 7, 8, 9, 10, 11]
theorem r32_18 : type_of% (@rr _ _ c32_18.eq_1) := rr rfl
def c32_19 : ACode := .ops [⟨some 69, .fad (.t 2) 1, none, [2]⟩,⟨some 70, .load 1 false (.t 69), none, [2]⟩,⟨some 71, .mv (.t 7), none, []⟩,⟨some 72, .len (.t 71), none, [7]⟩,⟨some 73, .call 65 [.t 70, .t 72], none, []⟩,⟨some 74, .mv (.t 11), none, []⟩,⟨some 75, .iad (.t 10) (.t 74) 2 5, none, [10]⟩,⟨some 76, .fad (.t 75) 0, none, [10]⟩,⟨some 77, .load 1 false (.t 76), none, [10]⟩,⟨some 78, .mv (.t 11), none, []⟩,⟨some 79, .iad (.t 10) (.t 78) 2 5, none, [10]⟩,⟨some 80, .fad (.t 79) 1, none, [10]⟩,⟨some 81, .load 1 false (.t 80), none, [10]⟩,⟨some 82, .bin .sub (.t 81) (.c (.int .i64 1)), none, []⟩,⟨some 83, .call 24 [.t 73, .t 77, .t 82], none, []⟩,⟨some 12, .mv (.t 83), none, []⟩] [2, 6, 7, 8, 9, 10, 11, 12]
theorem r32_19 : type_of% (@rr _ _ c32_19.eq_1) := rr rfl
def c32_20 : ACode := .ops [⟨some 84, .mv (.t 7), none, []⟩,⟨some 85, .mv (.t 11), none, []⟩,⟨some 86, .mv (.t 12), none, []⟩,⟨some 87, .build [.bool false, .int .i64 0, .int .i64 0] [(1, 1, .t 85), (2, 1, .t 86)], none, []⟩,⟨some 88, .mkrow 88 1 3 [.bool false, .int .i64 0, .int .i64 0] [(0, 3, .t 87)], none, []⟩,⟨some 89, .app 7 [7] (.t 84) (.t 88) 3, none, [7, 88]⟩,⟨some 7, .mv (.t 89), none, []⟩] [2, 6, 7, 8, 9, 10, 11, 12]
theorem r32_20 : type_of% (@rr _ _ c32_20.eq_1) := rr rfl
def c32_21 : ACode := .ops [⟨some 90, .load 10 true (.t 10), none, [10]⟩,⟨some 13, .alloc [.int .i64 0, .int .i64 0, .int .i64 0, .int .i64 0, .int .i64 0, .int .i64 0, .int .i64 0, .int .i64 0, .int .i64 0, .int .i64 0], none, []⟩,⟨none, .store (.t 13) 10 (.t 90), none, [13]⟩] [2, 6, 7, 8, 9, 10, 11, 12, 13]
theorem r32_21 : type_of% (@rr _ _ c32_21.eq_1) := rr rfl
def c32_22 : ACode := .ops [⟨some 91, .mv (.t 11), none, []⟩,⟨some 92, .mv (.t 11), none, []⟩,⟨some 93, .mv (.t 12), none, []⟩,⟨some 94, .mv (.t 12), none, []⟩,⟨some 95, .bin .add (.t 94) (.c (.int .i64 1)), none, []⟩,⟨some 96, .iad (.t 10) (.t 91) 2 5, none, [10]⟩,⟨some 97, .fad (.t 96) 1, none, [10]⟩,⟨none, .store (.t 97) 1 (.t 93), none, [10]⟩,⟨some 98, .iad (.t 13) (.t 92) 2 5, none, [13]⟩,⟨some 99, .fad (.t 98) 0, none, [13]⟩,⟨none, .store (.t 99) 1 (.t 95), none, [13]⟩] [2, 6, 7, 8, 9, 10, 13]
theorem r32_22 : type_of% (@rr _ _ c32_22.eq_1) := rr rfl
def c32_23 : ACode := .ops [⟨some 100, .mv (.t 8), none, []⟩,⟨some 101, .load 10 true (.t 13), none, [13]⟩,⟨some 102, .load 10 true (.t 10), none, [10]⟩,⟨some 103, .mkrow 103 2 10 [.int .i64 0, .int .i64 0, .int .i64 0, .int .i64 0, .int .i64 0, .int .i64 0, .int .i64 0, .int .i64 0, .int .i64 0, .int .i64 0] [(0, 10, .t 101), (10, 10, .t 102)], none, []⟩,⟨some 104, .app 8 [8] (.t 100) (.t 103) 10, none, [8, 103]⟩,⟨some 8, .mv (.t 104), none, []⟩] [2, 6, 7, 8, 9]
theorem r32_23 : type_of% (@rr _ _ c32_23.eq_1) := rr rfl
def c32_24 : ACode := .seq c32_22 c32_23
theorem r32_24 : type_of% (@rr _ _ c32_24.eq_1) := rr rfl
def c32_25 : ACode := .seq c32_21 c32_24
theorem r32_25 : type_of% (@rr _ _ c32_25.eq_1) := rr rfl
def c32_26 : ACode := .seq c32_20 c32_25
theorem r32_26 : type_of% (@rr _ _ c32_26.eq_1) := rr rfl
def c32_27 : ACode := .seq c32_19 c32_26
theorem r32_27 : type_of% (@rr _ _ c32_27.eq_1) := rr rfl
def c32_28 : ACode := .seq c32_18 c32_27
theorem r32_28 : type_of% (@rr _ _ c32_28.eq_1) := rr rfl
def c32_29 : ACode := .seq c32_17 c32_28
theorem r32_29 : type_of% (@rr _ _ c32_29.eq_1) := rr rfl
def c32_30 : ACode := .seq c32_10 c32_29
theorem r32_30 : type_of% (@rr _ _ c32_30.eq_1) := rr rfl
def c32_31 : ACode := .seq c32_9 c32_30
theorem r32_31 : type_of% (@rr _ _ c32_31.eq_1) := rr rfl
def c32_32 : ACode := .seq c32_8 c32_31
theorem r32_32 : type_of% (@rr _ _ c32_32.eq_1) := rr rfl
def c32_33 : ACode := .block 1 c32_32
theorem r32_33 : type_of% (@rr _ _ c32_33.eq_1) := rr rfl
def c32_34 : ACode := .seq c32_7 c32_33
theorem r32_34 : type_of% (@rr _ _ c32_34.eq_1) := rr rfl
def c32_35 : ACode := .keep [2, 6, 7, 8, 9] [2, 6, 7, 8] c32_34
theorem r32_35 : type_of% (@rr _ _ c32_35.eq_1) := rr rfl
def c32_36 : ACode := .loop c32_35
theorem r32_36 : type_of% (@rr _ _ c32_36.eq_1) := rr rfl
def c32_37 : ACode := .block 0 c32_36
theorem r32_37 : type_of% (@rr _ _ c32_37.eq_1) := rr rfl
def c32_38 : ACode := .ops [⟨some 105, .mv (.t 6), none, []⟩,⟨some 106, .mv (.t 7), none, []⟩,⟨some 4, .mv (.t 105), none, []⟩,⟨some 5, .mv (.t 106), none, []⟩] [4, 5]
theorem r32_38 : type_of% (@rr _ _ c32_38.eq_1) := rr rfl
def c32_39 : ACode := .seq c32_38 .ret
theorem r32_39 : type_of% (@rr _ _ c32_39.eq_1) := rr rfl
def c32_40 : ACode := .seq c32_37 c32_39
theorem r32_40 : type_of% (@rr _ _ c32_40.eq_1) := rr rfl
def c32_41 : ACode := .seq c32_4 c32_40
theorem r32_41 : type_of% (@rr _ _ c32_41.eq_1) := rr rfl
def c32_42 : ACode := .seq c32_3 c32_41
theorem r32_42 : type_of% (@rr _ _ c32_42.eq_1) := rr rfl
def c32_43 : ACode := .seq c32_2 c32_42
theorem r32_43 : type_of% (@rr _ _ c32_43.eq_1) := rr rfl
def c32_44 : ACode := .seq c32_1 c32_43
theorem r32_44 : type_of% (@rr _ _ c32_44.eq_1) := rr rfl
def c32_45 : ACode := .seq c32_0 c32_44
theorem r32_45 : type_of% (@rr _ _ c32_45.eq_1) := rr rfl
def a32 : AFun := ⟨2, 107, c32_45, [.t 4, .t 5]⟩
attribute [simp] r32_0 r32_1 r32_2 r32_3 r32_4 r32_5 r32_6 r32_7 r32_8 r32_9 r32_10 r32_11 r32_12 r32_13 r32_14 r32_15 r32_16 r32_17 r32_18 r32_19 r32_20 r32_21 r32_22 r32_23 r32_24 r32_25 r32_26 r32_27 r32_28 r32_29 r32_30 r32_31 r32_32 r32_33 r32_34 r32_35 r32_36 r32_37 r32_38 r32_39 r32_40 r32_41 r32_42 r32_43 r32_44 r32_45
theorem m32 : mFun Try.prog Try.f32 a32 = true := by decide +kernel
def cutK' (c : Cutting) (n : Nat) : Int := within (pick c.place n) 0 5
def stopS (c : Cutting) (x : Box) (cuts n : Nat) : Prop := cutK' c n = 5 ∨ 20 ≤ cuts ∨ c.place.length = 0 ∨ (x.get (cutK' c n)).hi ≤ (x.get (cutK' c n)).lo
instance (c : Cutting) (x : Box) (cuts n : Nat) : Decidable (stopS c x cuts n) := by unfold stopS; exact inferInstance
def cutN' (c : Cutting) (x : Box) (n : Nat) : Int := within (pick c.cut n) (x.get (cutK' c n)).lo ((x.get (cutK' c n)).hi - 1)
def stepsN (c : Cutting) : Nat → List Box → Nat → List Box → List Step → List Box × List Step
  | 0, _, _, O, S => (O, S)
  | _ + 1, [], _, O, S => (O, S)
  | n + 1, x :: R, cuts, O, S => if stopS c x cuts S.length then stepsN c n R cuts (O ++ [x]) (S ++ [sumS]) else
    stepsN c n ((cutB x (cutK' c S.length) (cutN' c x S.length)).1 :: (cutB x (cutK' c S.length) (cutN' c x S.length)).2 :: R) (cuts + 1) O (S ++ [⟨false, cutK' c S.length, cutN' c x S.length⟩])
def stepsOf (c : Cutting) (b : Box) : List Box × List Step := stepsN c 41 [b] 0 [] []
theorem cutK_le (c : Cutting) (n : Nat) : 0 ≤ cutK' c n ∧ cutK' c n ≤ 5 := within_le _ 0 5 (by omega)
theorem cutN_in {c : Cutting} {x : Box} {cuts n : Nat} (h : ¬ stopS c x cuts n) : 0 ≤ cutK' c n ∧ cutK' c n < 5 ∧ (x.get (cutK' c n)).lo ≤ cutN' c x n ∧ cutN' c x n < (x.get (cutK' c n)).hi := by
  unfold stopS at h
  simp only [not_or] at h
  obtain ⟨h1, _, _, h4⟩ := h
  have hk := cutK_le c n
  have := within_le (pick c.cut n) (x.get (cutK' c n)).lo ((x.get (cutK' c n)).hi - 1) (by omega)
  unfold cutN'
  omega
theorem steps_check {m : Model} (hm : RM m) {q : Query} (c : Cutting) (bs : List Box) : ∀ (n : Nat) (R : List Box) (cuts : Nat) (O : List Box) (S : List Step), 2 * (20 - cuts) + R.length ≤ n → WI 199 (R ++ bs) → (∀ x ∈ R, closedM m q x = true) →
    ∃ l, (stepsN c n R cuts O S).2 = S ++ l ∧ l.length ≤ n ∧ ∀ rest, checkN m q (R ++ bs) (l ++ rest) = checkN m q bs rest
  | 0, R, cuts, O, S, hn, _, _ => by
    have : R = [] := List.length_eq_zero_iff.1 (by omega)
    subst this
    exact ⟨[], by simp [stepsN], by simp, fun rest => rfl⟩
  | n + 1, [], cuts, O, S, hn, _, _ => ⟨[], by simp [stepsN], by simp, fun rest => rfl⟩
  | n + 1, x :: R, cuts, O, S, hn, hw, hc => by
    have hx := hc x (by simp)
    have hd : (R ++ bs).length < 200 := by
      have : (R ++ bs).length + wide x ≤ 199 := hw.1
      omega
    rw [stepsN]
    rw [List.length_cons] at hn
    split
    · obtain ⟨l, h1, h2, h3⟩ := steps_check hm c bs n R cuts (O ++ [x]) (S ++ [sumS]) (by omega) hw.2 (fun y hy => hc y (by simp [hy]))
      refine ⟨sumS :: l, by rw [h1, List.append_assoc]; rfl, by simp; omega, fun rest => ?_⟩
      rw [List.cons_append, List.cons_append, checkN_sum hd hx]
      exact h3 rest
    · rename_i hs
      obtain ⟨k0, k5, k1, k2⟩ := cutN_in hs
      have h20 : cuts < 20 := by
        unfold stopS at hs
        simp only [not_or] at hs
        omega
      have hsub := cut_sub x k0 k5 (cutN' c x S.length)
      obtain ⟨l, h1, h2, h3⟩ := steps_check hm c bs n _ (cuts + 1) O (S ++ [⟨false, cutK' c S.length, cutN' c x S.length⟩]) (by simp only [List.length_cons]; omega) (show WI 199 ((cutB x (cutK' c S.length) (cutN' c x S.length)).1 :: (cutB x (cutK' c S.length) (cutN' c x S.length)).2 :: R ++ bs) from WI.cut hw k0 k5 k1 k2) (fun y hy => by
        simp only [List.mem_cons] at hy
        rcases hy with rfl | rfl | hy
        · exact closed_part hm hx hsub.1
        · exact closed_part hm hx hsub.2
        · exact hc y (by simp [hy]))
      refine ⟨⟨false, cutK' c S.length, cutN' c x S.length⟩ :: l, by rw [h1, List.append_assoc]; rfl, by simp; omega, fun rest => ?_⟩
      rw [List.cons_append, List.cons_append, checkN_cut hd k0 k5 k1 k2]
      exact h3 rest
def okBox (b : Box) : Prop := smallB b ∧ b.empty = false
theorem okBox_cut {b : Box} (h : okBox b) {k n : Int} (h0 : 0 ≤ k) (h5 : k < 5) (h1 : (b.get k).lo ≤ n) (h2 : n < (b.get k).hi) : okBox (cutB b k n).1 ∧ okBox (cutB b k n).2 := by
  have hne := cut_some h.2 h0 h5 h1 h2
  have hs := get_small h.1 k
  unfold small at hs
  rw [cutB_halves h0 h5 h1 h2] at hne ⊢
  have key : ∀ s : Span, small s → smallB (b.set k s) := fun s hs => by
    obtain ⟨a0, a1, a2, a3, a4⟩ := h.1
    have hc : k = 0 ∨ k = 1 ∨ k = 2 ∨ k = 3 ∨ k = 4 := by omega
    rcases hc with rfl | rfl | rfl | rfl | rfl <;> simp only [Box.set, reduceIte, Int.reduceEq] <;> exact ⟨by assumption, by assumption, by assumption, by assumption, by assumption⟩
  exact ⟨⟨key _ (by unfold small; simp only; omega), hne.1⟩, ⟨key _ (by unfold small; simp only; omega), hne.2⟩⟩
noncomputable def StepsC (c : Cutting) (b : Box) : Option (List Box × List Step) := Part (okBox b) (stepsOf c b)
theorem pick_lst (l : List Int) (n : Nat) : Pick l (n : Int) = some (pick l n) := pick_of l n
theorem runs_Steps (c : Cutting) (b : Box) (r : List Box × List Step) (h : StepsC c b = some r) : Runs (tbl [(65, sp2 Pick), (24, sp3 Within)]) a32 [Arg.enc c, Arg.enc b] (Arg.enc r) := by
  obtain ⟨hb, rfl⟩ := part_some h
  clear h
  refine ⟨rfl, fun g => run_def ?_⟩
  unfold a32
  have hres : stepsN c 41 [b] 0 [] [] = stepsOf c b := rfl
  generalize stepsOf c b = res at *
  simp -implicitDefEqProofs []
  refine run_while (c := c32_34) (fun n s => ∃ (cuts : Nat) (R O : List Box) (S : List Step) (G : List AV) (g : Nat → Nat), n = 2 * (20 - cuts) + R.length ∧ n ≤ 41 ∧ cuts ≤ 20 ∧ S.length + n ≤ 41 ∧ O.length + n ≤ 41 ∧ (∀ x ∈ R, okBox x) ∧ stepsN c n R.reverse cuts O S = res ∧
    s = ⟨[(2, .ptr 2 (g 2) 0), (6, .own 6 (g 6) 0 O.length), (7, .own 7 (g 7) 0 S.length), (8, .own 8 (g 8) 0 R.length), (9, .int .i64 cuts)], [(2, ⟨Row.enc c, false, 0⟩), (6, ⟨encL O, false, 10⟩), (7, ⟨encL S, false, 3⟩), (8, ⟨encL R ++ G, false, 10⟩)], g⟩) 41 ⟨0, [b], [], [], [], bump 8 (bump 7 (bump 6 (bump 3 (bump 2 g)))), by simp, by omega, by omega, by simp, by simp, by simpa using hb, hres, by simp [encL_cons, encL_nil]⟩ ?_
  rintro n s ⟨cuts, R, O, S, G, g, hn, hn41, hcu, hSl, hOl, hRok, hW, rfl⟩
  have hOk := takeB O
  have hOl2 := lenB O
  have hSk := take_stepsE S
  have hSl2 := len_steps S
  rcases List.eq_nil_or_concat R with rfl | ⟨R, x, rfl⟩
  · have hr : res = (O, S) := by rw [← hW]; cases n <;> rfl
    subst hr
    simp -implicitDefEqProofs [hOk, hOl2, hSk, hSl2]
  rw [List.concat_eq_append] at *
  rw [List.reverse_append, List.reverse_singleton, List.singleton_append] at hW
  have e2 : (R ++ [x]).length = R.length + 1 := by simp
  rw [e2] at hn
  obtain ⟨n, rfl⟩ : ∃ n', n = n' + 1 := ⟨n - 1, by omega⟩
  rw [stepsN] at hW
  have hxok : okBox x := hRok x (by simp)
  have hRok' : ∀ z ∈ R, okBox z := fun z hz => hRok z (by simp [hz])
  have wL : IntKind.i64.wrap ((R.length : Nat) : Int) = R.length := wrap64 (by omega) (by omega)
  have c0 : R.length + 1 ≤ maxN := by unfold maxN; omega
  have c00 : S.length ≤ maxN := by unfold maxN; omega
  have c9 : (R.length : Int) < (R.length : Int) + 1 := by omega
  have c10 : (R.length : Int) ≤ (R.length : Int) + 1 := by omega
  have c11 : R.length ≤ 1099511627774 := by omega
  have c12 : O.length ≤ 1099511627775 := by omega
  have c13 : S.length ≤ 1099511627775 := by omega
  have htop : rd (encL R ++ (Row.enc x ++ G)) (R.length * 10) 10 true = some (.agg (Row.enc x)) := by
    have := rd_top R x G
    rw [encL_append, List.append_assoc] at this
    simpa [encL_cons, encL_nil] using this
  have e1 : encL (R ++ [x]) ++ G = encL R ++ (Row.enc x ++ G) := by simp [encL_append, encL_cons, encL_nil]
  rw [e1, e2]
  have htk := take_boxG R (Row.enc x ++ G)
  have hlen := len_boxG R (Row.enc x ++ G)
  generalize (Row.enc x ++ G) = G2 at *
  have hlen2 : R.length * 10 ≤ (encL R).length + G2.length := by simpa using hlen
  have htop : rd (encL R ++ G2) (R.length * 10) 10 true = some (.agg [.int .i64 x.s0.lo, .int .i64 x.s0.hi, .int .i64 x.s1.lo, .int .i64 x.s1.hi, .int .i64 x.s2.lo, .int .i64 x.s2.hi, .int .i64 x.s3.lo, .int .i64 x.s3.hi, .int .i64 x.s4.lo, .int .i64 x.s4.hi]) := htop
  have hpk := pick_lst c.place S.length
  have hpa := pick_lst c.cut S.length
  have hWk := within_of (pick c.place S.length) 0 5 (by omega)
  have hk05 := cutK_le c S.length
  have hkd : within (pick c.place S.length) 0 5 = cutK' c S.length := rfl
  rw [hkd] at hWk
  have hin := cutN_in (c := c) (x := x) (cuts := cuts) (n := S.length)
  have hnd : cutN' c x S.length = within (pick c.cut S.length) (x.get (cutK' c S.length)).lo ((x.get (cutK' c S.length)).hi - 1) := rfl
  have hst : stopS c x cuts S.length ↔ (cutK' c S.length = 5 ∨ 20 ≤ cuts ∨ c.place.length = 0 ∨ (x.get (cutK' c S.length)).hi ≤ (x.get (cutK' c S.length)).lo) := Iff.rfl
  have hgs := get_small hxok.1 (cutK' c S.length)
  unfold small at hgs
  have hsn := encL_snocB O x
  have hss : encL (S ++ [sumS]) = encL S ++ [.bool true, .int .i64 0, .int .i64 0] := by rw [encL_append]; rfl
  generalize hK : cutK' c S.length = k at *
  by_cases hs : stopS c x cuts S.length
  case pos =>
    rw [if_pos hs] at hW
    rw [hst] at hs
    by_cases q5 : k = 5
    · simp -implicitDefEqProofs [c0, c00, c9, c10, c12, c13, wL, htop, hlen2, hOk, hOl2, hSk, hSl2, hpk, hWk, q5]
      exact ⟨n, by omega, cuts, R, by omega, by omega, hcu, O ++ [x], S ++ [sumS], by simp; omega, by simp; omega, hRok', hW, ⟨by simp, by simp, rfl, rfl⟩, hsn.symm, hss.symm, ⟨G2, rfl⟩⟩
    by_cases q20 : 20 ≤ cuts
    · have q20' : (20 : Int) ≤ cuts := by omega
      simp -implicitDefEqProofs [c0, c00, c9, c10, c12, c13, wL, htop, hlen2, hOk, hOl2, hSk, hSl2, hpk, hWk, q5, q20']
      exact ⟨n, by omega, cuts, R, by omega, by omega, hcu, O ++ [x], S ++ [sumS], by simp; omega, by simp; omega, hRok', hW, ⟨by simp, by simp, rfl, rfl⟩, hsn.symm, hss.symm, ⟨G2, rfl⟩⟩
    have q20' : ¬ (20 : Int) ≤ cuts := by omega
    by_cases b9 : c.place.length ≤ maxN
    case neg => simp -implicitDefEqProofs [c0, c00, c9, c10, c12, c13, wL, htop, hlen2, hOk, hOl2, hSk, hSl2, hpk, hWk, q5, q20', b9]
    by_cases q0 : c.place.length = 0
    · have hpl : c.place = [] := List.length_eq_zero_iff.1 q0
      have hD0 : (Arg.dec (.lst 0 (encL ([] : List Int))) : Option (List Int)) = some [] := rfl
      rw [hpl] at hpk hWk
      simp -implicitDefEqProofs [c0, c00, c9, c10, c12, c13, wL, htop, hlen2, hOk, hOl2, hSk, hSl2, hpk, hWk, q5, q20', hpl, hD0]
      exact ⟨n, by omega, cuts, R, by omega, by omega, hcu, O ++ [x], S ++ [sumS], by simp; omega, by simp; omega, hRok', hW, ⟨by simp, by simp, rfl, rfl⟩, hsn.symm, hss.symm, ⟨G2, rfl⟩⟩
    have q0' : ¬ (c.place.length : Int) = 0 := by omega
    have qhi : (x.get k).hi ≤ (x.get k).lo := by
      rcases hs with h | h | h | h
      · exact absurd h q5
      · exact absurd h q20
      · exact absurd h q0
      · exact h
    have hk5 : k = 0 ∨ k = 1 ∨ k = 2 ∨ k = 3 ∨ k = 4 := by omega
    rcases hk5 with rfl | rfl | rfl | rfl | rfl <;> simp only [Box.get, reduceIte, Int.reduceEq] at qhi <;> simp -implicitDefEqProofs [c0, c00, c9, c10, c12, c13, wL, htop, hlen2, hOk, hOl2, hSk, hSl2, hpk, hWk, q20', q0, q0', qhi, b9]
    all_goals exact ⟨n, by omega, cuts, R, by omega, by omega, hcu, O ++ [x], S ++ [sumS], by simp; omega, by simp; omega, hRok', hW, ⟨by simp, by simp, rfl, rfl⟩, hsn.symm, hss.symm, ⟨G2, rfl⟩⟩
  case neg =>
    rw [if_neg hs] at hW
    obtain ⟨k0, k5, k1, k2⟩ := hin hs
    rw [hst] at hs
    simp only [not_or] at hs
    obtain ⟨q5, q20, q0, qhi⟩ := hs
    have q20' : ¬ (20 : Int) ≤ cuts := by omega
    have q0' : ¬ (c.place.length : Int) = 0 := by omega
    have wc : IntKind.i64.wrap ((cuts : Int) + 1) = (cuts : Int) + 1 := wrap64 (by omega) (by omega)
    have wh : IntKind.i64.wrap ((x.get k).hi - 1) = (x.get k).hi - 1 := wrap64 (by omega) (by omega)
    have hWn := within_of (pick c.cut S.length) (x.get k).lo ((x.get k).hi - 1) (by omega)
    rw [← hnd] at hWn
    have hok2 := okBox_cut hxok k0 k5 k1 k2
    rw [cutB_halves k0 k5 k1 k2] at hW hok2
    have wn : IntKind.i64.wrap (cutN' c x S.length + 1) = cutN' c x S.length + 1 := wrap64 (by omega) (by omega)
    generalize cutN' c x S.length = at_ at *
    simp only at hW hok2
    by_cases b9 : c.place.length ≤ maxN
    case neg => simp -implicitDefEqProofs [c0, c00, c9, c10, c12, c13, wL, htop, hlen2, hOk, hOl2, hSk, hSl2, hpk, hWk, q5, q20', b9]
    have fin : ∀ (kk : Int) (y z : Box), okBox y → okBox z → stepsN c n (y :: z :: R.reverse) (cuts + 1) O (S ++ [⟨false, kk, at_⟩]) = res → ∃ m', m' < n + 1 ∧ ∃ cuts_1 R_1, m' = 2 * (20 - cuts_1) + R_1.length ∧ m' ≤ 41 ∧ cuts_1 ≤ 20 ∧ ∃ x_1 x_2, x_2.length + m' ≤ 41 ∧ x_1.length + m' ≤ 41 ∧ (∀ x ∈ R_1, okBox x) ∧ stepsN c m' R_1.reverse cuts_1 x_1 x_2 = res ∧
        (O.length = x_1.length ∧ S.length + 1 = x_2.length ∧ R.length + 2 = R_1.length ∧ (cuts : Int) + 1 = cuts_1) ∧ encL O = encL x_1 ∧ encL S ++ [.bool false, .int .i64 kk, .int .i64 at_] = encL x_2 ∧ ∃ x_3, encL R ++ (Row.enc z ++ Row.enc y) = encL R_1 ++ x_3 := by
      intro kk y z hy hz hWW
      have hok3 : ∀ b' ∈ R ++ [z, y], okBox b' := fun b' hb' => by
        rcases List.mem_append.1 hb' with hb' | hb'
        · exact hRok' b' hb'
        · simp at hb'
          rcases hb' with rfl | rfl
          · exact hz
          · exact hy
      have hrow2 : encL (R ++ [z, y]) ++ [] = encL R ++ (Row.enc z ++ Row.enc y) := by simp [encL_append, encL_cons, encL_nil]
      have hss2 : encL (S ++ [⟨false, kk, at_⟩]) = encL S ++ [.bool false, .int .i64 kk, .int .i64 at_] := by rw [encL_append]; rfl
      exact ⟨n, by omega, cuts + 1, R ++ [z, y], by simp; omega, by omega, by omega, O, S ++ [⟨false, kk, at_⟩], by simp; omega, by omega, hok3, by simpa using hWW, ⟨rfl, by simp, by simp, by omega⟩, rfl, hss2.symm, ⟨[], hrow2.symm⟩⟩
    have hss2 : encL (S ++ [⟨false, k, at_⟩]) = encL S ++ [.bool false, .int .i64 k, .int .i64 at_] := by rw [encL_append]; rfl
    have hk5 : k = 0 ∨ k = 1 ∨ k = 2 ∨ k = 3 ∨ k = 4 := by omega
    rcases hk5 with rfl | rfl | rfl | rfl | rfl <;> simp only [Box.get, Box.set, reduceIte, Int.reduceEq] at qhi wh hWn hW hok2 <;> simp -implicitDefEqProofs [c0, c00, c9, c10, c11, c12, c13, wL, wc, wh, wn, htop, hlen2, htk, hOk, hOl2, hSk, hSl2, hpk, hpa, hWk, hWn, q20', q0, q0', qhi, b9]
    all_goals exact fin _ _ _ hok2.1 hok2.2 hW
theorem c_Steps : Contract Try.prog 32 (sp2 StepsC) :=
  contract_of_runs mixed (tbl_cons c_pick (tbl_cons c_Within tbl_nil)) Try.func32 m32 (sp2_runs runs_Steps)
end Go.Co
