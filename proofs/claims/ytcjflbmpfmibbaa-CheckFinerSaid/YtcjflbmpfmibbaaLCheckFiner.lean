/- The law CheckFiner: what its text computes. -/
import Derived.Test.YtcjflbmpfmibbaaCz16
import Derived.Test.YtcjflbmpfmibbaaCz9
import Derived.Test.YtcjflbmpfmibbaaCz7
set_option maxHeartbeats 16000000
set_option maxRecDepth 100000
namespace Go.Co
open Go.Am Go.Proofs
set_option linter.unusedSimpArgs false
set_option linter.unusedVariables false
attribute [-simp] Go.Am.eff_gcall
theorem finer_cut {m : Model} {q : Query} {b : Box} {bs : List Box} {p n : Int} {l : List Step} (h : checkN m q (b :: bs) (⟨false, p, n⟩ :: l) = true) :
    bs.length < 200 ∧ 0 ≤ p ∧ p < 5 ∧ (b.get p).lo ≤ n ∧ n < (b.get p).hi ∧ checkN m q ((cutB b p n).1 :: (cutB b p n).2 :: bs) l = true := by
  rw [checkN] at h
  split at h
  · cases h
  · simp only [Bool.false_eq_true, if_false] at h
    split at h
    · split at h
      · exact ⟨by omega, by omega, by omega, by omega, by omega, h⟩
      · cases h
    · cases h
theorem finer_sum {m : Model} {q : Query} {b : Box} {bs : List Box} {p n : Int} {l : List Step} (h : checkN m q (b :: bs) (⟨true, p, n⟩ :: l) = true) :
    bs.length < 200 ∧ p = 0 ∧ n = 0 ∧ closedM m q b = true ∧ checkN m q bs l = true := by
  rw [checkN] at h
  split at h
  · cases h
  · simp only [if_true] at h
    split at h
    · split at h
      · exact ⟨by omega, by omega, by omega, ‹_›, h⟩
      · cases h
    · cases h
theorem checkN_wider {m : Model} {q r : Query} (h : ∀ b, closedM m q b = true → closedM m r b = true) : ∀ (l : List Step) (bs : List Box), checkN m q bs l = true → checkN m r bs l = true
  | [], [], _ => rfl
  | [], _ :: _, g => by rw [checkN] at g; cases g
  | _ :: _, [], g => by rw [checkN] at g; cases g
  | ⟨false, p, n⟩ :: l, b :: bs, g => by
    obtain ⟨h1, h2, h3, h4, h5, h6⟩ := finer_cut g
    rw [checkN_cut h1 h2 h3 h4 h5]
    exact checkN_wider h l _ h6
  | ⟨true, p, n⟩ :: l, b :: bs, g => by
    obtain ⟨h1, rfl, rfl, h4, h5⟩ := finer_sum g
    have := checkN_sum h1 (h b h4) l
    unfold sumS at this
    rw [this]
    exact checkN_wider h l _ h5
def withRange (q : Query) (a b : Int) : Query := { q with lo := a, hi := b }
theorem okQuery_range {m : Model} {q : Query} (h : okQuery m q = true) (hk : q.kind = 1) {x y : Int} (hx : x ≤ q.lo) (hy : q.hi ≤ y) : okQuery m (withRange q x y) = true := by
  unfold okQuery at *
  simp only [withRange, Bool.and_eq_true] at *
  refine ⟨h.1, ?_⟩
  have h2 := h.2
  unfold okKind at *
  rw [if_pos hk] at h2
  rw [if_pos hk]
  simp only [Bool.and_eq_true, decide_eq_true_eq] at *
  exact ⟨⟨by omega, h2.1.2⟩, h2.2⟩
theorem closed_range {m : Model} {q : Query} (h : okQuery m q = true) (hk : q.kind = 1) {x y : Int} (hx : x ≤ q.lo) (hy : q.hi ≤ y) (b : Box) (hc : closedM m q b = true) : closedM m (withRange q x y) b = true := by
  have h' := okQuery_range h hk hx hy
  unfold closedM at *
  rw [h'] 
  rw [h] at hc
  simp only [Bool.true_eq_false, if_false] at *
  split
  · rfl
  · rename_i hb
    rw [if_neg hb, if_pos hk] at hc
    have e : (withRange q x y).kind = 1 := hk
    have ec : (withRange q x y).cls = q.cls := rfl
    have el : (withRange q x y).lo = x := rfl
    have eh : (withRange q x y).hi = y := rfl
    rw [if_pos e, ec, el, eh]
    simp only [Bool.and_eq_true, decide_eq_true_eq] at *
    exact ⟨⟨hc.1.1, by omega⟩, by omega⟩
theorem range_queryOf (m : Model) (a : Ask) : -9000 ≤ (queryOf m a).lo ∧ (queryOf m a).lo ≤ 9000 ∧ -9000 ≤ (queryOf m a).hi ∧ (queryOf m a).hi ≤ 27000 := by
  have h1 := within_le a.lo (-9000) 9000 (by omega)
  have h2 := within_le a.size 0 18000 (by omega)
  unfold queryOf
  simp only
  split <;> omega
def c8_0 : ACode := .ops [⟨some 4, .box (.t 0) 4, none, []⟩,⟨some 5, .box (.t 1) 8, none, []⟩,⟨some 6, .box (.t 2) 2, none, []⟩,⟨some 8, .mv (.c (.bool false)), none, []⟩] [3, 4, 5, 6]
theorem r8_0 : type_of% (@rr _ _ c8_0.eq_1) := rr rfl
def c8_1 : ACode := .ops [⟨some 22, .load 4 true (.t 4), none, [4]⟩,⟨some 23, .call 15 [.t 22], none, []⟩,⟨some 9, .alloc [.int .i64 0, .int .i64 0, .int .i64 0, .int .i64 0, .int .i64 0, .nils], none, []⟩,⟨none, .store (.t 9) 6 (.t 23), none, [9]⟩] [3, 5, 6, 9]
theorem r8_1 : type_of% (@rr _ _ c8_1.eq_1) := rr rfl
def c8_2 : ACode := .ops [⟨some 24, .load 8 true (.t 5), none, [5]⟩,⟨some 25, .load 6 true (.t 9), none, [9]⟩,⟨some 26, .call 31 [.t 24, .t 25], none, []⟩,⟨some 10, .alloc [.int .i64 0, .int .i64 0, .int .i64 0, .int .i64 0, .int .i64 0, .int .i64 0, .int .i64 0, .int .i64 0, .int .i64 0, .int .i64 0, .int .i64 0, .int .i64 0, .int .i64 0, .int .i64 0, .int .i64 0, .bool false, .int .i64 0], none, []⟩,⟨none, .store (.t 10) 17 (.t 26), none, [10]⟩] [3, 6, 9, 10]
theorem r8_2 : type_of% (@rr _ _ c8_2.eq_1) := rr rfl
def c8_3 : ACode := .ops [⟨some 27, .fad (.t 10) 16, none, [10]⟩,⟨none, .store (.t 27) 1 (.c (.int .i64 400)), none, [10]⟩] [3, 6, 9, 10]
theorem r8_3 : type_of% (@rr _ _ c8_3.eq_1) := rr rfl
def c8_4 : ACode := .ops [⟨some 28, .load 6 true (.t 9), none, [9]⟩,⟨some 29, .load 17 true (.t 10), none, [10]⟩,⟨some 30, .call 34 [.t 28, .t 29], none, []⟩,⟨some 11, .alloc [.int .i64 0, .nils, .int .i64 0, .int .i64 0, .int .i64 0, .int .i64 0, .int .i64 0, .int .i64 0], none, []⟩,⟨none, .store (.t 11) 8 (.t 30), none, [11]⟩] [3, 6, 9, 10, 11]
theorem r8_4 : type_of% (@rr _ _ c8_4.eq_1) := rr rfl
def c8_5 : ACode := .ops [⟨some 31, .fad (.t 11) 0, none, [11]⟩,⟨some 32, .load 1 false (.t 31), none, [11]⟩,⟨some 33, .bin .neq (.t 32) (.c (.int .i64 1)), none, []⟩] [3, 6, 9, 10, 11, 33]
theorem r8_5 : type_of% (@rr _ _ c8_5.eq_1) := rr rfl
def c8_6 : ACode := .ops [⟨some 34, .call 41 [], none, []⟩,⟨some 8, .mv (.t 34), none, []⟩] [8]
theorem r8_6 : type_of% (@rr _ _ c8_6.eq_1) := rr rfl
def c8_7 : ACode := .seq c8_6 .ret
theorem r8_7 : type_of% (@rr _ _ c8_7.eq_1) := rr rfl
def c8_8 : ACode := .cond (.t 33) c8_7 .skip
theorem r8_8 : type_of% (@rr _ _ c8_8.eq_1) := rr rfl
def c8_9 : ACode := .seq c8_5 c8_8
theorem r8_9 : type_of% (@rr _ _ c8_9.eq_1) := rr rfl
def c8_10 : ACode := .ops [⟨some 35, .load 17 true (.t 10), none, [10]⟩,⟨some 36, .call 33 [.t 35], none, []⟩,⟨some 37, .mkrow 12 1 10 [.int .i64 0, .int .i64 0, .int .i64 0, .int .i64 0, .int .i64 0, .int .i64 0, .int .i64 0, .int .i64 0, .int .i64 0, .int .i64 0] [(0, 10, .t 36)], none, []⟩,⟨some 12, .mv (.t 37), none, []⟩] [3, 6, 9, 10, 11, 12]
theorem r8_10 : type_of% (@rr _ _ c8_10.eq_1) := rr rfl
def c8_11 : ACode := .ops [⟨some 13, .nil0 13 3, none, []⟩] [3, 6, 9, 10, 11, 12, 13]
theorem r8_11 : type_of% (@rr _ _ c8_11.eq_1) := rr rfl
def c8_12 : ACode := .ops [⟨some 38, .fad (.t 11) 1, none, [11]⟩,⟨some 39, .load 1 false (.t 38), none, [11]⟩,⟨some 40, .len (.t 39), none, []⟩,⟨some 41, .mv (.c (.int .i64 0)), none, []⟩] [3, 6, 9, 10, 11, 12, 13, 39, 40, 41]
theorem r8_12 : type_of% (@rr _ _ c8_12.eq_1) := rr rfl
def c8_13 : ACode := .ops [⟨some 42, .bin .lss (.t 41) (.t 40), none, []⟩] [3, 6, 9, 10, 11, 12, 13, 39, 40, 41, 42]
theorem r8_13 : type_of% (@rr _ _ c8_13.eq_1) := rr rfl
def c8_14 : ACode := .cond (.t 42) .skip (.exit 0)
theorem r8_14 : type_of% (@rr _ _ c8_14.eq_1) := rr rfl
def c8_15 : ACode := .ops [⟨some 43, .ias (.t 39) (.t 41) 3, none, []⟩,⟨some 44, .load 3 true (.t 43), none, []⟩,⟨some 15, .alloc [.bool false, .int .i64 0, .int .i64 0], none, []⟩,⟨none, .store (.t 15) 3 (.t 44), none, [15]⟩] [3, 6, 9, 10, 11, 12, 13, 15, 39, 40, 41]
theorem r8_15 : type_of% (@rr _ _ c8_15.eq_1) := rr rfl
def c8_16 : ACode := .ops [⟨some 45, .mv (.t 12), none, []⟩,⟨some 46, .mv (.t 12), none, []⟩,⟨some 47, .len (.t 46), none, [12]⟩,⟨some 48, .bin .sub (.t 47) (.c (.int .i64 1)), none, []⟩,⟨some 49, .ias (.t 45) (.t 48) 10, none, [12]⟩,⟨some 50, .load 10 true (.t 49), none, [12]⟩,⟨some 16, .alloc [.int .i64 0, .int .i64 0, .int .i64 0, .int .i64 0, .int .i64 0, .int .i64 0, .int .i64 0, .int .i64 0, .int .i64 0, .int .i64 0], none, []⟩,⟨none, .store (.t 16) 10 (.t 50), none, [16]⟩] [3, 6, 9, 10, 11, 12, 13, 15, 16, 39, 40, 41]
theorem r8_16 : type_of% (@rr _ _ c8_16.eq_1) := rr rfl
def c8_17 : ACode := .ops [⟨some 51, .mv (.t 12), none, []⟩,⟨some 52, .mv (.t 12), none, []⟩,⟨some 53, .len (.t 52), none, [12]⟩,⟨some 54, .bin .sub (.t 53) (.c (.int .i64 1)), none, []⟩,⟨some 55, .sl (.t 51) none (some (.t 54)) 10, none, [12]⟩,⟨some 12, .mv (.t 55), none, []⟩] [3, 6, 9, 10, 11, 12, 13, 15, 16, 39, 40, 41]
theorem r8_17 : type_of% (@rr _ _ c8_17.eq_1) := rr rfl
def c8_18 : ACode := .ops [⟨some 56, .fad (.t 15) 0, none, [15]⟩,⟨some 57, .load 1 false (.t 56), none, [15]⟩,⟨some 58, .un .not (.t 57), none, []⟩] [3, 6, 9, 10, 11, 12, 13, 15, 16, 39, 40, 41, 58]
theorem r8_18 : type_of% (@rr _ _ c8_18.eq_1) := rr rfl
def c8_19 : ACode := .ops [⟨some 59, .mv (.t 13), none, []⟩,⟨some 60, .load 3 true (.t 15), none, [15]⟩,⟨some 61, .mkrow 61 1 3 [.bool false, .int .i64 0, .int .i64 0] [(0, 3, .t 60)], none, []⟩,⟨some 62, .app 13 [13] (.t 59) (.t 61) 3, none, [13, 61]⟩,⟨some 13, .mv (.t 62), none, []⟩] [3, 6, 9, 10, 11, 12, 13, 15, 16, 39, 40, 41]
theorem r8_19 : type_of% (@rr _ _ c8_19.eq_1) := rr rfl
def c8_20 : ACode := .ops [⟨some 63, .load 10 true (.t 16), none, [16]⟩,⟨some 64, .load 10 true (.t 16), none, [16]⟩,⟨some 17, .alloc [.int .i64 0, .int .i64 0, .int .i64 0, .int .i64 0, .int .i64 0, .int .i64 0, .int .i64 0, .int .i64 0, .int .i64 0, .int .i64 0], none, []⟩,⟨some 18, .alloc [.int .i64 0, .int .i64 0, .int .i64 0, .int .i64 0, .int .i64 0, .int .i64 0, .int .i64 0, .int .i64 0, .int .i64 0, .int .i64 0], none, []⟩,⟨none, .store (.t 17) 10 (.t 63), none, [17]⟩,⟨none, .store (.t 18) 10 (.t 64), none, [18]⟩] [3, 6, 9, 10, 11, 12, 13, 15, 17, 18, 39, 40, 41]
theorem r8_20 : type_of% (@rr _ _ c8_20.eq_1) := rr rfl
def c8_21 : ACode := .ops [⟨some 65, .fad (.t 15) 1, none, [15]⟩,⟨some 66, .load 1 false (.t 65), none, [15]⟩,⟨some 67, .fad (.t 15) 1, none, [15]⟩,⟨some 68, .load 1 false (.t 67), none, [15]⟩,⟨some 69, .fad (.t 15) 2, none, [15]⟩,⟨some 70, .load 1 false (.t 69), none, [15]⟩,⟨some 71, .fad (.t 15) 2, none, [15]⟩,⟨some 72, .load 1 false (.t 71), none, [15]⟩,⟨some 73, .bin .add (.t 72) (.c (.int .i64 1)), none, []⟩,⟨some 74, .iad (.t 17) (.t 66) 2 5, none, [17]⟩,⟨some 75, .fad (.t 74) 1, none, [17]⟩,⟨none, .store (.t 75) 1 (.t 70), none, [17]⟩,⟨some 76, .iad (.t 18) (.t 68) 2 5, none, [18]⟩,⟨some 77, .fad (.t 76) 0, none, [18]⟩,⟨none, .store (.t 77) 1 (.t 73), none, [18]⟩] [3, 6, 9, 10, 11, 12, 13, 17, 18, 39, 40, 41]
theorem r8_21 : type_of% (@rr _ _ c8_21.eq_1) := rr rfl
def c8_22 : ACode := .ops [⟨some 78, .mv (.t 12), none, []⟩,⟨some 79, .load 10 true (.t 18), none, [18]⟩,⟨some 80, .load 10 true (.t 17), none, [17]⟩,⟨some 81, .mkrow 81 2 10 [.int .i64 0, .int .i64 0, .int .i64 0, .int .i64 0, .int .i64 0, .int .i64 0, .int .i64 0, .int .i64 0, .int .i64 0, .int .i64 0] [(0, 10, .t 79), (10, 10, .t 80)], none, []⟩,⟨some 82, .app 12 [12] (.t 78) (.t 81) 10, none, [12, 81]⟩,⟨some 12, .mv (.t 82), none, []⟩] [3, 6, 9, 10, 11, 12, 13, 39, 40, 41]
theorem r8_22 : type_of% (@rr _ _ c8_22.eq_1) := rr rfl
def c8_23 : ACode := .seq c8_22 (.exit 1)
theorem r8_23 : type_of% (@rr _ _ c8_23.eq_1) := rr rfl
def c8_24 : ACode := .seq c8_21 c8_23
theorem r8_24 : type_of% (@rr _ _ c8_24.eq_1) := rr rfl
def c8_25 : ACode := .seq c8_20 c8_24
theorem r8_25 : type_of% (@rr _ _ c8_25.eq_1) := rr rfl
def c8_26 : ACode := .seq c8_19 c8_25
theorem r8_26 : type_of% (@rr _ _ c8_26.eq_1) := rr rfl
def c8_27 : ACode := .cond (.t 58) c8_26 .skip
theorem r8_27 : type_of% (@rr _ _ c8_27.eq_1) := rr rfl
def c8_28 : ACode := .seq c8_18 c8_27
theorem r8_28 : type_of% (@rr _ _ c8_28.eq_1) := rr rfl
def c8_29 : ACode := .ops [⟨some 83, .mv (.t 13), none, []⟩,⟨some 84, .len (.t 83), none, [13]⟩,⟨some 85, .bin .lss (.t 84) (.c (.int .i64 2000)), none, []⟩] [3, 6, 9, 10, 11, 12, 13, 15, 16, 39, 40, 41, 85]
theorem r8_29 : type_of% (@rr _ _ c8_29.eq_1) := rr rfl
def c8_30 : ACode := .ops [⟨some 87, .load 2 true (.t 6), none, [6]⟩,⟨some 88, .load 10 true (.t 16), none, [16]⟩,⟨some 89, .call 32 [.t 87, .t 88], none, []⟩,⟨some 86, .mv (.t 89), none, []⟩,⟨some 90, .ext (.t 86) 0, none, []⟩,⟨some 91, .ext (.t 86) 1, none, []⟩,⟨some 19, .mv (.t 90), none, []⟩,⟨some 20, .mv (.t 91), none, []⟩] [3, 6, 9, 10, 11, 12, 13, 20, 39, 40, 41]
theorem r8_30 : type_of% (@rr _ _ c8_30.eq_1) := rr rfl
def c8_31 : ACode := .ops [⟨some 92, .mv (.t 13), none, []⟩,⟨some 93, .mv (.t 20), none, []⟩,⟨some 94, .app 13 [13] (.t 92) (.t 93) 3, none, [13]⟩,⟨some 13, .mv (.t 94), none, []⟩] [3, 6, 9, 10, 11, 12, 13, 39, 40, 41]
theorem r8_31 : type_of% (@rr _ _ c8_31.eq_1) := rr rfl
def c8_32 : ACode := .seq c8_30 c8_31
theorem r8_32 : type_of% (@rr _ _ c8_32.eq_1) := rr rfl
def c8_33 : ACode := .ops [⟨some 95, .mv (.t 13), none, []⟩,⟨some 96, .load 3 true (.t 15), none, [15]⟩,⟨some 97, .mkrow 97 1 3 [.bool false, .int .i64 0, .int .i64 0] [(0, 3, .t 96)], none, []⟩,⟨some 98, .app 13 [13] (.t 95) (.t 97) 3, none, [13, 97]⟩,⟨some 13, .mv (.t 98), none, []⟩] [3, 6, 9, 10, 11, 12, 13, 39, 40, 41]
theorem r8_33 : type_of% (@rr _ _ c8_33.eq_1) := rr rfl
def c8_34 : ACode := .cond (.t 85) c8_32 c8_33
theorem r8_34 : type_of% (@rr _ _ c8_34.eq_1) := rr rfl
def c8_35 : ACode := .seq c8_29 c8_34
theorem r8_35 : type_of% (@rr _ _ c8_35.eq_1) := rr rfl
def c8_36 : ACode := .seq c8_28 c8_35
theorem r8_36 : type_of% (@rr _ _ c8_36.eq_1) := rr rfl
def c8_37 : ACode := .seq c8_17 c8_36
theorem r8_37 : type_of% (@rr _ _ c8_37.eq_1) := rr rfl
def c8_38 : ACode := .seq c8_16 c8_37
theorem r8_38 : type_of% (@rr _ _ c8_38.eq_1) := rr rfl
def c8_39 : ACode := .seq c8_15 c8_38
theorem r8_39 : type_of% (@rr _ _ c8_39.eq_1) := rr rfl
def c8_40 : ACode := .block 1 c8_39
theorem r8_40 : type_of% (@rr _ _ c8_40.eq_1) := rr rfl
def c8_41 : ACode := .ops [⟨some 99, .bin .add (.t 41) (.c (.int .i64 1)), none, []⟩,⟨some 41, .mv (.t 99), none, []⟩] [3, 6, 9, 10, 11, 12, 13, 39, 40, 41]
theorem r8_41 : type_of% (@rr _ _ c8_41.eq_1) := rr rfl
def c8_42 : ACode := .seq c8_40 c8_41
theorem r8_42 : type_of% (@rr _ _ c8_42.eq_1) := rr rfl
def c8_43 : ACode := .seq c8_14 c8_42
theorem r8_43 : type_of% (@rr _ _ c8_43.eq_1) := rr rfl
def c8_44 : ACode := .seq c8_13 c8_43
theorem r8_44 : type_of% (@rr _ _ c8_44.eq_1) := rr rfl
def c8_45 : ACode := .keep [3, 6, 9, 10, 11, 12, 13, 39, 40, 41] [6, 9, 10, 11, 12, 13] c8_44
theorem r8_45 : type_of% (@rr _ _ c8_45.eq_1) := rr rfl
def c8_46 : ACode := .loop c8_45
theorem r8_46 : type_of% (@rr _ _ c8_46.eq_1) := rr rfl
def c8_47 : ACode := .block 0 c8_46
theorem r8_47 : type_of% (@rr _ _ c8_47.eq_1) := rr rfl
def c8_48 : ACode := .seq c8_12 c8_47
theorem r8_48 : type_of% (@rr _ _ c8_48.eq_1) := rr rfl
def c8_49 : ACode := .ops [⟨some 100, .load 6 true (.t 9), none, [9]⟩,⟨some 101, .load 17 true (.t 10), none, [10]⟩,⟨some 102, .load 8 true (.t 11), none, [11]⟩,⟨some 103, .call 40 [.t 100, .t 101, .t 102], none, []⟩,⟨some 104, .un .not (.t 103), none, []⟩,⟨some 105, .mv (.t 104), none, []⟩,⟨some 106, .load 6 true (.t 9), some (105, false), [9]⟩,⟨some 107, .load 17 true (.t 10), some (105, false), [10]⟩,⟨some 108, .mv (.t 13), some (105, false), []⟩,⟨some 109, .build [.int .i64 0, .nils, .int .i64 0, .int .i64 0, .int .i64 0, .int .i64 0, .int .i64 0, .int .i64 0] [(0, 1, .c (.int .i64 1)), (1, 1, .t 108)], some (105, false), []⟩,⟨some 110, .call 40 [.t 106, .t 107, .t 109], some (105, false), [13]⟩,⟨some 111, .un .not (.t 110), some (105, false), []⟩,⟨some 112, .pick (.t 105) (.c (.bool true)) (.t 111), none, []⟩] [3, 9, 10, 11, 112]
theorem r8_49 : type_of% (@rr _ _ c8_49.eq_1) := rr rfl
def c8_50 : ACode := .ops [⟨some 8, .mv (.c (.bool false)), none, []⟩] [8]
theorem r8_50 : type_of% (@rr _ _ c8_50.eq_1) := rr rfl
def c8_51 : ACode := .seq c8_50 .ret
theorem r8_51 : type_of% (@rr _ _ c8_51.eq_1) := rr rfl
def c8_52 : ACode := .cond (.t 112) c8_51 .skip
theorem r8_52 : type_of% (@rr _ _ c8_52.eq_1) := rr rfl
def c8_53 : ACode := .seq c8_49 c8_52
theorem r8_53 : type_of% (@rr _ _ c8_53.eq_1) := rr rfl
def c8_54 : ACode := .ops [⟨some 113, .load 17 true (.t 10), none, [10]⟩,⟨some 21, .alloc [.int .i64 0, .int .i64 0, .int .i64 0, .int .i64 0, .int .i64 0, .int .i64 0, .int .i64 0, .int .i64 0, .int .i64 0, .int .i64 0, .int .i64 0, .int .i64 0, .int .i64 0, .int .i64 0, .int .i64 0, .bool false, .int .i64 0], none, []⟩,⟨none, .store (.t 21) 17 (.t 113), none, [21]⟩] [3, 9, 10, 11, 21]
theorem r8_54 : type_of% (@rr _ _ c8_54.eq_1) := rr rfl
def c8_55 : ACode := .ops [⟨some 114, .fad (.t 10) 0, none, [10]⟩,⟨some 115, .load 1 false (.t 114), none, [10]⟩,⟨some 116, .bin .eql (.t 115) (.c (.int .i64 1)), none, []⟩] [3, 9, 10, 11, 21, 116]
theorem r8_55 : type_of% (@rr _ _ c8_55.eq_1) := rr rfl
def c8_56 : ACode := .ops [⟨some 117, .fad (.t 10) 12, none, [10]⟩,⟨some 118, .load 1 false (.t 117), none, [10]⟩,⟨some 119, .mv (.t 3), none, []⟩,⟨some 120, .call 24 [.t 119, .c (.int .i64 0), .c (.int .i64 99)], none, []⟩,⟨some 121, .bin .sub (.t 118) (.t 120), none, []⟩,⟨some 122, .fad (.t 10) 13, none, [10]⟩,⟨some 123, .load 1 false (.t 122), none, [10]⟩,⟨some 124, .mv (.t 3), none, []⟩,⟨some 125, .call 24 [.t 124, .c (.int .i64 0), .c (.int .i64 99)], none, []⟩,⟨some 126, .bin .add (.t 123) (.t 125), none, []⟩,⟨some 127, .fad (.t 21) 12, none, [21]⟩,⟨none, .store (.t 127) 1 (.t 121), none, [21]⟩,⟨some 128, .fad (.t 21) 13, none, [21]⟩,⟨none, .store (.t 128) 1 (.t 126), none, [21]⟩] [9, 11, 21]
theorem r8_56 : type_of% (@rr _ _ c8_56.eq_1) := rr rfl
def c8_57 : ACode := .cond (.t 116) c8_56 .skip
theorem r8_57 : type_of% (@rr _ _ c8_57.eq_1) := rr rfl
def c8_58 : ACode := .seq c8_55 c8_57
theorem r8_58 : type_of% (@rr _ _ c8_58.eq_1) := rr rfl
def c8_59 : ACode := .ops [⟨some 129, .load 6 true (.t 9), none, [9]⟩,⟨some 130, .load 17 true (.t 21), none, [21]⟩,⟨some 131, .load 8 true (.t 11), none, [11]⟩,⟨some 132, .call 40 [.t 129, .t 130, .t 131], none, []⟩,⟨some 133, .mv (.t 132), none, []⟩,⟨some 134, .call 41 [], some (133, true), []⟩,⟨some 135, .pick (.t 133) (.t 134) (.c (.bool false)), none, []⟩,⟨some 8, .mv (.t 135), none, []⟩] [8]
theorem r8_59 : type_of% (@rr _ _ c8_59.eq_1) := rr rfl
def c8_60 : ACode := .seq c8_59 .ret
theorem r8_60 : type_of% (@rr _ _ c8_60.eq_1) := rr rfl
def c8_61 : ACode := .seq c8_58 c8_60
theorem r8_61 : type_of% (@rr _ _ c8_61.eq_1) := rr rfl
def c8_62 : ACode := .seq c8_54 c8_61
theorem r8_62 : type_of% (@rr _ _ c8_62.eq_1) := rr rfl
def c8_63 : ACode := .seq c8_53 c8_62
theorem r8_63 : type_of% (@rr _ _ c8_63.eq_1) := rr rfl
def c8_64 : ACode := .seq c8_48 c8_63
theorem r8_64 : type_of% (@rr _ _ c8_64.eq_1) := rr rfl
def c8_65 : ACode := .seq c8_11 c8_64
theorem r8_65 : type_of% (@rr _ _ c8_65.eq_1) := rr rfl
def c8_66 : ACode := .seq c8_10 c8_65
theorem r8_66 : type_of% (@rr _ _ c8_66.eq_1) := rr rfl
def c8_67 : ACode := .seq c8_9 c8_66
theorem r8_67 : type_of% (@rr _ _ c8_67.eq_1) := rr rfl
def c8_68 : ACode := .seq c8_4 c8_67
theorem r8_68 : type_of% (@rr _ _ c8_68.eq_1) := rr rfl
def c8_69 : ACode := .seq c8_3 c8_68
theorem r8_69 : type_of% (@rr _ _ c8_69.eq_1) := rr rfl
def c8_70 : ACode := .seq c8_2 c8_69
theorem r8_70 : type_of% (@rr _ _ c8_70.eq_1) := rr rfl
def c8_71 : ACode := .seq c8_1 c8_70
theorem r8_71 : type_of% (@rr _ _ c8_71.eq_1) := rr rfl
def c8_72 : ACode := .seq c8_0 c8_71
theorem r8_72 : type_of% (@rr _ _ c8_72.eq_1) := rr rfl
def a8 : AFun := ⟨4, 136, c8_72, [.t 8]⟩
attribute [simp] r8_0 r8_1 r8_2 r8_3 r8_4 r8_5 r8_6 r8_7 r8_8 r8_9 r8_10 r8_11 r8_12 r8_13 r8_14 r8_15 r8_16 r8_17 r8_18 r8_19 r8_20 r8_21 r8_22 r8_23 r8_24 r8_25 r8_26 r8_27 r8_28 r8_29 r8_30 r8_31 r8_32 r8_33 r8_34 r8_35 r8_36 r8_37 r8_38 r8_39 r8_40 r8_41 r8_42 r8_43 r8_44 r8_45 r8_46 r8_47 r8_48 r8_49 r8_50 r8_51 r8_52 r8_53 r8_54 r8_55 r8_56 r8_57 r8_58 r8_59 r8_60 r8_61 r8_62 r8_63 r8_64 r8_65 r8_66 r8_67 r8_68 r8_69 r8_70 r8_71 r8_72
theorem m8 : mFun Try.prog Try.f8 a8 = true := by decide +kernel
def c41_0 : ACode := .ops [⟨some 0, .mv (.c (.bool false)), none, []⟩] []
def c41_1 : ACode := .ops [⟨some 9, .call 74 [], none, []⟩,⟨some 1, .alloc [.int .i64 0, .int .i64 0, .int .i64 0, .int .i64 0, .int .i64 0, .nils], none, []⟩,⟨none, .store (.t 1) 6 (.t 9), none, [1]⟩] [1]
def c41_2 : ACode := .ops [⟨some 10, .build [.int .i64 0, .int .i64 0] [(0, 1, .c (.int .i64 0)), (1, 1, .c (.int .i64 9))], none, []⟩,⟨some 11, .build [.int .i64 0, .int .i64 0, .int .i64 0, .int .i64 0, .int .i64 0, .int .i64 0, .int .i64 0, .int .i64 0, .int .i64 0, .int .i64 0] [(0, 2, .t 10)], none, []⟩,⟨some 12, .build [.int .i64 0, .int .i64 0, .int .i64 0, .int .i64 0, .int .i64 0, .int .i64 0, .int .i64 0, .int .i64 0, .int .i64 0, .int .i64 0, .int .i64 0, .int .i64 0, .int .i64 0, .int .i64 0, .int .i64 0, .bool false, .int .i64 0] [(0, 1, .c (.int .i64 3)), (2, 10, .t 11)], none, []⟩,⟨some 2, .alloc [.int .i64 0, .int .i64 0, .int .i64 0, .int .i64 0, .int .i64 0, .int .i64 0, .int .i64 0, .int .i64 0, .int .i64 0, .int .i64 0, .int .i64 0, .int .i64 0, .int .i64 0, .int .i64 0, .int .i64 0, .bool false, .int .i64 0], none, []⟩,⟨none, .store (.t 2) 17 (.t 12), none, [2]⟩] [1, 2]
def c41_3 : ACode := .ops [⟨some 13, .build [.bool false, .int .i64 0, .int .i64 0] [(2, 1, .c (.int .i64 5))], none, []⟩,⟨some 14, .build [.bool false, .int .i64 0, .int .i64 0] [(0, 1, .c (.bool true))], none, []⟩,⟨some 15, .build [.bool false, .int .i64 0, .int .i64 0] [(1, 1, .c (.int .i64 4)), (2, 1, .c (.int .i64 5))], none, []⟩,⟨some 16, .build [.bool false, .int .i64 0, .int .i64 0] [(0, 1, .c (.bool true))], none, []⟩,⟨some 17, .build [.bool false, .int .i64 0, .int .i64 0] [(0, 1, .c (.bool true))], none, []⟩,⟨some 18, .mkrow 18 5 3 [.bool false, .int .i64 0, .int .i64 0] [(0, 3, .t 13), (3, 3, .t 14), (6, 3, .t 15), (9, 3, .t 16), (12, 3, .t 17)], none, []⟩,⟨some 19, .build [.int .i64 0, .nils, .int .i64 0, .int .i64 0, .int .i64 0, .int .i64 0, .int .i64 0, .int .i64 0] [(0, 1, .c (.int .i64 1)), (1, 1, .t 18)], none, []⟩,⟨some 3, .alloc [.int .i64 0, .nils, .int .i64 0, .int .i64 0, .int .i64 0, .int .i64 0, .int .i64 0, .int .i64 0], none, []⟩,⟨none, .store (.t 3) 8 (.t 19), none, [3]⟩] [1, 2, 3]
def c41_4 : ACode := .ops [⟨some 20, .build [.bool false, .int .i64 0, .int .i64 0] [(0, 1, .c (.bool true))], none, []⟩,⟨some 21, .mkrow 21 1 3 [.bool false, .int .i64 0, .int .i64 0] [(0, 3, .t 20)], none, []⟩,⟨some 22, .build [.int .i64 0, .nils, .int .i64 0, .int .i64 0, .int .i64 0, .int .i64 0, .int .i64 0, .int .i64 0] [(0, 1, .c (.int .i64 1)), (1, 1, .t 21)], none, []⟩,⟨some 4, .alloc [.int .i64 0, .nils, .int .i64 0, .int .i64 0, .int .i64 0, .int .i64 0, .int .i64 0, .int .i64 0], none, []⟩,⟨none, .store (.t 4) 8 (.t 22), none, [4]⟩] [1, 2, 3, 4]
def c41_5 : ACode := .ops [⟨some 23, .build [.int .i64 0, .nils, .int .i64 0, .int .i64 0, .int .i64 0, .int .i64 0, .int .i64 0, .int .i64 0] [(0, 1, .c (.int .i64 2)), (6, 1, .c (.int .i64 9))], none, []⟩,⟨some 5, .alloc [.int .i64 0, .nils, .int .i64 0, .int .i64 0, .int .i64 0, .int .i64 0, .int .i64 0, .int .i64 0], none, []⟩,⟨none, .store (.t 5) 8 (.t 23), none, [5]⟩] [1, 2, 3, 4, 5]
def c41_6 : ACode := .ops [⟨some 24, .load 6 true (.t 1), none, [1]⟩,⟨some 25, .load 17 true (.t 2), none, [2]⟩,⟨some 26, .load 8 true (.t 3), none, [3]⟩,⟨some 27, .call 40 [.t 24, .t 25, .t 26], none, [18]⟩,⟨some 28, .load 6 true (.t 1), none, [1]⟩,⟨some 29, .load 17 true (.t 2), none, [2]⟩,⟨some 30, .load 8 true (.t 4), none, [4]⟩,⟨some 31, .call 40 [.t 28, .t 29, .t 30], none, [21]⟩,⟨some 32, .load 6 true (.t 1), none, [1]⟩,⟨some 33, .load 17 true (.t 2), none, [2]⟩,⟨some 34, .load 8 true (.t 5), none, [5]⟩,⟨some 35, .call 40 [.t 32, .t 33, .t 34], none, []⟩,⟨some 6, .mv (.t 27), none, []⟩,⟨some 7, .mv (.t 31), none, []⟩,⟨some 8, .mv (.t 35), none, []⟩] [1, 2, 3, 5, 6, 7, 8]
def c41_7 : ACode := .ops [⟨some 36, .fad (.t 2) 15, none, [2]⟩,⟨none, .store (.t 36) 1 (.c (.bool true)), none, [2]⟩] [1, 2, 3, 5, 6, 7, 8]
def c41_8 : ACode := .ops [⟨some 37, .mv (.t 6), none, []⟩,⟨some 38, .mv (.t 37), none, []⟩,⟨some 39, .mv (.t 7), some (38, true), []⟩,⟨some 40, .un .not (.t 39), some (38, true), []⟩,⟨some 41, .pick (.t 38) (.t 40) (.c (.bool false)), none, []⟩,⟨some 42, .mv (.t 41), none, []⟩,⟨some 43, .mv (.t 8), some (42, true), []⟩,⟨some 44, .un .not (.t 43), some (42, true), []⟩,⟨some 45, .pick (.t 42) (.t 44) (.c (.bool false)), none, []⟩,⟨some 46, .mv (.t 45), none, []⟩,⟨some 47, .load 6 true (.t 1), some (46, true), [1]⟩,⟨some 48, .load 17 true (.t 2), some (46, true), [2]⟩,⟨some 49, .load 8 true (.t 5), some (46, true), [5]⟩,⟨some 50, .call 40 [.t 47, .t 48, .t 49], some (46, true), []⟩,⟨some 51, .pick (.t 46) (.t 50) (.c (.bool false)), none, []⟩,⟨some 52, .mv (.t 51), none, []⟩,⟨some 53, .load 6 true (.t 1), some (52, true), [1]⟩,⟨some 54, .load 17 true (.t 2), some (52, true), [2]⟩,⟨some 55, .load 8 true (.t 3), some (52, true), [3]⟩,⟨some 56, .call 40 [.t 53, .t 54, .t 55], some (52, true), [18]⟩,⟨some 57, .un .not (.t 56), some (52, true), []⟩,⟨some 58, .pick (.t 52) (.t 57) (.c (.bool false)), none, []⟩,⟨some 0, .mv (.t 58), none, []⟩] [0]
def c41_9 : ACode := .seq c41_8 .ret
def c41_10 : ACode := .seq c41_7 c41_9
def c41_11 : ACode := .seq c41_6 c41_10
def c41_12 : ACode := .seq c41_5 c41_11
def c41_13 : ACode := .seq c41_4 c41_12
def c41_14 : ACode := .seq c41_3 c41_13
def c41_15 : ACode := .seq c41_2 c41_14
def c41_16 : ACode := .seq c41_1 c41_15
def c41_17 : ACode := .seq c41_0 c41_16
def a41 : AFun := ⟨0, 59, c41_17, [.t 0]⟩
theorem m41 : mFun Try.prog Try.f41 a41 = true := by decide +kernel
def c74_0 : ACode := .ops [⟨some 0, .alloc [.int .i64 0, .int .i64 0, .int .i64 0, .int .i64 0, .int .i64 0, .nils], none, []⟩] [0]
def c74_1 : ACode := .ops [⟨some 2, .build [.bool false, .int .i64 0, .int .i64 0, .int .i64 0, .int .i64 0, .int .i64 0] [(3, 1, .c (.int .i64 5)), (4, 1, .c (.int .i64 1)), (5, 1, .c (.int .i64 2))], none, []⟩,⟨some 3, .call 68 [.t 2], none, []⟩,⟨some 4, .build [.bool false, .int .i64 0, .int .i64 0, .int .i64 0, .int .i64 0, .int .i64 0] [(0, 1, .c (.bool true)), (1, 1, .c (.int .i64 10))], none, []⟩,⟨some 5, .call 68 [.t 4], none, []⟩,⟨some 6, .build [.bool false, .int .i64 0, .int .i64 0, .int .i64 0, .int .i64 0, .int .i64 0] [(0, 1, .c (.bool true)), (1, 1, .c (.int .i64 20))], none, []⟩,⟨some 7, .call 68 [.t 6], none, []⟩,⟨some 8, .mkrow 1 3 1 [.int .u64 0] [(0, 1, .t 3), (1, 1, .t 5), (2, 1, .t 7)], none, []⟩,⟨some 1, .mv (.t 8), none, []⟩] [0, 1]
def c74_2 : ACode := .ops [⟨some 9, .build [.int .i64 0, .int .i64 0, .int .i64 0] [(0, 1, .c (.int .i64 3))], none, []⟩,⟨some 10, .mv (.t 1), none, []⟩,⟨some 11, .build [.int .i64 0, .nils] [(1, 1, .t 10)], none, []⟩,⟨some 12, .mkrow 12 1 2 [.int .i64 0, .nils] [(0, 2, .t 11)], none, []⟩,⟨some 13, .build [.int .i64 0, .int .i64 0, .int .i64 0, .int .i64 0, .int .i64 0, .nils] [(0, 1, .c (.int .i64 1)), (1, 1, .c (.int .i64 1)), (2, 3, .t 9), (5, 1, .t 12)], none, []⟩,⟨none, .store (.t 0) 6 (.t 13), none, [0]⟩] [0]
def c74_3 : ACode := .seq c74_2 .ret
def c74_4 : ACode := .seq c74_1 c74_3
def c74_5 : ACode := .seq c74_0 c74_4
def a74 : AFun := ⟨0, 14, c74_5, [.cell 0 6 true]⟩
theorem m74 : mFun Try.prog Try.f74 a74 = true := by decide +kernel
def texts41 : List (Nat × AFun) := [(19, a19), (20, a20), (27, a27), (28, a28), (38, a38), (40, a40), (41, a41), (45, a45), (57, a57), (58, a58), (66, a66), (68, a68), (69, a69), (70, a70), (71, a71), (72, a72), (74, a74), (75, a75), (76, a76), (77, a77), (78, a78), (85, a85), (89, a89), (90, a90), (91, a91), (92, a92), (97, a97), (108, a108), (109, a109), (110, a110), (117, a117), (118, a118), (119, a119), (120, a120), (121, a121), (122, a122), (123, a123), (124, a124), (125, a125), (126, a126), (132, a132), (133, a133), (134, a134), (143, a143), (144, a144), (146, a146), (147, a147), (149, a149), (162, a162)]
theorem texts41_good : Go.Am.Good Try.prog texts41 :=
  good_cons Try.func19 m19 <| good_cons Try.func20 m20 <| good_cons Try.func27 m27 <| good_cons Try.func28 m28 <| good_cons Try.func38 m38 <| good_cons Try.func40 m40 <| good_cons Try.func41 m41 <| good_cons Try.func45 m45 <| good_cons Try.func57 m57 <| good_cons Try.func58 m58 <| good_cons Try.func66 m66 <| good_cons Try.func68 m68 <| good_cons Try.func69 m69 <| good_cons Try.func70 m70 <| good_cons Try.func71 m71 <| good_cons Try.func72 m72 <| good_cons Try.func74 m74 <| good_cons Try.func75 m75 <| good_cons Try.func76 m76 <| good_cons Try.func77 m77 <| good_cons Try.func78 m78 <| good_cons Try.func85 m85 <| good_cons Try.func89 m89 <| good_cons Try.func90 m90 <| good_cons Try.func91 m91 <| good_cons Try.func92 m92 <| good_cons Try.func97 m97 <| good_cons Try.func108 m108 <| good_cons Try.func109 m109 <| good_cons Try.func110 m110 <| good_cons Try.func117 m117 <| good_cons Try.func118 m118 <| good_cons Try.func119 m119 <| good_cons Try.func120 m120 <| good_cons Try.func121 m121 <| good_cons Try.func122 m122 <| good_cons Try.func123 m123 <| good_cons Try.func124 m124 <| good_cons Try.func125 m125 <| good_cons Try.func126 m126 <| good_cons Try.func132 m132 <| good_cons Try.func133 m133 <| good_cons Try.func134 m134 <| good_cons Try.func143 m143 <| good_cons Try.func144 m144 <| good_cons Try.func146 m146 <| good_cons Try.func147 m147 <| good_cons Try.func149 m149 <| good_cons Try.func162 m162 <| good_nil
theorem c_closed41 : Contract Try.prog 41 (sp0 (some true)) := contract_closed mixed texts41_good (m := 2000) (n := 80) (by decide +kernel)
noncomputable abbrev cfT : Cs := tbl [(15, sp1 ModelC), (31, sp2 QueryC), (24, sp3 Within), (33, sp1 fun q => some (startOf q)), (32, sp2 StepsC), (34, sp2 RSearchC), (40, sp3 ProvesC), (41, sp0 (some true))]
structure CfI (m : Model) (q : Query) (pf : List Step) (i : Nat) (R : List Box) (S : List Step) : Prop where
  rest : checkN m q R.reverse (pf.drop i) = true
  wi : WI 199 R.reverse
  ok : ∀ x ∈ R, okBox x
  sl : S.length ≤ 41 * i
  rl : R.length ≤ i + 1
  same : ∀ l, checkN m q [startOf q] (S ++ l) = checkN m q R.reverse l
theorem CfI.cut {m : Model} {q : Query} {pf : List Step} {i : Nat} {R : List Box} {b : Box} {S : List Step} {k n : Int} (hi : i < pf.length) (hx : pf[i] = ⟨false, k, n⟩) (h : CfI m q pf i (R ++ [b]) S) :
    0 ≤ k ∧ k < 5 ∧ (b.get k).lo ≤ n ∧ n < (b.get k).hi ∧ CfI m q pf (i + 1) (R ++ [(cutB b k n).2, (cutB b k n).1]) (S ++ [⟨false, k, n⟩]) := by
  obtain ⟨h1, h2, h3, h4, h5, h6⟩ := h
  rw [List.drop_eq_getElem_cons hi, hx] at h1
  have e : (R ++ [b]).reverse = b :: R.reverse := by simp
  have e' : (R ++ [(cutB b k n).2, (cutB b k n).1]).reverse = (cutB b k n).1 :: (cutB b k n).2 :: R.reverse := by simp
  rw [e] at h1 h2 h6
  obtain ⟨g1, g2, g3, g4, g5, g6⟩ := finer_cut h1
  have hb2 := okBox_cut (h3 b (by simp)) g2 g3 g4 g5
  refine ⟨g2, g3, g4, g5, ⟨by rw [e']; exact g6, by rw [e']; exact WI.cut h2 g2 g3 g4 g5, fun x hx => ?_, by simp; omega, by simp at h5 ⊢; omega, fun l => ?_⟩⟩
  · simp only [List.mem_append, List.mem_cons, List.not_mem_nil, or_false] at hx
    rcases hx with hx | rfl | rfl
    · exact h3 x (by simp [hx])
    · exact hb2.2
    · exact hb2.1
  · rw [e', List.append_assoc, h6, List.singleton_append, checkN_cut g1 g2 g3 g4 g5]
theorem CfI.sum {m : Model} (hm : RM m) {q : Query} {pf : List Step} {i : Nat} {R : List Box} {b : Box} {S : List Step} {k n : Int} (hi : i < pf.length) (hx : pf[i] = ⟨true, k, n⟩) (h : CfI m q pf i (R ++ [b]) S) (c : Cutting) :
    k = 0 ∧ n = 0 ∧ CfI m q pf (i + 1) R (S ++ [sumS]) ∧ CfI m q pf (i + 1) R (S ++ (stepsOf c b).2) ∧ (stepsOf c b).2.length ≤ 41 := by
  obtain ⟨h1, h2, h3, h4, h5, h6⟩ := h
  rw [List.drop_eq_getElem_cons hi, hx] at h1
  have e : (R ++ [b]).reverse = b :: R.reverse := by simp
  rw [e] at h1 h2 h6
  obtain ⟨g1, rfl, rfl, g4, g5⟩ := finer_sum h1
  obtain ⟨l, l1, l2, l3⟩ := steps_check hm c R.reverse 41 [b] 0 [] [] (by simp) h2 (by simpa using g4)
  have es : (stepsOf c b).2 = l := by
    unfold stepsOf
    simpa using l1
  rw [es]
  have h5' : R.length ≤ i + 1 + 1 := by simp at h5; omega
  refine ⟨rfl, rfl, ⟨g5, h2.2, fun x hx => h3 x (by simp [hx]), by simp; omega, h5', fun r => ?_⟩, ⟨g5, h2.2, fun x hx => h3 x (by simp [hx]), by simp; omega, h5', fun r => ?_⟩, l2⟩
  · rw [List.append_assoc, h6, List.singleton_append, checkN_sum g1 g4]
  · rw [List.append_assoc, h6]
    exact l3 r
theorem CfI.more {m : Model} {q : Query} {pf : List Step} {i : Nat} {S : List Step} (hi : i < pf.length) (h : CfI m q pf i [] S) : False := by
  have h1 := h.rest
  rw [List.drop_eq_getElem_cons hi] at h1
  simp only [List.reverse_nil] at h1
  rw [checkN] at h1
  cases h1
theorem CfI.done {m : Model} {q : Query} {pf : List Step} {R : List Box} {S : List Step} (h : CfI m q pf pf.length R S) : checkN m q [startOf q] S = true := by
  have h1 := h.rest
  rw [List.drop_length, ← h.same, List.append_nil] at h1
  exact h1
theorem run_cfEnd (m : Model) (hm : RM m) (q : Query) (hq : okQuery m q = true) (hlo : -9000 ≤ q.lo ∧ q.lo ≤ 9000 ∧ -9000 ≤ q.hi ∧ q.hi ≤ 27000) (w : Int) (v : Verdict) (hv : v.kind = 1) (hc : checkN m q [startOf q] v.proof = true) (b9 : v.proof.length ≤ 65536) (S : List Step) (hS : checkN m q [startOf q] S = true) (s9 : S.length ≤ 65536) (h : Hp) (g : Nat → Nat)
    (h9 : hlook h 9 = some ⟨Row.enc m, false, 0⟩) (h10 : hlook h 10 = some ⟨Row.enc q, false, 0⟩) (h11 : hlook h 11 = some ⟨vCells v (.lst v.proof.length (encL v.proof)), false, 0⟩) (h13 : hlook h 13 = some ⟨encL S, false, 3⟩)
    (t : Env) (ht : Go.Am.look t 3 = .int .i64 w ∧ Go.Am.look t 9 = .ptr 9 (g 9) 0 ∧ Go.Am.look t 10 = .ptr 10 (g 10) 0 ∧ Go.Am.look t 11 = .ptr 11 (g 11) 0 ∧ Go.Am.look t 13 = .own 13 (g 13) 0 S.length) :
    run cfT c8_63 [] ⟨t, h, g⟩ (fin a8.res (.bool true)) := by
  unfold a8
  obtain ⟨t3, t9, t10, t11, t13⟩ := ht
  have hd := hm.dim
  have hdm : ¬ m.dim < 1 := by omega
  obtain ⟨vk, pf, vw, vt, vs⟩ := v
  simp only at hv hc b9
  subst hv
  have hPv : ProvesC m q ⟨1, pf, vw, vt, vs⟩ = some true := by unfold ProvesC; rw [if_neg hdm, part_of hm, check_proven hm hq hc b9]
  have hPS : ProvesC m q ⟨1, S, zeroP, 0, 0⟩ = some true := by unfold ProvesC; rw [if_neg hdm, part_of hm, check_proven hm hq hS s9]
  unfold vCells at h11
  simp only at h11
  have hsk := take_stepsE S
  have hsl := len_steps S
  have hDS : (Arg.dec (.agg [.int .i64 1, .lst S.length (encL S), .int .i64 0, .int .i64 0, .int .i64 0, .int .i64 0, .int .i64 0, .int .i64 0]) : Option Verdict) = some ⟨1, S, zeroP, 0, 0⟩ := Arg.dec_enc (⟨1, S, zeroP, 0, 0⟩ : Verdict)
  have hDv : (Arg.dec (.agg [.int .i64 1, .lst pf.length (encL pf), .int .i64 vw.p0, .int .i64 vw.p1, .int .i64 vw.p2, .int .i64 vw.p3, .int .i64 vt, .int .i64 vs]) : Option Verdict) = some ⟨1, pf, vw, vt, vs⟩ := Arg.dec_enc (⟨1, pf, vw, vt, vs⟩ : Verdict)
  by_cases k1 : q.kind = 1
  · have hW := within_of w 0 99 (by omega)
    have hw := within_le w 0 99 (by omega)
    generalize within w 0 99 = z at *
    have w1 : IntKind.i64.wrap (q.lo - z) = q.lo - z := wrap64 (by omega) (by omega)
    have w2 : IntKind.i64.wrap (q.hi + z) = q.hi + z := wrap64 (by omega) (by omega)
    have hx : q.lo - z ≤ q.lo := by omega
    have hy : q.hi ≤ q.hi + z := by omega
    have hr := okQuery_range hq k1 hx hy
    have hcr : checkN m (withRange q (q.lo - z) (q.hi + z)) [startOf (withRange q (q.lo - z) (q.hi + z))] pf = true := checkN_wider (closed_range hq k1 hx hy) pf _ hc
    have hPr : ProvesC m (withRange q (q.lo - z) (q.hi + z)) ⟨1, pf, vw, vt, vs⟩ = some true := by unfold ProvesC; rw [if_neg hdm, part_of hm, check_proven hm hr hcr b9]
    have hDq : ∀ k : Int, k = q.kind → (Arg.dec (.agg [.int .i64 k, .int .i64 q.cls, .int .i64 q.region.s0.lo, .int .i64 q.region.s0.hi, .int .i64 q.region.s1.lo, .int .i64 q.region.s1.hi, .int .i64 q.region.s2.lo, .int .i64 q.region.s2.hi, .int .i64 q.region.s3.lo, .int .i64 q.region.s3.hi, .int .i64 q.region.s4.lo, .int .i64 q.region.s4.hi, .int .i64 (q.lo), .int .i64 (q.hi), .int .i64 q.feature, .bool q.falls, .int .i64 q.budget]) : Option Query) = some q := by rintro k rfl; exact Arg.dec_enc q
    have hDr : ∀ k : Int, k = q.kind → (Arg.dec (.agg [.int .i64 k, .int .i64 q.cls, .int .i64 q.region.s0.lo, .int .i64 q.region.s0.hi, .int .i64 q.region.s1.lo, .int .i64 q.region.s1.hi, .int .i64 q.region.s2.lo, .int .i64 q.region.s2.hi, .int .i64 q.region.s3.lo, .int .i64 q.region.s3.hi, .int .i64 q.region.s4.lo, .int .i64 q.region.s4.hi, .int .i64 (q.lo - z), .int .i64 (q.hi + z), .int .i64 q.feature, .bool q.falls, .int .i64 q.budget]) : Option Query) = some (withRange q (q.lo - z) (q.hi + z)) := by rintro k rfl; exact Arg.dec_enc (withRange q (q.lo - z) (q.hi + z))
    have hDq := hDq 1 k1.symm
    have hDr := hDr 1 k1.symm
    simp -implicitDefEqProofs [hlook_hput, hlook_frzAll, h9, h10, h11, h13, t3, t9, t10, t11, t13, hPv, hPS, hsk, hsl, hDS, hDv, hDq, hDr, k1, hW, w1, w2, hPr]
  · simp -implicitDefEqProofs [hlook_hput, hlook_frzAll, h9, h10, h11, h13, t3, t9, t10, t11, t13, hPv, hPS, hsk, hsl, hDS, hDv, k1]
theorem runs_law (f : Forest) (a : Ask) (s : Cutting) (w : Int) (c : Bool) (h : some true = some c) : Runs cfT a8 [Arg.enc f, Arg.enc a, Arg.enc s, Arg.enc w] (Arg.enc c) := by
  cases h
  refine ⟨rfl, fun g => run_def ?_⟩
  have hm := rm_modelOf f
  have hM : ModelC f = some (modelOf f) := rfl
  generalize modelOf f = m at *
  have hQ : QueryC a m = some (queryOf m a) := part_of ⟨hm.dim.1, hm.dim.2, hm.classes.1, hm.classes.2⟩ _
  have hq0 := ok_queryOf m a hm
  have hlo := range_queryOf m a
  have hwd := wide_start m a
  generalize queryOf m a = q0 at *
  have hst0 := okQuery_start hq0
  have hq := okQuery_budget hq0 (n := 400) (by omega) (by omega)
  have hend := fun v hv hc b9 S hS s9 => run_cfEnd m hm (withBudget q0 400) hq hlo w v hv hc b9 S hS s9
  have hSe : RSearchC m (withBudget q0 400) = some (searchM m (withBudget q0 400)) := part_of hm _
  have hch := fun hk => holds_checked (m := m) hq hwd hk
  generalize searchM m (withBudget q0 400) = v at *
  obtain ⟨vk, pf, vw, vt, vs⟩ := v
  simp only at hch
  unfold a8 at hend ⊢
  simp only [withBudget] at hSe
  by_cases k1 : vk = 1
  case neg => simp -implicitDefEqProofs [hM, hQ, hSe, k1]
  subst k1
  obtain ⟨hc1, hc2⟩ := hch rfl
  have hc2 : pf.length ≤ 400 := by
    have e : (withBudget q0 400).budget = 400 := rfl
    rw [e] at hc2
    omega
  have c9 : pf.length ≤ maxN := by unfold maxN; omega
  have hend := fun S hS s9 => hend ⟨1, pf, vw, vt, vs⟩ rfl hc1 (by show pf.length ≤ 65536; omega) S hS s9
  have hst : okBox (startOf (withBudget q0 400)) := ⟨hst0.1, hst0.2.2⟩
  have hI0 : CfI m (withBudget q0 400) pf 0 [startOf (withBudget q0 400)] [] := ⟨by simpa using hc1, ⟨by have : wide (startOf (withBudget q0 400)) ≤ 199 := hwd; simpa using this, trivial⟩, by simpa using hst, by simp, by simp, fun l => rfl⟩
  have loop : ∀ (h : Hp) (g : Nat → Nat), keepH h [6, 9, 10, 11, 12, 13] = [(6, ⟨Row.enc s, false, 0⟩), (9, ⟨Row.enc m, false, 0⟩), (10, ⟨Row.enc (withBudget q0 400), false, 0⟩), (11, ⟨vCells ⟨1, pf, vw, vt, vs⟩ (.lst pf.length (encL pf)), false, 0⟩), (12, ⟨encL [startOf (withBudget q0 400)], false, 10⟩), (13, ⟨[], false, 3⟩)] →
      run cfT (.loop c8_45) [Fr.blk 0, Fr.c c8_63] ⟨[(3, .int .i64 w), (6, .ptr 6 (g 6) 0), (9, .ptr 9 (g 9) 0), (10, .ptr 10 (g 10) 0), (11, .ptr 11 (g 11) 0), (12, .own 12 (g 12) 0 1), (13, .own 13 (g 13) 0 0), (39, .lst pf.length (encL pf)), (40, .int .i64 pf.length), (41, .int .i64 0)], h, g⟩ (fin [.t 8] (.bool true)) := by
    intro h g hh
    rw [show c8_45 = _ from c8_45.eq_1]
    refine run_while (c := c8_44) (fun n st => ∃ (i : Nat) (R : List Box) (S : List Step) (G : List AV) (g : Nat → Nat), i + n = pf.length ∧ CfI m (withBudget q0 400) pf i R S ∧ st = ⟨[(3, .int .i64 w), (6, .ptr 6 (g 6) 0), (9, .ptr 9 (g 9) 0), (10, .ptr 10 (g 10) 0), (11, .ptr 11 (g 11) 0), (12, .own 12 (g 12) 0 R.length), (13, .own 13 (g 13) 0 S.length), (39, .lst pf.length (encL pf)), (40, .int .i64 pf.length), (41, .int .i64 i)],
      [(6, ⟨Row.enc s, false, 0⟩), (9, ⟨Row.enc m, false, 0⟩), (10, ⟨Row.enc (withBudget q0 400), false, 0⟩), (11, ⟨vCells ⟨1, pf, vw, vt, vs⟩ (.lst pf.length (encL pf)), false, 0⟩), (12, ⟨encL R ++ G, false, 10⟩), (13, ⟨encL S, false, 3⟩)], g⟩) pf.length ⟨0, [startOf (withBudget q0 400)], [], [], g, by omega, hI0, by simp only [hh]; simp [encL_nil]⟩ ?_
    rintro n st ⟨i, R, S, G, g, hi, hI, rfl⟩
    unfold vCells
    by_cases h1 : i < pf.length
    case neg =>
      have hil : i = pf.length := by omega
      subst hil
      have hdone := hI.done
      have hs9 : S.length ≤ 65536 := by have := hI.sl; omega
      simp -implicitDefEqProofs [h1, -r8_63]
      refine hend S hdone hs9 _ _ ?_ ?_ ?_ ?_ _ ?_ <;> first | rfl | exact ⟨rfl, rfl, rfl, rfl, rfl⟩
    case pos =>
      rcases List.eq_nil_or_concat R with rfl | ⟨R, b, rfl⟩
      · exact (hI.more h1).elim
      rw [List.concat_eq_append] at *
      have hbok : okBox b := hI.ok b (by simp)
      have hSl := hI.sl
      have hRl := hI.rl
      have e2 : (R ++ [b]).length = R.length + 1 := by simp
      rw [e2] at hRl
      have w1 : IntKind.i64.wrap ((i : Int) + 1) = (i : Int) + 1 := wrap64 (by omega) (by omega)
      have wL : IntKind.i64.wrap ((R.length : Nat) : Int) = R.length := wrap64 (by omega) (by omega)
      have c0 : R.length + 1 ≤ maxN := by unfold maxN; omega
      have c00 : S.length ≤ maxN := by unfold maxN; omega
      have c9' : (R.length : Int) < (R.length : Int) + 1 := by omega
      have c10 : (R.length : Int) ≤ (R.length : Int) + 1 := by omega
      have c11 : R.length ≤ 1099511627774 := by omega
      have c13 : S.length ≤ 1099511627775 := by omega
      have htop : rd (encL R ++ (Row.enc b ++ G)) (R.length * 10) 10 true = some (.agg (Row.enc b)) := by
        have := rd_top R b G
        rw [encL_append, List.append_assoc] at this
        simpa [encL_cons, encL_nil] using this
      have e1 : encL (R ++ [b]) ++ G = encL R ++ (Row.enc b ++ G) := by simp [encL_append, encL_cons, encL_nil]
      rw [e1, e2]
      have htk := take_boxG R (Row.enc b ++ G)
      have hlen := len_boxG R (Row.enc b ++ G)
      generalize (Row.enc b ++ G) = G2 at *
      have hlen2 : R.length * 10 ≤ (encL R).length + G2.length := by simpa using hlen
      have htop : rd (encL R ++ G2) (R.length * 10) 10 true = some (.agg [.int .i64 b.s0.lo, .int .i64 b.s0.hi, .int .i64 b.s1.lo, .int .i64 b.s1.hi, .int .i64 b.s2.lo, .int .i64 b.s2.hi, .int .i64 b.s3.lo, .int .i64 b.s3.hi, .int .i64 b.s4.lo, .int .i64 b.s4.hi]) := htop
      have hrd := rd_step pf i h1
      have hSk := take_stepsE S
      have hSl2 := len_steps S
      have hcut := fun k n (hx : pf[i] = ⟨false, k, n⟩) => hI.cut h1 hx
      have hsum := fun k n (hx : pf[i] = ⟨true, k, n⟩) => hI.sum hm h1 hx s
      have hSt : StepsC s b = some (stepsOf s b) := part_of hbok _
      generalize pf[i] = x at *
      obtain ⟨xs, k, at_⟩ := x
      have hrd : rd (encL pf) (i * 3) 3 true = some (.agg [.bool xs, .int .i64 k, .int .i64 at_]) := hrd
      cases xs
      · obtain ⟨k0, k5, k1, k2, hJ⟩ := hcut k at_ rfl
        have hgs := get_small hbok.1 k
        unfold small at hgs
        have wn : IntKind.i64.wrap (at_ + 1) = at_ + 1 := wrap64 (by omega) (by omega)
        have hk5 : k = 0 ∨ k = 1 ∨ k = 2 ∨ k = 3 ∨ k = 4 := by omega
        rw [cutB_halves k0 k5 k1 k2] at hJ
        rcases hk5 with rfl | rfl | rfl | rfl | rfl <;> simp only [Box.get, Box.set, reduceIte, Int.reduceEq] at hJ <;> simp -implicitDefEqProofs [h1, c9, c0, c00, c9', c10, c11, c13, wL, w1, wn, htop, hlen2, htk, hSk, hSl2, hrd]
        all_goals exact ⟨n - 1, by omega, i + 1, by omega, R ++ [_, _], S ++ [_], hJ, ⟨by simp, by simp, by omega⟩, ⟨[], by simp [encL_append, encL_cons, encL_nil]⟩, by rw [encL_append]; rfl⟩
      · obtain ⟨rfl, rfl, hJ1, hJ2, hl41⟩ := hsum k at_ rfl
        generalize stepsOf s b = so at *
        obtain ⟨so1, so2⟩ := so
        simp only at hJ2 hl41
        have c14 : S.length + so2.length ≤ 1099511627776 := by omega
        have hk2 := take_stepsE so2
        have hl2 := len_steps so2
        have hl3 : (encL so2).length = so2.length * 3 := encL_length so2
        have hcell : (encL so2).all AV.isCell = true := by simp
        by_cases h2 : (S.length : Int) < 2000
        · simp -implicitDefEqProofs [h1, c9, c0, c00, c9', c10, c11, c13, wL, w1, htop, hlen2, htk, hSk, hSl2, hrd, h2, hSt, c14, hk2, hl2, hl3, hcell]
          exact ⟨n - 1, by omega, i + 1, by omega, R, S ++ so2, hJ2, ⟨rfl, by simp, by omega⟩, ⟨G2, rfl⟩, by rw [encL_append]⟩
        · simp -implicitDefEqProofs [h1, c9, c0, c00, c9', c10, c11, c13, wL, w1, htop, hlen2, htk, hSk, hSl2, hrd, h2]
          exact ⟨n - 1, by omega, i + 1, by omega, R, S ++ [sumS], hJ1, ⟨rfl, by simp, by omega⟩, ⟨G2, rfl⟩, by rw [encL_append]; rfl⟩
  simp -implicitDefEqProofs [hM, hQ, hSe, c9, -r8_63, -r8_46]
  refine loop _ (bump 13 (bump 12 (bump 11 (bump 10 (bump 9 (bump 6 (bump 5 (bump 4 g)))))))) ?_
  rfl
noncomputable def law_sp : List AV → Option AV := sp4 fun (_ : Forest) (_ : Ask) (_ : Cutting) (_ : Int) => some true
theorem cf_holds : ∀ f, Contract Try.prog f (cfT f) := tbl_cons c_Model (tbl_cons c_Query (tbl_cons c_Within (tbl_cons c_rStart (tbl_cons c_Steps (tbl_cons c_rSearch (tbl_cons c_Proves (tbl_cons c_closed41 tbl_nil)))))))
theorem law_holds : Contract Try.prog 8 law_sp :=
  contract_of_runs mixed cf_holds Try.func8 m8 (sp4_runs runs_law)
theorem law_says (f : Forest) (a : Ask) (s : Cutting) (x : Int) : law_sp [Arg.enc f, Arg.enc a, Arg.enc s, Arg.enc x] = some (.bool true) := by
  simp only [law_sp, sp4, Arg.dec_enc, Option.bind_some]
  rfl
end Go.Co
