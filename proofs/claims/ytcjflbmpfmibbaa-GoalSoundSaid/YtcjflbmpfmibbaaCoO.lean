/- CO: margins, the best class (written by mkCoO.py). -/
import Derived.Test.YtcjflbmpfmibbaaCoIn
namespace Go.Co
open Go.Am Go.Proofs
set_option linter.unusedSimpArgs false
set_option linter.unusedVariables false
def c105_0 : ACode := .ops [⟨some 3, .box (.t 0) 6, none, []⟩,
  ⟨some 5, .box (.t 2) 10, none, []⟩,
  ⟨some 6, .mv (.c (.int .i64 0)), none, []⟩,
  ⟨some 7, .mv (.c (.bool false)), none, []⟩] [1, 3, 5]
theorem r105_0 : type_of% (@rr _ _ c105_0.eq_1) := rr c105_0.eq_1
def c105_1 : ACode := .ops [⟨some 18, .load 6 true (.t 3), none, [3]⟩,
  ⟨some 19, .mv (.t 1), none, []⟩,
  ⟨some 20, .load 10 true (.t 5), none, [5]⟩,
  ⟨some 21, .call 63 [.t 18, .t 19, .t 20], none, []⟩,
  ⟨some 17, .mv (.t 21), none, []⟩,
  ⟨some 22, .ext (.t 17) 0, none, []⟩,
  ⟨some 23, .ext (.t 17) 1, none, []⟩,
  ⟨some 24, .ext (.t 17) 2, none, []⟩,
  ⟨some 8, .mv (.t 22), none, []⟩,
  ⟨some 9, .mv (.t 23), none, []⟩,
  ⟨some 10, .mv (.t 24), none, []⟩] [1, 3, 5, 8, 10]
theorem r105_1 : type_of% (@rr _ _ c105_1.eq_1) := rr c105_1.eq_1
def c105_2 : ACode := .ops [⟨some 25, .mv (.t 10), none, []⟩,
  ⟨some 26, .un .not (.t 25), none, []⟩,
  ⟨some 27, .mv (.t 26), none, []⟩,
  ⟨some 28, .fad (.t 3) 1, some (27, false), [3]⟩,
  ⟨some 29, .load 1 false (.t 28), some (27, false), [3]⟩,
  ⟨some 30, .bin .lss (.t 29) (.c (.int .i64 2)), some (27, false), []⟩,
  ⟨some 31, .pick (.t 27) (.c (.bool true)) (.t 30), none, []⟩] [1, 3, 5, 8, 31]
theorem r105_2 : type_of% (@rr _ _ c105_2.eq_1) := rr c105_2.eq_1
def c105_3 : ACode := .ops [⟨some 6, .mv (.c (.int .i64 0)), none, []⟩,
  ⟨some 7, .mv (.c (.bool false)), none, []⟩] [6, 7]
theorem r105_3 : type_of% (@rr _ _ c105_3.eq_1) := rr c105_3.eq_1
def c105_4 : ACode := .seq c105_3 .ret
theorem r105_4 : type_of% (@rr _ _ c105_4.eq_1) := rr c105_4.eq_1
def c105_5 : ACode := .cond (.t 31) c105_4 .skip
theorem r105_5 : type_of% (@rr _ _ c105_5.eq_1) := rr c105_5.eq_1
def c105_6 : ACode := .seq c105_2 c105_5
theorem r105_6 : type_of% (@rr _ _ c105_6.eq_1) := rr c105_6.eq_1
def c105_7 : ACode := .ops [⟨some 11, .mv (.c (.int .i64 0)), none, []⟩,
  ⟨some 12, .mv (.c (.bool false)), none, []⟩] [1, 3, 5, 8, 11, 12]
theorem r105_7 : type_of% (@rr _ _ c105_7.eq_1) := rr c105_7.eq_1
def c105_8 : ACode := .ops [⟨some 32, .fad (.t 3) 1, none, [3]⟩,
  ⟨some 33, .load 1 false (.t 32), none, [3]⟩,
  ⟨some 34, .mv (.c (.int .i64 0)), none, []⟩] [1, 3, 5, 8, 11, 12, 33, 34]
theorem r105_8 : type_of% (@rr _ _ c105_8.eq_1) := rr c105_8.eq_1
def c105_9 : ACode := .ops [⟨some 35, .bin .lss (.t 34) (.t 33), none, []⟩] [1, 3, 5, 8, 11, 12, 33, 34, 35]
theorem r105_9 : type_of% (@rr _ _ c105_9.eq_1) := rr c105_9.eq_1
def c105_10 : ACode := .cond (.t 35) .skip (.exit 0)
theorem r105_10 : type_of% (@rr _ _ c105_10.eq_1) := rr c105_10.eq_1
def c105_11 : ACode := .ops [⟨some 36, .mv (.t 34), none, []⟩,
  ⟨some 13, .mv (.t 36), none, []⟩] [1, 3, 5, 8, 11, 12, 13, 33, 34]
theorem r105_11 : type_of% (@rr _ _ c105_11.eq_1) := rr c105_11.eq_1
def c105_12 : ACode := .ops [⟨some 37, .mv (.t 13), none, []⟩,
  ⟨some 38, .mv (.t 1), none, []⟩,
  ⟨some 39, .bin .eql (.t 37) (.t 38), none, []⟩] [1, 3, 5, 8, 11, 12, 13, 33, 34, 39]
theorem r105_12 : type_of% (@rr _ _ c105_12.eq_1) := rr c105_12.eq_1
def c105_13 : ACode := .cond (.t 39) (.exit 1) .skip
theorem r105_13 : type_of% (@rr _ _ c105_13.eq_1) := rr c105_13.eq_1
def c105_14 : ACode := .seq c105_12 c105_13
theorem r105_14 : type_of% (@rr _ _ c105_14.eq_1) := rr c105_14.eq_1
def c105_15 : ACode := .ops [⟨some 41, .load 6 true (.t 3), none, [3]⟩,
  ⟨some 42, .mv (.t 13), none, []⟩,
  ⟨some 43, .load 10 true (.t 5), none, [5]⟩,
  ⟨some 44, .call 63 [.t 41, .t 42, .t 43], none, []⟩,
  ⟨some 40, .mv (.t 44), none, []⟩,
  ⟨some 45, .ext (.t 40) 0, none, []⟩,
  ⟨some 46, .ext (.t 40) 1, none, []⟩,
  ⟨some 47, .ext (.t 40) 2, none, []⟩,
  ⟨some 14, .mv (.t 45), none, []⟩,
  ⟨some 15, .mv (.t 46), none, []⟩,
  ⟨some 16, .mv (.t 47), none, []⟩] [1, 3, 5, 8, 11, 12, 15, 33, 34]
theorem r105_15 : type_of% (@rr _ _ c105_15.eq_1) := rr c105_15.eq_1
def c105_16 : ACode := .ops [⟨some 48, .mv (.t 12), none, []⟩,
  ⟨some 49, .un .not (.t 48), none, []⟩,
  ⟨some 50, .mv (.t 49), none, []⟩,
  ⟨some 51, .mv (.t 8), some (50, false), []⟩,
  ⟨some 52, .mv (.t 15), some (50, false), []⟩,
  ⟨some 53, .bin .sub (.t 51) (.t 52), some (50, false), []⟩,
  ⟨some 54, .mv (.t 11), some (50, false), []⟩,
  ⟨some 55, .bin .lss (.t 53) (.t 54), some (50, false), []⟩,
  ⟨some 56, .pick (.t 50) (.c (.bool true)) (.t 55), none, []⟩] [1, 3, 5, 8, 11, 12, 15, 33, 34, 56]
theorem r105_16 : type_of% (@rr _ _ c105_16.eq_1) := rr c105_16.eq_1
def c105_17 : ACode := .ops [⟨some 57, .mv (.t 8), none, []⟩,
  ⟨some 58, .mv (.t 15), none, []⟩,
  ⟨some 59, .bin .sub (.t 57) (.t 58), none, []⟩,
  ⟨some 11, .mv (.t 59), none, []⟩,
  ⟨some 12, .mv (.c (.bool true)), none, []⟩] [1, 3, 5, 8, 11, 12, 33, 34]
theorem r105_17 : type_of% (@rr _ _ c105_17.eq_1) := rr c105_17.eq_1
def c105_18 : ACode := .cond (.t 56) c105_17 .skip
theorem r105_18 : type_of% (@rr _ _ c105_18.eq_1) := rr c105_18.eq_1
def c105_19 : ACode := .seq c105_16 c105_18
theorem r105_19 : type_of% (@rr _ _ c105_19.eq_1) := rr c105_19.eq_1
def c105_20 : ACode := .seq c105_15 c105_19
theorem r105_20 : type_of% (@rr _ _ c105_20.eq_1) := rr c105_20.eq_1
def c105_21 : ACode := .seq c105_14 c105_20
theorem r105_21 : type_of% (@rr _ _ c105_21.eq_1) := rr c105_21.eq_1
def c105_22 : ACode := .seq c105_11 c105_21
theorem r105_22 : type_of% (@rr _ _ c105_22.eq_1) := rr c105_22.eq_1
def c105_23 : ACode := .block 1 c105_22
theorem r105_23 : type_of% (@rr _ _ c105_23.eq_1) := rr c105_23.eq_1
def c105_24 : ACode := .ops [⟨some 60, .bin .add (.t 34) (.c (.int .i64 1)), none, []⟩,
  ⟨some 34, .mv (.t 60), none, []⟩] [1, 3, 5, 8, 11, 12, 33, 34]
theorem r105_24 : type_of% (@rr _ _ c105_24.eq_1) := rr c105_24.eq_1
def c105_25 : ACode := .seq c105_23 c105_24
theorem r105_25 : type_of% (@rr _ _ c105_25.eq_1) := rr c105_25.eq_1
def c105_26 : ACode := .seq c105_10 c105_25
theorem r105_26 : type_of% (@rr _ _ c105_26.eq_1) := rr c105_26.eq_1
def c105_27 : ACode := .seq c105_9 c105_26
theorem r105_27 : type_of% (@rr _ _ c105_27.eq_1) := rr c105_27.eq_1
def c105_28 : ACode := .keep [1, 3, 5, 8, 11, 12, 33, 34] [3, 5] c105_27
theorem r105_28 : type_of% (@rr _ _ c105_28.eq_1) := rr c105_28.eq_1
def c105_29 : ACode := .loop c105_28
theorem r105_29 : type_of% (@rr _ _ c105_29.eq_1) := rr c105_29.eq_1
def c105_30 : ACode := .block 0 c105_29
theorem r105_30 : type_of% (@rr _ _ c105_30.eq_1) := rr c105_30.eq_1
def c105_31 : ACode := .seq c105_8 c105_30
theorem r105_31 : type_of% (@rr _ _ c105_31.eq_1) := rr c105_31.eq_1
def c105_32 : ACode := .ops [⟨some 61, .mv (.t 11), none, []⟩,
  ⟨some 6, .mv (.t 61), none, []⟩,
  ⟨some 7, .mv (.c (.bool true)), none, []⟩] [6, 7]
theorem r105_32 : type_of% (@rr _ _ c105_32.eq_1) := rr c105_32.eq_1
def c105_33 : ACode := .seq c105_32 .ret
theorem r105_33 : type_of% (@rr _ _ c105_33.eq_1) := rr c105_33.eq_1
def c105_34 : ACode := .seq c105_31 c105_33
theorem r105_34 : type_of% (@rr _ _ c105_34.eq_1) := rr c105_34.eq_1
def c105_35 : ACode := .seq c105_7 c105_34
theorem r105_35 : type_of% (@rr _ _ c105_35.eq_1) := rr c105_35.eq_1
def c105_36 : ACode := .seq c105_6 c105_35
theorem r105_36 : type_of% (@rr _ _ c105_36.eq_1) := rr c105_36.eq_1
def c105_37 : ACode := .seq c105_1 c105_36
theorem r105_37 : type_of% (@rr _ _ c105_37.eq_1) := rr c105_37.eq_1
def c105_38 : ACode := .seq c105_0 c105_37
theorem r105_38 : type_of% (@rr _ _ c105_38.eq_1) := rr c105_38.eq_1
def a105 : AFun := ⟨3, 62, c105_38, [.t 6, .t 7]⟩
attribute [simp] r105_0 r105_1 r105_2 r105_3 r105_4 r105_5 r105_6 r105_7 r105_8 r105_9 r105_10 r105_11 r105_12 r105_13 r105_14 r105_15 r105_16 r105_17 r105_18 r105_19 r105_20 r105_21 r105_22 r105_23 r105_24 r105_25 r105_26 r105_27 r105_28 r105_29 r105_30 r105_31 r105_32 r105_33 r105_34 r105_35 r105_36 r105_37 r105_38
theorem m105 : mFun Try.prog Try.f105 a105 = true := by decide +kernel
def other1 (c : Int) : Int := if c = 0 then 1 else 0
def other2 (c : Int) : Int := if c = 2 then 1 else 2
def marD (m : Model) (c : Int) (b : Box) (o : Int) : Int := (boundP m c b).1 - (boundP m o b).2
def margin (m : Model) (c : Int) (b : Box) : Int := if m.classes = 2 then marD m c b (other1 c) else min2 (marD m c b (other1 c)) (marD m c b (other2 c))
noncomputable def MarginC (m : Model) (c : Int) (b : Box) : Option (Int × Bool) := Part (RM m ∧ okB b) (if c < 0 ∨ m.classes ≤ c ∨ m.classes < 2 ∨ b.empty = true then (0, false) else (margin m c b, true))
theorem boundS_some {m : Model} (hm : RM m) {b : Box} (hb : okB b) (he : b.empty = false) {c : Int} (h0 : 0 ≤ c) (h1 : c < m.classes) : BoundS m c b = some ⟨(boundP m c b).1, (boundP m c b).2, true⟩ := by
  unfold BoundS
  rw [part_of ⟨hm, hb⟩, boundM, if_neg (by simp [he]; omega)]
theorem boundS_none {m : Model} (hm : RM m) {b : Box} (hb : okB b) {c : Int} (h : c < 0 ∨ m.classes ≤ c ∨ b.empty = true) : BoundS m c b = some ⟨0, 0, false⟩ := by
  unfold BoundS
  rw [part_of ⟨hm, hb⟩, boundM, if_pos h]
set_option maxHeartbeats 4000000 in
set_option maxRecDepth 100000 in
theorem runs_Margin (m : Model) (c : Int) (b : Box) (r : Int × Bool) (h : MarginC m c b = some r) : Runs (tbl [(63, sp3 BoundS)]) a105 [Arg.enc m, Arg.enc c, Arg.enc b] (Arg.enc r) := by
  obtain ⟨⟨hm, hb⟩, rfl⟩ := part_some h
  clear h
  refine ⟨rfl, fun g => run_def ?_⟩
  unfold a105
  have hcl := hm.classes
  by_cases hn : c < 0 ∨ m.classes ≤ c ∨ b.empty = true
  case pos =>
    have hS := boundS_none hm hb hn
    have : c < 0 ∨ m.classes ≤ c ∨ m.classes < 2 ∨ b.empty = true := by rcases hn with h | h | h <;> simp [h]
    rw [if_pos this]
    simp -implicitDefEqProofs [hS]
  have he : b.empty = false := by cases he : b.empty <;> simp [he] at hn ⊢
  have h0 : 0 ≤ c := by omega
  have h1 : c < m.classes := by omega
  have hS := boundS_some hm hb he h0 h1
  by_cases h2 : m.classes < 2
  case pos =>
    rw [if_pos (Or.inr (Or.inr (Or.inl h2)))]
    simp -implicitDefEqProofs [hS, h2]
  rw [if_neg (by simp [he]; omega)]
  have p0 := boundP_le hm 0 he
  have p1 := boundP_le hm 1 he
  have p2 := boundP_le hm 2 he
  have s0 := boundS_some hm hb he (c := 0) (by omega) (by omega)
  have s1 := boundS_some hm hb he (c := 1) (by omega) (by omega)
  have s2 : m.classes = 3 → _ := fun h => boundS_some hm hb he (c := 2) (by omega) (by omega)
  obtain ⟨dim, classes, bias, trees⟩ := m
  simp only at hcl h1 h2 s2
  have hcs : (classes = 2 ∧ c = 0) ∨ (classes = 2 ∧ c = 1) ∨ (classes = 3 ∧ c = 0) ∨ (classes = 3 ∧ c = 1) ∨ (classes = 3 ∧ c = 2) := by omega
  rcases hcs with ⟨rfl, rfl⟩ | ⟨rfl, rfl⟩ | ⟨rfl, rfl⟩ | ⟨rfl, rfl⟩ | ⟨rfl, rfl⟩
  · skip
    have w0 : IntKind.i64.wrap ((boundP ⟨dim, 2, bias, trees⟩ 0 b).1 - (boundP ⟨dim, 2, bias, trees⟩ 1 b).2) = marD ⟨dim, 2, bias, trees⟩ 0 b 1 := by unfold marD; exact wrap64 (by omega) (by omega)
    have hmm : margin ⟨dim, 2, bias, trees⟩ 0 b = marD ⟨dim, 2, bias, trees⟩ 0 b 1 := by simp [margin, other1]
    rw [hmm]
    clear hmm
    simp -implicitDefEqProofs [hS, s0, s1, w0]
    rw [run_round]
    simp -implicitDefEqProofs [hS, s0, s1, w0]
    rw [run_round]
    simp -implicitDefEqProofs [hS, s0, s1, w0]
    rw [run_round]
    simp -implicitDefEqProofs [hS, s0, s1, w0]
  · skip
    have w0 : IntKind.i64.wrap ((boundP ⟨dim, 2, bias, trees⟩ 1 b).1 - (boundP ⟨dim, 2, bias, trees⟩ 0 b).2) = marD ⟨dim, 2, bias, trees⟩ 1 b 0 := by unfold marD; exact wrap64 (by omega) (by omega)
    have hmm : margin ⟨dim, 2, bias, trees⟩ 1 b = marD ⟨dim, 2, bias, trees⟩ 1 b 0 := by simp [margin, other1]
    rw [hmm]
    clear hmm
    simp -implicitDefEqProofs [hS, s0, s1, w0]
    rw [run_round]
    simp -implicitDefEqProofs [hS, s0, s1, w0]
    rw [run_round]
    simp -implicitDefEqProofs [hS, s0, s1, w0]
    rw [run_round]
    simp -implicitDefEqProofs [hS, s0, s1, w0]
  · skip
    have w0 : IntKind.i64.wrap ((boundP ⟨dim, 3, bias, trees⟩ 0 b).1 - (boundP ⟨dim, 3, bias, trees⟩ 1 b).2) = marD ⟨dim, 3, bias, trees⟩ 0 b 1 := by unfold marD; exact wrap64 (by omega) (by omega)
    have w1 : IntKind.i64.wrap ((boundP ⟨dim, 3, bias, trees⟩ 0 b).1 - (boundP ⟨dim, 3, bias, trees⟩ 2 b).2) = marD ⟨dim, 3, bias, trees⟩ 0 b 2 := by unfold marD; exact wrap64 (by omega) (by omega)
    have s2 := s2 rfl
    have hmm : margin ⟨dim, 3, bias, trees⟩ 0 b = min2 (marD ⟨dim, 3, bias, trees⟩ 0 b 1) (marD ⟨dim, 3, bias, trees⟩ 0 b 2) := by simp [margin, other1, other2]
    rw [hmm]
    clear hmm
    unfold min2
    by_cases g : marD ⟨dim, 3, bias, trees⟩ 0 b 2 < marD ⟨dim, 3, bias, trees⟩ 0 b 1
    · simp -implicitDefEqProofs [hS, s0, s1, s2, w0, w1, g]
      rw [run_round]
      simp -implicitDefEqProofs [hS, s0, s1, s2, w0, w1, g]
      rw [run_round]
      simp -implicitDefEqProofs [hS, s0, s1, s2, w0, w1, g]
      rw [run_round]
      simp -implicitDefEqProofs [hS, s0, s1, s2, w0, w1, g]
      rw [run_round]
      simp -implicitDefEqProofs [hS, s0, s1, s2, w0, w1, g]
    · simp -implicitDefEqProofs [hS, s0, s1, s2, w0, w1, g]
      rw [run_round]
      simp -implicitDefEqProofs [hS, s0, s1, s2, w0, w1, g]
      rw [run_round]
      simp -implicitDefEqProofs [hS, s0, s1, s2, w0, w1, g]
      rw [run_round]
      simp -implicitDefEqProofs [hS, s0, s1, s2, w0, w1, g]
      rw [run_round]
      simp -implicitDefEqProofs [hS, s0, s1, s2, w0, w1, g]
  · skip
    have w0 : IntKind.i64.wrap ((boundP ⟨dim, 3, bias, trees⟩ 1 b).1 - (boundP ⟨dim, 3, bias, trees⟩ 0 b).2) = marD ⟨dim, 3, bias, trees⟩ 1 b 0 := by unfold marD; exact wrap64 (by omega) (by omega)
    have w1 : IntKind.i64.wrap ((boundP ⟨dim, 3, bias, trees⟩ 1 b).1 - (boundP ⟨dim, 3, bias, trees⟩ 2 b).2) = marD ⟨dim, 3, bias, trees⟩ 1 b 2 := by unfold marD; exact wrap64 (by omega) (by omega)
    have s2 := s2 rfl
    have hmm : margin ⟨dim, 3, bias, trees⟩ 1 b = min2 (marD ⟨dim, 3, bias, trees⟩ 1 b 0) (marD ⟨dim, 3, bias, trees⟩ 1 b 2) := by simp [margin, other1, other2]
    rw [hmm]
    clear hmm
    unfold min2
    by_cases g : marD ⟨dim, 3, bias, trees⟩ 1 b 2 < marD ⟨dim, 3, bias, trees⟩ 1 b 0
    · simp -implicitDefEqProofs [hS, s0, s1, s2, w0, w1, g]
      rw [run_round]
      simp -implicitDefEqProofs [hS, s0, s1, s2, w0, w1, g]
      rw [run_round]
      simp -implicitDefEqProofs [hS, s0, s1, s2, w0, w1, g]
      rw [run_round]
      simp -implicitDefEqProofs [hS, s0, s1, s2, w0, w1, g]
      rw [run_round]
      simp -implicitDefEqProofs [hS, s0, s1, s2, w0, w1, g]
    · simp -implicitDefEqProofs [hS, s0, s1, s2, w0, w1, g]
      rw [run_round]
      simp -implicitDefEqProofs [hS, s0, s1, s2, w0, w1, g]
      rw [run_round]
      simp -implicitDefEqProofs [hS, s0, s1, s2, w0, w1, g]
      rw [run_round]
      simp -implicitDefEqProofs [hS, s0, s1, s2, w0, w1, g]
      rw [run_round]
      simp -implicitDefEqProofs [hS, s0, s1, s2, w0, w1, g]
  · skip
    have w0 : IntKind.i64.wrap ((boundP ⟨dim, 3, bias, trees⟩ 2 b).1 - (boundP ⟨dim, 3, bias, trees⟩ 0 b).2) = marD ⟨dim, 3, bias, trees⟩ 2 b 0 := by unfold marD; exact wrap64 (by omega) (by omega)
    have w1 : IntKind.i64.wrap ((boundP ⟨dim, 3, bias, trees⟩ 2 b).1 - (boundP ⟨dim, 3, bias, trees⟩ 1 b).2) = marD ⟨dim, 3, bias, trees⟩ 2 b 1 := by unfold marD; exact wrap64 (by omega) (by omega)
    have s2 := s2 rfl
    have hmm : margin ⟨dim, 3, bias, trees⟩ 2 b = min2 (marD ⟨dim, 3, bias, trees⟩ 2 b 0) (marD ⟨dim, 3, bias, trees⟩ 2 b 1) := by simp [margin, other1, other2]
    rw [hmm]
    clear hmm
    unfold min2
    by_cases g : marD ⟨dim, 3, bias, trees⟩ 2 b 1 < marD ⟨dim, 3, bias, trees⟩ 2 b 0
    · simp -implicitDefEqProofs [hS, s0, s1, s2, w0, w1, g]
      rw [run_round]
      simp -implicitDefEqProofs [hS, s0, s1, s2, w0, w1, g]
      rw [run_round]
      simp -implicitDefEqProofs [hS, s0, s1, s2, w0, w1, g]
      rw [run_round]
      simp -implicitDefEqProofs [hS, s0, s1, s2, w0, w1, g]
      rw [run_round]
      simp -implicitDefEqProofs [hS, s0, s1, s2, w0, w1, g]
    · simp -implicitDefEqProofs [hS, s0, s1, s2, w0, w1, g]
      rw [run_round]
      simp -implicitDefEqProofs [hS, s0, s1, s2, w0, w1, g]
      rw [run_round]
      simp -implicitDefEqProofs [hS, s0, s1, s2, w0, w1, g]
      rw [run_round]
      simp -implicitDefEqProofs [hS, s0, s1, s2, w0, w1, g]
      rw [run_round]
      simp -implicitDefEqProofs [hS, s0, s1, s2, w0, w1, g]
theorem c_Margin : Contract Try.prog 105 (sp3 MarginC) :=
  contract_of_runs mixed (tbl_cons c_bSum tbl_nil) Try.func105 m105 (sp3_runs runs_Margin)
end Go.Co
