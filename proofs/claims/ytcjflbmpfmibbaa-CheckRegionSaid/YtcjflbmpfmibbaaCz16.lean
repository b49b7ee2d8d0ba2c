/- CO: texts of this claim, one behind the other. -/
import Derived.Test.YtcjflbmpfmibbaaCz15
/- CO: is a verdict proven? by the checker, and by the document. -/
namespace Go.Co
open Go.Am Go.Proofs
set_option linter.unusedSimpArgs false
set_option linter.unusedVariables false
attribute [-simp] Go.Am.eff_gcall
theorem walkS_ok : ∀ (R : List Box) (l : List Step), (∀ x ∈ R, okB x) → ∀ L, walkS R l = some L → ∀ x ∈ L, okB x
  | [], [], _, L, h, x, hx => by
    unfold walkS at h; cases h; simp at hx
  | _ :: _, [], _, L, h, x, hx => by unfold walkS at h; cases h
  | [], _ :: _, _, L, h, x, hx => by unfold walkS at h; cases h
  | b :: bs, s :: l, hR, L, h, x, hx => by
    unfold walkS at h
    split at h
    · rw [Option.map_eq_some_iff] at h
      obtain ⟨L', h', rfl⟩ := h
      rcases List.mem_cons.1 hx with rfl | hx
      · exact hR _ (by simp)
      · exact walkS_ok bs l (fun y hy => hR y (by simp [hy])) L' h' x hx
    · split at h
      · rename_i hin
        have hbok := hR b (by simp)
        have hg64 := okB_get hbok s.place
        have hat : ok64 s.cut := by unfold okS64 ok64 at hg64; unfold ok64; omega
        have hok2 := okB_cut hbok s.place hat
        refine walkS_ok _ l (fun y hy => ?_) L h x hx
        simp only [List.mem_cons] at hy
        rcases hy with rfl | rfl | hy
        · exact hok2.1
        · exact hok2.2
        · exact hR y (by simp [hy])
      · cases h
theorem walkS_len : ∀ (R : List Box) (l : List Step), ∀ L, walkS R l = some L → L.length ≤ l.length
  | [], [], L, h => by unfold walkS at h; cases h; simp
  | _ :: _, [], L, h => by unfold walkS at h; cases h
  | [], _ :: _, L, h => by unfold walkS at h; cases h
  | b :: bs, s :: l, L, h => by
    unfold walkS at h
    split at h
    · rw [Option.map_eq_some_iff] at h
      obtain ⟨L', h', rfl⟩ := h
      have := walkS_len bs l L' h'
      simp; omega
    · split at h
      · have := walkS_len _ l L h
        simp; omega
      · cases h
/-! ### a verdict -/
def c40_0 : ACode := .ops [⟨some 3, .box (.t 0) 6, none, []⟩,
  ⟨some 4, .box (.t 1) 17, none, []⟩,
  ⟨some 5, .box (.t 2) 8, none, []⟩,
  ⟨some 6, .mv (.c (.bool false)), none, []⟩] [3, 4, 5]
theorem r40_0 : type_of% (@rr _ _ c40_0.eq_1) := rr c40_0.eq_1
def c40_1 : ACode := .ops [⟨some 12, .load 6 true (.t 3), none, [3]⟩,
  ⟨some 13, .load 17 true (.t 4), none, [4]⟩,
  ⟨some 14, .call 89 [.t 12, .t 13], none, []⟩,
  ⟨some 15, .un .not (.t 14), none, []⟩] [3, 4, 5, 15]
theorem r40_1 : type_of% (@rr _ _ c40_1.eq_1) := rr c40_1.eq_1
def c40_2 : ACode := .ops [⟨some 6, .mv (.c (.bool false)), none, []⟩] [6]
theorem r40_2 : type_of% (@rr _ _ c40_2.eq_1) := rr c40_2.eq_1
def c40_3 : ACode := .seq c40_2 .ret
theorem r40_3 : type_of% (@rr _ _ c40_3.eq_1) := rr c40_3.eq_1
def c40_4 : ACode := .cond (.t 15) c40_3 .skip
theorem r40_4 : type_of% (@rr _ _ c40_4.eq_1) := rr c40_4.eq_1
def c40_5 : ACode := .seq c40_1 c40_4
theorem r40_5 : type_of% (@rr _ _ c40_5.eq_1) := rr c40_5.eq_1
def c40_6 : ACode := .ops [⟨some 16, .load 17 true (.t 4), none, [4]⟩,
  ⟨some 17, .call 45 [.t 16], none, []⟩,
  ⟨some 7, .alloc [.int .i64 0, .int .i64 0, .int .i64 0, .int .i64 0, .int .i64 0, .int .i64 0, .int .i64 0, .int .i64 0, .int .i64 0, .int .i64 0], none, []⟩,
  ⟨none, .store (.t 7) 10 (.t 17), none, [7]⟩] [3, 4, 5, 7]
theorem r40_6 : type_of% (@rr _ _ c40_6.eq_1) := rr c40_6.eq_1
def c40_7 : ACode := .ops [⟨some 18, .fad (.t 5) 0, none, [5]⟩,
  ⟨some 19, .load 1 false (.t 18), none, [5]⟩] [3, 4, 5, 7, 19]
theorem r40_7 : type_of% (@rr _ _ c40_7.eq_1) := rr c40_7.eq_1
def c40_8 : ACode := .ops [⟨some 21, .bin .eql (.t 19) (.c (.int .i64 1)), none, []⟩,
  ⟨some 20, .mv (.t 21), none, []⟩] [3, 4, 5, 7, 19, 20]
theorem r40_8 : type_of% (@rr _ _ c40_8.eq_1) := rr c40_8.eq_1
def c40_9 : ACode := .ops [⟨some 23, .load 10 true (.t 7), none, [7]⟩,
  ⟨some 24, .fad (.t 5) 1, none, [5]⟩,
  ⟨some 25, .load 1 false (.t 24), none, [5]⟩,
  ⟨some 26, .call 90 [.t 23, .t 25], none, []⟩,
  ⟨some 22, .mv (.t 26), none, []⟩,
  ⟨some 27, .ext (.t 22) 0, none, []⟩,
  ⟨some 28, .ext (.t 22) 1, none, []⟩,
  ⟨some 8, .mv (.t 27), none, []⟩,
  ⟨some 9, .mv (.t 28), none, []⟩] [3, 4, 8, 9]
theorem r40_9 : type_of% (@rr _ _ c40_9.eq_1) := rr c40_9.eq_1
def c40_10 : ACode := .ops [⟨some 29, .mv (.t 8), none, []⟩,
  ⟨some 30, .len (.t 29), none, []⟩,
  ⟨some 31, .mv (.c (.int .i64 0)), none, []⟩] [3, 4, 9, 29, 30, 31]
theorem r40_10 : type_of% (@rr _ _ c40_10.eq_1) := rr c40_10.eq_1
def c40_11 : ACode := .ops [⟨some 32, .bin .lss (.t 31) (.t 30), none, []⟩] [3, 4, 9, 29, 30, 31, 32]
theorem r40_11 : type_of% (@rr _ _ c40_11.eq_1) := rr c40_11.eq_1
def c40_12 : ACode := .cond (.t 32) .skip (.exit 1)
theorem r40_12 : type_of% (@rr _ _ c40_12.eq_1) := rr c40_12.eq_1
def c40_13 : ACode := .ops [⟨some 33, .ias (.t 29) (.t 31) 10, none, []⟩,
  ⟨some 34, .load 10 true (.t 33), none, []⟩,
  ⟨some 11, .alloc [.int .i64 0, .int .i64 0, .int .i64 0, .int .i64 0, .int .i64 0, .int .i64 0, .int .i64 0, .int .i64 0, .int .i64 0, .int .i64 0], none, []⟩,
  ⟨none, .store (.t 11) 10 (.t 34), none, [11]⟩] [3, 4, 9, 11, 29, 30, 31]
theorem r40_13 : type_of% (@rr _ _ c40_13.eq_1) := rr c40_13.eq_1
def c40_14 : ACode := .ops [⟨some 35, .load 6 true (.t 3), none, [3]⟩,
  ⟨some 36, .load 17 true (.t 4), none, [4]⟩,
  ⟨some 37, .load 10 true (.t 11), none, [11]⟩,
  ⟨some 38, .call 91 [.t 35, .t 36, .t 37], none, []⟩,
  ⟨some 39, .un .not (.t 38), none, []⟩] [3, 4, 9, 29, 30, 31, 39]
theorem r40_14 : type_of% (@rr _ _ c40_14.eq_1) := rr c40_14.eq_1
def c40_15 : ACode := .ops [⟨some 6, .mv (.c (.bool false)), none, []⟩] [6]
theorem r40_15 : type_of% (@rr _ _ c40_15.eq_1) := rr c40_15.eq_1
def c40_16 : ACode := .seq c40_15 .ret
theorem r40_16 : type_of% (@rr _ _ c40_16.eq_1) := rr c40_16.eq_1
def c40_17 : ACode := .cond (.t 39) c40_16 .skip
theorem r40_17 : type_of% (@rr _ _ c40_17.eq_1) := rr c40_17.eq_1
def c40_18 : ACode := .seq c40_14 c40_17
theorem r40_18 : type_of% (@rr _ _ c40_18.eq_1) := rr c40_18.eq_1
def c40_19 : ACode := .seq c40_13 c40_18
theorem r40_19 : type_of% (@rr _ _ c40_19.eq_1) := rr c40_19.eq_1
def c40_20 : ACode := .block 2 c40_19
theorem r40_20 : type_of% (@rr _ _ c40_20.eq_1) := rr c40_20.eq_1
def c40_21 : ACode := .ops [⟨some 40, .bin .add (.t 31) (.c (.int .i64 1)), none, []⟩,
  ⟨some 31, .mv (.t 40), none, []⟩] [3, 4, 9, 29, 30, 31]
theorem r40_21 : type_of% (@rr _ _ c40_21.eq_1) := rr c40_21.eq_1
def c40_22 : ACode := .seq c40_20 c40_21
theorem r40_22 : type_of% (@rr _ _ c40_22.eq_1) := rr c40_22.eq_1
def c40_23 : ACode := .seq c40_12 c40_22
theorem r40_23 : type_of% (@rr _ _ c40_23.eq_1) := rr c40_23.eq_1
def c40_24 : ACode := .seq c40_11 c40_23
theorem r40_24 : type_of% (@rr _ _ c40_24.eq_1) := rr c40_24.eq_1
def c40_25 : ACode := .keep [3, 4, 9, 29, 30, 31] [3, 4] c40_24
theorem r40_25 : type_of% (@rr _ _ c40_25.eq_1) := rr c40_25.eq_1
def c40_26 : ACode := .loop c40_25
theorem r40_26 : type_of% (@rr _ _ c40_26.eq_1) := rr c40_26.eq_1
def c40_27 : ACode := .block 1 c40_26
theorem r40_27 : type_of% (@rr _ _ c40_27.eq_1) := rr c40_27.eq_1
def c40_28 : ACode := .seq c40_10 c40_27
theorem r40_28 : type_of% (@rr _ _ c40_28.eq_1) := rr c40_28.eq_1
def c40_29 : ACode := .ops [⟨some 41, .mv (.t 9), none, []⟩,
  ⟨some 6, .mv (.t 41), none, []⟩] [6]
theorem r40_29 : type_of% (@rr _ _ c40_29.eq_1) := rr c40_29.eq_1
def c40_30 : ACode := .seq c40_29 .ret
theorem r40_30 : type_of% (@rr _ _ c40_30.eq_1) := rr c40_30.eq_1
def c40_31 : ACode := .seq c40_28 c40_30
theorem r40_31 : type_of% (@rr _ _ c40_31.eq_1) := rr c40_31.eq_1
def c40_32 : ACode := .seq c40_9 c40_31
theorem r40_32 : type_of% (@rr _ _ c40_32.eq_1) := rr c40_32.eq_1
def c40_33 : ACode := .ops [⟨some 43, .bin .eql (.t 19) (.c (.int .i64 2)), none, []⟩,
  ⟨some 42, .mv (.t 43), none, []⟩] [3, 4, 5, 7, 42]
theorem r40_33 : type_of% (@rr _ _ c40_33.eq_1) := rr c40_33.eq_1
def c40_34 : ACode := .ops [⟨some 44, .load 10 true (.t 7), none, [7]⟩,
  ⟨some 45, .fad (.t 5) 2, none, [5]⟩,
  ⟨some 46, .load 4 true (.t 45), none, [5]⟩,
  ⟨some 47, .fad (.t 5) 6, none, [5]⟩,
  ⟨some 48, .load 1 false (.t 47), none, [5]⟩,
  ⟨some 49, .call 92 [.t 44, .t 46, .t 48], none, []⟩,
  ⟨some 50, .mv (.t 49), none, []⟩,
  ⟨some 51, .load 6 true (.t 3), some (50, true), [3]⟩,
  ⟨some 52, .load 17 true (.t 4), some (50, true), [4]⟩,
  ⟨some 53, .fad (.t 5) 2, some (50, true), [5]⟩,
  ⟨some 54, .load 4 true (.t 53), some (50, true), [5]⟩,
  ⟨some 55, .fad (.t 5) 6, some (50, true), [5]⟩,
  ⟨some 56, .load 1 false (.t 55), some (50, true), [5]⟩,
  ⟨some 57, .call 57 [.t 51, .t 52, .t 54, .t 56], some (50, true), []⟩,
  ⟨some 58, .pick (.t 50) (.t 57) (.c (.bool false)), none, []⟩,
  ⟨some 6, .mv (.t 58), none, []⟩] [6]
theorem r40_34 : type_of% (@rr _ _ c40_34.eq_1) := rr c40_34.eq_1
def c40_35 : ACode := .seq c40_34 .ret
theorem r40_35 : type_of% (@rr _ _ c40_35.eq_1) := rr c40_35.eq_1
def c40_36 : ACode := .cond (.t 42) c40_35 .skip
theorem r40_36 : type_of% (@rr _ _ c40_36.eq_1) := rr c40_36.eq_1
def c40_37 : ACode := .seq c40_33 c40_36
theorem r40_37 : type_of% (@rr _ _ c40_37.eq_1) := rr c40_37.eq_1
def c40_38 : ACode := .cond (.t 20) c40_32 c40_37
theorem r40_38 : type_of% (@rr _ _ c40_38.eq_1) := rr c40_38.eq_1
def c40_39 : ACode := .seq c40_8 c40_38
theorem r40_39 : type_of% (@rr _ _ c40_39.eq_1) := rr c40_39.eq_1
def c40_40 : ACode := .block 0 c40_39
theorem r40_40 : type_of% (@rr _ _ c40_40.eq_1) := rr c40_40.eq_1
def c40_41 : ACode := .seq c40_7 c40_40
theorem r40_41 : type_of% (@rr _ _ c40_41.eq_1) := rr c40_41.eq_1
def c40_42 : ACode := .ops [⟨some 6, .mv (.c (.bool false)), none, []⟩] [6]
theorem r40_42 : type_of% (@rr _ _ c40_42.eq_1) := rr c40_42.eq_1
def c40_43 : ACode := .seq c40_42 .ret
theorem r40_43 : type_of% (@rr _ _ c40_43.eq_1) := rr c40_43.eq_1
def c40_44 : ACode := .seq c40_41 c40_43
theorem r40_44 : type_of% (@rr _ _ c40_44.eq_1) := rr c40_44.eq_1
def c40_45 : ACode := .seq c40_6 c40_44
theorem r40_45 : type_of% (@rr _ _ c40_45.eq_1) := rr c40_45.eq_1
def c40_46 : ACode := .seq c40_5 c40_45
theorem r40_46 : type_of% (@rr _ _ c40_46.eq_1) := rr c40_46.eq_1
def c40_47 : ACode := .seq c40_0 c40_46
theorem r40_47 : type_of% (@rr _ _ c40_47.eq_1) := rr c40_47.eq_1
def a40 : AFun := ⟨3, 59, c40_47, [.t 6]⟩
attribute [simp] r40_0 r40_1 r40_2 r40_3 r40_4 r40_5 r40_6 r40_7 r40_8 r40_9 r40_10 r40_11 r40_12 r40_13 r40_14 r40_15 r40_16 r40_17 r40_18 r40_19 r40_20 r40_21 r40_22 r40_23 r40_24 r40_25 r40_26 r40_27 r40_28 r40_29 r40_30 r40_31 r40_32 r40_33 r40_34 r40_35 r40_36 r40_37 r40_38 r40_39 r40_40 r40_41 r40_42 r40_43 r40_44 r40_45 r40_46 r40_47
theorem m40 : mFun Try.prog Try.f40 a40 = true := by decide +kernel
def allShown (m : Model) (q : Query) (l : Option (List Box)) : Bool := match l with
  | some bs => bs.all (shownB m q)
  | none => false
def holdsV (m : Model) (q : Query) (l : List Step) : Bool := decide (0 < deepV l) && allShown m q (walkS [startOf q] l)
def provesM (m : Model) (q : Query) (v : Verdict) : Bool := okQuery m q && (if v.kind = 1 then holdsV m q v.proof else if v.kind = 2 then hasB (startOf q) v.witness v.twin && breaks m q v.witness v.twin else false)
noncomputable def ProvesC (m : Model) (q : Query) (v : Verdict) : Option Bool := if m.dim < 1 then some false else Part (RM m) (provesM m q v)
set_option maxHeartbeats 8000000 in
set_option maxRecDepth 8000 in
theorem runs_Proves (m : Model) (q : Query) (v : Verdict) (r : Bool) (h : ProvesC m q v = some r) : Runs (tbl [(89, sp2 QRight), (45, sp1 fun q => some (startOf q)), (90, sp2 PSumsC), (91, sp3 ShownC), (92, sp3 fun b p t => some (hasB b p t)), (57, sp4 BreaksC)]) a40 [Arg.enc m, Arg.enc q, Arg.enc v] (Arg.enc r) := by
  unfold ProvesC at h
  refine ⟨rfl, fun g => run_def ?_⟩
  unfold a40
  by_cases hd : m.dim < 1
  case pos =>
    rw [if_pos hd] at h
    cases h
    have hQ : QRight m q = some false := by unfold QRight; rw [if_pos (by omega)]
    simp -implicitDefEqProofs [hQ]
  rw [if_neg hd] at h
  obtain ⟨hm, rfl⟩ := part_some h
  clear h
  have hQ : QRight m q = some (okQuery m q) := by unfold QRight; rw [if_neg (by have := hm.dim; omega)]; exact part_of hm _
  unfold provesM
  cases hq : okQuery m q
  case false =>
    rw [hq] at hQ
    simp -implicitDefEqProofs [hQ]
  rw [hq] at hQ
  have hst := okQuery_start hq
  obtain ⟨kind, pf, w, tw, sp⟩ := v
  simp only [Bool.true_and]
  by_cases k1 : kind = 1
  case neg =>
    rw [if_neg k1]
    by_cases k2 : kind = 2
    case neg => simp -implicitDefEqProofs [hQ, k1, k2]
    subst k2
    have hB : BreaksC m q w tw = some (breaks m q w tw) := part_of hm _
    cases hh : hasB (startOf q) w tw
    case false => simp -implicitDefEqProofs [hQ, hh]
    simp -implicitDefEqProofs [hQ, hh, hB]
  subst k1
  rw [if_pos rfl]
  unfold holdsV
  have hPS : PSumsC (startOf q) pf = some (if 0 < deepV pf then (match walkS [startOf q] pf with
    | some out => (out, true)
    | none => ([], false)) else ([], false)) := part_of hst.2.1 _
  by_cases hdp : 0 < deepV pf
  case neg =>
    rw [if_neg hdp] at hPS
    simp -implicitDefEqProofs [hQ, hPS, hdp, encL_nil, run_round]
  rw [if_pos hdp] at hPS
  have hok := walkS_ok [startOf q] pf
  have hlen := walkS_len [startOf q] pf
  have h6 : pf.length ≤ 65536 := by
    unfold deepV at hdp
    split at hdp
    · assumption
    · omega
  cases hwk : walkS [startOf q] pf with
  | none =>
    rw [hwk] at hPS
    simp -implicitDefEqProofs [hQ, hPS, hdp, allShown, encL_nil, run_round]
  | some L =>
    rw [hwk] at hPS
    have hLok := hok (by simpa using hst.2.1) L hwk
    have hLl := hlen L hwk
    have b1 : L.length ≤ maxN := by unfold maxN; omega
    have hSh : ∀ x ∈ L, ShownC m q x = some (shownB m q x) := fun x hx => part_of ⟨hm, hq, hLok x hx⟩ _
    simp -implicitDefEqProofs [hQ, hPS, hdp, allShown, b1]
    refine run_while (c := c40_24) (fun n s => ∃ (i : Nat) (g : Nat → Nat), i + n = L.length ∧ (∀ x ∈ L.take i, shownB m q x = true) ∧ s = ⟨[(3, .ptr 3 (g 3) 0), (4, .ptr 4 (g 4) 0), (9, .bool true), (29, .lst L.length (encL L)), (30, .int .i64 L.length), (31, .int .i64 i)],
      [(3, ⟨Row.enc m, false, 0⟩), (4, ⟨Row.enc q, false, 0⟩)], g⟩) L.length ⟨0, bump 7 (bump 5 (bump 4 (bump 3 g))), by omega, by simp, by simp⟩ ?_
    rintro n s ⟨i, g, hi, hal, rfl⟩
    by_cases h1 : i < L.length
    case pos =>
      have w1 : IntKind.i64.wrap ((i : Int) + 1) = (i : Int) + 1 := wrap64 (by omega) (by omega)
      have hrow := rd_box L i h1
      have hB := hSh L[i] (List.getElem_mem h1)
      have hmem : L[i] ∈ L := List.getElem_mem h1
      have htk : L.take (i + 1) = L.take i ++ [L[i]] := List.take_succ_eq_append_getElem h1
      generalize L[i] = x at *
      cases hx : shownB m q x
      case false =>
        have : L.all (shownB m q) = false := by
          rw [List.all_eq_false]
          exact ⟨x, hmem, by simp [hx]⟩
        rw [hx] at hB
        simp -implicitDefEqProofs [h1, hrow, hB, this]
      case true =>
        rw [hx] at hB
        simp -implicitDefEqProofs [h1, hrow, hB, w1]
        refine ⟨n - 1, by omega, i + 1, by omega, fun y hy => ?_, by omega⟩
        rw [htk, List.mem_append, List.mem_singleton] at hy
        rcases hy with hy | rfl
        · exact hal y hy
        · exact hx
    case neg =>
      have hil : i = L.length := by omega
      subst hil
      rw [List.take_length] at hal
      have : L.all (shownB m q) = true := List.all_eq_true.2 hal
      simp -implicitDefEqProofs [h1, this]
theorem c_Proves : Contract Try.prog 40 (sp3 ProvesC) :=
  contract_of_runs mixed (tbl_cons c_qRight (tbl_cons c_Start (tbl_cons c_pSums (tbl_cons c_shown (tbl_cons c_Has (tbl_cons c_Breaks tbl_nil)))))) Try.func40 m40 (sp3_runs runs_Proves)
/-! ### the document's check -/
def checkN (m : Model) (q : Query) : List Box → List Step → Bool
  | [], [] => true
  | _ :: _, [] => false
  | [], _ :: _ => false
  | b :: bs, s :: l => if 200 ≤ bs.length then false else if s.sum then (if s.place = 0 ∧ s.cut = 0 then (if closedM m q b then checkN m q bs l else false) else false) else
    if 0 ≤ s.place ∧ s.place ≤ 4 then (if (b.get s.place).lo ≤ s.cut ∧ s.cut < (b.get s.place).hi then checkN m q ((cutB b s.place s.cut).1 :: (cutB b s.place s.cut).2 :: bs) l else false) else false
def checkM (m : Model) (q : Query) (l : List Step) : Bool := okQuery m q && decide (l.length ≤ 65536) && checkN m q [startOf q] l
end Go.Co
/- CO: the document's check, and that it says what the checker says. -/
namespace Go.Co
open Go.Am Go.Proofs
set_option linter.unusedSimpArgs false
set_option linter.unusedVariables false
attribute [-simp] Go.Am.eff_gcall
theorem checkN_deep {m : Model} {q : Query} {b : Box} {bs : List Box} {l : List Step} (h : checkN m q (b :: bs) l = true) : bs.length < 200 := by
  cases l with
  | nil => unfold checkN at h; cases h
  | cons s l =>
    unfold checkN at h
    split at h
    · cases h
    · omega
theorem check_walk {m : Model} (hm : RM m) {q : Query} (hq : okQuery m q = true) : ∀ (l : List Step) (bs : List Box) (most : Nat), bs.length ≤ most → 1 ≤ most → ((0 < deepN bs.length most l ∧ allShown m q (walkS bs l) = true) ↔ (most ≤ 200 ∧ checkN m q bs l = true))
  | [], bs, most, h1, h2 => by
    cases bs with
    | nil =>
      rw [List.length_nil, deepN, walkS, checkN]
      by_cases h : most ≤ 200
      · rw [if_pos ⟨rfl, h⟩]
        simp [allShown, h]
        omega
      · rw [if_neg (fun x => h x.2)]
        simp [h]
    | cons b bs =>
      rw [deepN, walkS, checkN, if_neg (by simp)]
      simp
  | s :: l, [], most, h1, h2 => by
    rw [List.length_nil, deepN, checkN, if_pos rfl]
    simp
  | s :: l, b :: bs, most, h1, h2 => by
    rw [deepN, if_neg (by simp), walkS, checkN]
    rw [List.length_cons] at h1 ⊢
    have hsb := closed_shownB hm hq b
    unfold rightS
    obtain ⟨sm, k, c⟩ := s
    simp only
    cases sm
    case true =>
      simp only [if_true]
      by_cases hz : k = 0 ∧ c = 0
      case neg =>
        rw [if_neg hz, if_neg (by simpa using fun e e' => hz ⟨e, e'⟩)]
        simp
      rw [if_pos hz, if_pos (by simp [hz.1, hz.2]), Nat.add_sub_cancel]
      have ih := check_walk hm hq l bs most (by omega) h2
      have e : allShown m q ((walkS bs l).map (b :: ·)) = (shownB m q b && allShown m q (walkS bs l)) := by
        cases walkS bs l <;> simp [allShown]
      rw [e, Bool.and_eq_true, ← hsb]
      cases hc : closedM m q b
      · simp
      · simp only [if_true, true_and]
        rw [ih]
        by_cases h200 : 200 ≤ bs.length
        · rw [if_pos h200]
          simp
          omega
        · rw [if_neg h200]
    case false =>
      simp only [if_false, Bool.false_eq_true]
      by_cases hk : 0 ≤ k ∧ k ≤ 4
      case neg =>
        rw [if_neg hk, if_neg (by simpa using fun e => (by omega : 4 < k))]
        simp
      rw [if_pos hk, if_pos (by simp [hk.1, hk.2])]
      by_cases hin : (b.get k).lo ≤ c ∧ c < (b.get k).hi
      case neg =>
        rw [if_neg hin, if_neg hin]
        simp [allShown]
      rw [if_pos hin, if_pos hin]
      have ih := check_walk hm hq l ((cutB b k c).1 :: (cutB b k c).2 :: bs) (if most < bs.length + 1 + 1 then bs.length + 1 + 1 else most) (by simp only [List.length_cons]; split <;> omega) (by split <;> omega)
      rw [List.length_cons, List.length_cons] at ih
      rw [ih]
      constructor
      · rintro ⟨g1, g2⟩
        split at g1
        · exact ⟨by omega, by rw [if_neg (by omega)]; exact g2⟩
        · exact ⟨by omega, by rw [if_neg (by omega)]; exact g2⟩
      · rintro ⟨g1, g2⟩
        split at g2
        · cases g2
        · have := checkN_deep g2
          rw [List.length_cons] at this
          exact ⟨by split <;> omega, g2⟩
theorem holds_check {m : Model} (hm : RM m) {q : Query} (l : List Step) : (okQuery m q && holdsV m q l) = checkM m q l := by
  unfold checkM
  cases hq : okQuery m q
  · simp
  have h := check_walk hm hq l [startOf q] 1 (by simp) (by omega)
  rw [List.length_singleton] at h
  simp only [Bool.true_and]
  unfold holdsV deepV
  by_cases h6 : l.length ≤ 65536
  · rw [if_pos h6]
    rw [Bool.eq_iff_iff, Bool.and_eq_true, Bool.and_eq_true, decide_eq_true_eq, decide_eq_true_eq]
    constructor
    · rintro ⟨g1, g2⟩
      exact ⟨h6, (h.1 ⟨by omega, g2⟩).2⟩
    · rintro ⟨_, g2⟩
      have := h.2 ⟨by omega, g2⟩
      exact ⟨by omega, this.2⟩
  · rw [if_neg h6]
    simp [h6]
end Go.Co
/- CO: what proofs and searches say of points. -/
namespace Go.Co
open Go.Am Go.Proofs
set_option linter.unusedSimpArgs false
set_option linter.unusedVariables false
def Sub (a b : Box) : Prop := ∀ p t, InB a p t → InB b p t
theorem cut_some {b : Box} (hb : b.empty = false) {k : Int} (h0 : 0 ≤ k) (h5 : k < 5) {n : Int} (h1 : (b.get k).lo ≤ n) (h2 : n < (b.get k).hi) : (cutB b k n).1.empty = false ∧ (cutB b k n).2.empty = false := by
  rw [cutB_halves h0 h5 h1 h2, set_empty hb _ _ h0 h5, set_empty hb _ _ h0 h5]
  unfold Span.empty
  simp only [decide_eq_false_iff_not]
  omega
theorem searchN_cons (m : Model) (q : Query) (n : Nat) (sp : Int) (b : Box) (bs : List Box) (pf : List Step) : searchN m q (n + 1) sp (b :: bs) pf = if closedM m q b then searchN m q n (sp + 1) bs (pf ++ [sumS]) else
    if corner m q b then ⟨2, [], lowB b, b.s4.hi, sp + 1⟩ else
    if (splitM m q b).c then searchN m q n (sp + 1) ((cutB b (splitM m q b).a (splitM m q b).b).1 :: (cutB b (splitM m q b).a (splitM m q b).b).2 :: bs) (pf ++ [⟨false, (splitM m q b).a, (splitM m q b).b⟩]) else ⟨3, [], zeroP, 0, sp + 1⟩ := rfl
theorem searchN_nil (m : Model) (q : Query) (n : Nat) (sp : Int) (pf : List Step) : searchN m q n sp [] pf = ⟨1, pf, zeroP, 0, sp⟩ := by cases n <;> rfl
theorem splitM_in {m : Model} {q : Query} {b : Box} (h : (splitM m q b).c = true) : 0 ≤ (splitM m q b).a ∧ (splitM m q b).a < 5 ∧ (b.get (splitM m q b).a).lo ≤ (splitM m q b).b ∧ (splitM m q b).b < (b.get (splitM m q b).a).hi := by
  obtain ⟨h0, h5, hi⟩ := split_in h
  have := cuts_in _ hi
  exact ⟨h0, h5, this.1, this.2⟩
theorem search_fails {m : Model} {q : Query} : ∀ (n : Nat) (sp : Int) (bs : List Box) (pf : List Step), (∀ b ∈ bs, b.empty = false) → (searchN m q n sp bs pf).kind = 2 →
    ∃ b ∈ bs, InB b (searchN m q n sp bs pf).witness (searchN m q n sp bs pf).twin ∧ breaks m q (searchN m q n sp bs pf).witness (searchN m q n sp bs pf).twin = true
  | n, sp, [], pf, _, h => by rw [searchN_nil] at h; cases h
  | 0, sp, b :: bs, pf, _, h => by cases h
  | n + 1, sp, b :: bs, pf, hb, h => by
    rw [searchN_cons] at h ⊢
    split
    · rename_i hc
      rw [if_pos hc] at h
      obtain ⟨x, hx, h1⟩ := search_fails n _ bs _ (fun y hy => hb y (by simp [hy])) h
      exact ⟨x, by simp [hx], h1⟩
    · rename_i hc
      rw [if_neg hc] at h
      split
      · rename_i hco
        exact ⟨b, by simp, low_in (hb b (by simp)), hco⟩
      · rename_i hco
        rw [if_neg hco] at h
        split
        · rename_i hs
          rw [if_pos hs] at h
          obtain ⟨s0, s5, s1, s2⟩ := splitM_in hs
          have hne := cut_some (hb b (by simp)) s0 s5 s1 s2
          have hsub := cut_sub b s0 s5 (splitM m q b).b
          obtain ⟨x, hx, h1, h2⟩ := search_fails n _ _ _ (fun y hy => by
            simp only [List.mem_cons] at hy
            rcases hy with rfl | rfl | hy
            · exact hne.1
            · exact hne.2
            · exact hb y (by simp [hy])) h
          simp only [List.mem_cons] at hx
          rcases hx with rfl | rfl | hx
          · exact ⟨b, by simp, hsub.1 _ _ h1, h2⟩
          · exact ⟨b, by simp, hsub.2 _ _ h1, h2⟩
          · exact ⟨x, by simp [hx], h1, h2⟩
        · rename_i hs
          rw [if_neg hs] at h
          cases h
theorem searchM_eq {m : Model} {q : Query} (h : okQuery m q = true) : searchM m q = searchN m q q.budget.toNat 0 [startOf q] [] := by unfold searchM; rw [if_pos h]
theorem hasB_of {b : Box} {p : Point} {t : Int} (h : InB b p t) : hasB b p t = true := hasB_iff.2 h
theorem fails_proven {m : Model} {q : Query} (h : okQuery m q = true) (hk : (searchM m q).kind = 2) : provesM m q (searchM m q) = true ∧ InB (startOf q) (searchM m q).witness (searchM m q).twin ∧ breaks m q (searchM m q).witness (searchM m q).twin = true := by
  have hst := okQuery_start h
  have he := searchM_eq h
  rw [he] at hk ⊢
  obtain ⟨b, hb, h1, h2⟩ := search_fails _ _ _ _ (by simpa using hst.2.2) hk
  simp only [List.mem_singleton] at hb
  subst hb
  refine ⟨?_, h1, h2⟩
  unfold provesM
  rw [h, hk]
  simp only [Bool.true_and]
  rw [if_neg (by decide), hasB_of h1, h2]
  rfl
end Go.Co
/- CO: queries whose region, budget or ends are others. -/
namespace Go.Co
open Go.Am Go.Proofs
set_option linter.unusedSimpArgs false
set_option linter.unusedVariables false
def withRegion (q : Query) (r : Box) : Query := { q with region := r }
def withBudget (q : Query) (n : Int) : Query := { q with budget := n }
theorem okQuery_budget {m : Model} {q : Query} (h : okQuery m q = true) {n : Int} (h0 : 0 ≤ n) (h1 : n ≤ 65536) : okQuery m (withBudget q n) = true := by
  have hs := okQuery_spec h
  unfold okQuery withBudget
  have h5 := hs.2.2.2.2.1
  have h6 : okKind m q = true := hs.2.2.2.2.2
  have h6' : okKind m { q with budget := n } = true := h6
  rw [h6']
  simp only [h5, Bool.and_true, Bool.and_eq_true, decide_eq_true_eq]
  exact ⟨⟨⟨hs.1, hs.2.1⟩, h0⟩, h1⟩
theorem okQuery_region {m : Model} (hm : RM m) {q : Query} (h : okQuery m q = true) {k : Int} (k0 : 0 ≤ k) (k1 : k < m.dim) {s : Span} (hs : s.lo ≤ s.hi) (f1 : fits s.lo = true) (f2 : fits s.hi = true) : okQuery m (withRegion q (q.region.set k s)) = true := by
  have hq := okQuery_spec h
  have h6 : okKind m (withRegion q (q.region.set k s)) = true := hq.2.2.2.2.2
  have hd := hm.dim
  have he : s.empty = false := by unfold Span.empty; rw [decide_eq_false_iff_not]; omega
  have h5 : okRegion (q.region.set k s) m.dim = true := by
    have h5 := hq.2.2.2.2.1
    unfold okRegion at h5 ⊢
    simp only [Bool.and_eq_true] at h5 ⊢
    have hsp : okSpan m.dim k s = true := by
      unfold okSpan
      simp [k1, he, f1, f2]
    have hc : k = 0 ∨ k = 1 ∨ k = 2 ∨ k = 3 := by omega
    rcases hc with rfl | rfl | rfl | rfl <;> simp only [Box.set, reduceIte, Int.reduceEq] <;> simp [h5, hsp]
  unfold okQuery
  rw [h6]
  have h5' : okRegion (withRegion q (q.region.set k s)).region m.dim = true := h5
  simp only [h5', Bool.and_true, Bool.and_eq_true, decide_eq_true_eq]
  exact ⟨⟨⟨hq.1, hq.2.1⟩, hq.2.2.1⟩, hq.2.2.2.1⟩
theorem closed_region {m : Model} {q : Query} {r : Box} (h : okQuery m q = true) (h' : okQuery m (withRegion q r) = true) (b : Box) : closedM m (withRegion q r) b = closedM m q b := by
  unfold closedM
  rw [h, h']
  rfl
theorem breaks_region {m : Model} {q : Query} {r : Box} (h : okQuery m q = true) (h' : okQuery m (withRegion q r) = true) (p : Point) (t : Int) : breaks m (withRegion q r) p t = breaks m q p t := by
  unfold breaks
  rw [h, h']
  rfl
theorem startOf_get (q : Query) (hf : paired q = true → 0 ≤ q.feature ∧ q.feature < 4) (i : Int) : (startOf q).get i = if i = 0 ∨ i = 1 ∨ i = 2 ∨ i = 3 then q.region.get i else if paired q then q.region.get q.feature else ⟨0, 0⟩ := by
  unfold startOf Box.get
  by_cases h0 : i = 0
  · subst h0; rfl
  by_cases h1 : i = 1
  · subst h1; rfl
  by_cases h2 : i = 2
  · subst h2; rfl
  by_cases h3 : i = 3
  · subst h3; rfl
  simp [h0, h1, h2, h3]
theorem start_sub {q : Query} {r : Box} (h : ∀ i : Int, 0 ≤ i → i < 4 → (q.region.get i).lo ≤ (r.get i).lo ∧ (r.get i).hi ≤ (q.region.get i).hi) : Sub (startOf (withRegion q r)) (startOf q) := by
  intro p t hp
  rw [inB_pt] at hp ⊢
  intro i i0 i5
  have hp := hp i i0 i5
  have hpr : paired (withRegion q r) = paired q := rfl
  have hfr : ∀ q : Query, paired q = true → 0 ≤ q.feature ∧ q.feature < 4 := fun q hq => by have := paired_feature hq; omega
  rw [startOf_get _ (hfr _)] at hp ⊢
  rw [hpr] at hp
  split at hp
  · rename_i hi
    rw [if_pos hi]
    have := h i i0 (by omega)
    unfold InS at hp ⊢
    have e : (withRegion q r).region.get i = r.get i := rfl
    rw [e] at hp
    omega
  · rename_i hi
    rw [if_neg hi]
    split at hp
    · rename_i hq
      rw [if_pos hq]
      have hf := hfr q hq
      have := h q.feature hf.1 hf.2
      have e : (withRegion q r).region.get (withRegion q r).feature = r.get q.feature := rfl
      rw [e] at hp
      unfold InS at hp ⊢
      omega
    · rename_i hq
      rw [if_neg hq]
      exact hp
theorem one_proof {m : Model} (hm : RM m) {q : Query} (h : okQuery m q = true) (p : Point) (t s : Int) : provesM m q ⟨1, [sumS], p, t, s⟩ = closedM m q (startOf q) := by
  unfold provesM
  simp only [if_true]
  rw [holds_check hm]
  unfold checkM
  rw [h]
  have e : checkN m q [startOf q] [sumS] = closedM m q (startOf q) := by
    rw [checkN, if_neg (by simp)]
    unfold sumS
    simp only [if_true]
    cases closedM m q (startOf q) <;> rfl
  rw [e]
  simp [sumS]
theorem search_len {m : Model} {q : Query} : ∀ (n : Nat) (sp : Int) (bs : List Box) (pf : List Step), (searchN m q n sp bs pf).kind = 1 → pf.length + bs.length ≤ (searchN m q n sp bs pf).proof.length
  | n, sp, [], pf, h => by rw [searchN_nil]; simp
  | 0, sp, b :: bs, pf, h => by cases h
  | n + 1, sp, b :: bs, pf, h => by
    rw [searchN_cons] at h ⊢
    split
    · rename_i hc
      rw [if_pos hc] at h
      have := search_len n _ bs _ h
      simp only [List.length_append, List.length_cons, List.length_nil] at this ⊢
      omega
    · rename_i hc
      rw [if_neg hc] at h
      split
      · rename_i hco; rw [if_pos hco] at h; cases h
      · rename_i hco
        rw [if_neg hco] at h
        split
        · rename_i hs
          rw [if_pos hs] at h
          have := search_len n _ _ _ h
          simp only [List.length_append, List.length_cons, List.length_nil] at this ⊢
          omega
        · rename_i hs
          rw [if_neg hs] at h
          cases h
theorem search_one {m : Model} {q : Query} (h : okQuery m q = true) (hb : 1 ≤ q.budget) : (decide ((searchM m q).kind = 1) && decide ((searchM m q).proof.length = 1)) = closedM m q (startOf q) := by
  rw [searchM_eq h]
  obtain ⟨n, hn⟩ : ∃ n, q.budget.toNat = n + 1 := ⟨q.budget.toNat - 1, by omega⟩
  rw [hn, searchN_cons]
  cases hc : closedM m q (startOf q)
  · rw [if_neg (by simp)]
    split
    · rfl
    · split
      · by_cases hk : (searchN m q n (0 + 1) ((cutB (startOf q) (splitM m q (startOf q)).a (splitM m q (startOf q)).b).1 :: (cutB (startOf q) (splitM m q (startOf q)).a (splitM m q (startOf q)).b).2 :: []) ([] ++ [⟨false, (splitM m q (startOf q)).a, (splitM m q (startOf q)).b⟩])).kind = 1
        · have := search_len _ _ _ _ hk
          simp only [List.length_append, List.length_cons, List.length_nil] at this
          rw [Bool.and_eq_false_iff]
          right
          rw [decide_eq_false_iff_not]
          omega
        · rw [Bool.and_eq_false_iff]
          left
          rw [decide_eq_false_iff_not]
          exact hk
      · rfl
  · rw [if_pos rfl, searchN_nil]
    rfl
end Go.Co
