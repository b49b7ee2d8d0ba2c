/- CO: thresholds rise; cuts of parts. -/
import Derived.Test.YtcjflbmpfmibbaaCoGr
namespace Go.Co
open Go.Am Go.Proofs
set_option linter.unusedSimpArgs false
set_option linter.unusedVariables false
theorem compact_upto {zs : List Int} (hs : zs.Pairwise (· ≤ ·)) : ∀ (m : Nat), m ≤ zs.length → (∀ x, x ∈ Go.Lib.compactUpTo zs.toArray m ↔ x ∈ zs.take m) ∧ (Go.Lib.compactUpTo zs.toArray m).Pairwise (· < ·)
  | 0, _ => ⟨fun x => by simp [Go.Lib.compactUpTo], by simp [Go.Lib.compactUpTo]⟩
  | m + 1, hm => by
    obtain ⟨h1, h2⟩ := compact_upto hs m (by omega)
    have hg : ∀ (j : Nat) (h : j < zs.length), zs.toArray[j]! = zs[j] := fun j h => by simp [getElem!_pos, h]
    have hle : ∀ (i j : Nat) (hi : i < j) (hj : j < zs.length), zs[i] ≤ zs[j] := fun i j hi hj => List.pairwise_iff_getElem.1 hs i j (by omega) hj hi
    rw [Go.Lib.compactUpTo_succ, hg m (by omega)]
    by_cases hk : Go.Lib.keeps zs.toArray m = true
    · rw [if_pos hk]
      refine ⟨fun x => ?_, ?_⟩
      · rw [List.take_succ_eq_append_getElem (by omega), List.mem_append, List.mem_append, h1 x]
      · rw [List.pairwise_append]
        refine ⟨h2, by simp, fun a ha b hb => ?_⟩
        simp only [List.mem_singleton] at hb
        subst hb
        have ha' := (h1 a).1 ha
        obtain ⟨i, hi, rfl⟩ := List.mem_take_iff_getElem.1 ha'
        have hi' : i < m := by omega
        unfold Go.Lib.keeps at hk
        simp only [decide_eq_true_eq] at hk
        rcases hk with hk | hk
        · omega
        · rw [hg m (by omega), hg (m - 1) (by omega)] at hk
          have q1 : zs[i] ≤ zs[m - 1] := by
            by_cases e : i = m - 1
            · subst e; exact Int.le_refl _
            · exact hle i (m - 1) (by omega) (by omega)
          have q2 := hle (m - 1) m (by omega) (by omega)
          omega
    · rw [if_neg hk, List.append_nil]
      refine ⟨fun x => ?_, h2⟩
      rw [h1 x, List.take_succ_eq_append_getElem (by omega)]
      simp only [List.mem_append, List.mem_singleton]
      constructor
      · exact .inl
      · rintro (h | rfl)
        · exact h
        · unfold Go.Lib.keeps at hk
          simp only [decide_eq_true_eq, not_or] at hk
          obtain ⟨hk0, hk⟩ := hk
          rw [hg m (by omega), hg (m - 1) (by omega)] at hk
          have e : zs[m] = zs[m - 1] := by
            apply Classical.byContradiction
            exact hk
          rw [e]
          exact List.mem_take_iff_getElem.2 ⟨m - 1, by omega, rfl⟩
theorem compact_sorted {zs : List Int} (hs : zs.Pairwise (· ≤ ·)) : (Go.Lib.compact zs).Pairwise (· < ·) := by
  have := (compact_upto hs zs.length (Nat.le_refl _)).2
  unfold Go.Lib.compact
  simpa using this
theorem mem_compact {zs : List Int} (hs : zs.Pairwise (· ≤ ·)) (x : Int) : x ∈ Go.Lib.compact zs ↔ x ∈ zs := by
  have := (compact_upto hs zs.length (Nat.le_refl _)).1 x
  unfold Go.Lib.compact
  rw [List.take_length] at this
  simpa using this
theorem thr_sorted (m : Model) (j : Int) : (thrL m j).Pairwise (· < ·) := compact_sorted (isort_sorted _)
theorem mem_thr {m : Model} {j x : Int} : x ∈ thrL m j ↔ ∃ t ∈ m.trees, ∃ w ∈ t.nodes, (nd w).leaf = false ∧ (nd w).feature = j ∧ (nd w).cut = x := by
  unfold thrL
  rw [mem_compact (isort_sorted _), (isort_perm _).mem_iff]
  unfold rawM rawW cutF
  simp only [List.mem_flatMap, List.mem_filterMap]
  constructor
  · rintro ⟨t, ht, w, hw, h⟩
    split at h
    · rename_i hc
      cases h
      exact ⟨t, ht, w, hw, hc.1, hc.2, rfl⟩
    · cases h
  · rintro ⟨t, ht, w, hw, h1, h2, h3⟩
    exact ⟨t, ht, w, hw, by rw [if_pos ⟨h1, h2⟩, h3]⟩
/-! ### how many of a rising row lie in a span -/
def inN (T : List Int) (lo hi : Int) : Nat := (T.filter fun t => !outS ⟨lo, hi⟩ t).length
def cutN (m : Model) (q : Query) (b : Box) (i : Int) : Nat := if featOf q i < 0 then 0 else inN (thrL m (featOf q i)) (b.get i).lo (b.get i).hi
theorem cutsL_len (m : Model) (q : Query) (b : Box) (i : Int) : (cutsL m q b i).length = cutN m q b i := by
  unfold cutsL cutN inN
  split <;> rfl
def c48_0 : ACode := .ops [⟨some 4, .box (.t 0) 6, none, []⟩,
  ⟨some 5, .box (.t 1) 17, none, []⟩,
  ⟨some 6, .box (.t 2) 10, none, []⟩,
  ⟨some 8, .mv (.c (.int .i64 0)), none, []⟩,
  ⟨some 9, .mv (.c (.bool false)), none, []⟩] [3, 4, 5, 6]
theorem r48_0 : type_of% (@rr _ _ c48_0.eq_1) := rr c48_0.eq_1
def c48_1 : ACode := .ops [⟨some 10, .mv (.c (.int .i64 1)), none, []⟩] [3, 4, 5, 6, 10]
theorem r48_1 : type_of% (@rr _ _ c48_1.eq_1) := rr c48_1.eq_1
def c48_2 : ACode := .ops [⟨some 12, .mv (.c (.int .i64 0)), none, []⟩] [3, 4, 5, 6, 10, 12]
theorem r48_2 : type_of% (@rr _ _ c48_2.eq_1) := rr c48_2.eq_1
def c48_3 : ACode := .ops [⟨some 13, .bin .lss (.t 12) (.c (.int .i64 5)), none, []⟩] [3, 4, 5, 6, 10, 12, 13]
theorem r48_3 : type_of% (@rr _ _ c48_3.eq_1) := rr c48_3.eq_1
def c48_4 : ACode := .cond (.t 13) .skip (.exit 0)
theorem r48_4 : type_of% (@rr _ _ c48_4.eq_1) := rr c48_4.eq_1
def c48_5 : ACode := .ops [⟨some 14, .mv (.t 12), none, []⟩,
  ⟨some 11, .mv (.t 14), none, []⟩] [3, 4, 5, 6, 10, 11, 12]
theorem r48_5 : type_of% (@rr _ _ c48_5.eq_1) := rr c48_5.eq_1
def c48_6 : ACode := .ops [⟨some 15, .mv (.t 10), none, []⟩,
  ⟨some 16, .load 6 true (.t 4), none, [4]⟩,
  ⟨some 17, .load 17 true (.t 5), none, [5]⟩,
  ⟨some 18, .load 10 true (.t 6), none, [6]⟩,
  ⟨some 19, .mv (.t 11), none, []⟩,
  ⟨some 20, .call 51 [.t 16, .t 17, .t 18, .t 19], none, []⟩,
  ⟨some 21, .len (.t 20), none, []⟩,
  ⟨some 22, .bin .add (.c (.int .i64 1)) (.t 21), none, []⟩,
  ⟨some 23, .bin .mul (.t 15) (.t 22), none, []⟩,
  ⟨some 10, .mv (.t 23), none, []⟩] [3, 4, 5, 6, 10, 12]
theorem r48_6 : type_of% (@rr _ _ c48_6.eq_1) := rr c48_6.eq_1
def c48_7 : ACode := .seq c48_5 c48_6
theorem r48_7 : type_of% (@rr _ _ c48_7.eq_1) := rr c48_7.eq_1
def c48_8 : ACode := .block 1 c48_7
theorem r48_8 : type_of% (@rr _ _ c48_8.eq_1) := rr c48_8.eq_1
def c48_9 : ACode := .ops [⟨some 24, .bin .add (.t 12) (.c (.int .i64 1)), none, []⟩,
  ⟨some 12, .mv (.t 24), none, []⟩] [3, 4, 5, 6, 10, 12]
theorem r48_9 : type_of% (@rr _ _ c48_9.eq_1) := rr c48_9.eq_1
def c48_10 : ACode := .seq c48_8 c48_9
theorem r48_10 : type_of% (@rr _ _ c48_10.eq_1) := rr c48_10.eq_1
def c48_11 : ACode := .seq c48_4 c48_10
theorem r48_11 : type_of% (@rr _ _ c48_11.eq_1) := rr c48_11.eq_1
def c48_12 : ACode := .seq c48_3 c48_11
theorem r48_12 : type_of% (@rr _ _ c48_12.eq_1) := rr c48_12.eq_1
def c48_13 : ACode := .keep [3, 4, 5, 6, 10, 12] [4, 5, 6] c48_12
theorem r48_13 : type_of% (@rr _ _ c48_13.eq_1) := rr c48_13.eq_1
def c48_14 : ACode := .loop c48_13
theorem r48_14 : type_of% (@rr _ _ c48_14.eq_1) := rr c48_14.eq_1
def c48_15 : ACode := .block 0 c48_14
theorem r48_15 : type_of% (@rr _ _ c48_15.eq_1) := rr c48_15.eq_1
def c48_16 : ACode := .seq c48_2 c48_15
theorem r48_16 : type_of% (@rr _ _ c48_16.eq_1) := rr c48_16.eq_1
def c48_17 : ACode := .ops [⟨some 25, .mv (.t 10), none, []⟩,
  ⟨some 26, .mv (.t 3), none, []⟩,
  ⟨some 27, .bin .gtr (.t 25) (.t 26), none, []⟩] [10, 27]
theorem r48_17 : type_of% (@rr _ _ c48_17.eq_1) := rr c48_17.eq_1
def c48_18 : ACode := .ops [⟨some 8, .mv (.c (.int .i64 0)), none, []⟩,
  ⟨some 9, .mv (.c (.bool false)), none, []⟩] [8, 9]
theorem r48_18 : type_of% (@rr _ _ c48_18.eq_1) := rr c48_18.eq_1
def c48_19 : ACode := .seq c48_18 .ret
theorem r48_19 : type_of% (@rr _ _ c48_19.eq_1) := rr c48_19.eq_1
def c48_20 : ACode := .cond (.t 27) c48_19 .skip
theorem r48_20 : type_of% (@rr _ _ c48_20.eq_1) := rr c48_20.eq_1
def c48_21 : ACode := .seq c48_17 c48_20
theorem r48_21 : type_of% (@rr _ _ c48_21.eq_1) := rr c48_21.eq_1
def c48_22 : ACode := .ops [⟨some 28, .mv (.t 10), none, []⟩,
  ⟨some 8, .mv (.t 28), none, []⟩,
  ⟨some 9, .mv (.c (.bool true)), none, []⟩] [8, 9]
theorem r48_22 : type_of% (@rr _ _ c48_22.eq_1) := rr c48_22.eq_1
def c48_23 : ACode := .seq c48_22 .ret
theorem r48_23 : type_of% (@rr _ _ c48_23.eq_1) := rr c48_23.eq_1
def c48_24 : ACode := .seq c48_21 c48_23
theorem r48_24 : type_of% (@rr _ _ c48_24.eq_1) := rr c48_24.eq_1
def c48_25 : ACode := .seq c48_16 c48_24
theorem r48_25 : type_of% (@rr _ _ c48_25.eq_1) := rr c48_25.eq_1
def c48_26 : ACode := .seq c48_1 c48_25
theorem r48_26 : type_of% (@rr _ _ c48_26.eq_1) := rr c48_26.eq_1
def c48_27 : ACode := .seq c48_0 c48_26
theorem r48_27 : type_of% (@rr _ _ c48_27.eq_1) := rr c48_27.eq_1
def a48 : AFun := ⟨4, 29, c48_27, [.t 8, .t 9]⟩
attribute [simp] r48_0 r48_1 r48_2 r48_3 r48_4 r48_5 r48_6 r48_7 r48_8 r48_9 r48_10 r48_11 r48_12 r48_13 r48_14 r48_15 r48_16 r48_17 r48_18 r48_19 r48_20 r48_21 r48_22 r48_23 r48_24 r48_25 r48_26 r48_27
theorem m48 : mFun Try.prog Try.f48 a48 = true := by decide +kernel
def kN (m : Model) (q : Query) (b : Box) (i : Int) : Int := 1 + (cutN m q b i : Int)
theorem cutN_le {m : Model} (hm : RM m) (q : Query) (b : Box) (i : Int) : cutN m q b i ≤ 248 := by
  unfold cutN
  split
  · omega
  · unfold inN
    have h1 := List.length_filter_le (fun t => !outS ⟨(b.get i).lo, (b.get i).hi⟩ t) (thrL m (featOf q i))
    have h2 := thr_len m (featOf q i)
    have h3 := rawM_len (j := featOf q i) (l := m.trees) fun t ht => (hm.tree t ht).2.2.le
    have h4 := hm.trees
    omega
theorem kN_le {m : Model} (hm : RM m) (q : Query) (b : Box) (i : Int) : 1 ≤ kN m q b i ∧ kN m q b i ≤ 249 := by
  have := cutN_le hm q b i
  unfold kN
  omega
def countM (m : Model) (q : Query) (b : Box) : Int := kN m q b 0 * kN m q b 1 * kN m q b 2 * kN m q b 3 * kN m q b 4
theorem mul_le {a b A B : Int} (h1 : 1 ≤ a) (h2 : a ≤ A) (h3 : 1 ≤ b) (h4 : b ≤ B) : 1 ≤ a * b ∧ a * b ≤ A * B := by
  constructor
  · have := Int.mul_le_mul h1 h3 (by omega) (by omega)
    omega
  · exact Int.mul_le_mul h2 h4 (by omega) (by omega)
noncomputable def CountC (m : Model) (q : Query) (b : Box) (most : Int) : Option (Int × Bool) := Part (RM m) (if countM m q b ≤ most then (countM m q b, true) else (0, false))
set_option maxHeartbeats 4000000 in
set_option maxRecDepth 8000 in
theorem runs_Count (m : Model) (q : Query) (b : Box) (most : Int) (r : Int × Bool) (h : CountC m q b most = some r) : Runs (tbl [(51, sp4 CutsC)]) a48 [Arg.enc m, Arg.enc q, Arg.enc b, Arg.enc most] (Arg.enc r) := by
  obtain ⟨hm, rfl⟩ := part_some h
  clear h
  refine ⟨rfl, fun g => run_def ?_⟩
  unfold a48
  have hC : ∀ i : Int, 0 ≤ i → i ≤ 4 → CutsC m q b i = some (cutsL m q b i) := fun i h1 h2 => part_of ⟨hm, .inr ⟨h1, h2⟩⟩ _
  have e0 := hC 0 (by omega) (by omega)
  have e1 := hC 1 (by omega) (by omega)
  have e2 := hC 2 (by omega) (by omega)
  have e3 := hC 3 (by omega) (by omega)
  have e4 := hC 4 (by omega) (by omega)
  have hL : ∀ i : Int, (cutsL m q b i).length ≤ maxN := fun i => by rw [cutsL_len]; have := cutN_le hm q b i; unfold maxN; omega
  have hw : ∀ i : Int, IntKind.i64.wrap (1 + ((cutsL m q b i).length : Int)) = kN m q b i := fun i => by
    rw [cutsL_len]
    have := cutN_le hm q b i
    exact wrap64 (by omega) (by omega)
  have k0 := kN_le hm q b 0
  have k1 := kN_le hm q b 1
  have k2 := kN_le hm q b 2
  have k3 := kN_le hm q b 3
  have k4 := kN_le hm q b 4
  unfold countM
  have w0 : IntKind.i64.wrap (kN m q b 0) = kN m q b 0 := wrap64 (by omega) (by omega)
  have p1 := mul_le k0.1 k0.2 k1.1 k1.2
  have p2 := mul_le p1.1 p1.2 k2.1 k2.2
  have p3 := mul_le p2.1 p2.2 k3.1 k3.2
  have p4 := mul_le p3.1 p3.2 k4.1 k4.2
  have w1 : IntKind.i64.wrap (kN m q b 0 * kN m q b 1) = kN m q b 0 * kN m q b 1 := wrap64 (by omega) (by omega)
  have w2 : IntKind.i64.wrap (kN m q b 0 * kN m q b 1 * kN m q b 2) = kN m q b 0 * kN m q b 1 * kN m q b 2 := wrap64 (by omega) (by omega)
  have w3 : IntKind.i64.wrap (kN m q b 0 * kN m q b 1 * kN m q b 2 * kN m q b 3) = kN m q b 0 * kN m q b 1 * kN m q b 2 * kN m q b 3 := wrap64 (by omega) (by omega)
  have w4 : IntKind.i64.wrap (kN m q b 0 * kN m q b 1 * kN m q b 2 * kN m q b 3 * kN m q b 4) = kN m q b 0 * kN m q b 1 * kN m q b 2 * kN m q b 3 * kN m q b 4 := wrap64 (by omega) (by omega)
  by_cases hmost : kN m q b 0 * kN m q b 1 * kN m q b 2 * kN m q b 3 * kN m q b 4 ≤ most
  · have hn : ¬ most < kN m q b 0 * kN m q b 1 * kN m q b 2 * kN m q b 3 * kN m q b 4 := by omega
    simp -implicitDefEqProofs [run_round, e0, e1, e2, e3, e4, hL, hw, w0, w1, w2, w3, w4, hmost, hn]
  · have hn : most < kN m q b 0 * kN m q b 1 * kN m q b 2 * kN m q b 3 * kN m q b 4 := by omega
    simp -implicitDefEqProofs [run_round, e0, e1, e2, e3, e4, hL, hw, w0, w1, w2, w3, w4, hmost, hn]
theorem c_Count : Contract Try.prog 48 (sp4 CountC) :=
  contract_of_runs mixed (tbl_cons c_Cuts tbl_nil) Try.func48 m48 (sp4_runs runs_Count)
end Go.Co
