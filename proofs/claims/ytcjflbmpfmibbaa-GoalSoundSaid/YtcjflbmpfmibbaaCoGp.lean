/- CO: thresholds rise; cuts of parts. -/
import Derived.Test.YtcjflbmpfmibbaaCoGr
namespace Go.Co
open Go.Am Go.Proofs
set_option linter.unusedSimpArgs false
set_option linter.unusedVariables false
theorem compact_upto {zs : List Int} (hs : zs.Pairwise (· ≤ ·)) : ∀ (m : Nat), m ≤ zs.length → (∀ x, x ∈ Go.Lib.compactUpTo zs.toArray m ↔ x ∈ zs.take m) ∧ (Go.Lib.compactUpTo zs.toArray m).Pairwise (· < ·)
  | 0, _ => ⟨fun x => by simp [Go.Lib.compactUpTo], by simp [Go.Lib.compactUpTo]⟩
  | m + 1, hm => by
    obtain ⟨h1, h2⟩ := compact_upto hs m (by omega)
    have hg : ∀ (j : Nat) (h : j < zs.length), zs.toArray[j]! = zs[j] := fun j h => by simp [getElem!_pos, h]
    have hle : ∀ (i j : Nat) (hi : i < j) (hj : j < zs.length), zs[i] ≤ zs[j] := fun i j hi hj => List.pairwise_iff_getElem.1 hs i j (by omega) hj hi
    rw [Go.Lib.compactUpTo_succ, hg m (by omega)]
    by_cases hk : Go.Lib.keeps zs.toArray m = true
    · rw [if_pos hk]
      refine ⟨fun x => ?_, ?_⟩
      · rw [List.take_succ_eq_append_getElem (by omega), List.mem_append, List.mem_append, h1 x]
      · rw [List.pairwise_append]
        refine ⟨h2, by simp, fun a ha b hb => ?_⟩
        simp only [List.mem_singleton] at hb
        subst hb
        have ha' := (h1 a).1 ha
        obtain ⟨i, hi, rfl⟩ := List.mem_take_iff_getElem.1 ha'
        have hi' : i < m := by omega
        unfold Go.Lib.keeps at hk
        simp only [decide_eq_true_eq] at hk
        rcases hk with hk | hk
        · omega
        · rw [hg m (by omega), hg (m - 1) (by omega)] at hk
          have q1 : zs[i] ≤ zs[m - 1] := by
            by_cases e : i = m - 1
            · subst e; exact Int.le_refl _
            · exact hle i (m - 1) (by omega) (by omega)
          have q2 := hle (m - 1) m (by omega) (by omega)
          omega
    · rw [if_neg hk, List.append_nil]
      refine ⟨fun x => ?_, h2⟩
      rw [h1 x, List.take_succ_eq_append_getElem (by omega)]
      simp only [List.mem_append, List.mem_singleton]
      constructor
      · exact .inl
      · rintro (h | rfl)
        · exact h
        · unfold Go.Lib.keeps at hk
          simp only [decide_eq_true_eq, not_or] at hk
          obtain ⟨hk0, hk⟩ := hk
          rw [hg m (by omega), hg (m - 1) (by omega)] at hk
          have e : zs[m] = zs[m - 1] := by
            apply Classical.byContradiction
            exact hk
          rw [e]
          exact List.mem_take_iff_getElem.2 ⟨m - 1, by omega, rfl⟩
theorem mem_compact {zs : List Int} (hs : zs.Pairwise (· ≤ ·)) (x : Int) : x ∈ Go.Lib.compact zs ↔ x ∈ zs := by
  have := (compact_upto hs zs.length (Nat.le_refl _)).1 x
  unfold Go.Lib.compact
  rw [List.take_length] at this
  simpa using this
theorem mem_thr {m : Model} {j x : Int} : x ∈ thrL m j ↔ ∃ t ∈ m.trees, ∃ w ∈ t.nodes, (nd w).leaf = false ∧ (nd w).feature = j ∧ (nd w).cut = x := by
  unfold thrL
  rw [mem_compact (isort_sorted _), (isort_perm _).mem_iff]
  unfold rawM rawW cutF
  simp only [List.mem_flatMap, List.mem_filterMap]
  constructor
  · rintro ⟨t, ht, w, hw, h⟩
    split at h
    · rename_i hc
      cases h
      exact ⟨t, ht, w, hw, hc.1, hc.2, rfl⟩
    · cases h
  · rintro ⟨t, ht, w, hw, h1, h2, h3⟩
    exact ⟨t, ht, w, hw, by rw [if_pos ⟨h1, h2⟩, h3]⟩
/-! ### how many of a rising row lie in a span -/
def inN (T : List Int) (lo hi : Int) : Nat := (T.filter fun t => !outS ⟨lo, hi⟩ t).length
def cutN (m : Model) (q : Query) (b : Box) (i : Int) : Nat := if featOf q i < 0 then 0 else inN (thrL m (featOf q i)) (b.get i).lo (b.get i).hi
theorem cutsL_len (m : Model) (q : Query) (b : Box) (i : Int) : (cutsL m q b i).length = cutN m q b i := by
  unfold cutsL cutN inN
  split <;> rfl
theorem cutN_le {m : Model} (hm : RM m) (q : Query) (b : Box) (i : Int) : cutN m q b i ≤ 248 := by
  unfold cutN
  split
  · omega
  · unfold inN
    have h1 := List.length_filter_le (fun t => !outS ⟨(b.get i).lo, (b.get i).hi⟩ t) (thrL m (featOf q i))
    have h2 := thr_len m (featOf q i)
    have h3 := rawM_len (j := featOf q i) (l := m.trees) fun t ht => (hm.tree t ht).2.2.le
    have h4 := hm.trees
    omega
end Go.Co
