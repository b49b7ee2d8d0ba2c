/- CO: what the kit tells of slices.Sort and slices.Compact, as contracts of calls that are given a block. -/
import Derived.Test.YtcjflbmpfmibbaaCoLay
import Derived.Test.YtcjflbmpfmibbaaCoGate
import Derived.Test.YtcjflbmpfmibbaaCoA
namespace Go.Co
open Go.Am Go.Proofs Go.RowKit
set_option linter.unusedSimpArgs false
set_option linter.unusedVariables false
def iv (zs : List Int) : List AV := zs.map (AV.int .i64)
def ints : List AV → Option (List Int)
  | [] => some []
  | .int .i64 n :: xs => match ints xs with
    | some ns => some (n :: ns)
    | none => none
  | _ => none
theorem ints_iv : ∀ zs, ints (iv zs) = some zs
  | [] => rfl
  | z :: zs => by
    have := ints_iv zs
    unfold iv at this ⊢
    simp only [List.map_cons, ints, this]
theorem iv_of_ints : ∀ {xs : List AV} {zs : List Int}, ints xs = some zs → xs = iv zs
  | [], zs, h => by simp [ints] at h; subst h; rfl
  | x :: xs, zs, h => by
    unfold ints at h
    split at h
    · rename_i he; cases he
    · rename_i n ys he
      cases he
      split at h
      · rename_i ns hn
        cases h
        rw [iv_of_ints hn]
        rfl
      · cases h
    · cases h
theorem iv_len (zs : List Int) : (iv zs).length = zs.length := by simp [iv]
def insI (n : Int) : List Int → List Int
  | [] => [n]
  | m :: l => if n ≤ m then n :: m :: l else m :: insI n l
def isort : List Int → List Int
  | [] => []
  | n :: l => insI n (isort l)
theorem insI_perm (n : Int) : ∀ l, (insI n l).Perm (n :: l)
  | [] => List.Perm.refl _
  | m :: l => by
    unfold insI
    split
    · exact List.Perm.refl _
    · exact ((insI_perm n l).cons m).trans (List.Perm.swap n m l)
theorem isort_perm : ∀ l, (isort l).Perm l
  | [] => List.Perm.refl _
  | n :: l => (insI_perm n (isort l)).trans ((isort_perm l).cons n)
theorem insI_sorted (n : Int) : ∀ l : List Int, l.Pairwise (· ≤ ·) → (insI n l).Pairwise (· ≤ ·)
  | [], _ => by simp [insI]
  | m :: l, h => by
    unfold insI
    split
    · rename_i hnm
      refine List.Pairwise.cons (fun a ha => ?_) h
      rcases List.mem_cons.1 ha with rfl | ha
      · exact hnm
      · exact Int.le_trans hnm (List.rel_of_pairwise_cons h ha)
    · rename_i hnm
      refine List.Pairwise.cons (fun a ha => ?_) (insI_sorted n l (List.Pairwise.of_cons h))
      have := (insI_perm n l).mem_iff.1 ha
      rcases List.mem_cons.1 this with rfl | ha
      · omega
      · exact List.rel_of_pairwise_cons h ha
theorem isort_sorted : ∀ l : List Int, (isort l).Pairwise (· ≤ ·)
  | [] => List.Pairwise.nil
  | n :: l => insI_sorted n _ (isort_sorted l)
theorem isort_len (l : List Int) : (isort l).length = l.length := (isort_perm l).length_eq
theorem isort_merge (l : List Int) : l.mergeSort (fun x y => decide (x ≤ y)) = isort l := by
  have h := List.pairwise_mergeSort (le := fun (x y : Int) => decide (x ≤ y)) (fun a b c h1 h2 => by simp at *; omega) (fun a b => by simp; omega) l
  refine List.Perm.eq_of_pairwise (le := (· ≤ ·)) (fun a b _ _ h1 h2 => Int.le_antisymm h1 h2) (h.imp fun h => by simpa using h) (isort_sorted l) ((List.mergeSort_perm l _).trans (isort_perm l).symm)
def sortF : GSp := fun args h => match args, h with
  | [.own 0 0 0 n], [(0, k)] => if k.esz = 1 ∧ k.cs.length = n ∧ n ≤ 1152921504606846976 then (ints k.cs).map fun zs => (.tup [], [(0, ⟨iv (isort zs), false, 1⟩)]) else none
  | _, _ => none
theorem holds_of {w0 : Base} {I : Nat → Prop} {w : World} {M : Option Am.Mode} {r σ : Nat} {k : Blk} {zs : List Int} (he : k.esz = 1) (hz : k.cs = iv zs) (h : BlkOk w0 I w M (some (r, σ)) k) :
    Go.Sort.Holds (Value.int .i64) w r 0 zs.toArray ∧ r < w.heap.size ∧ ∃ arr ty, w.heap[r]? = some (.cells arr ty (0, 0)) ∧ arr.size = σ ∧ zs.length ≤ σ := by
  have hlt := h.lt
  unfold BlkOk at h
  rw [if_neg (by rw [he]; decide)] at h
  obtain ⟨_, _, _, h4, arr, ty, h5, h6, h7⟩ := h
  have hlen : zs.length ≤ σ := by rw [hz, iv_len] at h4; exact h4
  refine ⟨fun j hj => ?_, hlt, arr, ty, h5, h6, hlen⟩
  have hj' : j < zs.length := by simpa using hj
  rw [hz] at h7
  obtain ⟨v, hv, hr⟩ := h7.get j (.int .i64 zs[j]) (by simp [iv, List.getElem?_eq_getElem hj'])
  simp only [VR] at hr
  subst hr
  rw [iv_len] at hv
  rw [List.getElem?_take, if_pos hj'] at hv
  constructor
  · simp only [World.cell?, h5, Nat.zero_add]
    rw [Array.getElem?_toList] at hv
    rw [hv]
    simp [getElem!_pos, hj']
  · simp [World.frozen?, h5]
theorem heap_put {w : World} {r : Nat} {arr : Array Value} {ty : Nat} {fr : Nat × Nat} (h : w.heap[r]? = some (.cells arr ty fr)) (ds : Array Int) (n : Nat) :
    (Go.Sort.putRow (Value.int .i64) (Go.Sort.ahead w n) r 0 ds).heap[r]? = some (.cells (Go.Sort.putCells (Value.int .i64) 0 ds arr) ty fr) := by
  simp [Go.Sort.putRow, Go.Sort.mapBlock, Go.Sort.ahead, Array.getElem?_modify, h, Go.Sort.onCells]
theorem heap_put_ne {w : World} {r j : Nat} (hj : j ≠ r) (ds : Array Int) (n : Nat) : (Go.Sort.putRow (Value.int .i64) (Go.Sort.ahead w n) r 0 ds).heap[j]? = w.heap[j]? := by
  simp [Go.Sort.putRow, Go.Sort.mapBlock, Go.Sort.ahead, Array.getElem?_modify, Ne.symm hj]
theorem putCells_take (ds : List Int) (arr : Array Value) (h : ds.length ≤ arr.size) : (Go.Sort.putCells (Value.int .i64) 0 ds.toArray arr).toList.take ds.length = ds.map (Value.int .i64) := by
  apply List.ext_getElem?
  intro i
  rw [List.getElem?_take]
  by_cases hi : i < ds.length
  · rw [if_pos hi, Array.getElem?_toList]
    simp only [Go.Sort.putCells, Array.getElem?_mapIdx, Nat.zero_le, true_and, Nat.zero_add, List.size_toArray, Nat.sub_zero]
    rw [Array.getElem?_eq_getElem (by omega)]
    simp [hi]
  · rw [if_neg hi]
    simp [hi]
theorem putCells_size (ds : Array Int) (arr : Array Value) : (Go.Sort.putCells (Value.int .i64) 0 ds arr).size = arr.size := by simp [Go.Sort.putCells]
theorem VRs_ints {I : Nat → Prop} {w : World} {M : Option Am.Mode} : ∀ zs : List Int, VRs I w M (iv zs) (zs.map (Value.int .i64))
  | [] => by simp [iv, VRs]
  | z :: zs => by
    have := VRs_ints (I := I) (w := w) (M := M) zs
    unfold iv at this ⊢
    simp only [List.map_cons, VRs, VR, true_and]
    exact this
theorem gdone_ints {I : Nat → Prop} {w w' : World} {ρ : Nat → Am.Place} {k : Blk} {r σ : Nat} {zs ds : List Int} {v : Value} {x : AV} (hρ : ρ 0 = some (r, σ)) (hz : k.cs = iv zs) (he : k.esz = 1) (hg : Gate (gbase w [(0, k)] ρ) I w [(0, k)] ρ) (hI : ∀ b, I b → b < w.heap.size)
    (hl : ds.length ≤ zs.length) (hos : w'.os = w.os) (htp : w'.tape = w.tape) (hou : w'.output = w.output) (hsz : w.heap.size ≤ w'.heap.size) (hoth : ∀ j, j < w.heap.size → j ≠ r → w'.heap[j]? = w.heap[j]?)
    (hc : ∃ n, w'.heap[r]? = (Go.Sort.putRow (Value.int .i64) (Go.Sort.ahead w n) r 0 ds.toArray).heap[r]?) (hv : VR I w' (modeOf (gst [(0, ⟨iv ds, false, 1⟩)]) ρ) x v) : GDone I w [(0, k)] ρ x [(0, ⟨iv ds, false, 1⟩)] (.returned v) w' := by
  have hk := hg.ok 0 k (by simp [hlook])
  have hok := hk.2
  rw [hρ] at hok
  obtain ⟨_, hlt, arr, ty, h5, h6, h7⟩ := holds_of he hz hok
  refine ⟨v, rfl, I, ρ, ⟨hos, htp, hou, hsz, fun j hj => hoth j ?_ ?_⟩, fun _ h => h, fun _ h => .inl h, fun b hb => Nat.lt_of_lt_of_le (hI b hb) hsz, fun _ _ _ _ _ => rfl, ⟨fun b kb hb => ?_, fun b b' k1 k2 r1 s1 s2 hb hb' => ?_⟩, hv⟩
  · exact Nat.lt_of_not_le fun h => hj (.inl h)
  · exact fun e => hj (.inr ⟨0, σ, ⟨k, by simp [hlook]⟩, by rw [e]; exact hρ⟩)
  · simp only [hlook] at hb
    split at hb
    · rename_i e
      subst e
      cases hb
      refine ⟨rfl, ?_⟩
      rw [hρ]
      unfold BlkOk
      rw [if_neg (show ¬ ((1 : Nat) = mapTag) by decide)]
      obtain ⟨n, hc⟩ := hc
      rw [heap_put h5] at hc
      refine ⟨hok.first.1, fun e => (by cases e), fun _ => hok.first.2.2 hk.1, (by rw [iv_len]; omega), _, ty, hc, (by rw [putCells_size]; exact h6), ?_⟩
      show VRs I w' _ (iv ds) _
      rw [iv_len, putCells_take _ _ (by omega)]
      exact VRs_ints ds
    · cases hb
  · simp only [hlook] at hb hb'
    split at hb
    · split at hb'
      · intro _ _; omega
      · cases hb'
    · cases hb
theorem c_Sort : Contract Try.prog (gBase + 93) (gspec sortF) := by
  refine Contract.of_gate ?_
  intro I w args vs r h h' ρ hsp hf hf' hvs h2 hgate hI
  have hs := gspec_some hf hf' hsp
  unfold sortF at hs
  split at hs
  · rename_i n k
    split at hs
    · rename_i hc
      obtain ⟨he, hn, hbig⟩ := hc
      rw [Option.map_eq_some_iff] at hs
      obtain ⟨zs, hz, hq⟩ := hs
      simp only [Prod.mk.injEq] at hq
      obtain ⟨rfl, rfl⟩ := hq
      have hcs := iv_of_ints hz
      match vs, hvs with
      | [v], hvs =>
        simp only [VRs, and_true] at hvs
        refine ⟨fun w => enters_of Try.func93 rfl (by decide) _ w, ?_⟩
        simp only [VR, modeOf] at hvs
        have hA : aliveA (gst [(0, k)]) ρ 0 0 = some (ρ 0, k.esz) := by simp [aliveA, gst, hlook]
        have hx := hvs.2.2 _ hA
        simp only [] at hx
        have hlen : zs.length = n := by rw [← hn, hcs, iv_len]
        cases hρ : ρ 0 with
        | none =>
          rw [hρ] at hx
          obtain ⟨rfl, hn0, _⟩ := hx
          have hz0 : zs = [] := List.length_eq_zero_iff.1 (by omega)
          refine Calls.mono (Try.slices_Sort_int_none none 0 w) ?_
          rintro e w' ⟨rfl, rfl⟩
          subst hz0
          refine ⟨_, rfl, I, ρ, Base.upto.refl _, fun _ h => h, fun _ h => .inl h, hI, fun _ _ _ _ _ => rfl, ⟨fun b kb hb => ?_, fun b b' k1 k2 r1 s1 s2 hb hb' hp => ?_⟩, ?_⟩
          · simp only [hlook] at hb
            split at hb
            · rename_i e; subst e; cases hb
              refine ⟨rfl, ?_⟩
              rw [hρ]
              simp [BlkOk, BlkC, BlkM, iv, isort]
            · cases hb
          · simp only [hlook] at hb
            split at hb
            · rename_i e; subst e; rw [hρ] at hp; cases hp
            · cases hb
          · simp only [VR]; exact ⟨[], rfl, by simp [VRs]⟩
        | some p =>
          obtain ⟨q, σ⟩ := p
          rw [hρ] at hx
          obtain ⟨a, cap, rfl, hcap, hmax, hx⟩ := hx
          have ha : a = some ⟨q, 0, none⟩ := by
            rcases hx with ⟨_, h⟩ | ⟨h, _⟩
            · exact absurd rfl h
            · exact h
          subst ha
          have hok := (hgate.ok 0 k (by simp [hlook])).2
          rw [hρ] at hok
          obtain ⟨hH, hlt, _⟩ := holds_of he hcs hok
          rw [← hlen]
          refine Calls.mono (Try.slices_Sort_int q 0 cap zs w hH hlt (by omega)) ?_
          rintro e w' ⟨rfl, m, os, rfl⟩
          rw [isort_merge]
          have hsize : (Go.Sort.putRow (Value.int .i64) (Go.Sort.ahead w m) q 0 (isort zs).toArray).heap.size = w.heap.size := by simp [Go.Sort.putRow, Go.Sort.mapBlock, Go.Sort.ahead]
          have hgrow : ∀ j, j < w.heap.size → (Go.Sort.grow (Go.Sort.putRow (Value.int .i64) (Go.Sort.ahead w m) q 0 (isort zs).toArray) os).heap[j]? = (Go.Sort.putRow (Value.int .i64) (Go.Sort.ahead w m) q 0 (isort zs).toArray).heap[j]? := by
            intro j hj
            simp only [Go.Sort.grow]
            rw [Array.getElem?_append_left (by rw [hsize]; exact hj)]
          refine gdone_ints hρ hcs he hgate hI (by rw [isort_len]; exact Nat.le_refl _) rfl rfl rfl (by simp only [Go.Sort.grow, Array.size_append, hsize]; omega) (fun j hj hne => ?_) ⟨m, hgrow q hlt⟩ ?_
          · rw [hgrow j hj, heap_put_ne hne]
          · simp only [VR]; exact ⟨[], rfl, by simp [VRs]⟩
      | [], hvs => simp [VRs] at hvs
      | _ :: _ :: _, hvs => simp [VRs] at hvs
    · cases hs
  · cases hs
def compF : GSp := fun args h => match args, h with
  | [.own 0 0 0 n], [(0, k)] => if k.esz = 1 ∧ k.cs.length = n ∧ n ≤ 1152921504606846976 then (ints k.cs).map fun zs =>
      (.own 0 0 0 (Go.Lib.compact zs).length, [(0, ⟨iv (Go.Lib.compact zs ++ List.replicate (zs.length - (Go.Lib.compact zs).length) 0), false, 1⟩)]) else none
  | _, _ => none
theorem compact_le (zs : List Int) : (Go.Lib.compact zs).length ≤ zs.length := by
  unfold Go.Lib.compact Go.Lib.compactUpTo
  rw [List.length_map]
  refine Nat.le_trans (List.length_filter_le _ _) ?_
  simp
theorem c_Compact : Contract Try.prog (gBase + 94) (gspec compF) := by
  refine Contract.of_gate ?_
  intro I w args vs r h h' ρ hsp hf hf' hvs h2 hgate hI
  have hs := gspec_some hf hf' hsp
  unfold compF at hs
  split at hs
  · rename_i n k
    split at hs
    · rename_i hc
      obtain ⟨he, hn, hbig⟩ := hc
      rw [Option.map_eq_some_iff] at hs
      obtain ⟨zs, hz, hq⟩ := hs
      simp only [Prod.mk.injEq] at hq
      obtain ⟨rfl, rfl⟩ := hq
      have hcs := iv_of_ints hz
      match vs, hvs with
      | [v], hvs =>
        simp only [VRs, and_true] at hvs
        refine ⟨fun w => enters_of Try.func94 rfl (by decide) _ w, ?_⟩
        simp only [VR, modeOf] at hvs
        have hA : aliveA (gst [(0, k)]) ρ 0 0 = some (ρ 0, k.esz) := by simp [aliveA, gst, hlook]
        have hx := hvs.2.2 _ hA
        simp only [] at hx
        have hlen : zs.length = n := by rw [← hn, hcs, iv_len]
        cases hρ : ρ 0 with
        | none =>
          rw [hρ] at hx
          obtain ⟨rfl, hn0, _⟩ := hx
          have hz0 : zs = [] := List.length_eq_zero_iff.1 (by omega)
          subst hz0
          subst hn0
          refine Calls.mono (Try.slices_Compact_int_empty none 0 w) ?_
          rintro e w' ⟨rfl, rfl⟩
          refine ⟨_, rfl, I, ρ, Base.upto.refl _, fun _ h => h, fun _ h => .inl h, hI, fun _ _ _ _ _ => rfl, ⟨fun b kb hb => ?_, fun b b' k1 k2 r1 s1 s2 hb hb' hp => ?_⟩, ?_⟩
          · simp only [hlook] at hb
            split at hb
            · rename_i e; subst e; cases hb
              refine ⟨rfl, ?_⟩
              rw [hρ]
              simp [BlkOk, BlkC, BlkM, iv, Go.Lib.compact, Go.Lib.compactUpTo]
            · cases hb
          · simp only [hlook] at hb
            split at hb
            · rename_i e; subst e; rw [hρ] at hp; cases hp
            · cases hb
          · simp only [VR, modeOf]
            refine ⟨⟨_, _, _, rfl⟩, Nat.le_refl _, fun L hL => ?_⟩
            simp only [aliveA, gst, hlook, if_true, Option.map_some, Option.some.injEq] at hL
            subst hL
            rw [hρ]
            refine ⟨?_, ?_⟩
            · simp [Go.Lib.compact, Go.Lib.compactUpTo]
            · simp [Go.Lib.compact, Go.Lib.compactUpTo]
        | some p =>
          obtain ⟨q, σ⟩ := p
          rw [hρ] at hx
          obtain ⟨a, cap, rfl, hcap, hmax, hx⟩ := hx
          have ha : a = some ⟨q, 0, none⟩ ∧ cap * k.esz = σ := by
            rcases hx with ⟨_, h⟩ | ⟨h, h'⟩
            · exact absurd rfl h
            · exact ⟨h, h' trivial⟩
          obtain ⟨rfl, hcs1⟩ := ha
          have hok := (hgate.ok 0 k (by simp [hlook])).2
          rw [hρ] at hok
          obtain ⟨hH, hlt, _⟩ := holds_of he hcs hok
          rw [← hlen]
          refine Calls.mono (Try.slices_Compact_int q 0 cap zs w hH (by omega) (by omega)) ?_
          rintro e w' ⟨rfl, m, rfl⟩
          have hle := compact_le zs
          refine gdone_ints hρ hcs he hgate hI (by simp; omega) rfl rfl rfl (by simp [Go.Sort.putRow, Go.Sort.mapBlock, Go.Sort.ahead]) (fun j hj hne => heap_put_ne hne _ _) ⟨m, rfl⟩ ?_
          simp only [VR, modeOf]
          refine ⟨⟨_, _, _, rfl⟩, Nat.le_refl _, fun L hL => ?_⟩
          simp only [aliveA, gst, hlook, if_true, Option.map_some, Option.some.injEq] at hL
          subst hL
          rw [hρ]
          exact ⟨_, cap, rfl, by omega, hmax, .inr ⟨rfl, fun _ => by rw [he] at hcs1; exact hcs1⟩⟩
      | [], hvs => simp [VRs] at hvs
      | _ :: _ :: _, hvs => simp [VRs] at hvs
    · cases hs
  · cases hs
end Go.Co
