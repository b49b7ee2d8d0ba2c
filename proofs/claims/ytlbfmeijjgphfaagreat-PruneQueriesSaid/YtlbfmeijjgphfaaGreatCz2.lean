/- CO: texts of this claim, one behind the other. -/
import Derived.Test.YtlbfmeijjgphfaaGreatProg
import Derived.Test.YtlbfmeijjgphfaaGreatCz1
set_option linter.unusedVariables false
set_option linter.unusedSimpArgs false
/- CO: numbers of numbers. -/
namespace Go.Co
open Go.Am Go.Proofs
theorem contract_less {P : Program} {f : FuncId} {sp sp' : List AV → Option AV} (h : Contract P f sp') (hs : ∀ args r, sp args = some r → sp' args = some r) : Contract P f sp := h.less hs
theorem contract_closedG {P : Program} (hm : P.follows .mixedOrders = true) {T : List (Nat × AFun)} (hT : Go.Am.Good P T) {L : Cs} (hL : ∀ f, Contract P f (L f)) {NW : Nat → Option Nat} {m n f : Nat} (h : saysTrue (callG T L NW m n f []) = true) : Contract P f (sp0 (some true)) :=
  contract_less (callG_contract hm hT hL m n f) fun args r hr => by
    unfold sp0 at hr
    split at hr
    · cases hr
      exact saysTrue_eq h
    · cases hr
theorem lib0 {P : Program} : ∀ f, Contract P f (tbl [] f) := tbl_nil
theorem mixed : Tryz.prog.follows .mixedOrders = true := rfl
def c16_0 : ACode := .ops [⟨some 6, .mv (.c (.int .i64 0)), none, []⟩] [0, 1, 2]
theorem r16_0 : type_of% (rr c16_0.eq_1) := rr rfl
def c16_1 : ACode := .ops [⟨some 7, .mv (.t 0), none, []⟩,⟨some 8, .mv (.t 2), none, []⟩,⟨some 9, .mv (.t 1), none, []⟩,⟨some 10, .bin .sub (.t 8) (.t 9), none, []⟩,⟨some 11, .bin .add (.t 10) (.c (.int .i64 1)), none, []⟩,⟨some 12, .bin .rem (.t 7) (.t 11), none, []⟩,⟨some 0, .mv (.t 12), none, []⟩] [0, 1, 2]
theorem r16_1 : type_of% (rr c16_1.eq_1) := rr rfl
def c16_2 : ACode := .ops [⟨some 13, .mv (.t 0), none, []⟩,⟨some 14, .bin .lss (.t 13) (.c (.int .i64 0)), none, []⟩] [0, 1, 2, 14]
theorem r16_2 : type_of% (rr c16_2.eq_1) := rr rfl
def c16_3 : ACode := .ops [⟨some 15, .mv (.t 0), none, []⟩,⟨some 16, .mv (.t 2), none, []⟩,⟨some 17, .bin .add (.t 15) (.t 16), none, []⟩,⟨some 18, .mv (.t 1), none, []⟩,⟨some 19, .bin .sub (.t 17) (.t 18), none, []⟩,⟨some 20, .bin .add (.t 19) (.c (.int .i64 1)), none, []⟩,⟨some 0, .mv (.t 20), none, []⟩] [0, 1]
theorem r16_3 : type_of% (rr c16_3.eq_1) := rr rfl
def c16_4 : ACode := .cond (.t 14) c16_3 .skip
theorem r16_4 : type_of% (rr c16_4.eq_1) := rr rfl
def c16_5 : ACode := .seq c16_2 c16_4
theorem r16_5 : type_of% (rr c16_5.eq_1) := rr rfl
def c16_6 : ACode := .ops [⟨some 21, .mv (.t 1), none, []⟩,⟨some 22, .mv (.t 0), none, []⟩,⟨some 23, .bin .add (.t 21) (.t 22), none, []⟩,⟨some 6, .mv (.t 23), none, []⟩] [6]
theorem r16_6 : type_of% (rr c16_6.eq_1) := rr rfl
def c16_7 : ACode := .seq c16_6 .ret
theorem r16_7 : type_of% (rr c16_7.eq_1) := rr rfl
def c16_8 : ACode := .seq c16_5 c16_7
theorem r16_8 : type_of% (rr c16_8.eq_1) := rr rfl
def c16_9 : ACode := .seq c16_1 c16_8
theorem r16_9 : type_of% (rr c16_9.eq_1) := rr rfl
def c16_10 : ACode := .seq c16_0 c16_9
theorem r16_10 : type_of% (rr c16_10.eq_1) := rr rfl
def a16 : AFun := ⟨3, 24, c16_10, [.t 6]⟩
attribute [simp] r16_0 r16_1 r16_2 r16_3 r16_4 r16_5 r16_6 r16_7 r16_8 r16_9 r16_10
theorem m16 : mFun Tryz.prog Tryz.f16 a16 = true := by decide +kernel
def c21_0 : ACode := .ops [⟨some 4, .mv (.c (.int .i64 0)), none, []⟩] [0, 1]
theorem r21_0 : type_of% (rr c21_0.eq_1) := rr rfl
def c21_1 : ACode := .ops [⟨some 5, .mv (.t 0), none, []⟩,⟨some 6, .len (.t 5), none, []⟩,⟨some 7, .bin .eql (.t 6) (.c (.int .i64 0)), none, []⟩] [0, 1, 7]
theorem r21_1 : type_of% (rr c21_1.eq_1) := rr rfl
def c21_2 : ACode := .ops [⟨some 4, .mv (.c (.int .i64 0)), none, []⟩] [4]
theorem r21_2 : type_of% (rr c21_2.eq_1) := rr rfl
def c21_3 : ACode := .seq c21_2 .ret
theorem r21_3 : type_of% (rr c21_3.eq_1) := rr rfl
def c21_4 : ACode := .cond (.t 7) c21_3 .skip
theorem r21_4 : type_of% (rr c21_4.eq_1) := rr rfl
def c21_5 : ACode := .seq c21_1 c21_4
theorem r21_5 : type_of% (rr c21_5.eq_1) := rr rfl
def c21_6 : ACode := .ops [⟨some 8, .mv (.t 0), none, []⟩,⟨some 9, .mv (.t 1), none, []⟩,⟨some 10, .mv (.t 0), none, []⟩,⟨some 11, .len (.t 10), none, []⟩,⟨some 12, .bin .rem (.t 9) (.t 11), none, []⟩,⟨some 13, .ias (.t 8) (.t 12) 1, none, []⟩,⟨some 14, .load 1 false (.t 13), none, []⟩,⟨some 4, .mv (.t 14), none, []⟩] [4]
theorem r21_6 : type_of% (rr c21_6.eq_1) := rr rfl
def c21_7 : ACode := .seq c21_6 .ret
theorem r21_7 : type_of% (rr c21_7.eq_1) := rr rfl
def c21_8 : ACode := .seq c21_5 c21_7
theorem r21_8 : type_of% (rr c21_8.eq_1) := rr rfl
def c21_9 : ACode := .seq c21_0 c21_8
theorem r21_9 : type_of% (rr c21_9.eq_1) := rr rfl
def a21 : AFun := ⟨2, 15, c21_9, [.t 4]⟩
attribute [simp] r21_0 r21_1 r21_2 r21_3 r21_4 r21_5 r21_6 r21_7 r21_8 r21_9
theorem m21 : mFun Tryz.prog Tryz.f21 a21 = true := by decide +kernel
def Within (n lo hi : Int) : Option Int := if -1125899906842624 ≤ lo ∧ lo ≤ hi ∧ hi ≤ 1125899906842624 then some (within n lo hi) else none
theorem runs_Within (n lo hi c : Int) (h : Within n lo hi = some c) : Runs (tbl []) a16 [Arg.enc n, Arg.enc lo, Arg.enc hi] (Arg.enc c) := by
  unfold Within at h
  split at h
  · rename_i hb
    cases h
    obtain ⟨h1, h2, h3⟩ := hb
    have hm : 0 < hi - lo + 1 := by omega
    have e1 : IntKind.i64.wrap (hi - lo) = hi - lo := wrap64 (by omega) (by omega)
    have e2 : IntKind.i64.wrap (hi - lo + 1) = hi - lo + 1 := wrap64 (by omega) (by omega)
    have e3 : hi - lo + 1 ≠ 0 := by omega
    have t1 := Int.tmod_eq_emod (a := n) (b := hi - lo + 1)
    have b1 := Int.emod_nonneg n e3
    have b2 := Int.emod_lt_of_pos n hm
    refine ⟨rfl, fun g => run_def ?_⟩
    unfold a16
    simp [e1, e2, e3, within]
    generalize n % (hi - lo + 1) = r at *
    generalize n.tmod (hi - lo + 1) = q at *
    refine ⟨fun hq => ?_, fun hq => ?_⟩
    · split at t1
      · omega
      · have : q = r - (hi - lo + 1) := by rw [t1, Int.natAbs_of_nonneg (by omega)]
        rw [wrap64 (x := q + hi) (by omega) (by omega), wrap64 (x := q + hi - lo) (by omega) (by omega), wrap64 (x := q + hi - lo + 1) (by omega) (by omega), wrap64 (by omega) (by omega)]
        omega
    · split at t1
      · rw [wrap64 (by omega) (by omega)]
        omega
      · have : q = r - (hi - lo + 1) := by rw [t1, Int.natAbs_of_nonneg (by omega)]
        omega
  · cases h
theorem c_Within : Contract Tryz.prog 16 (sp3 Within) :=
  contract_of_runs mixed tbl_nil Tryz.func16 m16 (sp3_runs runs_Within)
def Pick (l : List Int) (i : Int) : Option Int := if 0 ≤ i then some (pick l i.toNat) else none
theorem runs_pick (l : List Int) (i c : Int) (h : Pick l i = some c) : Runs (tbl []) a21 [Arg.enc l, Arg.enc i] (Arg.enc c) := by
  unfold Pick at h
  split at h
  · rename_i hi
    cases h
    obtain ⟨k, rfl⟩ : ∃ k : Nat, i = k := ⟨i.toNat, by omega⟩
    refine ⟨rfl, fun g => run_def ?_⟩
    unfold a21
    simp [pick]
    intro hl
    refine ⟨fun h => by simp [h], fun hne _ => ?_⟩
    have hpos : 0 < l.length := List.length_pos_iff.2 hne
    have hlt := Nat.mod_lt k hpos
    have e : ((k : Int).tmod (l.length : Int)) = (k : Int) % (l.length : Int) := Int.tmod_eq_emod_of_nonneg (by omega)
    have e2 : (k : Int) % (l.length : Int) < (l.length : Int) := Int.emod_lt_of_pos _ (by omega)
    have e3 : (0 : Int) ≤ (k : Int) % (l.length : Int) := Int.emod_nonneg _ (by omega)
    have e4 : ((k : Int) % (l.length : Int)).toNat = k % l.length := by
      omega
    simp [hne, e, e2, e3, e4, rd_ints, hlt]
  · cases h
theorem c_pick : Contract Tryz.prog 21 (sp2 Pick) :=
  contract_of_runs mixed tbl_nil Tryz.func21 m21 (sp2_runs runs_pick)
end Go.Co
/- CO: what the kit tells of slices.Sort and slices.Compact, as contracts of calls that are given a block. -/
namespace Go.Co
open Go.Am Go.Proofs Go.RowKit
def iv (zs : List Int) : List AV := zs.map (AV.int .i64)
def ints : List AV → Option (List Int)
  | [] => some []
  | .int .i64 n :: xs => match ints xs with
    | some ns => some (n :: ns)
    | none => none
  | _ => none
theorem ints_iv : ∀ zs, ints (iv zs) = some zs
  | [] => rfl
  | z :: zs => by
    have := ints_iv zs
    unfold iv at this ⊢
    simp only [List.map_cons, ints, this]
theorem iv_of_ints : ∀ {xs : List AV} {zs : List Int}, ints xs = some zs → xs = iv zs
  | [], zs, h => by simp [ints] at h; subst h; rfl
  | x :: xs, zs, h => by
    unfold ints at h
    split at h
    · rename_i he; cases he
    · rename_i n ys he
      cases he
      split at h
      · rename_i ns hn
        cases h
        rw [iv_of_ints hn]
        rfl
      · cases h
    · cases h
theorem iv_len (zs : List Int) : (iv zs).length = zs.length := by simp [iv]
def insI (n : Int) : List Int → List Int
  | [] => [n]
  | m :: l => if n ≤ m then n :: m :: l else m :: insI n l
def isort : List Int → List Int
  | [] => []
  | n :: l => insI n (isort l)
theorem insI_perm (n : Int) : ∀ l, (insI n l).Perm (n :: l)
  | [] => List.Perm.refl _
  | m :: l => by
    unfold insI
    split
    · exact List.Perm.refl _
    · exact ((insI_perm n l).cons m).trans (List.Perm.swap n m l)
theorem isort_perm : ∀ l, (isort l).Perm l
  | [] => List.Perm.refl _
  | n :: l => (insI_perm n (isort l)).trans ((isort_perm l).cons n)
theorem insI_sorted (n : Int) : ∀ l : List Int, l.Pairwise (· ≤ ·) → (insI n l).Pairwise (· ≤ ·)
  | [], _ => by simp [insI]
  | m :: l, h => by
    unfold insI
    split
    · rename_i hnm
      refine List.Pairwise.cons (fun a ha => ?_) h
      rcases List.mem_cons.1 ha with rfl | ha
      · exact hnm
      · exact Int.le_trans hnm (List.rel_of_pairwise_cons h ha)
    · rename_i hnm
      refine List.Pairwise.cons (fun a ha => ?_) (insI_sorted n l (List.Pairwise.of_cons h))
      have := (insI_perm n l).mem_iff.1 ha
      rcases List.mem_cons.1 this with rfl | ha
      · omega
      · exact List.rel_of_pairwise_cons h ha
theorem isort_sorted : ∀ l : List Int, (isort l).Pairwise (· ≤ ·)
  | [] => List.Pairwise.nil
  | n :: l => insI_sorted n _ (isort_sorted l)
theorem isort_len (l : List Int) : (isort l).length = l.length := (isort_perm l).length_eq
theorem isort_merge (l : List Int) : l.mergeSort (fun x y => decide (x ≤ y)) = isort l := by
  have h := List.pairwise_mergeSort (le := fun (x y : Int) => decide (x ≤ y)) (fun a b c h1 h2 => by simp at *; omega) (fun a b => by simp; omega) l
  refine List.Perm.eq_of_pairwise (le := (· ≤ ·)) (fun a b _ _ h1 h2 => Int.le_antisymm h1 h2) (h.imp fun h => by simpa using h) (isort_sorted l) ((List.mergeSort_perm l _).trans (isort_perm l).symm)
def sortF : GSp := fun args h => match args, h with
  | [.own 0 0 0 n], [(0, k)] => if k.esz = 1 ∧ k.cs.length = n ∧ n ≤ 1152921504606846976 then (ints k.cs).map fun zs => (.tup [], [(0, ⟨iv (isort zs), false, 1⟩)]) else none
  | _, _ => none
theorem holds_of {w0 : Base} {I : Nat → Prop} {w : World} {M : Option Am.Mode} {r σ : Nat} {k : Blk} {zs : List Int} (he : k.esz = 1) (hz : k.cs = iv zs) (h : BlkOk w0 I w M (some (r, σ)) k) :
    Go.Sort.Holds (Value.int .i64) w r 0 zs.toArray ∧ r < w.heap.size ∧ ∃ arr ty, w.heap[r]? = some (.cells arr ty (0, 0)) ∧ arr.size = σ ∧ zs.length ≤ σ := by
  have hlt := h.lt
  unfold BlkOk at h
  rw [if_neg (by rw [he]; decide)] at h
  obtain ⟨_, _, _, h4, arr, ty, h5, h6, h7⟩ := h
  have hlen : zs.length ≤ σ := by rw [hz, iv_len] at h4; exact h4
  refine ⟨fun j hj => ?_, hlt, arr, ty, h5, h6, hlen⟩
  have hj' : j < zs.length := by simpa using hj
  rw [hz] at h7
  obtain ⟨v, hv, hr⟩ := h7.get j (.int .i64 zs[j]) (by simp [iv, List.getElem?_eq_getElem hj'])
  simp only [VR] at hr
  subst hr
  rw [iv_len] at hv
  rw [List.getElem?_take, if_pos hj'] at hv
  constructor
  · simp only [World.cell?, h5, Nat.zero_add]
    rw [Array.getElem?_toList] at hv
    rw [hv]
    simp [getElem!_pos, hj']
  · simp [World.frozen?, h5]
theorem heap_put {w : World} {r : Nat} {arr : Array Value} {ty : Nat} {fr : Nat × Nat} (h : w.heap[r]? = some (.cells arr ty fr)) (ds : Array Int) (n : Nat) :
    (Go.Sort.putRow (Value.int .i64) (Go.Sort.ahead w n) r 0 ds).heap[r]? = some (.cells (Go.Sort.putCells (Value.int .i64) 0 ds arr) ty fr) := by
  simp [Go.Sort.putRow, Go.Sort.mapBlock, Go.Sort.ahead, Array.getElem?_modify, h, Go.Sort.onCells]
theorem heap_put_ne {w : World} {r j : Nat} (hj : j ≠ r) (ds : Array Int) (n : Nat) : (Go.Sort.putRow (Value.int .i64) (Go.Sort.ahead w n) r 0 ds).heap[j]? = w.heap[j]? := by
  simp [Go.Sort.putRow, Go.Sort.mapBlock, Go.Sort.ahead, Array.getElem?_modify, Ne.symm hj]
theorem putCells_take (ds : List Int) (arr : Array Value) (h : ds.length ≤ arr.size) : (Go.Sort.putCells (Value.int .i64) 0 ds.toArray arr).toList.take ds.length = ds.map (Value.int .i64) := by
  apply List.ext_getElem?
  intro i
  rw [List.getElem?_take]
  by_cases hi : i < ds.length
  · rw [if_pos hi, Array.getElem?_toList]
    simp only [Go.Sort.putCells, Array.getElem?_mapIdx, Nat.zero_le, true_and, Nat.zero_add, List.size_toArray, Nat.sub_zero]
    rw [Array.getElem?_eq_getElem (by omega)]
    simp [hi]
  · rw [if_neg hi]
    simp [hi]
theorem putCells_size (ds : Array Int) (arr : Array Value) : (Go.Sort.putCells (Value.int .i64) 0 ds arr).size = arr.size := by simp [Go.Sort.putCells]
theorem VRs_ints {I : Nat → Prop} {w : World} {M : Option Am.Mode} : ∀ zs : List Int, VRs I w M (iv zs) (zs.map (Value.int .i64))
  | [] => by simp [iv, VRs]
  | z :: zs => by
    have := VRs_ints (I := I) (w := w) (M := M) zs
    unfold iv at this ⊢
    simp only [List.map_cons, VRs, VR, true_and]
    exact this
theorem gdone_ints {I : Nat → Prop} {w w' : World} {ρ : Nat → Am.Place} {k : Blk} {r σ : Nat} {zs ds : List Int} {v : Value} {x : AV} (hρ : ρ 0 = some (r, σ)) (hz : k.cs = iv zs) (he : k.esz = 1) (hg : Gate (gbase w [(0, k)] ρ) I w [(0, k)] ρ) (hI : ∀ b, I b → b < w.heap.size)
    (hl : ds.length ≤ zs.length) (hos : w'.os = w.os) (htp : w'.tape = w.tape) (hou : w'.output = w.output) (hsz : w.heap.size ≤ w'.heap.size) (hoth : ∀ j, j < w.heap.size → j ≠ r → w'.heap[j]? = w.heap[j]?)
    (hc : ∃ n, w'.heap[r]? = (Go.Sort.putRow (Value.int .i64) (Go.Sort.ahead w n) r 0 ds.toArray).heap[r]?) (hv : VR I w' (modeOf (gst [(0, ⟨iv ds, false, 1⟩)]) ρ) x v) : GDone I w [(0, k)] ρ x [(0, ⟨iv ds, false, 1⟩)] (.returned v) w' := by
  have hk := hg.ok 0 k (by simp [hlook])
  have hok := hk.2
  rw [hρ] at hok
  obtain ⟨_, hlt, arr, ty, h5, h6, h7⟩ := holds_of he hz hok
  refine ⟨v, rfl, I, ρ, ⟨hos, htp, hou, hsz, fun j hj => hoth j ?_ ?_⟩, fun _ h => h, fun _ h => .inl h, fun b hb => Nat.lt_of_lt_of_le (hI b hb) hsz, fun _ _ _ _ _ => rfl, ⟨fun b kb hb => ?_, fun b b' k1 k2 r1 s1 s2 hb hb' => ?_⟩, hv⟩
  · exact Nat.lt_of_not_le fun h => hj (.inl h)
  · exact fun e => hj (.inr ⟨0, σ, ⟨k, by simp [hlook]⟩, by rw [e]; exact hρ⟩)
  · simp only [hlook] at hb
    split at hb
    · rename_i e
      subst e
      cases hb
      refine ⟨rfl, ?_⟩
      rw [hρ]
      unfold BlkOk
      rw [if_neg (show ¬ ((1 : Nat) = mapTag) by decide)]
      obtain ⟨n, hc⟩ := hc
      rw [heap_put h5] at hc
      refine ⟨hok.first.1, fun e => (by cases e), fun _ => hok.first.2.2 hk.1, (by rw [iv_len]; omega), _, ty, hc, (by rw [putCells_size]; exact h6), ?_⟩
      show VRs I w' _ (iv ds) _
      rw [iv_len, putCells_take _ _ (by omega)]
      exact VRs_ints ds
    · cases hb
  · simp only [hlook] at hb hb'
    split at hb
    · split at hb'
      · intro _ _; omega
      · cases hb'
    · cases hb
theorem c_Sort : Contract Tryz.prog (gBase + 86) (gspec sortF) := by
  refine Contract.of_gate ?_
  intro I w args vs r h h' ρ hsp hf hf' hvs h2 hgate hI
  have hs := gspec_some hf hf' hsp
  unfold sortF at hs
  split at hs
  · rename_i n k
    split at hs
    · rename_i hc
      obtain ⟨he, hn, hbig⟩ := hc
      rw [Option.map_eq_some_iff] at hs
      obtain ⟨zs, hz, hq⟩ := hs
      simp only [Prod.mk.injEq] at hq
      obtain ⟨rfl, rfl⟩ := hq
      have hcs := iv_of_ints hz
      match vs, hvs with
      | [v], hvs =>
        simp only [VRs, and_true] at hvs
        refine ⟨fun w => enters_of Tryz.func86 rfl (by decide) _ w, ?_⟩
        simp only [VR, modeOf] at hvs
        have hA : aliveA (gst [(0, k)]) ρ 0 0 = some (ρ 0, k.esz) := by simp [aliveA, gst, hlook]
        have hx := hvs.2.2 _ hA
        simp only [] at hx
        have hlen : zs.length = n := by rw [← hn, hcs, iv_len]
        cases hρ : ρ 0 with
        | none =>
          rw [hρ] at hx
          obtain ⟨rfl, hn0, _⟩ := hx
          have hz0 : zs = [] := List.length_eq_zero_iff.1 (by omega)
          refine Calls.mono (Tryz.slices_Sort_int_none none 0 w) ?_
          rintro e w' ⟨rfl, rfl⟩
          subst hz0
          refine ⟨_, rfl, I, ρ, Base.upto.refl _, fun _ h => h, fun _ h => .inl h, hI, fun _ _ _ _ _ => rfl, ⟨fun b kb hb => ?_, fun b b' k1 k2 r1 s1 s2 hb hb' hp => ?_⟩, ?_⟩
          · simp only [hlook] at hb
            split at hb
            · rename_i e; subst e; cases hb
              refine ⟨rfl, ?_⟩
              rw [hρ]
              simp [BlkOk, BlkC, BlkM, iv, isort]
            · cases hb
          · simp only [hlook] at hb
            split at hb
            · rename_i e; subst e; rw [hρ] at hp; cases hp
            · cases hb
          · simp only [VR]; exact ⟨[], rfl, by simp [VRs]⟩
        | some p =>
          obtain ⟨q, σ⟩ := p
          rw [hρ] at hx
          obtain ⟨a, cap, rfl, hcap, hmax, hx⟩ := hx
          have ha : a = some ⟨q, 0, none⟩ := by
            rcases hx with ⟨_, h⟩ | ⟨h, _⟩
            · exact absurd rfl h
            · exact h
          subst ha
          have hok := (hgate.ok 0 k (by simp [hlook])).2
          rw [hρ] at hok
          obtain ⟨hH, hlt, _⟩ := holds_of he hcs hok
          rw [← hlen]
          refine Calls.mono (Tryz.slices_Sort_int q 0 cap zs w hH hlt (by omega)) ?_
          rintro e w' ⟨rfl, m, os, rfl⟩
          rw [isort_merge]
          have hsize : (Go.Sort.putRow (Value.int .i64) (Go.Sort.ahead w m) q 0 (isort zs).toArray).heap.size = w.heap.size := by simp [Go.Sort.putRow, Go.Sort.mapBlock, Go.Sort.ahead]
          have hgrow : ∀ j, j < w.heap.size → (Go.Sort.grow (Go.Sort.putRow (Value.int .i64) (Go.Sort.ahead w m) q 0 (isort zs).toArray) os).heap[j]? = (Go.Sort.putRow (Value.int .i64) (Go.Sort.ahead w m) q 0 (isort zs).toArray).heap[j]? := by
            intro j hj
            simp only [Go.Sort.grow]
            rw [Array.getElem?_append_left (by rw [hsize]; exact hj)]
          refine gdone_ints hρ hcs he hgate hI (by rw [isort_len]; exact Nat.le_refl _) rfl rfl rfl (by simp only [Go.Sort.grow, Array.size_append, hsize]; omega) (fun j hj hne => ?_) ⟨m, hgrow q hlt⟩ ?_
          · rw [hgrow j hj, heap_put_ne hne]
          · simp only [VR]; exact ⟨[], rfl, by simp [VRs]⟩
      | [], hvs => simp [VRs] at hvs
      | _ :: _ :: _, hvs => simp [VRs] at hvs
    · cases hs
  · cases hs
def compF : GSp := fun args h => match args, h with
  | [.own 0 0 0 n], [(0, k)] => if k.esz = 1 ∧ k.cs.length = n ∧ n ≤ 1152921504606846976 then (ints k.cs).map fun zs =>
      (.own 0 0 0 (Go.Lib.compact zs).length, [(0, ⟨iv (Go.Lib.compact zs ++ List.replicate (zs.length - (Go.Lib.compact zs).length) 0), false, 1⟩)]) else none
  | _, _ => none
theorem compact_le (zs : List Int) : (Go.Lib.compact zs).length ≤ zs.length := by
  unfold Go.Lib.compact Go.Lib.compactUpTo
  rw [List.length_map]
  refine Nat.le_trans (List.length_filter_le _ _) ?_
  simp
theorem c_Compact : Contract Tryz.prog (gBase + 87) (gspec compF) := by
  refine Contract.of_gate ?_
  intro I w args vs r h h' ρ hsp hf hf' hvs h2 hgate hI
  have hs := gspec_some hf hf' hsp
  unfold compF at hs
  split at hs
  · rename_i n k
    split at hs
    · rename_i hc
      obtain ⟨he, hn, hbig⟩ := hc
      rw [Option.map_eq_some_iff] at hs
      obtain ⟨zs, hz, hq⟩ := hs
      simp only [Prod.mk.injEq] at hq
      obtain ⟨rfl, rfl⟩ := hq
      have hcs := iv_of_ints hz
      match vs, hvs with
      | [v], hvs =>
        simp only [VRs, and_true] at hvs
        refine ⟨fun w => enters_of Tryz.func87 rfl (by decide) _ w, ?_⟩
        simp only [VR, modeOf] at hvs
        have hA : aliveA (gst [(0, k)]) ρ 0 0 = some (ρ 0, k.esz) := by simp [aliveA, gst, hlook]
        have hx := hvs.2.2 _ hA
        simp only [] at hx
        have hlen : zs.length = n := by rw [← hn, hcs, iv_len]
        cases hρ : ρ 0 with
        | none =>
          rw [hρ] at hx
          obtain ⟨rfl, hn0, _⟩ := hx
          have hz0 : zs = [] := List.length_eq_zero_iff.1 (by omega)
          subst hz0
          subst hn0
          refine Calls.mono (Tryz.slices_Compact_int_empty none 0 w) ?_
          rintro e w' ⟨rfl, rfl⟩
          refine ⟨_, rfl, I, ρ, Base.upto.refl _, fun _ h => h, fun _ h => .inl h, hI, fun _ _ _ _ _ => rfl, ⟨fun b kb hb => ?_, fun b b' k1 k2 r1 s1 s2 hb hb' hp => ?_⟩, ?_⟩
          · simp only [hlook] at hb
            split at hb
            · rename_i e; subst e; cases hb
              refine ⟨rfl, ?_⟩
              rw [hρ]
              simp [BlkOk, BlkC, BlkM, iv, Go.Lib.compact, Go.Lib.compactUpTo]
            · cases hb
          · simp only [hlook] at hb
            split at hb
            · rename_i e; subst e; rw [hρ] at hp; cases hp
            · cases hb
          · simp only [VR, modeOf]
            refine ⟨⟨_, _, _, rfl⟩, Nat.le_refl _, fun L hL => ?_⟩
            simp only [aliveA, gst, hlook, if_true, Option.map_some, Option.some.injEq] at hL
            subst hL
            rw [hρ]
            refine ⟨?_, ?_⟩
            · simp [Go.Lib.compact, Go.Lib.compactUpTo]
            · simp [Go.Lib.compact, Go.Lib.compactUpTo]
        | some p =>
          obtain ⟨q, σ⟩ := p
          rw [hρ] at hx
          obtain ⟨a, cap, rfl, hcap, hmax, hx⟩ := hx
          have ha : a = some ⟨q, 0, none⟩ ∧ cap * k.esz = σ := by
            rcases hx with ⟨_, h⟩ | ⟨h, h'⟩
            · exact absurd rfl h
            · exact ⟨h, h' trivial⟩
          obtain ⟨rfl, hcs1⟩ := ha
          have hok := (hgate.ok 0 k (by simp [hlook])).2
          rw [hρ] at hok
          obtain ⟨hH, hlt, _⟩ := holds_of he hcs hok
          rw [← hlen]
          refine Calls.mono (Tryz.slices_Compact_int q 0 cap zs w hH (by omega) (by omega)) ?_
          rintro e w' ⟨rfl, m, rfl⟩
          have hle := compact_le zs
          refine gdone_ints hρ hcs he hgate hI (by simp; omega) rfl rfl rfl (by simp [Go.Sort.putRow, Go.Sort.mapBlock, Go.Sort.ahead]) (fun j hj hne => heap_put_ne hne _ _) ⟨m, rfl⟩ ?_
          simp only [VR, modeOf]
          refine ⟨⟨_, _, _, rfl⟩, Nat.le_refl _, fun L hL => ?_⟩
          simp only [aliveA, gst, hlook, if_true, Option.map_some, Option.some.injEq] at hL
          subst hL
          rw [hρ]
          exact ⟨_, cap, rfl, by omega, hmax, .inr ⟨rfl, fun _ => by rw [he] at hcs1; exact hcs1⟩⟩
      | [], hvs => simp [VRs] at hvs
      | _ :: _ :: _, hvs => simp [VRs] at hvs
    · cases hs
  · cases hs
end Go.Co
/- CO: words and their bits, as sums of powers of two. -/
namespace Go.Co
open Go.Am
@[simp] theorem wrapU {x : Int} (h : 0 ≤ x) (h' : x < 18446744073709551616) : IntKind.u64.wrap x = x := by
  unfold IntKind.wrap
  simp [IntKind.bits, IntKind.signed]
  omega
theorem bv_toNat {a : Int} (h : 0 ≤ a) (h' : a < 18446744073709551616) : (BitVec.ofInt 64 a).toNat = a.toNat := by
  rw [BitVec.toNat_ofInt]
  omega
theorem and_mask (x at_ w : Nat) : x &&& ((2 ^ w - 1) * 2 ^ at_) = (x / 2 ^ at_ % 2 ^ w) * 2 ^ at_ := by
  apply Nat.eq_of_testBit_eq
  intro i
  rw [Nat.testBit_and, Nat.mul_comm, Nat.testBit_two_pow_mul, Nat.mul_comm (x / 2 ^ at_ % 2 ^ w), Nat.testBit_two_pow_mul, Nat.testBit_two_pow_sub_one, Nat.testBit_mod_two_pow, Nat.testBit_div_two_pow]
  by_cases h : at_ ≤ i
  · simp [h, Bool.and_comm]
  · simp [h]
theorem or_apart (a b k : Nat) (h : b < 2 ^ k) : a * 2 ^ k ||| b = a * 2 ^ k + b := by
  rw [Nat.mul_comm]
  exact (Nat.two_pow_add_eq_or_of_lt h a).symm
def okW (a : Int) : Prop := 0 ≤ a ∧ a < 18446744073709551616
instance (a : Int) : Decidable (okW a) := by unfold okW; exact inferInstance
theorem u_and (a b : Int) (ha : okW a) (hb : okW b) : iand .u64 a b = ((a.toNat &&& b.toNat : Nat) : Int) := by
  show IntKind.u64.wrap ((BitVec.ofInt 64 a &&& BitVec.ofInt 64 b).toNat : Int) = _
  rw [BitVec.toNat_and, bv_toNat ha.1 ha.2, bv_toNat hb.1 hb.2]
  refine wrapU (by omega) ?_
  have : a.toNat &&& b.toNat ≤ a.toNat := Nat.and_le_left
  have := ha.2
  omega
theorem u_or (a b : Int) (ha : okW a) (hb : okW b) : ior .u64 a b = ((a.toNat ||| b.toNat : Nat) : Int) := by
  show IntKind.u64.wrap ((BitVec.ofInt 64 a ||| BitVec.ofInt 64 b).toNat : Int) = _
  rw [BitVec.toNat_or, bv_toNat ha.1 ha.2, bv_toNat hb.1 hb.2]
  refine wrapU (by omega) ?_
  have : a.toNat ||| b.toNat < 2 ^ 64 := Nat.or_lt_two_pow (by have := ha.2; have := ha.1; omega) (by have := hb.2; have := hb.1; omega)
  omega
theorem u_conv (n : Int) : IntKind.u64.wrap n = n % 18446744073709551616 := by
  unfold IntKind.wrap
  simp [IntKind.bits, IntKind.signed]
theorem okW_mod (n : Int) : okW (n % 18446744073709551616) := ⟨by omega, by omega⟩
theorem bv_clear (x m : BitVec 64) (h : x &&& m = 0#64) : x &&& ~~~ m = x := by
  apply BitVec.eq_of_getLsbD_eq
  intro i hi
  have h1 := congrArg (fun b => b.getLsbD i) h
  simp [hi] at h1 ⊢
  exact h1
theorem put_bits (x a m : Int) (p w : Nat) (hx : okW x) (ha : okW a) (hm : m = ((2 ^ w - 1) * 2 ^ p : Nat)) (hm2 : okW m) (hc : x.toNat / 2 ^ p % 2 ^ w = 0) :
    ior .u64 (iandNot .u64 x m) (iand .u64 a m) = x + ((a.toNat / 2 ^ p % 2 ^ w * 2 ^ p : Nat) : Int) := by
  have hmn : m.toNat = (2 ^ w - 1) * 2 ^ p := by omega
  have hxm : BitVec.ofInt 64 x &&& BitVec.ofInt 64 m = 0#64 := by
    apply BitVec.eq_of_toNat_eq
    rw [BitVec.toNat_and, bv_toNat hx.1 hx.2, bv_toNat hm2.1 hm2.2, hmn, and_mask, hc]
    simp
  have hnot : iandNot .u64 x m = x := by
    show IntKind.u64.wrap ((BitVec.ofInt 64 x &&& ~~~ BitVec.ofInt 64 m).toNat : Int) = x
    rw [bv_clear _ _ hxm, bv_toNat hx.1 hx.2]
    have := hx.1
    have := hx.2
    rw [wrapU (by omega) (by omega)]
    omega
  have hand : iand .u64 a m = ((a.toNat / 2 ^ p % 2 ^ w * 2 ^ p : Nat) : Int) := by
    rw [u_and _ _ ha hm2, hmn, and_mask]
  have hf : okW ((a.toNat / 2 ^ p % 2 ^ w * 2 ^ p : Nat) : Int) := by
    rw [← and_mask, ← hmn]
    have : a.toNat &&& m.toNat ≤ m.toNat := Nat.and_le_right
    have := hm2.1
    have := hm2.2
    exact ⟨by omega, by omega⟩
  rw [hnot, hand]
  show IntKind.u64.wrap ((BitVec.ofInt 64 x ||| BitVec.ofInt 64 _).toNat : Int) = _
  have h0 : BitVec.ofInt 64 x &&& BitVec.ofInt 64 ((a.toNat / 2 ^ p % 2 ^ w * 2 ^ p : Nat) : Int) = 0#64 := by
    have hfm : BitVec.ofInt 64 ((a.toNat / 2 ^ p % 2 ^ w * 2 ^ p : Nat) : Int) &&& BitVec.ofInt 64 m = BitVec.ofInt 64 ((a.toNat / 2 ^ p % 2 ^ w * 2 ^ p : Nat) : Int) := by
      apply BitVec.eq_of_toNat_eq
      rw [BitVec.toNat_and, bv_toNat hf.1 hf.2, bv_toNat hm2.1 hm2.2, hmn]
      have e : (((a.toNat / 2 ^ p % 2 ^ w * 2 ^ p : Nat) : Int)).toNat = a.toNat / 2 ^ p % 2 ^ w * 2 ^ p := by omega
      rw [e, and_mask, Nat.mul_div_cancel _ (Nat.two_pow_pos p), Nat.mod_mod]
    rw [← hfm, BitVec.and_comm _ (BitVec.ofInt 64 m), ← BitVec.and_assoc, hxm, BitVec.zero_and]
  rw [← BitVec.add_eq_or_of_and_eq_zero _ _ h0, BitVec.toNat_add_of_and_eq_zero h0, bv_toNat hx.1 hx.2, bv_toNat hf.1 hf.2]
  have hsum : ((BitVec.ofInt 64 x) + BitVec.ofInt 64 ((a.toNat / 2 ^ p % 2 ^ w * 2 ^ p : Nat) : Int)).toNat < 2 ^ 64 := BitVec.isLt _
  rw [BitVec.toNat_add_of_and_eq_zero h0, bv_toNat hx.1 hx.2, bv_toNat hf.1 hf.2] at hsum
  have := hx.1
  have := hf.1
  rw [wrapU (by omega) (by omega)]
  omega
end Go.Co
/- CO: numbers of 32 bits. -/
namespace Go.Co
open Go.Am Go.Proofs
def c60_0 : ACode := .ops [⟨some 4, .mv (.c (.bool false)), none, []⟩] [0, 1]
theorem r60_0 : type_of% (rr c60_0.eq_1) := rr rfl
def c60_1 : ACode := .ops [⟨some 6, .mv (.t 1), none, []⟩,⟨some 7, .bin .lss (.t 6) (.c (.int .i64 1)), none, []⟩,⟨some 8, .mv (.t 7), none, []⟩,⟨some 9, .mv (.t 1), some (8, false), []⟩,⟨some 10, .bin .gtr (.t 9) (.c (.int .i64 64)), some (8, false), []⟩,⟨some 11, .pick (.t 8) (.c (.bool true)) (.t 10), none, []⟩] [0, 1, 11]
theorem r60_1 : type_of% (rr c60_1.eq_1) := rr rfl
def c60_2 : ACode := .ops [⟨some 4, .mv (.c (.bool false)), none, []⟩] [4]
theorem r60_2 : type_of% (rr c60_2.eq_1) := rr rfl
def c60_3 : ACode := .seq c60_2 .ret
theorem r60_3 : type_of% (rr c60_3.eq_1) := rr rfl
def c60_4 : ACode := .cond (.t 11) c60_3 .skip
theorem r60_4 : type_of% (rr c60_4.eq_1) := rr rfl
def c60_5 : ACode := .seq c60_1 c60_4
theorem r60_5 : type_of% (rr c60_5.eq_1) := rr rfl
def c60_6 : ACode := .ops [⟨some 12, .mv (.t 1), none, []⟩,⟨some 13, .bin .eql (.t 12) (.c (.int .i64 64)), none, []⟩] [0, 1, 13]
theorem r60_6 : type_of% (rr c60_6.eq_1) := rr rfl
def c60_7 : ACode := .ops [⟨some 4, .mv (.c (.bool true)), none, []⟩] [4]
theorem r60_7 : type_of% (rr c60_7.eq_1) := rr rfl
def c60_8 : ACode := .seq c60_7 .ret
theorem r60_8 : type_of% (rr c60_8.eq_1) := rr rfl
def c60_9 : ACode := .cond (.t 13) c60_8 .skip
theorem r60_9 : type_of% (rr c60_9.eq_1) := rr rfl
def c60_10 : ACode := .seq c60_6 c60_9
theorem r60_10 : type_of% (rr c60_10.eq_1) := rr rfl
def c60_11 : ACode := .ops [⟨some 14, .mv (.t 1), none, []⟩,⟨some 15, .bin .sub (.t 14) (.c (.int .i64 1)), none, []⟩,⟨some 16, .bin .shl (.c (.int .i64 1)) (.t 15), none, []⟩,⟨some 5, .mv (.t 16), none, []⟩] [0, 5]
theorem r60_11 : type_of% (rr c60_11.eq_1) := rr rfl
def c60_12 : ACode := .ops [⟨some 17, .mv (.t 0), none, []⟩,⟨some 18, .mv (.t 5), none, []⟩,⟨some 19, .un .neg (.t 18), none, []⟩,⟨some 20, .bin .geq (.t 17) (.t 19), none, []⟩,⟨some 21, .mv (.t 20), none, []⟩,⟨some 22, .mv (.t 0), some (21, true), []⟩,⟨some 23, .mv (.t 5), some (21, true), []⟩,⟨some 24, .bin .sub (.t 23) (.c (.int .i64 1)), some (21, true), []⟩,⟨some 25, .bin .leq (.t 22) (.t 24), some (21, true), []⟩,⟨some 26, .pick (.t 21) (.t 25) (.c (.bool false)), none, []⟩,⟨some 4, .mv (.t 26), none, []⟩] [4]
theorem r60_12 : type_of% (rr c60_12.eq_1) := rr rfl
def c60_13 : ACode := .seq c60_12 .ret
theorem r60_13 : type_of% (rr c60_13.eq_1) := rr rfl
def c60_14 : ACode := .seq c60_11 c60_13
theorem r60_14 : type_of% (rr c60_14.eq_1) := rr rfl
def c60_15 : ACode := .seq c60_10 c60_14
theorem r60_15 : type_of% (rr c60_15.eq_1) := rr rfl
def c60_16 : ACode := .seq c60_5 c60_15
theorem r60_16 : type_of% (rr c60_16.eq_1) := rr rfl
def c60_17 : ACode := .seq c60_0 c60_16
theorem r60_17 : type_of% (rr c60_17.eq_1) := rr rfl
def a60 : AFun := ⟨2, 27, c60_17, [.t 4]⟩
attribute [simp] r60_0 r60_1 r60_2 r60_3 r60_4 r60_5 r60_6 r60_7 r60_8 r60_9 r60_10 r60_11 r60_12 r60_13 r60_14 r60_15 r60_16 r60_17
theorem m60 : mFun Tryz.prog Tryz.f60 a60 = true := by decide +kernel
def c71_0 : ACode := .ops [⟨some 4, .mv (.c (.bool false)), none, []⟩] [0, 1]
theorem r71_0 : type_of% (rr c71_0.eq_1) := rr rfl
def c71_1 : ACode := .ops [⟨some 5, .mv (.t 1), none, []⟩,⟨some 6, .bin .lss (.t 5) (.c (.int .i64 1)), none, []⟩,⟨some 7, .mv (.t 6), none, []⟩,⟨some 8, .mv (.t 1), some (7, false), []⟩,⟨some 9, .bin .gtr (.t 8) (.c (.int .i64 64)), some (7, false), []⟩,⟨some 10, .pick (.t 7) (.c (.bool true)) (.t 9), none, []⟩] [0, 1, 10]
theorem r71_1 : type_of% (rr c71_1.eq_1) := rr rfl
def c71_2 : ACode := .ops [⟨some 4, .mv (.c (.bool false)), none, []⟩] [4]
theorem r71_2 : type_of% (rr c71_2.eq_1) := rr rfl
def c71_3 : ACode := .seq c71_2 .ret
theorem r71_3 : type_of% (rr c71_3.eq_1) := rr rfl
def c71_4 : ACode := .cond (.t 10) c71_3 .skip
theorem r71_4 : type_of% (rr c71_4.eq_1) := rr rfl
def c71_5 : ACode := .seq c71_1 c71_4
theorem r71_5 : type_of% (rr c71_5.eq_1) := rr rfl
def c71_6 : ACode := .ops [⟨some 11, .mv (.t 0), none, []⟩,⟨some 12, .mv (.t 1), none, []⟩,⟨some 13, .bin .sub (.t 12) (.c (.int .i64 1)), none, []⟩,⟨some 14, .conv .u64 (.t 13), none, []⟩,⟨some 15, .bin .shr (.t 11) (.t 14), none, []⟩,⟨some 16, .bin .eql (.t 15) (.c (.int .i64 0)), none, []⟩,⟨some 17, .mv (.t 16), none, []⟩,⟨some 18, .mv (.t 0), some (17, false), []⟩,⟨some 19, .mv (.t 1), some (17, false), []⟩,⟨some 20, .bin .sub (.t 19) (.c (.int .i64 1)), some (17, false), []⟩,⟨some 21, .conv .u64 (.t 20), some (17, false), []⟩,⟨some 22, .bin .shr (.t 18) (.t 21), some (17, false), []⟩,⟨some 23, .bin .eql (.t 22) (.c (.int .i64 (-1))), some (17, false), []⟩,⟨some 24, .pick (.t 17) (.c (.bool true)) (.t 23), none, []⟩,⟨some 4, .mv (.t 24), none, []⟩] [4]
theorem r71_6 : type_of% (rr c71_6.eq_1) := rr rfl
def c71_7 : ACode := .seq c71_6 .ret
theorem r71_7 : type_of% (rr c71_7.eq_1) := rr rfl
def c71_8 : ACode := .seq c71_5 c71_7
theorem r71_8 : type_of% (rr c71_8.eq_1) := rr rfl
def c71_9 : ACode := .seq c71_0 c71_8
theorem r71_9 : type_of% (rr c71_9.eq_1) := rr rfl
def a71 : AFun := ⟨2, 25, c71_9, [.t 4]⟩
attribute [simp] r71_0 r71_1 r71_2 r71_3 r71_4 r71_5 r71_6 r71_7 r71_8 r71_9
theorem m71 : mFun Tryz.prog Tryz.f71 a71 = true := by decide +kernel
def c107_0 : ACode := .ops [⟨some 4, .mv (.c (.int .i64 0)), none, []⟩] [0, 1]
theorem r107_0 : type_of% (rr c107_0.eq_1) := rr rfl
def c107_1 : ACode := .ops [⟨some 6, .mv (.t 1), none, []⟩,⟨some 7, .bin .lss (.t 6) (.c (.int .i64 1)), none, []⟩,⟨some 8, .mv (.t 7), none, []⟩,⟨some 9, .mv (.t 1), some (8, false), []⟩,⟨some 10, .bin .geq (.t 9) (.c (.int .i64 64)), some (8, false), []⟩,⟨some 11, .pick (.t 8) (.c (.bool true)) (.t 10), none, []⟩] [0, 1, 11]
theorem r107_1 : type_of% (rr c107_1.eq_1) := rr rfl
def c107_2 : ACode := .ops [⟨some 12, .mv (.t 0), none, []⟩,⟨some 4, .mv (.t 12), none, []⟩] [4]
theorem r107_2 : type_of% (rr c107_2.eq_1) := rr rfl
def c107_3 : ACode := .seq c107_2 .ret
theorem r107_3 : type_of% (rr c107_3.eq_1) := rr rfl
def c107_4 : ACode := .cond (.t 11) c107_3 .skip
theorem r107_4 : type_of% (rr c107_4.eq_1) := rr rfl
def c107_5 : ACode := .seq c107_1 c107_4
theorem r107_5 : type_of% (rr c107_5.eq_1) := rr rfl
def c107_6 : ACode := .ops [⟨some 13, .mv (.t 1), none, []⟩,⟨some 14, .bin .sub (.c (.int .i64 64)) (.t 13), none, []⟩,⟨some 15, .conv .u64 (.t 14), none, []⟩,⟨some 5, .mv (.t 15), none, []⟩] [0, 5]
theorem r107_6 : type_of% (rr c107_6.eq_1) := rr rfl
def c107_7 : ACode := .ops [⟨some 16, .mv (.t 0), none, []⟩,⟨some 17, .mv (.t 5), none, []⟩,⟨some 18, .bin .shl (.t 16) (.t 17), none, []⟩,⟨some 19, .mv (.t 5), none, []⟩,⟨some 20, .bin .shr (.t 18) (.t 19), none, []⟩,⟨some 4, .mv (.t 20), none, []⟩] [4]
theorem r107_7 : type_of% (rr c107_7.eq_1) := rr rfl
def c107_8 : ACode := .seq c107_7 .ret
theorem r107_8 : type_of% (rr c107_8.eq_1) := rr rfl
def c107_9 : ACode := .seq c107_6 c107_8
theorem r107_9 : type_of% (rr c107_9.eq_1) := rr rfl
def c107_10 : ACode := .seq c107_5 c107_9
theorem r107_10 : type_of% (rr c107_10.eq_1) := rr rfl
def c107_11 : ACode := .seq c107_0 c107_10
theorem r107_11 : type_of% (rr c107_11.eq_1) := rr rfl
def a107 : AFun := ⟨2, 21, c107_11, [.t 4]⟩
attribute [simp] r107_0 r107_1 r107_2 r107_3 r107_4 r107_5 r107_6 r107_7 r107_8 r107_9 r107_10 r107_11
theorem m107 : mFun Tryz.prog Tryz.f107 a107 = true := by decide +kernel
def Fits (n w : Int) : Option Bool := if w = 32 then some (fits n) else none
theorem runs_rFits (n w : Int) (c : Bool) (h : Fits n w = some c) : Runs (tbl []) a60 [Arg.enc n, Arg.enc w] (Arg.enc c) := by
  unfold Fits at h
  split at h
  · rename_i hw
    subst hw
    cases h
    refine ⟨rfl, fun g => run_def ?_⟩
    unfold a60
    by_cases h1 : -2147483648 ≤ n <;> simp [fits, IntKind.wrap, IntKind.bits, IntKind.signed, ishl, ishr, h1]
  · cases h
theorem runs_Fits (n w : Int) (c : Bool) (h : Fits n w = some c) : Runs (tbl []) a71 [Arg.enc n, Arg.enc w] (Arg.enc c) := by
  unfold Fits at h
  split at h
  · rename_i hw
    subst hw
    cases h
    refine ⟨rfl, fun g => run_def ?_⟩
    have e : fits n = (decide (n.fdiv 2147483648 = 0) || decide (n.fdiv 2147483648 = -1)) := by
      unfold fits
      have := Int.fdiv_eq_ediv_of_nonneg n (show (0 : Int) ≤ 2147483648 by omega)
      rw [this]
      by_cases h1 : n / 2147483648 = 0
      · simp [h1]; omega
      · by_cases h2 : n / 2147483648 = -1
        · simp [h2]; omega
        · simp [h1, h2]; omega
    unfold a71
    rw [e]
    by_cases h1 : n.fdiv 2147483648 = 0 <;> simp [IntKind.wrap, IntKind.bits, IntKind.signed, ishl, ishr, h1]
  · cases h
def Wrap (n w : Int) : Option Int := if w = 32 ∧ -9223372036854775808 ≤ n ∧ n ≤ 9223372036854775807 then some (wrap32 n) else none
theorem runs_Wrap (n w c : Int) (h : Wrap n w = some c) : Runs (tbl []) a107 [Arg.enc n, Arg.enc w] (Arg.enc c) := by
  unfold Wrap at h
  split at h
  · rename_i hw
    obtain ⟨rfl, h1, h2⟩ := hw
    cases h
    refine ⟨rfl, fun g => run_def ?_⟩
    unfold a107
    simp [wrap32, IntKind.wrap, IntKind.bits, IntKind.signed, ishl, ishr]
    rw [Int.fdiv_eq_ediv_of_nonneg _ (by omega)]
    split <;> omega
  · cases h
theorem c_rFits : Contract Tryz.prog 60 (sp2 Fits) := contract_of_runs mixed tbl_nil Tryz.func60 m60 (sp2_runs runs_rFits)
theorem c_Fits : Contract Tryz.prog 71 (sp2 Fits) := contract_of_runs mixed tbl_nil Tryz.func71 m71 (sp2_runs runs_Fits)
theorem c_Wrap : Contract Tryz.prog 107 (sp2 Wrap) := contract_of_runs mixed tbl_nil Tryz.func107 m107 (sp2_runs runs_Wrap)
def c80_0 : ACode := .ops [⟨some 1, .box (.t 0) 6, none, []⟩,⟨some 2, .mv (.c (.bool false)), none, []⟩] [1]
theorem r80_0 : type_of% (rr c80_0.eq_1) := rr rfl
def c80_1 : ACode := .ops [⟨some 3, .fad (.t 1) 0, none, [1]⟩,⟨some 4, .load 1 false (.t 3), none, [1]⟩] [1, 4]
theorem r80_1 : type_of% (rr c80_1.eq_1) := rr rfl
def c80_2 : ACode := .ops [⟨some 5, .fad (.t 1) 1, none, [1]⟩,⟨some 6, .load 1 false (.t 5), none, [1]⟩,⟨some 7, .call 60 [.t 6, .c (.int .i64 32)], none, []⟩,⟨some 8, .mv (.t 7), none, []⟩,⟨some 9, .fad (.t 1) 2, some (8, true), [1]⟩,⟨some 10, .load 1 false (.t 9), some (8, true), [1]⟩,⟨some 11, .bin .eql (.t 10) (.c (.int .i64 0)), some (8, true), []⟩,⟨some 12, .pick (.t 8) (.t 11) (.c (.bool false)), none, []⟩,⟨some 13, .mv (.t 12), none, []⟩,⟨some 14, .fad (.t 1) 3, some (13, true), [1]⟩,⟨some 15, .load 1 false (.t 14), some (13, true), [1]⟩,⟨some 16, .bin .eql (.t 15) (.c (.int .i64 0)), some (13, true), []⟩,⟨some 17, .pick (.t 13) (.t 16) (.c (.bool false)), none, []⟩,⟨some 18, .mv (.t 17), none, []⟩,⟨some 19, .fad (.t 1) 4, some (18, true), [1]⟩,⟨some 20, .load 1 false (.t 19), some (18, true), [1]⟩,⟨some 21, .bin .eql (.t 20) (.c (.int .i64 0)), some (18, true), []⟩,⟨some 22, .pick (.t 18) (.t 21) (.c (.bool false)), none, []⟩,⟨some 23, .mv (.t 22), none, []⟩,⟨some 24, .fad (.t 1) 5, some (23, true), [1]⟩,⟨some 25, .load 1 false (.t 24), some (23, true), [1]⟩,⟨some 26, .bin .eql (.t 25) (.c (.int .i64 0)), some (23, true), []⟩,⟨some 27, .pick (.t 23) (.t 26) (.c (.bool false)), none, []⟩,⟨some 2, .mv (.t 27), none, []⟩] [2]
theorem r80_2 : type_of% (rr c80_2.eq_1) := rr rfl
def c80_3 : ACode := .seq c80_2 .ret
theorem r80_3 : type_of% (rr c80_3.eq_1) := rr rfl
def c80_4 : ACode := .cond (.t 4) c80_3 .skip
theorem r80_4 : type_of% (rr c80_4.eq_1) := rr rfl
def c80_5 : ACode := .seq c80_1 c80_4
theorem r80_5 : type_of% (rr c80_5.eq_1) := rr rfl
def c80_6 : ACode := .ops [⟨some 28, .fad (.t 1) 1, none, [1]⟩,⟨some 29, .load 1 false (.t 28), none, [1]⟩,⟨some 30, .bin .eql (.t 29) (.c (.int .i64 0)), none, []⟩,⟨some 31, .mv (.t 30), none, []⟩,⟨some 32, .fad (.t 1) 2, some (31, true), [1]⟩,⟨some 33, .load 1 false (.t 32), some (31, true), [1]⟩,⟨some 34, .bin .geq (.t 33) (.c (.int .i64 0)), some (31, true), []⟩,⟨some 35, .pick (.t 31) (.t 34) (.c (.bool false)), none, []⟩,⟨some 36, .mv (.t 35), none, []⟩,⟨some 37, .fad (.t 1) 2, some (36, true), [1]⟩,⟨some 38, .load 1 false (.t 37), some (36, true), [1]⟩,⟨some 39, .bin .lss (.t 38) (.c (.int .i64 4)), some (36, true), []⟩,⟨some 40, .pick (.t 36) (.t 39) (.c (.bool false)), none, []⟩,⟨some 41, .mv (.t 40), none, []⟩,⟨some 42, .fad (.t 1) 3, some (41, true), [1]⟩,⟨some 43, .load 1 false (.t 42), some (41, true), [1]⟩,⟨some 44, .call 60 [.t 43, .c (.int .i64 32)], some (41, true), []⟩,⟨some 45, .pick (.t 41) (.t 44) (.c (.bool false)), none, []⟩,⟨some 46, .mv (.t 45), none, []⟩,⟨some 47, .fad (.t 1) 4, some (46, true), [1]⟩,⟨some 48, .load 1 false (.t 47), some (46, true), [1]⟩,⟨some 49, .bin .geq (.t 48) (.c (.int .i64 1)), some (46, true), []⟩,⟨some 50, .pick (.t 46) (.t 49) (.c (.bool false)), none, []⟩,⟨some 51, .mv (.t 50), none, []⟩,⟨some 52, .fad (.t 1) 4, some (51, true), [1]⟩,⟨some 53, .load 1 false (.t 52), some (51, true), [1]⟩,⟨some 54, .bin .lss (.t 53) (.c (.int .i64 31)), some (51, true), []⟩,⟨some 55, .pick (.t 51) (.t 54) (.c (.bool false)), none, []⟩,⟨some 56, .mv (.t 55), none, []⟩,⟨some 57, .fad (.t 1) 5, some (56, true), [1]⟩,⟨some 58, .load 1 false (.t 57), some (56, true), [1]⟩,⟨some 59, .bin .geq (.t 58) (.c (.int .i64 1)), some (56, true), []⟩,⟨some 60, .pick (.t 56) (.t 59) (.c (.bool false)), none, []⟩,⟨some 61, .mv (.t 60), none, []⟩,⟨some 62, .fad (.t 1) 5, some (61, true), [1]⟩,⟨some 63, .load 1 false (.t 62), some (61, true), [1]⟩,⟨some 64, .bin .lss (.t 63) (.c (.int .i64 31)), some (61, true), []⟩,⟨some 65, .pick (.t 61) (.t 64) (.c (.bool false)), none, []⟩,⟨some 2, .mv (.t 65), none, []⟩] [2]
theorem r80_6 : type_of% (rr c80_6.eq_1) := rr rfl
def c80_7 : ACode := .seq c80_6 .ret
theorem r80_7 : type_of% (rr c80_7.eq_1) := rr rfl
def c80_8 : ACode := .seq c80_5 c80_7
theorem r80_8 : type_of% (rr c80_8.eq_1) := rr rfl
def c80_9 : ACode := .seq c80_0 c80_8
theorem r80_9 : type_of% (rr c80_9.eq_1) := rr rfl
def a80 : AFun := ⟨1, 66, c80_9, [.t 2]⟩
attribute [simp] r80_0 r80_1 r80_2 r80_3 r80_4 r80_5 r80_6 r80_7 r80_8 r80_9
theorem m80 : mFun Tryz.prog Tryz.f80 a80 = true := by decide +kernel
def c51_0 : ACode := .ops [⟨some 1, .box (.t 0) 6, none, []⟩,⟨some 2, .mv (.c (.int .u64 0)), none, []⟩] [1]
theorem r51_0 : type_of% (rr c51_0.eq_1) := rr rfl
def c51_1 : ACode := .ops [⟨some 3, .load 6 true (.t 1), none, [1]⟩,⟨some 4, .call 80 [.t 3], none, []⟩,⟨some 5, .un .not (.t 4), none, []⟩] [1, 5]
theorem r51_1 : type_of% (rr c51_1.eq_1) := rr rfl
def c51_2 : ACode := .ops [⟨some 2, .mv (.c (.int .u64 0)), none, []⟩] [2]
theorem r51_2 : type_of% (rr c51_2.eq_1) := rr rfl
def c51_3 : ACode := .seq c51_2 .ret
theorem r51_3 : type_of% (rr c51_3.eq_1) := rr rfl
def c51_4 : ACode := .cond (.t 5) c51_3 .skip
theorem r51_4 : type_of% (rr c51_4.eq_1) := rr rfl
def c51_5 : ACode := .seq c51_1 c51_4
theorem r51_5 : type_of% (rr c51_5.eq_1) := rr rfl
def c51_6 : ACode := .ops [⟨some 6, .fad (.t 1) 0, none, [1]⟩,⟨some 7, .load 1 false (.t 6), none, [1]⟩] [1, 7]
theorem r51_6 : type_of% (rr c51_6.eq_1) := rr rfl
def c51_7 : ACode := .ops [⟨some 8, .fad (.t 1) 1, none, [1]⟩,⟨some 9, .load 1 false (.t 8), none, [1]⟩,⟨some 10, .conv .u64 (.t 9), none, []⟩,⟨some 11, .bin .and (.t 10) (.c (.int .u64 4294967295)), none, []⟩,⟨some 12, .bin .or (.c (.int .u64 9223372036854775808)) (.t 11), none, []⟩,⟨some 2, .mv (.t 12), none, []⟩] [2]
theorem r51_7 : type_of% (rr c51_7.eq_1) := rr rfl
def c51_8 : ACode := .seq c51_7 .ret
theorem r51_8 : type_of% (rr c51_8.eq_1) := rr rfl
def c51_9 : ACode := .cond (.t 7) c51_8 .skip
theorem r51_9 : type_of% (rr c51_9.eq_1) := rr rfl
def c51_10 : ACode := .seq c51_6 c51_9
theorem r51_10 : type_of% (rr c51_10.eq_1) := rr rfl
def c51_11 : ACode := .ops [⟨some 13, .fad (.t 1) 3, none, [1]⟩,⟨some 14, .load 1 false (.t 13), none, [1]⟩,⟨some 15, .conv .u64 (.t 14), none, []⟩,⟨some 16, .bin .and (.t 15) (.c (.int .u64 4294967295)), none, []⟩,⟨some 17, .fad (.t 1) 2, none, [1]⟩,⟨some 18, .load 1 false (.t 17), none, [1]⟩,⟨some 19, .conv .u64 (.t 18), none, []⟩,⟨some 20, .bin .shl (.t 19) (.c (.int .u64 32)), none, []⟩,⟨some 21, .bin .or (.t 16) (.t 20), none, []⟩,⟨some 22, .fad (.t 1) 4, none, [1]⟩,⟨some 23, .load 1 false (.t 22), none, [1]⟩,⟨some 24, .conv .u64 (.t 23), none, []⟩,⟨some 25, .bin .shl (.t 24) (.c (.int .u64 40)), none, []⟩,⟨some 26, .bin .or (.t 21) (.t 25), none, []⟩,⟨some 27, .fad (.t 1) 5, none, [1]⟩,⟨some 28, .load 1 false (.t 27), none, [1]⟩,⟨some 29, .conv .u64 (.t 28), none, []⟩,⟨some 30, .bin .shl (.t 29) (.c (.int .u64 48)), none, []⟩,⟨some 31, .bin .or (.t 26) (.t 30), none, []⟩,⟨some 2, .mv (.t 31), none, []⟩] [2]
theorem r51_11 : type_of% (rr c51_11.eq_1) := rr rfl
def c51_12 : ACode := .seq c51_11 .ret
theorem r51_12 : type_of% (rr c51_12.eq_1) := rr rfl
def c51_13 : ACode := .seq c51_10 c51_12
theorem r51_13 : type_of% (rr c51_13.eq_1) := rr rfl
def c51_14 : ACode := .seq c51_5 c51_13
theorem r51_14 : type_of% (rr c51_14.eq_1) := rr rfl
def c51_15 : ACode := .seq c51_0 c51_14
theorem r51_15 : type_of% (rr c51_15.eq_1) := rr rfl
def a51 : AFun := ⟨1, 32, c51_15, [.t 2]⟩
attribute [simp] r51_0 r51_1 r51_2 r51_3 r51_4 r51_5 r51_6 r51_7 r51_8 r51_9 r51_10 r51_11 r51_12 r51_13 r51_14 r51_15
theorem m51 : mFun Tryz.prog Tryz.f51 a51 = true := by decide +kernel
theorem runs_rRightNode (n : Node) (c : Bool) (h : some (rightNode n) = some c) : Runs (tbl [(60, sp2 Fits)]) a80 [Arg.enc n] (Arg.enc c) := by
  cases h
  refine ⟨rfl, fun g => run_def ?_⟩
  obtain ⟨leaf, value, feature, cut, left, right⟩ := n
  unfold a80
  cases leaf
  case false =>
    by_cases h1 : value = 0
    case neg => simp -implicitDefEqProofs [rightNode, Fits, h1]
    by_cases h2 : 0 ≤ feature
    case neg => simp -implicitDefEqProofs [rightNode, Fits, h1, h2]
    by_cases h3 : feature < 4
    case neg => simp -implicitDefEqProofs [rightNode, Fits, h1, h2, h3]
    cases h4 : fits cut
    case false => simp -implicitDefEqProofs [rightNode, Fits, h1, h2, h3, h4]
    by_cases h5 : 1 ≤ left
    case neg => simp -implicitDefEqProofs [rightNode, Fits, h1, h2, h3, h4, h5]
    by_cases h6 : left < 31
    case neg => simp -implicitDefEqProofs [rightNode, Fits, h1, h2, h3, h4, h5, h6]
    by_cases h7 : 1 ≤ right <;> simp -implicitDefEqProofs [rightNode, Fits, h1, h2, h3, h4, h5, h6, h7]
  case true =>
    cases h1 : fits value
    case false => simp -implicitDefEqProofs [rightNode, Fits, h1]
    by_cases h2 : feature = 0
    case neg => simp -implicitDefEqProofs [rightNode, Fits, h1, h2]
    by_cases h3 : cut = 0
    case neg => simp -implicitDefEqProofs [rightNode, Fits, h1, h2, h3]
    by_cases h4 : left = 0 <;> simp -implicitDefEqProofs [rightNode, Fits, h1, h2, h3, h4]
theorem c_rRightNode : Contract Tryz.prog 80 (sp1 fun n => some (rightNode n)) :=
  contract_of_runs mixed (tbl_cons c_rFits tbl_nil) Tryz.func80 m80 (sp1_runs runs_rRightNode)
theorem or_low (a b : Int) (k : Nat) (hk : k < 64) (ha : 0 ≤ a) (h1 : a < 2 ^ k) (hb : 0 ≤ b) (h2 : b * 2 ^ k < 18446744073709551616) : ior .u64 a (b * 2 ^ k) = a + b * 2 ^ k := by
  obtain ⟨a, rfl⟩ : ∃ n : Nat, a = n := ⟨a.toNat, by omega⟩
  obtain ⟨b, rfl⟩ : ∃ n : Nat, b = n := ⟨b.toNat, by omega⟩
  have e : ((b : Int) * 2 ^ k) = ((b * 2 ^ k : Nat) : Int) := by simp
  have h1' : a < 2 ^ k := by
    have e2 : ((2 : Int) ^ k) = ((2 ^ k : Nat) : Int) := by simp
    rw [e2] at h1
    omega
  have h64 : (2 : Nat) ^ k ≤ 2 ^ 63 := Nat.pow_le_pow_right (by omega) (by omega)
  rw [e] at h2 ⊢
  have hb2 : b * 2 ^ k < 18446744073709551616 := by omega
  rw [u_or _ _ ⟨by omega, by omega⟩ ⟨by omega, by omega⟩]
  have e3 : ((a : Int)).toNat = a := by omega
  have e4 : (((b * 2 ^ k : Nat) : Int)).toNat = b * 2 ^ k := by omega
  rw [e3, e4, Nat.or_comm, or_apart b a k h1']
  omega
theorem and_low (a : Int) (h : okW a) : iand .u64 a 4294967295 = a % 4294967296 := by
  rw [u_and _ _ h ⟨by omega, by omega⟩]
  have e : (4294967295 : Int).toNat = 4294967295 := rfl
  have := and_mask a.toNat 0 32
  simp at this
  rw [e, this]
  have := h.1
  omega
theorem runs_rPack (n : Node) (c : Word) (h : some (pack n) = some c) : Runs (tbl [(80, sp1 fun n => some (rightNode n))]) a51 [Arg.enc n] (Arg.enc c) := by
  cases h
  refine ⟨rfl, fun g => run_def ?_⟩
  obtain ⟨leaf, value, feature, cut, left, right⟩ := n
  unfold a51
  cases h1 : rightNode ⟨leaf, value, feature, cut, left, right⟩
  case false => simp -implicitDefEqProofs [pack, h1]
  cases leaf
  case true =>
    have e1 : ior .u64 9223372036854775808 (value % 4294967296) = 9223372036854775808 + value % 4294967296 := by
      rw [u_or _ _ ⟨by omega, by omega⟩ ⟨by omega, by omega⟩]
      have e := or_apart 1 (value % 4294967296).toNat 63 (by omega)
      have e2 : (9223372036854775808 : Int).toNat = 1 * 2 ^ 63 := rfl
      rw [e2, e]
      omega
    simp -implicitDefEqProofs [pack, h1, u_conv, and_low _ (okW_mod _), e1]
  case false =>
    have hb := h1
    simp [rightNode] at hb
    have f1 : feature % 18446744073709551616 * 4294967296 % 18446744073709551616 = feature * 2 ^ 32 := by omega
    have f2 : left % 18446744073709551616 * 1099511627776 % 18446744073709551616 = left * 2 ^ 40 := by omega
    have f3 : right % 18446744073709551616 * 281474976710656 % 18446744073709551616 = right * 2 ^ 48 := by omega
    have e1 := or_low (cut % 4294967296) feature 32 (by omega) (by omega) (by omega) (by omega) (by omega)
    have e2 := or_low (cut % 4294967296 + feature * 2 ^ 32) left 40 (by omega) (by omega) (by omega) (by omega) (by omega)
    have e3 := or_low (cut % 4294967296 + feature * 2 ^ 32 + left * 2 ^ 40) right 48 (by omega) (by omega) (by omega) (by omega) (by omega)
    simp -implicitDefEqProofs [pack, h1, u_conv, and_low _ (okW_mod _), f1, f2, f3]
    simp only [Int.reducePow] at e1 e2 e3
    rw [e1, e2, e3]
theorem c_rPack : Contract Tryz.prog 51 (sp1 fun n => some (pack n)) :=
  contract_of_runs mixed (tbl_cons c_rRightNode tbl_nil) Tryz.func51 m51 (sp1_runs runs_rPack)
theorem and_15 (a : Int) (h : okW a) : iand .u64 a 15 = a % 16 := by
  rw [u_and _ _ h ⟨by omega, by omega⟩]
  have e : (15 : Int).toNat = 15 := rfl
  have := and_mask a.toNat 0 4
  simp at this
  rw [e, this]
  have := h.1
  omega
theorem and_255 (a : Int) (h : okW a) : iand .u64 a 255 = a % 256 := by
  rw [u_and _ _ h ⟨by omega, by omega⟩]
  have e : (255 : Int).toNat = 255 := rfl
  have := and_mask a.toNat 0 8
  simp at this
  rw [e, this]
  have := h.1
  omega
def Unpack (w : Word) : Option (Node × Bool) := if 0 ≤ w.v ∧ w.v < 18446744073709551616 then some (unpack w) else none
end Go.Co
