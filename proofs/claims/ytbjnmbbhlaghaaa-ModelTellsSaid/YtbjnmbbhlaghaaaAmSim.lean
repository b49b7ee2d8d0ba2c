/- AM: each operation beside the model's: sound. -/
import Derived.Test.YtbjnmbbhlaghaaaAmOps
namespace Go.Am
set_option linter.unusedSimpArgs false
set_option linter.unusedVariables false
open Go.RowKit

section
variable {P : Program} {w0 : Base} {I0 : Nat → Prop} {N : Nat} {I : Nat → Prop} {ρ : Nat → Place} {s : St} {a : Act} {w : World} {M : Option Mode}

/-! ### types -/
theorem tInfo_spec {t : TypeId} {n : Nat} {agg : Bool} (h : tInfo P t = some (n, agg)) :
    (∃ i, P.info? t = some i ∧ i.size = n) ∧ ∀ w, (isAgg t).run P w = .ok agg w := by
  unfold tInfo at h
  split at h
  · rename_i i fs hi hu
    cases h
    exact ⟨⟨i, hi, rfl⟩, fun w => by simp [isAgg, run_underlying hu]⟩
  · rename_i i k e hi hu
    cases h
    exact ⟨⟨i, hi, rfl⟩, fun w => by simp [isAgg, run_underlying hu]⟩
  · rename_i i d h1 h2 hi hu
    cases h
    refine ⟨⟨i, hi, rfl⟩, fun w => ?_⟩
    simp only [isAgg, Sem.run_bind, run_underlying hu, Result.andThen_ok]
    cases d <;> first | rfl | (exact absurd hu (by first | exact h1 _ | exact h2 _ _))
  · cases h

theorem tIs_spec {t : TypeId} {n : Nat} {agg : Bool} (h : tIs P t n agg = true) :
    (∃ i, P.info? t = some i ∧ i.size = n) ∧ (∀ w, (isAgg t).run P w = .ok agg w) ∧ (agg = false → n = 1) := by
  unfold tIs at h
  split at h
  · rename_i m b hi
    simp at h
    obtain ⟨⟨h1, h2⟩, h3⟩ := h
    subst h1; subst h2
    obtain ⟨h4, h5⟩ := tInfo_spec hi
    exact ⟨h4, h5, fun e => h3.resolve_left (by simp [e])⟩
  · cases h

theorem run_sizeOf' {t : TypeId} {i : TypeInfo} (hi : P.info? t = some i) (w : World) : (sizeOf t).run P w = .ok i.size w := by
  simp [sizeOf, typeInfo, hi]

theorem Addr_add (b o n : Nat) : (⟨b, o, none⟩ : Addr).add n = ⟨b, o + n, none⟩ := by
  unfold Addr.add; split
  · subst_vars; rfl
  · rfl

theorem run_loadVar' {t : TypeId} {n : Nat} {agg : Bool} (ht : tIs P t n agg = true) {b o : Nat} {cs : List Value} (hl : cs.length = n) (hc : rowAt w b o cs) :
    ∃ v, (loadVar t ⟨b, o, none⟩).run P w = .ok v w ∧ (agg = true → v = .agg cs.toArray) ∧ (agg = false → cs = [v]) := by
  obtain ⟨⟨i, hi, hn⟩, ha, h1⟩ := tIs_spec ht
  cases agg with
  | true =>
    refine ⟨.agg cs.toArray, ?_, fun _ => rfl, fun h => by cases h⟩
    have hr := run_loadCells_list (P := P) w ⟨b, o, none⟩ cs (fun j v hv => by rw [Addr_add]; exact hc j v hv)
    rw [hl, ← hn] at hr
    simp [loadVar, ha, run_sizeOf' hi, hr]
  | false =>
    have hn1 := h1 rfl
    rw [hn1] at hl
    match cs, hl with
    | [c], _ =>
      refine ⟨c, ?_, fun h => (by cases h), fun _ => rfl⟩
      have := hc 0 c rfl
      simp at this
      simp [loadVar, ha, run_load, this]

theorem rd_VR {xs : List AV} {us : List Value} {o n : Nat} {agg : Bool} {x : AV} (hx : rd xs o n agg = some x) (hv : VRs I w M xs us) (h1 : agg = false → n = 1) :
    ((us.drop o).take n).length = n ∧ (agg = true → VR I w M x (.agg ((us.drop o).take n).toArray)) ∧ (agg = false → ∀ v, (us.drop o).take n = [v] → VR I w M x v) := by
  unfold rd at hx
  split at hx
  · rename_i hle
    have hlen := hv.length
    refine ⟨by simp; omega, fun e => ?_, fun e v hvv => ?_⟩
    · subst e
      simp at hx
      subst hx
      simp only [VR]
      exact ⟨_, rfl, (hv.drop o).take n⟩
    · subst e
      simp at hx
      obtain ⟨v', hv', hr⟩ := hv.get o x hx
      have : ((us.drop o).take n)[0]? = some v := by rw [hvv]; rfl
      rw [h1 rfl] at this
      simp [List.getElem?_drop] at this
      rw [this] at hv'
      cases hv'
      exact hr
  · cases hx

theorem rowAt_of_heap {r : Nat} {arr : Array Value} {ty : Nat} {fr : Nat × Nat} (hc : w.heap[r]? = some (.cells arr ty fr)) (L o n : Nat) : rowAt w r o (((arr.toList.take L).drop o).take n) := by
  intro i v hv
  simp only [World.cell?, hc]
  rw [List.getElem?_take] at hv
  split at hv
  · rw [List.getElem?_drop, List.getElem?_take] at hv
    split at hv
    · simpa using hv
    · cases hv
  · cases hv

theorem rowAt_drop {b off : Nat} {cs : List Value} (h : rowAt w b off cs) (o n : Nat) : rowAt w b (off + o) ((cs.drop o).take n) := by
  intro i v hv
  rw [List.getElem?_take] at hv
  split at hv
  · rw [List.getElem?_drop] at hv
    rw [Nat.add_assoc]
    exact h _ v hv
  · cases hv

/-! ### closers -/
def Sim (P : Program) (N : Nat) (o : Oper) (C : Cs) (ao : AOper) : Prop :=
  ∀ (w0 : Base) (I0 I : Nat → Prop) (ρ : Nat → Place) (s : St) (a : Act) (w : World) (e : Eff) (K : Act → World → Prop) (Q : Exit → Act → World → Prop),
    R w0 I0 N I ρ s a w → eff C s ao = .ok e → (∀ I' ρ' a' w', R w0 I0 N I' ρ' (app ao.d e s) a' w' → K a' w') → o.wp P a w K Q

theorem wp_of_run {o : Oper} {v : Value} {w' : World} {K : Act → World → Prop} {Q : Exit → Act → World → Prop} (hr : (execOp a.eval o).run P w = .ok (.value v) w') (hk : K (a.put o.dst v) w') : o.wp P a w K Q := by
  unfold Oper.wp; rw [hr]; exact hk

theorem wp_of_skip {o : Oper} {w' : World} {K : Act → World → Prop} {Q : Exit → Act → World → Prop} (hr : (execOp a.eval o).run P w = .ok .skip w') (hk : K (a.put o.dst undef) w') : o.wp P a w K Q := by
  unfold Oper.wp; rw [hr]; exact hk

/-- a value alone -/
theorem close_val {o : Oper} {ao : AOper} {x : AV} {v : Value} {K : Act → World → Prop} {Q : Exit → Act → World → Prop} (h : R w0 I0 N I ρ s a w) (hd : o.dst = ao.d) (hN : ∀ n, ao.d = some n → n < N)
    (hK : ∀ I' ρ' a' w', R w0 I0 N I' ρ' (app ao.d { v := some x } s) a' w' → K a' w') (hr : (execOp a.eval o).run P w = .ok (.value v) w) (hv : VR I w (modeOf s ρ) x v) : o.wp P a w K Q := by
  refine wp_of_run hr (hK I ρ _ w ?_)
  rw [hd]
  exact h.putO hN (fun y hy => by cases hy; exact hv)

theorem val_ok {x : AV} {e : Eff} (h : val x = .ok e) : e = { v := some x } := by unfold val at h; cases h; rfl
theorem valO_ok {x : Option AV} {e : Eff} (h : valO x = .ok e) : ∃ y, x = some y ∧ e = { v := some y } := by
  cases x with
  | none => cases h
  | some y => unfold valO at h; cases h; exact ⟨y, rfl, rfl⟩

/-! ### the operations -/
section ops
variable {o : Oper} {ao : AOper} {C : Cs}

theorem sim_mv (hd : o.dst = ao.d) (hN : ∀ n, ao.d = some n → n < N) (x : Operand) (y : AOpd) (ho : o.op = .move x ∨ o.op = .assign x) (hao : ao.op = .mv y) (hm : mOpd x y = true) : Sim P N o C ao := by
  intro w0 I0 I ρ s a w e K Q h he hK
  unfold eff at he
  rw [hao] at he
  have := val_ok he; subst this
  refine close_val h hd hN hK (v := a.eval x) ?_ (h.opd hm)
  rcases ho with ho | ho <;> simp [execOp, ho]

theorem sim_pick (hd : o.dst = ao.d) (hN : ∀ n, ao.d = some n → n < N) (c x z : Operand) (c' x' z' : AOpd) (ho : o.op = .pick c x z) (hao : ao.op = .pick c' x' z') (hc : mOpd c c' = true) (hx : mOpd x x' = true) (hz : mOpd z z' = true) : Sim P N o C ao := by
  intro w0 I0 I ρ s a w e K Q h he hK
  unfold eff at he
  rw [hao] at he
  simp only [] at he
  have hcv := h.opd hc
  split at he
  · rename_i t hct
    rw [hct] at hcv
    have hb := VR_bool hcv
    have := val_ok he; subst this
    refine close_val h hd hN hK (v := if t then a.eval x else a.eval z) ?_ ?_
    · simp [execOp, ho, hb, asBool]
    · cases t
      · exact h.opd hz
      · exact h.opd hx
  · cases he

theorem sim_load (hd : o.dst = ao.d) (hN : ∀ n, ao.d = some n → n < N) (t : TypeId) (x : Operand) (n : Nat) (agg : Bool) (x' : AOpd) (ho : o.op = .load t x) (hao : ao.op = .load n agg x') (hx : mOpd x x' = true) (ht : tIs P t n agg = true) : Sim P N o C ao := by
  intro w0 I0 I ρ s a w e K Q h he hK
  unfold eff at he
  rw [hao] at he
  simp only [] at he
  have hv := h.opd hx
  have h1 := (tIs_spec ht).2.2
  split at he
  · rename_i b g p hp
    rw [hp] at hv
    split at he
    · rename_i k hk
      obtain ⟨y, hy, rfl⟩ := valO_ok he
      obtain ⟨r, σ, hρ, hav⟩ := h.ptr hk hv
      obtain ⟨_, _, _, hok⟩ := h.blk hk
      rw [hρ] at hok
      obtain ⟨_, _, _, _, arr, ty, hheap, _, hvs⟩ := hok
      obtain ⟨hl, hA, hB⟩ := rd_VR hy hvs h1
      obtain ⟨v, hrun, hva, hvb⟩ := run_loadVar' (P := P) ht hl (rowAt_of_heap hheap k.cs.length p n)
      refine close_val h hd hN hK (v := v) ?_ ?_
      · simp [execOp, ho, Instr.loadAt, hav, Instr.sureAddr, hrun]
      · cases agg with
        | true => rw [hva rfl]; exact hA rfl
        | false => exact hB rfl v (hvb rfl)
    · cases he
  · rename_i p cs hp
    rw [hp] at hv
    obtain ⟨y, hy, rfl⟩ := valO_ok he
    simp only [VR] at hv
    obtain ⟨b, off, us, hav, _, hrow, hvs⟩ := hv
    obtain ⟨hl, hA, hB⟩ := rd_VR hy hvs h1
    obtain ⟨v, hrun, hva, hvb⟩ := run_loadVar' (P := P) ht hl (rowAt_drop hrow p n)
    have hup : VRs I w (modeOf s ρ) cs us := VRs.mono (fun _ h => h) (fun _ _ _ => rfl) _ _ (M := none) trivial hvs
    obtain ⟨hl, hA, hB⟩ := rd_VR hy hup h1
    refine close_val h hd hN hK (v := v) ?_ ?_
    · simp [execOp, ho, Instr.loadAt, hav, Instr.sureAddr, hrun]
    · cases agg with
      | true => rw [hva rfl]; exact hA rfl
      | false => exact hB rfl v (hvb rfl)
  · cases he

/-- a new block under number d: what a pointer to it says -/
theorem VR_newptr {s' : St} {ρ' : Nat → Place} {d r σ : Nat} {g : Nat} {k : Blk} (hg : s'.g d = g) (hk : hlook s'.h d = some k) (hρ : ρ' d = some (r, σ)) : VR I w (modeOf s' ρ') (.ptr d g 0) (.pointer (some ⟨r, 0, none⟩)) := by
  simp only [VR, modeOf]
  refine ⟨⟨_, rfl⟩, by omega, fun L hL => ?_⟩
  simp [aliveA, hg, hk] at hL
  subst hL
  exact ⟨r, σ, hρ, rfl⟩

theorem VR_newown {s' : St} {ρ' : Nat → Place} {d r σ n cap : Nat} {g : Nat} {k : Blk} (hg : s'.g d = g) (hk : hlook s'.h d = some k) (hρ : ρ' d = some (r, σ)) (h1 : n ≤ cap) (h2 : cap ≤ maxLen) (h3 : cap * k.esz = σ) :
    VR I w (modeOf s' ρ') (.own d g 0 n) (.slice (some ⟨r, 0, none⟩) n cap) := by
  simp only [VR, modeOf]
  refine ⟨⟨_, _, _, rfl⟩, by omega, fun L hL => ?_⟩
  simp [aliveA, hg, hk] at hL
  subst hL
  simp only [hρ]
  exact ⟨_, cap, rfl, h1, h2, .inr ⟨rfl, fun _ => h3⟩⟩

theorem bump_self (d : Nat) (g : Nat → Nat) : bump d g d = g d + 1 := by simp [bump]

theorem below_push (w : World) (ob : Obj) : Below w.heap.size w { w with heap := w.heap.push ob } := (Below.refl _ w).alloc (Nat.le_refl _) ob

theorem heap_push_new (w : World) (ob : Obj) : ({ w with heap := w.heap.push ob } : World).heap[w.heap.size]? = some ob := by simp

theorem run_zero {t : TypeId} {z : List AV} (hz : tZero P t z = true) : ∃ v, (∀ w, (zeroValue t).run P w = .ok v w) ∧ ∀ (I : Nat → Prop) w M, VRs I w M z v.cells.toList := by
  unfold tZero at hz
  split at hz
  · rename_i i hi
    split at hz
    · rename_i v hv
      refine ⟨v, fun w => by simp [zeroValue, typeInfo, hi, hv], fun I w M => cvals_VRs _ _ hz⟩
    · cases hz
  · cases hz

/-- a pointer to a new block of the given cells -/
theorem close_box (hd : o.dst = ao.d) (hN : ∀ n, ao.d = some n → n < N) {d : Nat} {cs : List AV} {vs : Array Value} {ty : TypeId} {K : Act → World → Prop} {Q : Exit → Act → World → Prop} (h : R w0 I0 N I ρ s a w)
    (hK : ∀ I' ρ' a' w', R w0 I0 N I' ρ' (app ao.d { v := some (.ptr d (s.g d + 1) 0), nw := some (d, ⟨cs, false, 0⟩) } s) a' w' → K a' w')
    (hr : (execOp a.eval o).run P w = .ok (.value (.pointer (some ⟨w.heap.size, 0, none⟩))) { w with heap := w.heap.push (.cells vs ty) }) (hv : VRs I w (modeOf s ρ) cs vs.toList) : o.wp P a w K Q := by
  have hl := hv.length
  have h1 := h.alloc d w.heap.size 0 cs vs ty (by decide) (below_push w _) (Nat.le_refl _) (heap_push_new w _) (by simp at hl; omega) (by rw [List.take_of_length_le (by omega)]; exact hv)
  refine wp_of_run hr (hK I (fun b => if b = d then some (w.heap.size, vs.size) else ρ b) _ _ ?_)
  rw [hd]
  refine h1.putO hN (fun y hy => ?_)
  cases hy
  exact VR_newptr (bump_self _ _) (by rw [hlook_hput, if_pos rfl]) (if_pos rfl)

theorem sim_alloc (hd : o.dst = ao.d) (hN : ∀ n, ao.d = some n → n < N) (t : TypeId) (z : List AV) (ho : o.op = .alloc t) (hao : ao.op = .alloc z) (hz : tZero P t z = true) : Sim P N o C ao := by
  intro w0 I0 I ρ s a w e K Q h he hK
  unfold eff at he
  rw [hao] at he
  simp only [] at he
  split at he
  · rename_i d hdd
    cases he
    obtain ⟨v, hrun, hvs⟩ := run_zero (P := P) hz
    refine close_box (o := o) (ao := ao) hd hN (vs := v.cells) (ty := t) h hK ?_ (hvs I w _)
    simp [execOp, ho, Instr.alloc, hrun, newVar, newRow]
  · cases he

theorem one_VR {x : AV} {v : Value} (hc : x.isCell = true) (hv : VR I w M x v) : VRs I w M [x] v.cells.toList := by
  have h1 : VRs I w M [x] [v] := by simp only [VRs]; exact ⟨hv, trivial⟩
  have h2 := VRs_oneCell h1 (by simp [hc]) v (by simp)
  cases v <;> simp [Value.oneCell'] at h2 <;> simpa [Value.cells] using h1

theorem cells_VR {x : AV} {v : Value} {cs : List AV} (hx : x.cells = some cs) (hv : VR I w M x v) : VRs I w M cs v.cells.toList := by
  cases x <;> simp only [AV.cells, Option.some.injEq, reduceCtorEq] at hx
  case agg xs =>
    subst hx
    obtain ⟨us, rfl, hu⟩ := VR_agg hv
    simpa [Value.cells] using hu
  all_goals
    subst hx
    exact one_VR rfl hv

theorem sim_box (hd : o.dst = ao.d) (hN : ∀ n, ao.d = some n → n < N) (t : TypeId) (x : Operand) (x' : AOpd) (n : Nat) (ho : o.op = .box t x) (hao : ao.op = .box x' n) (hx : mOpd x x' = true) : Sim P N o C ao := by
  intro w0 I0 I ρ s a w e K Q h he hK
  unfold eff at he
  rw [hao] at he
  simp only [] at he
  split at he
  · rename_i d cs hdd hcs
    split at he
    · cases he
      refine close_box (o := o) (ao := ao) hd hN (vs := (a.eval x).cells) (ty := t) h hK ?_ (cells_VR hcs (h.opd hx))
      simp [execOp, ho, Instr.box, newVar, newRow]
    · cases he
  · cases he

/-- the cells that are laid into a composite -/
theorem fill_sound (h : R w0 I0 N I ρ s a w) {place : Nat → Option (Nat × Nat)} : ∀ (ps : List (Nat × Operand)) (qs : List (Nat × Nat × AOpd)) (cs cs' : List AV) (us : List Value), mParts place ps qs = true → VRs I w (modeOf s ρ) cs us →
    fill s cs qs = some cs' → ∃ us', Instr.fill place us.toArray (ps.map fun (i, x) => (i, a.eval x)) = some us' ∧ VRs I w (modeOf s ρ) cs' us'.toList
  | [], [], cs, cs', us, _, hv, hf => by
    simp [fill] at hf; subst hf
    exact ⟨us.toArray, rfl, by simpa using hv⟩
  | [], _ :: _, _, _, _, hm, _, _ => by simp [mParts] at hm
  | _ :: _, [], _, _, _, hm, _, _ => by simp [mParts] at hm
  | (i, x) :: ps, (off, n, y) :: qs, cs, cs', us, hm, hv, hf => by
    simp only [mParts, Bool.and_eq_true, decide_eq_true_eq] at hm
    obtain ⟨⟨hpl, hxy⟩, hrest⟩ := hm
    simp only [fill] at hf
    split at hf
    · rename_i vs hvs
      split at hf
      · rename_i hcond
        have hcv := cells_VR hvs (h.opd hxy)
        have hl := hcv.length
        have hl2 := hv.length
        have hw := hv.wr hcv off
        obtain ⟨us', h1, h2⟩ := fill_sound h ps qs _ cs' _ hrest hw hf
        refine ⟨us', ?_, h2⟩
        simp only [List.map_cons, Instr.fill, hpl]
        have e1 : (a.eval x).cells.size = n := by have := hl; simp at this; omega
        rw [if_neg (by simp; omega)]
        rw [← h1]
        congr 1
        -- writing the cells one by one
        have key : ∀ (l : List Value) (k : Nat) (acc : List Value), k + l.length ≤ acc.length →
            (l.zipIdx k).foldl (fun (cs : Array Value) (p : Value × Nat) => cs.setIfInBounds p.2 p.1) acc.toArray = (acc.take k ++ l ++ acc.drop (k + l.length)).toArray := by
          intro l
          induction l with
          | nil => intro k acc hk; simp
          | cons v l ih =>
            intro k acc hk
            simp only [List.zipIdx_cons, List.foldl_cons]
            simp only [List.setIfInBounds_toArray]
            rw [ih (k + 1) (acc.set k v) (by simp at hk ⊢; omega)]
            have := list_seg_step acc k v l (by simpa using hk)
            simp only [List.length_cons] at this ⊢
            rw [show k + (l.length + 1) = k + 1 + l.length by omega] at this ⊢
            rw [← this]
        have k2 := key (a.eval x).cells.toList off us (by simp; omega)
        rw [← k2, List.zipIdx_eq_map_add, List.foldl_map]
        simp only [← Array.foldl_toList]
        rw [Array.toList_zipIdx]
      · cases hf
    · cases hf

theorem run_places {fs : Array Field} {pl : List (Nat × Nat)} (hpl : placesOf P fs.toList = some pl) (w : World) :
    (fs.mapM fun f => (do pure (f.offset, ← sizeOf f.type) : Sem (Nat × Nat))).run P w = .ok pl.toArray w := by
  rw [Array.mapM_eq_mapM_toList]
  have key : ∀ (l : List Field) (pl : List (Nat × Nat)), placesOf P l = some pl → (l.mapM fun f => (do pure (f.offset, ← sizeOf f.type) : Sem (Nat × Nat))).run P w = .ok pl w := by
    intro l
    induction l with
    | nil => intro pl h; simp [placesOf] at h; subst h; rfl
    | cons f l ih =>
      intro pl h
      unfold placesOf at h
      rw [List.mapM_cons] at h ⊢
      cases hi : P.info? f.type with
      | none => simp [hi] at h
      | some i =>
        cases hr : (l.mapM fun f => (P.info? f.type).map fun i => (f.offset, i.size)) with
        | none => simp [hi, hr] at h
        | some pl' =>
          simp [hi, hr] at h
          subst h
          have h3 := ih pl' hr
          simp only [Sem.run_bind, run_sizeOf' hi, Result.andThen_ok, Sem.run_pure, h3]
  have h4 := key fs.toList pl hpl
  simp only [Sem.run_map, h4, Result.andThen_ok]

theorem sim_build_struct (hd : o.dst = ao.d) (hN : ∀ n, ao.d = some n → n < N) (t : TypeId) (ps : Array (Nat × Operand)) (z : List AV) (qs : List (Nat × Nat × AOpd)) (ho : o.op = .build t ps) (hao : ao.op = .build z qs) (hz : tZero P t z = true)
    (fs : Array Field) (hu : P.underlying t = some (.struct fs)) (pl : List (Nat × Nat)) (hpl : placesOf P fs.toList = some pl) (hm : mParts (pl[·]?) ps.toList qs = true) : Sim P N o C ao := by
  intro w0 I0 I ρ s a w e K Q h he hK
  unfold eff at he
  rw [hao] at he
  simp only [] at he
  split at he
  · rename_i cs hcs
    have := val_ok he; subst this
    obtain ⟨v, hrun, hvs⟩ := run_zero (P := P) hz
    obtain ⟨us, h1, h2⟩ := fill_sound h ps.toList qs z cs _ hm (hvs I w _) hcs
    refine close_val h hd hN hK (v := .agg us) ?_ ?_
    · have hplaces := run_places hpl
      simp only [execOp, ho, Instr.build, Sem.run_bind, hrun, run_underlying hu, Result.andThen_ok, hplaces]
      have : (ps.map fun (i, x) => (i, a.eval x)).toList = ps.toList.map fun (i, x) => (i, a.eval x) := by simp
      rw [this]
      have e : (fun (x : Nat) => pl.toArray[x]?) = fun (x : Nat) => pl[x]? := by funext x; simp
      simp only [Array.toArray_toList] at h1
      rw [e, h1]
      rfl
    · simp only [VR]
      exact ⟨us.toList, by simp, h2⟩
  · cases he

theorem mParts_congr {p q : Nat → Option (Nat × Nat)} (h : ∀ i, p i = q i) : ∀ ps qs, mParts p ps qs = mParts q ps qs
  | [], [] => rfl
  | [], _ :: _ => rfl
  | _ :: _, [] => rfl
  | (i, x) :: ps, (off, n, y) :: qs => by simp only [mParts, h i, mParts_congr h ps qs]

theorem sim_build_array (hd : o.dst = ao.d) (hN : ∀ n, ao.d = some n → n < N) (t : TypeId) (ps : Array (Nat × Operand)) (z : List AV) (qs : List (Nat × Nat × AOpd)) (ho : o.op = .build t ps) (hao : ao.op = .build z qs) (hz : tZero P t z = true)
    (n : Nat) (e : TypeId) (hu : P.underlying t = some (.array n e)) (ie : TypeInfo) (hie : P.info? e = some ie) (hm : mParts (fun i => some (i * ie.size, ie.size)) ps.toList qs = true) : Sim P N o C ao := by
  intro w0 I0 I ρ s a w e' K Q h he hK
  unfold eff at he
  rw [hao] at he
  simp only [] at he
  split at he
  · rename_i cs hcs
    have := val_ok he; subst this
    obtain ⟨v, hrun, hvs⟩ := run_zero (P := P) hz
    obtain ⟨us, h1, h2⟩ := fill_sound h ps.toList qs z cs _ hm (hvs I w _) hcs
    refine close_val h hd hN hK (v := .agg us) ?_ ?_
    · simp only [execOp, ho, Instr.build, Sem.run_bind, hrun, run_underlying hu, Result.andThen_ok, run_sizeOf' hie]
      have : (ps.map fun (i, x) => (i, a.eval x)).toList = ps.toList.map fun (i, x) => (i, a.eval x) := by simp
      rw [this]
      simp only [Array.toArray_toList] at h1
      rw [h1]
      rfl
    · simp only [VR]
      exact ⟨us.toList, by simp, h2⟩
  · cases he

theorem tSlice_spec {t : TypeId} {sz : Nat} (h : tSlice P t sz = true) : ∃ e i z, P.underlying t = some (.slice e) ∧ P.info? e = some i ∧ i.zero = some z ∧ i.size = sz ∧ 0 < sz ∧ z.cells.size = sz ∧ i.bytes ≤ 128 := by
  unfold tSlice at h
  split at h
  · rename_i e hu
    split at h
    · rename_i i hi
      split at h
      · rename_i v hv
        simp at h
        exact ⟨e, i, v, hu, hi, hv, h.1.1.1.1, h.1.1.1.2, h.1.1.2, h.1.2⟩
      · cases h
    · cases h
  · cases h
theorem tSlice_ne {t : TypeId} {sz : Nat} (h : tSlice P t sz = true) : sz ≠ mapTag := by
  unfold tSlice at h
  split at h
  · split at h
    · split at h
      · simp at h
        exact h.2
      · cases h
    · cases h
  · cases h

theorem tSliceZ_spec {t e : TypeId} {z : List AV} (h : tSliceZ P t z = true) (hu : P.underlying t = some (.slice e)) : tZero P e z = true := by
  unfold tSliceZ at h
  rw [hu] at h
  exact h

/-- a new row and a slice over it -/
theorem close_row (hd : o.dst = ao.d) (hN : ∀ n, ao.d = some n → n < N) {d n sz : Nat} {cs : List AV} {vs : Array Value} {ty : TypeId} {K : Act → World → Prop} {Q : Exit → Act → World → Prop} (h : R w0 I0 N I ρ s a w)
    (hK : ∀ I' ρ' a' w', R w0 I0 N I' ρ' (app ao.d { v := some (.own d (s.g d + 1) 0 n), nw := some (d, ⟨cs, false, sz⟩) } s) a' w' → K a' w')
    (hr : (execOp a.eval o).run P w = .ok (.value (.slice (some ⟨w.heap.size, 0, none⟩) n n)) { w with heap := w.heap.push (.cells vs ty) }) (hv : VRs I w (modeOf s ρ) cs vs.toList) (hs : vs.size = n * sz) (hn : n ≤ maxLen) (hne : sz ≠ mapTag) : o.wp P a w K Q := by
  have hl := hv.length
  have h1 := h.alloc d w.heap.size sz cs vs ty hne (below_push w _) (Nat.le_refl _) (heap_push_new w _) (by simp at hl; omega) (by rw [List.take_of_length_le (by omega)]; exact hv)
  refine wp_of_run hr (hK I (fun b => if b = d then some (w.heap.size, vs.size) else ρ b) _ _ ?_)
  rw [hd]
  refine h1.putO hN (fun y hy => ?_)
  cases hy
  exact VR_newown (bump_self _ _) (by rw [hlook_hput, if_pos rfl]) (if_pos rfl) (Nat.le_refl _) hn hs.symm

theorem range_zero (z : Array Value) (n : Nat) : ((Array.range (n * z.size)).map (fun i => z[i % z.size]!)).toList = (List.replicate n z.toList).flatten := by
  apply List.ext_getElem?
  intro i
  simp only [Array.toList_map, Array.toList_range, List.getElem?_map]
  induction n generalizing i with
  | zero => simp
  | succ n ih =>
    rw [List.replicate_succ, List.flatten_cons, List.getElem?_append]
    by_cases hi : i < z.size
    · rw [if_pos (by simpa using hi)]
      have h1 : i < (n + 1) * z.size := by rw [Nat.succ_mul]; omega
      simp [List.getElem?_range h1, Nat.mod_eq_of_lt hi, hi]
    · rw [if_neg (by simpa using hi)]
      have h2 := ih (i - z.toList.length)
      rw [← h2]
      by_cases h3 : i < (n + 1) * z.size
      · have h4 : i - z.toList.length < n * z.size := by rw [Nat.succ_mul] at h3; simp; omega
        rw [List.getElem?_range h3, List.getElem?_range h4]
        simp only [Option.map_some, Array.length_toList]
        have : i % z.size = (i - z.size) % z.size := by
          rw [Nat.mod_eq_sub_mod (by omega)]
        rw [this]
      · have h4 : ¬ (i - z.toList.length < n * z.size) := by rw [Nat.succ_mul] at h3; simp; omega
        rw [List.getElem?_eq_none (by simp; omega), List.getElem?_eq_none (by simp at h4 ⊢; omega)]

theorem sim_mkrow (hd : o.dst = ao.d) (hN : ∀ n, ao.d = some n → n < N) (t : TypeId) (len : Nat) (ps : Array (Nat × Operand)) (id sz : Nat) (z : List AV) (qs : List (Nat × Nat × AOpd)) (ho : o.op = .buildSlice t len ps) (hao : ao.op = .mkrow id len sz z qs)
    (ht : tSlice P t sz = true) (hz : tSliceZ P t z = true) (hm : mParts (fun i => some (i * sz, sz)) ps.toList qs = true) (hlen : len * sz ≤ 16777216) : Sim P N o C ao := by
  intro w0 I0 I ρ s a w e' K Q h he hK
  unfold eff at he
  rw [hao] at he
  simp only [] at he
  obtain ⟨e, i, zv, hu, hi, hzv, hsz, hpos, hzs, _⟩ := tSlice_spec ht
  split at he
  · rename_i cs hcs
    cases he
    obtain ⟨v, hrun, hvs⟩ := run_zero (P := P) (tSliceZ_spec hz hu)
    have hvz : v = zv := by
      have := hrun w
      simp [zeroValue, typeInfo, hi, hzv] at this
      exact this.symm
    subst hvz
    have hrep := VRs_rep (hvs I w (modeOf s ρ)) len
    obtain ⟨us, h1, h2⟩ := fill_sound h ps.toList qs _ cs _ hm hrep hcs
    have hus : us.size = len * sz := by
      have : ∀ (place : Nat → Option (Nat × Nat)) (l : List (Nat × Value)) (x y : Array Value), Instr.fill place x l = some y → y.size = x.size := by
        intro place l
        induction l with
        | nil => intro x y hxy; simp [Instr.fill] at hxy; rw [hxy]
        | cons p l ih =>
          intro x y hxy
          obtain ⟨j, u⟩ := p
          simp only [Instr.fill] at hxy
          split at hxy
          · cases hxy
          · split at hxy
            · cases hxy
            · rw [ih _ _ hxy]
              have : ∀ (l : List (Value × Nat)) (x : Array Value) (off : Nat), (l.foldl (fun cs (p : Value × Nat) => cs.setIfInBounds (off + p.2) p.1) x).size = x.size := by
                intro l
                induction l with
                | nil => intro x off; rfl
                | cons p l ih => intro x off; rw [List.foldl_cons, ih]; simp
              rw [← Array.foldl_toList]
              exact this _ _ _
      rw [this _ _ _ _ h1]
      have := hrep.length
      simp [List.length_flatten, hzs]
    refine close_row (o := o) (ao := ao) hd hN (vs := us) (ty := e) (sz := sz) h hK ?_ h2 hus (by unfold maxLen; have : len ≤ len * sz := Nat.le_mul_of_pos_right _ hpos; omega) (tSlice_ne ht)
    have hps : (ps.map fun (i, x) => (i, a.eval x)).toList = ps.toList.map fun (i, x) => (i, a.eval x) := by simp
    by_cases h0 : len = 0
    · subst h0
      have hr0 : Array.range (0 * sz) = #[] := by rw [Nat.zero_mul]; rfl
      simp only [List.replicate_zero, List.flatten_nil] at h1
      simp only [execOp, ho, Instr.buildSlice, Sem.run_bind, run_underlying hu, run_sizeOf' hi, Result.andThen_ok, hps, newRow, hsz, hr0, Array.map_empty]
      rw [if_neg (by omega), if_pos (by omega)]
      simp only [Sem.run_bind, Result.andThen_ok, Sem.run_pure]
      rw [h1]
      rfl
    · have h0' : ¬ (len * sz = 0) := by
        intro hh
        rcases Nat.mul_eq_zero.1 hh with h | h <;> omega
      have hrz := range_zero v.cells len
      have harr : (Array.range (len * v.cells.size)).map (fun i => v.cells[i % v.cells.size]!) = (List.replicate len v.cells.toList).flatten.toArray := by
        apply Array.ext'
        rw [hrz]
      rw [hzs] at harr
      simp only [execOp, ho, Instr.buildSlice, Sem.run_bind, run_underlying hu, run_sizeOf' hi, Result.andThen_ok, hps, newRow, hsz]
      rw [if_neg (by omega), if_neg h0']
      simp only [Sem.run_bind, hrun, Result.andThen_ok, Sem.run_pure, hzs]
      rw [harr, h1]
      rfl
  · cases he

theorem sim_nil0 (hd : o.dst = ao.d) (hN : ∀ n, ao.d = some n → n < N) (x : Operand) (id sz : Nat) (ho : o.op = .move x ∨ o.op = .assign x) (hao : ao.op = .nil0 id sz) (hm : mOpd x (.c .nils) = true) : Sim P N o C ao := by
  intro w0 I0 I ρ s a w e K Q h he hK
  unfold eff at he
  rw [hao] at he
  simp only [] at he
  cases he
  have hx : a.eval x = .slice none 0 0 := by
    have := h.opd hm
    simpa [opv, VR] using this
  have h1 := h.nil0 id sz
  refine wp_of_run (v := a.eval x) (w' := w) ?_ (hK I (fun b => if b = id then none else ρ b) _ w ?_)
  · rcases ho with ho | ho <;> simp [execOp, ho]
  · rw [hd]
    refine h1.putO hN (fun y hy => ?_)
    cases hy
    rw [hx]
    simp only [VR, modeOf]
    refine ⟨⟨_, _, _, rfl⟩, by simp [bump], fun L hL => ?_⟩
    simp [aliveA, bump, hlook_hput] at hL
    subst hL
    simp

theorem sim_store (hd : o.dst = ao.d) (hN : ∀ n, ao.d = some n → n < N) (t : TypeId) (x y : Operand) (x' y' : AOpd) (n : Nat) (ho : o.op = .store t x y) (hao : ao.op = .store x' n y') (hx : mOpd x x' = true) (hy : mOpd y y' = true)
    (i : TypeInfo) (hi : P.info? t = some i) (hn : i.size = n) : Sim P N o C ao := by
  intro w0 I0 I ρ s a w e K Q h he hK
  unfold eff at he
  rw [hao] at he
  simp only [] at he
  have hxv := h.opd hx
  split at he
  · rename_i b g p hp
    rw [hp] at hxv
    split at he
    · rename_i k vs hk hvs
      split at he
      · rename_i hc
        obtain ⟨h1, h2, h3, h4⟩ := hc
        cases he
        obtain ⟨r, σ, hρ, hav⟩ := h.ptr hk hxv
        obtain ⟨hg, hl, _, hok⟩ := h.blk hk
        rw [hρ] at hok
        obtain ⟨hr0, _, hnf, hlen, arr, ty, hheap, hsz, hvv⟩ := hok
        have hcv := cells_VR hvs (h.opd hy)
        have hcl := hcv.length
        have hcl2 := hvv.length
        have hone := VRs_oneCell hcv h4
        simp at hcl hcl2
        have hst := run_storeCells_at P r p ty (a.eval y).cells.toList 0 arr w hheap (by simp; omega) hone
        simp only [Nat.add_zero] at hst
        have hw2 := hvv.wr hcv p
        have hR := h.set hl h3 (blkAt_live ‹_›).2 hρ (wr k.cs p vs) (arr.toList.take p ++ (a.eval y).cells.toList ++ arr.toList.drop (p + (a.eval y).cells.toList.length)).toArray ty
          (w' := w.setRow r (arr.toList.take p ++ (a.eval y).cells.toList ++ arr.toList.drop (p + (a.eval y).cells.toList.length)).toArray)
          rfl rfl rfl (by simp [World.setRow]) (fun j hj => setRow_other _ _ _ _ hj) (setRow_heap w r arr _ ty (0, 0) hheap) (by simp; omega) (by simp [wr]; omega) (by
            have e : (wr k.cs p vs).length = k.cs.length := by simp [wr]; omega
            have e2 : ((arr.toList.take p ++ (a.eval y).cells.toList ++ arr.toList.drop (p + (a.eval y).cells.toList.length)).toArray.toList).take (wr k.cs p vs).length =
                ((arr.toList.take k.cs.length).take p ++ (a.eval y).cells.toList ++ (arr.toList.take k.cs.length).drop (p + (a.eval y).cells.toList.length)) := by
              rw [e]
              simp only [List.take_take, List.take_append, List.length_take, List.length_append, Array.length_toList]
              have : min p k.cs.length = p := by omega
              rw [Nat.min_comm k.cs.length p, this]
              have e5 : List.take (k.cs.length - min p arr.size) (a.eval y).cells.toList = (a.eval y).cells.toList := List.take_of_length_le (by simp; omega)
              rw [e5, List.drop_take]
              congr 2
              omega
            rw [e2]
            exact hw2)
        refine wp_of_skip (w' := w.setRow r (arr.toList.take p ++ (a.eval y).cells.toList ++ arr.toList.drop (p + (a.eval y).cells.toList.length)).toArray) ?_ (hK I ρ _ _ ?_)
        · simp only [execOp, ho, Instr.storeAt, hav, Instr.sureAddr, storeVar, Sem.run_bind, Sem.run_pure, Result.andThen_ok, run_sizeOf' hi]
          rw [if_neg (by omega)]
          rw [hst]
          rfl
        · rw [hd]
          exact hR.putO hN (fun y hy => by cases hy)
      · cases he
    · cases he
  · cases he

theorem ptr_moved {s : St} {b g p q : Nat} {k : Blk} {fp : List Nat} (h : R w0 I0 N I ρ s a w) (hk : blkAt s fp b g = some k) {r σ : Nat} (hρ : ρ b = some (r, σ)) : VR I w (modeOf s ρ) (.ptr b g (p + q)) (.pointer (some ⟨r, p + q, none⟩)) := by
  obtain ⟨hg, _, hA, _⟩ := h.blk hk
  simp only [VR, modeOf]
  refine ⟨⟨_, rfl⟩, by omega, fun L hL => ?_⟩
  rw [hA] at hL
  cases hL
  exact ⟨r, σ, hρ, rfl⟩

theorem sim_fad (hd : o.dst = ao.d) (hN : ∀ n, ao.d = some n → n < N) (t : TypeId) (x : Operand) (f : Nat) (x' : AOpd) (off : Nat) (ho : o.op = .fieldAddr t x f) (hao : ao.op = .fad x' off) (hx : mOpd x x' = true)
    (fs : Array Field) (hu : P.underlying t = some (.struct fs)) (fd : Field) (hf : fs[f]? = some fd) (hoff : fd.offset = off) (i : TypeInfo) (hi : P.info? fd.type = some i) (h0 : 0 < i.size) : Sim P N o C ao := by
  intro w0 I0 I ρ s a w e K Q h he hK
  unfold eff at he
  rw [hao] at he
  simp only [] at he
  have hxv := h.opd hx
  have hne : ¬ i.size = 0 := by omega
  split at he
  · rename_i b g p hp
    rw [hp] at hxv
    split at he
    · rename_i k hk
      have := val_ok he; subst this
      obtain ⟨r, σ, hρ, hav⟩ := h.ptr hk hxv
      refine close_val h hd hN hK (v := .pointer (some ⟨r, p + off, none⟩)) ?_ (ptr_moved h hk hρ)
      simp [execOp, ho, Instr.fieldAt, run_underlying hu, hf, hav, Instr.sureAddr, fieldPlace, run_sizeOf' hi, hne, hoff, Addr_add]
    · cases he
  · rename_i p cs hp
    rw [hp] at hxv
    have := val_ok he; subst this
    simp only [VR] at hxv
    obtain ⟨b, o', us, hav, hI, hrow, hvs⟩ := hxv
    refine close_val h hd hN hK (v := .pointer (some ⟨b, o' + (p + off), none⟩)) ?_ ?_
    · simp [execOp, ho, Instr.fieldAt, run_underlying hu, hf, hav, Instr.sureAddr, fieldPlace, run_sizeOf' hi, hne, hoff, Addr_add, Nat.add_assoc]
    · simp only [VR]
      exact ⟨b, o', us, rfl, hI, hrow, hvs⟩
  · cases he

theorem offOf_spec {n : Int} {len sz q : Nat} (h : offOf n len sz = some q) : 0 ≤ n ∧ n < len ∧ q = n.toNat * sz := by
  unfold offOf at h
  split at h
  · rename_i hc; cases h; exact ⟨hc.1, hc.2, rfl⟩
  · cases h

theorem sim_iad (hd : o.dst = ao.d) (hN : ∀ n, ao.d = some n → n < N) (t : TypeId) (x y : Operand) (x' y' : AOpd) (sz len : Nat) (ho : o.op = .indexAddr t x y) (hao : ao.op = .iad x' y' sz len) (hx : mOpd x x' = true) (hy : mOpd y y' = true)
    (e : TypeId) (hu : P.underlying t = some (.array len e)) (i : TypeInfo) (hi : P.info? e = some i) (hsz : i.size = sz) : Sim P N o C ao := by
  intro w0 I0 I ρ s a w ee K Q h he hK
  unfold eff at he
  rw [hao] at he
  simp only [] at he
  have hxv := h.opd hx
  have hyv := h.opd hy
  split at he
  · rename_i kk n hn
    rw [hn] at hyv
    have hav2 := VR_int hyv
    split at he
    · rename_i q hq
      obtain ⟨h1, h2, rfl⟩ := offOf_spec hq
      split at he
      · rename_i b g p hp
        rw [hp] at hxv
        split at he
        · rename_i k hk
          have := val_ok he; subst this
          obtain ⟨r, σ, hρ, hav⟩ := h.ptr hk hxv
          refine close_val h hd hN hK (v := .pointer (some ⟨r, p + n.toNat * sz, none⟩)) ?_ (ptr_moved h hk hρ)
          simp [execOp, ho, Instr.indexAt, run_underlying hu, hav, hav2, Instr.sureAddr, asIntOf, h1, h2, run_sizeOf' hi, hsz, Addr_add]
        · cases he
      · rename_i p cs hp
        rw [hp] at hxv
        have := val_ok he; subst this
        simp only [VR] at hxv
        obtain ⟨b, o', us, hav, hI, hrow, hvs⟩ := hxv
        refine close_val h hd hN hK (v := .pointer (some ⟨b, o' + (p + n.toNat * sz), none⟩)) ?_ ?_
        · simp [execOp, ho, Instr.indexAt, run_underlying hu, hav, hav2, Instr.sureAddr, asIntOf, h1, h2, run_sizeOf' hi, hsz, Addr_add, Nat.add_assoc]
        · simp only [VR]
          exact ⟨b, o', us, rfl, hI, hrow, hvs⟩
      · cases he
    · cases he
  · cases he

theorem sim_ias (hd : o.dst = ao.d) (hN : ∀ n, ao.d = some n → n < N) (t : TypeId) (x y : Operand) (x' y' : AOpd) (sz : Nat) (ho : o.op = .indexAddr t x y) (hao : ao.op = .ias x' y' sz) (hx : mOpd x x' = true) (hy : mOpd y y' = true)
    (e : TypeId) (hu : P.underlying t = some (.slice e)) (i : TypeInfo) (hi : P.info? e = some i) (hsz : i.size = sz) : Sim P N o C ao := by
  intro w0 I0 I ρ s a w ee K Q h he hK
  unfold eff at he
  rw [hao] at he
  simp only [] at he
  have hxv := h.opd hx
  have hyv := h.opd hy
  split at he
  · rename_i kk n hn
    rw [hn] at hyv
    have hav2 := VR_int hyv
    split at he
    · rename_i b g p len hp
      rw [hp] at hxv
      split at he
      · rename_i k q hk hq
        obtain ⟨h1, h2, rfl⟩ := offOf_spec hq
        have := val_ok he; subst this
        obtain ⟨hg, hl, hA, _⟩ := h.blk hk
        simp only [VR, modeOf] at hxv
        have hx2 := hxv.2.2 _ hA
        simp only [] at hx2
        cases hρ : ρ b with
        | none =>
          rw [hρ] at hx2
          obtain ⟨_, h3, _⟩ := hx2
          omega
        | some rs =>
          obtain ⟨r, σ⟩ := rs
          rw [hρ] at hx2
          obtain ⟨ad, cap, hav, _, _, h3⟩ := hx2
          rcases h3 with ⟨h3, _⟩ | ⟨rfl, _⟩
          · omega
          · refine close_val h hd hN hK (v := .pointer (some ⟨r, p + n.toNat * sz, none⟩)) ?_ (ptr_moved h hk hρ)
            simp [execOp, ho, Instr.indexAt, run_underlying hu, hav, hav2, asIntOf, h1, h2, run_sizeOf' hi, hsz, Addr_add]
      · cases he
    · rename_i len cs hp
      rw [hp] at hxv
      split at he
      · rename_i q hq
        obtain ⟨h1, h2, rfl⟩ := offOf_spec hq
        have := val_ok he; subst this
        simp only [VR] at hxv
        rcases hxv with ⟨h3, _⟩ | ⟨b, off, cap, us, hav, _, _, hI, hrow, hvs⟩
        · omega
        · refine close_val h hd hN hK (v := .pointer (some ⟨b, off + n.toNat * sz, none⟩)) ?_ ?_
          · simp [execOp, ho, Instr.indexAt, run_underlying hu, hav, hav2, asIntOf, h1, h2, run_sizeOf' hi, hsz, Addr_add]
          · simp only [VR]
            exact ⟨b, off, us, rfl, hI, hrow, hvs⟩
      · cases he
    · cases he
  · cases he

/-- a part of a row of cells -/
theorem run_part {t : TypeId} {n : Nat} {agg : Bool} (ht : tIs P t n agg = true) {xs : List AV} {us : List Value} {off : Nat} {x : AV} (hx : rd xs off n agg = some x) (hv : VRs I w M xs us) :
    ∃ v, (∀ w, (part t us.toArray off).run P w = .ok v w) ∧ VR I w M x v := by
  obtain ⟨⟨i, hi, hn⟩, ha, h1⟩ := tIs_spec ht
  obtain ⟨hl, hA, hB⟩ := rd_VR hx hv h1
  have hlen := hv.length
  have hle : off + n ≤ xs.length := by
    unfold rd at hx
    split at hx
    · assumption
    · cases hx
  cases agg with
  | true =>
    refine ⟨.agg ((us.drop off).take n).toArray, fun w => ?_, hA rfl⟩
    simp only [part, Sem.run_bind, ha, Result.andThen_ok, if_true, run_sizeOf' hi, Sem.run_pure, hn]
    congr 2
    apply Array.ext'
    simp [Array.toList_extract, List.extract_eq_take_drop]
  | false =>
    have h2 := h1 rfl
    subst h2
    have hlt : off < us.length := by omega
    have hd : (us.drop off).take 1 = [us[off]] := by
      rw [List.drop_eq_getElem_cons hlt]
      rfl
    refine ⟨us[off], fun w => ?_, hB rfl _ hd⟩
    simp [part, ha, hlt]

theorem sim_fld (hd : o.dst = ao.d) (hN : ∀ n, ao.d = some n → n < N) (t : TypeId) (x : Operand) (f : Nat) (x' : AOpd) (off n : Nat) (agg : Bool) (ho : o.op = .field t x f) (hao : ao.op = .fld x' off n agg) (hx : mOpd x x' = true)
    (fs : Array Field) (hu : P.underlying t = some (.struct fs)) (fd : Field) (hf : fs[f]? = some fd) (hoff : fd.offset = off) (ht : tIs P fd.type n agg = true) : Sim P N o C ao := by
  intro w0 I0 I ρ s a w e K Q h he hK
  unfold eff at he
  rw [hao] at he
  simp only [] at he
  have hxv := h.opd hx
  split at he
  · rename_i cs hp
    rw [hp] at hxv
    obtain ⟨y, hy, rfl⟩ := valO_ok he
    obtain ⟨us, hav, hvs⟩ := VR_agg hxv
    obtain ⟨v, hrun, hv⟩ := run_part (P := P) ht hy hvs
    refine close_val h hd hN hK (v := v) ?_ hv
    simp [execOp, ho, Instr.field, run_underlying hu, hf, hav, asAgg, hoff, hrun]
  · cases he

theorem sim_idx (hd : o.dst = ao.d) (hN : ∀ n, ao.d = some n → n < N) (t : TypeId) (x y : Operand) (x' y' : AOpd) (sz len : Nat) (agg : Bool) (ho : o.op = .index t x y) (hao : ao.op = .idx x' y' sz len agg) (hx : mOpd x x' = true) (hy : mOpd y y' = true)
    (e : TypeId) (hu : P.underlying t = some (.array len e)) (ht : tIs P e sz agg = true) : Sim P N o C ao := by
  intro w0 I0 I ρ s a w ee K Q h he hK
  unfold eff at he
  rw [hao] at he
  simp only [] at he
  have hxv := h.opd hx
  have hyv := h.opd hy
  split at he
  · rename_i cs kk n hp hn
    rw [hp] at hxv
    rw [hn] at hyv
    have hav2 := VR_int hyv
    split at he
    · rename_i q hq
      obtain ⟨h1, h2, rfl⟩ := offOf_spec hq
      obtain ⟨z, hz, rfl⟩ := valO_ok he
      obtain ⟨us, hav, hvs⟩ := VR_agg hxv
      obtain ⟨v, hrun, hv⟩ := run_part (P := P) ht hz hvs
      obtain ⟨⟨i, hi, hn'⟩, _, _⟩ := tIs_spec ht
      refine close_val h hd hN hK (v := v) ?_ hv
      simp [execOp, ho, Instr.index, run_underlying hu, hav, hav2, asIntOf, h1, h2, run_sizeOf' hi, hn', hrun]
    · cases he
  · cases he

theorem VR_cell_int {v : AV} {u : Value} (h : VR I w M v u) (hv : ∃ k n, v = .int k n) : ∃ k n, v = .int k n ∧ u = .int k n := by
  obtain ⟨k, n, rfl⟩ := hv
  exact ⟨k, n, rfl, VR_int h⟩

theorem run_ibin {op : BinOp} {k : IntKind} {a b : Int} {x : AV} {t : TypeId} (hs : op ≠ .shl) (hs2 : op ≠ .shr) (hx : ibin op k a b = some x) :
    ∃ v, (∀ w, (binOp op t (.int k a) (.int k b)).run P w = .ok v w) ∧ VR I w M x v := by
  cases op <;> simp only [ibin, Option.some.injEq, reduceCtorEq] at hx
  case quo =>
    split at hx
    · cases hx
    · rename_i hb
      cases hx
      exact ⟨.int k (k.wrap (a.tdiv b)), fun w => by simp [binOp, Op.intDiv, hb], by simp [VR]⟩
  case rem =>
    split at hx
    · cases hx
    · rename_i hb
      cases hx
      exact ⟨.int k (a.tmod b), fun w => by simp [binOp, Op.intDiv, hb], by simp [VR]⟩
  case eql => subst hx; exact ⟨.bool (a == b), fun w => by simp [binOp, Op.intCmp], by simp only [VR]; congr 1⟩
  case neq => subst hx; exact ⟨.bool (a != b), fun w => by simp [binOp, Op.intCmp], by simp only [VR]; congr 1; rw [Bool.eq_iff_iff]; simp⟩
  case lss => subst hx; exact ⟨.bool (decide (a < b)), fun w => by simp [binOp, Op.intCmp], by simp [VR]⟩
  case leq => subst hx; exact ⟨.bool (decide (a ≤ b)), fun w => by simp [binOp, Op.intCmp], by simp [VR]⟩
  case gtr => subst hx; exact ⟨.bool (decide (a > b)), fun w => by simp [binOp, Op.intCmp], by simp [VR]⟩
  case geq => subst hx; exact ⟨.bool (decide (a ≥ b)), fun w => by simp [binOp, Op.intCmp], by simp [VR]⟩
  case add => subst hx; exact ⟨.int k (k.wrap (a + b)), fun w => by simp [binOp, Op.intArith], by simp [VR]⟩
  case sub => subst hx; exact ⟨.int k (k.wrap (a - b)), fun w => by simp [binOp, Op.intArith], by simp [VR]⟩
  case mul => subst hx; exact ⟨.int k (k.wrap (a * b)), fun w => by simp [binOp, Op.intArith], by simp [VR]⟩
  case and => subst hx; exact ⟨_, fun w => by simp only [binOp, Op.intBits, if_neg (show ¬ (k ≠ k) from fun h => h rfl)]; rfl, by simp only [VR]⟩
  case or => subst hx; exact ⟨_, fun w => by simp only [binOp, Op.intBits, if_neg (show ¬ (k ≠ k) from fun h => h rfl)]; rfl, by simp only [VR]⟩
  case xor => subst hx; exact ⟨_, fun w => by simp only [binOp, Op.intBits, if_neg (show ¬ (k ≠ k) from fun h => h rfl)]; rfl, by simp only [VR]⟩
  case andNot => subst hx; exact ⟨_, fun w => by simp only [binOp, Op.intBits, if_neg (show ¬ (k ≠ k) from fun h => h rfl)]; rfl, by simp only [VR]⟩

theorem run_shift {op : BinOp} {k k' : IntKind} {a b : Int} {x : AV} {t : TypeId} (hx : shift op k a b = some x) :
    ∃ v, (∀ w, (binOp op t (.int k a) (.int k' b)).run P w = .ok v w) ∧ VR I w M x v := by
  unfold shift at hx
  split at hx
  · cases hx
  · rename_i hb
    cases op <;> simp only [Option.some.injEq, reduceCtorEq] at hx
    case shl => subst hx; exact ⟨.int k (k.wrap (a * 2 ^ (min b.toNat k.bits))), fun w => by simp [binOp, Op.shift, hb], by simp [VR]⟩
    case shr => subst hx; exact ⟨.int k (a.fdiv (2 ^ (min b.toNat k.bits))), fun w => by simp [binOp, Op.shift, hb], by simp [VR]⟩

theorem eqGuard_flat {op : BinOp} {t : TypeId} {x y : Operand} {u v : Value} (h : match u with | .nilIface | .agg _ => False | _ => True) (w : World) : (eqGuard op t x y u v).run P w = .ok () w := by
  unfold eqGuard
  cases u <;> first | exact h.elim | (cases op <;> rfl)

theorem run_equal_bool {t : TypeId} (ht : P.underlying t = some .bool) (b b' : Bool) (w : World) : (Op.equal t (.bool b) (.bool b')).run P w = .ok (b == b') w := by
  have key : ∀ d, (Op.equalIn (d + 1) t (.bool b) (.bool b')).run P w = .ok (b == b') w := by
    intro d
    rw [Op.equalIn]
    simp only [Sem.run_bind, run_underlying ht, Result.andThen_ok]
    rfl
  exact key 9999

theorem sim_bin (hd : o.dst = ao.d) (hN : ∀ n, ao.d = some n → n < N) (op : BinOp) (t t' : TypeId) (x y : Operand) (x' y' : AOpd) (ho : o.op = .binOp op t x y t') (hao : ao.op = .bin op x' y') (hx : mOpd x x' = true) (hy : mOpd y y' = true) : Sim P N o C ao := by
  intro w0 I0 I ρ s a w e K Q h he hK
  unfold eff at he
  rw [hao] at he
  simp only [] at he
  obtain ⟨z, hz, rfl⟩ := valO_ok he
  have hxv := h.opd hx
  have hyv := h.opd hy
  revert hz hxv hyv
  generalize opv s x' = u
  generalize opv s y' = u'
  intro hz hxv hyv
  have key : ∃ v, (∀ w, (binOp op t (a.eval x) (a.eval y)).run P w = .ok v w) ∧ (∀ w, (eqGuard op t x y (a.eval x) (a.eval y)).run P w = .ok () w) ∧ VR I w (modeOf s ρ) z v := by
    unfold bin2 at hz
    split at hz
    · rename_i k n k' n'
      have e1 := VR_int hxv
      have e2 := VR_int hyv
      rw [e1, e2]
      have hg : ∀ w, (eqGuard op t x y (.int k n) (.int k' n')).run P w = .ok () w := fun w => eqGuard_flat (by trivial) w
      split at hz
      · obtain ⟨v, h1, h2⟩ := run_shift (P := P) (t := t) hz
        exact ⟨v, h1, hg, h2⟩
      · obtain ⟨v, h1, h2⟩ := run_shift (P := P) (t := t) hz
        exact ⟨v, h1, hg, h2⟩
      · rename_i hn1 hn2
        split at hz
        · rename_i hk
          subst hk
          obtain ⟨v, h1, h2⟩ := run_ibin (P := P) (t := t) hn1 hn2 hz
          exact ⟨v, h1, hg, h2⟩
        · cases hz
    · cases hz
  obtain ⟨v, h1, h2, h3⟩ := key
  refine close_val h hd hN hK (v := v) ?_ h3
  simp [execOp, ho, h1, h2]

theorem sim_eqb (hd : o.dst = ao.d) (hN : ∀ n, ao.d = some n → n < N) (neg : Bool) (t t' : TypeId) (x y : Operand) (x' y' : AOpd) (ho : o.op = .binOp (if neg then .neq else .eql) t x y t') (hao : ao.op = .eqb neg x' y') (hx : mOpd x x' = true) (hy : mOpd y y' = true)
    (ht : P.underlying t = some .bool) : Sim P N o C ao := by
  intro w0 I0 I ρ s a w e K Q h he hK
  unfold eff at he
  rw [hao] at he
  simp only [] at he
  have hxv := h.opd hx
  have hyv := h.opd hy
  split at he
  · rename_i b b' hb hb'
    rw [hb] at hxv
    rw [hb'] at hyv
    have := val_ok he; subst this
    have e1 := VR_bool hxv
    have e2 := VR_bool hyv
    have hg : ∀ op w, (eqGuard op t x y (.bool b) (.bool b')).run P w = .ok () w := fun op w => eqGuard_flat (by trivial) w
    refine close_val h hd hN hK (v := .bool (if neg then b != b' else b == b')) ?_ (by simp [VR])
    cases neg
    · simp [execOp, ho, e1, e2, hg, binOp, run_equal_bool ht]
    · simp [execOp, ho, e1, e2, hg, binOp, run_equal_bool ht, bne]
  · cases he

theorem sim_un (hd : o.dst = ao.d) (hN : ∀ n, ao.d = some n → n < N) (op : UnOp) (t : TypeId) (x : Operand) (x' : AOpd) (ho : o.op = .unOp op t x) (hao : ao.op = .un op x') (hx : mOpd x x' = true) : Sim P N o C ao := by
  intro w0 I0 I ρ s a w e K Q h he hK
  unfold eff at he
  rw [hao] at he
  simp only [] at he
  obtain ⟨z, hz, rfl⟩ := valO_ok he
  have hxv := h.opd hx
  revert hz hxv
  generalize opv s x' = u
  intro hz hxv
  unfold un1 at hz
  split at hz
  · rename_i k n
    have e1 := VR_int hxv
    split at hz
    · cases hz
      refine close_val h hd hN hK (v := .int k (k.wrap (0 - n))) ?_ (by simp [VR])
      simp [execOp, ho, e1, Op.unary, Op.intArith]
    · cases hz
  · rename_i b
    have e1 := VR_bool hxv
    split at hz
    · cases hz
      refine close_val h hd hN hK (v := .bool (!b)) ?_ (by simp [VR])
      simp [execOp, ho, e1, Op.unary]
    · cases hz
  · cases hz

theorem sim_conv (hd : o.dst = ao.d) (hN : ∀ n, ao.d = some n → n < N) (t t' : TypeId) (x : Operand) (k : IntKind) (x' : AOpd) (ho : o.op = .convert t t' x) (hao : ao.op = .conv k x') (hx : mOpd x x' = true) (ht : P.underlying t' = some (.int k)) (ht0 : ∃ k0, P.underlying t = some (.int k0)) : Sim P N o C ao := by
  intro w0 I0 I ρ s a w e K Q h he hK
  unfold eff at he
  rw [hao] at he
  simp only [] at he
  have hxv := h.opd hx
  obtain ⟨k0, ht0⟩ := ht0
  split at he
  · rename_i kk n hn
    rw [hn] at hxv
    have := val_ok he; subst this
    have e1 := VR_int hxv
    refine close_val h hd hN hK (v := .int k (k.wrap n)) ?_ (by simp [VR])
    simp [execOp, ho, e1, convert, run_underlying ht, run_underlying ht0, Conv.intToInt]
  · cases he

theorem sim_ext (hd : o.dst = ao.d) (hN : ∀ n, ao.d = some n → n < N) (x : Operand) (i : Nat) (x' : AOpd) (ho : o.op = .extract x i) (hao : ao.op = .ext x' i) (hx : mOpd x x' = true) : Sim P N o C ao := by
  intro w0 I0 I ρ s a w e K Q h he hK
  unfold eff at he
  rw [hao] at he
  simp only [] at he
  have hxv := h.opd hx
  split at he
  · rename_i vs hn
    rw [hn] at hxv
    obtain ⟨z, hz, rfl⟩ := valO_ok he
    obtain ⟨us, hav, hvs⟩ := VR_tup hxv
    obtain ⟨v, hv, hr⟩ := hvs.get i z hz
    refine close_val h hd hN hK (v := v) ?_ hr
    simp [execOp, ho, hav, Instr.extract, hv]
  · cases he

theorem own_len {b g p n : Nat} {k : Blk} {fp : List Nat} {v : Value} (h : R w0 I0 N I ρ s a w) (hk : blkAt s fp b g = some k) (hv : VR I w (modeOf s ρ) (.own b g p n) v) : (∃ ad cap, v = .slice ad n cap ∧ n ≤ cap) ∧ n ≤ maxN := by
  obtain ⟨hg, hl, hA, _⟩ := h.blk hk
  simp only [VR, modeOf] at hv
  have hx2 := hv.2.2 _ hA
  simp only [] at hx2
  cases hρ : ρ b with
  | none =>
    rw [hρ] at hx2
    obtain ⟨h1, h2, _⟩ := hx2
    subst h2
    exact ⟨⟨none, 0, h1, Nat.le_refl _⟩, by simp⟩
  | some rs =>
    obtain ⟨r, σ⟩ := rs
    rw [hρ] at hx2
    obtain ⟨ad, cap, h1, h2, h3, _⟩ := hx2
    exact ⟨⟨ad, cap, h1, h2⟩, by unfold maxN; unfold maxLen at h3; omega⟩

theorem lst_len {n : Nat} {xs : List AV} {v : Value} (hv : VR I w M (.lst n xs) v) : (∃ ad cap, v = .slice ad n cap) ∧ n ≤ maxN := by
  simp only [VR] at hv
  rcases hv with ⟨rfl, _, ad, c, rfl⟩ | ⟨b, off, cap, cs, rfl, h1, h2, _⟩
  · exact ⟨⟨ad, c, rfl⟩, by simp⟩
  · exact ⟨⟨_, cap, rfl⟩, by unfold maxN; unfold maxLen at h2; omega⟩

theorem sim_len (hd : o.dst = ao.d) (hN : ∀ n, ao.d = some n → n < N) (t : TypeId) (x : Operand) (x' : AOpd) (ho : o.op = .call { callee := .builtin .len, args := #[x], argTypes := #[t] }) (hao : ao.op = .len x') (hx : mOpd x x' = true) (e0 : TypeId) (ht : P.underlying t = some (.slice e0)) : Sim P N o C ao := by
  intro w0 I0 I ρ s a w e K Q h he hK
  unfold eff at he
  rw [hao] at he
  simp only [] at he
  have hxv := h.opd hx
  have run : ∀ ad n cap, a.eval x = .slice ad n cap → (execOp a.eval o).run P w = .ok (.value (.int .i64 n)) w := fun ad n cap hv => by
    simp [execOp, ho, resolve, invoke, builtin, Builtin.len_, run_underlying ht, hv, goInt]
  split at he
  · rename_i b g p n hp
    rw [hp] at hxv
    split at he
    · rename_i k hk
      split at he
      · have := val_ok he; subst this
        obtain ⟨⟨ad, cap, h1, _⟩, _⟩ := own_len h hk hxv
        exact close_val h hd hN hK (run ad n cap h1) (by simp [VR])
      · cases he
    · cases he
  · rename_i n xs hp
    rw [hp] at hxv
    split at he
    · have := val_ok he; subst this
      obtain ⟨⟨ad, cap, h1⟩, _⟩ := lst_len hxv
      exact close_val h hd hN hK (run ad n cap h1) (by simp [VR])
    · cases he
  · rename_i hp
    rw [hp] at hxv
    have := val_ok he; subst this
    simp only [VR] at hxv
    exact close_val h hd hN hK (run none 0 0 hxv) (by simp [VR])
  · cases he

/-- no operation ends a way in silence -/
theorem len_novac (x : Operand) (x' : AOpd) (hao : ao.op = .len x') (hx : mOpd x x' = true) {w0 : Base} {I0 I : Nat → Prop} {ρ : Nat → Place} {s : St} {a : Act} {w : World} (h : R w0 I0 N I ρ s a w) : eff C s ao ≠ .vac := by
  intro he
  unfold eff at he
  rw [hao] at he
  simp only [] at he
  have hxv := h.opd hx
  split at he
  · rename_i b g p n hp
    rw [hp] at hxv
    split at he
    · rename_i k hk
      split at he
      · cases he
      · rename_i hn
        exact hn (own_len h hk hxv).2
    · cases he
  · rename_i n xs hp
    rw [hp] at hxv
    split at he
    · cases he
    · rename_i hn
      exact hn (lst_len hxv).2
  · cases he
  · cases he

theorem sim_mnmx (hd : o.dst = ao.d) (hN : ∀ n, ao.d = some n → n < N) (mx : Bool) (ts : Array TypeId) (x y : Operand) (x' y' : AOpd) (ho : o.op = .call { callee := .builtin (if mx then .max else .min), args := #[x, y], argTypes := ts }) (hao : ao.op = .mnmx mx x' y') (hx : mOpd x x' = true) (hy : mOpd y y' = true) : Sim P N o C ao := by
  intro w0 I0 I ρ s a w e K Q h he hK
  unfold eff at he
  rw [hao] at he
  simp only [] at he
  have hxv := h.opd hx
  have hyv := h.opd hy
  split at he
  · rename_i k n k' n' hn hn'
    rw [hn] at hxv
    rw [hn'] at hyv
    split at he
    · rename_i hk
      subst hk
      have := val_ok he; subst this
      have e1 := VR_int hxv
      have e2 := VR_int hyv
      refine close_val h hd hN hK (v := .int k (if mx then (if n' > n then n' else n) else (if n' < n then n' else n))) ?_ (by simp [VR])
      cases mx
      · simp [execOp, ho, resolve, invoke, builtin, Builtin.min_, Builtin.min2, e1, e2]
      · simp [execOp, ho, resolve, invoke, builtin, Builtin.max_, Builtin.max2, e1, e2]
    · cases he
  · cases he

theorem sim_chk (hd : o.dst = ao.d) (hN : ∀ n, ao.d = some n → n < N) (x : Operand) (x' : AOpd) (ho : o.op = .nilCheck x) (hao : ao.op = .chk x') (hx : mOpd x x' = true) : Sim P N o C ao := by
  intro w0 I0 I ρ s a w e K Q h he hK
  unfold eff at he
  rw [hao] at he
  simp only [] at he
  have hxv := h.opd hx
  split at he
  · rename_i b g p hp
    have hxv' := hxv
    rw [hp] at hxv
    split at he
    · rename_i k hk
      have := val_ok he; subst this
      obtain ⟨r, σ, hρ, hav⟩ := h.ptr hk hxv
      refine close_val h hd hN hK (v := a.eval x) ?_ hxv
      simp [execOp, ho, hav]
    · cases he
  · rename_i p cs hp
    rw [hp] at hxv
    have := val_ok he; subst this
    have hxv' := hxv
    simp only [VR] at hxv
    obtain ⟨b, off, us, hav, _⟩ := hxv
    refine close_val h hd hN hK (v := a.eval x) ?_ hxv'
    simp [execOp, ho, hav]
  · cases he

end ops
end
end Go.Am
