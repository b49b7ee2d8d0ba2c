/- AM: what the relation becomes behind each kind of change. -/
import Derived.Test.YtbjnmbbhlaghaaaAmRel
namespace Go.Am
set_option linter.unusedSimpArgs false
set_option linter.unusedVariables false
open Go.RowKit

section
variable {w0 : Base} {I0 : Nat → Prop} {N : Nat} {I : Nat → Prop} {ρ : Nat → Place} {s : St} {a : Act} {w : World}

theorem cell_of_heap {w w' : World} {b : Nat} (h : w'.heap[b]? = w.heap[b]?) (off : Nat) : w'.cell? ⟨b, off, none⟩ = w.cell? ⟨b, off, none⟩ := by
  simp [World.cell?, h]

/-- the slots alone -/
theorem R.slots (h : R w0 I0 N I ρ s a w) {t' : Env} {tm' : Array Value} (hs : tm'.size = N) (ht : ∀ t, VR I w (modeOf s ρ) (look t' t) (tm'.getD t undef)) :
    R w0 I0 N I ρ ⟨t', s.h, s.g⟩ { a with tmps := tm' } w :=
  { defers := h.defers, size := hs, below := h.below, imm := h.imm, old := h.old, new := h.new, kept := h.kept, tm := ht, hp := h.hp, inj := h.inj }

theorem getD_set (tm : Array Value) (d t : Nat) (v : Value) (hd : d < tm.size) : (tm.setIfInBounds d v).getD t undef = if d = t then v else tm.getD t undef := by
  simp only [Array.getD_eq_getD_getElem?, Array.getElem?_setIfInBounds]
  split
  · simp
  · rfl

theorem R.put (h : R w0 I0 N I ρ s a w) {d : Nat} {x : AV} {v : Value} (hd : d < N) (hv : VR I w (modeOf s ρ) x v) :
    R w0 I0 N I ρ ⟨Am.put s.t d x, s.h, s.g⟩ (a.put (some d) v) w := by
  refine h.slots (by simp [h.size]) fun t => ?_
  rw [look_put, getD_set _ _ _ _ (by rw [h.size]; exact hd)]
  split
  · exact hv
  · exact h.tm t

theorem R.putO (h : R w0 I0 N I ρ s a w) {d : Option Nat} {x : Option AV} {v : Value} (hd : ∀ n, d = some n → n < N) (hv : ∀ y, x = some y → VR I w (modeOf s ρ) y v) :
    R w0 I0 N I ρ ⟨Am.putO d x s.t, s.h, s.g⟩ (a.put d v) w := by
  cases d with
  | none => exact h
  | some d =>
    cases x with
    | none => exact h.put (hd d rfl) (by simp [VR])
    | some x => exact h.put (hd d rfl) (hv x rfl)

/-- the general change of the heap: what is untouched stays -/
theorem BlkC.mono {I' : Nat → Prop} {w' : World} {M M' : Option Mode} {p : Place} {k : Blk} (hI : ∀ b, I b → I' b) (hN : ∀ r σ, p = some (r, σ) → k.frz = false → ¬ I r → ¬ I' r)
    (hw : ∀ b, I b → ∀ off, w'.cell? ⟨b, off, none⟩ = w.cell? ⟨b, off, none⟩) (hb : ∀ r σ, p = some (r, σ) → w'.heap[r]? = w.heap[r]?) (hM : Mode.le M M') (h : BlkC w0 I w M p k) : BlkC w0 I' w' M' p k := by
  revert h
  unfold BlkC
  cases p with
  | none => exact id
  | some p =>
    obtain ⟨r, σ⟩ := p
    rintro ⟨h1, h2, h3, h4, arr, ty, h5, h6, h7⟩
    exact ⟨h1, fun e => hI _ (h2 e), fun e => hN r σ rfl e (h3 e), h4, arr, ty, by rw [hb r σ rfl]; exact h5, h6, VRs.mono hI hw _ _ hM h7⟩

theorem BlkOk.mono {I' : Nat → Prop} {w' : World} {M M' : Option Mode} {p : Place} {k : Blk} (hI : ∀ b, I b → I' b) (hN : ∀ r σ, p = some (r, σ) → k.frz = false → ¬ I r → ¬ I' r)
    (hw : ∀ b, I b → ∀ off, w'.cell? ⟨b, off, none⟩ = w.cell? ⟨b, off, none⟩) (hb : ∀ r σ, p = some (r, σ) → w'.heap[r]? = w.heap[r]?) (hM : Mode.le M M') (h : BlkOk w0 I w M p k) : BlkOk w0 I' w' M' p k := by
  unfold BlkOk at h ⊢
  split at h
  · rename_i he
    rw [if_pos he]
    revert h
    unfold BlkM
    cases p with
    | none => exact id
    | some p =>
      obtain ⟨r, σ⟩ := p
      rintro ⟨h1, h2, h3, es, h5, h6⟩
      exact ⟨h1, fun e => hI _ (h2 e), fun e => hN r σ rfl e (h3 e), es, by rw [hb r σ rfl]; exact h5, h6⟩
  · rename_i he
    rw [if_neg he]
    exact h.mono hI hN hw hb hM

theorem BlkOk.lt {M : Option Mode} {k : Blk} {r σ : Nat} (h : BlkOk w0 I w M (some (r, σ)) k) : r < w.heap.size := by
  unfold BlkOk at h
  split at h
  · obtain ⟨_, _, _, es, h5, _⟩ := h
    exact (Array.getElem?_eq_some_iff.1 h5).1
  · obtain ⟨_, _, _, _, arr, ty, h5, _⟩ := h
    exact (Array.getElem?_eq_some_iff.1 h5).1

/-- the world alone, heap as it was -/
theorem R.world (h : R w0 I0 N I ρ s a w) {w' : World} (hh : w'.heap = w.heap) (ho : w'.os = w.os) (ht : w'.tape = w.tape) (hu : w'.output = w.output) : R w0 I0 N I ρ s a w' := by
  have hc : ∀ b, I b → ∀ off, w'.cell? ⟨b, off, none⟩ = w.cell? ⟨b, off, none⟩ := fun b _ off => by simp [World.cell?, hh]
  refine { defers := h.defers, size := h.size, below := h.below.trans ho ht hu (by rw [hh]; exact Nat.le_refl _) (fun k hk => by rw [hh]), imm := by rw [hh]; exact h.imm, old := h.old, new := h.new, kept := h.kept, tm := fun t => VR.mono (fun _ h => h) hc _ _ (Mode.le_refl _) (h.tm t), hp := fun b k hk => ?_, inj := h.inj }
  exact BlkOk.mono (fun _ h => h) (fun _ _ _ _ h => h) hc (fun r σ _ => by rw [hh]) (Mode.le_refl _) (h.hp b k hk)

theorem kept_bump (h : R w0 I0 N I ρ s a w) (d : Nat) (p : Place) : ∀ b, w0.ids b → bump d s.g b = 0 → (if b = d then p else ρ b) = w0.pl b := by
  intro b hb hg
  unfold bump at hg
  split at hg
  · omega
  · rename_i hne
    rw [if_neg hne]
    exact h.kept b hb hg

/-- a new block (or one anew under an old number) -/
theorem R.alloc0 (h : R w0 I0 N I ρ s a w) (d r esz σ : Nat) (cs : List AV) {w' : World} (hb : Below w.heap.size w w') (hr : w.heap.size ≤ r)
    (hok : ∀ M' : Option Mode, Mode.le (modeOf s ρ) M' → (∀ b, I b → ∀ off, w'.cell? ⟨b, off, none⟩ = w.cell? ⟨b, off, none⟩) → w0.mine r → ¬ I r → BlkOk w0 I w' M' (some (r, σ)) ⟨cs, false, esz⟩) :
    R w0 I0 N I (fun b => if b = d then some (r, σ) else ρ b) ⟨s.t, hput s.h d ⟨cs, false, esz⟩, bump d s.g⟩ a w' := by
  have hcell : ∀ b, I b → ∀ off, w'.cell? ⟨b, off, none⟩ = w.cell? ⟨b, off, none⟩ := fun b hi off => cell_of_heap (hb.block b (h.imm b hi)) off
  have hM : Mode.le (modeOf s ρ) (modeOf ⟨s.t, hput s.h d ⟨cs, false, esz⟩, bump d s.g⟩ (fun b => if b = d then some (r, σ) else ρ b)) := by
    refine ⟨fun b => ?_, fun b g L hg hA => ?_⟩
    · show s.g b ≤ bump d s.g b
      unfold bump; split <;> omega
    · simp only [aliveA, bump, hlook_hput] at hA ⊢
      by_cases hbd : b = d
      · subst hbd
        rw [if_pos rfl] at hA
        rw [if_neg (by simp only [] at hg; omega)] at hA
        cases hA
      · simp only [if_neg hbd, if_neg (Ne.symm hbd)] at hA
        exact hA
  refine { defers := h.defers, size := h.size, below := h.below.below hb, imm := fun b hi => Nat.lt_of_lt_of_le (h.imm b hi) hb.size, old := h.old, new := h.new, kept := kept_bump h d _, tm := fun t => VR.mono (fun _ h => h) hcell _ _ hM (h.tm t), hp := fun b k hk => ?_, inj := ?_ }
  · simp only [hlook_hput] at hk
    by_cases hbd : d = b
    · subst hbd
      rw [if_pos rfl] at hk
      cases hk
      simp only [if_true]
      exact hok _ hM hcell (.inl (Nat.le_trans h.below.size hr)) (fun hi => absurd (h.imm r hi) (by omega))
    · rw [if_neg hbd] at hk
      rw [if_neg (Ne.symm hbd)]
      exact BlkOk.mono (fun _ h => h) (fun _ _ _ _ h => h) hcell (fun r' σ' e => hb.block r' (by have := h.hp b k hk; rw [e] at this; exact this.lt)) hM (h.hp b k hk)
  · intro b b' k k' r' σ σ' hk hk' hp hp'
    simp only [hlook_hput] at hk hk'
    by_cases hbd : b = d <;> by_cases hbd' : b' = d
    · rw [hbd, hbd']
    · rw [if_pos hbd] at hp
      rw [if_neg hbd'] at hp'
      rw [if_neg (Ne.symm hbd')] at hk'
      cases hp
      have := h.hp b' k' hk'
      rw [hp'] at this
      have := this.lt
      omega
    · rw [if_neg hbd] at hp
      rw [if_pos hbd'] at hp'
      rw [if_neg (Ne.symm hbd)] at hk
      cases hp'
      have := h.hp b k hk
      rw [hp] at this
      have := this.lt
      omega
    · rw [if_neg hbd] at hp
      rw [if_neg hbd'] at hp'
      rw [if_neg (Ne.symm hbd)] at hk
      rw [if_neg (Ne.symm hbd')] at hk'
      exact h.inj b b' k k' r' σ σ' hk hk' hp hp'

theorem R.alloc (h : R w0 I0 N I ρ s a w) (d r esz : Nat) (cs : List AV) (arr : Array Value) (ty : Nat) {w' : World} (he : esz ≠ mapTag) (hb : Below w.heap.size w w') (hr : w.heap.size ≤ r) (hc : w'.heap[r]? = some (.cells arr ty (0, 0)))
    (hl : cs.length ≤ arr.size) (hv : VRs I w (modeOf s ρ) cs (arr.toList.take cs.length)) :
    R w0 I0 N I (fun b => if b = d then some (r, arr.size) else ρ b) ⟨s.t, hput s.h d ⟨cs, false, esz⟩, bump d s.g⟩ a w' := by
  refine h.alloc0 d r esz arr.size cs hb hr fun M' hM hcell h1 h2 => ?_
  unfold BlkOk
  rw [if_neg he]
  exact ⟨h1, fun e => by simp at e, fun _ => h2, hl, arr, ty, hc, rfl, VRs.mono (fun _ h => h) hcell _ _ hM hv⟩

/-- a new map -/
theorem R.allocM (h : R w0 I0 N I ρ s a w) (d : Nat) {w' : World} (hb : Below w.heap.size w w') (hc : w'.heap[w.heap.size]? = some (.map #[] 0)) :
    R w0 I0 N I (fun b => if b = d then some (w.heap.size, 0) else ρ b) ⟨s.t, hput s.h d ⟨[], false, mapTag⟩, bump d s.g⟩ a w' := by
  refine h.alloc0 d w.heap.size mapTag 0 [] hb (Nat.le_refl _) fun M' hM hcell h1 h2 => ?_
  unfold BlkOk
  rw [if_pos rfl]
  exact ⟨h1, fun e => by simp at e, fun _ => h2, #[], hc, trivial⟩

/-- a row begun as nil: no memory yet -/
theorem R.nil0 (h : R w0 I0 N I ρ s a w) (d esz : Nat) : R w0 I0 N I (fun b => if b = d then none else ρ b) ⟨s.t, hput s.h d ⟨[], false, esz⟩, bump d s.g⟩ a w := by
  have hM : Mode.le (modeOf s ρ) (modeOf ⟨s.t, hput s.h d ⟨[], false, esz⟩, bump d s.g⟩ (fun b => if b = d then none else ρ b)) := by
    refine ⟨fun b => ?_, fun b g L hg hA => ?_⟩
    · show s.g b ≤ bump d s.g b
      unfold bump; split <;> omega
    · simp only [aliveA, bump, hlook_hput] at hA ⊢
      by_cases hbd : b = d
      · subst hbd
        rw [if_pos rfl] at hA
        rw [if_neg (by simp only [] at hg; omega)] at hA
        cases hA
      · simp only [if_neg hbd, if_neg (Ne.symm hbd)] at hA
        exact hA
  refine { defers := h.defers, size := h.size, below := h.below, imm := h.imm, old := h.old, new := h.new, kept := kept_bump h d _, tm := fun t => VR.mono (fun _ h => h) (fun _ _ _ => rfl) _ _ hM (h.tm t), hp := fun b k hk => ?_, inj := ?_ }
  · simp only [hlook_hput] at hk
    by_cases hbd : d = b
    · subst hbd
      rw [if_pos rfl] at hk
      cases hk
      simp [BlkOk, BlkM, BlkC]
    · rw [if_neg hbd] at hk
      rw [if_neg (Ne.symm hbd)]
      exact BlkOk.mono (fun _ h => h) (fun _ _ _ _ h => h) (fun _ _ _ => rfl) (fun _ _ _ => rfl) hM (h.hp b k hk)
  · intro b b' k k' r' σ σ' hk hk' hp hp'
    simp only [hlook_hput] at hk hk'
    by_cases hbd : b = d <;> by_cases hbd' : b' = d
    · rw [hbd, hbd']
    · rw [if_pos hbd] at hp; cases hp
    · rw [if_pos hbd'] at hp'; cases hp'
    · rw [if_neg hbd] at hp
      rw [if_neg hbd'] at hp'
      rw [if_neg (Ne.symm hbd)] at hk
      rw [if_neg (Ne.symm hbd')] at hk'
      exact h.inj b b' k k' r' σ σ' hk hk' hp hp'

/-- a block is dropped -/
theorem R.drop (h : R w0 I0 N I ρ s a w) {t' : Env} {h' : Hp} (ht : ∀ t, look t' t = .junk ∨ look t' t = look s.t t) (hh : ∀ b, hlook h' b = none ∨ hlook h' b = hlook s.h b) : R w0 I0 N I ρ ⟨t', h', s.g⟩ a w := by
  have hM : Mode.le (modeOf s ρ) (modeOf ⟨t', h', s.g⟩ ρ) := by
    refine ⟨fun b => Nat.le_refl _, fun b g L hg hA => ?_⟩
    simp only [aliveA] at hA ⊢
    rcases hh b with e | e
    · rw [e] at hA; simp at hA
    · rw [e] at hA; exact hA
  have hsome : ∀ b k, hlook h' b = some k → hlook s.h b = some k := fun b k hk => by
    rcases hh b with e | e
    · rw [e] at hk; cases hk
    · rw [← e]; exact hk
  refine { defers := h.defers, size := h.size, below := h.below, imm := h.imm, old := h.old, new := h.new, kept := h.kept, tm := fun t => ?_, hp := fun b k hk => ?_, inj := fun b b' k k' r σ σ' hk hk' => h.inj b b' k k' r σ σ' (hsome b k hk) (hsome b' k' hk') }
  · show VR I w _ (look t' t) _
    rcases ht t with e | e
    · rw [e]; simp [VR]
    · rw [e]; exact VR.mono (fun _ h => h) (fun _ _ _ => rfl) _ _ hM (h.tm t)
  · exact BlkOk.mono (fun _ h => h) (fun _ _ _ _ h => h) (fun _ _ _ => rfl) (fun _ _ _ => rfl) hM (h.hp b k (hsome b k hk))

/-- a block is set in place -/
theorem R.set0 (h : R w0 I0 N I ρ s a w) {b : Nat} {k : Blk} {r σ : Nat} (hk : hlook s.h b = some k) (hf : k.frz = false) (hρ : ρ b = some (r, σ)) (cs' : List AV) {w' : World}
    (hos : w'.os = w.os) (htp : w'.tape = w.tape) (hou : w'.output = w.output) (hsz : w'.heap.size = w.heap.size) (hoth : ∀ j, j ≠ r → w'.heap[j]? = w.heap[j]?)
    (hnew : ∀ M' : Option Mode, Mode.le (modeOf s ρ) M' → (∀ b, I b → ∀ off, w'.cell? ⟨b, off, none⟩ = w.cell? ⟨b, off, none⟩) → w0.mine r → ¬ I r → BlkOk w0 I w' M' (some (r, σ)) { k with cs := cs' }) :
    R w0 I0 N I ρ ⟨s.t, hput s.h b { k with cs := cs' }, s.g⟩ a w' := by
  have hok := h.hp b k hk
  rw [hρ] at hok
  have hnI : ¬ I r := hok.first.2.2 hf
  have hcell : ∀ j, I j → ∀ off, w'.cell? ⟨j, off, none⟩ = w.cell? ⟨j, off, none⟩ := fun j hi off => cell_of_heap (hoth j (fun e => hnI (e ▸ hi))) off
  have hA : ∀ b' g, aliveA ⟨s.t, hput s.h b { k with cs := cs' }, s.g⟩ ρ b' g = aliveA s ρ b' g := by
    intro b' g
    simp only [aliveA, hlook_hput]
    by_cases e : b = b'
    · subst e; rw [if_pos rfl, hk]; rfl
    · rw [if_neg e]
  have hM : Mode.le (modeOf s ρ) (modeOf ⟨s.t, hput s.h b { k with cs := cs' }, s.g⟩ ρ) :=
    ⟨fun _ => Nat.le_refl _, fun b' g L _ hL => by show aliveA s ρ b' g = some L; rw [← hA]; exact hL⟩
  have hbel : w0.upto w' := h.below.trans hos htp hou (by omega) (fun j hj => hoth j (fun e => hj (e ▸ hok.first.1)))
  refine { defers := h.defers, size := h.size, below := hbel, imm := fun b hi => by rw [hsz]; exact h.imm b hi, old := h.old, new := h.new, kept := h.kept, tm := fun t => VR.mono (fun _ h => h) hcell _ _ hM (h.tm t), hp := fun b' k' hk' => ?_, inj := ?_ }
  · simp only [hlook_hput] at hk'
    by_cases e : b = b'
    · subst e
      rw [if_pos rfl] at hk'
      cases hk'
      rw [hρ]
      exact hnew _ hM hcell hok.first.1 hnI
    · rw [if_neg e] at hk'
      exact BlkOk.mono (fun _ h => h) (fun _ _ _ _ h => h) hcell (fun r' σ' er => hoth r' (fun err => e (h.inj b b' k k' r σ σ' hk hk' hρ (by rw [er, err])))) hM (h.hp b' k' hk')
  · intro b1 b2 k1 k2 r' σ1 σ2 h1 h2 hp1 hp2
    simp only [hlook_hput] at h1 h2
    have e1 : ∃ k, hlook s.h b1 = some k := by
      by_cases e : b = b1
      · subst e; exact ⟨k, hk⟩
      · rw [if_neg e] at h1; exact ⟨_, h1⟩
    have e2 : ∃ k, hlook s.h b2 = some k := by
      by_cases e : b = b2
      · subst e; exact ⟨k, hk⟩
      · rw [if_neg e] at h2; exact ⟨_, h2⟩
    obtain ⟨j1, hj1⟩ := e1
    obtain ⟨j2, hj2⟩ := e2
    exact h.inj b1 b2 j1 j2 r' σ1 σ2 hj1 hj2 hp1 hp2

theorem R.set (h : R w0 I0 N I ρ s a w) {b : Nat} {k : Blk} {r σ : Nat} (hk : hlook s.h b = some k) (hf : k.frz = false) (he : k.esz ≠ mapTag) (hρ : ρ b = some (r, σ)) (cs' : List AV) (arr' : Array Value) (ty : Nat) {w' : World}
    (hos : w'.os = w.os) (htp : w'.tape = w.tape) (hou : w'.output = w.output) (hsz : w'.heap.size = w.heap.size) (hoth : ∀ j, j ≠ r → w'.heap[j]? = w.heap[j]?) (hc : w'.heap[r]? = some (.cells arr' ty (0, 0)))
    (hs : arr'.size = σ) (hl : cs'.length ≤ σ) (hv : VRs I w (modeOf s ρ) cs' (arr'.toList.take cs'.length)) :
    R w0 I0 N I ρ ⟨s.t, hput s.h b { k with cs := cs' }, s.g⟩ a w' := by
  refine h.set0 hk hf hρ cs' hos htp hou hsz hoth fun M' hM hcell h1 h2 => ?_
  unfold BlkOk
  rw [if_neg (show ({ k with cs := cs' } : Blk).esz ≠ mapTag from he)]
  exact ⟨h1, fun e => by simp [hf] at e, fun _ => h2, hl, arr', ty, hc, hs, VRs.mono (fun _ h => h) hcell _ _ hM hv⟩

/-- a map is set in place -/
theorem R.setM (h : R w0 I0 N I ρ s a w) {b : Nat} {k : Blk} {r σ : Nat} (hk : hlook s.h b = some k) (hf : k.frz = false) (he : k.esz = mapTag) (hρ : ρ b = some (r, σ)) (cs' : List AV) (es : Array MapEntry) (hr : r < w.heap.size)
    (hm : mEnt cs' 0 es.toList) :
    R w0 I0 N I ρ ⟨s.t, hput s.h b { k with cs := cs' }, s.g⟩ a { w with heap := w.heap.setIfInBounds r (.map es es.size) } := by
  refine h.set0 hk hf hρ cs' rfl rfl rfl (by simp) (fun j hj => by simp [Array.getElem?_setIfInBounds, Ne.symm hj]) fun M' hM hcell h1 h2 => ?_
  unfold BlkOk
  rw [if_pos (show ({ k with cs := cs' } : Blk).esz = mapTag from he)]
  exact ⟨h1, fun e => by simp [hf] at e, fun _ => h2, es, by simp [hr], hm⟩

/-- blocks are frozen: what they hold is now nobody's to change -/
def frzI (I : Nat → Prop) (ρ : Nat → Place) (s : St) (ids : List Nat) : Nat → Prop := fun x => I x ∨ ∃ b k σ, b ∈ ids ∧ hlook s.h b = some k ∧ ρ b = some (x, σ)

theorem R.freeze (h : R w0 I0 N I ρ s a w) (ids : List Nat) : R w0 I0 N (frzI I ρ s ids) ρ ⟨s.t, frzAll ids s.h, s.g⟩ a w := by
  have hA : ∀ b' g, aliveA ⟨s.t, frzAll ids s.h, s.g⟩ ρ b' g = aliveA s ρ b' g := by
    intro b' g
    simp only [aliveA, hlook_frzAll, Option.map_map]
    split
    · congr 1; funext k; simp only [Function.comp]; split <;> rfl
    · rfl
  have hM : Mode.le (modeOf s ρ) (modeOf ⟨s.t, frzAll ids s.h, s.g⟩ ρ) :=
    ⟨fun _ => Nat.le_refl _, fun b' g L _ hL => by show aliveA s ρ b' g = some L; rw [← hA]; exact hL⟩
  have hI : ∀ b, I b → frzI I ρ s ids b := fun b hb => .inl hb
  refine { defers := h.defers, size := h.size, below := h.below, imm := ?_, old := fun b hb => .inl (h.old b hb), new := ?_, kept := h.kept, tm := fun t => VR.mono hI (fun _ _ _ => rfl) _ _ hM (h.tm t), hp := fun b k hk => ?_, inj := ?_ }
  · rintro x (hx | ⟨b, k, σ, _, hk, hρ⟩)
    · exact h.imm x hx
    · have := h.hp b k hk; rw [hρ] at this; exact this.lt
  · rintro x (hx | ⟨b, k, σ, _, hk, hρ⟩)
    · exact h.new x hx
    · have := h.hp b k hk; rw [hρ] at this; exact .inr this.first.1
  · simp only [hlook_frzAll, Option.map_eq_some_iff] at hk
    obtain ⟨k0, hk0, rfl⟩ := hk
    have hok := h.hp b k0 hk0
    revert hok
    have hesz : (if ids.contains b = true then { k0 with frz := true } else k0).esz = k0.esz := by split <;> rfl
    unfold BlkOk
    rw [hesz]
    by_cases hmt : k0.esz = mapTag
    · rw [if_pos hmt, if_pos hmt]
      cases hp : ρ b with
      | none =>
        intro hok
        have e : k0.cs = [] := hok
        show (if ids.contains b = true then { k0 with frz := true } else k0).cs = []
        split <;> exact e
      | some p =>
        obtain ⟨r, σ⟩ := p
        rintro ⟨h1, h2, h3, es, h5, h6⟩
        by_cases hc : b ∈ ids
        · rw [if_pos (by simpa using hc)]
          exact ⟨h1, fun _ => .inr ⟨b, k0, σ, hc, hk0, hp⟩, fun e => by simp at e, es, h5, h6⟩
        · rw [if_neg (by simpa using hc)]
          refine ⟨h1, fun e => .inl (h2 e), fun e => ?_, es, h5, h6⟩
          rintro (hi | ⟨b', k', σ', hm, hk', hρ'⟩)
          · exact h3 e hi
          · exact hc (h.inj b b' k0 k' r σ σ' hk0 hk' hp hρ' ▸ hm)
    rw [if_neg hmt, if_neg hmt]
    cases hp : ρ b with
    | none =>
      intro hok
      have e : k0.cs = [] := hok
      show (if ids.contains b = true then { k0 with frz := true } else k0).cs = []
      split <;> exact e
    | some p =>
      obtain ⟨r, σ⟩ := p
      rintro ⟨h1, h2, h3, h4, arr, ty, h5, h6, h7⟩
      have h7' := VRs.mono hI (fun _ _ _ => rfl) _ _ hM h7
      by_cases hc : b ∈ ids
      · rw [if_pos (by simpa using hc)]
        exact ⟨h1, fun _ => .inr ⟨b, k0, σ, hc, hk0, hp⟩, fun e => by simp at e, h4, arr, ty, h5, h6, h7'⟩
      · rw [if_neg (by simpa using hc)]
        refine ⟨h1, fun e => .inl (h2 e), fun e => ?_, h4, arr, ty, h5, h6, h7'⟩
        rintro (hi | ⟨b', k', σ', hm, hk', hρ'⟩)
        · exact h3 e hi
        · exact hc (h.inj b b' k0 k' r σ σ' hk0 hk' hp hρ' ▸ hm)
  · intro b1 b2 k1 k2 r' σ1 σ2 h1 h2 hp1 hp2
    simp only [hlook_frzAll, Option.map_eq_some_iff] at h1 h2
    obtain ⟨j1, hj1, _⟩ := h1
    obtain ⟨j2, hj2, _⟩ := h2
    exact h.inj b1 b2 j1 j2 r' σ1 σ2 hj1 hj2 hp1 hp2

/-- a callee has gone through: it left what was there alone -/
theorem R.called (h : R w0 I0 N I ρ s a w) {I' : Nat → Prop} {w' : World} (hb : Below w.heap.size w w') (h1 : ∀ b, I b → I' b) (h2 : ∀ b, I' b → I b ∨ w.heap.size ≤ b) (h3 : ∀ b, I' b → b < w'.heap.size) : R w0 I0 N I' ρ s a w' := by
  have hcell : ∀ b, I b → ∀ off, w'.cell? ⟨b, off, none⟩ = w.cell? ⟨b, off, none⟩ := fun b hi off => cell_of_heap (hb.block b (h.imm b hi)) off
  refine { defers := h.defers, size := h.size, below := h.below.below hb, imm := h3, old := fun b hb => h1 b (h.old b hb), new := fun b hb' => ?_, kept := h.kept, tm := fun t => VR.mono h1 hcell _ _ (Mode.le_refl _) (h.tm t), hp := fun b k hk => ?_, inj := h.inj }
  · rcases h2 b hb' with e | e
    · exact h.new b e
    · exact .inr (.inl (Nat.le_trans h.below.size e))
  · have hok := h.hp b k hk
    refine BlkOk.mono h1 (fun r σ e _ hn hi => ?_) hcell (fun r σ e => hb.block r (by rw [e] at hok; exact hok.lt)) (Mode.le_refl _) hok
    rcases h2 r hi with e' | e'
    · exact hn e'
    · rw [e] at hok; have := hok.lt; omega

end
end Go.Am
