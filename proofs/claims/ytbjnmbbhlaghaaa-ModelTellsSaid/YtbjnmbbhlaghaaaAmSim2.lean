/- AM: each operation beside the model's: calls, rows that grow, equality. -/
import Derived.Test.YtbjnmbbhlaghaaaAmSim
import Derived.IntWalk
import Derived.ChangeKeysEq
namespace Go.Am
set_option linter.unusedSimpArgs false
set_option linter.unusedVariables false
open Go.RowKit

section
variable {P : Program} {w0 : Base} {I0 : Nat → Prop} {N : Nat} {I : Nat → Prop} {ρ : Nat → Place} {s : St} {a : Act} {w : World} {M : Option Mode}

/-! ### made pure -/
theorem frzI_sub {ids ids' : List Nat} (h : ∀ b ∈ ids, b ∈ ids') : ∀ x, frzI I ρ s ids x → frzI I ρ s ids' x := by
  rintro x (hx | ⟨b, k, σ, hb, hk, hρ⟩)
  · exact .inl hx
  · exact .inr ⟨b, k, σ, h b hb, hk, hρ⟩

theorem VR_none_up {I' : Nat → Prop} (hI : ∀ b, I b → I' b) {x : AV} {v : Value} (M' : Option Mode) (h : VR I w none x v) : VR I' w M' x v := VR.mono hI (fun _ _ _ => rfl) x v (M := none) (M' := M') trivial h

theorem mapO_sound {f : AV → Option (AV × List Nat)} {I2 : List Nat → Nat → Prop} (h2 : ∀ ids ids' x, (∀ b ∈ ids, b ∈ ids') → I2 ids x → I2 ids' x)
    (hf : ∀ x v y fz, f x = some (y, fz) → VR I w M x v → VR (I2 fz) w none y v) : ∀ (xs ys : List AV) (fz : List Nat) (vs : List Value), mapO f xs = some (ys, fz) → VRs I w M xs vs → VRs (I2 fz) w none ys vs
  | [], ys, fz, [], h, _ => by simp [mapO] at h; obtain ⟨rfl, rfl⟩ := h; simp [VRs]
  | [], _, _, _ :: _, _, h => by simp [VRs] at h
  | _ :: _, _, _, [], _, h => by simp [VRs] at h
  | x :: xs, ys, fz, v :: vs, h, hv => by
    simp only [VRs] at hv
    simp only [mapO] at h
    split at h
    · rename_i y g ys' gs h3 h4
      cases h
      simp only [VRs]
      refine ⟨?_, ?_⟩
      · exact VR.mono (fun b hb => h2 _ _ b (fun c hc => List.mem_append_left _ hc) hb) (fun _ _ _ => rfl) _ _ (M := none) trivial (hf x v y g h3 hv.1)
      · exact VRs.mono (fun b hb => h2 _ _ b (fun c hc => List.mem_append_right _ hc) hb) (fun _ _ _ => rfl) _ _ (M := none) trivial (mapO_sound h2 hf xs ys' gs vs h4 hv.2)
    · cases h

theorem pure1_sound (h : R w0 I0 N I ρ s a w) {fp : List Nat} : ∀ (m : Nat) (x : AV) (v : Value) (y : AV) (fz : List Nat), pure1 s fp m x = some (y, fz) → VR I w (modeOf s ρ) x v → VR (frzI I ρ s fz) w none y v := by
  have hle : ∀ fz b, I b → frzI I ρ s fz b := fun fz b hb => .inl hb
  intro m
  induction m with
  | zero => intro x v y fz he; simp [pure1] at he
  | succ m ih =>
    intro x v y fz he hv
    cases x <;> simp only [pure1, Option.some.injEq, Prod.mk.injEq, reduceCtorEq] at he
    case int => obtain ⟨rfl, rfl⟩ := he; exact VR_none_up (hle _) none (plain_none none rfl hv)
    case bool => obtain ⟨rfl, rfl⟩ := he; exact VR_none_up (hle _) none (plain_none none rfl hv)
    case str => obtain ⟨rfl, rfl⟩ := he; exact VR_none_up (hle _) none (plain_none none rfl hv)
    case lst => obtain ⟨rfl, rfl⟩ := he; exact VR_none_up (hle _) none (plain_none none rfl hv)
    case clo => obtain ⟨rfl, rfl⟩ := he; exact VR_none_up (hle _) none (plain_none none rfl hv)
    case ipt => obtain ⟨rfl, rfl⟩ := he; exact VR_none_up (hle _) none (plain_none none rfl hv)
    case nils =>
      obtain ⟨rfl, rfl⟩ := he
      have hv' : v = .slice none 0 0 := by simpa [VR] using hv
      rw [VR]
      exact .inl ⟨rfl, rfl, none, 0, hv'⟩
    case own b g o n =>
      split at he
      · rename_i k hk
        split at he
        · rename_i hle2
          obtain ⟨hg, hl, hA, hok⟩ := h.blk hk
          have hv0 := hv
          simp only [VR, modeOf] at hv
          have hx2 := hv.2.2 _ hA
          simp only [] at hx2
          -- what the cells are, made pure
          have inner : ∀ (ys : List AV) (fz : List Nat) (us : List Value), ((((k.cs.drop o).take (n * k.esz)).all AV.plain = true ∧ ys = (k.cs.drop o).take (n * k.esz) ∧ fz = [b]) ∨ (∃ f, mapO (pure1 s fp m) ((k.cs.drop o).take (n * k.esz)) = some (ys, f) ∧ fz = b :: f)) →
              VRs I w (modeOf s ρ) ((k.cs.drop o).take (n * k.esz)) us → VRs (frzI I ρ s fz) w none ys us ∧ b ∈ fz := by
            intro ys fz us hh hu
            rcases hh with ⟨h1, rfl, rfl⟩ | ⟨f, h1, rfl⟩
            · exact ⟨VRs.mono (hle _) (fun _ _ _ => rfl) _ _ (M := none) trivial (plains_none none h1 hu), by simp⟩
            · exact ⟨VRs.mono (fun x hx => frzI_sub (fun c hc => List.mem_cons_of_mem _ hc) x hx) (fun _ _ _ => rfl) _ _ (M := none) trivial (mapO_sound (I2 := frzI I ρ s) (fun _ _ x hs => frzI_sub hs x) (fun x v y fz => ih x v y fz) _ ys f us h1 hu), by simp⟩
          have res : ∃ ys, y = .lst n ys ∧ ((((k.cs.drop o).take (n * k.esz)).all AV.plain = true ∧ ys = (k.cs.drop o).take (n * k.esz) ∧ fz = [b]) ∨ (∃ f, mapO (pure1 s fp m) ((k.cs.drop o).take (n * k.esz)) = some (ys, f) ∧ fz = b :: f)) := by
            split at he
            · rename_i hp
              cases he
              exact ⟨_, rfl, .inl ⟨hp, rfl, rfl⟩⟩
            · split at he
              · rename_i vs f hm
                cases he
                exact ⟨vs, rfl, .inr ⟨f, hm, rfl⟩⟩
              · cases he
          obtain ⟨ys, rfl, hres⟩ := res
          cases hρ : ρ b with
          | none =>
            rw [hρ] at hx2 hok
            obtain ⟨h1, h2, _⟩ := hx2
            subst h2
            have := (inner ys fz [] hres (by simp [VRs])).1
            have hn : ys = [] := by cases ys with
              | nil => rfl
              | cons _ _ => simp [VRs] at this
            rw [VR]
            exact .inl ⟨rfl, hn, none, 0, h1⟩
          | some rs =>
            obtain ⟨r, σ⟩ := rs
            rw [hρ] at hx2 hok
            obtain ⟨ad, cap, h1, h2, h3, h4⟩ := hx2
            obtain ⟨_, _, _, hlen, arr, ty, hheap, hsz, hvv⟩ := hok
            have hin := inner ys fz _ hres ((hvv.drop o).take (n * k.esz))
            rw [VR]
            rcases h4 with ⟨h4, _⟩ | ⟨rfl, _⟩
            · subst h4
              have hi2 := (inner ys fz [] hres (by simp [VRs])).1
              have hn : ys = [] := by cases ys with
                | nil => rfl
                | cons _ _ => simp [VRs] at hi2
              exact .inl ⟨rfl, hn, ad, cap, h1⟩
            · exact .inr ⟨r, o, cap, _, h1, h2, h3, .inr ⟨b, k, σ, hin.2, hl, hρ⟩, rowAt_of_heap hheap k.cs.length o (n * k.esz), hin.1⟩
        · cases he
      · cases he

theorem pureV_sound (h : R w0 I0 N I ρ s a w) {fp : List Nat} (x : AV) (v : Value) (y : AV) (fz : List Nat) (he : pureV s fp x = some (y, fz)) (hv : VR I w (modeOf s ρ) x v) : VR (frzI I ρ s fz) w none y v := by
  cases x with
  | agg xs =>
    simp only [pureV] at he
    obtain ⟨cs, rfl, hvs⟩ := VR_agg hv
    split at he
    · rename_i hp
      cases he
      simp only [VR]
      exact ⟨cs, rfl, VRs.mono (fun b hb => .inl hb) (fun _ _ _ => rfl) _ _ (M := none) trivial (plains_none none hp hvs)⟩
    · split at he
      · rename_i vs f hm
        cases he
        simp only [VR]
        exact ⟨cs, rfl, mapO_sound (I2 := frzI I ρ s) (fun _ _ x hs => frzI_sub hs x) (fun x v y fz => pure1_sound h 4 x v y fz) _ _ _ _ hm hvs⟩
      · cases he
  | _ => exact pure1_sound h 4 _ v y fz (by simpa [pureV] using he) hv

theorem pureVs_sound (h : R w0 I0 N I ρ s a w) {fp : List Nat} {xs ys : List AV} {vs : List Value} {fz : List Nat} (he : pureVs s fp xs = some (ys, fz)) (hv : VRs I w (modeOf s ρ) xs vs) : VRs (frzI I ρ s fz) w none ys vs :=
  mapO_sound (I2 := frzI I ρ s) (fun _ _ x hs => frzI_sub hs x) (fun x v y fz => pureV_sound h x v y fz) _ _ _ _ he hv

/-! ### contracts -/
/-- a call is over: r is handed back, and what was there is as it was -/
def Done (I : Nat → Prop) (w : World) (r : AV) : Ending → World → Prop := fun e w' =>
  ∃ v, e = .returned v ∧ Below w.heap.size w w' ∧ ∃ I' : Nat → Prop, (∀ b, I b → I' b) ∧ (∀ b, I' b → I b ∨ w.heap.size ≤ b) ∧ (∀ b, I' b → b < w'.heap.size) ∧ VR I' w' none r v

/-- WHAT A FUNCTION DOES: of arguments of which 'sp' tells a result, the call hands that back. -/
def Contract0 (P : Program) (f : FuncId) (sp : List AV → Option AV) : Prop :=
  ∀ (I : Nat → Prop) (w : World) (args : List AV) (vs : List Value) (r : AV), sp args = some r → VRs I w none args vs → (∀ b, I b → b < w.heap.size) →
    (∀ w, (callFunc f vs.toArray).run P w = .ok (.enter f vs.toArray) w) ∧ Calls P f vs.toArray w (Done I w r)

/-! ### contracts of calls that are given blocks -/
def gst (h : Hp) : St := ⟨[], h, fun _ => 0⟩
def gbase (w : World) (h : Hp) (ρ : Nat → Place) : Base := ⟨w, fun b => ∃ k, hlook h b = some k, ρ⟩
structure Gate (w0 : Base) (I : Nat → Prop) (w : World) (h : Hp) (ρ : Nat → Place) : Prop where
  ok : ∀ b k, hlook h b = some k → k.frz = false ∧ BlkOk w0 I w (modeOf (gst h) ρ) (ρ b) k
  inj : ∀ b b' k k' r σ σ', hlook h b = some k → hlook h b' = some k' → ρ b = some (r, σ) → ρ b' = some (r, σ') → b = b'
/-- such a call is over: r is handed back, the blocks are now h', and whatever else was there is as it was -/
def GDone (I : Nat → Prop) (w : World) (h : Hp) (ρ : Nat → Place) (r : AV) (h' : Hp) : Ending → World → Prop := fun e w' =>
  ∃ v, e = .returned v ∧ ∃ (I' : Nat → Prop) (ρ' : Nat → Place), (gbase w h ρ).upto w' ∧ (∀ b, I b → I' b) ∧ (∀ b, I' b → I b ∨ (gbase w h ρ).mine b) ∧ (∀ b, I' b → b < w'.heap.size) ∧
    (∀ b k k', hlook h b = some k → hlook h' b = some k' → ρ' b = ρ b) ∧ Gate (gbase w h ρ) I' w' h' ρ' ∧ VR I' w' (modeOf (gst h') ρ') r v
def GContract (P : Program) (f : FuncId) (sp : List AV → Option AV) : Prop :=
  ∀ (I : Nat → Prop) (w : World) (args : List AV) (vs : List Value) (r : AV) (h h' : Hp) (ρ : Nat → Place), sp (args ++ [.tup (encs h)]) = some (.tup (r :: encs h')) → (h.all fun p => !p.2.frz) = true → (h'.all fun p => !p.2.frz) = true → VRs I w (modeOf (gst h) ρ) args vs → (∀ b k, hlook h b = some k → b < 2) →
    Gate (gbase w h ρ) I w h ρ → (∀ b, I b → b < w.heap.size) →
    (∀ w, (callFunc f vs.toArray).run P w = .ok (.enter f vs.toArray) w) ∧ Calls P f vs.toArray w (GDone I w h ρ r h')
/-- a contract: of a plain call, or (from 'gBase' on) of one that is given blocks -/
def Contract (P : Program) (f : FuncId) (sp : List AV → Option AV) : Prop := if f < gBase then Contract0 P f sp else GContract P (f - gBase) sp
theorem Contract.plain {P : Program} {f : FuncId} {sp : List AV → Option AV} (h : Contract P f sp) (hf : f < gBase) : Contract0 P f sp := by unfold Contract at h; rwa [if_pos hf] at h
theorem Contract.gate {P : Program} {f : FuncId} {sp : List AV → Option AV} (h : Contract P (gBase + f) sp) : GContract P f sp := by
  unfold Contract at h
  rw [if_neg (Nat.not_lt.2 (Nat.le_add_right gBase f)), Nat.add_sub_cancel_left] at h
  exact h
theorem Contract.of_gate {P : Program} {f : FuncId} {sp : List AV → Option AV} (h : GContract P f sp) : Contract P (gBase + f) sp := by
  unfold Contract
  rw [if_neg (Nat.not_lt.2 (Nat.le_add_right gBase f)), Nat.add_sub_cancel_left]
  exact h
theorem Contract.of_plain {P : Program} {f : FuncId} {sp : List AV → Option AV} (hf : f < gBase) (h : Contract0 P f sp) : Contract P f sp := by unfold Contract; rwa [if_pos hf]
/-- a contract that says less -/
theorem Contract.less {P : Program} {f : FuncId} {sp sp' : List AV → Option AV} (h : Contract P f sp') (hs : ∀ args r, sp args = some r → sp' args = some r) : Contract P f sp := by
  unfold Contract at h ⊢
  split
  · rename_i hf
    rw [if_pos hf] at h
    exact fun I w args vs r hsp => h I w args vs r (hs _ _ hsp)
  · rename_i hf
    rw [if_neg hf] at h
    exact fun I w args vs r h1 h2 ρ hsp => h I w args vs r h1 h2 ρ (hs _ _ hsp)

theorem frzAll_nil : ∀ h : Hp, frzAll [] h = h
  | [] => rfl
  | (k, b) :: l => by simp [frzAll, frzAll_nil l]

theorem appH_fz (v : Option AV) (fz : List Nat) (h : Hp) : appH { v := v, fz := fz } h = frzAll fz h := by
  unfold appH
  cases fz with
  | nil => simp [frzAll_nil]
  | cons b l => rfl

section ops
variable {o : Oper} {ao : AOper} {C : Cs}

theorem close_call {f : FuncId} {xs : List AV} {fz : List Nat} {r : AV} {us : List Value} {K : Act → World → Prop} {Q : Exit → Act → World → Prop} (hC : Contract0 P f (C f)) (h : R w0 I0 N I ρ s a w) (hd : o.dst = ao.d) (hN : ∀ n, ao.d = some n → n < N)
    (hr : C f xs = some r) (hv : VRs (frzI I ρ s fz) w none xs us) (hK : ∀ I' ρ' a' w', R w0 I0 N I' ρ' (app ao.d { v := some r, fz := fz } s) a' w' → K a' w')
    (hrun : (execOp a.eval o).run P w = (callFunc f us.toArray).run P w) : o.wp P a w K Q := by
  have hf := h.freeze fz
  obtain ⟨h1, h2⟩ := hC _ w xs us r hr hv hf.imm
  unfold Oper.wp
  rw [hrun, h1 w]
  simp only [Oper.upon]
  refine Calls.mono h2 ?_
  rintro e w' ⟨v, rfl, hb, I', hi1, hi2, hi3, hvr⟩
  have hc := hf.called hb hi1 hi2 hi3
  refine hK I' ρ _ w' ?_
  rw [hd]
  have := hc.putO (d := ao.d) (x := some r) (v := v) hN (fun y hy => by cases hy; exact VR_none_up (fun _ h => h) _ hvr)
  unfold app
  rw [appH_fz]
  exact this

theorem sim_call (hC : ∀ f, Contract P f (C f)) (hd : o.dst = ao.d) (hN : ∀ n, ao.d = some n → n < N) (f : FuncId) (hlt : f < gBase) (ys : Array Operand) (ts : Array TypeId) (xs : List AOpd) (ho : o.op = .call { callee := .value (.func f), args := ys, argTypes := ts }) (hao : ao.op = .call f xs) (hm : mOpds ys.toList xs = true) : Sim P N o C ao := by
  intro w0 I0 I ρ s a w e K Q h he hK
  unfold eff at he
  rw [hao] at he
  simp only [] at he
  split at he
  · rename_i vs fz hp
    split at he
    · rename_i r hr
      cases he
      have hv := pureVs_sound h hp (h.opds hm)
      refine close_call ((hC f).plain hlt) h hd hN hr hv hK ?_
      have : (ys.map a.eval) = (ys.toList.map a.eval).toArray := by apply Array.ext'; simp
      simp [execOp, ho, resolve, Act.eval, Deferred.ofValue, invoke, this]
    · cases he
  · cases he

theorem sim_dyn (hC : ∀ f, Contract P f (C f)) (hd : o.dst = ao.d) (hN : ∀ n, ao.d = some n → n < N) (x : Operand) (x' : AOpd) (ys : Array Operand) (ts : Array TypeId) (xs : List AOpd) (ho : o.op = .call { callee := .value x, args := ys, argTypes := ts }) (hao : ao.op = .dyn x' xs) (hx : mOpd x x' = true) (hm : mOpds ys.toList xs = true) : Sim P N o C ao := by
  intro w0 I0 I ρ s a w e K Q h he hK
  unfold eff at he
  rw [hao] at he
  simp only [] at he
  have hxv := h.opd hx
  split at he
  · rename_i f cp hcl
    rw [hcl] at hxv
    split at he
    rotate_left
    · cases he
    rename_i hlt
    split at he
    · rename_i vs fz hp
      split at he
      · rename_i r hr
        cases he
        have hv := pureVs_sound h hp (h.opds hm)
        simp only [VR] at hxv
        obtain ⟨cs, hav, hcs⟩ := hxv
        have hv2 := hv.append (VRs.mono (fun b hb => .inl hb) (fun _ _ _ => rfl) cp cs (M := none) (M' := none) trivial hcs)
        refine close_call ((hC f).plain hlt) h hd hN hr hv2 hK ?_
        have : (ys.map a.eval) = (ys.toList.map a.eval).toArray := by apply Array.ext'; simp
        simp [execOp, ho, resolve, hav, Deferred.ofValue, invoke, this]
      · cases he
    · cases he
  · cases he

theorem caps_sound (h : R w0 I0 N I ρ s a w) {fp : List Nat} : ∀ (xs : List AV) (ys : List AV) (fz : List Nat) (vs : List Value), caps s fp xs = some (ys, fz) → VRs I w (modeOf s ρ) xs vs → VRs (frzI I ρ s fz) w none ys vs
  | [], ys, fz, [], h, _ => by simp [caps] at h; obtain ⟨rfl, rfl⟩ := h; simp [VRs]
  | [], _, _, _ :: _, _, h => by simp [VRs] at h
  | _ :: _, _, _, [], _, h => by simp [VRs] at h
  | x :: xs, ys, fz, v :: vs, he, hv => by
    simp only [VRs] at hv
    simp only [caps] at he
    split at he
    · rename_i b g p vs' fs hc
      split at he
      · rename_i k hk
        split at he
        · rename_i hp
          cases he
          have ih := caps_sound h xs vs' fs vs hc hv.2
          obtain ⟨r, σ, hρ, hav⟩ := h.ptr hk hv.1
          obtain ⟨hg, hl, hA, hok⟩ := h.blk hk
          rw [hρ] at hok
          obtain ⟨_, _, _, hlen, arr, ty, hheap, hsz, hvv⟩ := hok
          simp only [VRs]
          refine ⟨?_, VRs.mono (fun x hx => frzI_sub (fun c hc => List.mem_cons_of_mem _ hc) x hx) (fun _ _ _ => rfl) _ _ (M := none) trivial ih⟩
          simp only [VR]
          refine ⟨r, 0, arr.toList.take k.cs.length, by simpa using hav, .inr ⟨b, k, σ, by simp, hl, hρ⟩, ?_, VRs.mono (fun b hb => .inl hb) (fun _ _ _ => rfl) _ _ (M := none) trivial (plains_none none hp hvv)⟩
          have := rowAt_of_heap hheap k.cs.length 0 k.cs.length
          simpa [List.take_take] using this
        · cases he
      · cases he
    · rename_i p cs vs' fs hc
      cases he
      have ih := caps_sound h xs vs' fz vs hc hv.2
      simp only [VRs]
      exact ⟨VR_none_up (fun b hb => .inl hb) none (plain_none none rfl hv.1), ih⟩
    · cases he

theorem sim_clo (hd : o.dst = ao.d) (hN : ∀ n, ao.d = some n → n < N) (f : FuncId) (ys : Array Operand) (xs : List AOpd) (ho : o.op = .makeFunc (.func f) #[] ys) (hao : ao.op = .clo f xs) (hm : mOpds ys.toList xs = true) : Sim P N o C ao := by
  intro w0 I0 I ρ s a w e K Q h he hK
  unfold eff at he
  rw [hao] at he
  simp only [] at he
  split at he
  · rename_i vs fz hp
    cases he
    have hv := caps_sound h _ _ _ _ hp (h.opds hm)
    have hf := h.freeze fz
    have : (ys.map a.eval) = (ys.toList.map a.eval).toArray := by apply Array.ext'; simp
    refine wp_of_run (v := .func (.func f) #[] (ys.toList.map a.eval).toArray) (w' := w) (by simp [execOp, ho, Instr.makeFunc, this]) (hK (frzI I ρ s fz) ρ _ w ?_)
    rw [hd]
    unfold app
    rw [appH_fz]
    refine hf.putO hN (fun y hy => ?_)
    cases hy
    simp only [VR]
    exact ⟨_, rfl, hv⟩
  · cases he

theorem sim_mks (hd : o.dst = ao.d) (hN : ∀ n, ao.d = some n → n < N) (t : TypeId) (x y : Operand) (x' : AOpd) (id sz : Nat) (z : List AV) (ho : o.op = .makeSlice t x y) (hao : ao.op = .mks id x' sz z) (hx : mOpd x x' = true) (hy : mOpd y x' = true) (ht : tSlice P t sz = true) (hz : tSliceZ P t z = true) : Sim P N o C ao := by
  intro w0 I0 I ρ s a w e' K Q h he hK
  unfold eff at he
  rw [hao] at he
  simp only [] at he
  have hxv := h.opd hx
  have hyv := h.opd hy
  obtain ⟨e, i, zv, hu, hi, hzv, hsz, hpos, hzs, hby⟩ := tSlice_spec ht
  split at he
  · rename_i kk m hm
    rw [hm] at hxv hyv
    have hav := VR_int hxv
    have hav2 := VR_int hyv
    split at he
    · rename_i hc
      obtain ⟨hc1, hc2⟩ := hc
      cases he
      obtain ⟨v, hrun, hvs⟩ := run_zero (P := P) (tSliceZ_spec hz hu)
      have hvz : v = zv := by
        have := hrun w
        simp [zeroValue, typeInfo, hi, hzv] at this
        exact this.symm
      subst hvz
      have hrep := VRs_rep (hvs I w (modeOf s ρ)) m.toNat
      refine close_row (o := o) (ao := ao) hd hN (vs := (List.replicate m.toNat v.cells.toList).flatten.toArray) (ty := e) (sz := sz) h hK ?_ (by simpa using hrep) ?_ (by unfold maxLen; omega) (tSlice_ne ht)
      · have hrz := range_zero v.cells m.toNat
        have harr : (Array.range (m.toNat * v.cells.size)).map (fun i => v.cells[i % v.cells.size]!) = (List.replicate m.toNat v.cells.toList).flatten.toArray := by
          apply Array.ext'
          rw [hrz]
        rw [hzs] at harr
        have hw : IntKind.i64.wrap m = m := IntWalk.i64_in m (by omega)
        have hb1 : ((i.bytes : Nat) : Int) * m ≤ 281474976710656 := by
          have : ((i.bytes : Nat) : Int) * m ≤ 128 * m := Int.mul_le_mul_of_nonneg_right (by omega) hc1
          omega
        have hb2 : ¬ (281474976710656 < ((i.bytes : Nat) : Int) * m) := by omega
        have hm0 : ¬ m < 0 := by omega
        simp only [execOp, ho, Instr.makeSlice, Sem.run_bind, run_underlying hu, Result.andThen_ok, hav, hav2, asInt, asIntOf, Sem.run_pure, typeInfo, run_program, hi, hw]
        have hbig : decide (((i.bytes : Nat) : Int) * m > 2 ^ 48) = false := decide_eq_false (by show ¬ ((281474976710656 : Int) < _); exact hb2)
        have hmm : ¬ m > m := by omega
        simp only [hbig, hm0, hmm, decide_false, Bool.or_false, Bool.false_eq_true, if_false, Sem.run_bind, run_askRoom, Result.andThen_ok, run_sizeOf' hi, hsz]
        by_cases h0 : m.toNat = 0
        · have : m.toNat * sz = 0 := by rw [h0, Nat.zero_mul]
          rw [if_pos this]
          have hr0 : Array.range (0 * sz) = #[] := by rw [Nat.zero_mul]; rfl
          simp only [hr0, Array.map_empty, h0, List.replicate_zero, List.flatten_nil, Sem.run_bind, Result.andThen_ok, Sem.run_pure, newRow]
          rfl
        · have h0' : ¬ (m.toNat * sz = 0) := by
            intro hh
            rcases Nat.mul_eq_zero.1 hh with h | h <;> omega
          rw [if_neg h0']
          simp only [Sem.run_bind, hrun, Result.andThen_ok, Sem.run_pure, hzs, newRow]
          rw [harr]
          rfl
      · simp [List.length_flatten, hzs]
    · cases he
  · cases he

/-! ### parts of a slice -/
theorem bounds_run {n cap l hh : Nat} {lo hi : Option AOpd} {lo' hi' : Option Operand} (h : R w0 I0 N I ρ s a w) (hb : bounds s n lo hi = some (l, hh)) (hc : n ≤ cap)
    (hlo : mOpdO lo' lo = true) (hhi : mOpdO hi' hi = true) :
    l ≤ hh ∧ hh ≤ n ∧ (∀ b, (Instr.sliceBounds b n cap (lo'.map a.eval) (hi'.map a.eval) none).run P w = .ok (l, hh, cap) w) := by
  unfold bounds at hb
  have sb : ∀ {x : Operand} {y : AOpd} {kk : IntKind} {q : Int} {m : Nat} {code : BoundsCode}, mOpd x y = true → opv s y = .int kk q → 0 ≤ q → q ≤ m → (Instr.sliceBound (a.eval x) m code).run P w = .ok q.toNat w := by
    intro x y kk q m code hm hq h0 h1
    have hv := h.opd hm
    rw [hq] at hv
    rw [VR_int hv]
    simp [Instr.sliceBound, asIntOf, h0, h1]
  cases hi with
  | none =>
    cases hi' with
    | some x => simp [mOpdO] at hhi
    | none =>
      cases lo with
      | none =>
        cases lo' with
        | some x => simp [mOpdO] at hlo
        | none =>
          simp at hb
          obtain ⟨rfl, rfl⟩ := hb
          exact ⟨Nat.zero_le _, Nat.le_refl _, fun b => by simp [Instr.sliceBounds]⟩
      | some y =>
        cases lo' with
        | none => simp [mOpdO] at hlo
        | some x =>
          simp only [mOpdO] at hb hlo
          split at hb
          · rename_i kk q hq
            split at hb
            · rename_i hq2
              simp at hb
              obtain ⟨rfl, rfl⟩ := hb
              refine ⟨by omega, Nat.le_refl _, fun b => ?_⟩
              simp only [Instr.sliceBounds, Option.map_none, Option.map_some, Sem.run_bind, Sem.run_pure, Result.andThen_ok]
              rw [sb hlo hq hq2.1 hq2.2]
              simp
            · cases hb
          · cases hb
  | some z =>
    cases hi' with
    | none => simp [mOpdO] at hhi
    | some x =>
      simp only [mOpdO] at hb hhi
      split at hb
      · rename_i kk q hq
        split at hb
        · rename_i hq2
          have e1 : ∀ code, (Instr.sliceBound (a.eval x) cap code).run P w = .ok q.toNat w := fun code => sb hhi hq hq2.1 (by omega)
          cases lo with
          | none =>
            cases lo' with
            | some x => simp [mOpdO] at hlo
            | none =>
              simp at hb
              obtain ⟨rfl, rfl⟩ := hb
              refine ⟨Nat.zero_le _, by omega, fun b => ?_⟩
              simp only [Instr.sliceBounds, Option.map_some, Option.map_none, Sem.run_bind, Sem.run_pure, Result.andThen_ok, e1]
          | some y =>
            cases lo' with
            | none => simp [mOpdO] at hlo
            | some x0 =>
              simp only [mOpdO] at hb hlo
              split at hb
              · rename_i kk2 q2 hq3
                split at hb
                · rename_i hq4
                  simp at hb
                  obtain ⟨rfl, rfl⟩ := hb
                  refine ⟨by omega, by omega, fun b => ?_⟩
                  simp only [Instr.sliceBounds, Option.map_none, Option.map_some, Sem.run_bind, Sem.run_pure, Result.andThen_ok, e1]
                  rw [sb hlo hq3 hq4.1 (by omega)]
                  simp
                · cases hb
              · cases hb
        · cases hb
      · cases hb

theorem sim_sl (hd : o.dst = ao.d) (hN : ∀ n, ao.d = some n → n < N) (t : TypeId) (x : Operand) (x' : AOpd) (lo hi : Option AOpd) (lo' hi' : Option Operand) (sz : Nat) (ho : o.op = .slice t x lo' hi' none) (hao : ao.op = .sl x' lo hi sz) (hx : mOpd x x' = true)
    (hlo : mOpdO lo' lo = true) (hhi : mOpdO hi' hi = true) (ht : tSlice P t sz = true) : Sim P N o C ao := by
  intro w0 I0 I ρ s a w e K Q h he hK
  unfold eff at he
  rw [hao] at he
  simp only [] at he
  have hxv := h.opd hx
  obtain ⟨e0, i, zv, hu, hi0, hzv, hsz, hpos, _, _⟩ := tSlice_spec ht
  -- the model's own step
  have run : ∀ (ad : Option Addr) (n cap l hh : Nat), a.eval x = .slice ad n cap → n ≤ cap → bounds s n lo hi = some (l, hh) →
      (execOp a.eval o).run P w = .ok (.value (.slice (if cap = l then ad else ad.map (·.add (l * sz))) (hh - l) (cap - l))) w := by
    intro ad n cap l hh hav hc hb
    obtain ⟨_, _, hr⟩ := bounds_run (P := P) (lo' := lo') (hi' := hi') h hb hc hlo hhi
    simp only [execOp, ho, Instr.sliceAt, Sem.run_bind, run_underlying hu, Result.andThen_ok, Instr.slice, hav, Option.map_none, hr, run_sizeOf' hi0, hsz, Sem.run_pure]
  split at he
  · rename_i b g p n hp
    rw [hp] at hxv
    split at he
    · rename_i k l hh hk hb
      have := val_ok he; subst this
      obtain ⟨hg, hl, hA, hok⟩ := h.blk hk
      simp only [VR, modeOf] at hxv
      have hx2 := hxv.2.2 _ hA
      simp only [] at hx2
      cases hρ : ρ b with
      | none =>
        rw [hρ] at hx2
        obtain ⟨h1, rfl, rfl⟩ := hx2
        obtain ⟨hb1, hb2, _⟩ := bounds_run (P := P) (cap := 0) h hb (Nat.le_refl _) hlo hhi
        refine close_val h hd hN hK (run none 0 0 l hh h1 (Nat.le_refl _) hb) ?_
        have hl0 : l = 0 := by omega
        have hh0 : hh = 0 := by omega
        subst hl0; subst hh0
        simp only [VR, modeOf]
        refine ⟨⟨_, _, _, rfl⟩, by omega, fun L hL => ?_⟩
        rw [hA] at hL
        cases hL
        simp [hρ]
      | some rs =>
        obtain ⟨r, σ⟩ := rs
        rw [hρ] at hx2
        obtain ⟨ad, cap, h1, h2, h3, h4⟩ := hx2
        obtain ⟨hb1, hb2, _⟩ := bounds_run (P := P) (cap := cap) h hb h2 hlo hhi
        refine close_val h hd hN hK (run ad n cap l hh h1 h2 hb) ?_
        simp only [VR, modeOf]
        refine ⟨⟨_, _, _, rfl⟩, by omega, fun L hL => ?_⟩
        rw [hA] at hL
        cases hL
        simp only [hρ]
        refine ⟨_, cap - l, rfl, by omega, by omega, ?_⟩
        rcases h4 with ⟨h4, h5⟩ | ⟨rfl, h5⟩
        · left
          exact ⟨by omega, by omega⟩
        · by_cases hcl : cap = l
          · by_cases hl0 : l = 0
            · subst hl0
              right
              rw [if_pos hcl]
              exact ⟨by simp, fun e => by have := h5 (by omega); rw [hcl] at this; rw [hcl]; simpa using this⟩
            · left
              refine ⟨by omega, ?_⟩
              have : 0 < l * sz := Nat.mul_pos (by omega) hpos
              omega
          · right
            rw [if_neg hcl]
            refine ⟨by simp [Addr_add], fun e => ?_⟩
            have hl0 : l = 0 := by
              rcases Nat.eq_zero_or_pos l with h | h
              · exact h
              · have : 0 < l * sz := Nat.mul_pos h hpos
                omega
            subst hl0
            exact h5 (by omega)
    · cases he
  · rename_i n xs hp
    rw [hp] at hxv
    split at he
    · rename_i l hh hb
      have := val_ok he; subst this
      simp only [VR] at hxv
      rcases hxv with ⟨rfl, rfl, ad, c, hav⟩ | ⟨b, off, cap, cs, hav, h2, h3, hI, hrow, hvs⟩
      · obtain ⟨hb1, hb2, _⟩ := bounds_run (P := P) (cap := c) h hb (Nat.zero_le _) hlo hhi
        refine close_val h hd hN hK (run ad 0 c l hh hav (Nat.zero_le _) hb) ?_
        rw [VR]
        exact .inl ⟨by omega, by simp, _, _, by rw [show hh - l = 0 by omega]⟩
      · obtain ⟨hb1, hb2, _⟩ := bounds_run (P := P) (cap := cap) h hb h2 hlo hhi
        refine close_val h hd hN hK (run _ n cap l hh hav h2 hb) ?_
        rw [VR]
        by_cases hcl : cap = l
        · exact .inl ⟨by omega, by rw [show hh - l = 0 by omega]; simp, _, _, by rw [show hh - l = 0 by omega]⟩
        · refine .inr ⟨b, off + l * sz, cap - l, (cs.drop (l * sz)).take ((hh - l) * sz), ?_, by omega, by omega, hI, rowAt_drop hrow _ _, (hvs.drop _).take _⟩
          rw [if_neg hcl]
          simp [Addr_add]
    · cases he
  · rename_i hp
    rw [hp] at hxv
    split at he
    · rename_i q hb
      obtain ⟨l, hh⟩ := q
      have := val_ok he; subst this
      simp only [VR] at hxv
      obtain ⟨hb1, hb2, _⟩ := bounds_run (P := P) (cap := 0) h hb (Nat.le_refl _) hlo hhi
      refine close_val h hd hN hK (run none 0 0 l hh hxv (Nat.le_refl _) hb) ?_
      have hl0 : l = 0 := by omega
      have hh0 : hh = 0 := by omega
      subst hl0; subst hh0
      simp [VR]
    · cases he
  · cases he

end ops
end
end Go.Am
