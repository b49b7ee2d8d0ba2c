/- AM: maps from numbers to numbers, or bools. -/
import Derived.Test.YtbjnmbbhlaghaaaAmSim4
import Derived.Maps.Own
namespace Go.Am
set_option linter.unusedSimpArgs false
set_option linter.unusedVariables false
open Go.RowKit

section
variable {P : Program} {w0 : Base} {I0 : Nat → Prop} {N : Nat} {I : Nat → Prop} {ρ : Nat → Place} {s : St} {a : Act} {w : World} {M : Option Mode}

/-- a map type of numbers: its value's zero -/
def tMap (P : Program) (t : TypeId) (z : AV) : Bool :=
  match P.underlying t with
  | some (.map k e) => (match P.underlying k with | some (.int .i64) => true | _ => false) && z.flat && (match P.info? e with
    | some i => match i.zero with
      | some v => cval z v
      | none => false
    | none => false)
  | _ => false

theorem tMap_spec {t : TypeId} {z : AV} (h : tMap P t z = true) : ∃ k e v, P.underlying t = some (.map k e) ∧ P.underlying k = some (.int .i64) ∧ z.flat = true ∧ (∀ w, (zeroValue e).run P w = .ok v w) ∧ cval z v = true := by
  unfold tMap at h
  split at h
  · rename_i k e hu
    simp only [Bool.and_eq_true] at h
    obtain ⟨⟨h1, h2⟩, h3⟩ := h
    split at h1
    · rename_i hk
      split at h3
      · rename_i i hi
        split at h3
        · rename_i v hv
          exact ⟨k, e, v, hu, hk, h2, fun w => by simp [zeroValue, typeInfo, hi, hv], h3⟩
        · cases h3
      · cases h3
    · cases h1
  · cases h

theorem flat_any {x : AV} {v : Value} (hx : x.flat = true) (h : VR I w M x v) : ∀ I w M, VR I w M x v := by
  intro I' w' M'
  cases x <;> simp [AV.flat] at hx <;> simpa [VR] using h

/-- the entry of a key, found -/
theorem find_ent (n : Int) : ∀ (cs : List AV) (j : Nat) (es : List MapEntry), mEnt cs j es →
    (mfind n cs j = none ∧ Instr.findNow (.int .i64) (.int .i64 n) es j = some none) ∨
    ∃ i x e, mfind n cs j = some (j + i, x) ∧ es[i]? = some e ∧ e.key = .int .i64 n ∧ e.born = j + i ∧ x.flat = true ∧ (∀ I w M, VR I w M x e.val) ∧ 2 * i + 1 < cs.length ∧ Instr.findNow (.int .i64) (.int .i64 n) es j = some (some (j + i, e.val))
  | [], j, [], _ => .inl ⟨by simp [mfind], rfl⟩
  | [], _, _ :: _, h => by simp [mEnt] at h
  | [_], _, _, h => by simp [mEnt] at h
  | c :: x :: cs, j, [], h => by cases c <;> simp [mEnt] at h
  | c :: x :: cs, j, e :: es, h => by
    cases c <;> try simp [mEnt] at h
    rename_i k b
    cases k <;> try simp [mEnt] at h
    obtain ⟨h1, h2, h3, h4, h5⟩ := h
    simp only [Instr.findNow, h1, Instr.sameNow, if_true, mfind]
    by_cases hb : n = b
    · subst hb
      refine .inr ⟨0, x, e, ?_, rfl, h1, by omega, h2, h3, by simp, ?_⟩
      · simp
      · simp
    · rw [if_neg hb]
      have hb2 : (n == b) = false := by simpa using hb
      simp only [hb2]
      rcases find_ent n cs (j + 1) es h5 with ⟨k1, k2⟩ | ⟨i, y, f, k1, k2, k3, k4, k5, k6, k7, k8⟩
      · exact .inl ⟨k1, k2⟩
      · refine .inr ⟨i + 1, y, f, by rw [k1]; congr 2; omega, by simpa using k2, k3, by omega, k5, k6, by simp; omega, by rw [k8]; congr 3; omega⟩

theorem ent_len : ∀ (cs : List AV) (j : Nat) (es : List MapEntry), mEnt cs j es → cs.length = 2 * es.length
  | [], j, [], _ => rfl
  | [], _, _ :: _, h => by simp [mEnt] at h
  | [_], _, _, h => by simp [mEnt] at h
  | c :: x :: cs, j, [], h => by cases c <;> simp [mEnt] at h
  | c :: x :: cs, j, e :: es, h => by
    cases c <;> try simp [mEnt] at h
    rename_i k b
    cases k <;> try simp [mEnt] at h
    have := ent_len cs (j + 1) es h.2.2.2.2
    simp
    omega

theorem ent_push {n : Int} {z : AV} {e : MapEntry} (h1 : e.key = .int .i64 n) (h2 : z.flat = true) (h3 : ∀ I w M, VR I w M z e.val) : ∀ (cs : List AV) (j : Nat) (es : List MapEntry), mEnt cs j es → e.born = j + es.length → mEnt (cs ++ [.int .i64 n, z]) j (es ++ [e])
  | [], j, [], _, hb => by simp only [List.nil_append, mEnt]; exact ⟨h1, h2, h3, by simpa using hb, trivial⟩
  | [], _, _ :: _, h, _ => by simp [mEnt] at h
  | [_], _, _, h, _ => by simp [mEnt] at h
  | c :: x :: cs, j, [], h, _ => by cases c <;> simp [mEnt] at h
  | c :: x :: cs, j, f :: es, h, hb => by
    cases c <;> try simp [mEnt] at h
    rename_i k b
    cases k <;> try simp [mEnt] at h
    simp only [List.cons_append, mEnt]
    exact ⟨h.1, h.2.1, h.2.2.1, h.2.2.2.1, ent_push h1 h2 h3 cs (j + 1) es h.2.2.2.2 (by simp at hb; omega)⟩

theorem ent_get : ∀ (cs : List AV) (j : Nat) (es : List MapEntry) (i : Nat) (e : MapEntry), mEnt cs j es → es[i]? = some e → e.born = j + i
  | [], j, [], i, e, _, h => by simp at h
  | [], _, _ :: _, _, _, h, _ => by simp [mEnt] at h
  | [_], _, _, _, _, h, _ => by simp [mEnt] at h
  | c :: x :: cs, j, [], _, _, h, _ => by cases c <;> simp [mEnt] at h
  | c :: x :: cs, j, f :: es, i, e, h, he => by
    cases c <;> try simp [mEnt] at h
    rename_i k b
    cases k <;> try simp [mEnt] at h
    cases i with
    | zero => simp at he; subst he; simpa using h.2.2.2.1
    | succ i => have := ent_get cs (j + 1) es i e h.2.2.2.2 (by simpa using he); omega

/-- an entry's key said again, its value set -/
theorem ent_mod {z : AV} {u : Value} (h2 : z.flat = true) (h3 : ∀ I w M, VR I w M z u) (f : MapEntry → MapEntry) (hf : ∀ e, (f e).key = e.key ∧ (f e).val = u ∧ (f e).born = e.born) : ∀ (cs : List AV) (j : Nat) (es : List MapEntry) (i : Nat), mEnt cs j es → i < es.length →
    mEnt (wr cs (2 * i + 1) [z]) j (es.modify i f)
  | [], j, [], i, _, h => by simp at h
  | [], _, _ :: _, _, h, _ => by simp [mEnt] at h
  | [_], _, _, _, h, _ => by simp [mEnt] at h
  | c :: x :: cs, j, [], _, h, _ => by cases c <;> simp [mEnt] at h
  | c :: x :: cs, j, e :: es, i, h, hi => by
    cases c <;> try simp [mEnt] at h
    rename_i k b
    cases k <;> try simp [mEnt] at h
    cases i with
    | zero =>
      simp only [wr, List.modify_zero_cons, List.take_succ_cons, List.take_zero, List.length_cons, List.length_nil, List.drop_succ_cons, Nat.mul_zero, List.cons_append, List.nil_append, Nat.zero_add, List.drop_zero, mEnt]
      exact ⟨by rw [(hf e).1]; exact h.1, h2, by rw [(hf e).2.1]; exact h3, by rw [(hf e).2.2]; exact h.2.2.2.1, h.2.2.2.2⟩
    | succ i =>
      have ih := ent_mod h2 h3 f hf cs (j + 1) es i h.2.2.2.2 (by simpa using hi)
      have e1 : wr (.int .i64 b :: x :: cs) (2 * (i + 1) + 1) [z] = .int .i64 b :: x :: wr cs (2 * i + 1) [z] := by
        have e2 : 2 * (i + 1) + 1 = (2 * i + 1) + 1 + 1 := by omega
        simp only [wr, e2, List.take_succ_cons, List.cons_append, List.length_cons, List.length_nil, Nat.zero_add]
        rw [show 2 * i + 1 + 1 + 1 + 1 = (2 * i + 1 + 1) + 1 + 1 by omega, List.drop_succ_cons, List.drop_succ_cons]
      rw [e1]
      simp only [List.modify_succ_cons, mEnt]
      exact ⟨h.1, h.2.1, h.2.2.1, h.2.2.2.1, ih⟩

/-- an entry's key said again -/
theorem ent_same (f : MapEntry → MapEntry) : ∀ (cs : List AV) (j : Nat) (es : List MapEntry) (i : Nat), mEnt cs j es → (∀ e, es[i]? = some e → f e = e) → mEnt cs j (es.modify i f)
  | cs, j, es, i, h, hf => by
    have : es.modify i f = es := by
      apply List.ext_getElem?
      intro m
      rw [List.getElem?_modify]
      by_cases hm : i = m
      · subst hm
        cases he : es[i]? with
        | none => rfl
        | some e => simp [hf e he]
      · simp [hm]
    rw [this]
    exact h

theorem run_checkKey0 {k : TypeId} (hk : P.underlying k = some (.int .i64)) (b : Bool) (m : Nat) (n : Int) (w : World) : (Instr.checkKey b (m + 1) k (.int .i64 n)).run P w = .ok () w := by
  simp [Instr.checkKey, run_underlying hk]
theorem run_checkKey {k : TypeId} (hk : P.underlying k = some (.int .i64)) (b : Bool) (n : Int) (w : World) : (Instr.checkKey b 10000 k (.int .i64 n)).run P w = .ok () w := run_checkKey0 hk b 9999 n w

theorem run_findKey {k : TypeId} (hk : P.underlying k = some (.int .i64)) (n : Int) (es : List MapEntry) {r : Option (Nat × Value)} (h : Instr.findNow (.int .i64) (.int .i64 n) es 0 = some r) (w : World) : (Instr.findKey k (.int .i64 n) es).run P w = .ok r w := by
  simp [Instr.findKey, run_underlying hk, h]

theorem run_obj {r : Nat} {es : Array MapEntry} {c : Nat} (h : w.heap[r]? = some (.map es c)) : (getObj r).run P w = .ok (.map es c) w := by
  unfold getObj
  simp only [Sem.run, h]
theorem run_obj_set {r : Nat} {es : Array MapEntry} {c : Nat} (h : w.heap[r]? = some (.map es c)) (ob : Obj) : (setObj r ob).run P w = .ok () { w with heap := w.heap.setIfInBounds r ob } := by
  unfold setObj
  simp only [Sem.run, h]

variable {o : Oper} {ao : AOper} {C : Cs}

theorem sim_mkmap (hd : o.dst = ao.d) (hN : ∀ n, ao.d = some n → n < N) (t : TypeId) (ho : o.op = .makeMap t none) (hao : ao.op = .mkmap) : Sim P N o C ao := by
  intro w0 I0 I ρ s a w e K Q h he hK
  unfold eff at he
  rw [hao] at he
  simp only [] at he
  split at he
  · rename_i d hdd
    cases he
    have hr : (execOp a.eval o).run P w = .ok (.value (.map (some w.heap.size))) { w with heap := w.heap.push (.map #[] 0) } := by
      simp [execOp, ho, Instr.makeMap]
    have h1 := h.allocM d (below_push w _) (heap_push_new w (.map #[] 0))
    refine wp_of_run hr (hK I (fun b => if b = d then some (w.heap.size, 0) else ρ b) _ _ ?_)
    rw [hd]
    refine h1.putO hN (fun y hy => ?_)
    cases hy
    simp only [VR, modeOf]
    refine ⟨⟨_, rfl⟩, by simp [bump], fun L hL => ?_⟩
    simp [aliveA, bump, hlook_hput] at hL
    subst hL
    exact ⟨w.heap.size, 0, rfl, rfl⟩
  · cases he

theorem sim_mget (hd : o.dst = ao.d) (hN : ∀ n, ao.d = some n → n < N) (t : TypeId) (x y : Operand) (x' y' : AOpd) (z : AV) (ho : o.op = .lookup t x y false) (hao : ao.op = .mget x' y' z) (hx : mOpd x x' = true) (hy : mOpd y y' = true) (ht : tMap P t z = true) : Sim P N o C ao := by
  intro w0 I0 I ρ s a w e K Q h he hK
  obtain ⟨kt, et, zv, hu, hk, hz, hzr, hzv⟩ := tMap_spec ht
  unfold eff at he
  rw [hao] at he
  simp only [] at he
  have hxv := h.opd hx
  have hyv := h.opd hy
  split at he
  · rename_i b g n hp hq
    rw [hp] at hxv
    rw [hq] at hyv
    have hyv := VR_int hyv
    split at he
    · rename_i q hm
      obtain ⟨r, σ, es, hρ, hav, hl, hqt, hw, hent⟩ := h.mapped hm hxv
      have hobj : (getObj r).run P w = .ok (.map es es.size) w := run_obj hw
      rcases find_ent n q.cs 0 es.toList hent with ⟨h1, h2⟩ | ⟨i, x0, f, h1, h2, h3, h4, h5, h6, h7, h8⟩
      · unfold mgetV at he
        rw [h1] at he
        have he := val_ok he
        subst he
        refine close_val h hd hN hK (v := zv) ?_ (cval_VR _ _ hzv)
        simp [execOp, ho, hav, hyv, Instr.lookup, run_underlying hu, hobj, run_checkKey hk, run_findKey hk n es.toList h2, hzr]
      · unfold mgetV at he
        rw [h1] at he
        have he := val_ok he
        subst he
        refine close_val h hd hN hK (v := f.val) ?_ (h6 _ _ _)
        simp [execOp, ho, hav, hyv, Instr.lookup, run_underlying hu, hobj, run_checkKey hk, run_findKey hk n es.toList h8]
    · cases he
  · cases he

theorem run_stays {k : IntKind} {n : Int} (w : World) : (Instr.keyThatStays (.int k n) (.int k n)).run P w = .ok (.int k n) w := by
  have h : Instr.sameBits 10000 (.int k n) (.int k n) = true := by
    show Instr.sameBits (9999 + 1) (.int k n) (.int k n) = true
    simp [Instr.sameBits]
  simp [Instr.keyThatStays, h]

/-- one entry more -/
theorem push_ent {n : Int} {z : AV} {u : Value} (hz : z.flat = true) (hu : ∀ I w M, VR I w M z u) {cs : List AV} {es : Array MapEntry} (h : mEnt cs 0 es.toList) :
    mEnt (cs ++ [.int .i64 n, z]) 0 (es.push { key := .int .i64 n, val := u, born := es.size }).toList := by
  rw [Array.toList_push]
  exact ent_push (e := { key := .int .i64 n, val := u, born := es.size }) rfl hz hu cs 0 es.toList h (by simp)

theorem sim_ment (hd : o.dst = ao.d) (hN : ∀ n, ao.d = some n → n < N) (t : TypeId) (x y : Operand) (x' y' : AOpd) (z : AV) (ho : o.op = .mapEntry t x y) (hao : ao.op = .ment x' y' z) (hx : mOpd x x' = true) (hy : mOpd y y' = true) (ht : tMap P t z = true) : Sim P N o C ao := by
  intro w0 I0 I ρ s a w e K Q h he hK
  obtain ⟨kt, et, zv, hu, hk, hz, hzr, hzv⟩ := tMap_spec ht
  unfold eff at he
  rw [hao] at he
  simp only [] at he
  have hxv := h.opd hx
  have hyv := h.opd hy
  split at he
  · rename_i b g n hp hq
    rw [hp] at hxv
    rw [hq] at hyv
    have hyv := VR_int hyv
    split at he
    · rename_i q hm
      split at he
      · rename_i hfz
        obtain ⟨r, σ, es, hρ, hav, hl, hqt, hw, hent⟩ := h.mapped hm hxv
        have hr : r < w.heap.size := (Array.getElem?_eq_some_iff.1 hw).1
        have hobj : (getObj r).run P w = .ok (.map es es.size) w := run_obj hw
        rcases find_ent n q.cs 0 es.toList hent with ⟨h1, h2⟩ | ⟨i, x0, f, h1, h2, h3, h4, h5, h6, h7, h8⟩
        · rw [h1] at he
          cases he
          have hzu : ∀ I w M, VR I w M z zv := fun _ _ _ => cval_VR _ _ hzv
          have hR := h.setM hl hfz hqt hρ (q.cs ++ [.int .i64 n, z]) (es.push { key := .int .i64 n, val := zv, born := es.size }) hr (push_ent hz hzu hent)
          refine wp_of_run (v := .tuple #[zv, goInt es.size]) (w' := { w with heap := w.heap.setIfInBounds r (.map (es.push { key := .int .i64 n, val := zv, born := es.size }) (es.push { key := .int .i64 n, val := zv, born := es.size }).size) }) ?_ (hK I ρ _ _ ?_)
          · simp [execOp, ho, hav, hyv, Instr.mapEntry, run_underlying hu, hobj, run_checkKey hk, run_findKey hk n es.toList h2, hzr, run_obj_set hw]
          · rw [hd]
            refine hR.putO hN (fun y hy => ?_)
            cases hy
            have e1 : q.cs.length / 2 = es.size := by have := ent_len _ _ _ hent; simp at this; omega
            simp only [VR, VRs]
            exact ⟨[zv, goInt es.size], rfl, hzu _ _ _, by rw [e1]; rfl, trivial⟩
        · rw [h1] at he
          cases he
          have hf : es[i]? = some f := by simpa using h2
          have hR := h.setM hl hfz hqt hρ q.cs (es.modify i fun e => { e with key := .int .i64 n }) hr (by
            rw [Array.toList_modify]
            exact ent_same _ q.cs 0 es.toList i hent (fun e he => by rw [h2] at he; cases he; rw [← h3]))
          refine wp_of_run (v := .tuple #[f.val, goInt i]) (w' := { w with heap := w.heap.setIfInBounds r (.map (es.modify i fun e => { e with key := .int .i64 n }) (es.modify i fun e => { e with key := .int .i64 n }).size) }) ?_ (hK I ρ _ _ ?_)
          · simp [execOp, ho, hav, hyv, Instr.mapEntry, run_underlying hu, hobj, run_checkKey hk, run_findKey hk n es.toList h8, hf, h3, h4, run_stays, run_obj_set hw]
          · rw [hd]
            refine hR.putO hN (fun y hy => ?_)
            cases hy
            simp only [VR, VRs]
            exact ⟨[f.val, goInt i], rfl, h6 _ _ _, by simp [goInt, VR], trivial⟩
      · cases he
    · cases he
  · cases he

theorem findIdx_born : ∀ (cs : List AV) (j : Nat) (es : List MapEntry) (i : Nat), mEnt cs j es → i < es.length → es.findIdx? (fun e => (e.born : Int) == ((j + i : Nat) : Int)) = some i
  | [], j, [], i, _, h => by simp at h
  | [], _, _ :: _, _, h, _ => by simp [mEnt] at h
  | [_], _, _, _, h, _ => by simp [mEnt] at h
  | c :: x :: cs, j, [], _, h, _ => by cases c <;> simp [mEnt] at h
  | c :: x :: cs, j, e :: es, i, h, hi => by
    cases c <;> try simp [mEnt] at h
    rename_i k b
    cases k <;> try simp [mEnt] at h
    rw [List.findIdx?_cons, h.2.2.2.1]
    cases i with
    | zero => simp
    | succ i =>
      have ih := findIdx_born cs (j + 1) es i h.2.2.2.2 (by simpa using hi)
      have e1 : ((j : Int) == ((j + (i + 1) : Nat) : Int)) = false := by rw [beq_eq_false_iff_ne]; omega
      rw [e1]
      rw [show j + (i + 1) = j + 1 + i by omega, ih]
      rfl

theorem sim_mset (hd : o.dst = ao.d) (hN : ∀ n, ao.d = some n → n < N) (t : TypeId) (x y v : Operand) (x' y' v' : AOpd) (ho : o.op = .entryStore t x y v) (hao : ao.op = .mset x' y' v') (hx : mOpd x x' = true) (hy : mOpd y y' = true) (hv : mOpd v v' = true) : Sim P N o C ao := by
  intro w0 I0 I ρ s a w e K Q h he hK
  unfold eff at he
  rw [hao] at he
  simp only [] at he
  have hxv := h.opd hx
  have hyv := h.opd hy
  have hvv := h.opd hv
  split at he
  · rename_i b g n hp hq
    rw [hp] at hxv
    rw [hq] at hyv
    have hyv := VR_int hyv
    split at he
    · rename_i q hm
      split at he
      · rename_i hc
        obtain ⟨hfz, hn0, hn1, hfl⟩ := hc
        cases he
        obtain ⟨r, σ, es, hρ, hav, hl, hqt, hw, hent⟩ := h.mapped hm hxv
        have hr : r < w.heap.size := (Array.getElem?_eq_some_iff.1 hw).1
        have hobj : (getObj r).run P w = .ok (.map es es.size) w := run_obj hw
        obtain ⟨i, rfl⟩ : ∃ i : Nat, n = i := ⟨n.toNat, by omega⟩
        have hlen := ent_len _ _ _ hent
        have hi : i < es.toList.length := by simp only [Int.toNat_natCast] at hn1; omega
        have hfi := findIdx_born q.cs 0 es.toList i hent hi
        have hR := h.setM hl hfz hqt hρ (wr q.cs (2 * i + 1) [opv s v']) (es.modify i fun e => { e with val := a.eval v }) hr (by
          rw [Array.toList_modify]
          exact ent_mod hfl (flat_any hfl hvv) (fun e => { e with val := a.eval v }) (fun e => ⟨rfl, rfl, rfl⟩) q.cs 0 es.toList i hent hi)
        refine wp_of_skip (w' := { w with heap := w.heap.setIfInBounds r (.map (es.modify i fun e => { e with val := a.eval v }) (es.modify i fun e => { e with val := a.eval v }).size) }) ?_ (hK I ρ _ _ ?_)
        · have hfi2 : es.findIdx? (fun e => (e.born : Int) == (i : Int)) = some i := by
            have e0 : es = es.toList.toArray := by simp
            rw [e0, List.findIdx?_toArray]
            simpa using hfi
          simp [execOp, ho, hav, hyv, Instr.entryStore, hobj, asInt, asIntOf, hfi2, run_obj_set hw]
        · rw [hd]
          simp only [Int.toNat_natCast]
          exact hR.putO hN (fun y hy => by cases hy)
      · cases he
    · cases he
  · cases he

theorem sim_mupd (hd : o.dst = ao.d) (hN : ∀ n, ao.d = some n → n < N) (t : TypeId) (x y v : Operand) (x' y' v' : AOpd) (z : AV) (ho : o.op = .mapUpdate t x y v) (hao : ao.op = .mupd x' y' v') (hx : mOpd x x' = true) (hy : mOpd y y' = true) (hv : mOpd v v' = true) (ht : tMap P t z = true) : Sim P N o C ao := by
  intro w0 I0 I ρ s a w e K Q h he hK
  obtain ⟨kt, et, zv, hu, hk, hz, hzr, hzv⟩ := tMap_spec ht
  unfold eff at he
  rw [hao] at he
  simp only [] at he
  have hxv := h.opd hx
  have hyv := h.opd hy
  have hvv := h.opd hv
  split at he
  · rename_i b g n hp hq
    rw [hp] at hxv
    rw [hq] at hyv
    have hyv := VR_int hyv
    split at he
    · rename_i q hm
      split at he
      · rename_i hc
        obtain ⟨hfz, hfl⟩ := hc
        obtain ⟨r, σ, es, hρ, hav, hl, hqt, hw, hent⟩ := h.mapped hm hxv
        have hr : r < w.heap.size := (Array.getElem?_eq_some_iff.1 hw).1
        have hobj : (getObj r).run P w = .ok (.map es es.size) w := run_obj hw
        rcases find_ent n q.cs 0 es.toList hent with ⟨h1, h2⟩ | ⟨i, x0, f, h1, h2, h3, h4, h5, h6, h7, h8⟩
        · cases he
          unfold mputV at hK
          rw [h1] at hK
          have hR := h.setM hl hfz hqt hρ (q.cs ++ [.int .i64 n, opv s v']) (es.push { key := .int .i64 n, val := a.eval v, born := es.size }) hr (push_ent hfl (flat_any hfl hvv) hent)
          refine wp_of_skip (w' := { w with heap := w.heap.setIfInBounds r (.map (es.push { key := .int .i64 n, val := a.eval v, born := es.size }) (es.push { key := .int .i64 n, val := a.eval v, born := es.size }).size) }) ?_ (hK I ρ _ _ ?_)
          · simp [execOp, ho, hav, hyv, Instr.mapUpdate, run_underlying hu, hobj, run_checkKey hk, run_findKey hk n es.toList h2, run_obj_set hw]
          · rw [hd]
            exact hR.putO hN (fun y hy => by cases hy)
        · cases he
          unfold mputV at hK
          rw [h1] at hK
          have hf : es[i]? = some f := by simpa using h2
          have hi : i < es.toList.length := by
            have := ent_len _ _ _ hent
            omega
          have hR := h.setM hl hfz hqt hρ (wr q.cs (2 * i + 1) [opv s v']) (es.modify i fun e => { e with key := .int .i64 n, val := a.eval v }) hr (by
            rw [Array.toList_modify]
            have e1 : es.toList.modify i (fun e => { e with key := .int .i64 n, val := a.eval v }) = es.toList.modify i (fun e => { e with val := a.eval v }) := by
              apply List.ext_getElem?
              intro m
              rw [List.getElem?_modify, List.getElem?_modify]
              by_cases hm : i = m
              · subst hm
                rw [h2]
                simp [h3]
              · simp [hm]
            rw [e1]
            exact ent_mod hfl (flat_any hfl hvv) (fun e => { e with val := a.eval v }) (fun e => ⟨rfl, rfl, rfl⟩) q.cs 0 es.toList i hent hi)
          refine wp_of_skip (w' := { w with heap := w.heap.setIfInBounds r (.map (es.modify i fun e => { e with key := .int .i64 n, val := a.eval v }) (es.modify i fun e => { e with key := .int .i64 n, val := a.eval v }).size) }) ?_ (hK I ρ _ _ ?_)
          · simp [execOp, ho, hav, hyv, Instr.mapUpdate, run_underlying hu, hobj, run_checkKey hk, run_findKey hk n es.toList h8, hf, h3, run_stays, run_obj_set hw]
          · rw [hd]
            simp only [Nat.zero_add]
            exact hR.putO hN (fun y hy => by cases hy)
      · cases he
    · cases he
  · cases he
end
end Go.Am
