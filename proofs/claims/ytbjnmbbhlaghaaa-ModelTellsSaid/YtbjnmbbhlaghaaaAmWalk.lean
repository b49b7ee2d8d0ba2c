/- AM: regions (in the text's order, or in any), and a whole function's text: what AM says of it holds of the model's run. -/
import Derived.Test.YtbjnmbbhlaghaaaAmCode
namespace Go.Am
set_option linter.unusedSimpArgs false
set_option linter.unusedVariables false
open Go.RowKit

/-! ### one operation, its guard and all -/
def mGuard (N : Nat) (ops : Array Oper) (o : Oper) (a : AOper) : Bool :=
  match o.guard, a.gd with
  | none, none => true
  | some (j, want), some (g, want') => decide ((ops[j]?).bind (·.dst) = some g) && (decide (g < N) && decide (want = want'))
  | _, _ => false

def mOper (P : Program) (N : Nat) (ops : Array Oper) (o : Oper) (a : AOper) : Bool :=
  decide (o.dst = a.d) && ((match a.d with | some d => decide (d < N) | none => true) && (mGuard N ops o a && mOp P o.op a.op))

def mOpers (P : Program) (N : Nat) (ops : Array Oper) : List Oper → List AOper → Bool
  | [], [] => true
  | o :: os, a :: as => mOper P N ops o a && mOpers P N ops os as
  | _, _ => false

section
variable {P : Program} {w0 : Base} {I0 : Nat → Prop} {N : Nat} {I : Nat → Prop} {ρ : Nat → Place} {s : St} {a : Act} {w : World} {C : Cs} {ops : Array Oper}

theorem mOper_spec {o : Oper} {ao : AOper} (h : mOper P N ops o ao = true) : o.dst = ao.d ∧ (∀ n, ao.d = some n → n < N) ∧ mGuard N ops o ao = true ∧ mOp P o.op ao.op = true := by
  unfold mOper at h
  simp only [Bool.and_eq_true, decide_eq_true_eq] at h
  refine ⟨h.1, fun n hn => ?_, h.2.2.1, h.2.2.2⟩
  have := h.2.1
  rw [hn] at this
  simpa using this

theorem R.eqv (h : R w0 I0 N I ρ s a w) {s' : St} (he : Eqv s s') : R w0 I0 N I ρ s' a w := by
  have hg : s'.g = s.g := funext he.g
  have hm : modeOf s' ρ = modeOf s ρ := by
    unfold modeOf
    congr 2
    funext b g
    simp only [aliveA, he.g, he.h]
  refine { defers := h.defers, size := h.size, below := h.below, imm := h.imm, old := h.old, new := h.new, kept := fun b hb hg' => h.kept b hb (by rw [← hg']; exact (he.g b).symm), tm := fun t => ?_, hp := fun b k hk => ?_, inj := fun b b' k k' r σ σ' hk hk' => h.inj b b' k k' r σ σ' (by rw [← he.h]; exact hk) (by rw [← he.h]; exact hk') }
  · rw [hm, he.t]; exact h.tm t
  · rw [hm]; exact h.hp b k (by rw [← he.h]; exact hk)

theorem oper_wp (hC : ∀ f, Contract P f (C f)) {i : Nat} {o : Oper} {ao : AOper} {s1 : St} {K : Act → World → Prop} {Q : Exit → Act → World → Prop}
    (hm : mOper P N ops o ao = true) (ho : ops[i]? = some o) (h : R w0 I0 N I ρ s a w) (he : evOper C s ao = .ok s1)
    (hK : ∀ I' ρ' a' w', R w0 I0 N I' ρ' s1 a' w' → K a' w') : wpOp P ops Q i K a w := by
  obtain ⟨hd, hN, hg, hop⟩ := mOper_spec hm
  have hsim := mOp_sound hC hd hN hop
  unfold wpOp
  simp only [ho]
  have hok : ∀ r, ap ao.d s r = .ok s1 → ∃ e, r = .ok e ∧ s1 = app ao.d e s := by
    intro r hr
    cases r with
    | ok e => simp only [ap] at hr; cases hr; exact ⟨e, rfl, rfl⟩
    | fail => cases hr
    | vac => cases hr
  unfold evOper at he
  unfold mGuard at hg
  split at hg
  · rename_i h1 h2
    rw [h2] at he
    simp only [] at he
    obtain ⟨e, he1, rfl⟩ := hok _ he
    rw [if_pos (by simp [Region.wanted, h1])]
    exact .inl (hsim w0 I0 I ρ s a w e K Q h he1 hK)
  · rename_i j want g want' h1 h2
    simp only [Bool.and_eq_true, decide_eq_true_eq] at hg
    obtain ⟨hj, hgN, rfl⟩ := hg
    rw [h2] at he
    simp only [] at he
    have hy : ∀ t, look s.t g = .bool t → yielded ops a.tmps j = some t := by
      intro t ht
      have h3 := h.tm g
      rw [ht] at h3
      have h4 := VR_bool h3
      have hlt : g < a.tmps.size := by rw [h.size]; exact hgN
      unfold yielded
      rw [hj]
      simp only [Option.bind_some]
      simp only [Array.getD, hlt, dif_pos] at h4
      rw [Array.getElem?_eq_getElem hlt]
      have h5 : a.tmps[g] = .bool t := h4
      rw [h5]
    split at he
    · rename_i t ht
      split at he
      · rename_i hw
        obtain ⟨e, he1, rfl⟩ := hok _ he
        rw [if_pos (by simp [Region.wanted, h1, hy t ht, hw])]
        exact .inl (hsim w0 I0 I ρ s a w e K Q h he1 hK)
      · rename_i hw
        cases he
        rw [if_neg (by simp [Region.wanted, h1, hy t ht, hw])]
        rw [hd]
        exact hK I ρ _ _ (h.putO hN (fun y hy => by cases hy; simp [VR]))
    · rename_i ht
      cases he
      have hu : yielded ops a.tmps j ≠ some want := by
        have h3 := h.tm g
        rw [ht] at h3
        have h4 : a.tmps.getD g undef = undef := by simpa [VR] using h3
        have hlt : g < a.tmps.size := by rw [h.size]; exact hgN
        unfold yielded
        rw [hj]
        simp only [Option.bind_some]
        simp only [Array.getD, hlt, dif_pos] at h4
        rw [Array.getElem?_eq_getElem hlt]
        have h5 : a.tmps[g] = undef := h4
        rw [h5]
        simp [undef]
      rw [if_neg (by simp [Region.wanted, h1, hu])]
      rw [hd]
      exact hK I ρ _ _ (h.putO hN (fun y hy => by cases hy; simp [VR]))
    · cases he
  · cases hg

theorem wp_some {o : Oper} {K : Act → World → Prop} (h : o.wp P a w K (fun _ _ _ => False)) : ∃ a' w', K a' w' := by
  unfold Oper.wp at h
  generalize (execOp a.eval o).run P w = r at h
  cases r with
  | ok n w' =>
    cases n <;> simp only [Oper.upon] at h
    case value => exact ⟨_, _, h⟩
    case skip => exact ⟨_, _, h⟩
    case defer => exact ⟨_, _, h⟩
    case enter =>
      obtain ⟨e, w'', fr, hR, _⟩ := h []
      cases e with
      | returned v => exact ⟨_, _, hR⟩
      | panicked c => exact hR.elim
      | outgrown => obtain ⟨_, _, hf⟩ := hR; exact hf.elim
    case row =>
      obtain ⟨v, w'', hR, _⟩ := h default []
      exact ⟨_, _, hR⟩
  | halt x w' => cases x <;> simp only [Oper.upon] at h

theorem wpOp_some {i : Nat} {o : Oper} (ho : ops[i]? = some o) {K : Act → World → Prop} (h : wpOp P ops (fun _ _ _ => False) i K a w) : ∃ a' w', K a' w' := by
  unfold wpOp at h
  simp only [ho] at h
  split at h
  · rcases h with h | ⟨_, _, _, h⟩
    · exact wp_some h
    · exact h.elim
  · exact ⟨_, _, h⟩

/-- how the two rows of operations go together -/
structure Fits (P : Program) (N : Nat) (ops : Array Oper) (l : List AOper) : Prop where
  len : ops.size = l.length
  m : ∀ (i : Nat) (o : Oper) (ao : AOper), ops[i]? = some o → l[i]? = some ao → mOper P N ops o ao = true

theorem mOpers_spec : ∀ {os : List Oper} {l : List AOper}, mOpers P N ops os l = true → os.length = l.length ∧ ∀ (i : Nat) (o : Oper) (ao : AOper), os[i]? = some o → l[i]? = some ao → mOper P N ops o ao = true
  | [], [], _ => ⟨rfl, fun i o ao h => by simp at h⟩
  | [], _ :: _, h => by simp [mOpers] at h
  | _ :: _, [], h => by simp [mOpers] at h
  | o :: os, a :: as, h => by
    simp only [mOpers, Bool.and_eq_true] at h
    obtain ⟨h1, h2⟩ := mOpers_spec h.2
    refine ⟨by simp [h1], fun i o' ao' ho ha => ?_⟩
    cases i with
    | zero => simp at ho ha; subst ho; subst ha; exact h.1
    | succ i => exact h2 i o' ao' (by simpa using ho) (by simpa using ha)

theorem Fits.of {l : List AOper} (h : mOpers P N ops ops.toList l = true) : Fits P N ops l := by
  obtain ⟨h1, h2⟩ := mOpers_spec h
  exact ⟨by simpa using h1, fun i o ao ho ha => h2 i o ao (by simpa using ho) ha⟩

theorem Fits.get {l : List AOper} (h : Fits P N ops l) {i : Nat} (hi : i < l.length) : ∃ o, ops[i]? = some o ∧ mOper P N ops o (l.getD i default) = true := by
  have hs : i < ops.size := by rw [h.len]; exact hi
  refine ⟨ops[i], Array.getElem?_eq_getElem hs, h.m i _ _ (Array.getElem?_eq_getElem hs) ?_⟩
  rw [List.getD_eq_getElem?_getD, List.getElem?_eq_getElem hi]; try rfl

/-- nothing ends in silence: a run's end is an end -/
theorem evOper_novac (hC : ∀ f, Contract P f (C f)) {i : Nat} {o : Oper} {ao : AOper} (hm : mOper P N ops o ao = true) (h : R w0 I0 N I ρ s a w) : evOper C s ao ≠ .vac := by
  obtain ⟨hd, hN, hg, hop⟩ := mOper_spec hm
  have := no_vac (C := C) hop h
  intro he
  unfold evOper at he
  have hap : ∀ r, ap ao.d s r = .vac → r = .vac := by intro r hr; cases r <;> first | rfl | cases hr
  split at he
  · exact this (hap _ he)
  · split at he
    · split at he
      · exact this (hap _ he)
      · cases he
    · cases he
    · cases he

theorem evOps_novac (hC : ∀ f, Contract P f (C f)) {l : List AOper} (hf : Fits P N ops l) : ∀ (is : List Nat) {I : Nat → Prop} {ρ : Nat → Place} {s : St} {a : Act} {w : World}, (∀ i ∈ is, i < l.length) → R w0 I0 N I ρ s a w →
    evOps C (is.map (l.getD · default)) s ≠ .vac
  | [], _, _, _, _, _, _, _ => by simp [evOps]
  | i :: is, I, ρ, s, a, w, hi, h => by
    obtain ⟨o, ho, hm⟩ := hf.get (hi i (by simp))
    simp only [List.map_cons, evOps]
    split
    · rename_i s' he
      have hw := oper_wp (K := fun a' w' => ∃ I' ρ', R w0 I0 N I' ρ' s' a' w') (Q := fun _ _ _ => False) hC hm ho h he (fun I' ρ' a' w' hr => ⟨I', ρ', hr⟩)
      obtain ⟨a', w', I', ρ', hr⟩ := wpOp_some ho hw
      exact evOps_novac hC hf is (fun j hj => hi j (by simp [hj])) hr
    · simp
    · rename_i he
      exact absurd he (evOper_novac hC (i := i) hm h)

theorem range_map (l : List AOper) : (List.range l.length).map (l.getD · default) = l := by
  apply List.ext_getElem
  · simp
  · intro i h1 h2
    simp [h2]

theorem wpOps_run (hC : ∀ f, Contract P f (C f)) {l : List AOper} (hf : Fits P N ops l) {Q : Exit → Act → World → Prop} {sf : St} (hQ : ∀ I' ρ' a' w', R w0 I0 N I' ρ' sf a' w' → Q .normal a' w') :
    ∀ (is : List Nat) {I : Nat → Prop} {ρ : Nat → Place} {s : St} {a : Act} {w : World}, (∀ i ∈ is, i < l.length) → R w0 I0 N I ρ s a w → evOps C (is.map (l.getD · default)) s = .ok sf → wpOps P ops Q is a w
  | [], I, ρ, s, a, w, _, h, he => by
    simp only [List.map_nil, evOps] at he
    cases he
    exact hQ _ _ _ _ h
  | i :: is, I, ρ, s, a, w, hi, h, he => by
    obtain ⟨o, ho, hm⟩ := hf.get (hi i (by simp))
    rw [wpOps_cons]
    simp only [List.map_cons, evOps] at he
    split at he
    · rename_i s' he1
      exact oper_wp hC hm ho h he1 (fun I' ρ' a' w' hr => wpOps_run hC hf hQ is (fun j hj => hi j (by simp [hj])) hr he)
    · cases he
    · cases he

/-! ### any order -/
def befOf (o : Oper) (acc : List Nat) : Nat := o.after.toList.foldl (fun m e => if Region.binds .any e then m ||| (2 ^ e.on ||| acc.getD e.on 0) else m) 0
def befs : List Oper → List Nat → List Nat
  | [], acc => acc
  | o :: os, acc => befs os (acc ++ [befOf o acc])

inductive Anc (ops : Array Oper) : Nat → Nat → Prop
  | one {i : Nat} {o : Oper} {e : Edge} (ho : ops[i]? = some o) (he : e ∈ o.after) (hb : Region.binds .any e = true) : Anc ops i e.on
  | more {i j : Nat} {o : Oper} {e : Edge} (ho : ops[i]? = some o) (he : e ∈ o.after) (hb : Region.binds .any e = true) (h : Anc ops e.on j) : Anc ops i j

theorem befOf_spec {acc : List Nat} {j : Nat} : ∀ (es : List Edge) (m : Nat), (es.foldl (fun m e => if Region.binds .any e then m ||| (2 ^ e.on ||| acc.getD e.on 0) else m) m).testBit j = true →
    m.testBit j = true ∨ ∃ e ∈ es, Region.binds .any e = true ∧ (e.on = j ∨ (acc.getD e.on 0).testBit j = true)
  | [], m, h => .inl h
  | e :: es, m, h => by
    simp only [List.foldl_cons] at h
    rcases befOf_spec es _ h with h1 | ⟨e', he', hb, h2⟩
    · split at h1
      · rename_i hb
        simp only [Nat.testBit_or, Bool.or_eq_true] at h1
        rcases h1 with h1 | h1 | h1
        · exact .inl h1
        · refine .inr ⟨e, by simp, hb, .inl ?_⟩
          rw [Nat.testBit_two_pow] at h1
          simpa using h1
        · exact .inr ⟨e, by simp, hb, .inr h1⟩
      · exact .inl h1
    · exact .inr ⟨e', by simp [he'], hb, h2⟩

theorem befs_spec : ∀ (os : List Oper) (acc : List Nat), (∀ i o, os[i]? = some o → ops[acc.length + i]? = some o) → (∀ i j, (acc.getD i 0).testBit j = true → Anc ops i j) → ∀ i j, ((befs os acc).getD i 0).testBit j = true → Anc ops i j
  | [], acc, _, h, i, j, hb => h i j hb
  | o :: os, acc, ho, h, i, j, hb => by
    refine befs_spec os (acc ++ [befOf o acc]) (fun k o' hk => ?_) (fun k j hk => ?_) i j hb
    · have := ho (k + 1) o' (by simpa using hk)
      simp only [List.length_append, List.length_singleton]
      rw [← this]
      congr 1
      omega
    · rw [List.getD_eq_getElem?_getD, List.getElem?_append] at hk
      split at hk
      · exact h k j (by rw [List.getD_eq_getElem?_getD]; exact hk)
      · rename_i hge
        by_cases hke : k = acc.length
        · subst hke
          simp only [Nat.sub_self, List.getElem?_cons_zero, Option.getD_some] at hk
          have hok := ho 0 o rfl
          simp only [Nat.add_zero] at hok
          unfold befOf at hk
          rcases befOf_spec _ _ hk with h0 | ⟨e, he, hb, h1⟩
          · simp at h0
          · have he' : e ∈ o.after := by simpa using he
            rcases h1 with rfl | h1
            · exact .one hok he' hb
            · exact .more hok he' hb (h _ _ h1)
        · rw [List.getElem?_eq_none (by simp; omega)] at hk
          simp at hk

def ordOk (ops : Array Oper) (l : List AOper) : Bool :=
  let bs := befs ops.toList []
  ((List.range ops.size).all fun i => ((ops.getD i default).after.toList.all fun e => !Region.binds .any e || decide (e.on < i))) &&
  ((List.range l.length).all fun i => (List.range i).all fun j => (bs.getD i 0).testBit j || commute (l.getD j default) (l.getD i default))

structure Ord (ops : Array Oper) (l : List AOper) : Prop where
  early : ∀ i o, ops[i]? = some o → ∀ e ∈ o.after, Region.binds .any e = true → e.on < i
  comm : ∀ i j, i < l.length → j < i → Anc ops i j ∨ commute (l.getD j default) (l.getD i default) = true

theorem Ord.of {l : List AOper} (h : ordOk ops l = true) : Ord ops l := by
  unfold ordOk at h
  simp only [Bool.and_eq_true] at h
  obtain ⟨h1, h2⟩ := h
  rw [List.all_eq_true] at h1 h2
  refine ⟨fun i o ho e he hb => ?_, fun i j hi hj => ?_⟩
  · have hi : i < ops.size := by
      rcases Nat.lt_or_ge i ops.size with h | h
      · exact h
      · rw [Array.getElem?_eq_none h] at ho; cases ho
    have := h1 i (by simpa using hi)
    rw [List.all_eq_true] at this
    have hoo : ops.getD i default = o := by
      rw [Array.getElem?_eq_getElem hi] at ho
      simp only [Array.getD, hi, dif_pos]
      simpa using ho
    rw [hoo] at this
    have := this e (by simpa using he)
    simpa [hb] using this
  · have := h2 i (by simpa using hi)
    rw [List.all_eq_true] at this
    have := this j (by simpa using hj)
    simp only [Bool.or_eq_true] at this
    rcases this with h | h
    · exact .inl (befs_spec (ops := ops) ops.toList [] (fun k o hk => by simpa using hk) (fun k j hk => by simp at hk) i j h)
    · exact .inr h

theorem getD_lit {listed : Array Bool} {n i : Nat} (hs : listed.size = n) (hi : i < n) (d d' : Bool) : listed.getD i d = listed.getD i d' := by
  simp [Array.getD, hs, hi]

theorem wpAny_run (hC : ∀ f, Contract P f (C f)) {l : List AOper} (hf : Fits P N ops l) (hord : Ord ops l) {Q : Exit → Act → World → Prop} {sf : St} (hQ : ∀ I' ρ' a' w', R w0 I0 N I' ρ' sf a' w' → Q .normal a' w') :
    ∀ (fuel : Nat) (rem : List Nat) (listed : Array Bool) {sg : St} {I : Nat → Prop} {ρ : Nat → Place} {s : St} {a : Act} {w : World}, rem.length = fuel → listed.size = ops.size → rem.Pairwise (· < ·) →
      (∀ i, i ∈ rem ↔ i < ops.size ∧ listed.getD i false = false) →
      (∀ i o, ops[i]? = some o → listed.getD i false = true → ∀ e ∈ o.after, Region.binds .any e = true → listed.getD e.on false = true) →
      R w0 I0 N I ρ s a w → evOps C (rem.map (l.getD · default)) s = .ok sg → Eqv sf sg → wpAny P .any ops Q fuel listed a w := by
  intro fuel
  induction fuel with
  | zero =>
    intro rem listed sg I ρ s a w hl hsz hpw hrem hdown h he hq
    have hnil : rem = [] := by simpa using hl
    subst hnil
    simp only [List.map_nil, evOps] at he
    cases he
    refine ⟨?_, hQ _ _ _ _ (h.eqv hq.symm)⟩
    rw [List.eq_nil_iff_forall_not_mem]
    intro i hi
    rw [mem_ready] at hi
    obtain ⟨h2, o, h3, h4⟩ := hi
    have hlt : i < ops.size := (Array.getElem?_eq_some_iff.1 h3).1
    have : i ∈ ([] : List Nat) := by
      rw [hrem]
      exact ⟨hlt, by rw [getD_lit hsz hlt false true]; exact h2⟩
    simp at this
  | succ fuel ih =>
    intro rem listed sg I ρ s a w hl hsz hpw hrem hdown h he hq
    have hready : ∀ i, i ∈ Region.ready .any ops listed ↔ i ∈ rem ∧ ∃ o, ops[i]? = some o ∧ ∀ e ∈ o.after, Region.binds .any e = true → listed.getD e.on false = true := by
      intro i
      rw [mem_ready, hrem]
      constructor
      · rintro ⟨h2, o, h3, h4⟩
        have h1 : i < ops.size := (Array.getElem?_eq_some_iff.1 h3).1
        exact ⟨⟨h1, by rw [getD_lit hsz h1 false true]; exact h2⟩, o, h3, h4⟩
      · rintro ⟨⟨h1, h2⟩, o, h3, h4⟩
        exact ⟨by rw [getD_lit hsz h1 true false]; exact h2, o, h3, h4⟩
    refine ⟨fun hnil => ?_, fun i hi => ?_⟩
    · exfalso
      match rem, hl, hpw, hrem, hready with
      | x :: rem, hl, hpw, hrem, hready =>
        have hx := (hrem x).1 (by simp)
        have : x ∈ Region.ready .any ops listed := by
          rw [hready]
          refine ⟨by simp, ops[x]'hx.1, Array.getElem?_eq_getElem hx.1, fun e he hb => ?_⟩
          have hlt := hord.early x _ (Array.getElem?_eq_getElem hx.1) e he hb
          have hno : e.on ∉ x :: rem := by
            intro hm
            simp only [List.mem_cons] at hm
            rcases hm with hm | hm
            · omega
            · have := (List.pairwise_cons.1 hpw).1 _ hm; omega
          have hes : e.on < ops.size := by omega
          rw [hrem] at hno
          have : ¬ listed.getD e.on false = false := fun hc => hno ⟨hes, hc⟩
          simpa using this
        rw [hnil] at this
        simp at this
    · obtain ⟨him, o, ho, hedges⟩ := (hready i).1 hi
      obtain ⟨r1, r2, rfl⟩ := List.append_of_mem him
      have hin := (hrem i).1 him
      have hil : i < l.length := by rw [← hf.len]; exact hin.1
      have hanc : ∀ i j, Anc ops i j → (∀ o, ops[i]? = some o → ∀ e ∈ o.after, Region.binds .any e = true → listed.getD e.on false = true) → listed.getD j false = true := by
        intro i j hA
        induction hA with
        | one ho he hb => intro hh; exact hh _ ho _ he hb
        | more ho he hb _ ih => intro hh; exact ih (fun o' ho' e' he' hb' => hdown _ o' ho' (hh _ ho _ he hb) e' he' hb')
      have hcomm : ∀ x ∈ r1.map (l.getD · default), commute x (l.getD i default) = true := by
        intro x hx
        obtain ⟨j, hj, rfl⟩ := List.mem_map.1 hx
        have hji : j < i := by
          rw [List.pairwise_append] at hpw
          exact hpw.2.2 j hj i (by simp)
        rcases hord.comm i j hil hji with hA | hc
        · have h1 := hanc i j hA (fun o' ho' => by rw [ho] at ho'; cases ho'; exact hedges)
          have h2 := (hrem j).1 (by simp [hj])
          rw [h2.2] at h1; cases h1
        · exact hc
      rw [List.map_append, List.map_cons] at he
      obtain ⟨s1, he1, sf', he2, hq'⟩ := ahead _ hcomm he
      obtain ⟨o', ho', hm⟩ := hf.get hil
      refine oper_wp hC hm ho' h he1 (fun I' ρ' a' w' hr => ?_)
      have hpw' : (r1 ++ r2).Pairwise (· < ·) := by
        rw [List.pairwise_append] at hpw ⊢
        exact ⟨hpw.1, (List.pairwise_cons.1 hpw.2.1).2, fun x hx y hy => hpw.2.2 x hx y (by simp [hy])⟩
      have hine : ∀ x ∈ r1 ++ r2, x ≠ i := by
        intro x hx e
        subst e
        rw [List.pairwise_append] at hpw
        simp only [List.mem_append] at hx
        rcases hx with hx | hx
        · have := hpw.2.2 x hx x (by simp); omega
        · have := (List.pairwise_cons.1 hpw.2.1).1 x hx; omega
      refine ih (r1 ++ r2) _ (by simp at hl ⊢; omega) (by simpa using hsz) hpw' (fun x => ?_) (fun x o'' hx hl e hee hb => ?_) hr (by rw [List.map_append]; exact he2) (hq.trans hq')
      · have hx := hrem x
        by_cases hxi : x = i
        · subst hxi
          constructor
          · intro hm; exact absurd rfl (hine x hm)
          · rintro ⟨_, h2⟩
            simp [Array.getD, hsz, hin.1] at h2
        · rw [getD_set_ne _ (Ne.symm hxi), ← hx]
          simp [hxi]
      · by_cases hxi : x = i
        · subst hxi
          rw [ho] at hx; cases hx
          exact getD_set_true (hedges e hee hb)
        · rw [getD_set_ne _ (Ne.symm hxi)] at hl
          exact getD_set_true (hdown x o'' hx hl e hee hb)

end
end Go.Am
