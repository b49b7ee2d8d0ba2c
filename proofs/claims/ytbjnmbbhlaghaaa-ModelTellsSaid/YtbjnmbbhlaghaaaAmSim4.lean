/- AM: equality of composites; clear. -/
import Derived.Test.YtbjnmbbhlaghaaaAmSim3
namespace Go.Am
set_option linter.unusedSimpArgs false
set_option linter.unusedVariables false
open Go.RowKit

section
variable {P : Program} {w0 : Base} {I0 : Nat → Prop} {N : Nat} {I : Nat → Prop} {ρ : Nat → Place} {s : St} {a : Act} {w : World} {M : Option Mode}

theorem eqs_cons {b : Bool} {ks : List Bool} {x y : AV} {xs ys : List AV} {r : Bool} (h : eqs (b :: ks) (x :: xs) (y :: ys) = some r) :
    ∃ r1 r2, eqs [b] [x] [y] = some r1 ∧ eqs ks xs ys = some r2 ∧ r = (r1 && r2) := by
  cases b <;> cases x <;> cases y <;> simp only [eqs, reduceCtorEq] at h
  · split at h
    · rename_i hk
      split at h
      · rename_i q hq
        cases h
        exact ⟨_, q, by simp only [eqs, if_pos hk]; rfl, hq, by simp⟩
      · cases h
    · cases h
  · split at h
    · rename_i q hq
      cases h
      exact ⟨_, q, by simp only [eqs]; rfl, hq, by simp⟩
    · cases h

theorem eqs_len : ∀ {ks : List Bool} {xs ys : List AV} {r : Bool}, eqs ks xs ys = some r → xs.length = ks.length ∧ ys.length = ks.length
  | [], [], [], _, _ => ⟨rfl, rfl⟩
  | [], _ :: _, _, _, h => by simp [eqs] at h
  | [], [], _ :: _, _, h => by simp [eqs] at h
  | _ :: _, [], _, _, h => by simp [eqs] at h
  | _ :: _, _ :: _, [], _, h => by simp [eqs] at h
  | b :: ks, x :: xs, y :: ys, r, h => by
    obtain ⟨r1, r2, _, h2, _⟩ := eqs_cons h
    have := eqs_len h2
    simp [this.1, this.2]

theorem eqs_split : ∀ (k1 : List Bool) {k2 : List Bool} {xs ys : List AV} {r : Bool}, eqs (k1 ++ k2) xs ys = some r → ∃ r1 r2, eqs k1 (xs.take k1.length) (ys.take k1.length) = some r1 ∧ eqs k2 (xs.drop k1.length) (ys.drop k1.length) = some r2 ∧ r = (r1 && r2)
  | [], k2, xs, ys, r, h => ⟨true, r, by simp [eqs], by simpa using h, by simp⟩
  | b :: k1, k2, [], ys, r, h => by cases b <;> simp [eqs] at h
  | b :: k1, k2, x :: xs, [], r, h => by cases b <;> simp [eqs] at h
  | b :: k1, k2, x :: xs, y :: ys, r, h => by
    obtain ⟨r1, r2, h1, h2, rfl⟩ := eqs_cons h
    obtain ⟨r3, r4, h3, h4, rfl⟩ := eqs_split k1 h2
    refine ⟨r1 && r3, r4, ?_, by simpa using h4, by simp [Bool.and_assoc]⟩
    simp only [List.length_cons, List.take_succ_cons]
    cases b <;> cases x <;> cases y <;> simp only [eqs, reduceCtorEq] at h1
    · split at h1
      · rename_i hk
        simp at h1
        subst h1
        simp only [eqs, if_pos hk, h3]
      · cases h1
    · simp at h1
      subst h1
      simp only [eqs, h3]

/-- a value of a type, of its cells -/
def packed (P : Program) (t : TypeId) (us : List Value) : Value :=
  match P.underlying t with
  | some (.struct _) | some (.array _ _) => .agg us.toArray
  | _ => us.headD undef

def EqOk (P : Program) (d : Nat) (t : TypeId) (ks : List Bool) : Prop :=
  ∀ (w : World) (I : Nat → Prop) (M : Option Mode) (D : Nat) (xs ys : List AV) (us vs : List Value) (r : Bool), eqs ks xs ys = some r → VRs I w M xs us → VRs I w M ys vs →
    (Op.equalIn (D + d) t (packed P t us) (packed P t vs)).run P w = .ok r w

theorem run_part_packed {t : TypeId} {n : Nat} (hs : (P.info? t).map (·.size) = some n) (hu : ∃ d, P.underlying t = some d) (hone : (match P.underlying t with | some (.struct _) | some (.array _ _) => True | _ => n = 1)) {us : List Value} {off : Nat} (hl : off + n ≤ us.length) (w : World) :
    (part t us.toArray off).run P w = .ok (packed P t ((us.drop off).take n)) w := by
  obtain ⟨d, hu⟩ := hu
  cases hi : P.info? t with
  | none => simp [hi] at hs
  | some i =>
    have hn : i.size = n := by simpa [hi] using hs
    have ex : (us.toArray.extract off (off + n)) = ((us.drop off).take n).toArray := by
      apply Array.ext'
      simp [Array.toList_extract, List.extract_eq_take_drop]
    rw [hu] at hone
    unfold packed
    rw [hu]
    cases d
    case struct => simp [part, isAgg, run_underlying hu, run_sizeOf' hi, hn, ex]
    case array => simp [part, isAgg, run_underlying hu, run_sizeOf' hi, hn, ex]
    all_goals
      simp only [] at hone
      subst hone
      have hlt : off < us.length := by omega
      have hd : (us.drop off).take 1 = [us[off]] := by
        rw [List.drop_eq_getElem_cons hlt]
        rfl
      rw [hd]
      simp [part, isAgg, run_underlying hu, hlt]

theorem flat_size {d : Nat} {t : TypeId} {ks : List Bool} (h : flatT P d t = some ks) : (∃ k, P.underlying t = some k) ∧ (match P.underlying t with | some (.struct _) | some (.array _ _) => True | _ => ks.length = 1) := by
  cases d with
  | zero => simp [flatT] at h
  | succ d =>
    unfold flatT at h
    split at h
    · rename_i hu; rw [hu]; simp at h; subst h; exact ⟨⟨_, rfl⟩, rfl⟩
    · rename_i hu; rw [hu]; simp at h; subst h; exact ⟨⟨_, rfl⟩, rfl⟩
    · rename_i hu; rw [hu]; exact ⟨⟨_, rfl⟩, trivial⟩
    · rename_i hu; rw [hu]; exact ⟨⟨_, rfl⟩, trivial⟩
    · cases h

theorem eqFields_ok {d : Nat} (hE : ∀ t ks, flatT P d t = some ks → EqOk P d t ks) (D : Nat) : ∀ (fs : List Field) (n : Nat) (ks : List Bool) (xs ys : List AV) (us vs : List Value) (r : Bool) (w : World), flatF P (flatT P d) n fs = some ks →
    eqs ks (xs.drop n) (ys.drop n) = some r → VRs I w M xs us → VRs I w M ys vs → (Op.eqFields (D + d) us.toArray vs.toArray fs).run P w = .ok r w
  | [], n, ks, xs, ys, us, vs, r, w, hf, he, hx, hy => by
    simp [flatF] at hf
    subst hf
    obtain ⟨h1, h2⟩ := eqs_len he
    rw [List.eq_nil_of_length_eq_zero h1, List.eq_nil_of_length_eq_zero h2] at he
    simp [eqs] at he
    subst he
    simp [Op.eqFields]
  | f :: fs, n, ks, xs, ys, us, vs, r, w, hf, he, hx, hy => by
    simp only [flatF] at hf
    split at hf
    · cases hf
    · rename_i hname
      split at hf
      · rename_i q hq
        split at hf
        · rename_i hc
          obtain ⟨hoff, hsz⟩ := hc
          split at hf
          · rename_i rest hrest
            cases hf
            obtain ⟨r1, r2, h1, h2, rfl⟩ := eqs_split q he
            simp only [List.drop_drop] at h2
            have ih := eqFields_ok hE D fs (n + q.length) rest xs ys us vs r2 w hrest h2 hx hy
            obtain ⟨hud, hone⟩ := flat_size hq
            have hxl := hx.length
            have hyl := hy.length
            obtain ⟨l1, l2⟩ := eqs_len h1
            simp at l1 l2
            by_cases hq0 : q.length = 0
            · -- nothing to be held against each other
              have p1 : ∀ zs : List Value, (part f.type zs.toArray n).run P w = .ok (packed P f.type ((zs.drop n).take q.length)) w := by
                intro zs
                rw [hq0] at hsz hone ⊢
                obtain ⟨kd, hu⟩ := hud
                rw [hu] at hone
                cases hi : P.info? f.type with
                | none => simp [hi] at hsz
                | some i =>
                  have hn : i.size = 0 := by simpa [hi] using hsz
                  unfold packed
                  rw [hu]
                  cases kd <;> simp at hone
                  · simp [part, isAgg, run_underlying hu, run_sizeOf' hi, hn]
                  · simp [part, isAgg, run_underlying hu, run_sizeOf' hi, hn]
              have h3 := hE f.type q hq w I M D _ _ _ _ r1 h1 ((hx.drop n).take q.length) ((hy.drop n).take q.length)
              simp only [Op.eqFields, if_pos hname, Sem.run_bind, hoff, p1, Result.andThen_ok, h3]
              cases r1
              · simp
              · simpa using ih
            · have p1 := run_part_packed (P := P) hsz hud hone (us := us) (off := n) (by omega) w
              have p2 := run_part_packed (P := P) hsz hud hone (us := vs) (off := n) (by omega) w
              have h3 := hE f.type q hq w I M D _ _ _ _ r1 h1 ((hx.drop n).take q.length) ((hy.drop n).take q.length)
              simp only [Op.eqFields, if_pos hname, Sem.run_bind, hoff, p1, p2, Result.andThen_ok, h3]
              cases r1
              · simp
              · simpa using ih
          · cases hf
        · cases hf
      · cases hf

theorem eqItems_ok {d : Nat} {ks : List Bool} {e : TypeId} (hE : EqOk P d e ks) (hfl : flatT P d e = some ks) (hsz : (P.info? e).map (·.size) = some ks.length) (h0 : ks.length ≠ 0) (D : Nat) : ∀ (k i : Nat) (xs ys : List AV) (us vs : List Value) (r : Bool) (w : World),
    eqs (List.replicate k ks).flatten (xs.drop (i * ks.length)) (ys.drop (i * ks.length)) = some r → VRs I w M xs us → VRs I w M ys vs → (Op.eqItems (D + d) e ks.length us.toArray vs.toArray (List.range' i k)).run P w = .ok r w
  | 0, i, xs, ys, us, vs, r, w, he, hx, hy => by
    simp only [List.replicate_zero, List.flatten_nil] at he
    obtain ⟨h1, h2⟩ := eqs_len he
    rw [List.eq_nil_of_length_eq_zero h1, List.eq_nil_of_length_eq_zero h2] at he
    simp [eqs] at he
    subst he
    simp [Op.eqItems]
  | k + 1, i, xs, ys, us, vs, r, w, he, hx, hy => by
    rw [List.replicate_succ, List.flatten_cons] at he
    obtain ⟨r1, r2, h1, h2, rfl⟩ := eqs_split ks he
    simp only [List.drop_drop] at h2
    have e1 : i * ks.length + ks.length = (i + 1) * ks.length := by rw [Nat.succ_mul]
    rw [e1] at h2
    have ih := eqItems_ok hE hfl hsz h0 D k (i + 1) xs ys us vs r2 w h2 hx hy
    obtain ⟨hud, hone⟩ := flat_size hfl
    have hxl := hx.length
    have hyl := hy.length
    obtain ⟨l1, l2⟩ := eqs_len h1
    simp at l1 l2
    have p1 := run_part_packed (P := P) hsz hud hone (us := us) (off := i * ks.length) (by omega) w
    have p2 := run_part_packed (P := P) hsz hud hone (us := vs) (off := i * ks.length) (by omega) w
    have h3 := hE w I M D _ _ _ _ r1 h1 ((hx.drop (i * ks.length)).take ks.length) ((hy.drop (i * ks.length)).take ks.length)
    rw [List.range'_succ]
    simp only [Op.eqItems, Sem.run_bind, p1, p2, Result.andThen_ok, h3]
    cases r1
    · simp
    · simpa using ih

theorem flat_EqOk : ∀ (d : Nat) (t : TypeId) (ks : List Bool), flatT P d t = some ks → EqOk P d t ks
  | 0, t, n, h => by simp [flatT] at h
  | d + 1, t, ks, h => by
    intro w I M D xs ys us vs r he hx hy
    unfold flatT at h
    split at h
    · rename_i hu
      simp at h; subst h
      obtain ⟨l1, l2⟩ := eqs_len he
      match xs, ys, l1, l2 with
      | [x], [y], _, _ =>
        cases x <;> cases y <;> simp only [eqs, reduceCtorEq] at he
        match us, vs, hx, hy with
        | [u], [v], hx, hy =>
          simp only [VRs] at hx hy
          have e1 := VR_bool hx.1
          have e2 := VR_bool hy.1
          simp only [packed, hu, List.headD_cons, e1, e2]
          rw [← Nat.add_assoc, run_equalIn_bool _ _ _ _ _ hu]
          simp at he
          subst he
          rfl
    · rename_i k hu
      simp at h; subst h
      obtain ⟨l1, l2⟩ := eqs_len he
      match xs, ys, l1, l2 with
      | [x], [y], _, _ =>
        cases x <;> cases y <;> simp only [eqs, reduceCtorEq] at he
        split at he
        · rename_i hk
          subst hk
          match us, vs, hx, hy with
          | [u], [v], hx, hy =>
            simp only [VRs] at hx hy
            have e1 := VR_int hx.1
            have e2 := VR_int hy.1
            simp only [packed, hu, List.headD_cons, e1, e2]
            rw [← Nat.add_assoc, run_equalIn_int _ _ _ _ k _ _ hu]
            simp at he
            subst he
            rfl
        · cases he
    · rename_i fs hu
      split at h
      · cases h
      · rename_i hst
        have hf : P.fieldsOf t = fs := by simp [Program.fieldsOf, hu]
        simp only [packed, hu]
        rw [← Nat.add_assoc, run_equalIn_struct (P := P) w (D + d) t us.toArray vs.toArray (by rw [hf]; exact hu) (by simpa using hst), hf]
        exact eqFields_ok (fun t n h => flat_EqOk d t n h) D fs.toList 0 ks xs ys us vs r w h (by simpa using he) hx hy
    · rename_i k e hu
      split at h
      · rename_i m hm
        split at h
        · rename_i hsz
          simp at h; subst h
          cases hi : P.info? e with
          | none => simp [hi] at hsz
          | some i =>
            have hc : P.cellsOf e = m.length := by simpa [Program.cellsOf, hi] using hsz.1
            simp only [packed, hu]
            rw [← Nat.add_assoc, run_equalIn_array w (D + d) us.toArray vs.toArray hu hi, hc, List.range_eq_range']
            exact eqItems_ok (flat_EqOk d e m hm) hm hsz.1 hsz.2 D k 0 xs ys us vs r w (by simpa using he) hx hy
        · cases h
      · cases h
    · cases h

section ops
variable {o : Oper} {ao : AOper} {C : Cs}

theorem sim_eqa (hd : o.dst = ao.d) (hN : ∀ n, ao.d = some n → n < N) (neg : Bool) (t t' : TypeId) (x y : Operand) (x' y' : AOpd) (ks : List Bool) (ho : o.op = .binOp (if neg then .neq else .eql) t x y t') (hao : ao.op = .eqa neg ks x' y') (hx : mOpd x x' = true) (hy : mOpd y y' = true)
    (hf : flatT P 20 t = some ks) (hg : P.eqGuardType P.depth t = false) (ha : match P.underlying t with | some (.struct _) | some (.array _ _) => True | _ => False) : Sim P N o C ao := by
  intro w0 I0 I ρ s a w e K Q h he hK
  unfold eff at he
  rw [hao] at he
  simp only [] at he
  have hxv := h.opd hx
  have hyv := h.opd hy
  split at he
  · rename_i xs ys hb hb'
    rw [hb] at hxv
    rw [hb'] at hyv
    obtain ⟨us, e1, hus⟩ := VR_agg hxv
    obtain ⟨vs, e2, hvs⟩ := VR_agg hyv
    split at he
    · rename_i r hr
      have := val_ok he; subst this
      have hpk : ∀ us : List Value, packed P t us = .agg us.toArray := by
        intro us
        unfold packed
        revert ha
        split <;> simp
      have hE := flat_EqOk 20 t ks hf w I (modeOf s ρ) 9980 xs ys us vs r hr hus hvs
      rw [hpk, hpk] at hE
      refine close_val h hd hN hK (v := .bool (if neg then !r else r)) ?_ (by simp [VR])
      cases neg
      · simp only [execOp, ho, e1, e2, Bool.false_eq_true, if_false, Sem.run_bind, run_eqGuard_agg w _ t x y us.toArray vs.toArray hg, Result.andThen_ok, run_eql_struct, hE]
        rfl
      · simp only [execOp, ho, e1, e2, if_true, Sem.run_bind, run_eqGuard_agg w _ t x y us.toArray vs.toArray hg, Result.andThen_ok, run_neq_struct, hE]
        rfl
    · cases he
  · cases he

theorem sim_clear (hd : o.dst = ao.d) (hN : ∀ n, ao.d = some n → n < N) (t : TypeId) (x : Operand) (x' : AOpd) (sz : Nat) (z : List AV) (ho : o.op = .call { callee := .builtin .clear, args := #[x], argTypes := #[t] }) (hao : ao.op = .clear x' sz z) (hx : mOpd x x' = true) (ht : tSlice P t sz = true) (hz : tSliceZ P t z = true) (hzc : z.all AV.isCell = true) : Sim P N o C ao := by
  intro w0 I0 I ρ s a w e' K Q h he hK
  unfold eff at he
  rw [hao] at he
  simp only [] at he
  have hxv := h.opd hx
  obtain ⟨e, i, zv, hu, hi, hzv, hsz, hpos, hzs, hby⟩ := tSlice_spec ht
  obtain ⟨v, hrun, hvs⟩ := run_zero (P := P) (tSliceZ_spec hz hu)
  have hvz : v = zv := by
    have := hrun w
    simp [zeroValue, typeInfo, hi, hzv] at this
    exact this.symm
  subst hvz
  have hzl : z.length = sz := by rw [(hvs I w none).length]; simpa using hzs
  split at he
  · rename_i b g p n hp
    rw [hp] at hxv
    split at he
    · rename_i k hk
      split at he
      · rename_i hc
        cases he
        obtain ⟨hg, hl, hA, hok⟩ := h.blk hk
        simp only [VR, modeOf] at hxv
        have hx2 := hxv.2.2 _ hA
        simp only [] at hx2
        by_cases hn0 : n = 0
        · subst hn0
          have hsame : (⟨s.t, hput s.h b { k with cs := wr k.cs p (rep 0 z) }, s.g⟩ : St) = ⟨s.t, hput s.h b k, s.g⟩ := by
            have : wr k.cs p (rep 0 z) = k.cs := by simp [wr, rep]
            rw [this]
          have hputsame : ∀ h : Hp, hlook h b = some k → ∀ j, hlook (hput h b k) j = hlook h j := by
            intro h hh j
            rw [hlook_hput]
            split
            · rename_i e; rw [← e, hh]
            · rfl
          have hdr := h.drop (t' := s.t) (h' := hput s.h b k) (fun _ => .inr rfl) (fun j => .inr (hputsame s.h hl j))
          have hrun2 : (execOp a.eval o).run P w = .ok (.value (.tuple #[])) w := by
            cases hρ : ρ b with
            | none =>
              rw [hρ] at hx2
              simp [execOp, ho, resolve, invoke, builtin, Builtin.clear_, run_underlying hu, hx2.1]
            | some rs =>
              obtain ⟨r, σ⟩ := rs
              rw [hρ] at hx2
              obtain ⟨ad, cap, hav, _⟩ := hx2
              cases ad with
              | none => simp [execOp, ho, resolve, invoke, builtin, Builtin.clear_, run_underlying hu, hav]
              | some ad => simp [execOp, ho, resolve, invoke, builtin, Builtin.clear_, run_underlying hu, hav]
          refine wp_of_run hrun2 (hK I ρ _ w ?_)
          rw [hd]
          unfold app appH appG
          have := hdr.putO (d := ao.d) (x := none) (v := .tuple #[]) hN (fun y hy => by cases hy)
          have e3 : wr k.cs p (rep 0 z) = k.cs := by simp [wr, rep]
          simp only [e3]
          exact this
        · cases hρ : ρ b with
          | none =>
            rw [hρ] at hx2
            exact absurd hx2.2.1 hn0
          | some rs =>
            obtain ⟨r, σ⟩ := rs
            rw [hρ] at hx2 hok
            obtain ⟨ad, cap, hav, _, _, h4⟩ := hx2
            have had : ad = some ⟨r, p, none⟩ := by
              rcases h4 with ⟨h4, _⟩ | ⟨h4, _⟩
              · exact absurd h4 hn0
              · exact h4
            subst had
            obtain ⟨hr0, _, hnf, hlen, arr, ty, hheap, hasz, hvv⟩ := hok
            have hrep := VRs_rep (hvs I w (modeOf s ρ)) n
            have hrl : (rep n z).length = n * sz := by simp [rep, List.length_flatten, hzl]
            have hrl2 : (List.replicate n v.cells.toList).flatten.length = n * sz := by rw [← hrep.length]; exact hrl
            have hone := VRs_oneCell hrep (by
              unfold rep
              rw [List.all_eq_true]
              intro y hy
              rw [List.mem_flatten] at hy
              obtain ⟨l, hl1, hl2⟩ := hy
              rw [List.mem_replicate] at hl1
              rw [hl1.2] at hl2
              rw [List.all_eq_true] at hzc
              exact hzc y hl2)
            have hcl := hvv.length
            simp at hcl
            have hst := run_storeCells_at P r p ty (List.replicate n v.cells.toList).flatten 0 arr w hheap (by rw [hrl2]; omega) hone
            simp only [Nat.add_zero] at hst
            have hw2 := hvv.wr hrep p
            have hzcells : (Builtin.zeroCells v.cells n).toList = (List.replicate n v.cells.toList).flatten := range_zero v.cells n
            have hR := h.set hl hc.2 (blkAt_live ‹_›).2 hρ (wr k.cs p (rep n z)) (arr.toList.take p ++ (List.replicate n v.cells.toList).flatten ++ arr.toList.drop (p + (List.replicate n v.cells.toList).flatten.length)).toArray ty
              (w' := w.setRow r (arr.toList.take p ++ (List.replicate n v.cells.toList).flatten ++ arr.toList.drop (p + (List.replicate n v.cells.toList).flatten.length)).toArray)
              rfl rfl rfl (by simp [World.setRow]) (fun j hj => setRow_other _ _ _ _ hj) (setRow_heap w r arr _ ty (0, 0) hheap) (by simp only [List.size_toArray, List.length_append, List.length_take, List.length_drop, hrl2, Array.length_toList]; omega) (by simp only [wr, List.length_append, List.length_take, List.length_drop, hrl]; omega) (by
                have e : (wr k.cs p (rep n z)).length = k.cs.length := by simp only [wr, List.length_append, List.length_take, List.length_drop, hrl]; omega
                have e2 : ((arr.toList.take p ++ (List.replicate n v.cells.toList).flatten ++ arr.toList.drop (p + (List.replicate n v.cells.toList).flatten.length)).toArray.toList).take (wr k.cs p (rep n z)).length =
                    ((arr.toList.take k.cs.length).take p ++ (List.replicate n v.cells.toList).flatten ++ (arr.toList.take k.cs.length).drop (p + (List.replicate n v.cells.toList).flatten.length)) := by
                  rw [e]
                  simp only [List.take_take, List.take_append, List.length_take, List.length_append, Array.length_toList]
                  have : min p k.cs.length = p := by omega
                  rw [Nat.min_comm k.cs.length p, this]
                  have e5 : List.take (k.cs.length - min p arr.size) (List.replicate n v.cells.toList).flatten = (List.replicate n v.cells.toList).flatten := List.take_of_length_le (by rw [hrl2]; omega)
                  rw [e5, List.drop_take]
                  congr 2
                  rw [hrl2]
                  omega
                rw [e2]
                exact hw2)
            refine wp_of_run (v := .tuple #[]) (w' := w.setRow r (arr.toList.take p ++ (List.replicate n v.cells.toList).flatten ++ arr.toList.drop (p + (List.replicate n v.cells.toList).flatten.length)).toArray) ?_ (hK I ρ _ _ ?_)
            · have hne : ∀ q : Nat, n ≠ 0 := fun _ => hn0
              cases n with
              | zero => exact absurd rfl hn0
              | succ n =>
                simp only [execOp, ho, resolve, invoke, builtin, Builtin.clear_, Sem.run_bind, Sem.run_pure, Result.andThen_ok, List.map_toArray, List.map_cons, List.map_nil, hav]
                simp [run_underlying hu, hrun, hzcells, hst]
            · rw [hd]
              exact hR.putO hN (fun y hy => by cases hy)
      · cases he
    · cases he
  · rename_i hp
    rw [hp] at hxv
    cases he
    have hxav : a.eval x = .slice none 0 0 := by simpa [VR] using hxv
    refine wp_of_run (v := .tuple #[]) (w' := w) (by simp [execOp, ho, resolve, invoke, builtin, Builtin.clear_, run_underlying hu, hxav]) (hK I ρ _ w ?_)
    rw [hd]
    exact h.putO hN (fun y hy => by cases hy)
  · cases he

end ops
end
end Go.Am
