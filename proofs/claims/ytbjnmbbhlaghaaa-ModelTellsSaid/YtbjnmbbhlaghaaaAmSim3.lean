/- AM: each operation beside the model's: append, clear, equality of composites. -/
import Derived.Test.YtbjnmbbhlaghaaaAmSim2
namespace Go.Am
set_option linter.unusedSimpArgs false
set_option linter.unusedVariables false
open Go.RowKit

section
variable {P : Program} {w0 : Base} {I0 : Nat → Prop} {N : Nat} {I : Nat → Prop} {ρ : Nat → Place} {s : St} {a : Act} {w : World} {M : Option Mode}

/-- what a slice shows, in memory -/
theorem shows_sound (h : R w0 I0 N I ρ s a w) {fp : List Nat} {sz m : Nat} {x : AV} {ys : List AV} {v : Value} (he : shows s fp sz x = some (m, ys)) (hv : VR I w (modeOf s ρ) x v) :
    ys.length = m * sz ∧ ∃ ad cap us, v = .slice ad m cap ∧ VRs I w (modeOf s ρ) ys us ∧ (m ≠ 0 → ∃ b, ad = some b ∧ ∀ j u, us[j]? = some u → w.cell? (b.add j) = some u) := by
  cases x <;> simp only [shows, Option.some.injEq, Prod.mk.injEq, reduceCtorEq] at he
  case nils =>
    obtain ⟨rfl, rfl⟩ := he
    have hv' : v = .slice none 0 0 := by simpa [VR] using hv
    exact ⟨by simp, none, 0, [], hv', by simp [VRs], fun h => absurd rfl h⟩
  case lst n xs =>
    split at he
    · rename_i hl
      cases he
      refine ⟨hl, ?_⟩
      have hv' := hv
      rw [VR] at hv'
      rcases hv' with ⟨rfl, rfl, ad, c, hav⟩ | ⟨b, off, cap, cs, hav, h2, h3, hI, hrow, hvs⟩
      · exact ⟨ad, c, [], hav, by simp [VRs], fun h => absurd rfl h⟩
      · exact ⟨_, cap, cs, hav, VRs.mono (fun _ h => h) (fun _ _ _ => rfl) _ _ (M := none) trivial hvs, fun _ => ⟨_, rfl, fun j u hu => by rw [Addr_add]; exact hrow j u hu⟩⟩
    · cases he
  case own b g o n =>
    split at he
    · rename_i k hk
      split at he
      · rename_i hl
        cases he
        refine ⟨by simp; omega, ?_⟩
        obtain ⟨hg, hh, hA, hok⟩ := h.blk hk
        simp only [VR, modeOf] at hv
        have hx2 := hv.2.2 _ hA
        simp only [] at hx2
        cases hρ : ρ b with
        | none =>
          rw [hρ] at hx2 hok
          obtain ⟨h1, rfl, rfl⟩ := hx2
          exact ⟨none, 0, [], h1, by simp [VRs], fun h => absurd rfl h⟩
        | some rs =>
          obtain ⟨r, σ⟩ := rs
          rw [hρ] at hx2 hok
          obtain ⟨ad, cap, h1, h2, h3, h4⟩ := hx2
          obtain ⟨_, _, _, hlen, arr, ty, hheap, hsz, hvv⟩ := hok
          refine ⟨ad, cap, _, h1, (hvv.drop o).take (m * sz), fun hm => ?_⟩
          rcases h4 with ⟨h4, _⟩ | ⟨rfl, _⟩
          · exact absurd h4 hm
          · refine ⟨_, rfl, fun j u hu => ?_⟩
            rw [Addr_add]
            exact rowAt_of_heap hheap k.cs.length o (m * sz) j u hu
      · cases he
    · cases he

theorem hdel_hput (b : Nat) (k : Blk) : ∀ h : Hp, hdel (hput h b k) b = hdel h b
  | [] => by simp [hput, hdel]
  | (j, u) :: l => by
    simp only [hput]
    split
    · rename_i hj
      subst hj
      simp [hdel]
    · rename_i hj
      simp only [hdel, if_neg hj, hdel_hput b k l]

theorem BlkOk.ren {M M' : Option Mode} {p : Place} {k : Blk} (hM : Mode.le M M') (hf : k.frz = false) (esz : Nat) (he : k.esz ≠ mapTag) (he2 : esz ≠ mapTag) (hok : BlkOk w0 I w M p k) : BlkOk w0 I w M' p ⟨k.cs, false, esz⟩ := by
  revert hok
  unfold BlkOk
  rw [if_neg he, if_neg (show (⟨k.cs, false, esz⟩ : Blk).esz ≠ mapTag from he2)]
  unfold BlkC
  cases p with
  | none => exact id
  | some p =>
    obtain ⟨r, σ⟩ := p
    rintro ⟨h1, h2, h3, h4, arr, ty, h5, h6, h7⟩
    exact ⟨h1, fun e => by simp at e, fun _ => h3 hf, h4, arr, ty, h5, h6, VRs.mono (fun _ h => h) (fun _ _ _ => rfl) _ _ hM h7⟩

/-- a block goes by another number from now on -/
theorem R.rename (h : R w0 I0 N I ρ s a w) {b : Nat} {k : Blk} (hk : hlook s.h b = some k) (id : Nat) (cs' : List AV) (esz : Nat) (hcs : cs' = k.cs) (hf : k.frz = false) (he : k.esz ≠ mapTag) (he2 : esz ≠ mapTag) :
    R w0 I0 N I (fun j => if j = id then ρ b else ρ j) ⟨s.t, hput (hdel s.h b) id ⟨cs', false, esz⟩, bump id s.g⟩ a w := by
  subst hcs
  have hM : Mode.le (modeOf s ρ) (modeOf ⟨s.t, hput (hdel s.h b) id ⟨k.cs, false, esz⟩, bump id s.g⟩ (fun j => if j = id then ρ b else ρ j)) := by
    refine ⟨fun j => ?_, fun j g L hg hA => ?_⟩
    · show s.g j ≤ bump id s.g j
      unfold bump; split <;> omega
    · simp only [aliveA, bump, hlook_hput, hlook_hdel] at hA ⊢
      by_cases hbd : j = id
      · subst hbd
        rw [if_pos rfl] at hA
        rw [if_neg (by simp only [] at hg; omega)] at hA
        cases hA
      · simp only [if_neg hbd, if_neg (Ne.symm hbd)] at hA
        by_cases hjb : b = j
        · subst hjb
          simp at hA
        · rw [if_neg hjb] at hA
          exact hA
  have pick : ∀ j kj, hlook (hput (hdel s.h b) id ⟨k.cs, false, esz⟩) j = some kj → (j = id ∧ kj = ⟨k.cs, false, esz⟩) ∨ (j ≠ id ∧ j ≠ b ∧ hlook s.h j = some kj) := by
    intro j kj hj
    rw [hlook_hput, hlook_hdel] at hj
    by_cases e : id = j
    · rw [if_pos e] at hj; cases hj; exact .inl ⟨e.symm, rfl⟩
    · rw [if_neg e] at hj
      by_cases e2 : b = j
      · rw [if_pos e2] at hj; cases hj
      · rw [if_neg e2] at hj; exact .inr ⟨Ne.symm e, Ne.symm e2, hj⟩
  refine { defers := h.defers, size := h.size, below := h.below, imm := h.imm, old := h.old, new := h.new, kept := kept_bump h id _, tm := fun t => VR.mono (fun _ h => h) (fun _ _ _ => rfl) _ _ hM (h.tm t), hp := fun j kj hj => ?_, inj := ?_ }
  · rcases pick j kj hj with ⟨rfl, rfl⟩ | ⟨h1, h2, h3⟩
    · simp only [if_true]
      exact BlkOk.ren hM hf esz he he2 (h.hp b k hk)
    · rw [if_neg h1]
      exact BlkOk.mono (fun _ h => h) (fun _ _ _ _ h => h) (fun _ _ _ => rfl) (fun _ _ _ => rfl) hM (h.hp j kj h3)
  · intro j j' kj kj' r σ σ' hj hj' hp hp'
    rcases pick j kj hj with ⟨rfl, _⟩ | ⟨h1, h2, h3⟩ <;> rcases pick j' kj' hj' with ⟨rfl, _⟩ | ⟨h1', h2', h3'⟩
    · rfl
    · simp only [if_true] at hp
      rw [if_neg h1'] at hp'
      exact absurd (h.inj b j' k kj' r σ σ' hk h3' hp hp').symm h2'
    · simp only [if_true] at hp'
      rw [if_neg h1] at hp
      exact absurd (h.inj j b kj k r σ σ' h3 hk hp hp') h2
    · rw [if_neg h1] at hp
      rw [if_neg h1'] at hp'
      exact h.inj j j' kj kj' r σ σ' h3 h3' hp hp'

theorem hlook_drop1 (h : Hp) (b : Nat) (j : Nat) : hlook (hdel h b) j = none ∨ hlook (hdel h b) j = hlook h j := by
  rw [hlook_hdel]; split <;> simp

section ops
variable {o : Oper} {ao : AOper} {C : Cs}

/-- append of nothing -/
theorem run_append_none {t e : TypeId} {i : TypeInfo} (hu : P.underlying t = some (.slice e)) (hi : P.info? e = some i) (ty : TypeId) (ad : Option Addr) (n cap : Nat) (x : Option Addr) (c : Nat) (hc : n ≤ cap) (w : World) :
    (Builtin.append_ #[t, t] ty #[.slice ad n cap, .slice x 0 c]).run P w = .ok (.slice ad n cap) w := by
  have hf : (Builtin.firstCells i.size 0 (.slice x 0 c)).run P w = .ok #[] w := by
    cases x <;> simp [Builtin.firstCells, loadCells, loadCellsFrom]
  cases ad with
  | none => simp [Builtin.append_, run_underlying hu, run_sizeOf' hi, Builtin.lenOf, hc, hf]
  | some ad => simp [Builtin.append_, run_underlying hu, run_sizeOf' hi, Builtin.lenOf, hc, hf, storeCells]

theorem run_append_room' {t e : TypeId} {i : TypeInfo} (ht : P.underlying t = some (.slice e)) (hi : P.info? e = some i) (ty : TypeId)
    (g sLen sCap : Nat) (cur : Array Value) (te : Nat) (w : World) (hg : w.heap[g]? = some (.cells cur te (0, 0)))
    (ad : Addr) (m c : Nat) (news : List Value) (hl : news.length = m * i.size) (hnews : ∀ j u, news[j]? = some u → w.cell? (ad.add j) = some u) (h1 : ∀ u ∈ news, u.oneCell' = true)
    (hroom : sLen + m ≤ sCap) (hfit : sLen * i.size + news.length ≤ cur.size) :
    (Builtin.append_ #[t, t] ty #[.slice (some ⟨g, 0, none⟩) sLen sCap, .slice (some ad) m c]).run P w =
      .ok (.slice (some ⟨g, 0, none⟩) (sLen + m) sCap) (w.setRow g (cur.toList.take (sLen * i.size) ++ news ++ cur.toList.drop (sLen * i.size + news.length)).toArray) := by
  have hf := run_firstCells_some (P := P) w i.size m ad m c news hl hnews
  have hst := run_storeCells_at P g (sLen * i.size) te news 0 cur w hg (by simpa using hfit) h1
  simp only [Nat.add_zero] at hst
  simp [Builtin.append_, run_underlying ht, sizeOf, typeInfo, hi, Builtin.lenOf, hroom, hf, Addr_add, hst]

theorem zeros_size (z : Array Value) (n : Nat) : (Builtin.zeroCells z n).size = n * z.size := by simp [Builtin.zeroCells]

theorem sim_app (hd : o.dst = ao.d) (hN : ∀ n, ao.d = some n → n < N) (t : TypeId) (x y : Operand) (x' y' : AOpd) (id : Nat) (ws : List Nat) (sz : Nat) (ho : o.op = .call { callee := .builtin .append, args := #[x, y], argTypes := #[t, t] }) (hao : ao.op = .app id ws x' y' sz) (hx : mOpd x x' = true) (hy : mOpd y y' = true) (ht : tSlice P t sz = true) : Sim P N o C ao := by
  intro w0 I0 I ρ s a w e' K Q h he hK
  unfold eff at he
  rw [hao] at he
  simp only [] at he
  have hxv := h.opd hx
  have hyv := h.opd hy
  obtain ⟨e, i, z, hu, hi, hzv, hsz, hpos, hzs, hby⟩ := tSlice_spec ht
  have exec : ∀ u v r w', a.eval x = u → a.eval y = v → (Builtin.append_ #[t, t] o.type #[u, v]).run P w = .ok r w' → (execOp a.eval o).run P w = .ok (.value r) w' := by
    intro u v r w' hu hv hr
    simp [execOp, ho, resolve, invoke, builtin, hu, hv, hr]
  split at he
  · rename_i m ys hsh
    obtain ⟨hyl, ad, capy, us, hyav, hyvs, hyc⟩ := shows_sound h hsh hyv
    have hul : us.length = m * sz := by rw [← hyvs.length]; exact hyl
    split at he
    · -- onto nil
      rename_i hp
      rw [hp] at hxv
      have hxav : a.eval x = .slice none 0 0 := by simpa [VR] using hxv
      split at he
      · rename_i hm0
        have := val_ok he; subst this
        subst hm0
        refine close_val h hd hN hK (exec _ _ _ w hxav hyav (run_append_none hu hi _ none 0 0 ad capy (Nat.le_refl _) w)) (by simp [VR])
      · rename_i hm0
        split at he
        · rename_i hc
          cases he
          obtain ⟨b0, rfl, hcells⟩ := hyc hm0
          have hr := run_append_nil (P := P) w t o.type e i z hu hi hzv b0 m capy us (by rw [hul, hsz]) hcells (by omega) (by omega) (by have := Nat.mul_le_mul hc.1 hby; omega)
          have hge := grownCap_ge w m 0 e
          have hcm := grownCap_le_maxLen w m 0 e (by unfold maxLen; omega)
          have hal := h.alloc id w.heap.size sz ys (us.toArray ++ Builtin.zeroCells z.cells (grownCap w m 0 e - m)) e (he := tSlice_ne ht) (w' := w.drew.alloc (.cells (us.toArray ++ Builtin.zeroCells z.cells (grownCap w m 0 e - m)) e))
            (((Below.refl _ w).drew).alloc (Nat.le_refl _) _) (Nat.le_refl _) (heap_alloc_new w.drew _) (by simp [hyl, hul]) (by
              rw [Array.toList_append, List.take_append_of_le_length (by simp [hyl, hul])]
              rw [List.take_of_length_le (by simp [hyl, hul])]
              exact hyvs)
          refine wp_of_run (exec _ _ _ _ hxav hyav hr) (hK I (fun b => if b = id then some (w.heap.size, (us.toArray ++ Builtin.zeroCells z.cells (grownCap w m 0 e - m)).size) else ρ b) _ _ ?_)
          rw [hd]
          refine hal.putO hN (fun y hy => ?_)
          cases hy
          refine VR_newown (bump_self _ _) (by rw [hlook_hput, if_pos rfl]) (if_pos rfl) hge hcm ?_
          simp only [Array.size_append, zeros_size, hzs, List.size_toArray, hul]
          rw [← Nat.add_mul]
          congr 1
          omega
        · cases he
    · -- onto a row of the call's own
      rename_i b g p n hp
      rw [hp] at hxv
      by_cases hws : ¬ (ws.contains b = true)
      · rw [if_neg hws] at he; cases he
      rw [if_pos (Classical.not_not.1 hws)] at he
      split at he
      · rename_i k hk
        split at he
        · rename_i hc
          obtain ⟨rfl, hc2, hc3, hc4, hc5, hc6⟩ := hc
          cases he
          obtain ⟨hg, hl, hA, hok⟩ := h.blk hk
          simp only [VR, modeOf] at hxv
          have hx2 := hxv.2.2 _ hA
          simp only [] at hx2
          have hone := VRs_oneCell hyvs hc6
          have hdr := h.drop (t' := s.t) (h' := hdel s.h b) (fun _ => .inr rfl) (fun j => hlook_drop1 s.h b j)
          have hMd : Mode.le (modeOf s ρ) (modeOf ⟨s.t, hdel s.h b, s.g⟩ ρ) := by
            refine ⟨fun _ => Nat.le_refl _, fun j g L hg hA => ?_⟩
            simp only [aliveA] at hA ⊢
            rcases hlook_drop1 s.h b j with e | e
            · rw [e] at hA; simp at hA
            · rw [e] at hA; exact hA
          cases hρ : ρ b with
          | none =>
            rw [hρ] at hx2 hok
            obtain ⟨hxav, rfl, _⟩ := hx2
            have hkcs : k.cs = [] := hok
            by_cases hm0 : m = 0
            · subst hm0
              have hys : ys = [] := List.eq_nil_of_length_eq_zero (by simpa using hyl)
              have hn0 := hdr.nil0 id sz
              refine wp_of_run (exec _ _ _ w hxav hyav (run_append_none hu hi _ none 0 0 ad capy (Nat.le_refl _) w)) (hK I (fun j => if j = id then none else ρ j) _ w ?_)
              rw [hd]
              have e1 : k.cs.take (0 * sz) ++ ys = [] := by rw [hys, hkcs]; simp
              unfold app appH appG
              simp only [e1]
              refine hn0.putO hN (fun y hy => ?_)
              cases hy
              simp only [VR, modeOf]
              refine ⟨⟨_, _, _, rfl⟩, by simp [bump], fun L hL => ?_⟩
              simp [aliveA, bump, hlook_hput] at hL
              subst hL
              simp
            · obtain ⟨b0, rfl, hcells⟩ := hyc hm0
              have hr := run_append_nil (P := P) w t o.type e i z hu hi hzv b0 m capy us (by rw [hul, hsz]) hcells (by omega) (by omega) (by have := Nat.mul_le_mul (show m ≤ 1099511627776 by omega) hby; omega)
              have hge := grownCap_ge w m 0 e
              have hcm := grownCap_le_maxLen w m 0 e (by unfold maxLen; omega)
              have e1 : k.cs.take (0 * sz) ++ ys = ys := by rw [hkcs]; simp
              have hal := hdr.alloc id w.heap.size sz ys (us.toArray ++ Builtin.zeroCells z.cells (grownCap w m 0 e - m)) e (he := tSlice_ne ht) (w' := w.drew.alloc (.cells (us.toArray ++ Builtin.zeroCells z.cells (grownCap w m 0 e - m)) e))
                (((Below.refl _ w).drew).alloc (Nat.le_refl _) _) (Nat.le_refl _) (heap_alloc_new w.drew _) (by simp [hyl, hul]) (by
                  rw [Array.toList_append, List.take_append_of_le_length (by simp [hyl, hul])]
                  rw [List.take_of_length_le (by simp [hyl, hul])]
                  exact VRs.mono (fun _ h => h) (fun _ _ _ => rfl) _ _ hMd hyvs)
              refine wp_of_run (exec _ _ _ _ hxav hyav hr) (hK I (fun b => if b = id then some (w.heap.size, (us.toArray ++ Builtin.zeroCells z.cells (grownCap w m 0 e - m)).size) else ρ b) _ _ ?_)
              rw [hd]
              unfold app appH appG
              simp only [e1]
              refine hal.putO hN (fun y hy => ?_)
              cases hy
              rw [Nat.zero_add]
              refine VR_newown (bump_self _ _) (by rw [hlook_hput, if_pos rfl]) (if_pos rfl) hge hcm ?_
              simp only [Array.size_append, zeros_size, hzs, List.size_toArray, hul]
              rw [← Nat.add_mul]
              congr 1
              omega
          | some rs =>
            obtain ⟨r, σ⟩ := rs
            rw [hρ] at hx2 hok
            obtain ⟨adx, cap, hxav, hncap, hcapm, h4⟩ := hx2
            obtain ⟨hr0, _, hnf, hlen, arr, ty, hheap, hasz, hvv⟩ := hok
            have hσ : adx = some ⟨r, 0, none⟩ ∧ cap * k.esz = σ := by
              rcases h4 with ⟨_, h4⟩ | ⟨h4, h5⟩
              · exact absurd rfl h4
              · exact ⟨h4, h5 trivial⟩
            obtain ⟨rfl, hσ⟩ := hσ
            rw [hc4] at hσ
            have hcl := hvv.length
            have hnew : VRs I w (modeOf s ρ) (k.cs.take (n * sz) ++ ys) ((arr.toList.take (n * sz)) ++ us) := by
              have h1 := (hvv.take (n * sz)).append hyvs
              rw [List.take_take, Nat.min_eq_left hc2] at h1
              exact h1
            have hnl : (k.cs.take (n * sz) ++ ys).length = (n + m) * sz := by
              simp [hyl, Nat.add_mul]; omega
            by_cases hroom : n + m ≤ cap
            · -- there is room
              have hsize : n * sz + m * sz ≤ σ := by rw [← hσ, ← Nat.add_mul]; exact Nat.mul_le_mul_right _ hroom
              -- the new contents, in place
              have key : ∃ w' : World, (Builtin.append_ #[t, t] o.type #[.slice (some ⟨r, 0, none⟩) n cap, .slice ad m capy]).run P w = .ok (.slice (some ⟨r, 0, none⟩) (n + m) cap) w' ∧
                  w'.os = w.os ∧ w'.tape = w.tape ∧ w'.output = w.output ∧ w'.heap.size = w.heap.size ∧ (∀ j, j ≠ r → w'.heap[j]? = w.heap[j]?) ∧
                  w'.heap[r]? = some (.cells (arr.toList.take (n * sz) ++ us ++ arr.toList.drop (n * sz + us.length)).toArray ty (0, 0)) := by
                by_cases hm0 : m = 0
                · subst hm0
                  refine ⟨w, run_append_none hu hi _ _ n cap ad capy hncap w, rfl, rfl, rfl, rfl, fun _ _ => rfl, ?_⟩
                  have hus : us = [] := List.eq_nil_of_length_eq_zero (by simpa using hul)
                  rw [hus, hheap]
                  simp
                · obtain ⟨b0, rfl, hcells⟩ := hyc hm0
                  have hr := run_append_room' (P := P) hu hi o.type r n cap arr ty w hheap b0 m capy us (by rw [hul, hsz]) hcells hone hroom (by rw [hsz, hul, hasz]; exact hsize)
                  rw [hsz] at hr
                  exact ⟨_, hr, rfl, rfl, rfl, by simp [World.setRow], fun j hj => setRow_other _ _ _ _ hj, setRow_heap w r arr _ ty (0, 0) hheap⟩
              obtain ⟨w', hrun, hos, htp, hou, hhs, hoth, hhr⟩ := key
              have hset := h.set hl hc3 (blkAt_live ‹_›).2 hρ (k.cs.take (n * sz) ++ ys) (arr.toList.take (n * sz) ++ us ++ arr.toList.drop (n * sz + us.length)).toArray ty hos htp hou hhs hoth hhr
                (by simp [hul, hasz]; omega) (by rw [hnl, Nat.add_mul]; exact hsize) (by
                  have e : ((arr.toList.take (n * sz) ++ us ++ arr.toList.drop (n * sz + us.length)).toArray.toList).take (k.cs.take (n * sz) ++ ys).length = arr.toList.take (n * sz) ++ us := by
                    have hl2 : (k.cs.take (n * sz) ++ ys).length = (arr.toList.take (n * sz) ++ us).length := hnew.length
                    rw [hl2]
                    exact List.take_left
                  rw [e]
                  exact hnew)
              have hren := hset.rename (b := b) (k := { k with cs := k.cs.take (n * sz) ++ ys }) (by rw [hlook_hput, if_pos rfl]) id (k.cs.take (n * sz) ++ ys) sz rfl hc3 (blkAt_live hk).2 (tSlice_ne ht)
              rw [show (⟨s.t, hput s.h b { k with cs := k.cs.take (n * sz) ++ ys }, s.g⟩ : St).h = hput s.h b { k with cs := k.cs.take (n * sz) ++ ys } from rfl, hdel_hput] at hren
              refine wp_of_run (exec _ _ _ _ hxav hyav hrun) (hK I (fun j => if j = id then ρ b else ρ j) _ w' ?_)
              rw [hd]
              unfold app appH appG
              refine hren.putO hN (fun y hy => ?_)
              cases hy
              exact VR_newown (bump_self _ _) (by rw [hlook_hput, if_pos rfl]) (by rw [if_pos rfl, hρ]) hroom hcapm hσ
            · -- it moves
              have hm0 : m ≠ 0 := by omega
              obtain ⟨b0, rfl, hcells⟩ := hyc hm0
              have hr := run_append_grow (P := P) w t o.type e i z hu hi hzv ⟨r, 0, none⟩ n cap (arr.toList.take (n * sz)) (by simp [hsz]; omega) (fun j u hj => by
                  rw [Addr_add]
                  have := rowAt_of_heap hheap (n * sz) 0 (n * sz) j u (by simpa [List.take_take] using hj)
                  simpa using this) b0 m capy us (by rw [hul, hsz]) hcells (by omega) (by omega) (growslice_fits (by omega) (by have := Nat.mul_le_mul hc5 hby; omega))
              have hge := grownCap_ge w (n + m) cap e
              have hcm := grownCap_le_maxLen w (n + m) cap e (by unfold maxLen; omega)
              have hl3 : (k.cs.take (n * sz) ++ ys).length = (arr.toList.take (n * sz) ++ us).length := hnew.length
              have hal := hdr.alloc id w.heap.size sz (k.cs.take (n * sz) ++ ys) ((arr.toList.take (n * sz)).toArray ++ us.toArray ++ Builtin.zeroCells z.cells (grownCap w (n + m) cap e - (n + m))) e (he := tSlice_ne ht)
                (w' := w.drew.alloc (.cells ((arr.toList.take (n * sz)).toArray ++ us.toArray ++ Builtin.zeroCells z.cells (grownCap w (n + m) cap e - (n + m))) e))
                (((Below.refl _ w).drew).alloc (Nat.le_refl _) _) (Nat.le_refl _) (heap_alloc_new w.drew _) (by rw [hl3]; simp) (by
                  rw [hl3]
                  have : ((arr.toList.take (n * sz)).toArray ++ us.toArray ++ Builtin.zeroCells z.cells (grownCap w (n + m) cap e - (n + m))).toList = (arr.toList.take (n * sz) ++ us) ++ (Builtin.zeroCells z.cells (grownCap w (n + m) cap e - (n + m))).toList := by simp
                  rw [this, List.take_left]
                  exact VRs.mono (fun _ h => h) (fun _ _ _ => rfl) _ _ hMd hnew)
              refine wp_of_run (exec _ _ _ _ hxav hyav hr) (hK I (fun j => if j = id then some (w.heap.size, ((arr.toList.take (n * sz)).toArray ++ us.toArray ++ Builtin.zeroCells z.cells (grownCap w (n + m) cap e - (n + m))).size) else ρ j) _ _ ?_)
              rw [hd]
              unfold app appH appG
              refine hal.putO hN (fun y hy => ?_)
              cases hy
              refine VR_newown (bump_self _ _) (by rw [hlook_hput, if_pos rfl]) (if_pos rfl) hge hcm ?_
              have h5 : (arr.toList.take (n * sz)).length = n * sz := by simp; omega
              simp only [Array.size_append, zeros_size, hzs, List.size_toArray, hul, h5]
              rw [← Nat.add_mul, ← Nat.add_mul]
              congr 1
              omega
        · cases he
      · cases he
    · cases he
  · cases he

end ops
end
end Go.Am
