/- AM: what is made pure in place, and calls that are given blocks of the activation's own. -/
import Derived.Test.YtbjnmbbhlaghaaaAmSim4
namespace Go.Am
set_option linter.unusedSimpArgs false
set_option linter.unusedVariables false
open Go.RowKit

section
variable {P : Program} {w0 : Base} {I0 : Nat → Prop} {N : Nat} {I : Nat → Prop} {ρ : Nat → Place} {s : St} {a : Act} {w : World} {M : Option Mode}
variable {o : Oper} {ao : AOper} {C : Cs}

theorem sim_frz (hd : o.dst = ao.d) (hN : ∀ n, ao.d = some n → n < N) (x : Operand) (y : AOpd) (ho : o.op = .move x ∨ o.op = .assign x) (hao : ao.op = .frz y) (hm : mOpd x y = true) : Sim P N o C ao := by
  intro w0 I0 I ρ s a w e K Q h he hK
  unfold eff at he
  rw [hao] at he
  simp only [] at he
  split at he
  · rename_i v fz hp
    cases he
    have hv := pureV_sound h _ _ _ _ hp (h.opd hm)
    have hf := h.freeze fz
    refine wp_of_run (v := a.eval x) (w' := w) (by rcases ho with ho | ho <;> simp [execOp, ho]) (hK (frzI I ρ s fz) ρ _ w ?_)
    rw [hd]
    unfold app
    rw [appH_fz]
    exact hf.putO hN (fun y hy => by cases hy; exact VR_none_up (fun _ h => h) _ hv)
  · cases he

/-! ### lists at the gate -/
theorem mapM1_sound {f : AV → Option AV} {I' : Nat → Prop} {w' : World} {M' : Option Mode} (hf : ∀ x v y, f x = some y → VR I w M x v → VR I' w' M' y v) :
    ∀ (xs ys : List AV) (vs : List Value), mapM1 f xs = some ys → VRs I w M xs vs → VRs I' w' M' ys vs
  | [], ys, [], h, _ => by simp [mapM1] at h; subst h; simp [VRs]
  | [], _, _ :: _, _, h => by simp [VRs] at h
  | _ :: _, _, [], _, h => by simp [VRs] at h
  | x :: xs, ys, v :: vs, h, hv => by
    simp only [VRs] at hv
    simp only [mapM1] at h
    split at h
    · rename_i y ys' h1 h2
      cases h
      simp only [VRs]
      exact ⟨hf x v y h1 hv.1, mapM1_sound hf xs ys' vs h2 hv.2⟩
    · cases h

theorem mapM1_len {f : AV → Option AV} : ∀ {xs ys : List AV}, mapM1 f xs = some ys → ys.length = xs.length
  | [], ys, h => by simp [mapM1] at h; subst h; rfl
  | x :: xs, ys, h => by
    simp only [mapM1] at h
    split at h
    · rename_i y ys' h1 h2
      cases h
      simp [mapM1_len h2]
    · cases h

theorem posOf_spec {b : Nat} : ∀ {l : List Nat} {i j : Nat}, posOf b l i = some j → i ≤ j ∧ l[j - i]? = some b
  | [], _, _, h => by simp [posOf] at h
  | x :: xs, i, j, h => by
    simp only [posOf] at h
    split at h
    · rename_i hx
      cases h
      subst hx
      simp
    · obtain ⟨h1, h2⟩ := posOf_spec h
      refine ⟨by omega, ?_⟩
      have : j - i = (j - (i + 1)) + 1 := by omega
      rw [this]
      simpa using h2

theorem encs_decs : ∀ {xs : List AV} {h : Hp}, decs xs = some h → xs = encs h
  | [], h, hd => by simp [decs] at hd; subst hd; rfl
  | x :: xs, h, hd => by
    simp only [decs] at hd
    split at hd
    · rename_i p h' h1 h2
      cases hd
      have := encs_decs h2
      subst this
      have : x = encB p := by
        unfold decB at h1
        split at h1
        · cases h1; rfl
        · cases h1
      rw [this]
      rfl
    · cases hd

theorem decs_frz : ∀ {xs : List AV} {h : Hp}, decs xs = some h → ∀ b k, hlook h b = some k → k.frz = false
  | [], h, hd => by simp [decs] at hd; subst hd; intro b k hk; simp [hlook] at hk
  | x :: xs, h, hd => by
    simp only [decs] at hd
    split at hd
    · rename_i p h' h1 h2
      cases hd
      intro b k hk
      obtain ⟨i, kb⟩ := p
      simp only [hlook] at hk
      split at hk
      · cases hk
        unfold decB at h1
        split at h1
        · cases h1; rfl
        · cases h1
      · exact decs_frz h2 b k hk
    · cases hd

/-- the blocks that are given -/
theorem gblks_spec {fp bs : List Nat} : ∀ {l : List Nat} {i0 : Nat} {hg : Hp}, gblks s fp bs l i0 = some hg →
    (∀ i k, hlook hg i = some k → i0 ≤ i ∧ ∃ b k0, l[i - i0]? = some b ∧ hlook s.h b = some k0 ∧ k0.frz = false ∧ k0.esz ≠ mapTag ∧ mapM1 (nrm1 s fp bs) k0.cs = some k.cs ∧ k.frz = false ∧ k.esz = k0.esz) ∧
    (∀ j b k0, l[j]? = some b → hlook s.h b = some k0 → ∃ k, hlook hg (i0 + j) = some k)
  | [], i0, hg, h => by
    simp [gblks] at h
    subst h
    exact ⟨fun i k hk => by simp [hlook] at hk, fun j b k0 hj => by simp at hj⟩
  | b :: l, i0, hg, h => by
    simp only [gblks] at h
    split at h
    · split at h
      · rename_i k0 hk0
        split at h
        · rename_i hc
          split at h
          · rename_i cs h' h1 h2
            cases h
            obtain ⟨ih1, ih2⟩ := gblks_spec h2
            refine ⟨fun i k hk => ?_, fun j b' kb hj hkb => ?_⟩
            · simp only [hlook] at hk
              split at hk
              · rename_i e
                subst e
                cases hk
                exact ⟨Nat.le_refl _, b, k0, by simp, hk0, hc.1, hc.2, h1, rfl, rfl⟩
              · obtain ⟨h3, b', k0', h4, h5⟩ := ih1 i k hk
                refine ⟨by omega, b', k0', ?_, h5⟩
                have : i - i0 = (i - (i0 + 1)) + 1 := by omega
                rw [this]
                simpa using h4
            · cases j with
              | zero => exact ⟨⟨cs, false, k0.esz⟩, by simp [hlook]⟩
              | succ j =>
                obtain ⟨k, hk⟩ := ih2 j b' kb (by simpa using hj) hkb
                refine ⟨k, ?_⟩
                simp only [hlook]
                rw [if_neg (by omega)]
                have : i0 + (j + 1) = i0 + 1 + j := by omega
                rw [this]
                exact hk
          · cases h
        · cases h
      · rename_i hnone
        obtain ⟨ih1, ih2⟩ := gblks_spec h
        refine ⟨fun i k hk => ?_, fun j b' kb hj hkb => ?_⟩
        · obtain ⟨h3, b', k0', h4, h5⟩ := ih1 i k hk
          refine ⟨by omega, b', k0', ?_, h5⟩
          have : i - i0 = (i - (i0 + 1)) + 1 := by omega
          rw [this]
          simpa using h4
        · cases j with
          | zero =>
            simp at hj
            subst hj
            rw [hnone] at hkb
            cases hkb
          | succ j =>
            obtain ⟨k, hk⟩ := ih2 j b' kb (by simpa using hj) hkb
            refine ⟨k, ?_⟩
            have : i0 + (j + 1) = i0 + 1 + j := by omega
            rw [this]
            exact hk
    · cases h

theorem gblks_frz {fp bs : List Nat} : ∀ {l : List Nat} {i0 : Nat} {hg : Hp}, gblks s fp bs l i0 = some hg → (hg.all fun p => !p.2.frz) = true
  | [], i0, hg, h => by simp [gblks] at h; subst h; rfl
  | b :: l, i0, hg, h => by
    simp only [gblks] at h
    split at h
    · split at h
      · split at h
        · split at h
          · rename_i h1 h2
            cases h
            simp only [List.all_cons, Bool.not_false, Bool.true_and]
            exact gblks_frz h2
          · cases h
        · cases h
      · exact gblks_frz h
    · cases h

theorem decs_encs : ∀ {h : Hp}, (h.all fun p => !p.2.frz) = true → decs (encs h) = some h
  | [], _ => rfl
  | (b, ⟨cs, fz, e⟩) :: h, hh => by
    simp only [List.all_cons, Bool.and_eq_true, Bool.not_eq_true'] at hh
    obtain ⟨rfl, h2⟩ := hh
    have ih := decs_encs h2
    unfold encs at ih ⊢
    simp only [List.map_cons, decs, ih]
    rfl

theorem decs_all : ∀ {xs : List AV} {h : Hp}, decs xs = some h → (h.all fun p => !p.2.frz) = true
  | [], h, hd => by simp [decs] at hd; subst hd; rfl
  | x :: xs, h, hd => by
    simp only [decs] at hd
    split at hd
    · rename_i p h' h1 h2
      cases hd
      simp only [List.all_cons, Bool.and_eq_true]
      refine ⟨?_, decs_all h2⟩
      unfold decB at h1
      split at h1
      · cases h1; rfl
      · cases h1
    · cases hd

theorem encs_inj {h h' : Hp} (h1 : (h.all fun p => !p.2.frz) = true) (h2 : (h'.all fun p => !p.2.frz) = true) (he : encs h = encs h') : h = h' := by
  have e1 := decs_encs h1
  have e2 := decs_encs h2
  rw [he, e2] at e1
  cases e1
  rfl

def gpl (ρ : Nat → Place) (bs : List Nat) : Nat → Place := fun i => match bs[i]? with
  | some b => ρ b
  | none => none

theorem nrm1_sound (h : R w0 I0 N I ρ s a w) {fp bs : List Nat} {hg : Hp} (g1 : ∀ i k, hlook hg i = some k → ∃ b k0, bs[i]? = some b ∧ hlook s.h b = some k0 ∧ k.esz = k0.esz) (x : AV) (v : Value) (y : AV) (hy : nrm1 s fp bs x = some y) (hv : VR I w (modeOf s ρ) x v) :
    VR I w (modeOf (gst hg) (gpl ρ bs)) y v := by
  have key : ∀ b g i k, posOf b bs 0 = some i → blkAt s fp b g = some k → ∀ L, aliveA (gst hg) (gpl ρ bs) i 0 = some L → aliveA s ρ b g = some L := by
    intro b g i k hp hk L hL
    obtain ⟨_, hp2⟩ := posOf_spec hp
    simp only [Nat.sub_zero] at hp2
    obtain ⟨e1, e2, e3, _⟩ := h.blk hk
    rw [e3]
    simp only [aliveA, gst, if_true, Option.map_eq_some_iff] at hL
    obtain ⟨k', hk', rfl⟩ := hL
    obtain ⟨b', k0, h4, h5, h6⟩ := g1 i k' hk'
    rw [hp2] at h4
    cases h4
    rw [e2] at h5
    cases h5
    simp only [gpl, hp2, h6]
  cases x
  case ptr b g p =>
    simp only [nrm1] at hy
    split at hy
    · rename_i i k hi hk
      cases hy
      simp only [VR, modeOf] at hv ⊢
      exact ⟨hv.1, Nat.le_refl _, fun L hL => hv.2.2 L (key b g i k hi hk L hL)⟩
    · cases hy
  case own b g p n =>
    simp only [nrm1] at hy
    split at hy
    · rename_i i k hi hk
      cases hy
      simp only [VR, modeOf] at hv ⊢
      exact ⟨hv.1, Nat.le_refl _, fun L hL => hv.2.2 L (key b g i k hi hk L hL)⟩
    · cases hy
  case nils => simp only [nrm1, Option.some.injEq] at hy; subst hy; simpa [VR] using hv
  all_goals first
    | (simp only [nrm1, AV.plain, if_true, Option.some.injEq] at hy; subst hy; exact plain_none _ rfl hv)
    | (simp [nrm1, AV.plain] at hy)

theorem nrm_sound (h : R w0 I0 N I ρ s a w) {fp bs : List Nat} {hg : Hp} (g1 : ∀ i k, hlook hg i = some k → ∃ b k0, bs[i]? = some b ∧ hlook s.h b = some k0 ∧ k.esz = k0.esz) (x : AV) (v : Value) (y : AV) (hy : nrm s fp bs x = some y) (hv : VR I w (modeOf s ρ) x v) :
    VR I w (modeOf (gst hg) (gpl ρ bs)) y v := by
  cases x
  case agg xs =>
    simp only [nrm] at hy
    split at hy
    · rename_i ys hm
      cases hy
      obtain ⟨cs, rfl, hvs⟩ := VR_agg hv
      simp only [VR]
      exact ⟨cs, rfl, mapM1_sound (nrm1_sound h g1) xs ys cs hm hvs⟩
    · cases hy
  all_goals exact nrm1_sound h g1 _ v y (by simpa only [nrm] using hy) hv

theorem garg_sound (h : R w0 I0 N I ρ s a w) {fp bs : List Nat} {hg : Hp} (g1 : ∀ i k, hlook hg i = some k → ∃ b k0, bs[i]? = some b ∧ hlook s.h b = some k0 ∧ k.esz = k0.esz) (x : AV) (v : Value) (y : AV) (fz : List Nat) (hy : garg s fp bs x = some (y, fz)) (hv : VR I w (modeOf s ρ) x v) :
    VR (frzI I ρ s fz) w (modeOf (gst hg) (gpl ρ bs)) y v := by
  unfold garg at hy
  split at hy
  · rename_i z hz
    cases hy
    exact VR.mono (fun b hb => .inl hb) (fun _ _ _ => rfl) _ _ (Mode.le_refl _) (nrm_sound h g1 x v _ hz hv)
  · exact VR_none_up (fun _ h => h) _ (pureV_sound h x v y fz hy hv)

theorem gargs_sound (h : R w0 I0 N I ρ s a w) {fp bs : List Nat} {hg : Hp} (g1 : ∀ i k, hlook hg i = some k → ∃ b k0, bs[i]? = some b ∧ hlook s.h b = some k0 ∧ k.esz = k0.esz) : ∀ (xs ys : List AV) (fz : List Nat) (vs : List Value), mapO (garg s fp bs) xs = some (ys, fz) → VRs I w (modeOf s ρ) xs vs →
    VRs (frzI I ρ s fz) w (modeOf (gst hg) (gpl ρ bs)) ys vs
  | [], ys, fz, [], h, _ => by simp [mapO] at h; obtain ⟨rfl, rfl⟩ := h; simp [VRs]
  | [], _, _, _ :: _, _, h => by simp [VRs] at h
  | _ :: _, _, _, [], _, h => by simp [VRs] at h
  | x :: xs, ys, fz, v :: vs, he, hv => by
    simp only [VRs] at hv
    simp only [mapO] at he
    split at he
    · rename_i y g ys' gs h3 h4
      cases he
      simp only [VRs]
      refine ⟨VR.mono (fun b hb => frzI_sub (fun c hc => List.mem_append_left _ hc) b hb) (fun _ _ _ => rfl) _ _ (Mode.le_refl _) (garg_sound h g1 x v y g h3 hv.1), ?_⟩
      exact VRs.mono (fun b hb => frzI_sub (fun c hc => List.mem_append_right _ hc) b hb) (fun _ _ _ => rfl) _ _ (Mode.le_refl _) (gargs_sound h g1 xs ys' gs vs h4 hv.2)
    · cases he

theorem gblks_near {fp bs : List Nat} {hg : Hp} (hb : gblks s fp bs bs 0 = some hg) : ∀ i k, hlook hg i = some k → ∃ b k0, bs[i]? = some b ∧ hlook s.h b = some k0 ∧ k.esz = k0.esz := by
  intro i k hk
  obtain ⟨_, b, k0, h4, h5, _, _, _, _, h6⟩ := (gblks_spec hb).1 i k hk
  exact ⟨b, k0, by simpa using h4, h5, h6⟩

/-! ### behind the call -/
/-- how the blocks behind the gate stand in the caller's state: gm tells a place's block and generation -/
structure Back (s : St) (ρ : Nat → Place) (bs fz : List Nat) (h' : Hp) (ρ' : Nat → Place) (gm : Nat → Option (Nat × Nat)) (H2 : Hp) (G2 : Nat → Nat) (ρ2 : Nat → Place) : Prop where
  A : ∀ c b g, gm c = some (b, g) → g = G2 b ∧ ∃ kc k, hlook h' c = some kc ∧ hlook H2 b = some k ∧ k.frz = false ∧ k.esz = kc.esz ∧ kc.esz ≠ mapTag ∧ ρ2 b = ρ' c ∧ mapM1 (up1 gm) kc.cs = some k.cs
  B : ∀ b k, hlook H2 b = some k → (∃ c, gm c = some (b, G2 b)) ∨ (hlook (frzAll fz s.h) b = some k ∧ b ∉ bs ∧ G2 b = s.g b ∧ ρ2 b = ρ b)
  C : ∀ b, s.g b ≤ G2 b
  D : ∀ c b, gm c = some (b, s.g b) → ∃ k0 k, hlook s.h b = some k0 ∧ hlook H2 b = some k ∧ k.esz = k0.esz
  E : ∀ c c' b g g', gm c = some (b, g) → gm c' = some (b, g') → c = c'
  F : ∀ b, G2 b = s.g b → ρ2 b = ρ b
  G : ∀ c b g, gm c = some (b, g) → b ∈ bs ∨ g = s.g b + 1

theorem up1_sound {I' : Nat → Prop} {w' : World} {bs fz : List Nat} {h' : Hp} {ρ' ρ2 : Nat → Place} {gm : Nat → Option (Nat × Nat)} {H2 : Hp} {G2 : Nat → Nat} {t2 : Env} (hb : Back s ρ bs fz h' ρ' gm H2 G2 ρ2)
    (x : AV) (v : Value) (y : AV) (hy : up1 gm x = some y) (hv : VR I' w' (modeOf (gst h') ρ') x v) : VR I' w' (modeOf ⟨t2, H2, G2⟩ ρ2) y v := by
  have key : ∀ i b g, gm i = some (b, g) → ∀ L, aliveA ⟨t2, H2, G2⟩ ρ2 b g = some L → aliveA (gst h') ρ' i 0 = some L := by
    intro i b g hm L hL
    obtain ⟨e1, kc, k, e2, e3, e4, e5, e6, e7, e8⟩ := hb.A i b g hm
    subst e1
    simp only [aliveA, if_true, e3, Option.map_some] at hL
    simp only [aliveA, gst, if_true, e2, Option.map_some]
    rw [← hL, e5, e7]
  cases x
  case ptr i g p =>
    simp only [up1] at hy
    split at hy
    · rename_i hg0
      split at hy
      · rename_i b g' hm
        cases hy
        subst hg0
        simp only [VR, modeOf] at hv ⊢
        exact ⟨hv.1, Nat.le_of_eq (hb.A i b g' hm).1, fun L hL => hv.2.2 L (key i b g' hm L hL)⟩
      · cases hy
    · cases hy
  case own i g p n =>
    simp only [up1] at hy
    split at hy
    · rename_i hg0
      split at hy
      · rename_i b g' hm
        cases hy
        subst hg0
        simp only [VR, modeOf] at hv ⊢
        exact ⟨hv.1, Nat.le_of_eq (hb.A i b g' hm).1, fun L hL => hv.2.2 L (key i b g' hm L hL)⟩
      · cases hy
    · cases hy
  case nils => simp only [up1, Option.some.injEq] at hy; subst hy; simpa [VR] using hv
  all_goals first
    | (simp only [up1, AV.plain, if_true, Option.some.injEq] at hy; subst hy; exact plain_none _ rfl hv)
    | (simp [up1, AV.plain] at hy)

theorem up2_sound {I' : Nat → Prop} {w' : World} {bs fz : List Nat} {h' : Hp} {ρ' ρ2 : Nat → Place} {gm : Nat → Option (Nat × Nat)} {H2 : Hp} {G2 : Nat → Nat} {t2 : Env} (hb : Back s ρ bs fz h' ρ' gm H2 G2 ρ2)
    (x : AV) (v : Value) (y : AV) (hy : up2 gm x = some y) (hv : VR I' w' (modeOf (gst h') ρ') x v) : VR I' w' (modeOf ⟨t2, H2, G2⟩ ρ2) y v := by
  cases x
  case agg xs =>
    simp only [up2] at hy
    split at hy
    · rename_i ys hm
      cases hy
      obtain ⟨cs, rfl, hvs⟩ := VR_agg hv
      simp only [VR]
      exact ⟨cs, rfl, mapM1_sound (up1_sound hb) xs ys cs hm hvs⟩
    · cases hy
  all_goals exact up1_sound hb _ v y (by simpa only [up2] using hy) hv

theorem up_sound {I' : Nat → Prop} {w' : World} {bs fz : List Nat} {h' : Hp} {ρ' ρ2 : Nat → Place} {gm : Nat → Option (Nat × Nat)} {H2 : Hp} {G2 : Nat → Nat} {t2 : Env} (hb : Back s ρ bs fz h' ρ' gm H2 G2 ρ2)
    (x : AV) (v : Value) (y : AV) (hy : up gm x = some y) (hv : VR I' w' (modeOf (gst h') ρ') x v) : VR I' w' (modeOf ⟨t2, H2, G2⟩ ρ2) y v := by
  cases x
  case tup xs =>
    simp only [up] at hy
    split at hy
    · rename_i ys hm
      cases hy
      simp only [VR] at hv ⊢
      obtain ⟨cs, rfl, hvs⟩ := hv
      exact ⟨cs, rfl, mapM1_sound (up2_sound hb) xs ys cs hm hvs⟩
    · cases hy
  all_goals exact up2_sound hb _ v y (by simpa only [up] using hy) hv

/-- the relation behind a call that was given blocks -/
theorem R.gcalled (h : R w0 I0 N I ρ s a w) {fp bs fz : List Nat} {hg h' : Hp} (hb : gblks s fp bs bs 0 = some hg) (hfz : ∀ b ∈ fz, b ∉ bs) {I' : Nat → Prop} {w' : World} {ρ' ρ2 : Nat → Place} {gm : Nat → Option (Nat × Nat)} {H2 : Hp} {G2 : Nat → Nat}
    (hbk : Back s ρ bs fz h' ρ' gm H2 G2 ρ2) (hup : (gbase w hg (gpl ρ bs)).upto w') (h1 : ∀ b, frzI I ρ s fz b → I' b) (h2 : ∀ b, I' b → frzI I ρ s fz b ∨ (gbase w hg (gpl ρ bs)).mine b) (h3 : ∀ b, I' b → b < w'.heap.size)
    (hgate : Gate (gbase w hg (gpl ρ bs)) I' w' h' ρ') : R w0 I0 N I' ρ2 ⟨s.t, H2, G2⟩ a w' := by
  obtain ⟨g1, g2⟩ := gblks_spec hb
  have hf := h.freeze fz
  -- what the callee may have changed
  have hmine : ∀ r, (gbase w hg (gpl ρ bs)).mine r → w.heap.size ≤ r ∨ ∃ b k0 σ, b ∈ bs ∧ hlook s.h b = some k0 ∧ k0.frz = false ∧ ρ b = some (r, σ) := by
    rintro r (hr | ⟨i, σ, ⟨k, hk⟩, hp⟩)
    · exact .inl hr
    · obtain ⟨_, b, k0, h4, h5, h6, _⟩ := g1 i k hk
      simp only [Nat.sub_zero] at h4
      have hp' : gpl ρ bs i = some (r, σ) := hp
      simp only [gpl, h4] at hp'
      exact .inr ⟨b, k0, σ, List.mem_of_getElem? h4, h5, h6, hp'⟩
  have hmine0 : ∀ r, (gbase w hg (gpl ρ bs)).mine r → w0.mine r := by
    intro r hr
    rcases hmine r hr with e | ⟨b, k0, σ, _, hk, _, hp⟩
    · exact .inl (Nat.le_trans h.below.size e)
    · have := h.hp b k0 hk
      rw [hp] at this
      exact this.first.1
  have hnot : ∀ r, I r → ¬ (gbase w hg (gpl ρ bs)).mine r := by
    intro r hi hr
    rcases hmine r hr with e | ⟨b, k0, σ, _, hk, hfr, hp⟩
    · have := h.imm r hi; omega
    · have := h.hp b k0 hk
      rw [hp] at this
      exact this.first.2.2 hfr hi
  have hcell : ∀ b, I b → ∀ off, w'.cell? ⟨b, off, none⟩ = w.cell? ⟨b, off, none⟩ := fun b hi off => cell_of_heap (hup.block b (hnot b hi)) off
  -- a block that was not given
  have hoth : ∀ b k r σ, hlook (frzAll fz s.h) b = some k → b ∉ bs → ρ b = some (r, σ) → ¬ (gbase w hg (gpl ρ bs)).mine r := by
    intro b k r σ hk hn hp hr
    rcases hmine r hr with e | ⟨b', k0, σ', hm, hk', _, hp'⟩
    · have := hf.hp b k hk
      rw [hp] at this
      have := this.lt
      omega
    · have hk0 : ∃ k1, hlook s.h b = some k1 := by
        rw [hlook_frzAll] at hk
        cases hq : hlook s.h b with
        | none => rw [hq] at hk; cases hk
        | some k1 => exact ⟨k1, rfl⟩
      obtain ⟨k1, hk1⟩ := hk0
      exact hn (h.inj b b' k1 k0 r σ σ' hk1 hk' hp hp' ▸ hm)
  have hM : Mode.le (modeOf s ρ) (modeOf ⟨s.t, H2, G2⟩ ρ2) := by
    refine ⟨fun b => hbk.C b, fun b g L hg' hA => ?_⟩
    show aliveA s ρ b g = some L
    have hg'' : g ≤ s.g b := hg'
    have hA' : aliveA ⟨s.t, H2, G2⟩ ρ2 b g = some L := hA
    simp only [aliveA] at hA' ⊢
    split at hA'
    · rename_i e
      have hC := hbk.C b
      have e2 : G2 b = s.g b := by omega
      have e3 : s.g b = g := by omega
      rw [if_pos e3]
      rw [Option.map_eq_some_iff] at hA'
      obtain ⟨k, hk, rfl⟩ := hA'
      rcases hbk.B b k hk with ⟨c, hc⟩ | ⟨hk', _, _, _⟩
      · rw [e2] at hc
        obtain ⟨k0, k', hk0, hk', he⟩ := hbk.D c b hc
        rw [hk] at hk'
        cases hk'
        rw [hk0, hbk.F b e2]
        simp [he]
      · rw [hlook_frzAll] at hk'
        rw [Option.map_eq_some_iff] at hk'
        obtain ⟨k0, hk0, rfl⟩ := hk'
        rw [hk0, hbk.F b e2]
        simp only [Option.map_some, Option.some.injEq, Prod.mk.injEq, true_and]
        split <;> rfl
    · cases hA'
  have hMf : Mode.le (modeOf ⟨s.t, frzAll fz s.h, s.g⟩ ρ) (modeOf ⟨s.t, H2, G2⟩ ρ2) := by
    refine ⟨hM.1, fun b g L hg' hA => ?_⟩
    have := hM.2 b g L hg' hA
    show aliveA ⟨s.t, frzAll fz s.h, s.g⟩ ρ b g = some L
    have this' : aliveA s ρ b g = some L := this
    simp only [aliveA, hlook_frzAll, Option.map_map] at this' ⊢
    split at this'
    · rename_i e
      rw [if_pos e]
      rw [← this']
      congr 1
      funext k
      simp only [Function.comp]
      split <;> rfl
    · cases this'
  have hI : ∀ b, I b → I' b := fun b hb => h1 b (.inl hb)
  refine { defers := h.defers, size := h.size, below := h.below.trans hup.os hup.tape hup.output hup.size (fun k hk => hup.block k (fun e => hk (hmine0 k e))), imm := h3, old := fun b hb => hI b (h.old b hb), new := fun b hb' => ?_, kept := fun b hb' hg0 => ?_, tm := fun t => VR.mono hI hcell _ _ hM (h.tm t), hp := fun b k hk => ?_, inj := ?_ }
  · rcases h2 b hb' with e | e
    · exact hf.new b e
    · exact .inr (hmine0 b e)
  · have hg1 : G2 b = 0 := hg0
    have hC := hbk.C b
    rw [hbk.F b (by omega)]
    exact h.kept b hb' (by omega)
  · rcases hbk.B b k hk with ⟨c, hc⟩ | ⟨hk', hn, _, hρ⟩
    · obtain ⟨_, kc, k', e2, e3, e4, e5, e6, e7, e8⟩ := hbk.A c b _ hc
      rw [hk] at e3
      cases e3
      obtain ⟨e9, e10⟩ := hgate.ok c kc e2
      rw [e7]
      unfold BlkOk at e10 ⊢
      rw [if_neg e6] at e10
      rw [if_neg (by rw [e5]; exact e6)]
      revert e10
      unfold BlkC
      cases ρ' c with
      | none =>
        intro e10
        have e10' : kc.cs = [] := e10
        rw [e10'] at e8
        simp [mapM1] at e8
        show k.cs = []
        exact e8
      | some p =>
        obtain ⟨r, σ⟩ := p
        rintro ⟨f1, f2, f3, f4, arr, ty, f5, f6, f7⟩
        have hlen := mapM1_len e8
        refine ⟨hmine0 r f1, fun e => by rw [e4] at e; simp at e, fun _ => f3 e9, by omega, arr, ty, f5, f6, ?_⟩
        rw [hlen]
        exact mapM1_sound (up1_sound hbk) _ _ _ e8 f7
    · rw [hρ]
      refine BlkOk.mono h1 (fun r σ e hfr hnI hi => ?_) (fun b hi off => ?_) (fun r σ e => hup.block r (hoth b k r σ hk' hn e)) hMf (hf.hp b k hk')
      · rcases h2 r hi with e' | e'
        · exact hnI e'
        · exact hoth b k r σ hk' hn e e'
      · rcases hi with hi | ⟨b', k', σ', hm, hk'', hρ'⟩
        · exact hcell b hi off
        · refine cell_of_heap (hup.block b ?_) off
          refine hoth b' _ b σ' (by rw [hlook_frzAll, hk'']; rfl) (hfz b' hm) hρ'
  · intro b1 b2 k1 k2 r σ1 σ2 hk1 hk2 hp1 hp2
    rcases hbk.B b1 k1 hk1 with ⟨c1, hc1⟩ | ⟨hk1', hn1, _, hρ1⟩ <;> rcases hbk.B b2 k2 hk2 with ⟨c2, hc2⟩ | ⟨hk2', hn2, _, hρ2⟩
    · obtain ⟨_, kc1, _, e2, _, _, _, _, e7, _⟩ := hbk.A c1 b1 _ hc1
      obtain ⟨_, kc2, _, f2, _, _, _, _, f7, _⟩ := hbk.A c2 b2 _ hc2
      rw [e7] at hp1
      rw [f7] at hp2
      have := hgate.inj c1 c2 kc1 kc2 r σ1 σ2 e2 f2 hp1 hp2
      subst this
      rw [hc1] at hc2
      cases hc2
      rfl
    · obtain ⟨_, kc1, _, e2, _, _, _, _, e7, _⟩ := hbk.A c1 b1 _ hc1
      rw [e7] at hp1
      rw [hρ2] at hp2
      have := (hgate.ok c1 kc1 e2).2
      rw [hp1] at this
      exact absurd this.first.1 (hoth b2 k2 r σ2 hk2' hn2 hp2)
    · obtain ⟨_, kc2, _, f2, _, _, _, _, f7, _⟩ := hbk.A c2 b2 _ hc2
      rw [f7] at hp2
      rw [hρ1] at hp1
      have := (hgate.ok c2 kc2 f2).2
      rw [hp2] at this
      exact absurd this.first.1 (hoth b1 k1 r σ1 hk1' hn1 hp1)
    · rw [hρ1] at hp1
      rw [hρ2] at hp2
      exact hf.inj b1 b2 k1 k2 r σ1 σ2 hk1' hk2' hp1 hp2

theorem gmap_kept {kept new : Option Nat} {b g : Nat} (h : gmap s kept new 0 = some (b, g)) : kept = some b ∧ g = s.g b := by
  cases kept with
  | none => simp [gmap] at h
  | some x => simp [gmap] at h; obtain ⟨rfl, rfl⟩ := h; exact ⟨rfl, rfl⟩
theorem gmap_new {kept new : Option Nat} {b g : Nat} (h : gmap s kept new 2 = some (b, g)) : new = some b ∧ g = s.g b + 1 := by
  cases new with
  | none => simp [gmap] at h
  | some x => simp [gmap] at h; obtain ⟨rfl, rfl⟩ := h; exact ⟨rfl, rfl⟩
theorem gmap_two {kept new : Option Nat} {c b g : Nat} (h : gmap s kept new c = some (b, g)) : c = 0 ∨ c = 2 := by
  unfold gmap at h
  split at h
  · exact .inl rfl
  · exact .inr rfl
  · cases h

/-- what an effect leaves, in one of the three shapes -/
theorem back_of (h : R w0 I0 N I ρ s a w) {fp bs fz : List Nat} {hg h' : Hp} (hb : gblks s fp bs bs 0 = some hg) {ρ' : Nat → Place} (hρ : ∀ b k k', hlook hg b = some k → hlook h' b = some k' → ρ' b = gpl ρ bs b)
    (kept rm new : Option Nat) (hbs : ∀ b, kept = some b → bs[0]? = some b) (hbs2 : ∀ b ∈ bs, kept = some b ∨ rm = some b) (hrm : ∀ b, rm = some b → kept ≠ some b) (hnew : ∀ b, new = some b → kept ≠ some b)
    (ks kn : Blk) (hks : ∀ b, kept = some b → ∃ kc, hlook h' 0 = some kc ∧ ks.frz = false ∧ ks.esz = kc.esz ∧ kc.esz ≠ mapTag ∧ mapM1 (up1 (gmap s kept new)) kc.cs = some ks.cs ∧ (hlook s.h b).map (·.esz) = some kc.esz)
    (hkn : ∀ b, new = some b → ∃ kc, hlook h' 2 = some kc ∧ kn.frz = false ∧ kn.esz = kc.esz ∧ kc.esz ≠ mapTag ∧ mapM1 (up1 (gmap s kept new)) kc.cs = some kn.cs) :
    Back s ρ bs fz h' ρ' (gmap s kept new) (appH { rm := rm, st := kept.map (·, ks), nw := new.map (·, kn), fz := fz } s.h) (appG { nw := new.map (·, kn) } s.g) (fun b => if new = some b then ρ' 2 else ρ b) := by
  obtain ⟨g1, g2⟩ := gblks_spec hb
  have hG : ∀ b, appG { nw := new.map (·, kn) } s.g b = if new = some b then s.g b + 1 else s.g b := by
    intro b
    cases new with
    | none => simp [appG]
    | some n =>
      simp only [appG, Option.map_some, bump, Option.some.injEq]
      by_cases e : b = n
      · subst e; simp
      · rw [if_neg e, if_neg (fun x => e x.symm)]
  have hH : ∀ b, hlook (appH { rm := rm, st := kept.map (·, ks), nw := new.map (·, kn), fz := fz } s.h) b = if new = some b then some kn else if kept = some b then some ks else if rm = some b then none else hlook (frzAll fz s.h) b := by
    intro b
    have h0 : ∀ e : Eff, e.fz = fz → appH e s.h = (match e.nw with | some (b, k) => hput (match e.st with | some (b, k) => hput (match e.rm with | some b => hdel (frzAll fz s.h) b | none => frzAll fz s.h) b k | none => (match e.rm with | some b => hdel (frzAll fz s.h) b | none => frzAll fz s.h)) b k | none => (match e.st with | some (b, k) => hput (match e.rm with | some b => hdel (frzAll fz s.h) b | none => frzAll fz s.h) b k | none => (match e.rm with | some b => hdel (frzAll fz s.h) b | none => frzAll fz s.h))) := by
      intro e he
      unfold appH
      rw [he]
      cases fz with
      | nil => simp only [frzAll_nil]; rfl
      | cons _ _ => rfl
    rw [h0 _ rfl]
    cases new with
    | none =>
      cases kept with
      | none =>
        cases rm with
        | none => simp
        | some x => simp [hlook_hdel]
      | some x =>
        cases rm with
        | none => simp [hlook_hput]
        | some y => simp [hlook_hdel, hlook_hput]
    | some n =>
      cases kept with
      | none =>
        cases rm with
        | none => simp [hlook_hput]
        | some x => simp [hlook_hdel, hlook_hput]
      | some x =>
        cases rm with
        | none => simp [hlook_hput]
        | some y => simp [hlook_hdel, hlook_hput]
  refine ⟨fun c b g hm => ?_, fun b k hk => ?_, fun b => ?_, fun c b hm => ?_, fun c c' b g g' hm hm' => ?_, fun b hg' => ?_, fun c b g hm => ?_⟩
  · rcases gmap_two hm with rfl | rfl
    · obtain ⟨e1, rfl⟩ := gmap_kept hm
      have hn : new ≠ some b := fun e => hnew b e e1
      obtain ⟨kc, h1, h2, h3, h4, h5, h6⟩ := hks b e1
      refine ⟨by rw [hG, if_neg hn], kc, ks, h1, by rw [hH, if_neg hn, if_pos e1], h2, h3, h4, ?_, h5⟩
      rw [if_neg hn]
      rw [Option.map_eq_some_iff] at h6
      obtain ⟨kb, hkb, _⟩ := h6
      obtain ⟨k0, hk0⟩ := g2 0 b kb (hbs b e1) hkb
      rw [hρ 0 k0 kc (by simpa using hk0) h1]
      simp only [gpl, hbs b e1]
    · obtain ⟨e1, rfl⟩ := gmap_new hm
      obtain ⟨kc, h1, h2, h3, h4, h5⟩ := hkn b e1
      exact ⟨by rw [hG, if_pos e1], kc, kn, h1, by rw [hH, if_pos e1], h2, h3, h4, by rw [if_pos e1], h5⟩
  · rw [hH] at hk
    rw [hG]
    split at hk
    · rename_i e
      rw [if_pos e]
      exact .inl ⟨2, by subst e; rfl⟩
    · rename_i e
      rw [if_neg e]
      split at hk
      · rename_i e2
        exact .inl ⟨0, by subst e2; rfl⟩
      · rename_i e2
        split at hk
        · cases hk
        · rename_i e3
          refine .inr ⟨hk, fun hm => ?_, rfl, by rw [if_neg e]⟩
          rcases hbs2 b hm with x | x
          · exact e2 x
          · exact e3 x
  · rw [hG]; split <;> omega
  · rcases gmap_two hm with rfl | rfl
    · obtain ⟨e1, _⟩ := gmap_kept hm
      have hn : new ≠ some b := fun e => hnew b e e1
      obtain ⟨kc, h1, h2, h3, h4, h5, h6⟩ := hks b e1
      rw [Option.map_eq_some_iff] at h6
      obtain ⟨k0, hk0, he⟩ := h6
      exact ⟨k0, ks, hk0, by rw [hH, if_neg hn, if_pos e1], by rw [h3, he]⟩
    · obtain ⟨_, e2⟩ := gmap_new hm
      omega
  · rcases gmap_two hm with rfl | rfl <;> rcases gmap_two hm' with rfl | rfl
    · rfl
    · obtain ⟨e1, _⟩ := gmap_kept hm
      obtain ⟨e2, _⟩ := gmap_new hm'
      exact absurd e1 (hnew b e2)
    · obtain ⟨e1, _⟩ := gmap_kept hm'
      obtain ⟨e2, _⟩ := gmap_new hm
      exact absurd e1 (hnew b e2)
    · rfl
  · rw [hG] at hg'
    split at hg'
    · omega
    · rename_i e; exact if_neg e
  · rcases gmap_two hm with rfl | rfl
    · obtain ⟨e1, _⟩ := gmap_kept hm
      exact .inl (List.mem_of_getElem? (hbs b e1))
    · exact .inr (gmap_new hm).2

theorem sim_gcall (hC : ∀ f, Contract P f (C f)) (hd : o.dst = ao.d) (hN : ∀ n, ao.d = some n → n < N) (f : FuncId) (ys : Array Operand) (ts : Array TypeId) (xs : List AOpd) (bs : List Nat) (nid : Nat)
    (ho : o.op = .call { callee := .value (.func f), args := ys, argTypes := ts }) (hao : ao.op = .gcall f xs bs nid) (hm : mOpds ys.toList xs = true) : Sim P N o C ao := by
  intro w0 I0 I ρ s a w e K Q h he hK
  unfold eff at he
  rw [hao] at he
  simp only [] at he
  split at he
  · rename_i vs fz hg hp hb
    split at he
    · rename_i hfz0
      have hfz : ∀ b ∈ fz, b ∉ bs := by
        intro b hm
        rw [List.all_eq_true] at hfz0
        simpa using hfz0 b hm
      split at he
      · rename_i r out hr
        split at he
        · rename_i h' hdec
          rw [encs_decs hdec] at hr
          have hv := gargs_sound h (gblks_near hb) _ _ _ _ hp (h.opds hm)
          obtain ⟨g1, g2⟩ := gblks_spec hb
          have hf := h.freeze fz
          -- the list of given blocks has no block twice
          have hnd : ∀ (i i' b : Nat), bs[i]? = some b → bs[i']? = some b → i = i' := by
            unfold geff at he
            split at he
            · intro i i' b h1; simp at h1
            · intro i i' b h1; simp at h1
            · intro i i' b h1 h2
              have e1 := (List.getElem?_eq_some_iff.1 h1).1
              have e2 := (List.getElem?_eq_some_iff.1 h2).1
              simp at e1 e2
              omega
            · rename_i b0 x0 k k2
              split at he
              · split at he
                · rename_i hc
                  intro i i' b h1 h2
                  have e1 := (List.getElem?_eq_some_iff.1 h1).1
                  have e2 := (List.getElem?_eq_some_iff.1 h2).1
                  simp at e1 e2
                  match i, i', e1, e2 with
                  | 0, 0, _, _ => rfl
                  | 1, 1, _, _ => rfl
                  | 0, 1, _, _ => simp at h1 h2; exact absurd (h1.trans h2.symm) hc.2.2.2
                  | 1, 0, _, _ => simp at h1 h2; exact absurd (h2.trans h1.symm) hc.2.2.2
                · cases he
              · cases he
            · cases he
          have hlt2 : ∀ b k, hlook hg b = some k → b < 2 := by
            intro i k hk
            obtain ⟨_, b, k0, h4, _⟩ := g1 i k hk
            simp only [Nat.sub_zero] at h4
            have e1 := (List.getElem?_eq_some_iff.1 h4).1
            have e2 : bs.length ≤ 2 := by
              unfold geff at he
              split at he
              · simp
              · simp
              · simp
              · simp
              · cases he
            omega
          have hgate : Gate (gbase w hg (gpl ρ bs)) (frzI I ρ s fz) w hg (gpl ρ bs) := by
            refine ⟨fun i k hk => ?_, fun i i' k k' r σ σ' hk hk' hq hq' => ?_⟩
            · obtain ⟨_, b, k0, h4, h5, h6, h7, h8, h9, h10⟩ := g1 i k hk
              simp only [Nat.sub_zero] at h4
              have hk1 : hlook (frzAll fz s.h) b = some k0 := by
                rw [hlook_frzAll, h5]
                simp only [Option.map_some, Option.some.injEq]
                rw [if_neg]
                intro hc
                exact hfz b (by simpa using hc) (List.mem_of_getElem? h4)
              have e1 := hf.hp b k0 hk1
              have e2 := h.hp b k0 h5
              refine ⟨h9, ?_⟩
              have hpl : gpl ρ bs i = ρ b := by simp only [gpl, h4]
              rw [hpl]
              unfold BlkOk at e1 e2 ⊢
              rw [if_neg h7] at e1 e2
              rw [if_neg (by rw [h10]; exact h7)]
              revert e1 e2
              unfold BlkC
              cases hq : ρ b with
              | none =>
                intro _ e2
                have e3 : k0.cs = [] := e2
                rw [e3] at h8
                simp [mapM1] at h8
                show k.cs = []
                exact h8
              | some p =>
                obtain ⟨r, σ⟩ := p
                rintro ⟨_, _, f3, _⟩ ⟨_, _, _, f4, arr, ty, f5, f6, f7⟩
                have hlen := mapM1_len h8
                refine ⟨.inr ⟨i, σ, ⟨k, hk⟩, by show gpl ρ bs i = _; rw [hpl, hq]⟩, fun e => (by rw [h9] at e; cases e), fun _ => f3 h6, by omega, arr, ty, f5, f6, ?_⟩
                rw [hlen]
                exact VRs.mono (fun b hb => .inl hb) (fun _ _ _ => rfl) _ _ (Mode.le_refl _) (mapM1_sound (nrm1_sound h (gblks_near hb)) _ _ _ h8 f7)
            · obtain ⟨_, b, k0, h4, h5, _⟩ := g1 i k hk
              obtain ⟨_, b', k0', h4', h5', _⟩ := g1 i' k' hk'
              simp only [Nat.sub_zero] at h4 h4'
              simp only [gpl, h4] at hq
              simp only [gpl, h4'] at hq'
              have := h.inj b b' k0 k0' r σ σ' h5 h5' hq hq'
              subst this
              exact hnd i i' b h4 h4'
          obtain ⟨c1, c2⟩ := (hC (gBase + f)).gate _ w _ _ r hg h' _ hr (gblks_frz hb) (decs_all hdec) hv hlt2 hgate hf.imm
          have hargs : (ys.map a.eval) = (ys.toList.map a.eval).toArray := by apply Array.ext'; simp
          have hrun : (execOp a.eval o).run P w = (callFunc f (ys.toList.map a.eval).toArray).run P w := by
            simp [execOp, ho, resolve, Act.eval, Deferred.ofValue, invoke, hargs]
          unfold Oper.wp
          rw [hrun, c1 w]
          simp only [Oper.upon]
          refine Calls.mono c2 ?_
          rintro e' w' ⟨v, rfl, I', ρ', hup, i1, i2, i3, hkept, hgate', hvr⟩
          -- the three shapes
          have fin : ∀ (kept rm new : Option Nat) (ks kn : Blk) (v' : AV), Back s ρ bs fz h' ρ' (gmap s kept new) (appH { rm := rm, st := kept.map (·, ks), nw := new.map (·, kn), fz := fz } s.h) (appG { nw := new.map (·, kn) } s.g) (fun b => if new = some b then ρ' 2 else ρ b) →
              up (gmap s kept new) r = some v' → e = { v := some v', rm := rm, st := kept.map (·, ks), nw := new.map (·, kn), fz := fz } → K (a.put o.dst v) w' := by
            intro kept rm new ks kn v' hbk hu hee
            subst hee
            have hR := h.gcalled hb hfz hbk hup i1 i2 i3 hgate'
            refine hK I' (fun b => if new = some b then ρ' 2 else ρ b) _ w' ?_
            rw [hd]
            have hvv := up_sound (t2 := s.t) hbk r v v' hu hvr
            have := hR.putO (d := ao.d) (x := some v') (v := v) hN (fun y hy => by cases hy; exact hvv)
            exact this
          unfold geff at he
          split at he
          · split at he
            · rename_i v' hu
              cases he
              refine fin none none none ⟨[], false, 0⟩ ⟨[], false, 0⟩ v' ?_ hu rfl
              exact back_of h hb hkept none none none (by simp) (by simp) (by simp) (by simp) _ _ (by simp) (by simp)
            · cases he
          · rename_i k
            split at he
            · rename_i v' cs hu hcs
              split at he
              · rename_i hne
                cases he
                refine fin none none (some nid) ⟨[], false, 0⟩ ⟨cs, false, k.esz⟩ v' ?_ hu rfl
                refine back_of h hb hkept none none (some nid) (by simp) (by simp) (by simp) (by simp) _ _ (by simp) ?_
                intro b hb'
                exact ⟨k, by simp [hlook], rfl, rfl, hne, hcs⟩
              · cases he
            · cases he
          · rename_i b0 k
            split at he
            · rename_i v' cs hu hcs
              split at he
              · rename_i hne
                cases he
                refine fin (some b0) none none ⟨cs, false, k.esz⟩ ⟨[], false, 0⟩ v' ?_ hu rfl
                refine back_of h hb hkept (some b0) none none (by simp) (by simp) (by simp) (by simp) _ _ ?_ (by simp)
                intro b hb'
                cases hb'
                have hne0 := hne
                rw [Option.map_eq_some_iff] at hne0
                obtain ⟨kb, hkb, _⟩ := hne0
                obtain ⟨kk, hkk⟩ := g2 0 b0 kb (by simp) hkb
                obtain ⟨_, b1, k0, h4, h5, _, h7, _, _, h10⟩ := g1 _ kk hkk
                simp at h4
                subst h4
                have hne' := hne
                rw [h5] at hne'
                simp only [Option.map_some, Option.some.injEq] at hne'
                exact ⟨k, by simp [hlook], rfl, rfl, by rw [← hne']; exact h7, hcs, hne⟩
              · cases he
            · cases he
          · rename_i b0 x0 k k2
            split at he
            · rename_i v' cs cs2 hu hcs hcs2
              split at he
              · rename_i hc
                obtain ⟨hne, hne2, hnb, hbx⟩ := hc
                cases he
                refine fin (some b0) (some x0) (some nid) ⟨cs, false, k.esz⟩ ⟨cs2, false, k2.esz⟩ v' ?_ hu rfl
                refine back_of h hb hkept (some b0) (some x0) (some nid) (by simp) (by simp) (fun b hb' => by cases hb'; simpa using hbx) (fun b hb' => by cases hb'; simpa using Ne.symm hnb) _ _ ?_ ?_
                · intro b hb'
                  cases hb'
                  have hne0 := hne
                  rw [Option.map_eq_some_iff] at hne0
                  obtain ⟨kb, hkb, _⟩ := hne0
                  obtain ⟨kk, hkk⟩ := g2 0 b0 kb (by simp) hkb
                  obtain ⟨_, b1, k0, h4, h5, _, h7, _, _, h10⟩ := g1 _ kk hkk
                  simp at h4
                  subst h4
                  have hne' := hne
                  rw [h5] at hne'
                  simp only [Option.map_some, Option.some.injEq] at hne'
                  exact ⟨k, by simp [hlook], rfl, rfl, by rw [← hne']; exact h7, hcs, hne⟩
                · intro b hb'
                  exact ⟨k2, by simp [hlook], rfl, rfl, hne2, hcs2⟩
              · cases he
            · cases he
          · cases he
        · cases he
      · cases he
    · cases he
  · cases he

end
end Go.Am
