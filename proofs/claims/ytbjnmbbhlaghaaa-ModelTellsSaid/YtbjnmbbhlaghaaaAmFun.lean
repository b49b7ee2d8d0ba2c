/- AM: the check of a whole function's text, and that what AM says of it holds of a call. -/
import Derived.Test.YtbjnmbbhlaghaaaAmWalk
namespace Go.Am
set_option linter.unusedSimpArgs false
set_option linter.unusedVariables false
open Go.RowKit

def mCode (P : Program) (N : Nat) : Code → ACode → Bool
  | c, .keep _ _ a => mCode P N c a
  | c, .skip => match c with
    | .skip => true
    | .label _ => true
    | _ => false
  | c, .ops l _ => match c with
    | .region _ ops draw => mOpers P N ops ops.toList l && (!draw || ordOk ops l)
    | _ => false
  | c, .seq a b => match c with
    | .seq x y => mCode P N x a && mCode P N y b
    | _ => false
  | c, .cond v a b => match c with
    | .cond u x y => mOpd u v && (mCode P N x a && mCode P N y b)
    | _ => false
  | c, .block i a => match c with
    | .block j x => decide (j = i) && mCode P N x a
    | _ => false
  | c, .loop a => match c with
    | .loop x => mCode P N x a
    | _ => false
  | c, .exit i => match c with
    | .exit j => decide (j = i)
    | _ => false
  | c, .ret => match c with
    | .ret => true
    | _ => false

def mRes (P : Program) : ResultVar → ARes → Bool
  | .tmp t, .t n => decide (t = n)
  | .cell a t, .cell b n agg => decide (a = b) && tIs P t n agg
  | _, _ => false

def mRess (P : Program) : List ResultVar → List ARes → Bool
  | [], [] => true
  | r :: rs, a :: as => mRes P r a && mRess P rs as
  | _, _ => false

def mFun (P : Program) (fn : Func) (A : AFun) : Bool :=
  match fn.body with
  | some c => decide (P.funcs.size ≤ gBase) && (decide (fn.name ≠ "runtime.NumGoroutine") && (decide (fn.ntmps = A.nt) && (decide (A.np ≤ A.nt) && (mRess P fn.results.toList A.res && mCode P A.nt c A.code))))
  | none => false

def exOf : Ex → Exit
  | .normal => .normal
  | .exit i => .exit i
  | .ret => .ret

theorem least {p : Nat → Prop} (h : ∃ n, p n) : ∃ n, p n ∧ ∀ m, p m → n ≤ m := by
  obtain ⟨n, hn⟩ := h
  induction n using Nat.strongRecOn with
  | _ n ih =>
    by_cases hx : ∃ m, m < n ∧ p m
    · obtain ⟨m, hm, hp⟩ := hx
      exact ih m hm hp
    · refine ⟨n, hn, fun m hp => ?_⟩
      rcases Nat.lt_or_ge m n with h | h
      · exact absurd ⟨m, h, hp⟩ hx
      · exact h

section
variable {P : Program} {w0 : Base} {I0 : Nat → Prop} {N : Nat} {C : Cs}

theorem mCode_sound (hm : P.follows .mixedOrders = true) (hC : ∀ f, Contract P f (C f)) : ∀ (ac : ACode) (c : Code), mCode P N c ac = true →
    ∀ {I : Nat → Prop} {ρ : Nat → Place} {s : St} {a : Act} {w : World} (Qa : Post) (Q : Exit → Act → World → Prop), R w0 I0 N I ρ s a w → wpC C ac s Qa →
      (∀ e s' I' ρ' a' w', Qa e s' → R w0 I0 N I' ρ' s' a' w' → Q (exOf e) a' w') → c.wp P Q a w
  | .keep kt kh ac, c, hc, I, ρ, s, a, w, Qa, Q, h, hw, hQ => by
    unfold mCode at hc
    exact mCode_sound hm hC ac c hc Qa Q (h.drop (fun t => look_keepT s.t kt t) (fun b => hlook_keepH s.h kh b)) hw hQ
  | .skip, c, hc, I, ρ, s, a, w, Qa, Q, h, hw, hQ => by
    unfold mCode at hc
    split at hc
    · exact wp_skip (hQ _ _ _ _ _ _ hw h)
    · exact wp_label (hQ _ _ _ _ _ _ hw h)
    · cases hc
  | .ops l kill, c, hc, I, ρ, s, a, w, Qa, Q, h, hw, hQ => by
    unfold mCode at hc
    split at hc
    · rename_i id ops draw
      simp only [Bool.and_eq_true, Bool.or_eq_true, Bool.not_eq_true'] at hc
      obtain ⟨h1, h2⟩ := hc
      have hf := Fits.of h1
      rw [wpC] at hw
      have hnv : evOps C l s ≠ .vac := by
        have := evOps_novac (C := C) hC hf (List.range l.length) (fun i hi => by simpa using hi) h
        rwa [range_map] at this
      match he : evOps C l s, hw, hnv with
      | .ok sf, hw, _ =>
        have hfin : ∀ I' ρ' a' w', R w0 I0 N I' ρ' sf a' w' → Q .normal a' w' := fun I' ρ' a' w' hr =>
          hQ .normal _ I' ρ' a' w' hw (hr.drop (fun t => look_keepT sf.t kill t) (fun b => .inr rfl))
        rcases h2 with rfl | h2
        · refine wp_region ?_
          rw [hf.len]
          exact wpOps_run hC hf hfin _ (fun i hi => by simpa using hi) h (by rw [range_map]; exact he)
        · have hrun : wpAny P .any ops Q ops.size (Array.replicate ops.size false) a { w with drawn := w.drawn + 1 } := by
            refine wpAny_run hC hf (Ord.of h2) hfin ops.size (List.range l.length) _ (by rw [List.length_range, hf.len]) (by simp) List.pairwise_lt_range (fun i => ?_) (fun i o ho hl => ?_) (h.world (w' := { w with drawn := w.drawn + 1 }) rfl rfl rfl rfl) (by rw [range_map]; exact he) (Eqv.refl _)
            · rw [List.mem_range, hf.len]
              constructor
              · intro hi; exact ⟨hi, by simp [Array.getD]⟩
              · exact fun hi => hi.1
            · simp [Array.getD] at hl
          cases draw with
          | true => exact wp_region_any hm hrun
          | false =>
            refine wp_region ?_
            rw [hf.len]
            exact wpOps_run hC hf hfin _ (fun i hi => by simpa using hi) h (by rw [range_map]; exact he)
      | .fail, hw, _ => exact hw.elim
      | .vac, _, hnv => exact absurd rfl hnv
    · cases hc
  | .seq x y, c, hc, I, ρ, s, a, w, Qa, Q, h, hw, hQ => by
    unfold mCode at hc
    split at hc
    · simp only [Bool.and_eq_true] at hc
      rw [wpC] at hw
      refine wp_seq (mCode_sound hm hC x _ hc.1 _ _ h hw fun e s' I' ρ' a' w' he hr => ?_)
      cases e with
      | normal => exact mCode_sound hm hC y _ hc.2 _ _ hr he hQ
      | exit id => exact hQ _ _ _ _ _ _ he hr
      | ret => exact hQ _ _ _ _ _ _ he hr
    · cases hc
  | .cond v x y, c, hc, I, ρ, s, a, w, Qa, Q, h, hw, hQ => by
    unfold mCode at hc
    split at hc
    · simp only [Bool.and_eq_true] at hc
      have hv := h.opd hc.1
      rw [wpC] at hw
      split at hw
      · rename_i t ht
        rw [ht] at hv
        exact wp_cond_split (VR_bool hv) (fun e => mCode_sound hm hC x _ hc.2.1 _ _ h (hw.1 e) hQ) (fun e => mCode_sound hm hC y _ hc.2.2 _ _ h (hw.2 e) hQ)
      · exact hw.elim
    · cases hc
  | .block i x, c, hc, I, ρ, s, a, w, Qa, Q, h, hw, hQ => by
    unfold mCode at hc
    split at hc
    · simp only [Bool.and_eq_true, decide_eq_true_eq] at hc
      obtain ⟨rfl, hc⟩ := hc
      rw [wpC] at hw
      refine wp_block (mCode_sound hm hC x _ hc _ _ h hw fun e s' I' ρ' a' w' he hr => ?_)
      cases e with
      | normal => exact hQ .normal _ _ _ _ _ he hr
      | exit id =>
        simp only [exOf, Exit.inBlock]
        simp only at he
        split
        · rename_i hid
          rw [if_pos hid] at he
          exact hQ .normal _ _ _ _ _ he hr
        · rename_i hid
          rw [if_neg hid] at he
          exact hQ (.exit id) _ _ _ _ _ he hr
      | ret => exact hQ .ret _ _ _ _ _ he hr
    · cases hc
  | .loop x, c, hc, I, ρ, s, a, w, Qa, Q, h, hw, hQ => by
    unfold mCode at hc
    split at hc
    · rename_i y
      rw [wpC] at hw
      obtain ⟨n, hn⟩ := hw
      let J : Act → World → Nat → Prop := fun a w n => ∃ I ρ s, R w0 I0 N I ρ s a w ∧ iter (wpC C x) n s Qa
      refine wp_loop (fun a w => ∃ n, J a w n) (fun a w => open Classical in if hx : ∃ n, J a w n then Classical.choose (least hx) else 0) ⟨n, I, ρ, s, h, hn⟩ ?_
      intro a w hx
      obtain ⟨hp, hmin⟩ := Classical.choose_spec (least hx)
      have hμ : (open Classical in if hx : ∃ n, J a w n then Classical.choose (least hx) else 0) = Classical.choose (least hx) := by rw [dif_pos hx]
      rw [hμ]
      generalize Classical.choose (least hx) = m at hp hmin
      obtain ⟨I1, ρ1, s1, hr, hit⟩ := hp
      cases m with
      | zero => exact hit.elim
      | succ m =>
        rw [iter] at hit
        refine mCode_sound hm hC x _ hc _ _ hr hit fun e s' I' ρ' a' w' he hr' => ?_
        cases e with
        | normal =>
          have hx' : ∃ n, J a' w' n := ⟨m, I', ρ', s', hr', he⟩
          refine ⟨hx', ?_⟩
          have := (Classical.choose_spec (least hx')).2 m ⟨I', ρ', s', hr', he⟩
          rw [dif_pos hx']
          omega
        | exit id => exact hQ (.exit id) _ _ _ _ _ he hr'
        | ret => exact hQ .ret _ _ _ _ _ he hr'
    · cases hc
  | .exit i, c, hc, I, ρ, s, a, w, Qa, Q, h, hw, hQ => by
    unfold mCode at hc
    split at hc
    · simp only [decide_eq_true_eq] at hc
      subst hc
      exact wp_exit (hQ (.exit _) _ _ _ _ _ hw h)
    · cases hc
  | .ret, c, hc, I, ρ, s, a, w, Qa, Q, h, hw, hQ => by
    unfold mCode at hc
    split at hc
    · exact wp_ret (hQ .ret _ _ _ _ _ hw h)
    · cases hc

/-! ### results -/
def resRun (tmps : Array Value) : ResultVar → Sem Value
  | .tmp t => pure (tmps.getD t undef)
  | .cell a t => do loadVar t (← asAddr (tmps.getD a undef))

theorem res_run {I : Nat → Prop} {ρ : Nat → Place} {s : St} {a : Act} {w : World} (h : R w0 I0 N I ρ s a w) {r : ResultVar} {ar : ARes} {x : AV} (hm : mRes P r ar = true) (hx : resV s ar = some x) :
    ∃ v, (resRun a.tmps r).run P w = .ok v w ∧ VR I w (modeOf s ρ) x v := by
  cases r <;> cases ar <;> simp only [mRes, Bool.false_eq_true] at hm
  · simp only [decide_eq_true_eq] at hm
    subst hm
    simp only [resV, Option.some.injEq] at hx
    subst hx
    exact ⟨_, rfl, h.tm _⟩
  · simp only [Bool.and_eq_true, decide_eq_true_eq] at hm
    obtain ⟨rfl, ht⟩ := hm
    rename_i aa t n agg
    have hv := h.tm aa
    have h1 := (tIs_spec ht).2.2
    unfold resV at hx
    simp only [] at hx
    split at hx
    · rename_i b g p hp
      rw [hp] at hv
      split at hx
      · rename_i k hk
        obtain ⟨r, σ, hρ, hav⟩ := h.ptr hk hv
        obtain ⟨_, _, _, hok⟩ := h.blk hk
        rw [hρ] at hok
        obtain ⟨_, _, _, _, arr, ty, hheap, _, hvs⟩ := hok
        obtain ⟨hl, hA, hB⟩ := rd_VR hx hvs h1
        obtain ⟨v, hrun, hva, hvb⟩ := run_loadVar' (P := P) ht hl (rowAt_of_heap hheap k.cs.length p n)
        refine ⟨v, ?_, ?_⟩
        · simp [resRun, hav, asAddr, hrun]
        · cases agg with
          | true => rw [hva rfl]; exact hA rfl
          | false => exact hB rfl v (hvb rfl)
      · cases hx
    · cases hx

theorem ress_run {I : Nat → Prop} {ρ : Nat → Place} {s : St} {a : Act} {w : World} (h : R w0 I0 N I ρ s a w) : ∀ {rs : List ResultVar} {as : List ARes} {xs : List AV}, mRess P rs as = true → resVs s as = some xs →
    ∃ vs, (rs.mapM (resRun a.tmps)).run P w = .ok vs w ∧ VRs I w (modeOf s ρ) xs vs
  | [], [], xs, _, hx => by
    simp only [resVs, Option.some.injEq] at hx
    subst hx
    exact ⟨[], by simp, by simp [VRs]⟩
  | [], _ :: _, xs, hm, _ => by simp [mRess] at hm
  | _ :: _, [], xs, hm, _ => by simp [mRess] at hm
  | r :: rs, ar :: as, xs, hm, hx => by
    simp only [mRess, Bool.and_eq_true] at hm
    unfold resVs at hx
    split at hx
    · rename_i v vs hv hvs
      cases hx
      obtain ⟨u, hu, hr⟩ := res_run h hm.1 hv
      obtain ⟨us, hus, hrs⟩ := ress_run h hm.2 hvs
      exact ⟨u :: us, by simp [List.mapM_cons, hu, hus], by simp only [VRs]; exact ⟨hr, hrs⟩⟩
    · cases hx

theorem results_run {I : Nat → Prop} {ρ : Nat → Place} {s : St} {a : Act} {w wb : World} (h : R (Base.plain wb) I0 N I ρ s a w) {fn : Func} {as : List ARes} {r : AV} (hm : mRess P fn.results.toList as = true) (hx : handed s as = some r) :
    ∃ v, (results fn a.tmps).run P w = .ok v w ∧ Done I0 wb r (.returned v) w := by
  unfold handed at hx
  split at hx
  · rename_i vs hvs
    split at hx
    · rename_i ys fz hp
      cases hx
      obtain ⟨us, hrun, hrs⟩ := ress_run h hm hvs
      have hpv := pureVs_sound h hp hrs
      have hfz := h.freeze fz
      have hres : results fn a.tmps = (do
          let vs ← fn.results.mapM (resRun a.tmps)
          pure (if h : vs.size = 1 then vs[0] else .tuple vs)) := by
        unfold results
        congr 1
      have hrunA : (fn.results.mapM (resRun a.tmps)).run P w = .ok us.toArray w := by
        rw [Array.mapM_eq_mapM_toList]
        simp [hrun]
      refine ⟨if h : us.toArray.size = 1 then us.toArray[0] else .tuple us.toArray, ?_, ?_⟩
      · rw [hres]
        simp [hrunA]
      · refine ⟨_, rfl, Base.plain_below h.below, frzI I ρ s fz, fun b hb => .inl (h.old b hb), fun b hb => (hfz.new b hb).elim .inl fun e => .inr (Base.plain_mine.1 e), hfz.imm, ?_⟩
        have hlen := hpv.length
        match ys, us, hpv, hlen with
        | [y], [u], hpv, _ =>
          simp only [VRs] at hpv
          simp only [oneOrTup, List.size_toArray, List.length_singleton, dif_pos]
          exact hpv.1
        | [], [], hpv, _ =>
          simp only [oneOrTup, VR]
          exact ⟨[], by simp, hpv⟩
        | y :: y' :: ys, u :: u' :: us, hpv, _ =>
          simp only [oneOrTup, VR]
          exact ⟨_, by simp, hpv⟩
    · cases hx
  · cases hx

theorem look_argEnv : ∀ (args : List AV) (i t : Nat), look (argEnv i args) t = if i ≤ t then (args[t - i]?).getD .junk else .junk
  | [], i, t => by simp [argEnv, look]
  | x :: args, i, t => by
    simp only [argEnv, look]
    by_cases h : i = t
    · subst h; simp
    · rw [if_neg h, look_argEnv args (i + 1) t]
      by_cases h2 : i + 1 ≤ t
      · rw [if_pos h2, if_pos (by omega)]
        have : t - i = (t - (i + 1)) + 1 := by omega
        rw [this]
        simp
      · rw [if_neg h2]
        have : ¬ i ≤ t := by omega
        rw [if_neg this]

/-- A FUNCTION'S CONTRACT, from AM's run of its text. -/
theorem contract_of_run0 (hm : P.follows .mixedOrders = true) (hC : ∀ f, Contract P f (C f)) {f : FuncId} {fn : Func} {A : AFun} {sp : List AV → Option AV} (hf : P.funcs[f]? = some fn) (hfun : mFun P fn A = true)
    (hr : ∀ args r, sp args = some r → args.length = A.np ∧ wpC C A.code { t := argEnv 0 args, h := [], g := fun _ => 0 } (fin A.res r)) : Contract P f sp := by
  unfold mFun at hfun
  split at hfun
  · rename_i c hb
    simp only [Bool.and_eq_true, decide_eq_true_eq] at hfun
    obtain ⟨hsize, hname, hnt, hnp, hres, hcode⟩ := hfun
    refine Contract.of_plain (Nat.lt_of_lt_of_le (Array.getElem?_eq_some_iff.1 hf).1 hsize) ?_
    intro I w args vs r hsp hvs hI
    refine ⟨fun w => ?_, ?_⟩
    · have : ((fn.name == "runtime.NumGoroutine") = false) := by simpa using hname
      simp only [callFunc, Sem.run_bind, run_program, Result.andThen_ok, hf, this, hb]
      rfl
    · obtain ⟨hlen, hrun⟩ := hr args r hsp
      have hl2 := hvs.length
      refine calls_of_wp hf hb ?_
      have hR : R (Base.plain w) I A.nt I (fun _ => none) ⟨argEnv 0 args, [], fun _ => 0⟩ { tmps := vs.toArray ++ Array.replicate (fn.ntmps - vs.toArray.size) undef, defers := [] } w := by
        refine { defers := rfl, size := by simp; omega, below := Base.upto.refl _, imm := hI, old := fun _ h => h, new := fun _ h => .inl h, kept := fun b hb => hb.elim, tm := fun t => ?_, hp := fun b k hk => by simp [hlook] at hk, inj := fun b b' k k' r σ σ' hk => by simp [hlook] at hk }
        rw [look_argEnv]
        simp only [Nat.zero_le, if_true, Nat.sub_zero]
        cases hx : args[t]? with
        | none => simp [VR]
        | some x =>
          obtain ⟨v, hv, hxv⟩ := hvs.get t x hx
          have : (vs.toArray ++ Array.replicate (fn.ntmps - vs.toArray.size) undef).getD t undef = v := by
            have ht : t < vs.length := (List.getElem?_eq_some_iff.1 hv).1
            have hv' : vs[t] = v := (List.getElem?_eq_some_iff.1 hv).2
            have h1 : t < (vs.toArray ++ Array.replicate (fn.ntmps - vs.toArray.size) undef).size := by simp; omega
            simp only [Array.getD, h1, dif_pos]
            show (vs.toArray ++ Array.replicate (fn.ntmps - vs.toArray.size) undef)[t] = v
            rw [Array.getElem_append_left (by simpa using ht)]
            simpa using hv'
          rw [this]
          exact VR.mono (fun _ h => h) (fun _ _ _ => rfl) x v (M := none) trivial hxv
      refine mCode_sound hm hC A.code c hcode (fin A.res r) _ hR hrun fun e s' I' ρ' a' w' he hr' => ?_
      cases e with
      | normal =>
        obtain ⟨v, h1, h2⟩ := results_run hr' (fn := fn) hres he
        exact ⟨hr'.defers, v, h1, h2⟩
      | ret =>
        obtain ⟨v, h1, h2⟩ := results_run hr' (fn := fn) hres he
        exact ⟨hr'.defers, v, h1, h2⟩
      | exit id => exact he.elim
  · cases hfun

/-! ### functions that are given blocks -/
theorem hlook_append (h1 h2 : Hp) (b : Nat) : hlook (h1 ++ h2) b = (hlook h1 b).or (hlook h2 b) := by
  induction h1 with
  | nil => simp [hlook]
  | cons p l ih =>
    obtain ⟨k, v⟩ := p
    simp only [List.cons_append, hlook]
    split
    · rfl
    · exact ih

theorem gresults_run {I I0 : Nat → Prop} {ρ ρ0 : Nat → Place} {s : St} {a : Act} {w wb : World} {hb0 : Hp} (h : R (gbase wb hb0 ρ0) I0 N I ρ s a w) (h2 : ∀ b k, hlook hb0 b = some k → b < 2) {fn : Func} {as : List ARes} {r : AV} {kept : Bool} {new : Option Nat} {h' : Hp}
    (hm : mRess P fn.results.toList as = true) (hx : ghanded s as kept new = some (r, h')) :
    ∃ v, (results fn a.tmps).run P w = .ok v w ∧ GDone I0 wb hb0 ρ0 r h' (.returned v) w := by
  unfold ghanded at hx
  generalize hbs : [if kept = true then 0 else nope, nope, new.getD nope] = bs at *
  generalize hlk : (if kept = true then [0] else ([] : List Nat)) = lk at *
  simp only [] at hx
  generalize hfp : s.h.map (·.1) = fp at *
  split at hx
  · rename_i vs hvs
    split at hx
    · rename_i ys fz hp0 hp2 hga h0 hn
      split at hx
      · rename_i hc
        obtain ⟨hfz0, hg0, hn0, hnn⟩ := hc
        simp only [Option.some.injEq, Prod.mk.injEq] at hx
        obtain ⟨rfl, rfl⟩ := hx
        have hfz : ∀ b ∈ fz, b ∉ bs := by
          intro b hm
          rw [List.all_eq_true] at hfz0
          simpa using hfz0 b hm
        -- the blocks that are handed back, one by one
        have each : ∀ i k, hlook (hp0 ++ hp2) i = some k → ∃ b k0, bs[i]? = some b ∧ hlook s.h b = some k0 ∧ k0.frz = false ∧ k0.esz ≠ mapTag ∧ mapM1 (nrm1 s fp bs) k0.cs = some k.cs ∧ k.frz = false ∧ k.esz = k0.esz ∧ ((i = 0 ∧ kept = true ∧ b = 0) ∨ (i = 2 ∧ new = some b)) := by
          intro i k hk
          rw [hlook_append] at hk
          cases hk0 : hlook hp0 i with
          | some k1 =>
            rw [hk0] at hk
            cases hk
            obtain ⟨_, b, k0, e1, e2, e3, e4, e5, e6, e7⟩ := (gblks_spec h0).1 i k hk0
            rw [← hlk] at e1
            cases kept with
            | false => simp at e1
            | true =>
              simp only [if_true, Nat.sub_zero] at e1
              have hi : i = 0 := by
                have := (List.getElem?_eq_some_iff.1 e1).1
                simp at this
                exact this
              subst hi
              simp at e1
              subst e1
              exact ⟨0, k0, by rw [← hbs]; simp, e2, e3, e4, e5, e6, e7, .inl ⟨rfl, rfl, rfl⟩⟩
          | none =>
            rw [hk0] at hk
            have hk2 : hlook hp2 i = some k := by simpa using hk
            obtain ⟨hi, b, k0, e1, e2, e3, e4, e5, e6, e7⟩ := (gblks_spec hn).1 i k hk2
            cases new with
            | none => simp at e1
            | some n =>
              simp only [Option.toList_some] at e1
              have hi2 : i - 2 = 0 := by
                have := (List.getElem?_eq_some_iff.1 e1).1
                simp at this
                omega
              rw [hi2] at e1
              simp at e1
              subst e1
              have : i = 2 := by omega
              subst this
              exact ⟨n, k0, by rw [← hbs]; simp, e2, e3, e4, e5, e6, e7, .inr ⟨rfl, rfl⟩⟩
        have near : ∀ i k, hlook (hp0 ++ hp2) i = some k → ∃ b k0, bs[i]? = some b ∧ hlook s.h b = some k0 ∧ k.esz = k0.esz := by
          intro i k hk
          obtain ⟨b, k0, e1, e2, _, _, _, _, e7, _⟩ := each i k hk
          exact ⟨b, k0, e1, e2, e7⟩
        obtain ⟨us, hrun, hrs⟩ := ress_run h hm hvs
        have hpv := gargs_sound h near _ _ _ _ hga hrs
        have hf := h.freeze fz
        have hres : results fn a.tmps = (do
            let vs ← fn.results.mapM (resRun a.tmps)
            pure (if h : vs.size = 1 then vs[0] else .tuple vs)) := by
          unfold results
          congr 1
        have hrunA : (fn.results.mapM (resRun a.tmps)).run P w = .ok us.toArray w := by
          rw [Array.mapM_eq_mapM_toList]
          simp [hrun]
        refine ⟨if h : us.toArray.size = 1 then us.toArray[0] else .tuple us.toArray, ?_, ?_⟩
        · rw [hres]
          simp [hrunA]
        · refine ⟨_, rfl, frzI I ρ s fz, gpl ρ bs, h.below, fun b hb => .inl (h.old b hb), hf.new, hf.imm, fun b k k' hk hk' => ?_, ⟨fun i k hk => ?_, fun i i' k k' r σ σ' hk hk' hq hq' => ?_⟩, ?_⟩
          · have hlt := h2 b k hk
            obtain ⟨b1, k0, e1, _, _, _, _, _, _, e8⟩ := each b k' hk'
            rcases e8 with ⟨rfl, _, rfl⟩ | ⟨rfl, _⟩
            · simp only [gpl, e1]
              exact h.kept 0 ⟨k, hk⟩ hg0
            · omega
          · obtain ⟨b, k0, e1, e2, e3, e4, e5, e6, e7, _⟩ := each i k hk
            have hk1 : hlook (frzAll fz s.h) b = some k0 := by
              rw [hlook_frzAll, e2]
              simp only [Option.map_some, Option.some.injEq]
              rw [if_neg]
              intro hc
              exact hfz b (by simpa using hc) (List.mem_of_getElem? e1)
            have q1 := hf.hp b k0 hk1
            have q2 := h.hp b k0 e2
            refine ⟨e6, ?_⟩
            have hpl : gpl ρ bs i = ρ b := by simp only [gpl, e1]
            rw [hpl]
            unfold BlkOk at q1 q2 ⊢
            rw [if_neg e4] at q1 q2
            rw [if_neg (by rw [e7]; exact e4)]
            revert q1 q2
            unfold BlkC
            cases hq : ρ b with
            | none =>
              intro _ q2
              have e3' : k0.cs = [] := q2
              rw [e3'] at e5
              simp [mapM1] at e5
              show k.cs = []
              exact e5
            | some p =>
              obtain ⟨r, σ⟩ := p
              rintro ⟨_, _, f3, _⟩ ⟨f1, _, _, f4, arr, ty, f5, f6, f7⟩
              have hlen := mapM1_len e5
              refine ⟨f1, fun e => (by rw [e6] at e; cases e), fun _ => f3 e3, by omega, arr, ty, f5, f6, ?_⟩
              rw [hlen]
              exact VRs.mono (fun b hb => .inl hb) (fun _ _ _ => rfl) _ _ (Mode.le_refl _) (mapM1_sound (nrm1_sound h near) _ _ _ e5 f7)
          · obtain ⟨b, k0, e1, e2, _, _, _, _, _, e8⟩ := each i k hk
            obtain ⟨b', k0', e1', e2', _, _, _, _, _, e8'⟩ := each i' k' hk'
            simp only [gpl, e1] at hq
            simp only [gpl, e1'] at hq'
            have hbb := h.inj b b' k0 k0' r σ σ' e2 e2' hq hq'
            subst hbb
            rcases e8 with ⟨rfl, _, q⟩ | ⟨rfl, q⟩ <;> rcases e8' with ⟨rfl, _, q'⟩ | ⟨rfl, q'⟩
            · rfl
            · subst q; exact absurd q' hn0
            · subst q'; exact absurd q hn0
            · rfl
          · have hlen := hpv.length
            match ys, us, hpv, hlen with
            | [y], [u], hpv, _ =>
              simp only [VRs] at hpv
              simp only [oneOrTup, List.size_toArray, List.length_singleton, dif_pos]
              exact hpv.1
            | [], [], hpv, _ =>
              simp only [oneOrTup, VR]
              exact ⟨[], by simp, hpv⟩
            | y :: y' :: ys, u :: u' :: us, hpv, _ =>
              simp only [oneOrTup, VR]
              exact ⟨_, by simp, hpv⟩
      · cases hx
    · cases hx
  · cases hx

theorem ghanded_frz {s : St} {rs : List ARes} {kept : Bool} {new : Option Nat} {r : AV} {h : Hp} (hx : ghanded s rs kept new = some (r, h)) : (h.all fun p => !p.2.frz) = true := by
  unfold ghanded at hx
  generalize [if kept = true then 0 else nope, nope, new.getD nope] = bs at *
  generalize (if kept = true then [0] else ([] : List Nat)) = lk at *
  simp only [] at hx
  split at hx
  · split at hx
    · rename_i h0 hn
      split at hx
      · simp only [Option.some.injEq, Prod.mk.injEq] at hx
        obtain ⟨_, rfl⟩ := hx
        rw [List.all_append, gblks_frz h0, gblks_frz hn]
        rfl
      · cases hx
    · cases hx
  · cases hx

/-- THE CONTRACT OF A FUNCTION THAT IS GIVEN BLOCKS, from AM's run of its text. -/
theorem gcontract_of_run (hm : P.follows .mixedOrders = true) (hC : ∀ f, Contract P f (C f)) {f : FuncId} {fn : Func} {A : AFun} {sp : List AV → Option AV} (hf : P.funcs[f]? = some fn) (hfun : mFun P fn A = true)
    (hr : ∀ args h r h', (h.all fun p => !p.2.frz) = true → (h'.all fun p => !p.2.frz) = true → sp (args ++ [.tup (encs h)]) = some (.tup (r :: encs h')) → args.length = A.np ∧ ∃ kept, wpC C A.code { t := argEnv 0 args, h := h, g := fun _ => 0 } (gfin A.res kept r h')) : Contract P (gBase + f) sp := by
  refine Contract.of_gate ?_
  unfold mFun at hfun
  split at hfun
  · rename_i c hb
    simp only [Bool.and_eq_true, decide_eq_true_eq] at hfun
    obtain ⟨hsize, hname, hnt, hnp, hres, hcode⟩ := hfun
    intro I w args vs r h h' ρ hsp hfrz hfrz' hvs h2 hgate hI
    refine ⟨fun w => ?_, ?_⟩
    · have : ((fn.name == "runtime.NumGoroutine") = false) := by simpa using hname
      simp only [callFunc, Sem.run_bind, run_program, Result.andThen_ok, hf, this, hb]
      rfl
    · obtain ⟨hlen, kept, hrun⟩ := hr args h r h' hfrz hfrz' hsp
      have hl2 := hvs.length
      refine calls_of_wp hf hb ?_
      have hR : R (gbase w h ρ) I A.nt I ρ ⟨argEnv 0 args, h, fun _ => 0⟩ { tmps := vs.toArray ++ Array.replicate (fn.ntmps - vs.toArray.size) undef, defers := [] } w := by
        refine { defers := rfl, size := by simp; omega, below := Base.upto.refl _, imm := hI, old := fun _ h => h, new := fun _ h => .inl h, kept := fun b _ _ => rfl, tm := fun t => ?_, hp := fun b k hk => (hgate.ok b k hk).2, inj := hgate.inj }
        rw [look_argEnv]
        simp only [Nat.zero_le, if_true, Nat.sub_zero]
        cases hx : args[t]? with
        | none => simp [VR]
        | some x =>
          obtain ⟨v, hv, hxv⟩ := hvs.get t x hx
          have : (vs.toArray ++ Array.replicate (fn.ntmps - vs.toArray.size) undef).getD t undef = v := by
            have ht : t < vs.length := (List.getElem?_eq_some_iff.1 hv).1
            have hv' : vs[t] = v := (List.getElem?_eq_some_iff.1 hv).2
            have h1 : t < (vs.toArray ++ Array.replicate (fn.ntmps - vs.toArray.size) undef).size := by simp; omega
            simp only [Array.getD, h1, dif_pos]
            show (vs.toArray ++ Array.replicate (fn.ntmps - vs.toArray.size) undef)[t] = v
            rw [Array.getElem_append_left (by simpa using ht)]
            simpa using hv'
          rw [this]
          exact hxv
      refine mCode_sound hm hC A.code c hcode (gfin A.res kept r h') _ hR hrun fun e s' I' ρ' a' w' he hr' => ?_
      cases e with
      | normal =>
        obtain ⟨new, he⟩ := he
        obtain ⟨v, h1, h2⟩ := gresults_run hr' h2 (fn := fn) hres he
        exact ⟨hr'.defers, v, h1, h2⟩
      | ret =>
        obtain ⟨new, he⟩ := he
        obtain ⟨v, h1, h2⟩ := gresults_run hr' h2 (fn := fn) hres he
        exact ⟨hr'.defers, v, h1, h2⟩
      | exit id => exact he.elim
  · cases hfun

theorem contract_of_runs (hm : P.follows .mixedOrders = true) (hC : ∀ f, Contract P f (C f)) {f : FuncId} {fn : Func} {A : AFun} {sp : List AV → Option AV} (hf : P.funcs[f]? = some fn) (hfun : mFun P fn A = true)
    (hr : ∀ args r, sp args = some r → Runs C A args r) : Contract P f sp :=
  contract_of_run0 hm hC hf hfun fun args r h => ⟨(hr args r h).1, (hr args r h).2 _⟩

/-! ### tables of contracts -/
def tbl : List (Nat × (List AV → Option AV)) → Cs
  | [], _, _ => none
  | (k, g) :: l, f, args => if f = k then g args else tbl l f args

theorem contract_none {f : Nat} {sp : List AV → Option AV} (h : ∀ args, sp args = none) : Contract P f sp := by
  unfold Contract
  split
  · intro I w args vs r h'; rw [h] at h'; cases h'
  · intro I w args vs r h1 h2 ρ h'; rw [h] at h'; cases h'

theorem tbl_nil (f : Nat) : Contract P f (tbl [] f) := contract_none fun _ => rfl

theorem tbl_cons {k : Nat} {g : List AV → Option AV} {l : List (Nat × (List AV → Option AV))} (h : Contract P k g) (hl : ∀ f, Contract P f (tbl l f)) (f : Nat) : Contract P f (tbl ((k, g) :: l) f) := by
  by_cases e : f = k
  · subst e
    exact h.less fun args r hs => by simpa [tbl] using hs
  · exact (hl f).less fun args r hs => by simpa [tbl, e] using hs

end
end Go.Am
