/- AM: a law's statement, from a contract of its Go function. -/
import Derived.Test.YtbjnmbbhlaghaaaAmEntry
import Derived.Carry
namespace Go.Am
set_option linter.unusedVariables false
set_option linter.unusedSimpArgs false
open Go.RowKit Go.ChangeShapes

/-- what a parameter's type says of its value -/
def argOk (P : Program) (t : TypeId) (x : AV) : Prop :=
  match isAggT P t with
  | true => ∃ xs ss, x = .agg xs ∧ shp P 20 t = some ss ∧ okR ss xs
  | false => ∃ s, shp P 20 t = some [s] ∧ okS s x

def argsOk (P : Program) : List TypeId → List AV → Prop
  | [], [] => True
  | t :: ts, x :: xs => argOk P t x ∧ argsOk P ts xs
  | _, _ => False

def shaped (P : Program) (t : TypeId) : Bool :=
  match shp P 20 t with
  | some ss => isAggT P t || decide (ss.length = 1)
  | none => false

section
variable {H : Type} {enc : TypeId × Value → H} {P : Program} {W W' : World}

theorem arg_read {t : TypeId} {v : Value} {d : DataW H} {ps : List MemPlace} {sp : Nat → Bool} {held : Bool} {base : Nat} (hs : shaped P t = true) (hv : Value.okWide P W .any base t v) (h : DataW.Trod enc P W 0 sp held t v d ps) :
    ∃ x, argOk P t x ∧ VR (fun b => b < W.heap.size) W none x v := by
  obtain ⟨fuel, h⟩ := h
  unfold shaped at hs
  split at hs
  · rename_i ss hss
    obtain ⟨xs, h1, h2⟩ := trod_cells fuel t _ d ps 20 ss hss h
    unfold argOk
    cases hagg : isAggT P t with
    | true =>
      unfold isAggT at hagg
      have hcs : ∃ cs, v = .agg cs := by
        unfold Value.okWide at hv
        split at hagg
        · rename_i fs hu; rw [hu] at hv; obtain ⟨cs, rfl, _⟩ := hv; exact ⟨cs, rfl⟩
        · rename_i n e hu; rw [hu] at hv; obtain ⟨cs, rfl, _⟩ := hv; exact ⟨cs, rfl⟩
        · cases hagg
      obtain ⟨cs, rfl⟩ := hcs
      refine ⟨.agg xs, ⟨xs, ss, rfl, hss, h1⟩, ?_⟩
      simp only [VR]
      exact ⟨cs.toList, by simp, h2⟩
    | false =>
      rw [hagg] at hs
      simp only [Bool.false_or, decide_eq_true_eq] at hs
      match ss, xs, hs, h1, h2 with
      | [s], [x], _, h1, h2 =>
        simp only [okR, and_true] at h1
        refine ⟨x, ⟨s, hss, h1⟩, ?_⟩
        cases hc : v.cells.toList with
        | nil => rw [hc] at h2; simp [VRs] at h2
        | cons u us =>
          rw [hc] at h2
          cases us with
          | cons _ _ => simp [VRs] at h2
          | nil =>
            simp only [VRs, and_true] at h2
            have hvu : v = u := by
              unfold Value.cells at hc
              split at hc
              · rename_i cs
                exfalso
                unfold isAggT at hagg
                unfold Value.okWide at hv
                split at hv
                · rename_i hu; rw [hu] at hagg; cases hagg
                · rename_i hu; rw [hu] at hagg; cases hagg
                · unfold Cell.okWide at hv
                  split at hv <;> try (simp_all; done)
                  unfold Cell.ok at hv
                  split at hv <;> simp_all
              · simpa using hc
            rw [hvu]
            exact h2
      | [], _, hs, _, _ => simp at hs
      | _ :: _ :: _, _, hs, _, _ => simp at hs
      | [_], [], _, h1, _ => simp [okR] at h1
      | [_], _ :: _ :: _, _, h1, _ => simp [okR] at h1
  · cases hs

theorem args_read {sp : Nat → Bool} {held : Bool} {base : Nat} : ∀ {ts : List TypeId} {vs : List Value} {ds : List (DataW H)} {ps : List MemPlace}, (∀ t ∈ ts, shaped P t = true) →
    (∀ (j : Nat) t v, ts[j]? = some t → vs[j]? = some v → Value.okWide P W .any base t v) → DataW.TrodAll enc P W 0 sp held ts vs ds ps →
    ∃ xs, argsOk P ts xs ∧ VRs (fun b => b < W.heap.size) W none xs vs
  | [], vs, ds, ps, _, _, h => by
    obtain ⟨rfl, rfl, rfl⟩ := trodAll_nil h
    exact ⟨[], by simp [argsOk], by simp [VRs]⟩
  | t :: ts, vs, ds, ps, hs, hv, h => by
    obtain ⟨v, vs', d, ds', p, q, rfl, rfl, rfl, h1, h2⟩ := trodAll_cons h
    obtain ⟨x, hx, hxv⟩ := arg_read (hs t (by simp)) (hv 0 t v rfl rfl) h1
    obtain ⟨xs, hxs, hxsv⟩ := args_read (fun t ht => hs t (by simp [ht])) (fun j t v hj hv' => hv (j + 1) t v (by simpa using hj) (by simpa using hv')) h2
    exact ⟨x :: xs, ⟨hx, hxs⟩, by simp only [VRs]; exact ⟨hxv, hxsv⟩⟩

theorem trodAll_stays (hl : laidOutB P = true) {sp : Nat → Bool} : ∀ {ts : List TypeId} {vs : List Value} {ds : List (DataW H)} {ps : List MemPlace}, (∀ t ∈ ts, P.readableRec t = true ∧ t < P.types.size) →
    DataW.TrodAll enc P W 0 (fun _ => true) true ts vs ds ps → (∀ x ∈ ps, W.sameAt W' x) → (∀ x ∈ ps, sp x.block = true) → DataW.TrodAll enc P W' 0 sp true ts vs ds ps
  | [], vs, ds, ps, _, h, _, _ => by
    obtain ⟨rfl, rfl, rfl⟩ := trodAll_nil h
    exact trodAll_mk0
  | t :: ts, vs, ds, ps, hr, h, hs, hsp => by
    obtain ⟨v, vs', d, ds', p, q, rfl, rfl, rfl, h1, h2⟩ := trodAll_cons h
    exact trodAll_cons_mk (WideElems.Trod_stays hl (hr t (by simp)).1 (hr t (by simp)).2 h1 (fun x hx => hs x (by simp [hx])) (fun x hx => hsp x (by simp [hx])))
      (trodAll_stays hl (fun t ht => hr t (by simp [ht])) h2 (fun x hx => hs x (by simp [hx])) (fun x hx => hsp x (by simp [hx])))

theorem trodAll_len : ∀ {ts : List TypeId} {vs : List Value} {ds : List (DataW H)} {ps : List MemPlace} {sp : Nat → Bool} {held : Bool} {base : Nat}, DataW.TrodAll enc P W base sp held ts vs ds ps → ds.length = ts.length
  | [], vs, ds, ps, _, _, _, h => by
    obtain ⟨rfl, rfl, rfl⟩ := trodAll_nil h
    rfl
  | t :: ts, vs, ds, ps, _, _, _, h => by
    obtain ⟨v, vs', d, ds', p, q, rfl, rfl, rfl, h1, h2⟩ := trodAll_cons h
    simp [trodAll_len h2]

/-- THE GATE of a law of any parameters. -/
theorem law_gate {f : FuncId} {fn : Func} {s : ChangeSpec} {apart fresh handsOn again : Bool} {args : Array Value} {ds gs : List (DataW H)} {before : List MemPlace} {base tb : Nat} (hl : laidOutB P = true)
    (hvars : s.vars = []) (hfn : ∀ ds : List (DataW H), ds.length = fn.params.toList.length → (s.fn H ds).results = [.lit (.bool true)] ∧ (s.fn H ds).args = ds ∧ (s.fn H ds).vars = [])
    (ht : (fn.params.toList.all fun t => P.readableRec t && (decide (t < P.types.size) && shaped P t)) = true) (hres : fn.resultTypes = #[tb]) (hb : P.underlying tb = some .bool)
    (hval : ∀ (j : Nat) t v, fn.params[j]? = some t → args[j]? = some v → Value.okWide P W .any base t v)
    (hW : DataW.Whole enc P fn.params.toList s.vars apart W args.toList ds gs before) {sp : List AV → Option AV} (hc : Contract P f sp) (hsp : ∀ xs, argsOk P fn.params.toList xs → sp xs = some (.bool true)) (hlt : f < gBase := by decide) :
    Calls P f args W fun e W' => ∃ v, e = .returned v ∧ s.post enc P fn apart fresh handsOn again W args v W' := by
  have hW' := hW
  obtain ⟨p, q, hA, hV, rfl, hfz, hnd⟩ := hW
  rw [hvars] at hV
  obtain ⟨rfl, rfl⟩ := trodVars_none hV
  rw [List.all_eq_true] at ht
  have ht' : ∀ t ∈ fn.params.toList, P.readableRec t = true ∧ t < P.types.size ∧ shaped P t = true := fun t h => by
    have := ht t h
    simp only [Bool.and_eq_true, decide_eq_true_eq] at this
    exact this
  obtain ⟨xs, h1, h2⟩ := args_read (base := base) (fun t h => (ht' t h).2.2) (fun j t v hj hv => hval j t v (by simpa using hj) (by simpa using hv)) hA
  have hcall := calls_true hc (hsp xs h1) h2 (fun b h => h) hlt
  simp only [List.append_nil] at hW'
  have e : args.toList.toArray = args := by simp
  rw [e] at hcall
  obtain ⟨f1, f2, f3⟩ := hfn ds (trodAll_len hA)
  refine Calls.mono hcall fun e W' ⟨he, hbl⟩ => ?_
  subst he
  have hlt : ∀ x ∈ p, x.block < W.heap.size := fun x hx => hW'.lt x hx
  refine ⟨_, rfl, post_of_below (pa := p) (pv := []) hW' hbl (fun b sp hd => ?_) (fun sp hsp => ?_) (fun sp _ => ?_) (by simp) ?_⟩
  · rw [List.append_nil, f1, hres]
    exact trodAll_cons_mk (shut_bool hb _) trodAll_mk0
  · rw [List.append_nil, f2]
    exact trodAll_stays hl (fun t h => ⟨(ht' t h).1, (ht' t h).2.1⟩) hA (fun x hx => hbl.same (hlt x hx)) hsp
  · rw [List.append_nil, f3, hvars]
    rfl
  · exact ok_one hres rfl (okWide_bool_mk hb _)
end
end Go.Am
