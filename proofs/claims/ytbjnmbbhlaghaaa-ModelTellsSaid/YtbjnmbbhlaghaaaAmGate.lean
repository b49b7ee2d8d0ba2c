/- AM: from a contract to what a law's statement asks: the result is true, the arguments read as they did. -/
import Derived.Test.YtbjnmbbhlaghaaaAmExec
import Derived.ChangeSame
import Derived.OpenShut
namespace Go.Am
set_option linter.unusedVariables false
open Go.RowKit Go.ChangeShapes

section
variable {H : Type} {enc : TypeId × Value → H} {P : Program}

/-- FRAME, FROZEN and ARGS of a row whose call left all below the old memory's end as it was. -/
theorem post_of_below {f : Func} {s : ChangeSpec} {apart fresh handsOn again : Bool} {W W' : World} {args : Array Value} {v : Value} {ds gs : List (DataW H)} {before pa pv : List MemPlace}
    (hW : DataW.Whole enc P f.params.toList s.vars apart W args.toList ds gs before) (hb : Below W.heap.size W W')
    (hres : ∀ (b : Nat) (sp : Nat → Bool) (hd : Bool), DataW.TrodAll enc P W' b sp hd f.resultTypes.toList (v.resultList f.resultTypes.size) (s.fn H (ds ++ gs)).results [])
    (hargs : ∀ sp : Nat → Bool, (∀ p ∈ before, sp p.block = true) → DataW.TrodAll enc P W' 0 sp true f.params.toList args.toList (s.fn H (ds ++ gs)).args pa)
    (hvars : ∀ sp : Nat → Bool, (∀ p ∈ before, sp p.block = true) → DataW.TrodVars enc P W' sp s.vars (s.fn H (ds ++ gs)).vars pv)
    (hps : before = pa ++ pv)
    (hok : ∀ (j : Nat) (t : TypeId) (r : Value), f.resultTypes[j]? = some t → (v.resultList f.resultTypes.size)[j]? = some r → Value.okWide P W' .any 0 t r) :
    s.post enc P f apart fresh handsOn again W args v W' := by
  have hlt : ∀ p ∈ before, p.block < W.heap.size := hW.lt
  refine ⟨ds, gs, before, [], pa, pv, hW, hres _ _ _, hargs _ (fun p hp => by simpa using hlt p hp), hvars _ (fun p hp => by simpa using hlt p hp), World.keptBut_mono (fun p hp => ⟨hp, ?_⟩) (hb.frame _), fun _ => ?_⟩
  · subst hps
    rw [List.mem_append] at hp
    exact .inr hp
  · obtain ⟨_, _, _, _, _, hz, hn⟩ := hW
    refine ⟨hok, _, _, ([] ++ pa) ++ pv, ⟨[] ++ pa, pv, trodAll_append (hargs _ (fun _ _ => rfl)) (hres _ _ _), hvars _ (fun _ _ => rfl), rfl, fun b off hp => ?_, fun ha => ?_⟩, fun p hp _ => ?_⟩
    · have hm : MemPlace.cell b off ∈ before := by subst hps; simpa using hp
      have h1 := hz b off hm
      rw [← h1]
      exact hb.frozen (hlt _ hm)
    · have := hn ha
      subst hps
      simpa using this
    · subst hps
      simpa using hp
end

/-- a closed sentence, by running it -/
def saysTrue : Option AV → Bool
  | some (.bool true) => true
  | _ => false

theorem saysTrue_eq {r : Option AV} (h : saysTrue r = true) : r = some (.bool true) := by
  unfold saysTrue at h
  split at h
  · rfl
  · cases h

theorem calls_true {P : Program} {f : FuncId} {sp : List AV → Option AV} (hc : Contract P f sp) {I : Nat → Prop} {w : World} {args : List AV} {vs : List Value} (h : sp args = some (.bool true)) (hv : VRs I w none args vs) (hI : ∀ b, I b → b < w.heap.size) (hlt : f < gBase := by decide) :
    Calls P f vs.toArray w fun e w' => e = .returned (.bool true) ∧ Below w.heap.size w w' := by
  refine Calls.mono (hc.plain hlt I w args vs _ h hv hI).2 fun e w' he => ?_
  obtain ⟨v, rfl, hb, I', _, _, _, hr⟩ := he
  simp only [VR] at hr
  subst hr
  exact ⟨rfl, hb⟩

theorem closed_true {P : Program} (hm : P.follows .mixedOrders = true) {T : List (Nat × AFun)} (hT : Good P T) {m n f : Nat} (h : saysTrue (callF T m n f []) = true) (w : World) (hlt : f < gBase := by decide) :
    Calls P f #[] w fun e w' => e = .returned (.bool true) ∧ Below w.heap.size w w' :=
  calls_true (I := fun _ => False) (vs := []) (callF_contract hm hT m n f) (saysTrue_eq h) (by simp [VRs]) (fun b h => h.elim) hlt

theorem closed_trueG {P : Program} (hm : P.follows .mixedOrders = true) {T : List (Nat × AFun)} (hT : Good P T) {L : Cs} (hL : ∀ f, Contract P f (L f)) {NW : Nat → Option Nat} {m n f : Nat} (h : saysTrue (callG T L NW m n f []) = true) (w : World) (hlt : f < gBase := by decide) :
    Calls P f #[] w fun e w' => e = .returned (.bool true) ∧ Below w.heap.size w w' :=
  calls_true (I := fun _ => False) (vs := []) (callG_contract hm hT hL m n f) (saysTrue_eq h) (by simp [VRs]) (fun b h => h.elim) hlt

end Go.Am
