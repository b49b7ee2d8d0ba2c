/- AM: an interpreter, and that what it comes to holds of the model's run: a closed sentence is proved by running it. -/
import Derived.Test.YtbjnmbbhlaghaaaAmFun
namespace Go.Am
set_option linter.unusedVariables false

def runL (W : St → Option (Ex × St)) : Nat → St → Option (Ex × St)
  | 0, _ => none
  | n + 1, s => match W s with
    | some (.normal, s') => runL W n s'
    | r => r

def exec (C : Cs) (n : Nat) : ACode → St → Option (Ex × St)
  | .skip, s => some (.normal, s)
  | .ops l kill, s => match evOps C l s with
    | .ok s' => some (.normal, { s' with t := keepT s'.t kill })
    | _ => none
  | .seq a b, s => match exec C n a s with
    | some (.normal, s') => exec C n b s'
    | r => r
  | .cond c a b, s => match opv s c with
    | .bool true => exec C n a s
    | .bool false => exec C n b s
    | _ => none
  | .block id c, s => match exec C n c s with
    | some (.exit id', s') => if id' = id then some (.normal, s') else some (.exit id', s')
    | r => r
  | .loop c, s => runL (exec C n c) n s
  | .keep kt kh c, s => exec C n c { t := keepT s.t kt, h := keepH s.h kh, g := s.g }
  | .exit id, s => some (.exit id, s)
  | .ret, s => some (.ret, s)

def ends (rs : List ARes) : Option (Ex × St) → Option AV
  | some (.normal, s) => handed s rs
  | some (.ret, s) => handed s rs
  | _ => none

def tabF : List (Nat × AFun) → Nat → Option AFun
  | [], _ => none
  | (k, A) :: l, f => if f = k then some A else tabF l f

def callF (T : List (Nat × AFun)) (m : Nat) : Nat → Cs
  | 0, _, _ => none
  | n + 1, f, args => match tabF T f with
    | some A => if args.length = A.np then ends A.res (exec (callF T m n) m A.code { t := argEnv 0 args, h := [], g := fun _ => 0 }) else none
    | none => none

theorem runL_sound {C : Cs} {c : ACode} {n0 : Nat} (ih : ∀ s e s' (Q : Post), exec C n0 c s = some (e, s') → Q e s' → wpC C c s Q) :
    ∀ (n : Nat) (s : St) (e : Ex) (s' : St) (Q : Post), runL (exec C n0 c) n s = some (e, s') → Q e s' → iter (wpC C c) n s Q
  | 0, s, e, s', Q, h, _ => by simp [runL] at h
  | n + 1, s, e, s', Q, h, hQ => by
    rw [iter]
    unfold runL at h
    split at h
    · rename_i s1 h1
      exact ih s .normal s1 _ h1 (runL_sound ih n s1 e s' Q h hQ)
    · rename_i r hne
      refine ih s e s' _ h ?_
      cases e with
      | normal => exact absurd h (hne s')
      | exit id => exact hQ
      | ret => exact hQ

theorem exec_sound {C : Cs} {n : Nat} : ∀ (c : ACode) (s : St) (e : Ex) (s' : St) (Q : Post), exec C n c s = some (e, s') → Q e s' → wpC C c s Q
  | .skip, s, e, s', Q, h, hQ => by
    simp only [exec, Option.some.injEq, Prod.mk.injEq] at h
    obtain ⟨rfl, rfl⟩ := h
    exact hQ
  | .ops l kill, s, e, s', Q, h, hQ => by
    rw [wpC]
    unfold exec at h
    split at h
    · rename_i s1 h1
      simp only [Option.some.injEq, Prod.mk.injEq] at h
      obtain ⟨rfl, rfl⟩ := h
      rw [h1]
      exact hQ
    · cases h
  | .seq a b, s, e, s', Q, h, hQ => by
    rw [wpC]
    unfold exec at h
    split at h
    · rename_i s1 h1
      exact exec_sound a s .normal s1 _ h1 (exec_sound b s1 e s' Q h hQ)
    · rename_i r hne
      refine exec_sound a s e s' _ h ?_
      cases e with
      | normal => exact absurd h (hne s')
      | exit id => exact hQ
      | ret => exact hQ
  | .cond c a b, s, e, s', Q, h, hQ => by
    rw [wpC]
    unfold exec at h
    split at h
    · rename_i hc
      rw [hc]
      exact ⟨fun _ => exec_sound a s e s' Q h hQ, fun t => by cases t⟩
    · rename_i hc
      rw [hc]
      exact ⟨fun t => by (cases t), fun _ => exec_sound b s e s' Q h hQ⟩
    · cases h
  | .block id c, s, e, s', Q, h, hQ => by
    rw [wpC]
    unfold exec at h
    split at h
    · rename_i id' s1 h1
      refine exec_sound c s (.exit id') s1 _ h1 ?_
      simp only
      split at h
      · rename_i hid
        rw [if_pos hid]
        cases h
        exact hQ
      · rename_i hid
        rw [if_neg hid]
        cases h
        exact hQ
    · rename_i r hne
      refine exec_sound c s e s' _ h ?_
      cases e with
      | normal => exact hQ
      | exit id' => exact absurd h (hne id' s')
      | ret => exact hQ
  | .loop c, s, e, s', Q, h, hQ => by
    rw [wpC]
    unfold exec at h
    exact ⟨n, runL_sound (fun s e s' Q => exec_sound c s e s' Q) n s e s' Q h hQ⟩
  | .keep kt kh c, s, e, s', Q, h, hQ => by
    rw [wpC]
    unfold exec at h
    exact exec_sound c _ e s' Q h hQ
  | .exit id, s, e, s', Q, h, hQ => by
    simp only [exec, Option.some.injEq, Prod.mk.injEq] at h
    obtain ⟨rfl, rfl⟩ := h
    exact hQ
  | .ret, s, e, s', Q, h, hQ => by
    simp only [exec, Option.some.injEq, Prod.mk.injEq] at h
    obtain ⟨rfl, rfl⟩ := h
    exact hQ

/-- each text of the table is the program's own -/
def Good (P : Program) (T : List (Nat × AFun)) : Prop := ∀ f A, tabF T f = some A → ∃ fn, P.funcs[f]? = some fn ∧ mFun P fn A = true

theorem good_nil {P : Program} : Good P [] := by intro f A h; cases h

theorem good_cons {P : Program} {k : Nat} {fn : Func} {A : AFun} {T : List (Nat × AFun)} (hf : P.funcs[k]? = some fn) (hm : mFun P fn A = true) (h : Good P T) : Good P ((k, A) :: T) := by
  intro f B hB
  simp only [tabF] at hB
  split at hB
  · rename_i e
    subst e
    cases hB
    exact ⟨fn, hf, hm⟩
  · exact h f B hB

theorem callF_contract {P : Program} (hm : P.follows .mixedOrders = true) {T : List (Nat × AFun)} (hT : Good P T) (m : Nat) : ∀ (n f : Nat), Contract P f (callF T m n f)
  | 0, f => contract_none fun args => rfl
  | n + 1, f => by
    cases hA : tabF T f with
    | none => exact contract_none fun args => by unfold callF; rw [hA]
    | some A =>
      obtain ⟨fn, hf, hfun⟩ := hT f A hA
      refine contract_of_run0 hm (fun f => callF_contract hm hT m n f) hf hfun (sp := callF T m (n + 1) f) ?_
      intro args r h
      unfold callF at h
      rw [hA] at h
      simp only at h
      split at h
      · rename_i hl
        refine ⟨hl, ?_⟩
        unfold ends at h
        split at h
        · rename_i s he
          exact exec_sound _ _ _ _ _ he h
        · rename_i s he
          exact exec_sound _ _ _ _ _ he h
        · cases h
      · cases h

/-! ### with calls that are given blocks, and with what is told of other functions (L) -/
def endsG (rs : List ARes) (kept : Bool) (new : Option Nat) : Option (Ex × St) → Option AV
  | some (.normal, s) => (ghanded s rs kept new).map fun p => .tup (p.1 :: encs p.2)
  | some (.ret, s) => (ghanded s rs kept new).map fun p => .tup (p.1 :: encs p.2)
  | _ => none

def blocksOf : AV → Option Hp
  | .tup xs => decs xs
  | _ => none

def callG (T : List (Nat × AFun)) (L : Cs) (NW : Nat → Option Nat) (m : Nat) : Nat → Cs
  | 0, _, _ => none
  | n + 1, f, args => match tabF T (if f < gBase then f else f - gBase) with
    | some A => if f < gBase then (if args.length = A.np then ends A.res (exec (callG T L NW m n) m A.code { t := argEnv 0 args, h := [], g := fun _ => 0 }) else none)
      else (match (args[A.np]?).bind blocksOf with
        | some h => if args.length = A.np + 1 then endsG A.res (hlook h 0).isSome (NW (f - gBase)) (exec (callG T L NW m n) m A.code { t := argEnv 0 (args.take A.np), h := h, g := fun _ => 0 }) else none
        | none => none)
    | none => L f args

theorem callG_contract {P : Program} (hm : P.follows .mixedOrders = true) {T : List (Nat × AFun)} (hT : Good P T) {L : Cs} (hL : ∀ f, Contract P f (L f)) {NW : Nat → Option Nat} (m : Nat) : ∀ (n f : Nat), Contract P f (callG T L NW m n f)
  | 0, f => contract_none fun args => rfl
  | n + 1, f => by
    cases hA : tabF T (if f < gBase then f else f - gBase) with
    | none => exact (hL f).less fun args r h => by unfold callG at h; rw [hA] at h; exact h
    | some A =>
      obtain ⟨fn, hf, hfun⟩ := hT _ A hA
      by_cases hlt : f < gBase
      · rw [if_pos hlt] at hA hf
        refine contract_of_run0 hm (fun f => callG_contract hm hT hL (NW := NW) m n f) hf hfun (sp := callG T L NW m (n + 1) f) ?_
        intro args r h
        unfold callG at h
        rw [if_pos hlt, hA] at h
        simp only [if_pos hlt] at h
        split at h
        · rename_i hl
          refine ⟨hl, ?_⟩
          unfold ends at h
          split at h
          · rename_i s he
            exact exec_sound _ _ _ _ _ he h
          · rename_i s he
            exact exec_sound _ _ _ _ _ he h
          · cases h
        · cases h
      · obtain ⟨j, rfl⟩ := Nat.le.dest (Nat.le_of_not_lt hlt)
        rw [if_neg hlt, Nat.add_sub_cancel_left] at hA hf
        have : Contract P (gBase + j) (callG T L NW m (n + 1) (gBase + j)) := by
          refine gcontract_of_run (f := j) hm (fun f => callG_contract hm hT hL (NW := NW) m n f) hf hfun ?_
          intro args h r h' hfrz hfrz' hs
          unfold callG at hs
          rw [if_neg hlt, Nat.add_sub_cancel_left, hA] at hs
          simp only [if_neg hlt, Nat.add_sub_cancel_left] at hs
          split at hs
          · rename_i h1 hb
            split at hs
            · rename_i hl
              have hl' : args.length = A.np := by simpa using hl
              have hg : (args ++ [AV.tup (encs h)])[A.np]? = some (.tup (encs h)) := by rw [← hl']; simp
              rw [hg] at hb
              simp only [Option.bind_some, blocksOf, decs_encs hfrz, Option.some.injEq] at hb
              subst hb
              have ht : (args ++ [AV.tup (encs h)]).take A.np = args := by rw [← hl']; simp
              rw [ht] at hs
              refine ⟨hl', (hlook h 0).isSome, ?_⟩
              have fin : ∀ s, (ghanded s A.res (hlook h 0).isSome (NW j)).map (fun p => AV.tup (p.1 :: encs p.2)) = some (.tup (r :: encs h')) → ∃ new, ghanded s A.res (hlook h 0).isSome new = some (r, h') := by
                intro s hx
                rw [Option.map_eq_some_iff] at hx
                obtain ⟨p, hp, hx⟩ := hx
                simp only [AV.tup.injEq, List.cons.injEq] at hx
                obtain ⟨h3, h4⟩ := hx
                refine ⟨NW j, ?_⟩
                rw [hp]
                obtain ⟨r', h''⟩ := p
                simp only [] at h3 h4
                subst h3
                rw [encs_inj (ghanded_frz hp) hfrz' h4]
              unfold endsG at hs
              split at hs
              · rename_i s he
                exact exec_sound _ _ _ _ _ he (fin s hs)
              · rename_i s he
                exact exec_sound _ _ _ _ _ he (fin s hs)
              · cases hs
            · cases hs
          · cases hs
        exact this

end Go.Am
