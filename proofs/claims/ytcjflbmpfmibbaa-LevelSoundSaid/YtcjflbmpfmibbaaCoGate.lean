/- CO: specifications of calls that are given blocks. -/
import Derived.Test.YtcjflbmpfmibbaaAm3
import Derived.Test.YtcjflbmpfmibbaaCoPure
namespace Go.Am
open Go.RowKit
abbrev GSp := List AV → Hp → Option (AV × Hp)
def gpack (p : AV × Hp) : Option AV := if (p.2.all fun q => !q.2.frz) = true then some (.tup (p.1 :: encs p.2)) else none
def gspec (F : GSp) : List AV → Option AV := fun l => match l.getLast? with
  | some (.tup xs) => match decs xs with
    | some h => (F l.dropLast h).bind gpack
    | none => none
  | _ => none
theorem gspec_app {F : GSp} {args : List AV} {h : Hp} (hf : (h.all fun q => !q.2.frz) = true) : gspec F (args ++ [.tup (encs h)]) = (F args h).bind gpack := by
  unfold gspec
  simp [decs_encs hf]
theorem gspec_some {F : GSp} {args : List AV} {h h' : Hp} {r : AV} (hf : (h.all fun q => !q.2.frz) = true) (hf' : (h'.all fun q => !q.2.frz) = true) (hs : gspec F (args ++ [.tup (encs h)]) = some (.tup (r :: encs h'))) : F args h = some (r, h') := by
  rw [gspec_app hf] at hs
  rw [Option.bind_eq_some_iff] at hs
  obtain ⟨⟨r1, h1⟩, h2, h3⟩ := hs
  unfold gpack at h3
  split at h3
  · rename_i hq
    simp only [Option.some.injEq, AV.tup.injEq, List.cons.injEq] at h3
    obtain ⟨rfl, h4⟩ := h3
    have e : h1 = h' := encs_inj hq hf' h4
    rw [h2, e]
  · cases h3
theorem enters_of {P : Program} {f : FuncId} {fn : Func} {c : Code} (hf : P.funcs[f]? = some fn) (hb : fn.body = some c) (hn : fn.name ≠ "runtime.NumGoroutine") (args : Array Value) (w : World) : (callFunc f args).run P w = .ok (.enter f args) w := by
  have : ((fn.name == "runtime.NumGoroutine") = false) := by simpa using hn
  simp only [callFunc, Sem.run_bind, run_program, Result.andThen_ok, hf, this, hb]
  rfl
theorem gcontract {P : Program} {C : Cs} (hm : P.follows .mixedOrders = true) (hC : ∀ f, Contract P f (C f)) {f : FuncId} {fn : Func} {A : AFun} {F : GSp} (hf : P.funcs[f]? = some fn) (hfun : mFun P fn A = true)
    (hr : ∀ args h r h', (h.all fun p => !p.2.frz) = true → (h'.all fun p => !p.2.frz) = true → F args h = some (r, h') → args.length = A.np ∧ ∃ kept, wpC C A.code { t := argEnv 0 args, h := h, g := fun _ => 0 } (gfin A.res kept r h')) : Contract P (gBase + f) (gspec F) :=
  gcontract_of_run hm hC hf hfun fun args h r h' h1 h2 hs => hr args h r h' h1 h2 (gspec_some h1 h2 hs)
def gfinN (rs : List ARes) (kept : Bool) (new : Option Nat) (r : AV) (h' : Hp) : Post := fun e s => match e with
  | .normal | .ret => ghanded s rs kept new = some (r, h')
  | .exit _ => False
@[simp] theorem gfinN_ret {s : St} (rs : List ARes) (kept : Bool) (new : Option Nat) (r : AV) (h' : Hp) : gfinN rs kept new r h' .ret s = (ghanded s rs kept new = some (r, h')) := rfl
@[simp] theorem gfinN_normal {s : St} (rs : List ARes) (kept : Bool) (new : Option Nat) (r : AV) (h' : Hp) : gfinN rs kept new r h' .normal s = (ghanded s rs kept new = some (r, h')) := rfl
theorem gfinN_fin {rs : List ARes} {kept : Bool} {new : Option Nat} {r : AV} {h' : Hp} (e : Ex) (s : St) (h : gfinN rs kept new r h' e s) : gfin rs kept r h' e s := by
  cases e with
  | normal => exact ⟨new, h⟩
  | ret => exact ⟨new, h⟩
  | exit id => exact h
theorem gcontractN {P : Program} {C : Cs} (hm : P.follows .mixedOrders = true) (hC : ∀ f, Contract P f (C f)) {f : FuncId} {fn : Func} {A : AFun} {F : GSp} (hf : P.funcs[f]? = some fn) (hfun : mFun P fn A = true)
    (hr : ∀ args h r h', F args h = some (r, h') → args.length = A.np ∧ ∃ kept new, run C A.code [] { t := argEnv 0 args, h := h, g := fun _ => 0 } (gfinN A.res kept new r h')) : Contract P (gBase + f) (gspec F) :=
  gcontract hm hC hf hfun fun args h r h' _ _ hs => by
    obtain ⟨h1, kept, new, h2⟩ := hr args h r h' hs
    exact ⟨h1, kept, wpC_mono _ _ _ _ gfinN_fin (run_def h2)⟩
attribute [simp] geff up up2 up1 gmap posOf nrm1 nrm garg gblks ghanded nope gpack
@[simp] theorem mapM1_nil (f : AV → Option AV) : mapM1 f [] = some [] := rfl
@[simp] theorem mapM1_cons (f : AV → Option AV) (x : AV) (xs : List AV) : mapM1 f (x :: xs) = (match f x, mapM1 f xs with
    | some y, some ys => some (y :: ys)
    | _, _ => none) := rfl
theorem mapM1_plain {f : AV → Option AV} (hf : ∀ x : AV, x.plain = true → f x = some x) : ∀ {xs : List AV}, xs.all AV.plain = true → mapM1 f xs = some xs
  | [], _ => rfl
  | x :: xs, h => by
    simp only [List.all_cons, Bool.and_eq_true] at h
    simp only [mapM1, hf x h.1, mapM1_plain hf h.2]
theorem up1_plain {m : Nat → Option (Nat × Nat)} (x : AV) (h : x.plain = true) : up1 m x = some x := by cases x <;> first | rfl | cases h
theorem nrm1_plain {s : St} {fp bs : List Nat} (x : AV) (h : x.plain = true) : nrm1 s fp bs x = some x := by cases x <;> first | rfl | cases h
theorem mapM1_up {m : Nat → Option (Nat × Nat)} {xs : List AV} (h : xs.all AV.plain = true) : mapM1 (up1 m) xs = some xs := mapM1_plain up1_plain h
theorem mapM1_nrm {s : St} {fp bs : List Nat} {xs : List AV} (h : xs.all AV.plain = true) : mapM1 (nrm1 s fp bs) xs = some xs := mapM1_plain nrm1_plain h
@[simp] theorem decs_encs_one (b e : Nat) (cs : List AV) : decs (encs [(b, ⟨cs, false, e⟩)]) = some [(b, ⟨cs, false, e⟩)] := rfl
@[simp] theorem decs_encs_nil : decs (encs []) = some [] := rfl
@[simp] theorem decs_encs_two (b e b' e' : Nat) (cs cs' : List AV) : decs (encs [(b, ⟨cs, false, e⟩), (b', ⟨cs', false, e'⟩)]) = some [(b, ⟨cs, false, e⟩), (b', ⟨cs', false, e'⟩)] := rfl
@[irreducible] def gl (vs : List AV) (h : Hp) : List AV := vs ++ [.tup (encs h)]
@[simp] theorem gspec_gl {F : GSp} {args : List AV} {h : Hp} (hh : (h.all fun q => !q.2.frz) = true) : gspec F (gl args h) = (F args h).bind gpack := by
  unfold gl
  exact gspec_app hh
def gcal (C : Cs) (f : Nat) (vs : List AV) (h : Hp) : Option (AV × Hp) := match C (1000000 + f) (gl vs h) with
  | some (.tup (r :: out)) => (decs out).map fun h' => (r, h')
  | _ => none
variable {C : Cs} {s : St} {dst : Option Nat} {gd : Option (Nat × Bool)} {fp : List Nat}
theorem eff_gcall2 (f : Nat) (args : List AOpd) (bs : List Nat) (nid : Nat) : eff C s ⟨dst, .gcall f args bs nid, gd, fp⟩ = (match mapO (garg s fp bs) (args.map (opv s)), gblks s fp bs bs 0 with
    | some (vs, fz), some h => if fz.all (fun b => !bs.contains b) = true then (match gcal C f vs h with
      | some (r, h') => geff s bs nid fz r h'
      | none => .fail) else .fail
    | _, _ => .fail) := by
  rw [eff_gcall]
  generalize mapO (garg s fp bs) (args.map (opv s)) = A
  generalize gblks s fp bs bs 0 = B
  cases A with
  | none => rfl
  | some p =>
    obtain ⟨vs, fz⟩ := p
    cases B with
    | none => rfl
    | some h =>
      simp only []
      by_cases hc : (fz.all fun b => !bs.contains b) = true
      · rw [if_pos hc, if_pos hc]
        unfold gcal
        have e : gl vs h = vs ++ [.tup (encs h)] := by unfold gl; rfl
        rw [e]
        generalize C (1000000 + f) (vs ++ [AV.tup (encs h)]) = X
        cases X with
        | none => rfl
        | some x =>
          cases x with
          | tup xs =>
            cases xs with
            | nil => rfl
            | cons r out =>
              simp only []
              cases decs out <;> rfl
          | _ => rfl
      · rw [if_neg hc, if_neg hc]
attribute [simp] eff_gcall2 gcal
end Go.Am
