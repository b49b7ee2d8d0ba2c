/- CO: specifications of calls that are given blocks. -/
import Derived.Test.YtbjnmbbhlaghaaaAmFun
namespace Go.Am
open Go.RowKit

/-- a specification told of the arguments and of the blocks that are given: the result and the blocks behind the call -/
abbrev GSp := List AV → Hp → Option (AV × Hp)

def gpack (p : AV × Hp) : Option AV := if (p.2.all fun q => !q.2.frz) = true then some (.tup (p.1 :: encs p.2)) else none

def gspec (F : GSp) : List AV → Option AV := fun l => match l.getLast? with
  | some (.tup xs) => match decs xs with
    | some h => (F l.dropLast h).bind gpack
    | none => none
  | _ => none

theorem gspec_app {F : GSp} {args : List AV} {h : Hp} (hf : (h.all fun q => !q.2.frz) = true) : gspec F (args ++ [.tup (encs h)]) = (F args h).bind gpack := by
  unfold gspec
  simp [decs_encs hf]

theorem gspec_some {F : GSp} {args : List AV} {h h' : Hp} {r : AV} (hf : (h.all fun q => !q.2.frz) = true) (hf' : (h'.all fun q => !q.2.frz) = true) (hs : gspec F (args ++ [.tup (encs h)]) = some (.tup (r :: encs h'))) : F args h = some (r, h') := by
  rw [gspec_app hf] at hs
  rw [Option.bind_eq_some_iff] at hs
  obtain ⟨⟨r1, h1⟩, h2, h3⟩ := hs
  unfold gpack at h3
  split at h3
  · rename_i hq
    simp only [Option.some.injEq, AV.tup.injEq, List.cons.injEq] at h3
    obtain ⟨rfl, h4⟩ := h3
    have e : h1 = h' := encs_inj hq hf' h4
    rw [h2, e]
  · cases h3

theorem enters_of {P : Program} {f : FuncId} {fn : Func} {c : Code} (hf : P.funcs[f]? = some fn) (hb : fn.body = some c) (hn : fn.name ≠ "runtime.NumGoroutine") (args : Array Value) (w : World) : (callFunc f args).run P w = .ok (.enter f args) w := by
  have : ((fn.name == "runtime.NumGoroutine") = false) := by simpa using hn
  simp only [callFunc, Sem.run_bind, run_program, Result.andThen_ok, hf, this, hb]
  rfl

/-- the contract of a function that is given blocks, by its runs -/
theorem gcontract {P : Program} {C : Cs} (hm : P.follows .mixedOrders = true) (hC : ∀ f, Contract P f (C f)) {f : FuncId} {fn : Func} {A : AFun} {F : GSp} (hf : P.funcs[f]? = some fn) (hfun : mFun P fn A = true)
    (hr : ∀ args h r h', (h.all fun p => !p.2.frz) = true → (h'.all fun p => !p.2.frz) = true → F args h = some (r, h') → args.length = A.np ∧ ∃ kept, wpC C A.code { t := argEnv 0 args, h := h, g := fun _ => 0 } (gfin A.res kept r h')) : Contract P (gBase + f) (gspec F) :=
  gcontract_of_run hm hC hf hfun fun args h r h' h1 h2 hs => hr args h r h' h1 h2 (gspec_some h1 h2 hs)

end Go.Am
