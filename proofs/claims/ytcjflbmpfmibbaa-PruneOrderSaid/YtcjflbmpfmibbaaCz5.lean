/- CO: texts of this claim, one behind the other. -/
import Derived.Test.YtcjflbmpfmibbaaAm3
import Derived.Test.YtcjflbmpfmibbaaCz4
import Derived.Shelf.Sort.Plain
import Derived.Ground.Names2Prog
import Derived.Shelf.Slices.CompactI
import Derived.Shelf.Slices.In.SortNone
import Derived.Test.YtcjflbmpfmibbaaProg
import Derived.Test.YtcjflbmpfmibbaaCz1
import Derived.Test.YtcjflbmpfmibbaaCz3
/- CO: specifications of calls that are given blocks. -/
namespace Go.Am
open Go.RowKit
abbrev GSp := List AV → Hp → Option (AV × Hp)
def gpack (p : AV × Hp) : Option AV := if (p.2.all fun q => !q.2.frz) = true then some (.tup (p.1 :: encs p.2)) else none
def gspec (F : GSp) : List AV → Option AV := fun l => match l.getLast? with
  | some (.tup xs) => match decs xs with
    | some h => (F l.dropLast h).bind gpack
    | none => none
  | _ => none
theorem gspec_app {F : GSp} {args : List AV} {h : Hp} (hf : (h.all fun q => !q.2.frz) = true) : gspec F (args ++ [.tup (encs h)]) = (F args h).bind gpack := by
  unfold gspec
  simp [decs_encs hf]
theorem gspec_some {F : GSp} {args : List AV} {h h' : Hp} {r : AV} (hf : (h.all fun q => !q.2.frz) = true) (hf' : (h'.all fun q => !q.2.frz) = true) (hs : gspec F (args ++ [.tup (encs h)]) = some (.tup (r :: encs h'))) : F args h = some (r, h') := by
  rw [gspec_app hf] at hs
  rw [Option.bind_eq_some_iff] at hs
  obtain ⟨⟨r1, h1⟩, h2, h3⟩ := hs
  unfold gpack at h3
  split at h3
  · rename_i hq
    simp only [Option.some.injEq, AV.tup.injEq, List.cons.injEq] at h3
    obtain ⟨rfl, h4⟩ := h3
    have e : h1 = h' := encs_inj hq hf' h4
    rw [h2, e]
  · cases h3
theorem gcontract {P : Program} {C : Cs} (hm : P.follows .mixedOrders = true) (hC : ∀ f, Contract P f (C f)) {f : FuncId} {fn : Func} {A : AFun} {F : GSp} (hf : P.funcs[f]? = some fn) (hfun : mFun P fn A = true)
    (hr : ∀ args h r h', (h.all fun p => !p.2.frz) = true → (h'.all fun p => !p.2.frz) = true → F args h = some (r, h') → args.length = A.np ∧ ∃ kept, wpC C A.code { t := argEnv 0 args, h := h, g := fun _ => 0 } (gfin A.res kept r h')) : Contract P (gBase + f) (gspec F) :=
  gcontract_of_run hm hC hf hfun fun args h r h' h1 h2 hs => hr args h r h' h1 h2 (gspec_some h1 h2 hs)
def gfinN (rs : List ARes) (kept : Bool) (new : Option Nat) (r : AV) (h' : Hp) : Post := fun e s => match e with
  | .normal | .ret => ghanded s rs kept new = some (r, h')
  | .exit _ => False
@[simp] theorem gfinN_ret {s : St} (rs : List ARes) (kept : Bool) (new : Option Nat) (r : AV) (h' : Hp) : gfinN rs kept new r h' .ret s = (ghanded s rs kept new = some (r, h')) := rfl
@[simp] theorem gfinN_normal {s : St} (rs : List ARes) (kept : Bool) (new : Option Nat) (r : AV) (h' : Hp) : gfinN rs kept new r h' .normal s = (ghanded s rs kept new = some (r, h')) := rfl
theorem gfinN_fin {rs : List ARes} {kept : Bool} {new : Option Nat} {r : AV} {h' : Hp} (e : Ex) (s : St) (h : gfinN rs kept new r h' e s) : gfin rs kept r h' e s := by
  cases e with
  | normal => exact ⟨new, h⟩
  | ret => exact ⟨new, h⟩
  | exit id => exact h
theorem gcontractN {P : Program} {C : Cs} (hm : P.follows .mixedOrders = true) (hC : ∀ f, Contract P f (C f)) {f : FuncId} {fn : Func} {A : AFun} {F : GSp} (hf : P.funcs[f]? = some fn) (hfun : mFun P fn A = true)
    (hr : ∀ args h r h', F args h = some (r, h') → args.length = A.np ∧ ∃ kept new, run C A.code [] { t := argEnv 0 args, h := h, g := fun _ => 0 } (gfinN A.res kept new r h')) : Contract P (gBase + f) (gspec F) :=
  gcontract hm hC hf hfun fun args h r h' _ _ hs => by
    obtain ⟨h1, kept, new, h2⟩ := hr args h r h' hs
    exact ⟨h1, kept, wpC_mono _ _ _ _ gfinN_fin (run_def h2)⟩
attribute [simp] geff up up2 up1 gmap posOf nrm1 nrm garg gblks ghanded nope gpack
@[simp] theorem mapM1_nil (f : AV → Option AV) : mapM1 f [] = some [] := rfl
@[simp] theorem mapM1_cons (f : AV → Option AV) (x : AV) (xs : List AV) : mapM1 f (x :: xs) = (match f x, mapM1 f xs with
    | some y, some ys => some (y :: ys)
    | _, _ => none) := rfl
theorem mapM1_plain {f : AV → Option AV} (hf : ∀ x : AV, x.plain = true → f x = some x) : ∀ {xs : List AV}, xs.all AV.plain = true → mapM1 f xs = some xs
  | [], _ => rfl
  | x :: xs, h => by
    simp only [List.all_cons, Bool.and_eq_true] at h
    simp only [mapM1, hf x h.1, mapM1_plain hf h.2]
theorem up1_plain {m : Nat → Option (Nat × Nat)} (x : AV) (h : x.plain = true) : up1 m x = some x := by cases x <;> first | rfl | cases h
theorem nrm1_plain {s : St} {fp bs : List Nat} (x : AV) (h : x.plain = true) : nrm1 s fp bs x = some x := by cases x <;> first | rfl | cases h
theorem mapM1_up {m : Nat → Option (Nat × Nat)} {xs : List AV} (h : xs.all AV.plain = true) : mapM1 (up1 m) xs = some xs := mapM1_plain up1_plain h
theorem mapM1_nrm {s : St} {fp bs : List Nat} {xs : List AV} (h : xs.all AV.plain = true) : mapM1 (nrm1 s fp bs) xs = some xs := mapM1_plain nrm1_plain h
@[simp] theorem decs_encs_one (b e : Nat) (cs : List AV) : decs (encs [(b, ⟨cs, false, e⟩)]) = some [(b, ⟨cs, false, e⟩)] := rfl
@[simp] theorem decs_encs_nil : decs (encs []) = some [] := rfl
@[simp] theorem decs_encs_two (b e b' e' : Nat) (cs cs' : List AV) : decs (encs [(b, ⟨cs, false, e⟩), (b', ⟨cs', false, e'⟩)]) = some [(b, ⟨cs, false, e⟩), (b', ⟨cs', false, e'⟩)] := rfl
@[irreducible] def gl (vs : List AV) (h : Hp) : List AV := vs ++ [.tup (encs h)]
@[simp] theorem gspec_gl {F : GSp} {args : List AV} {h : Hp} (hh : (h.all fun q => !q.2.frz) = true) : gspec F (gl args h) = (F args h).bind gpack := by
  unfold gl
  exact gspec_app hh
def gcal (C : Cs) (f : Nat) (vs : List AV) (h : Hp) : Option (AV × Hp) := match C (1000000 + f) (gl vs h) with
  | some (.tup (r :: out)) => (decs out).map fun h' => (r, h')
  | _ => none
variable {C : Cs} {s : St} {dst : Option Nat} {gd : Option (Nat × Bool)} {fp : List Nat}
theorem eff_gcall2 (f : Nat) (args : List AOpd) (bs : List Nat) (nid : Nat) : eff C s ⟨dst, .gcall f args bs nid, gd, fp⟩ = (match mapO (garg s fp bs) (args.map (opv s)), gblks s fp bs bs 0 with
    | some (vs, fz), some h => if fz.all (fun b => !bs.contains b) = true then (match gcal C f vs h with
      | some (r, h') => geff s bs nid fz r h'
      | none => .fail) else .fail
    | _, _ => .fail) := by
  rw [eff_gcall]
  generalize mapO (garg s fp bs) (args.map (opv s)) = A
  generalize gblks s fp bs bs 0 = B
  cases A with
  | none => rfl
  | some p =>
    obtain ⟨vs, fz⟩ := p
    cases B with
    | none => rfl
    | some h =>
      simp only []
      by_cases hc : (fz.all fun b => !bs.contains b) = true
      · rw [if_pos hc, if_pos hc]
        unfold gcal
        have e : gl vs h = vs ++ [.tup (encs h)] := by unfold gl; rfl
        rw [e]
        generalize C (1000000 + f) (vs ++ [AV.tup (encs h)]) = X
        cases X with
        | none => rfl
        | some x =>
          cases x with
          | tup xs =>
            cases xs with
            | nil => rfl
            | cons r out =>
              simp only []
              cases decs out <;> rfl
          | _ => rfl
      · rw [if_neg hc, if_neg hc]
attribute [simp] eff_gcall2 gcal
end Go.Am
/- CO: lists held against each other: told of the same list twice. (written by mkCoSm.py) -/
namespace Go.Co
open Go.Am Go.Proofs
set_option linter.unusedSimpArgs false
set_option linter.unusedVariables false
attribute [-simp] Go.Am.eff_gcall
def c73_0 : ACode := .ops [⟨some 4, .mv (.c (.bool false)), none, []⟩] [0, 1]
theorem r73_0 : type_of% (@rr _ _ c73_0.eq_1) := rr rfl
def c73_1 : ACode := .ops [⟨some 6, .mv (.t 0), none, []⟩,⟨some 7, .len (.t 6), none, []⟩,⟨some 8, .mv (.t 1), none, []⟩,⟨some 9, .len (.t 8), none, []⟩,⟨some 10, .bin .neq (.t 7) (.t 9), none, []⟩] [0, 1, 10]
theorem r73_1 : type_of% (@rr _ _ c73_1.eq_1) := rr rfl
def c73_2 : ACode := .ops [⟨some 4, .mv (.c (.bool false)), none, []⟩] [4]
theorem r73_2 : type_of% (@rr _ _ c73_2.eq_1) := rr rfl
def c73_3 : ACode := .seq c73_2 .ret
theorem r73_3 : type_of% (@rr _ _ c73_3.eq_1) := rr rfl
def c73_4 : ACode := .cond (.t 10) c73_3 .skip
theorem r73_4 : type_of% (@rr _ _ c73_4.eq_1) := rr rfl
def c73_5 : ACode := .seq c73_1 c73_4
theorem r73_5 : type_of% (@rr _ _ c73_5.eq_1) := rr rfl
def c73_6 : ACode := .ops [⟨some 5, .mv (.c (.int .i64 0)), none, []⟩] [0, 1, 5]
theorem r73_6 : type_of% (@rr _ _ c73_6.eq_1) := rr rfl
def c73_7 : ACode := .ops [⟨some 11, .mv (.t 5), none, []⟩,⟨some 12, .mv (.t 0), none, []⟩,⟨some 13, .len (.t 12), none, []⟩,⟨some 14, .bin .lss (.t 11) (.t 13), none, []⟩] [0, 1, 5, 14]
theorem r73_7 : type_of% (@rr _ _ c73_7.eq_1) := rr rfl
def c73_8 : ACode := .cond (.t 14) .skip (.exit 0)
theorem r73_8 : type_of% (@rr _ _ c73_8.eq_1) := rr rfl
def c73_9 : ACode := .seq c73_7 c73_8
theorem r73_9 : type_of% (@rr _ _ c73_9.eq_1) := rr rfl
def c73_10 : ACode := .ops [⟨some 17, .mv (.t 0), none, []⟩,⟨some 18, .mv (.t 5), none, []⟩,⟨some 19, .ias (.t 17) (.t 18) 1, none, []⟩,⟨some 20, .load 1 false (.t 19), none, []⟩,⟨some 21, .mv (.t 1), none, []⟩,⟨some 22, .mv (.t 5), none, []⟩,⟨some 23, .ias (.t 21) (.t 22) 1, none, []⟩,⟨some 24, .load 1 false (.t 23), none, []⟩,⟨some 25, .bin .neq (.t 20) (.t 24), none, []⟩] [0, 1, 5, 25]
theorem r73_10 : type_of% (@rr _ _ c73_10.eq_1) := rr rfl
def c73_11 : ACode := .ops [⟨some 4, .mv (.c (.bool false)), none, []⟩] [4]
theorem r73_11 : type_of% (@rr _ _ c73_11.eq_1) := rr rfl
def c73_12 : ACode := .seq c73_11 .ret
theorem r73_12 : type_of% (@rr _ _ c73_12.eq_1) := rr rfl
def c73_13 : ACode := .cond (.t 25) c73_12 .skip
theorem r73_13 : type_of% (@rr _ _ c73_13.eq_1) := rr rfl
def c73_14 : ACode := .seq c73_10 c73_13
theorem r73_14 : type_of% (@rr _ _ c73_14.eq_1) := rr rfl
def c73_15 : ACode := .block 1 c73_14
theorem r73_15 : type_of% (@rr _ _ c73_15.eq_1) := rr rfl
def c73_16 : ACode := .ops [⟨some 15, .mv (.t 5), none, []⟩,⟨some 16, .bin .add (.t 15) (.c (.int .i64 1)), none, []⟩,⟨some 5, .mv (.t 16), none, []⟩] [0, 1, 5]
theorem r73_16 : type_of% (@rr _ _ c73_16.eq_1) := rr rfl
def c73_17 : ACode := .seq c73_15 c73_16
theorem r73_17 : type_of% (@rr _ _ c73_17.eq_1) := rr rfl
def c73_18 : ACode := .seq c73_9 c73_17
theorem r73_18 : type_of% (@rr _ _ c73_18.eq_1) := rr rfl
def c73_19 : ACode := .keep [0, 1, 5] [] c73_18
theorem r73_19 : type_of% (@rr _ _ c73_19.eq_1) := rr rfl
def c73_20 : ACode := .loop c73_19
theorem r73_20 : type_of% (@rr _ _ c73_20.eq_1) := rr rfl
def c73_21 : ACode := .block 0 c73_20
theorem r73_21 : type_of% (@rr _ _ c73_21.eq_1) := rr rfl
def c73_22 : ACode := .seq c73_6 c73_21
theorem r73_22 : type_of% (@rr _ _ c73_22.eq_1) := rr rfl
def c73_23 : ACode := .ops [⟨some 4, .mv (.c (.bool true)), none, []⟩] [4]
theorem r73_23 : type_of% (@rr _ _ c73_23.eq_1) := rr rfl
def c73_24 : ACode := .seq c73_23 .ret
theorem r73_24 : type_of% (@rr _ _ c73_24.eq_1) := rr rfl
def c73_25 : ACode := .seq c73_22 c73_24
theorem r73_25 : type_of% (@rr _ _ c73_25.eq_1) := rr rfl
def c73_26 : ACode := .seq c73_5 c73_25
theorem r73_26 : type_of% (@rr _ _ c73_26.eq_1) := rr rfl
def c73_27 : ACode := .seq c73_0 c73_26
theorem r73_27 : type_of% (@rr _ _ c73_27.eq_1) := rr rfl
def a73 : AFun := ⟨2, 26, c73_27, [.t 4]⟩
attribute [simp] r73_0 r73_1 r73_2 r73_3 r73_4 r73_5 r73_6 r73_7 r73_8 r73_9 r73_10 r73_11 r73_12 r73_13 r73_14 r73_15 r73_16 r73_17 r73_18 r73_19 r73_20 r73_21 r73_22 r73_23 r73_24 r73_25 r73_26 r73_27
theorem m73 : mFun Try.prog Try.f73 a73 = true := by decide +kernel
noncomputable def SameW (a b : List Word) : Option Bool := Part (a = b) true
theorem runs_SameW (a b : List Word) (r : Bool) (h : SameW a b = some r) : Runs (tbl []) a73 [Arg.enc a, Arg.enc b] (Arg.enc r) := by
  obtain ⟨rfl, rfl⟩ := part_some h
  clear h
  refine ⟨rfl, fun g => run_def ?_⟩
  unfold a73
  by_cases b1 : a.length ≤ maxN
  case neg => simp -implicitDefEqProofs [b1]
  have hmx : a.length ≤ 9223372036854775807 := b1
  simp -implicitDefEqProofs [b1]
  refine run_while (c := c73_18) (fun n s => ∃ (i : Nat) (g : Nat → Nat), i + n = a.length ∧ s = ⟨[(0, .lst a.length (encL a)), (1, .lst a.length (encL a)), (5, .int .i64 i)], [], g⟩) a.length ⟨0, g, by omega, by simp⟩ ?_
  rintro n s ⟨i, g, hi, rfl⟩
  by_cases h1 : i < a.length
  case pos =>
    have w1 : IntKind.i64.wrap ((i : Int) + 1) = (i : Int) + 1 := wrap64 (by omega) (by omega)
    have hrow := rd_words a i h1
    simp -implicitDefEqProofs [b1, h1, hrow, w1]
    exact ⟨n - 1, by omega, i + 1, by omega, by omega⟩
  case neg =>
    have hil : i = a.length := by omega
    subst hil
    simp -implicitDefEqProofs [b1, h1]
theorem c_SameW : Contract Try.prog 73 (sp2 SameW) :=
  contract_of_runs mixed tbl_nil Try.func73 m73 (sp2_runs runs_SameW)
end Go.Co
/-
  DERIVED: THE SHELF's CONTRACTS AT THIS DUMP, IN PLAIN WORDS (tools/lay-plain.mjs out of 'TryShelf.lean', which tools/lay-shelf.mjs wrote): THE SAME DECLARATIONS UNDER THE SAME NAMES: 'import', 'namespace', 'open', 'def', 'theorem' AND NOTHING ELSE: no command of the shelf's: FOR A HAND-IN. Each laying: the table of numbers ('.._ren') and one theorem, a field a fact of the dump's own or the kernel's comparison; each contract: ONE APPLICATION.
-/
namespace Go.Proofs
open Go.Shelf
end Go.Proofs
/- CO: what the kit tells of slices.Sort and slices.Compact, as contracts of calls that are given a block. -/
namespace Go.Co
open Go.Am Go.Proofs Go.RowKit
set_option linter.unusedSimpArgs false
set_option linter.unusedVariables false
def iv (zs : List Int) : List AV := zs.map (AV.int .i64)
theorem iv_len (zs : List Int) : (iv zs).length = zs.length := by simp [iv]
def insI (n : Int) : List Int → List Int
  | [] => [n]
  | m :: l => if n ≤ m then n :: m :: l else m :: insI n l
def isort : List Int → List Int
  | [] => []
  | n :: l => insI n (isort l)
end Go.Co
/- CO: the pieces of a tree within a box. -/
namespace Go.Co
open Go.Am Go.Proofs
set_option linter.unusedSimpArgs false
set_option linter.unusedVariables false
def okS64 (s : Span) : Prop := ok64 s.lo ∧ ok64 s.hi
def okB (b : Box) : Prop := okS64 b.s0 ∧ okS64 b.s1 ∧ okS64 b.s2 ∧ okS64 b.s3 ∧ okS64 b.s4
theorem okS_of {lo hi : Int} (h : ok64 lo) (h' : ok64 hi) : okS64 (ofS lo hi) := by
  unfold ofS
  split
  · unfold okS64 ok64 noneS; simp only; omega
  · exact ⟨h, h'⟩
theorem okS_cut {s : Span} (h : okS64 s) {n : Int} (hn : ok64 n) : okS64 (cutS s n).1 ∧ okS64 (cutS s n).2 := by
  unfold cutS
  split
  · exact ⟨okS_of h.1 h.2, by unfold okS64 ok64 noneS; simp only; omega⟩
  · refine ⟨okS_of h.1 hn, okS_of ?_ h.2⟩
    have := h.1
    have := h.2
    unfold ok64 at *
    split <;> omega
theorem okB_get {b : Box} (h : okB b) (i : Int) : okS64 (b.get i) := by
  obtain ⟨h0, h1, h2, h3, h4⟩ := h
  unfold Box.get
  split
  · exact h0
  · split
    · exact h1
    · split
      · exact h2
      · split
        · exact h3
        · exact h4
theorem okB_set {b : Box} (h : okB b) (i : Int) {s : Span} (hs : okS64 s) : okB (b.set i s) := by
  obtain ⟨h0, h1, h2, h3, h4⟩ := h
  unfold Box.set
  split
  · exact ⟨hs, h1, h2, h3, h4⟩
  · split
    · exact ⟨h0, hs, h2, h3, h4⟩
    · split
      · exact ⟨h0, h1, hs, h3, h4⟩
      · split
        · exact ⟨h0, h1, h2, hs, h4⟩
        · exact ⟨h0, h1, h2, h3, hs⟩
theorem okB_cut {b : Box} (h : okB b) (i : Int) {n : Int} (hn : ok64 n) : okB (cutB b i n).1 ∧ okB (cutB b i n).2 := by
  unfold cutB
  split
  · have := okS_cut (okB_get h i) hn
    exact ⟨okB_set h i this.1, okB_set h i this.2⟩
  · exact ⟨h, h⟩
theorem ok64_fits {n : Int} (h : fits n = true) : ok64 n := by have := of_fits h; unfold ok64; omega
theorem cutB_of {b : Box} (h : okB b) (i : Int) {n : Int} (hn : ok64 n) : CutB b i n = some (cutB b i n) := by
  unfold CutB
  rw [if_pos ⟨hn, (okB_get h i).2⟩]
theorem RT.four {l : List Word} {dim : Int} (h : RT l dim) : RT l 4 := by
  refine ⟨h.ok, h.pos, h.le, fun i hi hl => ?_, h.once⟩
  have h1 := h.inner i hi hl
  have h2 := h.feature hi (by rw [ndAt_lt hi]; exact hl)
  rw [ndAt_lt hi] at h2
  exact ⟨h2.2, h1.2⟩
end Go.Co
/- CO: bounds. -/
namespace Go.Co
open Go.Am Go.Proofs
set_option linter.unusedSimpArgs false
set_option linter.unusedVariables false
@[simp 5000] theorem rd_biasN (a b : Int) (x : Bias) (y : AV) (k : Nat) (h : k < 3) : rd [.int .i64 a, .int .i64 b, .int .i64 x.b0, .int .i64 x.b1, .int .i64 x.b2, y] (2 + k) 1 false = some (.int .i64 (x.get k)) := by
  have := rd_bias a b x y k (by omega) (by omega)
  simpa using this
end Go.Co
/- CO: maps of numbers as lists of pairs. -/
namespace Go.Co
open Go.Am
def flatA : List (Int × Int) → List AV
  | [] => []
  | (k, v) :: l => .int .i64 k :: .int .i64 v :: flatA l
def getA (n : Int) : List (Int × Int) → Int
  | [] => 0
  | (k, v) :: l => if n = k then v else getA n l
def setA (n v : Int) : List (Int × Int) → List (Int × Int)
  | [] => [(n, v)]
  | (k, u) :: l => if n = k then (k, v) :: l else (k, u) :: setA n v l
theorem mfind_flat (n : Int) : ∀ (l : List (Int × Int)) (i : Nat), (∃ j v, mfind n (flatA l) i = some (i + j, .int .i64 v) ∧ getA n l = v ∧ (∀ u, wr (flatA l) (2 * j + 1) [.int .i64 u] = flatA (setA n u l))) ∨ (mfind n (flatA l) i = none ∧ getA n l = 0 ∧ ∀ u, flatA l ++ [.int .i64 n, .int .i64 u] = flatA (setA n u l))
  | [], i => .inr ⟨rfl, rfl, fun _ => rfl⟩
  | (k, v) :: l, i => by
    unfold flatA mfind getA setA
    by_cases h : n = k
    · refine .inl ⟨0, v, by simp [h], by simp [h], fun u => ?_⟩
      rw [if_pos h]
      simp [wr, flatA]
    · rw [if_neg h, if_neg h]
      rcases mfind_flat n l (i + 1) with ⟨j, w, h1, h2, h3⟩ | ⟨h1, h2, h3⟩
      · refine .inl ⟨j + 1, w, by rw [h1]; congr 2; omega, h2, fun u => ?_⟩
        rw [if_neg h]
        have e2 : 2 * (j + 1) + 1 = (2 * j + 1) + 1 + 1 := by omega
        unfold wr
        simp only [e2, List.take_succ_cons, List.cons_append, List.length_cons, List.length_nil, Nat.zero_add]
        rw [show 2 * j + 1 + 1 + 1 + 1 = (2 * j + 1 + 1) + 1 + 1 by omega, List.drop_succ_cons, List.drop_succ_cons]
        have := h3 u
        unfold wr at this
        simp only [List.length_cons, List.length_nil, Nat.zero_add] at this
        rw [this]
      · refine .inr ⟨h1, h2, fun u => ?_⟩
        rw [if_neg h]
        simp only [List.cons_append, h3 u]
@[simp] theorem mget_flat (n : Int) (l : List (Int × Int)) : mgetV n (flatA l) (.int .i64 0) = .int .i64 (getA n l) := by
  unfold mgetV
  rcases mfind_flat n l 0 with ⟨j, v, h1, h2, _⟩ | ⟨h1, h2, _⟩
  · rw [h1, h2]
  · rw [h1, h2]
@[simp] theorem mput_flat (n v : Int) (l : List (Int × Int)) : mputV n (flatA l) (.int .i64 v) = flatA (setA n v l) := by
  unfold mputV
  rcases mfind_flat n l 0 with ⟨j, w, h1, _, h3⟩ | ⟨h1, _, h3⟩
  · rw [h1]
    simp only [Nat.zero_add]
    exact h3 v
  · rw [h1]
    exact h3 v
@[simp] theorem isIt_nil : isIt [] = false := rfl
@[simp] theorem isIt_flat (l : List (Int × Int)) : isIt (flatA l) = false := by
  cases l with
  | nil => rfl
  | cons p l => obtain ⟨k, v⟩ := p; rfl
def flatB : List Int → List AV
  | [] => []
  | k :: l => .int .i64 k :: .bool true :: flatB l
def insB (n : Int) (l : List Int) : List Int := if n ∈ l then l else l ++ [n]
@[simp] theorem isIt_flatB (l : List Int) : isIt (flatB l) = false := by cases l <;> rfl
@[simp] theorem flatB_len (l : List Int) : (flatB l).length = 2 * l.length := by
  induction l with
  | nil => rfl
  | cons k l ih => simp only [flatB, List.length_cons, ih]; omega
theorem flatB_append (l : List Int) (n : Int) : flatB (l ++ [n]) = flatB l ++ [.int .i64 n, .bool true] := by
  induction l with
  | nil => rfl
  | cons k l ih => simp only [List.cons_append, flatB, ih]
theorem mfind_flatB (n : Int) : ∀ (l : List Int) (i : Nat), (n ∈ l ∧ ∃ j, mfind n (flatB l) i = some (i + j, .bool true) ∧ wr (flatB l) (2 * j + 1) [.bool true] = flatB l) ∨ (n ∉ l ∧ mfind n (flatB l) i = none)
  | [], i => .inr ⟨by simp, rfl⟩
  | k :: l, i => by
    unfold flatB mfind
    by_cases h : n = k
    · refine .inl ⟨by simp [h], 0, by simp [h], ?_⟩
      simp [wr]
    · rw [if_neg h]
      rcases mfind_flatB n l (i + 1) with ⟨h0, j, h1, h2⟩ | ⟨h0, h1⟩
      · refine .inl ⟨by simp [h0], j + 1, by rw [h1]; congr 2; omega, ?_⟩
        have e2 : 2 * (j + 1) + 1 = (2 * j + 1) + 1 + 1 := by omega
        unfold wr
        simp only [e2, List.take_succ_cons, List.cons_append, List.length_cons, List.length_nil, Nat.zero_add]
        rw [show 2 * j + 1 + 1 + 1 + 1 = (2 * j + 1 + 1) + 1 + 1 by omega, List.drop_succ_cons, List.drop_succ_cons]
        unfold wr at h2
        simp only [List.length_cons, List.length_nil, Nat.zero_add] at h2
        rw [h2]
      · exact .inr ⟨by simp [h, h0], h1⟩
@[simp] theorem mput_flatB (n : Int) (l : List Int) : mputV n (flatB l) (.bool true) = flatB (insB n l) := by
  unfold mputV insB
  rcases mfind_flatB n l 0 with ⟨h0, j, h1, h2⟩ | ⟨h0, h1⟩
  · rw [h1, if_pos h0]
    simp only [Nat.zero_add]
    exact h2
  · rw [h1, if_neg h0, flatB_append]
end Go.Co
/- CO: the document's own answers: trees and models. -/
namespace Go.Co
open Go.Am Go.Proofs
set_option linter.unusedSimpArgs false
set_option linter.unusedVariables false
end Go.Co
/- CO: the region and the query that numbers make. -/
set_option maxHeartbeats 16000000
set_option maxRecDepth 100000
namespace Go.Co
open Go.Am Go.Proofs
set_option linter.unusedSimpArgs false
set_option linter.unusedVariables false
def c16_0 : ACode := .ops [⟨some 2, .box (.t 0) 6, none, []⟩,⟨some 4, .alloc [.int .i64 0, .int .i64 0, .int .i64 0, .int .i64 0, .int .i64 0, .int .i64 0, .int .i64 0, .int .i64 0, .int .i64 0, .int .i64 0], none, []⟩] [1, 2, 4]
theorem r16_0 : type_of% (@rr _ _ c16_0.eq_1) := rr rfl
def c16_1 : ACode := .ops [⟨some 5, .alloc [.int .i64 0, .int .i64 0, .int .i64 0, .int .i64 0, .int .i64 0, .int .i64 0, .int .i64 0, .int .i64 0, .int .i64 0, .int .i64 0], none, []⟩] [1, 2, 4, 5]
theorem r16_1 : type_of% (@rr _ _ c16_1.eq_1) := rr rfl
def c16_2 : ACode := .ops [⟨some 8, .fad (.t 2) 0, none, [2]⟩,⟨some 9, .load 1 false (.t 8), none, [2]⟩,⟨some 10, .mv (.c (.int .i64 0)), none, []⟩] [1, 4, 5, 9, 10]
theorem r16_2 : type_of% (@rr _ _ c16_2.eq_1) := rr rfl
def c16_3 : ACode := .ops [⟨some 11, .bin .lss (.t 10) (.t 9), none, []⟩] [1, 4, 5, 9, 10, 11]
theorem r16_3 : type_of% (@rr _ _ c16_3.eq_1) := rr rfl
def c16_4 : ACode := .cond (.t 11) .skip (.exit 0)
theorem r16_4 : type_of% (@rr _ _ c16_4.eq_1) := rr rfl
def c16_5 : ACode := .ops [⟨some 12, .mv (.t 10), none, []⟩,⟨some 6, .mv (.t 12), none, []⟩] [1, 4, 5, 6, 9, 10]
theorem r16_5 : type_of% (@rr _ _ c16_5.eq_1) := rr rfl
def c16_6 : ACode := .ops [⟨some 13, .mv (.t 1), none, []⟩,⟨some 14, .mv (.t 6), none, []⟩,⟨some 15, .bin .mul (.c (.int .i64 2)) (.t 14), none, []⟩,⟨some 16, .call 65 [.t 13, .t 15], none, []⟩,⟨some 17, .call 24 [.t 16, .c (.int .i64 (-2)), .c (.int .i64 9)], none, []⟩,⟨some 7, .mv (.t 17), none, []⟩] [1, 4, 5, 6, 7, 9, 10]
theorem r16_6 : type_of% (@rr _ _ c16_6.eq_1) := rr rfl
def c16_7 : ACode := .ops [⟨some 18, .mv (.t 6), none, []⟩,⟨some 19, .mv (.t 7), none, []⟩,⟨some 20, .mv (.t 7), none, []⟩,⟨some 21, .mv (.t 1), none, []⟩,⟨some 22, .mv (.t 6), none, []⟩,⟨some 23, .bin .mul (.c (.int .i64 2)) (.t 22), none, []⟩,⟨some 24, .bin .add (.t 23) (.c (.int .i64 1)), none, []⟩,⟨some 25, .call 65 [.t 21, .t 24], none, []⟩,⟨some 26, .call 24 [.t 25, .c (.int .i64 0), .c (.int .i64 11)], none, []⟩,⟨some 27, .bin .add (.t 20) (.t 26), none, []⟩,⟨some 28, .build [.int .i64 0, .int .i64 0] [(0, 1, .t 19), (1, 1, .t 27)], none, []⟩,⟨some 29, .iad (.t 5) (.t 18) 2 5, none, [5]⟩,⟨none, .store (.t 29) 2 (.t 28), none, [5]⟩] [1, 4, 5, 9, 10]
theorem r16_7 : type_of% (@rr _ _ c16_7.eq_1) := rr rfl
def c16_8 : ACode := .seq c16_6 c16_7
theorem r16_8 : type_of% (@rr _ _ c16_8.eq_1) := rr rfl
def c16_9 : ACode := .seq c16_5 c16_8
theorem r16_9 : type_of% (@rr _ _ c16_9.eq_1) := rr rfl
def c16_10 : ACode := .block 1 c16_9
theorem r16_10 : type_of% (@rr _ _ c16_10.eq_1) := rr rfl
def c16_11 : ACode := .ops [⟨some 30, .bin .add (.t 10) (.c (.int .i64 1)), none, []⟩,⟨some 10, .mv (.t 30), none, []⟩] [1, 4, 5, 9, 10]
theorem r16_11 : type_of% (@rr _ _ c16_11.eq_1) := rr rfl
def c16_12 : ACode := .seq c16_10 c16_11
theorem r16_12 : type_of% (@rr _ _ c16_12.eq_1) := rr rfl
def c16_13 : ACode := .seq c16_4 c16_12
theorem r16_13 : type_of% (@rr _ _ c16_13.eq_1) := rr rfl
def c16_14 : ACode := .seq c16_3 c16_13
theorem r16_14 : type_of% (@rr _ _ c16_14.eq_1) := rr rfl
def c16_15 : ACode := .keep [1, 4, 5, 9, 10] [4, 5] c16_14
theorem r16_15 : type_of% (@rr _ _ c16_15.eq_1) := rr rfl
def c16_16 : ACode := .loop c16_15
theorem r16_16 : type_of% (@rr _ _ c16_16.eq_1) := rr rfl
def c16_17 : ACode := .block 0 c16_16
theorem r16_17 : type_of% (@rr _ _ c16_17.eq_1) := rr rfl
def c16_18 : ACode := .seq c16_2 c16_17
theorem r16_18 : type_of% (@rr _ _ c16_18.eq_1) := rr rfl
def c16_19 : ACode := .ops [⟨some 31, .load 10 true (.t 5), none, [5]⟩,⟨none, .store (.t 4) 10 (.t 31), none, [4]⟩] [4]
theorem r16_19 : type_of% (@rr _ _ c16_19.eq_1) := rr rfl
def c16_20 : ACode := .seq c16_19 .ret
theorem r16_20 : type_of% (@rr _ _ c16_20.eq_1) := rr rfl
def c16_21 : ACode := .seq c16_18 c16_20
theorem r16_21 : type_of% (@rr _ _ c16_21.eq_1) := rr rfl
def c16_22 : ACode := .seq c16_1 c16_21
theorem r16_22 : type_of% (@rr _ _ c16_22.eq_1) := rr rfl
def c16_23 : ACode := .seq c16_0 c16_22
theorem r16_23 : type_of% (@rr _ _ c16_23.eq_1) := rr rfl
def a16 : AFun := ⟨2, 32, c16_23, [.cell 4 10 true]⟩
attribute [simp] r16_0 r16_1 r16_2 r16_3 r16_4 r16_5 r16_6 r16_7 r16_8 r16_9 r16_10 r16_11 r16_12 r16_13 r16_14 r16_15 r16_16 r16_17 r16_18 r16_19 r16_20 r16_21 r16_22 r16_23
theorem m16 : mFun Try.prog Try.f16 a16 = true := by decide +kernel
noncomputable def RegionC (m : Model) (l : List Int) : Option Box := Part (1 ≤ m.dim ∧ m.dim ≤ 4) (regionOf m.dim l)
theorem runs_Region (m : Model) (l : List Int) (c : Box) (h : RegionC m l = some c) : Runs (tbl [(65, sp2 Pick), (24, sp3 Within)]) a16 [Arg.enc m, Arg.enc l] (Arg.enc c) := by
  obtain ⟨⟨d1, d2⟩, rfl⟩ := part_some h
  refine ⟨rfl, fun g => run_def ?_⟩
  unfold a16
  have p0 : Pick l 0 = some (pick l 0) := pick_of l 0
  have p1 : Pick l 1 = some (pick l 1) := pick_of l 1
  have p2 : Pick l 2 = some (pick l 2) := pick_of l 2
  have p3 : Pick l 3 = some (pick l 3) := pick_of l 3
  have p4 : Pick l 4 = some (pick l 4) := pick_of l 4
  have p5 : Pick l 5 = some (pick l 5) := pick_of l 5
  have p6 : Pick l 6 = some (pick l 6) := pick_of l 6
  have p7 : Pick l 7 = some (pick l 7) := pick_of l 7
  have v0 := within_of (pick l 0) (-2) 9 (by omega)
  have u0 := within_of (pick l 1) 0 11 (by omega)
  have a0 := within_le (pick l 0) (-2) 9 (by omega)
  have b0 := within_le (pick l 1) 0 11 (by omega)
  have w0 : IntKind.i64.wrap (within (pick l 0) (-2) 9 + within (pick l 1) 0 11) = within (pick l 0) (-2) 9 + within (pick l 1) 0 11 := wrap64 (by omega) (by omega)
  have v1 := within_of (pick l 2) (-2) 9 (by omega)
  have u1 := within_of (pick l 3) 0 11 (by omega)
  have a1 := within_le (pick l 2) (-2) 9 (by omega)
  have b1 := within_le (pick l 3) 0 11 (by omega)
  have w1 : IntKind.i64.wrap (within (pick l 2) (-2) 9 + within (pick l 3) 0 11) = within (pick l 2) (-2) 9 + within (pick l 3) 0 11 := wrap64 (by omega) (by omega)
  have v2 := within_of (pick l 4) (-2) 9 (by omega)
  have u2 := within_of (pick l 5) 0 11 (by omega)
  have a2 := within_le (pick l 4) (-2) 9 (by omega)
  have b2 := within_le (pick l 5) 0 11 (by omega)
  have w2 : IntKind.i64.wrap (within (pick l 4) (-2) 9 + within (pick l 5) 0 11) = within (pick l 4) (-2) 9 + within (pick l 5) 0 11 := wrap64 (by omega) (by omega)
  have v3 := within_of (pick l 6) (-2) 9 (by omega)
  have u3 := within_of (pick l 7) 0 11 (by omega)
  have a3 := within_le (pick l 6) (-2) 9 (by omega)
  have b3 := within_le (pick l 7) 0 11 (by omega)
  have w3 : IntKind.i64.wrap (within (pick l 6) (-2) 9 + within (pick l 7) 0 11) = within (pick l 6) (-2) 9 + within (pick l 7) 0 11 := wrap64 (by omega) (by omega)
  have hd : m.dim = 1 ∨ m.dim = 2 ∨ m.dim = 3 ∨ m.dim = 4 := by omega
  rcases hd with hd | hd | hd | hd <;>
    simp -implicitDefEqProofs [hd, run_round, p0, p1, p2, p3, p4, p5, p6, p7, v0, v1, v2, v3, u0, u1, u2, u3, w0, w1, w2, w3, regionOf, rSpan]
theorem c_Region : Contract Try.prog 16 (sp2 RegionC) :=
  contract_of_runs mixed (tbl_cons c_pick (tbl_cons c_Within tbl_nil)) Try.func16 m16 (sp2_runs runs_Region)
end Go.Co
/- CO: a point of a box, by numbers. -/
namespace Go.Co
open Go.Am Go.Proofs
set_option linter.unusedSimpArgs false
set_option linter.unusedVariables false
def small (s : Span) : Prop := -1125899906842624 ≤ s.lo ∧ s.lo ≤ 1125899906842624 ∧ s.hi ≤ 1125899906842624
end Go.Co
/- CO: margins, the best class (written by mkCoO.py). -/
namespace Go.Co
open Go.Am Go.Proofs
set_option linter.unusedSimpArgs false
set_option linter.unusedVariables false
end Go.Co
/- CO: right trees and right models: told of any. -/
set_option maxHeartbeats 16000000
set_option maxRecDepth 100000
namespace Go.Co
open Go.Am Go.Proofs
set_option linter.unusedSimpArgs false
set_option linter.unusedVariables false
open Classical in
noncomputable def rightT (l : List Word) (dim : Int) : Bool := decide (RT l dim)
theorem rightT_true {l : List Word} {dim : Int} : rightT l dim = true ↔ RT l dim := by unfold rightT; simp
theorem rightT_false {l : List Word} {dim : Int} : rightT l dim = false ↔ ¬ RT l dim := by unfold rightT; simp
def okL (l : List Word) : Prop := ∀ w ∈ l, okW w.v
noncomputable def TreeRightT (l : List Word) (dim : Int) : Option Bool := Part (okL l ∧ l.length ≤ maxN) (rightT l dim)
def Pre (l : List Word) (dim : Int) (n : Nat) : Prop := ∀ (i : Nat) (h : i < l.length), i < n → (unpack l[i]).2 = true ∧ ((nd l[i]).leaf = false → (nd l[i]).feature < dim ∧ (nd l[i]).left ≠ (nd l[i]).right ∧ (i : Int) < (nd l[i]).left ∧ (nd l[i]).left < l.length ∧ (i : Int) < (nd l[i]).right ∧ (nd l[i]).right < l.length)
theorem Pre.zero {l : List Word} {dim : Int} : Pre l dim 0 := fun i h hi => by omega
theorem Pre.leaf {l : List Word} {dim : Int} {i : Nat} (h : Pre l dim i) (hi : i < l.length) (hok : (unpack l[i]).2 = true) (hl : (ndAt l i).leaf = true) : Pre l dim (i + 1) := by
  intro j hj hji
  by_cases e : j = i
  · subst e
    rw [ndAt_lt hi] at hl
    exact ⟨hok, fun h => by rw [hl] at h; cases h⟩
  · exact h j hj (by omega)
theorem Pre.inner {l : List Word} {dim : Int} {i : Nat} (h : Pre l dim i) (hi : i < l.length) (hok : (unpack l[i]).2 = true) (ha : (ndAt l i).feature < dim ∧ (ndAt l i).left ≠ (ndAt l i).right ∧ (i : Int) < (ndAt l i).left ∧ (ndAt l i).left < l.length ∧ (i : Int) < (ndAt l i).right ∧ (ndAt l i).right < l.length) : Pre l dim (i + 1) := by
  intro j hj hji
  by_cases e : j = i
  · subst e
    rw [ndAt_lt hi] at ha
    exact ⟨hok, fun _ => ha⟩
  · exact h j hj (by omega)
theorem cnts_innerT {l : List Word} {i : Nat} (h : i < l.length) (hl : (ndAt l i).leaf = false) (ha : (ndAt l i).left ≠ (ndAt l i).right ∧ (i : Int) < (ndAt l i).left ∧ (ndAt l i).left < l.length ∧ (i : Int) < (ndAt l i).right ∧ (ndAt l i).right < l.length) :
    cnts l (i + 1) = ((cnts l i).set (ndAt l i).left.toNat (cnt l i (ndAt l i).left.toNat + 1)).set (ndAt l i).right.toNat (cnt l i (ndAt l i).right.toNat + 1) := by
  apply List.ext_getElem
  · simp [cnts]
  · intro j h1 h2
    rw [cnts_get, cnt_succ h, List.getElem_set, List.getElem_set]
    simp only [cnts_get, names, hl, Bool.not_false, Bool.true_and, Bool.or_eq_true, decide_eq_true_eq]
    by_cases e1 : (ndAt l i).right.toNat = j
    · rw [if_pos e1, if_pos (by omega), e1]
    · rw [if_neg e1]
      by_cases e2 : (ndAt l i).left.toNat = j
      · rw [if_pos e2, if_pos (by omega), e2]
      · rw [if_neg e2, if_neg (by omega)]
        omega
theorem unpackT {l : List Word} (h : okL l) {i : Nat} (hi : i < l.length) : Unpack ⟨l[i].v⟩ = some (ndAt l i, (unpack l[i]).2) := by
  have h1 := h l[i] (List.getElem_mem hi)
  unfold Unpack
  have h1' : 0 ≤ (⟨l[i].v⟩ : Word).v ∧ (⟨l[i].v⟩ : Word).v < 18446744073709551616 := h1
  rw [if_pos h1']
  have e : (⟨l[i].v⟩ : Word) = l[i] := rfl
  rw [e, ndAt_lt hi]
  rfl
theorem rt_of {l : List Word} {dim : Int} (hw : okL l) (h1 : 1 ≤ l.length) (h2 : l.length ≤ 31) (hp : Pre l dim l.length) (ho : ∀ j : Nat, 1 ≤ j → j < l.length → cnt l l.length j = 1) : RT l dim where
  ok := fun i h => ⟨hw _ (List.getElem_mem h), (hp i h h).1⟩
  pos := h1
  le := h2
  inner := fun i h hl => (hp i h h).2 hl
  once := fun j hj hj2 => by
    have := ho j hj hj2
    unfold cnt at this
    rw [List.take_length] at this
    omega
theorem runs_tRightT (l : List Word) (dim : Int) (c : Bool) (h : TreeRightT l dim = some c) : Runs (tbl [(20, sp1 Unpack)]) a19 [Arg.enc l, Arg.enc dim] (Arg.enc c) := by
  obtain ⟨⟨hw, hmx⟩, rfl⟩ := part_some h
  clear h
  cases hc : rightT l dim
  case true => exact runs_tRight l dim true (part_of (rightT_true.1 hc) _)
  have hn := rightT_false.1 hc
  refine ⟨rfl, fun g => run_def ?_⟩
  unfold a19
  by_cases b1 : (l.length : Int) < 1
  case pos => simp -implicitDefEqProofs [b1, hmx]
  by_cases b2 : (l.length : Int) > 31
  case pos =>
    have b2' : (31 : Int) < l.length := b2
    simp -implicitDefEqProofs [b1, b2', hmx]
  have b3 : l.length ≤ maxN := by unfold maxN; omega
  have b4 : (l.length : Int) ≤ 1099511627776 := by omega
  simp -implicitDefEqProofs [b1, b2, b3, b4, rep_ints]
  rw [rep_cells]
  refine run_while (c := c19_37) (fun m s => ∃ (i : Nat) (g : Nat → Nat), i + m = l.length ∧ Pre l dim i ∧ s = ⟨[(0, .lst l.length (encL l)), (1, .int .i64 dim), (5, .own 5 (g 5) 0 l.length), (23, .lst l.length (encL l)), (24, .int .i64 l.length), (25, .int .i64 i)], [(5, ⟨encL (cnts l i), false, 1⟩)], g⟩) l.length ⟨0, bump 5 g, by omega, Pre.zero, by simp [cnts_zero]⟩ ?_
  rintro m s ⟨i, g, hi, hpre, rfl⟩
  by_cases h1 : i < l.length
  case pos =>
    have hU := unpackT hw h1
    have w1 : IntKind.i64.wrap ((i : Int) + 1) = (i : Int) + 1 := wrap64 (by omega) (by omega)
    cases hok : (unpack l[i]).2
    case false =>
      rw [hok] at hU
      simp -implicitDefEqProofs [h1, rd_words, hU, w1]
    rw [hok] at hU
    cases hl : (ndAt l i).leaf
    case true =>
      simp -implicitDefEqProofs [h1, rd_words, hU, hl, w1]
      exact ⟨m - 1, by omega, i + 1, by omega, hpre.leaf h1 hok hl, by omega, by rw [cnts_leaf h1 hl]⟩
    case false =>
      by_cases e1 : dim ≤ (ndAt l i).feature
      case pos => simp -implicitDefEqProofs [h1, rd_words, hU, hl, w1, e1]
      by_cases e2 : (ndAt l i).left = (ndAt l i).right
      case pos => simp -implicitDefEqProofs [h1, rd_words, hU, hl, w1, e1, e2]
      by_cases e3 : (if (ndAt l i).right < (ndAt l i).left then (ndAt l i).right else (ndAt l i).left) ≤ (i : Int)
      case pos => simp -implicitDefEqProofs [h1, rd_words, hU, hl, w1, e1, e2, e3]
      by_cases e4 : (l.length : Int) ≤ (if (ndAt l i).left < (ndAt l i).right then (ndAt l i).right else (ndAt l i).left)
      case pos => simp -implicitDefEqProofs [h1, rd_words, hU, hl, w1, b3, e1, e2, e3, e4]
      have f0 : (i : Int) < (ndAt l i).left ∧ (i : Int) < (ndAt l i).right := by split at e3 <;> omega
      have f0' : (ndAt l i).left < l.length ∧ (ndAt l i).right < l.length := by split at e4 <;> omega
      have e5 : ¬ (ndAt l i).left.toNat = (ndAt l i).right.toNat := by omega
      have f1 : 0 ≤ (ndAt l i).left := by omega
      have f2 : (ndAt l i).left < l.length := by omega
      have f3 : 0 ≤ (ndAt l i).right := by omega
      have f4 : (ndAt l i).right < l.length := by omega
      have f5 : (ndAt l i).left.toNat < l.length := by omega
      have f6 : (ndAt l i).right.toNat < l.length := by omega
      have n1 := cnt_le l i (ndAt l i).left.toNat
      have n2 := cnt_le l i (ndAt l i).right.toNat
      have w2 : IntKind.i64.wrap (cnt l i (ndAt l i).left.toNat + 1) = cnt l i (ndAt l i).left.toNat + 1 := wrap64 (by omega) (by omega)
      have w3 : IntKind.i64.wrap (cnt l i (ndAt l i).right.toNat + 1) = cnt l i (ndAt l i).right.toNat + 1 := wrap64 (by omega) (by omega)
      simp -implicitDefEqProofs [h1, rd_words, hU, hl, w1, b3, e1, e2, e3, e4, e5, f1, f2, f3, f4, f5, f6, cnts_len, cnts_get, rd_ints, wr_ints, encL_length, w2, w3]
      exact ⟨fun _ => ⟨fun _ => ⟨m - 1, by omega, i + 1, by omega, hpre.inner h1 hok ⟨by omega, e2, f0.1, f0'.1, f0.2, f0'.2⟩, by omega, by rw [cnts_innerT h1 hl ⟨e2, f0.1, f0'.1, f0.2, f0'.2⟩]⟩, by omega⟩, by omega⟩
  case neg =>
    have hil : i = l.length := by omega
    subst hil
    have p1 : (1 : Int) ≤ l.length := by omega
    have p2 : l.length - 1 ≤ maxN := by omega
    simp -implicitDefEqProofs [p1, p2]
    refine run_while (c := c19_56) (fun m s => ∃ (i : Nat), i + m = l.length - 1 ∧ (∀ j : Nat, 1 ≤ j → j ≤ i → cnt l l.length j = 1) ∧ s = ⟨[(85, .own 5 (g 5) 1 (l.length - 1)), (86, .int .i64 (l.length - 1 : Nat)), (87, .int .i64 i)], [(5, ⟨encL (cnts l l.length), false, 1⟩)], g⟩) (l.length - 1) ⟨0, by omega, fun j _ _ => by omega, by simp⟩ ?_
    rintro m s ⟨i, hi, hon, rfl⟩
    by_cases h1 : (i : Int) < (l.length - 1 : Nat)
    case pos =>
      have w1 : IntKind.i64.wrap ((i : Int) + 1) = (i : Int) + 1 := wrap64 (by omega) (by omega)
      have q1 : 1 + i < l.length := by omega
      by_cases hc : cnt l l.length (1 + i) = 1
      case pos =>
        simp -implicitDefEqProofs [h1, rd_ints, cnts_len, cnts_get, w1, q1, hc]
        refine ⟨m - 1, by omega, i + 1, by omega, fun j hj1 hj2 => ?_, by omega⟩
        by_cases e : j = 1 + i
        · rw [e]; exact hc
        · exact hon j hj1 (by omega)
      case neg => simp -implicitDefEqProofs [h1, rd_ints, cnts_len, cnts_get, w1, q1, hc]
    case neg =>
      exact absurd (rt_of hw (by omega) (by omega) hpre (fun j hj1 hj2 => hon j hj1 (by omega))) hn
theorem c_tRightT : Contract Try.prog 19 (sp2 TreeRightT) :=
  contract_of_runs mixed (tbl_cons c_Unpack tbl_nil) Try.func19 m19 (sp2_runs runs_tRightT)
def c25_0 : ACode := .ops [⟨some 1, .box (.t 0) 6, none, []⟩,⟨some 2, .mv (.c (.int .i64 0)), none, []⟩] [1]
def c25_1 : ACode := .ops [⟨some 3, .mv (.c (.int .i64 0)), none, []⟩] [1, 3]
def c25_2 : ACode := .ops [⟨some 6, .fad (.t 1) 5, none, [1]⟩,⟨some 7, .load 1 false (.t 6), none, [1]⟩,⟨some 8, .len (.t 7), none, []⟩,⟨some 9, .mv (.c (.int .i64 0)), none, []⟩] [3, 7, 8, 9]
def c25_3 : ACode := .ops [⟨some 10, .bin .lss (.t 9) (.t 8), none, []⟩] [3, 7, 8, 9, 10]
def c25_4 : ACode := .cond (.t 10) .skip (.exit 0)
def c25_5 : ACode := .ops [⟨some 11, .ias (.t 7) (.t 9) 2, none, []⟩,⟨some 12, .load 2 true (.t 11), none, []⟩,⟨some 5, .alloc [.int .i64 0, .nils], none, []⟩,⟨none, .store (.t 5) 2 (.t 12), none, [5]⟩] [3, 5, 7, 8, 9]
def c25_6 : ACode := .ops [⟨some 13, .mv (.t 3), none, []⟩,⟨some 14, .fad (.t 5) 1, none, [5]⟩,⟨some 15, .load 1 false (.t 14), none, [5]⟩,⟨some 16, .len (.t 15), none, []⟩,⟨some 17, .bin .add (.t 13) (.t 16), none, []⟩,⟨some 3, .mv (.t 17), none, []⟩] [3, 7, 8, 9]
def c25_7 : ACode := .seq c25_5 c25_6
def c25_8 : ACode := .block 1 c25_7
def c25_9 : ACode := .ops [⟨some 18, .bin .add (.t 9) (.c (.int .i64 1)), none, []⟩,⟨some 9, .mv (.t 18), none, []⟩] [3, 7, 8, 9]
def c25_10 : ACode := .seq c25_8 c25_9
def c25_11 : ACode := .seq c25_4 c25_10
def c25_12 : ACode := .seq c25_3 c25_11
def c25_13 : ACode := .keep [3, 7, 8, 9] [] c25_12
def c25_14 : ACode := .loop c25_13
def c25_15 : ACode := .block 0 c25_14
def c25_16 : ACode := .seq c25_2 c25_15
def c25_17 : ACode := .ops [⟨some 19, .mv (.t 3), none, []⟩,⟨some 2, .mv (.t 19), none, []⟩] [2]
def c25_18 : ACode := .seq c25_17 .ret
def c25_19 : ACode := .seq c25_16 c25_18
def c25_20 : ACode := .seq c25_1 c25_19
def c25_21 : ACode := .seq c25_0 c25_20
def a25 : AFun := ⟨1, 20, c25_21, [.t 2]⟩
theorem m25 : mFun Try.prog Try.f25 a25 = true := by decide +kernel
def lenF (n : Int) (t : Tree) : Int := n + (t.nodes.length : Int)
def sizeM (m : Model) : Int := m.trees.foldl lenF 0
noncomputable def SizeC (m : Model) : Option Int := Part (m.trees.length ≤ 100 ∧ ∀ t ∈ m.trees, t.nodes.length ≤ 1099511627776) (sizeM m)
theorem RM.size {m : Model} (h : RM m) : SizeC m = some (sizeM m) := part_of ⟨by have := h.trees; omega, fun t ht => by have := (h.tree t ht).2.2.le; omega⟩ _
end Go.Co
/- CO: thresholds of a feature. -/
namespace Go.Co
open Go.Am Go.Proofs
set_option linter.unusedSimpArgs false
set_option linter.unusedVariables false
attribute [-simp] Go.Am.eff_gcall
def cutF (j : Int) (w : Word) : Option Int := if (nd w).leaf = false ∧ (nd w).feature = j then some (nd w).cut else none
def rawW (j : Int) (l : List Word) : List Int := l.filterMap (cutF j)
def rawM (l : List Tree) (j : Int) : List Int := l.flatMap fun t => rawW j t.nodes
def thrL (m : Model) (j : Int) : List Int := Go.Lib.compact (isort (rawM m.trees j))
@[simp] theorem iv_plain (a : List Int) : (iv a).all AV.plain = true := by simp [iv]
@[simp] theorem iv_cell (a : List Int) : (iv a).all AV.isCell = true := by simp [iv]
theorem iv_enc (a : List Int) : iv a = encL a := by
  induction a with
  | nil => rfl
  | cons x xs ih =>
    have : encL (x :: xs) = .int .i64 x :: encL xs := rfl
    rw [this, ← ih]
    rfl
@[simp] theorem len_iv (a : List Int) : (iv a).length = a.length := iv_len a
end Go.Co
/- CO: cuts of a box, how many cells. -/
namespace Go.Co
open Go.Am Go.Proofs
set_option linter.unusedSimpArgs false
set_option linter.unusedVariables false
attribute [-simp] Go.Am.eff_gcall
def featOf (q : Query) (place : Int) : Int := if 0 ≤ place ∧ place < 4 then place else if place = 4 ∧ q.kind = 3 then q.feature else -1
def outS (s : Span) (t : Int) : Bool := decide (t < s.lo) || decide (s.hi ≤ t)
@[simp] theorem dec_ref_span (lo hi : Int) : (Arg.dec (.ipt 0 [.int .i64 lo, .int .i64 hi]) : Option (Ref Span)) = some ⟨⟨lo, hi⟩⟩ := Arg.dec_enc (⟨⟨lo, hi⟩⟩ : Ref Span)
def cutsL (m : Model) (q : Query) (b : Box) (place : Int) : List Int := if featOf q place < 0 then [] else (thrL m (featOf q place)).filter fun t => !outS (b.get place) t
end Go.Co
/- CO: thresholds rise; cuts of parts. -/
namespace Go.Co
open Go.Am Go.Proofs
set_option linter.unusedSimpArgs false
set_option linter.unusedVariables false
end Go.Co
/- CO: right queries (written by mkCoJ.py). -/
namespace Go.Co
open Go.Am Go.Proofs
set_option linter.unusedSimpArgs false
set_option linter.unusedVariables false
end Go.Co
/- CO: boxes of a query, cuts of boxes and their counts. -/
namespace Go.Co
open Go.Am Go.Proofs
set_option linter.unusedSimpArgs false
set_option linter.unusedVariables false
def smallB (b : Box) : Prop := small b.s0 ∧ small b.s1 ∧ small b.s2 ∧ small b.s3 ∧ small b.s4
end Go.Co
/- CO: the cells of a box, by places; points of one cell come to the same. -/
namespace Go.Co
open Go.Am Go.Proofs
set_option linter.unusedSimpArgs false
set_option linter.unusedVariables false
structure PartTo (m : Model) (q : Query) (b : Box) (j : Nat) (x : Box) : Prop where
  done : ∀ i : Int, 0 ≤ i → i < j → (x.get i).lo ≤ (x.get i).hi ∧ (b.get i).lo ≤ (x.get i).lo ∧ (x.get i).hi ≤ (b.get i).hi ∧ ∀ t ∈ cutsL m q b i, t < (x.get i).lo ∨ (x.get i).hi ≤ t
  rest : ∀ i : Int, (j : Int) ≤ i → i < 5 → x.get i = b.get i
end Go.Co
