/- CO: numbers of numbers. -/
import Derived.Test.YtbjnmbbhlaghaaaProg
import Derived.Test.YtbjnmbbhlaghaaaCoRun
import Derived.Test.YtbjnmbbhlaghaaaCoDef
namespace Go.Co
open Go.Am Go.Proofs
set_option linter.unusedSimpArgs false
set_option linter.unusedVariables false
theorem contract_less {P : Program} {f : FuncId} {sp sp' : List AV → Option AV} (h : Contract P f sp') (hs : ∀ args r, sp args = some r → sp' args = some r) : Contract P f sp := h.less hs
theorem contract_closedG {P : Program} (hm : P.follows .mixedOrders = true) {T : List (Nat × AFun)} (hT : Go.Am.Good P T) {L : Cs} (hL : ∀ f, Contract P f (L f)) {NW : Nat → Option Nat} {m n f : Nat} (h : saysTrue (callG T L NW m n f []) = true) : Contract P f (sp0 (some true)) :=
  contract_less (callG_contract hm hT hL m n f) fun args r hr => by
    unfold sp0 at hr
    split at hr
    · cases hr
      exact saysTrue_eq h
    · cases hr
theorem mixed : Try.prog.follows .mixedOrders = true := rfl
def c63_0 : ACode := .ops [⟨some 6, .mv (.c (.int .i64 0)), none, []⟩] [0, 1, 2]
theorem r63_0 : type_of% (@rr _ _ c63_0.eq_1) := rr c63_0.eq_1
def c63_1 : ACode := .ops [⟨some 7, .mv (.t 0), none, []⟩,
  ⟨some 8, .mv (.t 2), none, []⟩,
  ⟨some 9, .mv (.t 1), none, []⟩,
  ⟨some 10, .bin .sub (.t 8) (.t 9), none, []⟩,
  ⟨some 11, .bin .add (.t 10) (.c (.int .i64 1)), none, []⟩,
  ⟨some 12, .bin .rem (.t 7) (.t 11), none, []⟩,
  ⟨some 0, .mv (.t 12), none, []⟩] [0, 1, 2]
theorem r63_1 : type_of% (@rr _ _ c63_1.eq_1) := rr c63_1.eq_1
def c63_2 : ACode := .ops [⟨some 13, .mv (.t 0), none, []⟩,
  ⟨some 14, .bin .lss (.t 13) (.c (.int .i64 0)), none, []⟩] [0, 1, 2, 14]
theorem r63_2 : type_of% (@rr _ _ c63_2.eq_1) := rr c63_2.eq_1
def c63_3 : ACode := .ops [⟨some 15, .mv (.t 0), none, []⟩,
  ⟨some 16, .mv (.t 2), none, []⟩,
  ⟨some 17, .bin .add (.t 15) (.t 16), none, []⟩,
  ⟨some 18, .mv (.t 1), none, []⟩,
  ⟨some 19, .bin .sub (.t 17) (.t 18), none, []⟩,
  ⟨some 20, .bin .add (.t 19) (.c (.int .i64 1)), none, []⟩,
  ⟨some 0, .mv (.t 20), none, []⟩] [0, 1]
theorem r63_3 : type_of% (@rr _ _ c63_3.eq_1) := rr c63_3.eq_1
def c63_4 : ACode := .cond (.t 14) c63_3 .skip
theorem r63_4 : type_of% (@rr _ _ c63_4.eq_1) := rr c63_4.eq_1
def c63_5 : ACode := .seq c63_2 c63_4
theorem r63_5 : type_of% (@rr _ _ c63_5.eq_1) := rr c63_5.eq_1
def c63_6 : ACode := .ops [⟨some 21, .mv (.t 1), none, []⟩,
  ⟨some 22, .mv (.t 0), none, []⟩,
  ⟨some 23, .bin .add (.t 21) (.t 22), none, []⟩,
  ⟨some 6, .mv (.t 23), none, []⟩] [6]
theorem r63_6 : type_of% (@rr _ _ c63_6.eq_1) := rr c63_6.eq_1
def c63_7 : ACode := .seq c63_6 .ret
theorem r63_7 : type_of% (@rr _ _ c63_7.eq_1) := rr c63_7.eq_1
def c63_8 : ACode := .seq c63_5 c63_7
theorem r63_8 : type_of% (@rr _ _ c63_8.eq_1) := rr c63_8.eq_1
def c63_9 : ACode := .seq c63_1 c63_8
theorem r63_9 : type_of% (@rr _ _ c63_9.eq_1) := rr c63_9.eq_1
def c63_10 : ACode := .seq c63_0 c63_9
theorem r63_10 : type_of% (@rr _ _ c63_10.eq_1) := rr c63_10.eq_1
def a63 : AFun := ⟨3, 24, c63_10, [.t 6]⟩
attribute [simp] r63_0 r63_1 r63_2 r63_3 r63_4 r63_5 r63_6 r63_7 r63_8 r63_9 r63_10
theorem m63 : mFun Try.prog Try.f63 a63 = true := by decide +kernel
def c112_0 : ACode := .ops [⟨some 4, .mv (.c (.int .i64 0)), none, []⟩] [0, 1]
theorem r112_0 : type_of% (@rr _ _ c112_0.eq_1) := rr c112_0.eq_1
def c112_1 : ACode := .ops [⟨some 5, .mv (.t 0), none, []⟩,
  ⟨some 6, .len (.t 5), none, []⟩,
  ⟨some 7, .bin .eql (.t 6) (.c (.int .i64 0)), none, []⟩] [0, 1, 7]
theorem r112_1 : type_of% (@rr _ _ c112_1.eq_1) := rr c112_1.eq_1
def c112_2 : ACode := .ops [⟨some 4, .mv (.c (.int .i64 0)), none, []⟩] [4]
theorem r112_2 : type_of% (@rr _ _ c112_2.eq_1) := rr c112_2.eq_1
def c112_3 : ACode := .seq c112_2 .ret
theorem r112_3 : type_of% (@rr _ _ c112_3.eq_1) := rr c112_3.eq_1
def c112_4 : ACode := .cond (.t 7) c112_3 .skip
theorem r112_4 : type_of% (@rr _ _ c112_4.eq_1) := rr c112_4.eq_1
def c112_5 : ACode := .seq c112_1 c112_4
theorem r112_5 : type_of% (@rr _ _ c112_5.eq_1) := rr c112_5.eq_1
def c112_6 : ACode := .ops [⟨some 8, .mv (.t 0), none, []⟩,
  ⟨some 9, .mv (.t 1), none, []⟩,
  ⟨some 10, .mv (.t 0), none, []⟩,
  ⟨some 11, .len (.t 10), none, []⟩,
  ⟨some 12, .bin .rem (.t 9) (.t 11), none, []⟩,
  ⟨some 13, .ias (.t 8) (.t 12) 1, none, []⟩,
  ⟨some 14, .load 1 false (.t 13), none, []⟩,
  ⟨some 4, .mv (.t 14), none, []⟩] [4]
theorem r112_6 : type_of% (@rr _ _ c112_6.eq_1) := rr c112_6.eq_1
def c112_7 : ACode := .seq c112_6 .ret
theorem r112_7 : type_of% (@rr _ _ c112_7.eq_1) := rr c112_7.eq_1
def c112_8 : ACode := .seq c112_5 c112_7
theorem r112_8 : type_of% (@rr _ _ c112_8.eq_1) := rr c112_8.eq_1
def c112_9 : ACode := .seq c112_0 c112_8
theorem r112_9 : type_of% (@rr _ _ c112_9.eq_1) := rr c112_9.eq_1
def a112 : AFun := ⟨2, 15, c112_9, [.t 4]⟩
attribute [simp] r112_0 r112_1 r112_2 r112_3 r112_4 r112_5 r112_6 r112_7 r112_8 r112_9
theorem m112 : mFun Try.prog Try.f112 a112 = true := by decide +kernel
def Within (n lo hi : Int) : Option Int := if -1125899906842624 ≤ lo ∧ lo ≤ hi ∧ hi ≤ 1125899906842624 then some (within n lo hi) else none
theorem runs_Within (n lo hi c : Int) (h : Within n lo hi = some c) : Runs (tbl []) a63 [Arg.enc n, Arg.enc lo, Arg.enc hi] (Arg.enc c) := by
  unfold Within at h
  split at h
  · rename_i hb
    cases h
    obtain ⟨h1, h2, h3⟩ := hb
    have hm : 0 < hi - lo + 1 := by omega
    have e1 : IntKind.i64.wrap (hi - lo) = hi - lo := wrap64 (by omega) (by omega)
    have e2 : IntKind.i64.wrap (hi - lo + 1) = hi - lo + 1 := wrap64 (by omega) (by omega)
    have e3 : hi - lo + 1 ≠ 0 := by omega
    have t1 := Int.tmod_eq_emod (a := n) (b := hi - lo + 1)
    have b1 := Int.emod_nonneg n e3
    have b2 := Int.emod_lt_of_pos n hm
    refine ⟨rfl, fun g => run_def ?_⟩
    unfold a63
    simp [e1, e2, e3, within]
    generalize n % (hi - lo + 1) = r at *
    generalize n.tmod (hi - lo + 1) = q at *
    refine ⟨fun hq => ?_, fun hq => ?_⟩
    · split at t1
      · omega
      · have : q = r - (hi - lo + 1) := by rw [t1, Int.natAbs_of_nonneg (by omega)]
        rw [wrap64 (x := q + hi) (by omega) (by omega), wrap64 (x := q + hi - lo) (by omega) (by omega), wrap64 (x := q + hi - lo + 1) (by omega) (by omega), wrap64 (by omega) (by omega)]
        omega
    · split at t1
      · rw [wrap64 (by omega) (by omega)]
        omega
      · have : q = r - (hi - lo + 1) := by rw [t1, Int.natAbs_of_nonneg (by omega)]
        omega
  · cases h
theorem c_Within : Contract Try.prog 63 (sp3 Within) :=
  contract_of_runs mixed tbl_nil Try.func63 m63 (sp3_runs runs_Within)
def Pick (l : List Int) (i : Int) : Option Int := if 0 ≤ i then some (pick l i.toNat) else none
theorem runs_pick (l : List Int) (i c : Int) (h : Pick l i = some c) : Runs (tbl []) a112 [Arg.enc l, Arg.enc i] (Arg.enc c) := by
  unfold Pick at h
  split at h
  · rename_i hi
    cases h
    obtain ⟨k, rfl⟩ : ∃ k : Nat, i = k := ⟨i.toNat, by omega⟩
    refine ⟨rfl, fun g => run_def ?_⟩
    unfold a112
    simp [pick]
    intro hl
    refine ⟨fun h => by simp [h], fun hne _ => ?_⟩
    have hpos : 0 < l.length := List.length_pos_iff.2 hne
    have hlt := Nat.mod_lt k hpos
    have e : ((k : Int).tmod (l.length : Int)) = (k : Int) % (l.length : Int) := Int.tmod_eq_emod_of_nonneg (by omega)
    have e2 : (k : Int) % (l.length : Int) < (l.length : Int) := Int.emod_lt_of_pos _ (by omega)
    have e3 : (0 : Int) ≤ (k : Int) % (l.length : Int) := Int.emod_nonneg _ (by omega)
    have e4 : ((k : Int) % (l.length : Int)).toNat = k % l.length := by
      omega
    simp [hne, e, e2, e3, e4, rd_ints, hlt]
  · cases h
theorem c_pick : Contract Try.prog 112 (sp2 Pick) :=
  contract_of_runs mixed tbl_nil Try.func112 m112 (sp2_runs runs_pick)
end Go.Co
