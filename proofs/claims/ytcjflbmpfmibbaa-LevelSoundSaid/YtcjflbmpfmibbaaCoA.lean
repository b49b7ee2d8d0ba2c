/- CO: numbers of numbers. -/
import Derived.Test.YtcjflbmpfmibbaaProg
import Derived.Test.YtcjflbmpfmibbaaCoRun
import Derived.Test.YtcjflbmpfmibbaaCoDef
namespace Go.Co
open Go.Am Go.Proofs
set_option linter.unusedSimpArgs false
set_option linter.unusedVariables false
theorem contract_less {P : Program} {f : FuncId} {sp sp' : List AV → Option AV} (h : Contract P f sp') (hs : ∀ args r, sp args = some r → sp' args = some r) : Contract P f sp := h.less hs
theorem contract_closed {P : Program} (hm : P.follows .mixedOrders = true) {T : List (Nat × AFun)} (hT : Go.Am.Good P T) {m n f : Nat} (h : saysTrue (callF T m n f []) = true) : Contract P f (sp0 (some true)) :=
  contract_less (callF_contract hm hT m n f) fun args r hr => by
    unfold sp0 at hr
    split at hr
    · cases hr
      exact saysTrue_eq h
    · cases hr
theorem mixed : Try.prog.follows .mixedOrders = true := rfl
def c24_0 : ACode := .ops [⟨some 6, .mv (.c (.int .i64 0)), none, []⟩] [0, 1, 2]
theorem r24_0 : type_of% (@rr _ _ c24_0.eq_1) := rr c24_0.eq_1
def c24_1 : ACode := .ops [⟨some 7, .mv (.t 0), none, []⟩,
  ⟨some 8, .mv (.t 2), none, []⟩,
  ⟨some 9, .mv (.t 1), none, []⟩,
  ⟨some 10, .bin .sub (.t 8) (.t 9), none, []⟩,
  ⟨some 11, .bin .add (.t 10) (.c (.int .i64 1)), none, []⟩,
  ⟨some 12, .bin .rem (.t 7) (.t 11), none, []⟩,
  ⟨some 0, .mv (.t 12), none, []⟩] [0, 1, 2]
theorem r24_1 : type_of% (@rr _ _ c24_1.eq_1) := rr c24_1.eq_1
def c24_2 : ACode := .ops [⟨some 13, .mv (.t 0), none, []⟩,
  ⟨some 14, .bin .lss (.t 13) (.c (.int .i64 0)), none, []⟩] [0, 1, 2, 14]
theorem r24_2 : type_of% (@rr _ _ c24_2.eq_1) := rr c24_2.eq_1
def c24_3 : ACode := .ops [⟨some 15, .mv (.t 0), none, []⟩,
  ⟨some 16, .mv (.t 2), none, []⟩,
  ⟨some 17, .bin .add (.t 15) (.t 16), none, []⟩,
  ⟨some 18, .mv (.t 1), none, []⟩,
  ⟨some 19, .bin .sub (.t 17) (.t 18), none, []⟩,
  ⟨some 20, .bin .add (.t 19) (.c (.int .i64 1)), none, []⟩,
  ⟨some 0, .mv (.t 20), none, []⟩] [0, 1]
theorem r24_3 : type_of% (@rr _ _ c24_3.eq_1) := rr c24_3.eq_1
def c24_4 : ACode := .cond (.t 14) c24_3 .skip
theorem r24_4 : type_of% (@rr _ _ c24_4.eq_1) := rr c24_4.eq_1
def c24_5 : ACode := .seq c24_2 c24_4
theorem r24_5 : type_of% (@rr _ _ c24_5.eq_1) := rr c24_5.eq_1
def c24_6 : ACode := .ops [⟨some 21, .mv (.t 1), none, []⟩,
  ⟨some 22, .mv (.t 0), none, []⟩,
  ⟨some 23, .bin .add (.t 21) (.t 22), none, []⟩,
  ⟨some 6, .mv (.t 23), none, []⟩] [6]
theorem r24_6 : type_of% (@rr _ _ c24_6.eq_1) := rr c24_6.eq_1
def c24_7 : ACode := .seq c24_6 .ret
theorem r24_7 : type_of% (@rr _ _ c24_7.eq_1) := rr c24_7.eq_1
def c24_8 : ACode := .seq c24_5 c24_7
theorem r24_8 : type_of% (@rr _ _ c24_8.eq_1) := rr c24_8.eq_1
def c24_9 : ACode := .seq c24_1 c24_8
theorem r24_9 : type_of% (@rr _ _ c24_9.eq_1) := rr c24_9.eq_1
def c24_10 : ACode := .seq c24_0 c24_9
theorem r24_10 : type_of% (@rr _ _ c24_10.eq_1) := rr c24_10.eq_1
def a24 : AFun := ⟨3, 24, c24_10, [.t 6]⟩
attribute [simp] r24_0 r24_1 r24_2 r24_3 r24_4 r24_5 r24_6 r24_7 r24_8 r24_9 r24_10
theorem m24 : mFun Try.prog Try.f24 a24 = true := by decide +kernel
def c65_0 : ACode := .ops [⟨some 4, .mv (.c (.int .i64 0)), none, []⟩] [0, 1]
theorem r65_0 : type_of% (@rr _ _ c65_0.eq_1) := rr c65_0.eq_1
def c65_1 : ACode := .ops [⟨some 5, .mv (.t 0), none, []⟩,
  ⟨some 6, .len (.t 5), none, []⟩,
  ⟨some 7, .bin .eql (.t 6) (.c (.int .i64 0)), none, []⟩] [0, 1, 7]
theorem r65_1 : type_of% (@rr _ _ c65_1.eq_1) := rr c65_1.eq_1
def c65_2 : ACode := .ops [⟨some 4, .mv (.c (.int .i64 0)), none, []⟩] [4]
theorem r65_2 : type_of% (@rr _ _ c65_2.eq_1) := rr c65_2.eq_1
def c65_3 : ACode := .seq c65_2 .ret
theorem r65_3 : type_of% (@rr _ _ c65_3.eq_1) := rr c65_3.eq_1
def c65_4 : ACode := .cond (.t 7) c65_3 .skip
theorem r65_4 : type_of% (@rr _ _ c65_4.eq_1) := rr c65_4.eq_1
def c65_5 : ACode := .seq c65_1 c65_4
theorem r65_5 : type_of% (@rr _ _ c65_5.eq_1) := rr c65_5.eq_1
def c65_6 : ACode := .ops [⟨some 8, .mv (.t 0), none, []⟩,
  ⟨some 9, .mv (.t 1), none, []⟩,
  ⟨some 10, .mv (.t 0), none, []⟩,
  ⟨some 11, .len (.t 10), none, []⟩,
  ⟨some 12, .bin .rem (.t 9) (.t 11), none, []⟩,
  ⟨some 13, .ias (.t 8) (.t 12) 1, none, []⟩,
  ⟨some 14, .load 1 false (.t 13), none, []⟩,
  ⟨some 4, .mv (.t 14), none, []⟩] [4]
theorem r65_6 : type_of% (@rr _ _ c65_6.eq_1) := rr c65_6.eq_1
def c65_7 : ACode := .seq c65_6 .ret
theorem r65_7 : type_of% (@rr _ _ c65_7.eq_1) := rr c65_7.eq_1
def c65_8 : ACode := .seq c65_5 c65_7
theorem r65_8 : type_of% (@rr _ _ c65_8.eq_1) := rr c65_8.eq_1
def c65_9 : ACode := .seq c65_0 c65_8
theorem r65_9 : type_of% (@rr _ _ c65_9.eq_1) := rr c65_9.eq_1
def a65 : AFun := ⟨2, 15, c65_9, [.t 4]⟩
attribute [simp] r65_0 r65_1 r65_2 r65_3 r65_4 r65_5 r65_6 r65_7 r65_8 r65_9
theorem m65 : mFun Try.prog Try.f65 a65 = true := by decide +kernel
def Within (n lo hi : Int) : Option Int := if -1125899906842624 ≤ lo ∧ lo ≤ hi ∧ hi ≤ 1125899906842624 then some (within n lo hi) else none
theorem runs_Within (n lo hi c : Int) (h : Within n lo hi = some c) : Runs (tbl []) a24 [Arg.enc n, Arg.enc lo, Arg.enc hi] (Arg.enc c) := by
  unfold Within at h
  split at h
  · rename_i hb
    cases h
    obtain ⟨h1, h2, h3⟩ := hb
    have hm : 0 < hi - lo + 1 := by omega
    have e1 : IntKind.i64.wrap (hi - lo) = hi - lo := wrap64 (by omega) (by omega)
    have e2 : IntKind.i64.wrap (hi - lo + 1) = hi - lo + 1 := wrap64 (by omega) (by omega)
    have e3 : hi - lo + 1 ≠ 0 := by omega
    have t1 := Int.tmod_eq_emod (a := n) (b := hi - lo + 1)
    have b1 := Int.emod_nonneg n e3
    have b2 := Int.emod_lt_of_pos n hm
    refine ⟨rfl, fun g => run_def ?_⟩
    unfold a24
    simp [e1, e2, e3, within]
    generalize n % (hi - lo + 1) = r at *
    generalize n.tmod (hi - lo + 1) = q at *
    refine ⟨fun hq => ?_, fun hq => ?_⟩
    · split at t1
      · omega
      · have : q = r - (hi - lo + 1) := by rw [t1, Int.natAbs_of_nonneg (by omega)]
        rw [wrap64 (x := q + hi) (by omega) (by omega), wrap64 (x := q + hi - lo) (by omega) (by omega), wrap64 (x := q + hi - lo + 1) (by omega) (by omega), wrap64 (by omega) (by omega)]
        omega
    · split at t1
      · rw [wrap64 (by omega) (by omega)]
        omega
      · have : q = r - (hi - lo + 1) := by rw [t1, Int.natAbs_of_nonneg (by omega)]
        omega
  · cases h
theorem c_Within : Contract Try.prog 24 (sp3 Within) :=
  contract_of_runs mixed tbl_nil Try.func24 m24 (sp3_runs runs_Within)
def Pick (l : List Int) (i : Int) : Option Int := if 0 ≤ i then some (pick l i.toNat) else none
theorem runs_pick (l : List Int) (i c : Int) (h : Pick l i = some c) : Runs (tbl []) a65 [Arg.enc l, Arg.enc i] (Arg.enc c) := by
  unfold Pick at h
  split at h
  · rename_i hi
    cases h
    obtain ⟨k, rfl⟩ : ∃ k : Nat, i = k := ⟨i.toNat, by omega⟩
    refine ⟨rfl, fun g => run_def ?_⟩
    unfold a65
    simp [pick]
    intro hl
    refine ⟨fun h => by simp [h], fun hne _ => ?_⟩
    have hpos : 0 < l.length := List.length_pos_iff.2 hne
    have hlt := Nat.mod_lt k hpos
    have e : ((k : Int).tmod (l.length : Int)) = (k : Int) % (l.length : Int) := Int.tmod_eq_emod_of_nonneg (by omega)
    have e2 : (k : Int) % (l.length : Int) < (l.length : Int) := Int.emod_lt_of_pos _ (by omega)
    have e3 : (0 : Int) ≤ (k : Int) % (l.length : Int) := Int.emod_nonneg _ (by omega)
    have e4 : ((k : Int) % (l.length : Int)).toNat = k % l.length := by
      omega
    simp [hne, e, e2, e3, e4, rd_ints, hlt]
  · cases h
theorem c_pick : Contract Try.prog 65 (sp2 Pick) :=
  contract_of_runs mixed tbl_nil Try.func65 m65 (sp2_runs runs_pick)
end Go.Co
