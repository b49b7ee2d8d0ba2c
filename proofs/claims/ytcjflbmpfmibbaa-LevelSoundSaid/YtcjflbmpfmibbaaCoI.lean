/- CO: the region and the query that numbers make. -/
import Derived.Test.YtcjflbmpfmibbaaCoH
namespace Go.Co
open Go.Am Go.Proofs
set_option linter.unusedSimpArgs false
set_option linter.unusedVariables false
def c16_0 : ACode := .ops [⟨some 2, .box (.t 0) 6, none, []⟩,
  ⟨some 4, .alloc [.int .i64 0, .int .i64 0, .int .i64 0, .int .i64 0, .int .i64 0, .int .i64 0, .int .i64 0, .int .i64 0, .int .i64 0, .int .i64 0], none, []⟩] [1, 2, 4]
theorem r16_0 : type_of% (@rr _ _ c16_0.eq_1) := rr c16_0.eq_1
def c16_1 : ACode := .ops [⟨some 5, .alloc [.int .i64 0, .int .i64 0, .int .i64 0, .int .i64 0, .int .i64 0, .int .i64 0, .int .i64 0, .int .i64 0, .int .i64 0, .int .i64 0], none, []⟩] [1, 2, 4, 5]
theorem r16_1 : type_of% (@rr _ _ c16_1.eq_1) := rr c16_1.eq_1
def c16_2 : ACode := .ops [⟨some 8, .fad (.t 2) 0, none, [2]⟩,
  ⟨some 9, .load 1 false (.t 8), none, [2]⟩,
  ⟨some 10, .mv (.c (.int .i64 0)), none, []⟩] [1, 4, 5, 9, 10]
theorem r16_2 : type_of% (@rr _ _ c16_2.eq_1) := rr c16_2.eq_1
def c16_3 : ACode := .ops [⟨some 11, .bin .lss (.t 10) (.t 9), none, []⟩] [1, 4, 5, 9, 10, 11]
theorem r16_3 : type_of% (@rr _ _ c16_3.eq_1) := rr c16_3.eq_1
def c16_4 : ACode := .cond (.t 11) .skip (.exit 0)
theorem r16_4 : type_of% (@rr _ _ c16_4.eq_1) := rr c16_4.eq_1
def c16_5 : ACode := .ops [⟨some 12, .mv (.t 10), none, []⟩,
  ⟨some 6, .mv (.t 12), none, []⟩] [1, 4, 5, 6, 9, 10]
theorem r16_5 : type_of% (@rr _ _ c16_5.eq_1) := rr c16_5.eq_1
def c16_6 : ACode := .ops [⟨some 13, .mv (.t 1), none, []⟩,
  ⟨some 14, .mv (.t 6), none, []⟩,
  ⟨some 15, .bin .mul (.c (.int .i64 2)) (.t 14), none, []⟩,
  ⟨some 16, .call 65 [.t 13, .t 15], none, []⟩,
  ⟨some 17, .call 24 [.t 16, .c (.int .i64 (-2)), .c (.int .i64 9)], none, []⟩,
  ⟨some 7, .mv (.t 17), none, []⟩] [1, 4, 5, 6, 7, 9, 10]
theorem r16_6 : type_of% (@rr _ _ c16_6.eq_1) := rr c16_6.eq_1
def c16_7 : ACode := .ops [⟨some 18, .mv (.t 6), none, []⟩,
  ⟨some 19, .mv (.t 7), none, []⟩,
  ⟨some 20, .mv (.t 7), none, []⟩,
  ⟨some 21, .mv (.t 1), none, []⟩,
  ⟨some 22, .mv (.t 6), none, []⟩,
  ⟨some 23, .bin .mul (.c (.int .i64 2)) (.t 22), none, []⟩,
  ⟨some 24, .bin .add (.t 23) (.c (.int .i64 1)), none, []⟩,
  ⟨some 25, .call 65 [.t 21, .t 24], none, []⟩,
  ⟨some 26, .call 24 [.t 25, .c (.int .i64 0), .c (.int .i64 11)], none, []⟩,
  ⟨some 27, .bin .add (.t 20) (.t 26), none, []⟩,
  ⟨some 28, .build [.int .i64 0, .int .i64 0] [(0, 1, .t 19), (1, 1, .t 27)], none, []⟩,
  ⟨some 29, .iad (.t 5) (.t 18) 2 5, none, [5]⟩,
  ⟨none, .store (.t 29) 2 (.t 28), none, [5]⟩] [1, 4, 5, 9, 10]
theorem r16_7 : type_of% (@rr _ _ c16_7.eq_1) := rr c16_7.eq_1
def c16_8 : ACode := .seq c16_6 c16_7
theorem r16_8 : type_of% (@rr _ _ c16_8.eq_1) := rr c16_8.eq_1
def c16_9 : ACode := .seq c16_5 c16_8
theorem r16_9 : type_of% (@rr _ _ c16_9.eq_1) := rr c16_9.eq_1
def c16_10 : ACode := .block 1 c16_9
theorem r16_10 : type_of% (@rr _ _ c16_10.eq_1) := rr c16_10.eq_1
def c16_11 : ACode := .ops [⟨some 30, .bin .add (.t 10) (.c (.int .i64 1)), none, []⟩,
  ⟨some 10, .mv (.t 30), none, []⟩] [1, 4, 5, 9, 10]
theorem r16_11 : type_of% (@rr _ _ c16_11.eq_1) := rr c16_11.eq_1
def c16_12 : ACode := .seq c16_10 c16_11
theorem r16_12 : type_of% (@rr _ _ c16_12.eq_1) := rr c16_12.eq_1
def c16_13 : ACode := .seq c16_4 c16_12
theorem r16_13 : type_of% (@rr _ _ c16_13.eq_1) := rr c16_13.eq_1
def c16_14 : ACode := .seq c16_3 c16_13
theorem r16_14 : type_of% (@rr _ _ c16_14.eq_1) := rr c16_14.eq_1
def c16_15 : ACode := .keep [1, 4, 5, 9, 10] [4, 5] c16_14
theorem r16_15 : type_of% (@rr _ _ c16_15.eq_1) := rr c16_15.eq_1
def c16_16 : ACode := .loop c16_15
theorem r16_16 : type_of% (@rr _ _ c16_16.eq_1) := rr c16_16.eq_1
def c16_17 : ACode := .block 0 c16_16
theorem r16_17 : type_of% (@rr _ _ c16_17.eq_1) := rr c16_17.eq_1
def c16_18 : ACode := .seq c16_2 c16_17
theorem r16_18 : type_of% (@rr _ _ c16_18.eq_1) := rr c16_18.eq_1
def c16_19 : ACode := .ops [⟨some 31, .load 10 true (.t 5), none, [5]⟩,
  ⟨none, .store (.t 4) 10 (.t 31), none, [4]⟩] [4]
theorem r16_19 : type_of% (@rr _ _ c16_19.eq_1) := rr c16_19.eq_1
def c16_20 : ACode := .seq c16_19 .ret
theorem r16_20 : type_of% (@rr _ _ c16_20.eq_1) := rr c16_20.eq_1
def c16_21 : ACode := .seq c16_18 c16_20
theorem r16_21 : type_of% (@rr _ _ c16_21.eq_1) := rr c16_21.eq_1
def c16_22 : ACode := .seq c16_1 c16_21
theorem r16_22 : type_of% (@rr _ _ c16_22.eq_1) := rr c16_22.eq_1
def c16_23 : ACode := .seq c16_0 c16_22
theorem r16_23 : type_of% (@rr _ _ c16_23.eq_1) := rr c16_23.eq_1
def a16 : AFun := ⟨2, 32, c16_23, [.cell 4 10 true]⟩
attribute [simp] r16_0 r16_1 r16_2 r16_3 r16_4 r16_5 r16_6 r16_7 r16_8 r16_9 r16_10 r16_11 r16_12 r16_13 r16_14 r16_15 r16_16 r16_17 r16_18 r16_19 r16_20 r16_21 r16_22 r16_23
theorem m16 : mFun Try.prog Try.f16 a16 = true := by decide +kernel
/- (copse/copsekeep.Ask).Query -/
noncomputable def RegionC (m : Model) (l : List Int) : Option Box := Part (1 ≤ m.dim ∧ m.dim ≤ 4) (regionOf m.dim l)
set_option maxRecDepth 8000 in
theorem runs_Region (m : Model) (l : List Int) (c : Box) (h : RegionC m l = some c) : Runs (tbl [(65, sp2 Pick), (24, sp3 Within)]) a16 [Arg.enc m, Arg.enc l] (Arg.enc c) := by
  obtain ⟨⟨d1, d2⟩, rfl⟩ := part_some h
  refine ⟨rfl, fun g => run_def ?_⟩
  unfold a16
  have p0 : Pick l 0 = some (pick l 0) := pick_of l 0
  have p1 : Pick l 1 = some (pick l 1) := pick_of l 1
  have p2 : Pick l 2 = some (pick l 2) := pick_of l 2
  have p3 : Pick l 3 = some (pick l 3) := pick_of l 3
  have p4 : Pick l 4 = some (pick l 4) := pick_of l 4
  have p5 : Pick l 5 = some (pick l 5) := pick_of l 5
  have p6 : Pick l 6 = some (pick l 6) := pick_of l 6
  have p7 : Pick l 7 = some (pick l 7) := pick_of l 7
  have v0 := within_of (pick l 0) (-2) 9 (by omega)
  have u0 := within_of (pick l 1) 0 11 (by omega)
  have a0 := within_le (pick l 0) (-2) 9 (by omega)
  have b0 := within_le (pick l 1) 0 11 (by omega)
  have w0 : IntKind.i64.wrap (within (pick l 0) (-2) 9 + within (pick l 1) 0 11) = within (pick l 0) (-2) 9 + within (pick l 1) 0 11 := wrap64 (by omega) (by omega)
  have v1 := within_of (pick l 2) (-2) 9 (by omega)
  have u1 := within_of (pick l 3) 0 11 (by omega)
  have a1 := within_le (pick l 2) (-2) 9 (by omega)
  have b1 := within_le (pick l 3) 0 11 (by omega)
  have w1 : IntKind.i64.wrap (within (pick l 2) (-2) 9 + within (pick l 3) 0 11) = within (pick l 2) (-2) 9 + within (pick l 3) 0 11 := wrap64 (by omega) (by omega)
  have v2 := within_of (pick l 4) (-2) 9 (by omega)
  have u2 := within_of (pick l 5) 0 11 (by omega)
  have a2 := within_le (pick l 4) (-2) 9 (by omega)
  have b2 := within_le (pick l 5) 0 11 (by omega)
  have w2 : IntKind.i64.wrap (within (pick l 4) (-2) 9 + within (pick l 5) 0 11) = within (pick l 4) (-2) 9 + within (pick l 5) 0 11 := wrap64 (by omega) (by omega)
  have v3 := within_of (pick l 6) (-2) 9 (by omega)
  have u3 := within_of (pick l 7) 0 11 (by omega)
  have a3 := within_le (pick l 6) (-2) 9 (by omega)
  have b3 := within_le (pick l 7) 0 11 (by omega)
  have w3 : IntKind.i64.wrap (within (pick l 6) (-2) 9 + within (pick l 7) 0 11) = within (pick l 6) (-2) 9 + within (pick l 7) 0 11 := wrap64 (by omega) (by omega)
  have hd : m.dim = 1 ∨ m.dim = 2 ∨ m.dim = 3 ∨ m.dim = 4 := by omega
  rcases hd with hd | hd | hd | hd <;>
    simp -implicitDefEqProofs [hd, run_round, p0, p1, p2, p3, p4, p5, p6, p7, v0, v1, v2, v3, u0, u1, u2, u3, w0, w1, w2, w3, regionOf, rSpan]
theorem c_Region : Contract Try.prog 16 (sp2 RegionC) :=
  contract_of_runs mixed (tbl_cons c_pick (tbl_cons c_Within tbl_nil)) Try.func16 m16 (sp2_runs runs_Region)
end Go.Co
