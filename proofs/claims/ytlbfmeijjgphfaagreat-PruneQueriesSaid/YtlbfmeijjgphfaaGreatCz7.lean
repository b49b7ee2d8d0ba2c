/- CO: texts of this claim, one behind the other. -/
import Derived.Test.YtlbfmeijjgphfaaGreatCz6
import Derived.Test.YtlbfmeijjgphfaaGreatCz1
set_option linter.unusedVariables false
set_option linter.unusedSimpArgs false
/- CO: the region and the query that numbers make. -/
set_option maxHeartbeats 16000000
set_option maxRecDepth 100000
namespace Go.Co
open Go.Am Go.Proofs
def c23_0 : ACode := .ops [⟨some 2, .box (.t 0) 6, none, []⟩,⟨some 4, .alloc [.int .i64 0, .int .i64 0, .int .i64 0, .int .i64 0, .int .i64 0, .int .i64 0, .int .i64 0, .int .i64 0, .int .i64 0, .int .i64 0], none, []⟩] [1, 2, 4]
theorem r23_0 : type_of% (rr c23_0.eq_1) := rr rfl
def c23_1 : ACode := .ops [⟨some 5, .alloc [.int .i64 0, .int .i64 0, .int .i64 0, .int .i64 0, .int .i64 0, .int .i64 0, .int .i64 0, .int .i64 0, .int .i64 0, .int .i64 0], none, []⟩] [1, 2, 4, 5]
theorem r23_1 : type_of% (rr c23_1.eq_1) := rr rfl
def c23_2 : ACode := .ops [⟨some 8, .fad (.t 2) 0, none, [2]⟩,⟨some 9, .load 1 false (.t 8), none, [2]⟩,⟨some 10, .mv (.c (.int .i64 0)), none, []⟩] [1, 4, 5, 9, 10]
theorem r23_2 : type_of% (rr c23_2.eq_1) := rr rfl
def c23_3 : ACode := .ops [⟨some 11, .bin .lss (.t 10) (.t 9), none, []⟩] [1, 4, 5, 9, 10, 11]
theorem r23_3 : type_of% (rr c23_3.eq_1) := rr rfl
def c23_4 : ACode := .cond (.t 11) .skip (.exit 0)
theorem r23_4 : type_of% (rr c23_4.eq_1) := rr rfl
def c23_5 : ACode := .ops [⟨some 12, .mv (.t 10), none, []⟩,⟨some 6, .mv (.t 12), none, []⟩] [1, 4, 5, 6, 9, 10]
theorem r23_5 : type_of% (rr c23_5.eq_1) := rr rfl
def c23_6 : ACode := .ops [⟨some 13, .mv (.t 1), none, []⟩,⟨some 14, .mv (.t 6), none, []⟩,⟨some 15, .bin .mul (.c (.int .i64 2)) (.t 14), none, []⟩,⟨some 16, .call 21 [.t 13, .t 15], none, []⟩,⟨some 17, .call 16 [.t 16, .c (.int .i64 (-2)), .c (.int .i64 9)], none, []⟩,⟨some 7, .mv (.t 17), none, []⟩] [1, 4, 5, 6, 7, 9, 10]
theorem r23_6 : type_of% (rr c23_6.eq_1) := rr rfl
def c23_7 : ACode := .ops [⟨some 18, .mv (.t 6), none, []⟩,⟨some 19, .mv (.t 7), none, []⟩,⟨some 20, .mv (.t 7), none, []⟩,⟨some 21, .mv (.t 1), none, []⟩,⟨some 22, .mv (.t 6), none, []⟩,⟨some 23, .bin .mul (.c (.int .i64 2)) (.t 22), none, []⟩,⟨some 24, .bin .add (.t 23) (.c (.int .i64 1)), none, []⟩,⟨some 25, .call 21 [.t 21, .t 24], none, []⟩,⟨some 26, .call 16 [.t 25, .c (.int .i64 0), .c (.int .i64 11)], none, []⟩,⟨some 27, .bin .add (.t 20) (.t 26), none, []⟩,⟨some 28, .build [.int .i64 0, .int .i64 0] [(0, 1, .t 19), (1, 1, .t 27)], none, []⟩,⟨some 29, .iad (.t 5) (.t 18) 2 5, none, [5]⟩,⟨none, .store (.t 29) 2 (.t 28), none, [5]⟩] [1, 4, 5, 9, 10]
theorem r23_7 : type_of% (rr c23_7.eq_1) := rr rfl
def c23_8 : ACode := .seq c23_6 c23_7
theorem r23_8 : type_of% (rr c23_8.eq_1) := rr rfl
def c23_9 : ACode := .seq c23_5 c23_8
theorem r23_9 : type_of% (rr c23_9.eq_1) := rr rfl
def c23_10 : ACode := .block 1 c23_9
theorem r23_10 : type_of% (rr c23_10.eq_1) := rr rfl
def c23_11 : ACode := .ops [⟨some 30, .bin .add (.t 10) (.c (.int .i64 1)), none, []⟩,⟨some 10, .mv (.t 30), none, []⟩] [1, 4, 5, 9, 10]
theorem r23_11 : type_of% (rr c23_11.eq_1) := rr rfl
def c23_12 : ACode := .seq c23_10 c23_11
theorem r23_12 : type_of% (rr c23_12.eq_1) := rr rfl
def c23_13 : ACode := .seq c23_4 c23_12
theorem r23_13 : type_of% (rr c23_13.eq_1) := rr rfl
def c23_14 : ACode := .seq c23_3 c23_13
theorem r23_14 : type_of% (rr c23_14.eq_1) := rr rfl
def c23_15 : ACode := .keep [1, 4, 5, 9, 10] [4, 5] c23_14
theorem r23_15 : type_of% (rr c23_15.eq_1) := rr rfl
def c23_16 : ACode := .loop c23_15
theorem r23_16 : type_of% (rr c23_16.eq_1) := rr rfl
def c23_17 : ACode := .block 0 c23_16
theorem r23_17 : type_of% (rr c23_17.eq_1) := rr rfl
def c23_18 : ACode := .seq c23_2 c23_17
theorem r23_18 : type_of% (rr c23_18.eq_1) := rr rfl
def c23_19 : ACode := .ops [⟨some 31, .load 10 true (.t 5), none, [5]⟩,⟨none, .store (.t 4) 10 (.t 31), none, [4]⟩] [4]
theorem r23_19 : type_of% (rr c23_19.eq_1) := rr rfl
def c23_20 : ACode := .seq c23_19 .ret
theorem r23_20 : type_of% (rr c23_20.eq_1) := rr rfl
def c23_21 : ACode := .seq c23_18 c23_20
theorem r23_21 : type_of% (rr c23_21.eq_1) := rr rfl
def c23_22 : ACode := .seq c23_1 c23_21
theorem r23_22 : type_of% (rr c23_22.eq_1) := rr rfl
def c23_23 : ACode := .seq c23_0 c23_22
theorem r23_23 : type_of% (rr c23_23.eq_1) := rr rfl
def a23 : AFun := ⟨2, 32, c23_23, [.cell 4 10 true]⟩
attribute [simp] r23_0 r23_1 r23_2 r23_3 r23_4 r23_5 r23_6 r23_7 r23_8 r23_9 r23_10 r23_11 r23_12 r23_13 r23_14 r23_15 r23_16 r23_17 r23_18 r23_19 r23_20 r23_21 r23_22 r23_23
theorem m23 : mFun Tryz.prog Tryz.f23 a23 = true := by decide +kernel
def c6_0 : ACode := .ops [⟨some 2, .box (.t 0) 8, none, []⟩,⟨some 3, .box (.t 1) 6, none, []⟩,⟨some 4, .alloc [.int .i64 0, .int .i64 0, .int .i64 0, .int .i64 0, .int .i64 0, .int .i64 0, .int .i64 0, .int .i64 0, .int .i64 0, .int .i64 0, .int .i64 0, .int .i64 0, .int .i64 0, .int .i64 0, .int .i64 0, .bool false, .int .i64 0], none, []⟩] [2, 3, 4]
theorem r6_0 : type_of% (rr c6_0.eq_1) := rr rfl
def c6_1 : ACode := .ops [⟨some 6, .fad (.t 2) 0, none, [2]⟩,⟨some 7, .load 1 false (.t 6), none, [2]⟩,⟨some 8, .call 16 [.t 7, .c (.int .i64 1), .c (.int .i64 3)], none, []⟩,⟨some 9, .fad (.t 2) 1, none, [2]⟩,⟨some 10, .load 1 false (.t 9), none, [2]⟩,⟨some 11, .fad (.t 3) 1, none, [3]⟩,⟨some 12, .load 1 false (.t 11), none, [3]⟩,⟨some 13, .bin .sub (.t 12) (.c (.int .i64 1)), none, []⟩,⟨some 14, .call 16 [.t 10, .c (.int .i64 0), .t 13], none, []⟩,⟨some 15, .load 6 true (.t 3), none, [3]⟩,⟨some 16, .fad (.t 2) 7, none, [2]⟩,⟨some 17, .load 1 false (.t 16), none, [2]⟩,⟨some 18, .call 23 [.t 15, .t 17], none, []⟩,⟨some 19, .fad (.t 2) 5, none, [2]⟩,⟨some 20, .load 1 false (.t 19), none, [2]⟩,⟨some 21, .call 16 [.t 20, .c (.int .i64 0), .c (.int .i64 65536)], none, []⟩,⟨some 22, .build [.int .i64 0, .int .i64 0, .int .i64 0, .int .i64 0, .int .i64 0, .int .i64 0, .int .i64 0, .int .i64 0, .int .i64 0, .int .i64 0, .int .i64 0, .int .i64 0, .int .i64 0, .int .i64 0, .int .i64 0, .bool false, .int .i64 0] [(0, 1, .t 8), (1, 1, .t 14), (2, 10, .t 18), (16, 1, .t 21)], none, []⟩,⟨some 5, .alloc [.int .i64 0, .int .i64 0, .int .i64 0, .int .i64 0, .int .i64 0, .int .i64 0, .int .i64 0, .int .i64 0, .int .i64 0, .int .i64 0, .int .i64 0, .int .i64 0, .int .i64 0, .int .i64 0, .int .i64 0, .bool false, .int .i64 0], none, []⟩,⟨none, .store (.t 5) 17 (.t 22), none, [5]⟩] [2, 3, 4, 5]
theorem r6_1 : type_of% (rr c6_1.eq_1) := rr rfl
def c6_2 : ACode := .ops [⟨some 23, .fad (.t 5) 0, none, [5]⟩,⟨some 24, .load 1 false (.t 23), none, [5]⟩] [2, 3, 4, 5, 24]
theorem r6_2 : type_of% (rr c6_2.eq_1) := rr rfl
def c6_3 : ACode := .ops [⟨some 26, .bin .eql (.t 24) (.c (.int .i64 2)), none, []⟩,⟨some 25, .mv (.t 26), none, []⟩] [2, 3, 4, 5, 24, 25]
theorem r6_3 : type_of% (rr c6_3.eq_1) := rr rfl
def c6_4 : ACode := .ops [⟨some 27, .fad (.t 3) 1, none, [3]⟩,⟨some 28, .load 1 false (.t 27), none, [3]⟩,⟨some 29, .bin .lss (.t 28) (.c (.int .i64 2)), none, []⟩] [2, 4, 5, 29]
theorem r6_4 : type_of% (rr c6_4.eq_1) := rr rfl
def c6_5 : ACode := .ops [⟨some 30, .fad (.t 5) 0, none, [5]⟩,⟨none, .store (.t 30) 1 (.c (.int .i64 1)), none, [5]⟩] [2, 4, 5]
theorem r6_5 : type_of% (rr c6_5.eq_1) := rr rfl
def c6_6 : ACode := .cond (.t 29) c6_5 .skip
theorem r6_6 : type_of% (rr c6_6.eq_1) := rr rfl
def c6_7 : ACode := .seq c6_4 c6_6
theorem r6_7 : type_of% (rr c6_7.eq_1) := rr rfl
def c6_8 : ACode := .ops [⟨some 32, .bin .eql (.t 24) (.c (.int .i64 3)), none, []⟩,⟨some 31, .mv (.t 32), none, []⟩] [2, 3, 4, 5, 31]
theorem r6_8 : type_of% (rr c6_8.eq_1) := rr rfl
def c6_9 : ACode := .ops [⟨some 33, .fad (.t 2) 4, none, [2]⟩,⟨some 34, .load 1 false (.t 33), none, [2]⟩,⟨some 35, .fad (.t 3) 0, none, [3]⟩,⟨some 36, .load 1 false (.t 35), none, [3]⟩,⟨some 37, .bin .sub (.t 36) (.c (.int .i64 1)), none, []⟩,⟨some 38, .call 16 [.t 34, .c (.int .i64 0), .t 37], none, []⟩,⟨some 39, .fad (.t 2) 6, none, [2]⟩,⟨some 40, .load 1 false (.t 39), none, [2]⟩,⟨some 41, .fad (.t 5) 14, none, [5]⟩,⟨none, .store (.t 41) 1 (.t 38), none, [5]⟩,⟨some 42, .fad (.t 5) 15, none, [5]⟩,⟨none, .store (.t 42) 1 (.t 40), none, [5]⟩] [2, 4, 5]
theorem r6_9 : type_of% (rr c6_9.eq_1) := rr rfl
def c6_10 : ACode := .cond (.t 31) c6_9 .skip
theorem r6_10 : type_of% (rr c6_10.eq_1) := rr rfl
def c6_11 : ACode := .seq c6_8 c6_10
theorem r6_11 : type_of% (rr c6_11.eq_1) := rr rfl
def c6_12 : ACode := .cond (.t 25) c6_7 c6_11
theorem r6_12 : type_of% (rr c6_12.eq_1) := rr rfl
def c6_13 : ACode := .seq c6_3 c6_12
theorem r6_13 : type_of% (rr c6_13.eq_1) := rr rfl
def c6_14 : ACode := .block 0 c6_13
theorem r6_14 : type_of% (rr c6_14.eq_1) := rr rfl
def c6_15 : ACode := .seq c6_2 c6_14
theorem r6_15 : type_of% (rr c6_15.eq_1) := rr rfl
def c6_16 : ACode := .ops [⟨some 43, .fad (.t 5) 0, none, [5]⟩,⟨some 44, .load 1 false (.t 43), none, [5]⟩,⟨some 45, .bin .eql (.t 44) (.c (.int .i64 1)), none, []⟩] [2, 4, 5, 45]
theorem r6_16 : type_of% (rr c6_16.eq_1) := rr rfl
def c6_17 : ACode := .ops [⟨some 46, .fad (.t 2) 2, none, [2]⟩,⟨some 47, .load 1 false (.t 46), none, [2]⟩,⟨some 48, .call 16 [.t 47, .c (.int .i64 (-9000)), .c (.int .i64 9000)], none, []⟩,⟨some 49, .fad (.t 5) 12, none, [5]⟩,⟨none, .store (.t 49) 1 (.t 48), none, [5]⟩] [2, 4, 5]
theorem r6_17 : type_of% (rr c6_17.eq_1) := rr rfl
def c6_18 : ACode := .ops [⟨some 50, .fad (.t 5) 12, none, [5]⟩,⟨some 51, .load 1 false (.t 50), none, [5]⟩,⟨some 52, .fad (.t 2) 3, none, [2]⟩,⟨some 53, .load 1 false (.t 52), none, [2]⟩,⟨some 54, .call 16 [.t 53, .c (.int .i64 0), .c (.int .i64 18000)], none, []⟩,⟨some 55, .bin .add (.t 51) (.t 54), none, []⟩,⟨some 56, .fad (.t 5) 13, none, [5]⟩,⟨none, .store (.t 56) 1 (.t 55), none, [5]⟩] [4, 5]
theorem r6_18 : type_of% (rr c6_18.eq_1) := rr rfl
def c6_19 : ACode := .seq c6_17 c6_18
theorem r6_19 : type_of% (rr c6_19.eq_1) := rr rfl
def c6_20 : ACode := .cond (.t 45) c6_19 .skip
theorem r6_20 : type_of% (rr c6_20.eq_1) := rr rfl
def c6_21 : ACode := .seq c6_16 c6_20
theorem r6_21 : type_of% (rr c6_21.eq_1) := rr rfl
def c6_22 : ACode := .ops [⟨some 57, .load 17 true (.t 5), none, [5]⟩,⟨none, .store (.t 4) 17 (.t 57), none, [4]⟩] [4]
theorem r6_22 : type_of% (rr c6_22.eq_1) := rr rfl
def c6_23 : ACode := .seq c6_22 .ret
theorem r6_23 : type_of% (rr c6_23.eq_1) := rr rfl
def c6_24 : ACode := .seq c6_21 c6_23
theorem r6_24 : type_of% (rr c6_24.eq_1) := rr rfl
def c6_25 : ACode := .seq c6_15 c6_24
theorem r6_25 : type_of% (rr c6_25.eq_1) := rr rfl
def c6_26 : ACode := .seq c6_1 c6_25
theorem r6_26 : type_of% (rr c6_26.eq_1) := rr rfl
def c6_27 : ACode := .seq c6_0 c6_26
theorem r6_27 : type_of% (rr c6_27.eq_1) := rr rfl
def a6 : AFun := ⟨2, 58, c6_27, [.cell 4 17 true]⟩
attribute [simp] r6_0 r6_1 r6_2 r6_3 r6_4 r6_5 r6_6 r6_7 r6_8 r6_9 r6_10 r6_11 r6_12 r6_13 r6_14 r6_15 r6_16 r6_17 r6_18 r6_19 r6_20 r6_21 r6_22 r6_23 r6_24 r6_25 r6_26 r6_27
theorem m6 : mFun Tryz.prog Tryz.f6 a6 = true := by decide +kernel
noncomputable def RegionC (m : Model) (l : List Int) : Option Box := Part (1 ≤ m.dim ∧ m.dim ≤ 4) (regionOf m.dim l)
theorem runs_Region (m : Model) (l : List Int) (c : Box) (h : RegionC m l = some c) : Runs (tbl [(21, sp2 Pick), (16, sp3 Within)]) a23 [Arg.enc m, Arg.enc l] (Arg.enc c) := by
  obtain ⟨⟨d1, d2⟩, rfl⟩ := part_some h
  refine ⟨rfl, fun g => run_def ?_⟩
  unfold a23
  have p0 : Pick l 0 = some (pick l 0) := pick_of l 0
  have p1 : Pick l 1 = some (pick l 1) := pick_of l 1
  have p2 : Pick l 2 = some (pick l 2) := pick_of l 2
  have p3 : Pick l 3 = some (pick l 3) := pick_of l 3
  have p4 : Pick l 4 = some (pick l 4) := pick_of l 4
  have p5 : Pick l 5 = some (pick l 5) := pick_of l 5
  have p6 : Pick l 6 = some (pick l 6) := pick_of l 6
  have p7 : Pick l 7 = some (pick l 7) := pick_of l 7
  have v0 := within_of (pick l 0) (-2) 9 (by omega)
  have u0 := within_of (pick l 1) 0 11 (by omega)
  have a0 := within_le (pick l 0) (-2) 9 (by omega)
  have b0 := within_le (pick l 1) 0 11 (by omega)
  have w0 : IntKind.i64.wrap (within (pick l 0) (-2) 9 + within (pick l 1) 0 11) = within (pick l 0) (-2) 9 + within (pick l 1) 0 11 := wrap64 (by omega) (by omega)
  have v1 := within_of (pick l 2) (-2) 9 (by omega)
  have u1 := within_of (pick l 3) 0 11 (by omega)
  have a1 := within_le (pick l 2) (-2) 9 (by omega)
  have b1 := within_le (pick l 3) 0 11 (by omega)
  have w1 : IntKind.i64.wrap (within (pick l 2) (-2) 9 + within (pick l 3) 0 11) = within (pick l 2) (-2) 9 + within (pick l 3) 0 11 := wrap64 (by omega) (by omega)
  have v2 := within_of (pick l 4) (-2) 9 (by omega)
  have u2 := within_of (pick l 5) 0 11 (by omega)
  have a2 := within_le (pick l 4) (-2) 9 (by omega)
  have b2 := within_le (pick l 5) 0 11 (by omega)
  have w2 : IntKind.i64.wrap (within (pick l 4) (-2) 9 + within (pick l 5) 0 11) = within (pick l 4) (-2) 9 + within (pick l 5) 0 11 := wrap64 (by omega) (by omega)
  have v3 := within_of (pick l 6) (-2) 9 (by omega)
  have u3 := within_of (pick l 7) 0 11 (by omega)
  have a3 := within_le (pick l 6) (-2) 9 (by omega)
  have b3 := within_le (pick l 7) 0 11 (by omega)
  have w3 : IntKind.i64.wrap (within (pick l 6) (-2) 9 + within (pick l 7) 0 11) = within (pick l 6) (-2) 9 + within (pick l 7) 0 11 := wrap64 (by omega) (by omega)
  have hd : m.dim = 1 ∨ m.dim = 2 ∨ m.dim = 3 ∨ m.dim = 4 := by omega
  rcases hd with hd | hd | hd | hd <;>
    simp -implicitDefEqProofs [hd, run_round, p0, p1, p2, p3, p4, p5, p6, p7, v0, v1, v2, v3, u0, u1, u2, u3, w0, w1, w2, w3, regionOf, rSpan]
theorem c_Region : Contract Tryz.prog 23 (sp2 RegionC) :=
  contract_of_runs mixed (tbl_cons c_pick (tbl_cons c_Within tbl_nil)) Tryz.func23 m23 (sp2_runs runs_Region)
noncomputable def QueryC (a : Ask) (m : Model) : Option Query := Part (1 ≤ m.dim ∧ m.dim ≤ 4 ∧ 1 ≤ m.classes ∧ m.classes ≤ 3) (queryOf m a)
theorem runs_Query (a : Ask) (m : Model) (c : Query) (h : QueryC a m = some c) : Runs (tbl [(16, sp3 Within), (23, sp2 RegionC)]) a6 [Arg.enc a, Arg.enc m] (Arg.enc c) := by
  obtain ⟨⟨d1, d2, k1, k2⟩, rfl⟩ := part_some h
  refine ⟨rfl, fun g => run_def ?_⟩
  unfold a6
  have v1 := within_of a.kind 1 3 (by omega)
  have v2 := within_of a.cls 0 (m.classes - 1) (by omega)
  have v3 := within_of a.budget 0 65536 (by omega)
  have v4 := within_of a.feature 0 (m.dim - 1) (by omega)
  have v5 := within_of a.lo (-9000) 9000 (by omega)
  have v6 := within_of a.size 0 18000 (by omega)
  have w1 : IntKind.i64.wrap (m.classes - 1) = m.classes - 1 := wrap64 (by omega) (by omega)
  have w2 : IntKind.i64.wrap (m.dim - 1) = m.dim - 1 := wrap64 (by omega) (by omega)
  have a5 := within_le a.lo (-9000) 9000 (by omega)
  have a6 := within_le a.size 0 18000 (by omega)
  have w3 : IntKind.i64.wrap (within a.lo (-9000) 9000 + within a.size 0 18000) = within a.lo (-9000) 9000 + within a.size 0 18000 := wrap64 (by omega) (by omega)
  have hR : RegionC m a.spans = some (regionOf m.dim a.spans) := part_of ⟨d1, d2⟩ _
  have hk := within_le a.kind 1 3 (by omega)
  have hk : within a.kind 1 3 = 1 ∨ within a.kind 1 3 = 2 ∨ within a.kind 1 3 = 3 := by omega
  rcases hk with hk | hk | hk
  · have q : qKind m a = 1 := by unfold qKind; rw [hk]; simp
    rw [hk] at v1
    simp -implicitDefEqProofs [v1, v2, v3, v4, v5, v6, w1, w2, w3, hR, queryOf, q]
  · rw [hk] at v1
    by_cases hc : m.classes < 2
    · have q : qKind m a = 1 := by unfold qKind; rw [hk]; simp [hc]
      simp -implicitDefEqProofs [v1, v2, v3, v4, v5, v6, w1, w2, w3, hR, queryOf, q, hc]
    · have q : qKind m a = 2 := by unfold qKind; rw [hk]; simp [hc]
      simp -implicitDefEqProofs [v1, v2, v3, v4, v5, v6, w1, w2, w3, hR, queryOf, q, hc]
  · have q : qKind m a = 3 := by unfold qKind; rw [hk]; simp
    rw [hk] at v1
    simp -implicitDefEqProofs [v1, v2, v3, v4, v5, v6, w1, w2, w3, hR, queryOf, q]
theorem c_Query : Contract Tryz.prog 6 (sp2 QueryC) :=
  contract_of_runs mixed (tbl_cons c_Within (tbl_cons c_Region tbl_nil)) Tryz.func6 m6 (sp2_runs runs_Query)
end Go.Co
/- CO: a point of a box, by numbers. -/
namespace Go.Co
open Go.Am Go.Proofs
def small (s : Span) : Prop := -1125899906842624 ≤ s.lo ∧ s.lo ≤ 1125899906842624 ∧ s.hi ≤ 1125899906842624
theorem empty_spec {b : Box} (h : b.empty = false) : b.s0.empty = false ∧ b.s1.empty = false ∧ b.s2.empty = false ∧ b.s3.empty = false ∧ b.s4.empty = false := by
  unfold Box.empty at h
  simp only [Bool.or_eq_false_iff] at h
  exact ⟨h.1.1.1.1, h.1.1.1.2, h.1.1.2, h.1.2, h.2⟩
end Go.Co
/- CO: margins, the best class (written by mkCoO.py). -/
set_option maxHeartbeats 16000000
set_option maxRecDepth 100000
namespace Go.Co
open Go.Am Go.Proofs
def c28_0 : ACode := .ops [⟨some 3, .box (.t 0) 6, none, []⟩,⟨some 5, .box (.t 2) 10, none, []⟩,⟨some 6, .mv (.c (.int .i64 0)), none, []⟩,⟨some 7, .mv (.c (.bool false)), none, []⟩] [1, 3, 5]
theorem r28_0 : type_of% (rr c28_0.eq_1) := rr rfl
def c28_1 : ACode := .ops [⟨some 18, .load 6 true (.t 3), none, [3]⟩,⟨some 19, .mv (.t 1), none, []⟩,⟨some 20, .load 10 true (.t 5), none, [5]⟩,⟨some 21, .call 27 [.t 18, .t 19, .t 20], none, []⟩,⟨some 17, .mv (.t 21), none, []⟩,⟨some 22, .ext (.t 17) 0, none, []⟩,⟨some 23, .ext (.t 17) 1, none, []⟩,⟨some 24, .ext (.t 17) 2, none, []⟩,⟨some 8, .mv (.t 22), none, []⟩,⟨some 9, .mv (.t 23), none, []⟩,⟨some 10, .mv (.t 24), none, []⟩] [1, 3, 5, 8, 10]
theorem r28_1 : type_of% (rr c28_1.eq_1) := rr rfl
def c28_2 : ACode := .ops [⟨some 25, .mv (.t 10), none, []⟩,⟨some 26, .un .not (.t 25), none, []⟩,⟨some 27, .mv (.t 26), none, []⟩,⟨some 28, .fad (.t 3) 1, some (27, false), [3]⟩,⟨some 29, .load 1 false (.t 28), some (27, false), [3]⟩,⟨some 30, .bin .lss (.t 29) (.c (.int .i64 2)), some (27, false), []⟩,⟨some 31, .pick (.t 27) (.c (.bool true)) (.t 30), none, []⟩] [1, 3, 5, 8, 31]
theorem r28_2 : type_of% (rr c28_2.eq_1) := rr rfl
def c28_3 : ACode := .ops [⟨some 6, .mv (.c (.int .i64 0)), none, []⟩,⟨some 7, .mv (.c (.bool false)), none, []⟩] [6, 7]
theorem r28_3 : type_of% (rr c28_3.eq_1) := rr rfl
def c28_4 : ACode := .seq c28_3 .ret
theorem r28_4 : type_of% (rr c28_4.eq_1) := rr rfl
def c28_5 : ACode := .cond (.t 31) c28_4 .skip
theorem r28_5 : type_of% (rr c28_5.eq_1) := rr rfl
def c28_6 : ACode := .seq c28_2 c28_5
theorem r28_6 : type_of% (rr c28_6.eq_1) := rr rfl
def c28_7 : ACode := .ops [⟨some 11, .mv (.c (.int .i64 0)), none, []⟩,⟨some 12, .mv (.c (.bool false)), none, []⟩] [1, 3, 5, 8, 11, 12]
theorem r28_7 : type_of% (rr c28_7.eq_1) := rr rfl
def c28_8 : ACode := .ops [⟨some 32, .fad (.t 3) 1, none, [3]⟩,⟨some 33, .load 1 false (.t 32), none, [3]⟩,⟨some 34, .mv (.c (.int .i64 0)), none, []⟩] [1, 3, 5, 8, 11, 12, 33, 34]
theorem r28_8 : type_of% (rr c28_8.eq_1) := rr rfl
def c28_9 : ACode := .ops [⟨some 35, .bin .lss (.t 34) (.t 33), none, []⟩] [1, 3, 5, 8, 11, 12, 33, 34, 35]
theorem r28_9 : type_of% (rr c28_9.eq_1) := rr rfl
def c28_10 : ACode := .cond (.t 35) .skip (.exit 0)
theorem r28_10 : type_of% (rr c28_10.eq_1) := rr rfl
def c28_11 : ACode := .ops [⟨some 36, .mv (.t 34), none, []⟩,⟨some 13, .mv (.t 36), none, []⟩] [1, 3, 5, 8, 11, 12, 13, 33, 34]
theorem r28_11 : type_of% (rr c28_11.eq_1) := rr rfl
def c28_12 : ACode := .ops [⟨some 37, .mv (.t 13), none, []⟩,⟨some 38, .mv (.t 1), none, []⟩,⟨some 39, .bin .eql (.t 37) (.t 38), none, []⟩] [1, 3, 5, 8, 11, 12, 13, 33, 34, 39]
theorem r28_12 : type_of% (rr c28_12.eq_1) := rr rfl
def c28_13 : ACode := .cond (.t 39) (.exit 1) .skip
theorem r28_13 : type_of% (rr c28_13.eq_1) := rr rfl
def c28_14 : ACode := .seq c28_12 c28_13
theorem r28_14 : type_of% (rr c28_14.eq_1) := rr rfl
def c28_15 : ACode := .ops [⟨some 41, .load 6 true (.t 3), none, [3]⟩,⟨some 42, .mv (.t 13), none, []⟩,⟨some 43, .load 10 true (.t 5), none, [5]⟩,⟨some 44, .call 27 [.t 41, .t 42, .t 43], none, []⟩,⟨some 40, .mv (.t 44), none, []⟩,⟨some 45, .ext (.t 40) 0, none, []⟩,⟨some 46, .ext (.t 40) 1, none, []⟩,⟨some 47, .ext (.t 40) 2, none, []⟩,⟨some 14, .mv (.t 45), none, []⟩,⟨some 15, .mv (.t 46), none, []⟩,⟨some 16, .mv (.t 47), none, []⟩] [1, 3, 5, 8, 11, 12, 15, 33, 34]
theorem r28_15 : type_of% (rr c28_15.eq_1) := rr rfl
def c28_16 : ACode := .ops [⟨some 48, .mv (.t 12), none, []⟩,⟨some 49, .un .not (.t 48), none, []⟩,⟨some 50, .mv (.t 49), none, []⟩,⟨some 51, .mv (.t 8), some (50, false), []⟩,⟨some 52, .mv (.t 15), some (50, false), []⟩,⟨some 53, .bin .sub (.t 51) (.t 52), some (50, false), []⟩,⟨some 54, .mv (.t 11), some (50, false), []⟩,⟨some 55, .bin .lss (.t 53) (.t 54), some (50, false), []⟩,⟨some 56, .pick (.t 50) (.c (.bool true)) (.t 55), none, []⟩] [1, 3, 5, 8, 11, 12, 15, 33, 34, 56]
theorem r28_16 : type_of% (rr c28_16.eq_1) := rr rfl
def c28_17 : ACode := .ops [⟨some 57, .mv (.t 8), none, []⟩,⟨some 58, .mv (.t 15), none, []⟩,⟨some 59, .bin .sub (.t 57) (.t 58), none, []⟩,⟨some 11, .mv (.t 59), none, []⟩,⟨some 12, .mv (.c (.bool true)), none, []⟩] [1, 3, 5, 8, 11, 12, 33, 34]
theorem r28_17 : type_of% (rr c28_17.eq_1) := rr rfl
def c28_18 : ACode := .cond (.t 56) c28_17 .skip
theorem r28_18 : type_of% (rr c28_18.eq_1) := rr rfl
def c28_19 : ACode := .seq c28_16 c28_18
theorem r28_19 : type_of% (rr c28_19.eq_1) := rr rfl
def c28_20 : ACode := .seq c28_15 c28_19
theorem r28_20 : type_of% (rr c28_20.eq_1) := rr rfl
def c28_21 : ACode := .seq c28_14 c28_20
theorem r28_21 : type_of% (rr c28_21.eq_1) := rr rfl
def c28_22 : ACode := .seq c28_11 c28_21
theorem r28_22 : type_of% (rr c28_22.eq_1) := rr rfl
def c28_23 : ACode := .block 1 c28_22
theorem r28_23 : type_of% (rr c28_23.eq_1) := rr rfl
def c28_24 : ACode := .ops [⟨some 60, .bin .add (.t 34) (.c (.int .i64 1)), none, []⟩,⟨some 34, .mv (.t 60), none, []⟩] [1, 3, 5, 8, 11, 12, 33, 34]
theorem r28_24 : type_of% (rr c28_24.eq_1) := rr rfl
def c28_25 : ACode := .seq c28_23 c28_24
theorem r28_25 : type_of% (rr c28_25.eq_1) := rr rfl
def c28_26 : ACode := .seq c28_10 c28_25
theorem r28_26 : type_of% (rr c28_26.eq_1) := rr rfl
def c28_27 : ACode := .seq c28_9 c28_26
theorem r28_27 : type_of% (rr c28_27.eq_1) := rr rfl
def c28_28 : ACode := .keep [1, 3, 5, 8, 11, 12, 33, 34] [3, 5] c28_27
theorem r28_28 : type_of% (rr c28_28.eq_1) := rr rfl
def c28_29 : ACode := .loop c28_28
theorem r28_29 : type_of% (rr c28_29.eq_1) := rr rfl
def c28_30 : ACode := .block 0 c28_29
theorem r28_30 : type_of% (rr c28_30.eq_1) := rr rfl
def c28_31 : ACode := .seq c28_8 c28_30
theorem r28_31 : type_of% (rr c28_31.eq_1) := rr rfl
def c28_32 : ACode := .ops [⟨some 61, .mv (.t 11), none, []⟩,⟨some 6, .mv (.t 61), none, []⟩,⟨some 7, .mv (.c (.bool true)), none, []⟩] [6, 7]
theorem r28_32 : type_of% (rr c28_32.eq_1) := rr rfl
def c28_33 : ACode := .seq c28_32 .ret
theorem r28_33 : type_of% (rr c28_33.eq_1) := rr rfl
def c28_34 : ACode := .seq c28_31 c28_33
theorem r28_34 : type_of% (rr c28_34.eq_1) := rr rfl
def c28_35 : ACode := .seq c28_7 c28_34
theorem r28_35 : type_of% (rr c28_35.eq_1) := rr rfl
def c28_36 : ACode := .seq c28_6 c28_35
theorem r28_36 : type_of% (rr c28_36.eq_1) := rr rfl
def c28_37 : ACode := .seq c28_1 c28_36
theorem r28_37 : type_of% (rr c28_37.eq_1) := rr rfl
def c28_38 : ACode := .seq c28_0 c28_37
theorem r28_38 : type_of% (rr c28_38.eq_1) := rr rfl
def a28 : AFun := ⟨3, 62, c28_38, [.t 6, .t 7]⟩
attribute [simp] r28_0 r28_1 r28_2 r28_3 r28_4 r28_5 r28_6 r28_7 r28_8 r28_9 r28_10 r28_11 r28_12 r28_13 r28_14 r28_15 r28_16 r28_17 r28_18 r28_19 r28_20 r28_21 r28_22 r28_23 r28_24 r28_25 r28_26 r28_27 r28_28 r28_29 r28_30 r28_31 r28_32 r28_33 r28_34 r28_35 r28_36 r28_37 r28_38
theorem m28 : mFun Tryz.prog Tryz.f28 a28 = true := by decide +kernel
def other1 (c : Int) : Int := if c = 0 then 1 else 0
def other2 (c : Int) : Int := if c = 2 then 1 else 2
def marD (m : Model) (c : Int) (b : Box) (o : Int) : Int := (boundP m c b).1 - (boundP m o b).2
def margin (m : Model) (c : Int) (b : Box) : Int := if m.classes = 2 then marD m c b (other1 c) else min2 (marD m c b (other1 c)) (marD m c b (other2 c))
noncomputable def MarginC (m : Model) (c : Int) (b : Box) : Option (Int × Bool) := Part (RM m ∧ okB b) (if c < 0 ∨ m.classes ≤ c ∨ m.classes < 2 ∨ b.empty = true then (0, false) else (margin m c b, true))
theorem boundS_some {m : Model} (hm : RM m) {b : Box} (hb : okB b) (he : b.empty = false) {c : Int} (h0 : 0 ≤ c) (h1 : c < m.classes) : BoundS m c b = some ⟨(boundP m c b).1, (boundP m c b).2, true⟩ := by
  unfold BoundS
  rw [part_of ⟨hm, hb⟩, boundM, if_neg (by simp [he]; omega)]
theorem boundS_none {m : Model} (hm : RM m) {b : Box} (hb : okB b) {c : Int} (h : c < 0 ∨ m.classes ≤ c ∨ b.empty = true) : BoundS m c b = some ⟨0, 0, false⟩ := by
  unfold BoundS
  rw [part_of ⟨hm, hb⟩, boundM, if_pos h]
theorem runs_Margin (m : Model) (c : Int) (b : Box) (r : Int × Bool) (h : MarginC m c b = some r) : Runs (tbl [(27, sp3 BoundS)]) a28 [Arg.enc m, Arg.enc c, Arg.enc b] (Arg.enc r) := by
  obtain ⟨⟨hm, hb⟩, rfl⟩ := part_some h
  clear h
  refine ⟨rfl, fun g => run_def ?_⟩
  unfold a28
  have hcl := hm.classes
  by_cases hn : c < 0 ∨ m.classes ≤ c ∨ b.empty = true
  case pos =>
    have hS := boundS_none hm hb hn
    have : c < 0 ∨ m.classes ≤ c ∨ m.classes < 2 ∨ b.empty = true := by rcases hn with h | h | h <;> simp [h]
    rw [if_pos this]
    simp -implicitDefEqProofs [hS]
  have he : b.empty = false := by cases he : b.empty <;> simp [he] at hn ⊢
  have h0 : 0 ≤ c := by omega
  have h1 : c < m.classes := by omega
  have hS := boundS_some hm hb he h0 h1
  by_cases h2 : m.classes < 2
  case pos =>
    rw [if_pos (Or.inr (Or.inr (Or.inl h2)))]
    simp -implicitDefEqProofs [hS, h2]
  rw [if_neg (by simp [he]; omega)]
  have p0 := boundP_le hm 0 he
  have p1 := boundP_le hm 1 he
  have p2 := boundP_le hm 2 he
  have s0 := boundS_some hm hb he (c := 0) (by omega) (by omega)
  have s1 := boundS_some hm hb he (c := 1) (by omega) (by omega)
  have s2 : m.classes = 3 → _ := fun h => boundS_some hm hb he (c := 2) (by omega) (by omega)
  obtain ⟨dim, classes, bias, trees⟩ := m
  simp only at hcl h1 h2 s2
  have hcs : (classes = 2 ∧ c = 0) ∨ (classes = 2 ∧ c = 1) ∨ (classes = 3 ∧ c = 0) ∨ (classes = 3 ∧ c = 1) ∨ (classes = 3 ∧ c = 2) := by omega
  rcases hcs with ⟨rfl, rfl⟩ | ⟨rfl, rfl⟩ | ⟨rfl, rfl⟩ | ⟨rfl, rfl⟩ | ⟨rfl, rfl⟩
  · skip
    have w0 : IntKind.i64.wrap ((boundP ⟨dim, 2, bias, trees⟩ 0 b).1 - (boundP ⟨dim, 2, bias, trees⟩ 1 b).2) = marD ⟨dim, 2, bias, trees⟩ 0 b 1 := by unfold marD; exact wrap64 (by omega) (by omega)
    have hmm : margin ⟨dim, 2, bias, trees⟩ 0 b = marD ⟨dim, 2, bias, trees⟩ 0 b 1 := by simp [margin, other1]
    rw [hmm]
    clear hmm
    simp -implicitDefEqProofs [hS, s0, s1, w0]
    rw [run_round]
    simp -implicitDefEqProofs [hS, s0, s1, w0]
    rw [run_round]
    simp -implicitDefEqProofs [hS, s0, s1, w0]
    rw [run_round]
    simp -implicitDefEqProofs [hS, s0, s1, w0]
  · skip
    have w0 : IntKind.i64.wrap ((boundP ⟨dim, 2, bias, trees⟩ 1 b).1 - (boundP ⟨dim, 2, bias, trees⟩ 0 b).2) = marD ⟨dim, 2, bias, trees⟩ 1 b 0 := by unfold marD; exact wrap64 (by omega) (by omega)
    have hmm : margin ⟨dim, 2, bias, trees⟩ 1 b = marD ⟨dim, 2, bias, trees⟩ 1 b 0 := by simp [margin, other1]
    rw [hmm]
    clear hmm
    simp -implicitDefEqProofs [hS, s0, s1, w0]
    rw [run_round]
    simp -implicitDefEqProofs [hS, s0, s1, w0]
    rw [run_round]
    simp -implicitDefEqProofs [hS, s0, s1, w0]
    rw [run_round]
    simp -implicitDefEqProofs [hS, s0, s1, w0]
  · skip
    have w0 : IntKind.i64.wrap ((boundP ⟨dim, 3, bias, trees⟩ 0 b).1 - (boundP ⟨dim, 3, bias, trees⟩ 1 b).2) = marD ⟨dim, 3, bias, trees⟩ 0 b 1 := by unfold marD; exact wrap64 (by omega) (by omega)
    have w1 : IntKind.i64.wrap ((boundP ⟨dim, 3, bias, trees⟩ 0 b).1 - (boundP ⟨dim, 3, bias, trees⟩ 2 b).2) = marD ⟨dim, 3, bias, trees⟩ 0 b 2 := by unfold marD; exact wrap64 (by omega) (by omega)
    have s2 := s2 rfl
    have hmm : margin ⟨dim, 3, bias, trees⟩ 0 b = min2 (marD ⟨dim, 3, bias, trees⟩ 0 b 1) (marD ⟨dim, 3, bias, trees⟩ 0 b 2) := by simp [margin, other1, other2]
    rw [hmm]
    clear hmm
    unfold min2
    by_cases g : marD ⟨dim, 3, bias, trees⟩ 0 b 2 < marD ⟨dim, 3, bias, trees⟩ 0 b 1
    · simp -implicitDefEqProofs [hS, s0, s1, s2, w0, w1, g]
      rw [run_round]
      simp -implicitDefEqProofs [hS, s0, s1, s2, w0, w1, g]
      rw [run_round]
      simp -implicitDefEqProofs [hS, s0, s1, s2, w0, w1, g]
      rw [run_round]
      simp -implicitDefEqProofs [hS, s0, s1, s2, w0, w1, g]
      rw [run_round]
      simp -implicitDefEqProofs [hS, s0, s1, s2, w0, w1, g]
    · simp -implicitDefEqProofs [hS, s0, s1, s2, w0, w1, g]
      rw [run_round]
      simp -implicitDefEqProofs [hS, s0, s1, s2, w0, w1, g]
      rw [run_round]
      simp -implicitDefEqProofs [hS, s0, s1, s2, w0, w1, g]
      rw [run_round]
      simp -implicitDefEqProofs [hS, s0, s1, s2, w0, w1, g]
      rw [run_round]
      simp -implicitDefEqProofs [hS, s0, s1, s2, w0, w1, g]
  · skip
    have w0 : IntKind.i64.wrap ((boundP ⟨dim, 3, bias, trees⟩ 1 b).1 - (boundP ⟨dim, 3, bias, trees⟩ 0 b).2) = marD ⟨dim, 3, bias, trees⟩ 1 b 0 := by unfold marD; exact wrap64 (by omega) (by omega)
    have w1 : IntKind.i64.wrap ((boundP ⟨dim, 3, bias, trees⟩ 1 b).1 - (boundP ⟨dim, 3, bias, trees⟩ 2 b).2) = marD ⟨dim, 3, bias, trees⟩ 1 b 2 := by unfold marD; exact wrap64 (by omega) (by omega)
    have s2 := s2 rfl
    have hmm : margin ⟨dim, 3, bias, trees⟩ 1 b = min2 (marD ⟨dim, 3, bias, trees⟩ 1 b 0) (marD ⟨dim, 3, bias, trees⟩ 1 b 2) := by simp [margin, other1, other2]
    rw [hmm]
    clear hmm
    unfold min2
    by_cases g : marD ⟨dim, 3, bias, trees⟩ 1 b 2 < marD ⟨dim, 3, bias, trees⟩ 1 b 0
    · simp -implicitDefEqProofs [hS, s0, s1, s2, w0, w1, g]
      rw [run_round]
      simp -implicitDefEqProofs [hS, s0, s1, s2, w0, w1, g]
      rw [run_round]
      simp -implicitDefEqProofs [hS, s0, s1, s2, w0, w1, g]
      rw [run_round]
      simp -implicitDefEqProofs [hS, s0, s1, s2, w0, w1, g]
      rw [run_round]
      simp -implicitDefEqProofs [hS, s0, s1, s2, w0, w1, g]
    · simp -implicitDefEqProofs [hS, s0, s1, s2, w0, w1, g]
      rw [run_round]
      simp -implicitDefEqProofs [hS, s0, s1, s2, w0, w1, g]
      rw [run_round]
      simp -implicitDefEqProofs [hS, s0, s1, s2, w0, w1, g]
      rw [run_round]
      simp -implicitDefEqProofs [hS, s0, s1, s2, w0, w1, g]
      rw [run_round]
      simp -implicitDefEqProofs [hS, s0, s1, s2, w0, w1, g]
  · skip
    have w0 : IntKind.i64.wrap ((boundP ⟨dim, 3, bias, trees⟩ 2 b).1 - (boundP ⟨dim, 3, bias, trees⟩ 0 b).2) = marD ⟨dim, 3, bias, trees⟩ 2 b 0 := by unfold marD; exact wrap64 (by omega) (by omega)
    have w1 : IntKind.i64.wrap ((boundP ⟨dim, 3, bias, trees⟩ 2 b).1 - (boundP ⟨dim, 3, bias, trees⟩ 1 b).2) = marD ⟨dim, 3, bias, trees⟩ 2 b 1 := by unfold marD; exact wrap64 (by omega) (by omega)
    have s2 := s2 rfl
    have hmm : margin ⟨dim, 3, bias, trees⟩ 2 b = min2 (marD ⟨dim, 3, bias, trees⟩ 2 b 0) (marD ⟨dim, 3, bias, trees⟩ 2 b 1) := by simp [margin, other1, other2]
    rw [hmm]
    clear hmm
    unfold min2
    by_cases g : marD ⟨dim, 3, bias, trees⟩ 2 b 1 < marD ⟨dim, 3, bias, trees⟩ 2 b 0
    · simp -implicitDefEqProofs [hS, s0, s1, s2, w0, w1, g]
      rw [run_round]
      simp -implicitDefEqProofs [hS, s0, s1, s2, w0, w1, g]
      rw [run_round]
      simp -implicitDefEqProofs [hS, s0, s1, s2, w0, w1, g]
      rw [run_round]
      simp -implicitDefEqProofs [hS, s0, s1, s2, w0, w1, g]
      rw [run_round]
      simp -implicitDefEqProofs [hS, s0, s1, s2, w0, w1, g]
    · simp -implicitDefEqProofs [hS, s0, s1, s2, w0, w1, g]
      rw [run_round]
      simp -implicitDefEqProofs [hS, s0, s1, s2, w0, w1, g]
      rw [run_round]
      simp -implicitDefEqProofs [hS, s0, s1, s2, w0, w1, g]
      rw [run_round]
      simp -implicitDefEqProofs [hS, s0, s1, s2, w0, w1, g]
      rw [run_round]
      simp -implicitDefEqProofs [hS, s0, s1, s2, w0, w1, g]
theorem c_Margin : Contract Tryz.prog 28 (sp3 MarginC) :=
  contract_of_runs mixed (tbl_cons c_bSum tbl_nil) Tryz.func28 m28 (sp3_runs runs_Margin)
end Go.Co
/- CO: right trees and right models: told of any. -/
set_option maxHeartbeats 16000000
set_option maxRecDepth 100000
namespace Go.Co
open Go.Am Go.Proofs
open Classical in
noncomputable def rightT (l : List Word) (dim : Int) : Bool := decide (RT l dim)
theorem rightT_true {l : List Word} {dim : Int} : rightT l dim = true ↔ RT l dim := by unfold rightT; simp
theorem rightT_false {l : List Word} {dim : Int} : rightT l dim = false ↔ ¬ RT l dim := by unfold rightT; simp
def okL (l : List Word) : Prop := ∀ w ∈ l, okW w.v
noncomputable def TreeRightT (l : List Word) (dim : Int) : Option Bool := Part (okL l ∧ l.length ≤ maxN) (rightT l dim)
def Pre (l : List Word) (dim : Int) (n : Nat) : Prop := ∀ (i : Nat) (h : i < l.length), i < n → (unpack l[i]).2 = true ∧ ((nd l[i]).leaf = false → (nd l[i]).feature < dim ∧ (nd l[i]).left ≠ (nd l[i]).right ∧ (i : Int) < (nd l[i]).left ∧ (nd l[i]).left < l.length ∧ (i : Int) < (nd l[i]).right ∧ (nd l[i]).right < l.length)
theorem Pre.zero {l : List Word} {dim : Int} : Pre l dim 0 := fun i h hi => by omega
theorem Pre.leaf {l : List Word} {dim : Int} {i : Nat} (h : Pre l dim i) (hi : i < l.length) (hok : (unpack l[i]).2 = true) (hl : (ndAt l i).leaf = true) : Pre l dim (i + 1) := by
  intro j hj hji
  by_cases e : j = i
  · subst e
    rw [ndAt_lt hi] at hl
    exact ⟨hok, fun h => by rw [hl] at h; cases h⟩
  · exact h j hj (by omega)
theorem Pre.inner {l : List Word} {dim : Int} {i : Nat} (h : Pre l dim i) (hi : i < l.length) (hok : (unpack l[i]).2 = true) (ha : (ndAt l i).feature < dim ∧ (ndAt l i).left ≠ (ndAt l i).right ∧ (i : Int) < (ndAt l i).left ∧ (ndAt l i).left < l.length ∧ (i : Int) < (ndAt l i).right ∧ (ndAt l i).right < l.length) : Pre l dim (i + 1) := by
  intro j hj hji
  by_cases e : j = i
  · subst e
    rw [ndAt_lt hi] at ha
    exact ⟨hok, fun _ => ha⟩
  · exact h j hj (by omega)
theorem cnts_innerT {l : List Word} {i : Nat} (h : i < l.length) (hl : (ndAt l i).leaf = false) (ha : (ndAt l i).left ≠ (ndAt l i).right ∧ (i : Int) < (ndAt l i).left ∧ (ndAt l i).left < l.length ∧ (i : Int) < (ndAt l i).right ∧ (ndAt l i).right < l.length) :
    cnts l (i + 1) = ((cnts l i).set (ndAt l i).left.toNat (cnt l i (ndAt l i).left.toNat + 1)).set (ndAt l i).right.toNat (cnt l i (ndAt l i).right.toNat + 1) := by
  apply List.ext_getElem
  · simp [cnts]
  · intro j h1 h2
    rw [cnts_get, cnt_succ h, List.getElem_set, List.getElem_set]
    simp only [cnts_get, names, hl, Bool.not_false, Bool.true_and, Bool.or_eq_true, decide_eq_true_eq]
    by_cases e1 : (ndAt l i).right.toNat = j
    · rw [if_pos e1, if_pos (by omega), e1]
    · rw [if_neg e1]
      by_cases e2 : (ndAt l i).left.toNat = j
      · rw [if_pos e2, if_pos (by omega), e2]
      · rw [if_neg e2, if_neg (by omega)]
        omega
theorem unpackT {l : List Word} (h : okL l) {i : Nat} (hi : i < l.length) : Unpack ⟨l[i].v⟩ = some (ndAt l i, (unpack l[i]).2) := by
  have h1 := h l[i] (List.getElem_mem hi)
  unfold Unpack
  have h1' : 0 ≤ (⟨l[i].v⟩ : Word).v ∧ (⟨l[i].v⟩ : Word).v < 18446744073709551616 := h1
  rw [if_pos h1']
  have e : (⟨l[i].v⟩ : Word) = l[i] := rfl
  rw [e, ndAt_lt hi]
  rfl
theorem rt_of {l : List Word} {dim : Int} (hw : okL l) (h1 : 1 ≤ l.length) (h2 : l.length ≤ 31) (hp : Pre l dim l.length) (ho : ∀ j : Nat, 1 ≤ j → j < l.length → cnt l l.length j = 1) : RT l dim where
  ok := fun i h => ⟨hw _ (List.getElem_mem h), (hp i h h).1⟩
  pos := h1
  le := h2
  inner := fun i h hl => (hp i h h).2 hl
  once := fun j hj hj2 => by
    have := ho j hj hj2
    unfold cnt at this
    rw [List.take_length] at this
    omega
theorem runs_tRightT (l : List Word) (dim : Int) (c : Bool) (h : TreeRightT l dim = some c) : Runs (tbl [(85, sp1 Unpack)]) a74 [Arg.enc l, Arg.enc dim] (Arg.enc c) := by
  obtain ⟨⟨hw, hmx⟩, rfl⟩ := part_some h
  clear h
  cases hc : rightT l dim
  case true => exact runs_tRight l dim true (part_of (rightT_true.1 hc) _)
  have hn := rightT_false.1 hc
  refine ⟨rfl, fun g => run_def ?_⟩
  unfold a74
  by_cases b1 : (l.length : Int) < 1
  case pos => simp -implicitDefEqProofs [b1, hmx]
  by_cases b2 : (l.length : Int) > 31
  case pos =>
    have b2' : (31 : Int) < l.length := b2
    simp -implicitDefEqProofs [b1, b2', hmx]
  have b3 : l.length ≤ maxN := by unfold maxN; omega
  have b4 : (l.length : Int) ≤ 1099511627776 := by omega
  simp -implicitDefEqProofs [b1, b2, b3, b4, rep_ints]
  rw [rep_cells]
  refine run_while (c := c74_37) (fun m s => ∃ (i : Nat) (g : Nat → Nat), i + m = l.length ∧ Pre l dim i ∧ s = ⟨[(0, .lst l.length (encL l)), (1, .int .i64 dim), (5, .own 5 (g 5) 0 l.length), (23, .lst l.length (encL l)), (24, .int .i64 l.length), (25, .int .i64 i)], [(5, ⟨encL (cnts l i), false, 1⟩)], g⟩) l.length ⟨0, bump 5 g, by omega, Pre.zero, by simp [cnts_zero]⟩ ?_
  rintro m s ⟨i, g, hi, hpre, rfl⟩
  by_cases h1 : i < l.length
  case pos =>
    have hU := unpackT hw h1
    have w1 : IntKind.i64.wrap ((i : Int) + 1) = (i : Int) + 1 := wrap64 (by omega) (by omega)
    cases hok : (unpack l[i]).2
    case false =>
      rw [hok] at hU
      simp -implicitDefEqProofs [h1, rd_words, hU, w1]
    rw [hok] at hU
    cases hl : (ndAt l i).leaf
    case true =>
      simp -implicitDefEqProofs [h1, rd_words, hU, hl, w1]
      exact ⟨m - 1, by omega, i + 1, by omega, hpre.leaf h1 hok hl, by omega, by rw [cnts_leaf h1 hl]⟩
    case false =>
      by_cases e1 : dim ≤ (ndAt l i).feature
      case pos => simp -implicitDefEqProofs [h1, rd_words, hU, hl, w1, e1]
      by_cases e2 : (ndAt l i).left = (ndAt l i).right
      case pos => simp -implicitDefEqProofs [h1, rd_words, hU, hl, w1, e1, e2]
      by_cases e3 : (if (ndAt l i).right < (ndAt l i).left then (ndAt l i).right else (ndAt l i).left) ≤ (i : Int)
      case pos => simp -implicitDefEqProofs [h1, rd_words, hU, hl, w1, e1, e2, e3]
      by_cases e4 : (l.length : Int) ≤ (if (ndAt l i).left < (ndAt l i).right then (ndAt l i).right else (ndAt l i).left)
      case pos => simp -implicitDefEqProofs [h1, rd_words, hU, hl, w1, b3, e1, e2, e3, e4]
      have f0 : (i : Int) < (ndAt l i).left ∧ (i : Int) < (ndAt l i).right := by split at e3 <;> omega
      have f0' : (ndAt l i).left < l.length ∧ (ndAt l i).right < l.length := by split at e4 <;> omega
      have e5 : ¬ (ndAt l i).left.toNat = (ndAt l i).right.toNat := by omega
      have f1 : 0 ≤ (ndAt l i).left := by omega
      have f2 : (ndAt l i).left < l.length := by omega
      have f3 : 0 ≤ (ndAt l i).right := by omega
      have f4 : (ndAt l i).right < l.length := by omega
      have f5 : (ndAt l i).left.toNat < l.length := by omega
      have f6 : (ndAt l i).right.toNat < l.length := by omega
      have n1 := cnt_le l i (ndAt l i).left.toNat
      have n2 := cnt_le l i (ndAt l i).right.toNat
      have w2 : IntKind.i64.wrap (cnt l i (ndAt l i).left.toNat + 1) = cnt l i (ndAt l i).left.toNat + 1 := wrap64 (by omega) (by omega)
      have w3 : IntKind.i64.wrap (cnt l i (ndAt l i).right.toNat + 1) = cnt l i (ndAt l i).right.toNat + 1 := wrap64 (by omega) (by omega)
      simp -implicitDefEqProofs [h1, rd_words, hU, hl, w1, b3, e1, e2, e3, e4, e5, f1, f2, f3, f4, f5, f6, cnts_len, cnts_get, rd_ints, wr_ints, encL_length, w2, w3]
      exact ⟨fun _ => ⟨fun _ => ⟨m - 1, by omega, i + 1, by omega, hpre.inner h1 hok ⟨by omega, e2, f0.1, f0'.1, f0.2, f0'.2⟩, by omega, by rw [cnts_innerT h1 hl ⟨e2, f0.1, f0'.1, f0.2, f0'.2⟩]⟩, by omega⟩, by omega⟩
  case neg =>
    have hil : i = l.length := by omega
    subst hil
    have p1 : (1 : Int) ≤ l.length := by omega
    have p2 : l.length - 1 ≤ maxN := by omega
    simp -implicitDefEqProofs [p1, p2]
    refine run_while (c := c74_56) (fun m s => ∃ (i : Nat), i + m = l.length - 1 ∧ (∀ j : Nat, 1 ≤ j → j ≤ i → cnt l l.length j = 1) ∧ s = ⟨[(85, .own 5 (g 5) 1 (l.length - 1)), (86, .int .i64 (l.length - 1 : Nat)), (87, .int .i64 i)], [(5, ⟨encL (cnts l l.length), false, 1⟩)], g⟩) (l.length - 1) ⟨0, by omega, fun j _ _ => by omega, by simp⟩ ?_
    rintro m s ⟨i, hi, hon, rfl⟩
    by_cases h1 : (i : Int) < (l.length - 1 : Nat)
    case pos =>
      have w1 : IntKind.i64.wrap ((i : Int) + 1) = (i : Int) + 1 := wrap64 (by omega) (by omega)
      have q1 : 1 + i < l.length := by omega
      by_cases hc : cnt l l.length (1 + i) = 1
      case pos =>
        simp -implicitDefEqProofs [h1, rd_ints, cnts_len, cnts_get, w1, q1, hc]
        refine ⟨m - 1, by omega, i + 1, by omega, fun j hj1 hj2 => ?_, by omega⟩
        by_cases e : j = 1 + i
        · rw [e]; exact hc
        · exact hon j hj1 (by omega)
      case neg => simp -implicitDefEqProofs [h1, rd_ints, cnts_len, cnts_get, w1, q1, hc]
    case neg =>
      exact absurd (rt_of hw (by omega) (by omega) hpre (fun j hj1 hj2 => hon j hj1 (by omega))) hn
theorem c_tRightT : Contract Tryz.prog 74 (sp2 TreeRightT) :=
  contract_of_runs mixed (tbl_cons c_Unpack tbl_nil) Tryz.func74 m74 (sp2_runs runs_tRightT)
noncomputable def badT (m : Model) (t : Tree) : Bool := decide (t.cls < 0) || decide (m.classes ≤ t.cls) || !rightT t.nodes m.dim
def okTW (t : Tree) : Prop := okL t.nodes ∧ t.nodes.length ≤ maxN
theorem badT_false {m : Model} {t : Tree} : badT m t = false ↔ 0 ≤ t.cls ∧ t.cls < m.classes ∧ RT t.nodes m.dim := by
  unfold badT
  rw [← rightT_true]
  simp only [Bool.or_eq_false_iff, decide_eq_false_iff_not, Bool.not_eq_false']
  constructor
  · rintro ⟨⟨h1, h2⟩, h3⟩; exact ⟨by omega, by omega, h3⟩
  · rintro ⟨h1, h2, h3⟩; exact ⟨⟨by omega, by omega⟩, h3⟩
noncomputable def Right1T (t : Tree) (m : Ref Model) : Option Bool := Part (okTW t) (badT m.v t)
theorem runs_Right1T (t : Tree) (m : Ref Model) (c : Bool) (h : Right1T t m = some c) : Runs (tbl [(74, sp2 TreeRightT)]) a73 [Arg.enc t, Arg.enc m] (Arg.enc c) := by
  obtain ⟨hw, rfl⟩ := part_some h
  obtain ⟨m⟩ := m
  refine ⟨rfl, fun g => run_def ?_⟩
  unfold a73
  have hT : TreeRightT t.nodes m.dim = some (rightT t.nodes m.dim) := part_of hw _
  unfold badT
  by_cases e0 : t.cls < 0
  · simp -implicitDefEqProofs [e0, hT]
  by_cases e1 : m.classes ≤ t.cls
  · simp -implicitDefEqProofs [e0, e1, hT]
  · simp -implicitDefEqProofs [e0, e1, hT]
theorem c_Right1T : Contract Tryz.prog 73 (sp2 Right1T) :=
  contract_of_runs mixed (tbl_cons c_tRightT tbl_nil) Tryz.func73 m73 (sp2_runs runs_Right1T)
def idxF {α : Type} (p : α → Bool) (l : List α) : Int := if l.findIdx p < l.length then (l.findIdx p : Int) else -1
noncomputable def IndexTreesT (l : List Tree) (r : CloR) : Option Int := Part (l.length ≤ 8 ∧ ∀ t ∈ l, okTW t) (idxF (badT r.m) l)
theorem runs_IndexTreesT (l : List Tree) (r : CloR) (c : Int) (h : IndexTreesT l r = some c) : Runs (tbl [(73, sp2 Right1T)]) a90 [Arg.enc l, Arg.enc r] (Arg.enc c) := by
  obtain ⟨⟨hle, hr⟩, rfl⟩ := part_some h
  obtain ⟨m⟩ := r
  refine ⟨rfl, fun g => run_def ?_⟩
  unfold a90
  have b3 : l.length ≤ maxN := by unfold maxN; omega
  simp -implicitDefEqProofs [b3]
  refine run_while (c := c90_15) (fun n s => ∃ (i : Nat), i + n = l.length ∧ (∀ (j : Nat) (hj : j < l.length), j < i → badT m l[j] = false) ∧ s = ⟨[(0, .lst l.length (encL l)), (1, Arg.enc (⟨m⟩ : CloR)), (7, .int .i64 l.length), (8, .int .i64 i)], [], g⟩) l.length ⟨0, by omega, fun j _ h => by omega, by simp⟩ ?_
  rintro n s ⟨i, hi, hno, rfl⟩
  by_cases h1 : i < l.length
  case pos =>
    have w1 : IntKind.i64.wrap ((i : Int) + 1) = (i : Int) + 1 := wrap64 (by omega) (by omega)
    have hrow := rd_tree l i h1
    have hR : Right1T ⟨l[i].cls, l[i].nodes⟩ ⟨m⟩ = some (badT m l[i]) := part_of (hr _ (List.getElem_mem h1)) _
    cases hb : badT m l[i]
    case false =>
      rw [hb] at hR
      simp -implicitDefEqProofs [h1, hrow, hR, w1]
      refine ⟨n - 1, by omega, i + 1, by omega, fun j hj hji => ?_, by omega⟩
      by_cases e : j = i
      · subst e; exact hb
      · exact hno j hj (by omega)
    case true =>
      rw [hb] at hR
      have hidx : idxF (badT m) l = i := by
        have : l.findIdx (badT m) = i := (List.findIdx_eq h1).2 ⟨hb, fun j hj => hno j (by omega) hj⟩
        unfold idxF
        rw [this, if_pos h1]
      simp -implicitDefEqProofs [h1, hrow, hR, w1, hidx]
  case neg =>
    have hidx : idxF (badT m) l = -1 := by
      have : l.findIdx (badT m) = l.length := List.findIdx_eq_length.2 fun x hx => by
        obtain ⟨j, hj, rfl⟩ := List.mem_iff_getElem.1 hx
        exact hno j hj (by omega)
      unfold idxF
      rw [this, if_neg (by omega)]
    simp -implicitDefEqProofs [h1, hidx]
theorem c_IndexTreesT : Contract Tryz.prog 90 (sp2 IndexTreesT) :=
  contract_of_runs mixed (tbl_cons c_Right1T tbl_nil) Tryz.func90 m90 (sp2_runs runs_IndexTreesT)
noncomputable def ContainsTreesT (l : List Tree) (r : CloR) : Option Bool := Part (l.length ≤ 8 ∧ ∀ t ∈ l, okTW t) (l.any (badT r.m))
theorem idxF_any {α : Type} (p : α → Bool) (l : List α) : decide (0 ≤ idxF p l) = l.any p := by
  unfold idxF
  split
  · rename_i h
    have : l.any p = true := List.any_eq_true.2 ⟨l[l.findIdx p], List.getElem_mem h, List.findIdx_getElem⟩
    rw [this]
    simp
  · rename_i h
    have h2 : l.findIdx p = l.length := by have := List.findIdx_le_length (p := p) (xs := l); omega
    have : l.any p = false := by
      rw [List.any_eq_false]
      intro x hx
      simp [List.findIdx_eq_length.1 h2 x hx]
    rw [this]
    decide
theorem runs_ContainsTreesT (l : List Tree) (r : CloR) (c : Bool) (h : ContainsTreesT l r = some c) : Runs (tbl [(90, sp2 IndexTreesT)]) a72 [Arg.enc l, Arg.enc r] (Arg.enc c) := by
  obtain ⟨hr, rfl⟩ := part_some h
  obtain ⟨m⟩ := r
  refine ⟨rfl, fun g => run_def ?_⟩
  unfold a72
  have hI : IndexTreesT l ⟨m⟩ = some (idxF (badT m) l) := part_of hr _
  have := idxF_any (badT m) l
  simp -implicitDefEqProofs [hI, this]
theorem c_ContainsTreesT : Contract Tryz.prog 72 (sp2 ContainsTreesT) :=
  contract_of_runs mixed (tbl_cons c_IndexTreesT tbl_nil) Tryz.func72 m72 (sp2_runs runs_ContainsTreesT)
open Classical in
noncomputable def rightM (m : Model) : Bool := decide (RM m)
theorem rightM_true {m : Model} : rightM m = true ↔ RM m := by unfold rightM; simp
theorem rightM_false {m : Model} : rightM m = false ↔ ¬ RM m := by unfold rightM; simp
def okMW (m : Model) : Prop := m.trees.length ≤ maxN ∧ ∀ t ∈ m.trees, okTW t
noncomputable def MRightT (m : Model) : Option Bool := Part (okMW m) (rightM m)
theorem rm_of {m : Model} (d : 1 ≤ m.dim ∧ m.dim ≤ 4) (k : 1 ≤ m.classes ∧ m.classes ≤ 3) (b : fits m.bias.b0 = true ∧ fits m.bias.b1 = true ∧ fits m.bias.b2 = true) (n1 : m.classes ≤ 1 → m.bias.b1 = 0) (n2 : m.classes ≤ 2 → m.bias.b2 = 0) (hl : m.trees.length ≤ 8) (ht : m.trees.any (badT m) = false) : RM m where
  dim := d
  classes := k
  bias := b
  none1 := n1
  none2 := n2
  trees := hl
  tree := fun t h => by
    rw [List.any_eq_false] at ht
    exact badT_false.1 (by simpa using ht t h)
theorem runs_mRightT (m : Model) (c : Bool) (h : MRightT m = some c) : Runs (tbl [(71, sp2 Fits), (72, sp2 ContainsTreesT)]) a43 [Arg.enc m] (Arg.enc c) := by
  obtain ⟨⟨b3, hw⟩, rfl⟩ := part_some h
  clear h
  refine ⟨rfl, fun g => run_def ?_⟩
  unfold a43
  by_cases e0 : m.dim < 1
  · have hF : rightM m = false := rightM_false.2 fun h => by have := h.dim; omega
    simp -implicitDefEqProofs [hF, e0]
  by_cases e1 : 4 < m.dim
  · have hF : rightM m = false := rightM_false.2 fun h => by have := h.dim; omega
    simp -implicitDefEqProofs [hF, e0, e1]
  by_cases e2 : m.classes < 1
  · have hF : rightM m = false := rightM_false.2 fun h => by have := h.classes; omega
    simp -implicitDefEqProofs [hF, e0, e1, e2]
  by_cases e3 : 3 < m.classes
  · have hF : rightM m = false := rightM_false.2 fun h => by have := h.classes; omega
    simp -implicitDefEqProofs [hF, e0, e1, e2, e3]
  by_cases e4 : (8 : Int) < m.trees.length
  · have hF : rightM m = false := rightM_false.2 fun h => by have := h.trees; omega
    simp -implicitDefEqProofs [hF, e0, e1, e2, e3, e4, b3]
  have e5 : ¬ m.classes ≤ 0 := by omega
  cases f0 : fits m.bias.b0
  · have hF : rightM m = false := rightM_false.2 fun h => by have := h.bias.1; rw [f0] at this; cases this
    simp -implicitDefEqProofs [hF, run_round, b3, e0, e1, e2, e3, e4, e5, Fits, f0]
  cases f1 : fits m.bias.b1
  · have hF : rightM m = false := rightM_false.2 fun h => by have := h.bias.2.1; rw [f1] at this; cases this
    simp -implicitDefEqProofs [hF, run_round, b3, e0, e1, e2, e3, e4, e5, Fits, f0, f1]
  have hC : ContainsTreesT m.trees ⟨m⟩ = some (m.trees.any (badT m)) := part_of ⟨by omega, hw⟩ _
  have last : (n1 : m.classes ≤ 1 → m.bias.b1 = 0) → (n2 : m.classes ≤ 2 → m.bias.b2 = 0) → fits m.bias.b2 = true → rightM m = !m.trees.any (badT m) := by
    intro n1 n2 f2
    cases ha : m.trees.any (badT m)
    · exact rightM_true.2 (rm_of ⟨by omega, by omega⟩ ⟨by omega, by omega⟩ ⟨f0, f1, f2⟩ n1 n2 (by omega) ha)
    · refine rightM_false.2 fun h => ?_
      rw [List.any_eq_true] at ha
      obtain ⟨t, ht, hb⟩ := ha
      rw [badT_false.2 (h.tree t ht)] at hb
      cases hb
  have fz : fits 0 = true := rfl
  by_cases k1 : m.classes ≤ 1
  · have k2 : m.classes ≤ 2 := by omega
    by_cases z1 : m.bias.b1 = 0
    · have d1 : decide (m.bias.b1 = 0) = true := by simp [z1]
      cases f2 : fits m.bias.b2
      · have hF : rightM m = false := rightM_false.2 fun h => by have := h.bias.2.2; rw [f2] at this; cases this
        simp -implicitDefEqProofs [hF, run_round, b3, e0, e1, e2, e3, e4, e5, Fits, fz, f0, f1, f2, k1, k2, d1]
      by_cases z2 : m.bias.b2 = 0
      · have d2 : decide (m.bias.b2 = 0) = true := by simp [z2]
        have hF := last (fun _ => z1) (fun _ => z2) f2
        simp -implicitDefEqProofs [hF, run_round, b3, e0, e1, e2, e3, e4, e5, Fits, fz, f0, f1, f2, k1, k2, d1, d2, hC]
      · have d2 : decide (m.bias.b2 = 0) = false := by simp [z2]
        have hF : rightM m = false := rightM_false.2 fun h => z2 (h.none2 k2)
        simp -implicitDefEqProofs [hF, run_round, b3, e0, e1, e2, e3, e4, e5, Fits, fz, f0, f1, f2, k1, k2, d1, d2]
    · have d1 : decide (m.bias.b1 = 0) = false := by simp [z1]
      have hF : rightM m = false := rightM_false.2 fun h => z1 (h.none1 k1)
      simp -implicitDefEqProofs [hF, run_round, b3, e0, e1, e2, e3, e4, e5, Fits, fz, f0, f1, k1, k2, d1]
  · cases f2 : fits m.bias.b2
    · have hF : rightM m = false := rightM_false.2 fun h => by have := h.bias.2.2; rw [f2] at this; cases this
      simp -implicitDefEqProofs [hF, run_round, b3, e0, e1, e2, e3, e4, e5, Fits, fz, f0, f1, f2, k1]
    by_cases k2 : m.classes ≤ 2
    · by_cases z2 : m.bias.b2 = 0
      · have d2 : decide (m.bias.b2 = 0) = true := by simp [z2]
        have hF := last (fun h => absurd h k1) (fun _ => z2) f2
        simp -implicitDefEqProofs [hF, run_round, b3, e0, e1, e2, e3, e4, e5, Fits, fz, f0, f1, f2, k1, k2, d2, hC]
      · have d2 : decide (m.bias.b2 = 0) = false := by simp [z2]
        have hF : rightM m = false := rightM_false.2 fun h => z2 (h.none2 k2)
        simp -implicitDefEqProofs [hF, run_round, b3, e0, e1, e2, e3, e4, e5, Fits, fz, f0, f1, f2, k1, k2, d2]
    · have hF := last (fun h => absurd h k1) (fun h => absurd h k2) f2
      simp -implicitDefEqProofs [hF, run_round, b3, e0, e1, e2, e3, e4, e5, Fits, fz, f0, f1, f2, k1, k2, hC]
theorem c_mRightT : Contract Tryz.prog 43 (sp1 MRightT) :=
  contract_of_runs mixed (tbl_cons c_Fits (tbl_cons c_ContainsTreesT tbl_nil)) Tryz.func43 m43 (sp1_runs runs_mRightT)
theorem RT.okTW {l : List Word} {dim : Int} (h : RT l dim) : okL l ∧ l.length ≤ maxN := by
  refine ⟨fun w hw => ?_, by have := h.le; unfold maxN; omega⟩
  obtain ⟨i, hi, rfl⟩ := List.mem_iff_getElem.1 hw
  exact (h.ok i hi).1
theorem RM.okMW {m : Model} (h : RM m) : okMW m := ⟨by have := h.trees; unfold maxN; omega, fun t ht => (h.tree t ht).2.2.okTW⟩
def c45_0 : ACode := .ops [⟨some 1, .box (.t 0) 6, none, []⟩,⟨some 2, .mv (.c (.int .i64 0)), none, []⟩] [1]
def c45_1 : ACode := .ops [⟨some 3, .mv (.c (.int .i64 0)), none, []⟩] [1, 3]
def c45_2 : ACode := .ops [⟨some 6, .fad (.t 1) 5, none, [1]⟩,⟨some 7, .load 1 false (.t 6), none, [1]⟩,⟨some 8, .len (.t 7), none, []⟩,⟨some 9, .mv (.c (.int .i64 0)), none, []⟩] [3, 7, 8, 9]
def c45_3 : ACode := .ops [⟨some 10, .bin .lss (.t 9) (.t 8), none, []⟩] [3, 7, 8, 9, 10]
def c45_4 : ACode := .cond (.t 10) .skip (.exit 0)
def c45_5 : ACode := .ops [⟨some 11, .ias (.t 7) (.t 9) 2, none, []⟩,⟨some 12, .load 2 true (.t 11), none, []⟩,⟨some 5, .alloc [.int .i64 0, .nils], none, []⟩,⟨none, .store (.t 5) 2 (.t 12), none, [5]⟩] [3, 5, 7, 8, 9]
def c45_6 : ACode := .ops [⟨some 13, .mv (.t 3), none, []⟩,⟨some 14, .fad (.t 5) 1, none, [5]⟩,⟨some 15, .load 1 false (.t 14), none, [5]⟩,⟨some 16, .len (.t 15), none, []⟩,⟨some 17, .bin .add (.t 13) (.t 16), none, []⟩,⟨some 3, .mv (.t 17), none, []⟩] [3, 7, 8, 9]
def c45_7 : ACode := .seq c45_5 c45_6
def c45_8 : ACode := .block 1 c45_7
def c45_9 : ACode := .ops [⟨some 18, .bin .add (.t 9) (.c (.int .i64 1)), none, []⟩,⟨some 9, .mv (.t 18), none, []⟩] [3, 7, 8, 9]
def c45_10 : ACode := .seq c45_8 c45_9
def c45_11 : ACode := .seq c45_4 c45_10
def c45_12 : ACode := .seq c45_3 c45_11
def c45_13 : ACode := .keep [3, 7, 8, 9] [] c45_12
def c45_14 : ACode := .loop c45_13
def c45_15 : ACode := .block 0 c45_14
def c45_16 : ACode := .seq c45_2 c45_15
def c45_17 : ACode := .ops [⟨some 19, .mv (.t 3), none, []⟩,⟨some 2, .mv (.t 19), none, []⟩] [2]
def c45_18 : ACode := .seq c45_17 .ret
def c45_19 : ACode := .seq c45_16 c45_18
def c45_20 : ACode := .seq c45_1 c45_19
def c45_21 : ACode := .seq c45_0 c45_20
def a45 : AFun := ⟨1, 20, c45_21, [.t 2]⟩
theorem m45 : mFun Tryz.prog Tryz.f45 a45 = true := by decide +kernel
def lenF (n : Int) (t : Tree) : Int := n + (t.nodes.length : Int)
def sizeM (m : Model) : Int := m.trees.foldl lenF 0
noncomputable def SizeC (m : Model) : Option Int := Part (m.trees.length ≤ 100 ∧ ∀ t ∈ m.trees, t.nodes.length ≤ 1099511627776) (sizeM m)
theorem RM.size {m : Model} (h : RM m) : SizeC m = some (sizeM m) := part_of ⟨by have := h.trees; omega, fun t ht => by have := (h.tree t ht).2.2.le; omega⟩ _
end Go.Co
