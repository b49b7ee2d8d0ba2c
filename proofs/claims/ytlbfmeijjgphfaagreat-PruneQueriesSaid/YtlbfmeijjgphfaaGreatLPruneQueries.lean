/- The law PruneQueries: what its text computes. -/
import Derived.Test.YtlbfmeijjgphfaaGreatCz15
import Derived.Test.YtlbfmeijjgphfaaGreatCz16
import Derived.Test.YtlbfmeijjgphfaaGreatCz10
set_option maxHeartbeats 16000000
set_option maxRecDepth 100000
namespace Go.Co
open Go.Am Go.Proofs
set_option linter.unusedSimpArgs false
set_option linter.unusedVariables false
attribute [-simp] Go.Am.eff_gcall Go.Am.eff_gcal2
def c4_0 : ACode := .ops [⟨some 3, .box (.t 0) 4, none, []⟩,⟨some 4, .box (.t 1) 8, none, []⟩,⟨some 6, .mv (.c (.bool false)), none, []⟩] [2, 3, 4]
theorem r4_0 : type_of% (rr c4_0.eq_1) := rr rfl
def c4_1 : ACode := .ops [⟨some 11, .load 4 true (.t 3), none, [3]⟩,⟨some 12, .call 5 [.t 11], none, []⟩,⟨some 7, .alloc [.int .i64 0, .int .i64 0, .int .i64 0, .int .i64 0, .int .i64 0, .nils], none, []⟩,⟨none, .store (.t 7) 6 (.t 12), none, [7]⟩] [2, 4, 7]
theorem r4_1 : type_of% (rr c4_1.eq_1) := rr rfl
def c4_2 : ACode := .ops [⟨some 13, .load 8 true (.t 4), none, [4]⟩,⟨some 14, .load 6 true (.t 7), none, [7]⟩,⟨some 15, .call 6 [.t 13, .t 14], none, []⟩,⟨some 8, .alloc [.int .i64 0, .int .i64 0, .int .i64 0, .int .i64 0, .int .i64 0, .int .i64 0, .int .i64 0, .int .i64 0, .int .i64 0, .int .i64 0, .int .i64 0, .int .i64 0, .int .i64 0, .int .i64 0, .int .i64 0, .bool false, .int .i64 0], none, []⟩,⟨none, .store (.t 8) 17 (.t 15), none, [8]⟩] [2, 7, 8]
theorem r4_2 : type_of% (rr c4_2.eq_1) := rr rfl
def c4_3 : ACode := .ops [⟨some 16, .mv (.t 2), none, []⟩,⟨some 17, .call 16 [.t 16, .c (.int .i64 0), .c (.int .i64 3000)], none, []⟩,⟨some 18, .fad (.t 8) 16, none, [8]⟩,⟨none, .store (.t 18) 1 (.t 17), none, [8]⟩] [7, 8]
theorem r4_3 : type_of% (rr c4_3.eq_1) := rr rfl
def c4_4 : ACode := .ops [⟨some 19, .load 6 true (.t 7), none, [7]⟩,⟨some 20, .load 17 true (.t 8), none, [8]⟩,⟨some 21, .call 17 [.t 19, .t 20], none, []⟩,⟨some 22, .load 6 true (.t 7), none, [7]⟩,⟨some 23, .fad (.t 8) 2, none, [8]⟩,⟨some 24, .load 10 true (.t 23), none, [8]⟩,⟨some 25, .call 18 [.t 22, .t 24], none, []⟩,⟨some 26, .load 17 true (.t 8), none, [8]⟩,⟨some 27, .call 17 [.t 25, .t 26], none, []⟩,⟨some 9, .alloc [.int .i64 0, .nils, .int .i64 0, .int .i64 0, .int .i64 0, .int .i64 0, .int .i64 0, .int .i64 0], none, []⟩,⟨some 10, .alloc [.int .i64 0, .nils, .int .i64 0, .int .i64 0, .int .i64 0, .int .i64 0, .int .i64 0, .int .i64 0], none, []⟩,⟨none, .store (.t 9) 8 (.t 21), none, [9]⟩,⟨none, .store (.t 10) 8 (.t 27), none, [10]⟩] [7, 8, 9, 10]
theorem r4_4 : type_of% (rr c4_4.eq_1) := rr rfl
def c4_5 : ACode := .ops [⟨some 28, .fad (.t 9) 0, none, [9]⟩,⟨some 29, .load 1 false (.t 28), none, [9]⟩,⟨some 30, .bin .eql (.t 29) (.c (.int .i64 3)), none, []⟩,⟨some 31, .mv (.t 30), none, []⟩,⟨some 32, .fad (.t 10) 0, some (31, false), [10]⟩,⟨some 33, .load 1 false (.t 32), some (31, false), [10]⟩,⟨some 34, .bin .eql (.t 33) (.c (.int .i64 3)), some (31, false), []⟩,⟨some 35, .pick (.t 31) (.c (.bool true)) (.t 34), none, []⟩] [7, 8, 9, 10, 35]
theorem r4_5 : type_of% (rr c4_5.eq_1) := rr rfl
def c4_6 : ACode := .ops [⟨some 36, .call 19 [], none, []⟩,⟨some 6, .mv (.t 36), none, []⟩] [6]
theorem r4_6 : type_of% (rr c4_6.eq_1) := rr rfl
def c4_7 : ACode := .seq c4_6 .ret
theorem r4_7 : type_of% (rr c4_7.eq_1) := rr rfl
def c4_8 : ACode := .cond (.t 35) c4_7 .skip
theorem r4_8 : type_of% (rr c4_8.eq_1) := rr rfl
def c4_9 : ACode := .seq c4_5 c4_8
theorem r4_9 : type_of% (rr c4_9.eq_1) := rr rfl
def c4_10 : ACode := .ops [⟨some 37, .fad (.t 9) 0, none, [9]⟩,⟨some 38, .load 1 false (.t 37), none, [9]⟩,⟨some 39, .fad (.t 10) 0, none, [10]⟩,⟨some 40, .load 1 false (.t 39), none, [10]⟩,⟨some 41, .bin .eql (.t 38) (.t 40), none, []⟩,⟨some 42, .mv (.t 41), none, []⟩,⟨some 43, .load 6 true (.t 7), some (42, true), [7]⟩,⟨some 44, .load 17 true (.t 8), some (42, true), [8]⟩,⟨some 45, .load 8 true (.t 10), some (42, true), [10]⟩,⟨some 46, .call 20 [.t 43, .t 44, .t 45], some (42, true), []⟩,⟨some 47, .pick (.t 42) (.t 46) (.c (.bool false)), none, []⟩,⟨some 48, .mv (.t 47), none, []⟩,⟨some 49, .call 19 [], some (48, true), []⟩,⟨some 50, .pick (.t 48) (.t 49) (.c (.bool false)), none, []⟩,⟨some 6, .mv (.t 50), none, []⟩] [6]
theorem r4_10 : type_of% (rr c4_10.eq_1) := rr rfl
def c4_11 : ACode := .seq c4_10 .ret
theorem r4_11 : type_of% (rr c4_11.eq_1) := rr rfl
def c4_12 : ACode := .seq c4_9 c4_11
theorem r4_12 : type_of% (rr c4_12.eq_1) := rr rfl
def c4_13 : ACode := .seq c4_4 c4_12
theorem r4_13 : type_of% (rr c4_13.eq_1) := rr rfl
def c4_14 : ACode := .seq c4_3 c4_13
theorem r4_14 : type_of% (rr c4_14.eq_1) := rr rfl
def c4_15 : ACode := .seq c4_2 c4_14
theorem r4_15 : type_of% (rr c4_15.eq_1) := rr rfl
def c4_16 : ACode := .seq c4_1 c4_15
theorem r4_16 : type_of% (rr c4_16.eq_1) := rr rfl
def c4_17 : ACode := .seq c4_0 c4_16
theorem r4_17 : type_of% (rr c4_17.eq_1) := rr rfl
def a4 : AFun := ⟨3, 51, c4_17, [.t 6]⟩
attribute [simp] r4_0 r4_1 r4_2 r4_3 r4_4 r4_5 r4_6 r4_7 r4_8 r4_9 r4_10 r4_11 r4_12 r4_13 r4_14 r4_15 r4_16 r4_17
theorem m4 : mFun Tryz.prog Tryz.f4 a4 = true := by decide +kernel
def c19_0 : ACode := .ops [⟨some 0, .mv (.c (.bool false)), none, []⟩] []
def c19_1 : ACode := .ops [⟨some 4, .call 35 [], none, []⟩,⟨some 1, .alloc [.int .i64 0, .int .i64 0, .int .i64 0, .int .i64 0, .int .i64 0, .nils], none, []⟩,⟨none, .store (.t 1) 6 (.t 4), none, [1]⟩] [1]
def c19_2 : ACode := .ops [⟨some 5, .load 6 true (.t 1), none, [1]⟩,⟨some 6, .build [.int .i64 0, .int .i64 0] [(0, 1, .c (.int .i64 6)), (1, 1, .c (.int .i64 9))], none, []⟩,⟨some 7, .build [.int .i64 0, .int .i64 0, .int .i64 0, .int .i64 0, .int .i64 0, .int .i64 0, .int .i64 0, .int .i64 0, .int .i64 0, .int .i64 0] [(0, 2, .t 6)], none, []⟩,⟨some 8, .call 18 [.t 5, .t 7], none, []⟩,⟨some 2, .alloc [.int .i64 0, .int .i64 0, .int .i64 0, .int .i64 0, .int .i64 0, .nils], none, []⟩,⟨none, .store (.t 2) 6 (.t 8), none, [2]⟩] [1, 2]
def c19_3 : ACode := .ops [⟨some 9, .load 6 true (.t 1), none, [1]⟩,⟨some 10, .build [.int .i64 0, .int .i64 0] [(0, 1, .c (.int .i64 0)), (1, 1, .c (.int .i64 9))], none, []⟩,⟨some 11, .build [.int .i64 0, .int .i64 0, .int .i64 0, .int .i64 0, .int .i64 0, .int .i64 0, .int .i64 0, .int .i64 0, .int .i64 0, .int .i64 0] [(0, 2, .t 10)], none, []⟩,⟨some 12, .call 18 [.t 9, .t 11], none, []⟩,⟨some 3, .alloc [.int .i64 0, .int .i64 0, .int .i64 0, .int .i64 0, .int .i64 0, .nils], none, []⟩,⟨none, .store (.t 3) 6 (.t 12), none, [3]⟩] [1, 2, 3]
def c19_4 : ACode := .ops [⟨some 13, .load 6 true (.t 2), none, [2]⟩,⟨some 14, .call 43 [.t 13], none, []⟩,⟨some 15, .mv (.t 14), none, []⟩,⟨some 16, .load 6 true (.t 2), some (15, true), [2]⟩,⟨some 17, .call 45 [.t 16], some (15, true), []⟩,⟨some 18, .bin .eql (.t 17) (.c (.int .i64 1)), some (15, true), []⟩,⟨some 19, .pick (.t 15) (.t 18) (.c (.bool false)), none, []⟩,⟨some 20, .mv (.t 19), none, []⟩,⟨some 21, .load 6 true (.t 2), some (20, true), [2]⟩,⟨some 22, .build [.int .i64 0, .int .i64 0, .int .i64 0, .int .i64 0] [], some (20, true), []⟩,⟨some 23, .call 46 [.t 21, .c (.int .i64 0), .t 22], some (20, true), []⟩,⟨some 24, .bin .eql (.t 23) (.c (.int .i64 23)), some (20, true), []⟩,⟨some 25, .pick (.t 20) (.t 24) (.c (.bool false)), none, []⟩,⟨some 26, .mv (.t 25), none, []⟩,⟨some 27, .load 6 true (.t 3), some (26, true), [3]⟩,⟨some 28, .load 6 true (.t 1), some (26, true), [1]⟩,⟨some 29, .call 47 [.t 27, .t 28], some (26, true), []⟩,⟨some 30, .pick (.t 26) (.t 29) (.c (.bool false)), none, []⟩,⟨some 0, .mv (.t 30), none, []⟩] [0]
def c19_5 : ACode := .seq c19_4 .ret
def c19_6 : ACode := .seq c19_3 c19_5
def c19_7 : ACode := .seq c19_2 c19_6
def c19_8 : ACode := .seq c19_1 c19_7
def c19_9 : ACode := .seq c19_0 c19_8
def a19 : AFun := ⟨0, 31, c19_9, [.t 0]⟩
theorem m19 : mFun Tryz.prog Tryz.f19 a19 = true := by decide +kernel
def c35_0 : ACode := .ops [⟨some 0, .alloc [.int .i64 0, .int .i64 0, .int .i64 0, .int .i64 0, .int .i64 0, .nils], none, []⟩] [0]
def c35_1 : ACode := .ops [⟨some 2, .build [.bool false, .int .i64 0, .int .i64 0, .int .i64 0, .int .i64 0, .int .i64 0] [(3, 1, .c (.int .i64 5)), (4, 1, .c (.int .i64 1)), (5, 1, .c (.int .i64 2))], none, []⟩,⟨some 3, .call 51 [.t 2], none, []⟩,⟨some 4, .build [.bool false, .int .i64 0, .int .i64 0, .int .i64 0, .int .i64 0, .int .i64 0] [(0, 1, .c (.bool true)), (1, 1, .c (.int .i64 10))], none, []⟩,⟨some 5, .call 51 [.t 4], none, []⟩,⟨some 6, .build [.bool false, .int .i64 0, .int .i64 0, .int .i64 0, .int .i64 0, .int .i64 0] [(0, 1, .c (.bool true)), (1, 1, .c (.int .i64 20))], none, []⟩,⟨some 7, .call 51 [.t 6], none, []⟩,⟨some 8, .mkrow 1 3 1 [.int .u64 0] [(0, 1, .t 3), (1, 1, .t 5), (2, 1, .t 7)], none, []⟩,⟨some 1, .mv (.t 8), none, []⟩] [0, 1]
def c35_2 : ACode := .ops [⟨some 9, .build [.int .i64 0, .int .i64 0, .int .i64 0] [(0, 1, .c (.int .i64 3))], none, []⟩,⟨some 10, .mv (.t 1), none, []⟩,⟨some 11, .build [.int .i64 0, .nils] [(1, 1, .t 10)], none, []⟩,⟨some 12, .mkrow 12 1 2 [.int .i64 0, .nils] [(0, 2, .t 11)], none, []⟩,⟨some 13, .build [.int .i64 0, .int .i64 0, .int .i64 0, .int .i64 0, .int .i64 0, .nils] [(0, 1, .c (.int .i64 1)), (1, 1, .c (.int .i64 1)), (2, 3, .t 9), (5, 1, .t 12)], none, []⟩,⟨none, .store (.t 0) 6 (.t 13), none, [0]⟩] [0]
def c35_3 : ACode := .seq c35_2 .ret
def c35_4 : ACode := .seq c35_1 c35_3
def c35_5 : ACode := .seq c35_0 c35_4
def a35 : AFun := ⟨0, 14, c35_5, [.cell 0 6 true]⟩
theorem m35 : mFun Tryz.prog Tryz.f35 a35 = true := by decide +kernel
def texts19 : List (Nat × AFun) := [(18, a18), (19, a19), (26, a26), (35, a35), (43, a43), (44, a44), (45, a45), (46, a46), (47, a47), (51, a51), (54, a54), (60, a60), (69, a69), (71, a71), (72, a72), (73, a73), (74, a74), (75, a75), (76, a76), (77, a77), (80, a80), (85, a85), (89, a89), (90, a90), (91, a91), (92, a92), (96, a96), (97, a97), (98, a98), (101, a101), (102, a102), (103, a103), (104, a104), (105, a105), (107, a107), (108, a108), (109, a109), (121, a121)]
theorem texts19_good : Go.Am.Good Tryz.prog texts19 :=
  good_cons Tryz.func18 m18 <| good_cons Tryz.func19 m19 <| good_cons Tryz.func26 m26 <| good_cons Tryz.func35 m35 <| good_cons Tryz.func43 m43 <| good_cons Tryz.func44 m44 <| good_cons Tryz.func45 m45 <| good_cons Tryz.func46 m46 <| good_cons Tryz.func47 m47 <| good_cons Tryz.func51 m51 <| good_cons Tryz.func54 m54 <| good_cons Tryz.func60 m60 <| good_cons Tryz.func69 m69 <| good_cons Tryz.func71 m71 <| good_cons Tryz.func72 m72 <| good_cons Tryz.func73 m73 <| good_cons Tryz.func74 m74 <| good_cons Tryz.func75 m75 <| good_cons Tryz.func76 m76 <| good_cons Tryz.func77 m77 <| good_cons Tryz.func80 m80 <| good_cons Tryz.func85 m85 <| good_cons Tryz.func89 m89 <| good_cons Tryz.func90 m90 <| good_cons Tryz.func91 m91 <| good_cons Tryz.func92 m92 <| good_cons Tryz.func96 m96 <| good_cons Tryz.func97 m97 <| good_cons Tryz.func98 m98 <| good_cons Tryz.func101 m101 <| good_cons Tryz.func102 m102 <| good_cons Tryz.func103 m103 <| good_cons Tryz.func104 m104 <| good_cons Tryz.func105 m105 <| good_cons Tryz.func107 m107 <| good_cons Tryz.func108 m108 <| good_cons Tryz.func109 m109 <| good_cons Tryz.func121 m121 <| good_nil
theorem c_closed19 : Contract Tryz.prog 19 (sp0 (some true)) := contract_closedG mixed texts19_good lib0 (NW := fun f => if f = 66 then some 5 else if f = 75 then some 10001 else none) (m := 2000) (n := 80) (by decide +kernel)
theorem region_ok {m : Model} {q : Query} (h : okQuery m q = true) : okB q.region ∧ q.region.empty = false := by
  have hs := (okQuery_spec h).2.2.2.2.1
  unfold okRegion okSpan at hs
  simp only [Bool.and_eq_true, Bool.not_eq_true'] at hs
  obtain ⟨⟨⟨⟨a0, a1⟩, a2⟩, a3⟩, a4⟩ := hs
  refine ⟨⟨⟨ok64_fits a0.1.2, ok64_fits a0.2⟩, ⟨ok64_fits a1.1.2, ok64_fits a1.2⟩, ⟨ok64_fits a2.1.2, ok64_fits a2.2⟩, ⟨ok64_fits a3.1.2, ok64_fits a3.2⟩, ⟨ok64_fits a4.1.2, ok64_fits a4.2⟩⟩, ?_⟩
  unfold Box.empty
  rw [a0.1.1.2, a1.1.1.2, a2.1.1.2, a3.1.1.2, a4.1.1.2]
  rfl
noncomputable abbrev pqT : Cs := tbl [(5, sp1 ModelC), (6, sp2 QueryC), (16, sp3 Within), (17, sp2 RunC), (18, sp2 PrModelC), (20, sp3 ProvesC), (19, sp0 (some true))]
theorem runs_law (f : Forest) (a : Ask) (bu : Int) (c : Bool) (h : some true = some c) : Runs pqT a4 [Arg.enc f, Arg.enc a, Arg.enc bu] (Arg.enc c) := by
  cases h
  refine ⟨rfl, fun g => run_def ?_⟩
  have hm := rm_modelOf f
  have hM : ModelC f = some (modelOf f) := rfl
  generalize modelOf f = m at *
  have hQ : QueryC a m = some (queryOf m a) := part_of ⟨hm.dim.1, hm.dim.2, hm.classes.1, hm.classes.2⟩ _
  have hW := within_of bu 0 3000 (by omega)
  have hw := within_le bu 0 3000 (by omega)
  generalize within bu 0 3000 = u at *
  have hok0 : okQuery m (queryOf m a) = true := ok_queryOf m a hm
  have hwd0 := wide_start m a
  have hok := okQuery_budget hok0 hw.1 (show u ≤ 65536 by omega)
  have hwd : wide (startOf (withBudget (queryOf m a) u)) ≤ 199 := hwd0
  have hqe : withBudget (queryOf m a) u = { queryOf m a with budget := u } := rfl
  have hrg := region_ok hok
  have hP : PrModelC m (queryOf m a).region = some (pruneM m (queryOf m a).region) := by unfold PrModelC; rw [part_of ⟨hm, hrg.1⟩, show (queryOf m a).region.empty = false from hrg.2]; rfl
  have hr := rm_prune hm (queryOf m a).region
  have hR1 : RunC m (withBudget (queryOf m a) u) = some (searchM m (withBudget (queryOf m a) u)) := part_of hm _
  have hR2 : RunC (pruneM m (queryOf m a).region) (withBudget (queryOf m a) u) = some (searchM (pruneM m (queryOf m a).region) (withBudget (queryOf m a) u)) := part_of hr _
  have hsp := search_prune hm hok hwd
  have hPv : ProvesC m (withBudget (queryOf m a) u) (searchM (pruneM m (queryOf m a).region) (withBudget (queryOf m a) u)) = some (provesM m (withBudget (queryOf m a) u) (searchM (pruneM m (queryOf m a).region) (withBudget (queryOf m a) u))) := by
    unfold ProvesC
    rw [if_neg (by have := hm.dim; omega)]
    exact part_of hm _
  have hreg : (withBudget (queryOf m a) u).region = (queryOf m a).region := rfl
  rw [hreg] at hsp
  unfold withBudget at *
  generalize queryOf m a = q at *
  generalize pruneM m q.region = n at *
  generalize searchM m { q with budget := u } = v at *
  generalize searchM n { q with budget := u } = w at *
  unfold a4
  by_cases h1 : v.kind = 3
  · simp -implicitDefEqProofs [hM, hQ, hW, hP, hR1, hR2, h1]
  · by_cases h2 : w.kind = 3
    · simp -implicitDefEqProofs [hM, hQ, hW, hP, hR1, hR2, h1, h2]
    · obtain ⟨k1, k2, _⟩ := hsp h1 h2
      rw [k2] at hPv
      simp -implicitDefEqProofs [hM, hQ, hW, hP, hR1, hR2, h1, h2, k1, hPv]
noncomputable def law_sp : List AV → Option AV := sp3 fun (_ : Forest) (_ : Ask) (_ : Int) => some true
theorem law_holds : Contract Tryz.prog 4 law_sp :=
  contract_of_runs mixed (tbl_cons c_Model (tbl_cons c_Query (tbl_cons c_Within (tbl_cons c_Run (tbl_cons c_prModel (tbl_cons c_Proves (tbl_cons c_closed19 tbl_nil))))))) Tryz.func4 m4 (sp3_runs runs_law)
theorem law_says (f : Forest) (a : Ask) (bu : Int) : law_sp [Arg.enc f, Arg.enc a, Arg.enc bu] = some (.bool true) := by
  simp only [law_sp, sp3, Arg.dec_enc, Option.bind_some]
  rfl
end Go.Co
