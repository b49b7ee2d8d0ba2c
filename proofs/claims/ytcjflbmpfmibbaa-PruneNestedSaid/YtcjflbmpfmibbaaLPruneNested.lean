/- The law PruneNested: what its text computes. -/
import Derived.Test.YtcjflbmpfmibbaaCz7
import Derived.Test.YtcjflbmpfmibbaaCz5
set_option maxHeartbeats 16000000
set_option maxRecDepth 100000
namespace Go.Co
open Go.Am Go.Proofs
set_option linter.unusedSimpArgs false
set_option linter.unusedVariables false
attribute [-simp] Go.Am.eff_gcall
def c4_0 : ACode := .ops [⟨some 4, .box (.t 0) 4, none, []⟩,⟨some 8, .mv (.c (.bool false)), none, []⟩] [1, 2, 3, 4]
theorem r4_0 : type_of% (@rr _ _ c4_0.eq_1) := rr rfl
def c4_1 : ACode := .ops [⟨some 14, .load 4 true (.t 4), none, [4]⟩,⟨some 15, .call 15 [.t 14], none, []⟩,⟨some 9, .alloc [.int .i64 0, .int .i64 0, .int .i64 0, .int .i64 0, .int .i64 0, .nils], none, []⟩,⟨none, .store (.t 9) 6 (.t 15), none, [9]⟩] [1, 2, 3, 9]
theorem r4_1 : type_of% (@rr _ _ c4_1.eq_1) := rr rfl
def c4_2 : ACode := .ops [⟨some 16, .load 6 true (.t 9), none, [9]⟩,⟨some 17, .mv (.t 1), none, []⟩,⟨some 18, .call 16 [.t 16, .t 17], none, []⟩,⟨some 10, .alloc [.int .i64 0, .int .i64 0, .int .i64 0, .int .i64 0, .int .i64 0, .int .i64 0, .int .i64 0, .int .i64 0, .int .i64 0, .int .i64 0], none, []⟩,⟨none, .store (.t 10) 10 (.t 18), none, [10]⟩] [2, 3, 9, 10]
theorem r4_2 : type_of% (@rr _ _ c4_2.eq_1) := rr rfl
def c4_3 : ACode := .ops [⟨some 19, .mv (.t 2), none, []⟩,⟨some 20, .fad (.t 9) 0, none, [9]⟩,⟨some 21, .load 1 false (.t 20), none, [9]⟩,⟨some 22, .bin .sub (.t 21) (.c (.int .i64 1)), none, []⟩,⟨some 23, .call 24 [.t 19, .c (.int .i64 0), .t 22], none, []⟩,⟨some 11, .mv (.t 23), none, []⟩] [3, 9, 10, 11]
theorem r4_3 : type_of% (@rr _ _ c4_3.eq_1) := rr rfl
def c4_4 : ACode := .ops [⟨some 24, .load 10 true (.t 10), none, [10]⟩,⟨some 12, .alloc [.int .i64 0, .int .i64 0, .int .i64 0, .int .i64 0, .int .i64 0, .int .i64 0, .int .i64 0, .int .i64 0, .int .i64 0, .int .i64 0], none, []⟩,⟨none, .store (.t 12) 10 (.t 24), none, [12]⟩] [3, 9, 10, 11, 12]
theorem r4_4 : type_of% (@rr _ _ c4_4.eq_1) := rr rfl
def c4_5 : ACode := .ops [⟨some 25, .mv (.t 11), none, []⟩,⟨some 26, .mv (.t 3), none, []⟩,⟨some 27, .mv (.t 11), none, []⟩,⟨some 28, .iad (.t 10) (.t 27) 2 5, none, [10]⟩,⟨some 29, .fad (.t 28) 0, none, [10]⟩,⟨some 30, .load 1 false (.t 29), none, [10]⟩,⟨some 31, .mv (.t 11), none, []⟩,⟨some 32, .iad (.t 10) (.t 31) 2 5, none, [10]⟩,⟨some 33, .fad (.t 32) 1, none, [10]⟩,⟨some 34, .load 1 false (.t 33), none, [10]⟩,⟨some 35, .call 24 [.t 26, .t 30, .t 34], none, []⟩,⟨some 36, .iad (.t 12) (.t 25) 2 5, none, [12]⟩,⟨some 37, .fad (.t 36) 1, none, [12]⟩,⟨none, .store (.t 37) 1 (.t 35), none, [12]⟩] [9, 10, 12]
theorem r4_5 : type_of% (@rr _ _ c4_5.eq_1) := rr rfl
def c4_6 : ACode := .ops [⟨some 38, .load 6 true (.t 9), none, [9]⟩,⟨some 39, .load 10 true (.t 12), none, [12]⟩,⟨some 40, .call 22 [.t 38, .t 39], none, []⟩,⟨some 13, .alloc [.int .i64 0, .int .i64 0, .int .i64 0, .int .i64 0, .int .i64 0, .nils], none, []⟩,⟨none, .store (.t 13) 6 (.t 40), none, [13]⟩] [9, 10, 12, 13]
theorem r4_6 : type_of% (@rr _ _ c4_6.eq_1) := rr rfl
def c4_7 : ACode := .ops [⟨some 41, .load 6 true (.t 9), none, [9]⟩,⟨some 42, .load 10 true (.t 10), none, [10]⟩,⟨some 43, .call 22 [.t 41, .t 42], none, []⟩,⟨some 44, .load 10 true (.t 12), none, [12]⟩,⟨some 45, .call 22 [.t 43, .t 44], none, []⟩,⟨some 46, .load 6 true (.t 13), none, [13]⟩,⟨some 47, .call 21 [.t 45, .t 46], none, []⟩,⟨some 48, .mv (.t 47), none, []⟩,⟨some 49, .load 6 true (.t 13), some (48, true), [13]⟩,⟨some 50, .call 25 [.t 49], some (48, true), []⟩,⟨some 51, .load 6 true (.t 9), some (48, true), [9]⟩,⟨some 52, .load 10 true (.t 10), some (48, true), [10]⟩,⟨some 53, .call 22 [.t 51, .t 52], some (48, true), []⟩,⟨some 54, .call 25 [.t 53], some (48, true), []⟩,⟨some 55, .bin .leq (.t 50) (.t 54), some (48, true), []⟩,⟨some 56, .pick (.t 48) (.t 55) (.c (.bool false)), none, []⟩,⟨some 57, .mv (.t 56), none, []⟩,⟨some 58, .call 23 [], some (57, true), []⟩,⟨some 59, .pick (.t 57) (.t 58) (.c (.bool false)), none, []⟩,⟨some 8, .mv (.t 59), none, []⟩] [8]
theorem r4_7 : type_of% (@rr _ _ c4_7.eq_1) := rr rfl
def c4_8 : ACode := .seq c4_7 .ret
theorem r4_8 : type_of% (@rr _ _ c4_8.eq_1) := rr rfl
def c4_9 : ACode := .seq c4_6 c4_8
theorem r4_9 : type_of% (@rr _ _ c4_9.eq_1) := rr rfl
def c4_10 : ACode := .seq c4_5 c4_9
theorem r4_10 : type_of% (@rr _ _ c4_10.eq_1) := rr rfl
def c4_11 : ACode := .seq c4_4 c4_10
theorem r4_11 : type_of% (@rr _ _ c4_11.eq_1) := rr rfl
def c4_12 : ACode := .seq c4_3 c4_11
theorem r4_12 : type_of% (@rr _ _ c4_12.eq_1) := rr rfl
def c4_13 : ACode := .seq c4_2 c4_12
theorem r4_13 : type_of% (@rr _ _ c4_13.eq_1) := rr rfl
def c4_14 : ACode := .seq c4_1 c4_13
theorem r4_14 : type_of% (@rr _ _ c4_14.eq_1) := rr rfl
def c4_15 : ACode := .seq c4_0 c4_14
theorem r4_15 : type_of% (@rr _ _ c4_15.eq_1) := rr rfl
def a4 : AFun := ⟨4, 60, c4_15, [.t 8]⟩
attribute [simp] r4_0 r4_1 r4_2 r4_3 r4_4 r4_5 r4_6 r4_7 r4_8 r4_9 r4_10 r4_11 r4_12 r4_13 r4_14 r4_15
theorem m4 : mFun Try.prog Try.f4 a4 = true := by decide +kernel
def c23_0 : ACode := .ops [⟨some 0, .mv (.c (.bool false)), none, []⟩] []
def c23_1 : ACode := .ops [⟨some 4, .call 74 [], none, []⟩,⟨some 1, .alloc [.int .i64 0, .int .i64 0, .int .i64 0, .int .i64 0, .int .i64 0, .nils], none, []⟩,⟨none, .store (.t 1) 6 (.t 4), none, [1]⟩] [1]
def c23_2 : ACode := .ops [⟨some 5, .load 6 true (.t 1), none, [1]⟩,⟨some 6, .build [.int .i64 0, .int .i64 0] [(0, 1, .c (.int .i64 6)), (1, 1, .c (.int .i64 9))], none, []⟩,⟨some 7, .build [.int .i64 0, .int .i64 0, .int .i64 0, .int .i64 0, .int .i64 0, .int .i64 0, .int .i64 0, .int .i64 0, .int .i64 0, .int .i64 0] [(0, 2, .t 6)], none, []⟩,⟨some 8, .call 22 [.t 5, .t 7], none, []⟩,⟨some 2, .alloc [.int .i64 0, .int .i64 0, .int .i64 0, .int .i64 0, .int .i64 0, .nils], none, []⟩,⟨none, .store (.t 2) 6 (.t 8), none, [2]⟩] [1, 2]
def c23_3 : ACode := .ops [⟨some 9, .load 6 true (.t 1), none, [1]⟩,⟨some 10, .build [.int .i64 0, .int .i64 0] [(0, 1, .c (.int .i64 0)), (1, 1, .c (.int .i64 9))], none, []⟩,⟨some 11, .build [.int .i64 0, .int .i64 0, .int .i64 0, .int .i64 0, .int .i64 0, .int .i64 0, .int .i64 0, .int .i64 0, .int .i64 0, .int .i64 0] [(0, 2, .t 10)], none, []⟩,⟨some 12, .call 22 [.t 9, .t 11], none, []⟩,⟨some 3, .alloc [.int .i64 0, .int .i64 0, .int .i64 0, .int .i64 0, .int .i64 0, .nils], none, []⟩,⟨none, .store (.t 3) 6 (.t 12), none, [3]⟩] [1, 2, 3]
def c23_4 : ACode := .ops [⟨some 13, .load 6 true (.t 2), none, [2]⟩,⟨some 14, .call 27 [.t 13], none, []⟩,⟨some 15, .mv (.t 14), none, []⟩,⟨some 16, .load 6 true (.t 2), some (15, true), [2]⟩,⟨some 17, .call 25 [.t 16], some (15, true), []⟩,⟨some 18, .bin .eql (.t 17) (.c (.int .i64 1)), some (15, true), []⟩,⟨some 19, .pick (.t 15) (.t 18) (.c (.bool false)), none, []⟩,⟨some 20, .mv (.t 19), none, []⟩,⟨some 21, .load 6 true (.t 2), some (20, true), [2]⟩,⟨some 22, .build [.int .i64 0, .int .i64 0, .int .i64 0, .int .i64 0] [], some (20, true), []⟩,⟨some 23, .call 28 [.t 21, .c (.int .i64 0), .t 22], some (20, true), []⟩,⟨some 24, .bin .eql (.t 23) (.c (.int .i64 23)), some (20, true), []⟩,⟨some 25, .pick (.t 20) (.t 24) (.c (.bool false)), none, []⟩,⟨some 26, .mv (.t 25), none, []⟩,⟨some 27, .load 6 true (.t 3), some (26, true), [3]⟩,⟨some 28, .load 6 true (.t 1), some (26, true), [1]⟩,⟨some 29, .call 21 [.t 27, .t 28], some (26, true), []⟩,⟨some 30, .pick (.t 26) (.t 29) (.c (.bool false)), none, []⟩,⟨some 0, .mv (.t 30), none, []⟩] [0]
def c23_5 : ACode := .seq c23_4 .ret
def c23_6 : ACode := .seq c23_3 c23_5
def c23_7 : ACode := .seq c23_2 c23_6
def c23_8 : ACode := .seq c23_1 c23_7
def c23_9 : ACode := .seq c23_0 c23_8
def a23 : AFun := ⟨0, 31, c23_9, [.t 0]⟩
theorem m23 : mFun Try.prog Try.f23 a23 = true := by decide +kernel
def c74_0 : ACode := .ops [⟨some 0, .alloc [.int .i64 0, .int .i64 0, .int .i64 0, .int .i64 0, .int .i64 0, .nils], none, []⟩] [0]
def c74_1 : ACode := .ops [⟨some 2, .build [.bool false, .int .i64 0, .int .i64 0, .int .i64 0, .int .i64 0, .int .i64 0] [(3, 1, .c (.int .i64 5)), (4, 1, .c (.int .i64 1)), (5, 1, .c (.int .i64 2))], none, []⟩,⟨some 3, .call 68 [.t 2], none, []⟩,⟨some 4, .build [.bool false, .int .i64 0, .int .i64 0, .int .i64 0, .int .i64 0, .int .i64 0] [(0, 1, .c (.bool true)), (1, 1, .c (.int .i64 10))], none, []⟩,⟨some 5, .call 68 [.t 4], none, []⟩,⟨some 6, .build [.bool false, .int .i64 0, .int .i64 0, .int .i64 0, .int .i64 0, .int .i64 0] [(0, 1, .c (.bool true)), (1, 1, .c (.int .i64 20))], none, []⟩,⟨some 7, .call 68 [.t 6], none, []⟩,⟨some 8, .mkrow 1 3 1 [.int .u64 0] [(0, 1, .t 3), (1, 1, .t 5), (2, 1, .t 7)], none, []⟩,⟨some 1, .mv (.t 8), none, []⟩] [0, 1]
def c74_2 : ACode := .ops [⟨some 9, .build [.int .i64 0, .int .i64 0, .int .i64 0] [(0, 1, .c (.int .i64 3))], none, []⟩,⟨some 10, .mv (.t 1), none, []⟩,⟨some 11, .build [.int .i64 0, .nils] [(1, 1, .t 10)], none, []⟩,⟨some 12, .mkrow 12 1 2 [.int .i64 0, .nils] [(0, 2, .t 11)], none, []⟩,⟨some 13, .build [.int .i64 0, .int .i64 0, .int .i64 0, .int .i64 0, .int .i64 0, .nils] [(0, 1, .c (.int .i64 1)), (1, 1, .c (.int .i64 1)), (2, 3, .t 9), (5, 1, .t 12)], none, []⟩,⟨none, .store (.t 0) 6 (.t 13), none, [0]⟩] [0]
def c74_3 : ACode := .seq c74_2 .ret
def c74_4 : ACode := .seq c74_1 c74_3
def c74_5 : ACode := .seq c74_0 c74_4
def a74 : AFun := ⟨0, 14, c74_5, [.cell 0 6 true]⟩
theorem m74 : mFun Try.prog Try.f74 a74 = true := by decide +kernel
def texts23 : List (Nat × AFun) := [(17, a17), (19, a19), (20, a20), (21, a21), (22, a22), (23, a23), (25, a25), (27, a27), (28, a28), (58, a58), (66, a66), (67, a67), (68, a68), (69, a69), (70, a70), (71, a71), (72, a72), (73, a73), (74, a74), (75, a75), (76, a76), (77, a77), (78, a78), (110, a110), (117, a117), (118, a118), (119, a119), (120, a120), (121, a121), (122, a122), (123, a123), (124, a124), (125, a125), (126, a126), (143, a143), (144, a144), (146, a146), (147, a147)]
theorem texts23_good : Go.Am.Good Try.prog texts23 :=
  good_cons Try.func17 m17 <| good_cons Try.func19 m19 <| good_cons Try.func20 m20 <| good_cons Try.func21 m21 <| good_cons Try.func22 m22 <| good_cons Try.func23 m23 <| good_cons Try.func25 m25 <| good_cons Try.func27 m27 <| good_cons Try.func28 m28 <| good_cons Try.func58 m58 <| good_cons Try.func66 m66 <| good_cons Try.func67 m67 <| good_cons Try.func68 m68 <| good_cons Try.func69 m69 <| good_cons Try.func70 m70 <| good_cons Try.func71 m71 <| good_cons Try.func72 m72 <| good_cons Try.func73 m73 <| good_cons Try.func74 m74 <| good_cons Try.func75 m75 <| good_cons Try.func76 m76 <| good_cons Try.func77 m77 <| good_cons Try.func78 m78 <| good_cons Try.func110 m110 <| good_cons Try.func117 m117 <| good_cons Try.func118 m118 <| good_cons Try.func119 m119 <| good_cons Try.func120 m120 <| good_cons Try.func121 m121 <| good_cons Try.func122 m122 <| good_cons Try.func123 m123 <| good_cons Try.func124 m124 <| good_cons Try.func125 m125 <| good_cons Try.func126 m126 <| good_cons Try.func143 m143 <| good_cons Try.func144 m144 <| good_cons Try.func146 m146 <| good_cons Try.func147 m147 <| good_nil
theorem c_closed23 : Contract Try.prog 23 (sp0 (some true)) := contract_closedG mixed texts23_good lib0 (NW := fun f => if f = 43 then some 5 else if f = 67 then some 10001 else none) (m := 2000) (n := 80) (by decide +kernel)
theorem reg_facts (dim : Int) (l : List Int) : smallB (regionOf dim l) ∧ okB (regionOf dim l) ∧ (regionOf dim l).empty = false ∧ (regionOf dim l).s4 = ⟨0, 0⟩ := by
  have h0 := rSpan_le dim l 0
  have h1 := rSpan_le dim l 1
  have h2 := rSpan_le dim l 2
  have h3 := rSpan_le dim l 3
  unfold smallB small okB okS64 ok64 Box.empty Span.empty regionOf
  simp only [Bool.or_eq_false_iff, decide_eq_false_iff_not]
  refine ⟨?_, ?_, ?_, ?_⟩ <;> first | trivial | omega | (simp; done)
noncomputable abbrev pnT : Cs := tbl [(15, sp1 ModelC), (16, sp2 RegionC), (24, sp3 Within), (22, sp2 PrModelC), (21, sp2 ModelsC), (25, sp1 SizeC), (23, sp0 (some true))]
theorem runs_law (f : Forest) (l : List Int) (x y : Int) (c : Bool) (h : some true = some c) : Runs pnT a4 [Arg.enc f, Arg.enc l, Arg.enc x, Arg.enc y] (Arg.enc c) := by
  cases h
  refine ⟨rfl, fun g => run_def ?_⟩
  have hm := rm_modelOf f
  have hM : ModelC f = some (modelOf f) := rfl
  generalize modelOf f = m at *
  have hR : RegionC m l = some (regionOf m.dim l) := part_of hm.dim _
  obtain ⟨hsm, hbok, hbe, _⟩ := reg_facts m.dim l
  generalize regionOf m.dim l = b at *
  have hd := hm.dim
  have w1 : IntKind.i64.wrap (m.dim - 1) = m.dim - 1 := wrap64 (by omega) (by omega)
  have hW := within_of x 0 (m.dim - 1) (by omega)
  have hw := within_le x 0 (m.dim - 1) (by omega)
  generalize within x 0 (m.dim - 1) = k at *
  have hk : 0 ≤ k ∧ k < 5 := by omega
  have hbk := empty_get.1 hbe k hk.1 hk.2
  have hsk := get_small hsm k
  unfold small at hsk
  have hV := within_of y (b.get k).lo (b.get k).hi (by omega)
  have hv := within_le y (b.get k).lo (b.get k).hi hbk
  generalize within y (b.get k).lo (b.get k).hi = v at *
  have hg64 := okB_get hbok k
  have hc : (b.set k ⟨(b.get k).lo, v⟩).empty = false := empty_get.2 fun i i0 i5 => by
    rw [set_get_ite b _ hk.1 hk.2 i0 i5]
    split
    · exact hv.1
    · exact empty_get.1 hbe i i0 i5
  have hs : SubB (b.set k ⟨(b.get k).lo, v⟩) b := fun i i0 i5 => by
    rw [set_get_ite b _ hk.1 hk.2 i0 i5]
    split
    · subst i; exact ⟨Int.le_refl _, hv.2⟩
    · exact ⟨Int.le_refl _, Int.le_refl _⟩
  have hcok : okB (b.set k ⟨(b.get k).lo, v⟩) := by
    have hvk : okS64 (⟨(b.get k).lo, v⟩ : Span) := by
      unfold okS64 ok64 at *
      simp only
      omega
    obtain ⟨o0, o1, o2, o3, o4⟩ := hbok
    unfold okB Box.set
    split
    · exact ⟨hvk, o1, o2, o3, o4⟩
    · split
      · exact ⟨o0, hvk, o2, o3, o4⟩
      · split
        · exact ⟨o0, o1, hvk, o3, o4⟩
        · split
          · exact ⟨o0, o1, o2, hvk, o4⟩
          · exact ⟨o0, o1, o2, o3, hvk⟩
  have ht := pruneM_twice hm hbe hc hs
  have hz := size_twice hm hbe hc hs
  have hP1 : PrModelC m b = some (pruneM m b) := by unfold PrModelC; rw [part_of ⟨hm, hbok⟩, hbe]; rfl
  have hP2 : PrModelC m (b.set k ⟨(b.get k).lo, v⟩) = some (pruneM m (b.set k ⟨(b.get k).lo, v⟩)) := by unfold PrModelC; rw [part_of ⟨hm, hcok⟩, hc]; rfl
  have hP3 : PrModelC (pruneM m b) (b.set k ⟨(b.get k).lo, v⟩) = some (pruneM m (b.set k ⟨(b.get k).lo, v⟩)) := by unfold PrModelC; rw [part_of ⟨rm_prune hm b, hcok⟩, hc, ht]; rfl
  have r1 := rm_prune hm b
  have r2 := rm_prune hm (b.set k ⟨(b.get k).lo, v⟩)
  have hS1 := r1.size
  have hS2 := r2.size
  have hE : ModelsC (pruneM m (b.set k ⟨(b.get k).lo, v⟩)) (pruneM m (b.set k ⟨(b.get k).lo, v⟩)) = some true := part_of ⟨rfl, r2.trees⟩ _
  generalize hp1 : pruneM m b = p1 at *
  generalize hp2 : pruneM m (b.set k ⟨(b.get k).lo, v⟩) = p2 at *
  unfold a4
  have hk4 : k = 0 ∨ k = 1 ∨ k = 2 ∨ k = 3 := by omega
  rcases hk4 with rfl | rfl | rfl | rfl <;> simp only [Box.get, Box.set, reduceIte, Int.reduceEq] at hV hP2 hP3
  all_goals simp -implicitDefEqProofs [hM, hR, w1, hW, hV, hP1, hP2, hP3, hE, hS1, hS2, hz]
noncomputable def law_sp : List AV → Option AV := sp4 fun (_ : Forest) (_ : List Int) (_ : Int) (_ : Int) => some true
theorem law_holds : Contract Try.prog 4 law_sp :=
  contract_of_runs mixed (tbl_cons c_Model (tbl_cons c_Region (tbl_cons c_Within (tbl_cons c_prModel (tbl_cons c_Models (tbl_cons c_Size (tbl_cons c_closed23 tbl_nil))))))) Try.func4 m4 (sp4_runs runs_law)
theorem law_says (f : Forest) (l : List Int) (x y : Int) : law_sp [Arg.enc f, Arg.enc l, Arg.enc x, Arg.enc y] = some (.bool true) := by
  simp only [law_sp, sp4, Arg.dec_enc, Option.bind_some]
  rfl
end Go.Co
