/- CO: pairs. -/
import Derived.Test.YtcjflbmpfmibbaaCoIn
import Derived.Test.YtcjflbmpfmibbaaCoJ
namespace Go.Co
open Go.Am Go.Proofs
set_option linter.unusedSimpArgs false
set_option linter.unusedVariables false
def c140_0 : ACode := .ops [⟨some 1, .box (.t 0) 17, none, []⟩,
  ⟨some 2, .mv (.c (.bool false)), none, []⟩] [1]
theorem r140_0 : type_of% (@rr _ _ c140_0.eq_1) := rr c140_0.eq_1
def c140_1 : ACode := .ops [⟨some 3, .fad (.t 1) 0, none, [1]⟩,
  ⟨some 4, .load 1 false (.t 3), none, [1]⟩,
  ⟨some 5, .bin .eql (.t 4) (.c (.int .i64 3)), none, []⟩,
  ⟨some 6, .mv (.t 5), none, []⟩,
  ⟨some 7, .fad (.t 1) 14, some (6, true), [1]⟩,
  ⟨some 8, .load 1 false (.t 7), some (6, true), [1]⟩,
  ⟨some 9, .bin .geq (.t 8) (.c (.int .i64 0)), some (6, true), []⟩,
  ⟨some 10, .pick (.t 6) (.t 9) (.c (.bool false)), none, []⟩,
  ⟨some 11, .mv (.t 10), none, []⟩,
  ⟨some 12, .fad (.t 1) 14, some (11, true), [1]⟩,
  ⟨some 13, .load 1 false (.t 12), some (11, true), [1]⟩,
  ⟨some 14, .bin .lss (.t 13) (.c (.int .i64 4)), some (11, true), []⟩,
  ⟨some 15, .pick (.t 11) (.t 14) (.c (.bool false)), none, []⟩,
  ⟨some 2, .mv (.t 15), none, []⟩] [2]
theorem r140_1 : type_of% (@rr _ _ c140_1.eq_1) := rr c140_1.eq_1
def c140_2 : ACode := .seq c140_1 .ret
theorem r140_2 : type_of% (@rr _ _ c140_2.eq_1) := rr c140_2.eq_1
def c140_3 : ACode := .seq c140_0 c140_2
theorem r140_3 : type_of% (@rr _ _ c140_3.eq_1) := rr c140_3.eq_1
def a140 : AFun := ⟨1, 16, c140_3, [.t 2]⟩
attribute [simp] r140_0 r140_1 r140_2 r140_3
theorem m140 : mFun Try.prog Try.f140 a140 = true := by decide +kernel
def c141_0 : ACode := .ops [⟨some 2, .box (.t 0) 17, none, []⟩,
  ⟨some 3, .box (.t 1) 10, none, []⟩,
  ⟨some 4, .alloc [.int .i64 0, .int .i64 0, .int .i64 0, .int .i64 0, .int .i64 0, .int .i64 0, .int .i64 0, .int .i64 0, .int .i64 0, .int .i64 0], none, []⟩] [2, 3, 4]
theorem r141_0 : type_of% (@rr _ _ c141_0.eq_1) := rr c141_0.eq_1
def c141_1 : ACode := .ops [⟨some 5, .load 17 true (.t 2), none, [2]⟩,
  ⟨some 6, .call 140 [.t 5], none, []⟩] [3, 4, 6]
theorem r141_1 : type_of% (@rr _ _ c141_1.eq_1) := rr c141_1.eq_1
def c141_2 : ACode := .ops [⟨some 7, .build [.int .i64 0, .int .i64 0] [], none, []⟩,
  ⟨some 8, .iad (.t 3) (.c (.int .i64 4)) 2 5, none, [3]⟩,
  ⟨none, .store (.t 8) 2 (.t 7), none, [3]⟩] [3, 4]
theorem r141_2 : type_of% (@rr _ _ c141_2.eq_1) := rr c141_2.eq_1
def c141_3 : ACode := .cond (.t 6) c141_2 .skip
theorem r141_3 : type_of% (@rr _ _ c141_3.eq_1) := rr c141_3.eq_1
def c141_4 : ACode := .seq c141_1 c141_3
theorem r141_4 : type_of% (@rr _ _ c141_4.eq_1) := rr c141_4.eq_1
def c141_5 : ACode := .ops [⟨some 9, .load 10 true (.t 3), none, [3]⟩,
  ⟨none, .store (.t 4) 10 (.t 9), none, [4]⟩] [4]
theorem r141_5 : type_of% (@rr _ _ c141_5.eq_1) := rr c141_5.eq_1
def c141_6 : ACode := .seq c141_5 .ret
theorem r141_6 : type_of% (@rr _ _ c141_6.eq_1) := rr c141_6.eq_1
def c141_7 : ACode := .seq c141_4 c141_6
theorem r141_7 : type_of% (@rr _ _ c141_7.eq_1) := rr c141_7.eq_1
def c141_8 : ACode := .seq c141_0 c141_7
theorem r141_8 : type_of% (@rr _ _ c141_8.eq_1) := rr c141_8.eq_1
def a141 : AFun := ⟨2, 10, c141_8, [.cell 4 10 true]⟩
attribute [simp] r141_0 r141_1 r141_2 r141_3 r141_4 r141_5 r141_6 r141_7 r141_8
theorem m141 : mFun Try.prog Try.f141 a141 = true := by decide +kernel
def c142_0 : ACode := .ops [⟨some 2, .box (.t 0) 17, none, []⟩,
  ⟨some 3, .box (.t 1) 10, none, []⟩,
  ⟨some 4, .alloc [.int .i64 0, .int .i64 0, .int .i64 0, .int .i64 0, .int .i64 0, .int .i64 0, .int .i64 0, .int .i64 0, .int .i64 0, .int .i64 0], none, []⟩] [2, 3, 4]
theorem r142_0 : type_of% (@rr _ _ c142_0.eq_1) := rr c142_0.eq_1
def c142_1 : ACode := .ops [⟨some 5, .load 17 true (.t 2), none, [2]⟩,
  ⟨some 6, .call 140 [.t 5], none, []⟩] [2, 3, 4, 6]
theorem r142_1 : type_of% (@rr _ _ c142_1.eq_1) := rr c142_1.eq_1
def c142_2 : ACode := .ops [⟨some 7, .fad (.t 2) 14, none, [2]⟩,
  ⟨some 8, .load 1 false (.t 7), none, [2]⟩,
  ⟨some 9, .iad (.t 3) (.c (.int .i64 4)) 2 5, none, [3]⟩,
  ⟨some 10, .load 2 true (.t 9), none, [3]⟩,
  ⟨some 11, .build [.int .i64 0, .int .i64 0] [], none, []⟩,
  ⟨some 12, .iad (.t 3) (.t 8) 2 5, none, [3]⟩,
  ⟨none, .store (.t 12) 2 (.t 10), none, [3]⟩,
  ⟨some 13, .iad (.t 3) (.c (.int .i64 4)) 2 5, none, [3]⟩,
  ⟨none, .store (.t 13) 2 (.t 11), none, [3]⟩] [3, 4]
theorem r142_2 : type_of% (@rr _ _ c142_2.eq_1) := rr c142_2.eq_1
def c142_3 : ACode := .cond (.t 6) c142_2 .skip
theorem r142_3 : type_of% (@rr _ _ c142_3.eq_1) := rr c142_3.eq_1
def c142_4 : ACode := .seq c142_1 c142_3
theorem r142_4 : type_of% (@rr _ _ c142_4.eq_1) := rr c142_4.eq_1
def c142_5 : ACode := .ops [⟨some 14, .load 10 true (.t 3), none, [3]⟩,
  ⟨none, .store (.t 4) 10 (.t 14), none, [4]⟩] [4]
theorem r142_5 : type_of% (@rr _ _ c142_5.eq_1) := rr c142_5.eq_1
def c142_6 : ACode := .seq c142_5 .ret
theorem r142_6 : type_of% (@rr _ _ c142_6.eq_1) := rr c142_6.eq_1
def c142_7 : ACode := .seq c142_4 c142_6
theorem r142_7 : type_of% (@rr _ _ c142_7.eq_1) := rr c142_7.eq_1
def c142_8 : ACode := .seq c142_0 c142_7
theorem r142_8 : type_of% (@rr _ _ c142_8.eq_1) := rr c142_8.eq_1
def a142 : AFun := ⟨2, 15, c142_8, [.cell 4 10 true]⟩
attribute [simp] r142_0 r142_1 r142_2 r142_3 r142_4 r142_5 r142_6 r142_7 r142_8
theorem m142 : mFun Try.prog Try.f142 a142 = true := by decide +kernel
def c106_0 : ACode := .ops [⟨some 2, .box (.t 0) 17, none, []⟩,
  ⟨some 3, .box (.t 1) 10, none, []⟩,
  ⟨some 4, .mv (.c (.bool false)), none, []⟩] [2, 3]
theorem r106_0 : type_of% (@rr _ _ c106_0.eq_1) := rr c106_0.eq_1
def c106_1 : ACode := .ops [⟨some 5, .load 17 true (.t 2), none, [2]⟩,
  ⟨some 6, .call 140 [.t 5], none, []⟩,
  ⟨some 7, .mv (.t 6), none, []⟩,
  ⟨some 8, .load 10 true (.t 3), some (7, true), [3]⟩,
  ⟨some 9, .call 66 [.t 8], some (7, true), []⟩,
  ⟨some 10, .un .not (.t 9), some (7, true), []⟩,
  ⟨some 11, .pick (.t 7) (.t 10) (.c (.bool false)), none, []⟩,
  ⟨some 12, .mv (.t 11), none, []⟩,
  ⟨some 13, .fad (.t 2) 14, some (12, true), [2]⟩,
  ⟨some 14, .load 1 false (.t 13), some (12, true), [2]⟩,
  ⟨some 15, .iad (.t 3) (.t 14) 2 5, some (12, true), [3]⟩,
  ⟨some 16, .fad (.t 15) 0, some (12, true), [3]⟩,
  ⟨some 17, .load 1 false (.t 16), some (12, true), [3]⟩,
  ⟨some 18, .iad (.t 3) (.c (.int .i64 4)) 2 5, some (12, true), [3]⟩,
  ⟨some 19, .fad (.t 18) 1, some (12, true), [3]⟩,
  ⟨some 20, .load 1 false (.t 19), some (12, true), [3]⟩,
  ⟨some 21, .bin .lss (.t 17) (.t 20), some (12, true), []⟩,
  ⟨some 22, .pick (.t 12) (.t 21) (.c (.bool false)), none, []⟩,
  ⟨some 4, .mv (.t 22), none, []⟩] [4]
theorem r106_1 : type_of% (@rr _ _ c106_1.eq_1) := rr c106_1.eq_1
def c106_2 : ACode := .seq c106_1 .ret
theorem r106_2 : type_of% (@rr _ _ c106_2.eq_1) := rr c106_2.eq_1
def c106_3 : ACode := .seq c106_0 c106_2
theorem r106_3 : type_of% (@rr _ _ c106_3.eq_1) := rr c106_3.eq_1
def a106 : AFun := ⟨2, 23, c106_3, [.t 4]⟩
attribute [simp] r106_0 r106_1 r106_2 r106_3
theorem m106 : mFun Try.prog Try.f106 a106 = true := by decide +kernel
def c107_0 : ACode := .ops [⟨some 3, .box (.t 0) 6, none, []⟩,
  ⟨some 4, .box (.t 1) 17, none, []⟩,
  ⟨some 5, .box (.t 2) 10, none, []⟩,
  ⟨some 6, .mv (.c (.int .i64 0)), none, []⟩,
  ⟨some 7, .mv (.c (.int .i64 0)), none, []⟩,
  ⟨some 8, .mv (.c (.bool false)), none, []⟩] [3, 4, 5]
theorem r107_0 : type_of% (@rr _ _ c107_0.eq_1) := rr c107_0.eq_1
def c107_1 : ACode := .ops [⟨some 16, .load 6 true (.t 3), none, [3]⟩,
  ⟨some 17, .fad (.t 4) 1, none, [4]⟩,
  ⟨some 18, .load 1 false (.t 17), none, [4]⟩,
  ⟨some 19, .load 17 true (.t 4), none, [4]⟩,
  ⟨some 20, .load 10 true (.t 5), none, [5]⟩,
  ⟨some 21, .call 141 [.t 19, .t 20], none, []⟩,
  ⟨some 22, .call 63 [.t 16, .t 18, .t 21], none, []⟩,
  ⟨some 15, .mv (.t 22), none, []⟩,
  ⟨some 23, .ext (.t 15) 0, none, []⟩,
  ⟨some 24, .ext (.t 15) 1, none, []⟩,
  ⟨some 25, .ext (.t 15) 2, none, []⟩,
  ⟨some 9, .mv (.t 23), none, []⟩,
  ⟨some 10, .mv (.t 24), none, []⟩,
  ⟨some 11, .mv (.t 25), none, []⟩] [3, 4, 5, 9, 10, 11]
theorem r107_1 : type_of% (@rr _ _ c107_1.eq_1) := rr c107_1.eq_1
def c107_2 : ACode := .ops [⟨some 27, .load 6 true (.t 3), none, [3]⟩,
  ⟨some 28, .fad (.t 4) 1, none, [4]⟩,
  ⟨some 29, .load 1 false (.t 28), none, [4]⟩,
  ⟨some 30, .load 17 true (.t 4), none, [4]⟩,
  ⟨some 31, .load 10 true (.t 5), none, [5]⟩,
  ⟨some 32, .call 142 [.t 30, .t 31], none, []⟩,
  ⟨some 33, .call 63 [.t 27, .t 29, .t 32], none, []⟩,
  ⟨some 26, .mv (.t 33), none, []⟩,
  ⟨some 34, .ext (.t 26) 0, none, []⟩,
  ⟨some 35, .ext (.t 26) 1, none, []⟩,
  ⟨some 36, .ext (.t 26) 2, none, []⟩,
  ⟨some 12, .mv (.t 34), none, []⟩,
  ⟨some 13, .mv (.t 35), none, []⟩,
  ⟨some 14, .mv (.t 36), none, []⟩] [4, 9, 10, 11, 12, 13, 14]
theorem r107_2 : type_of% (@rr _ _ c107_2.eq_1) := rr c107_2.eq_1
def c107_3 : ACode := .ops [⟨some 37, .load 17 true (.t 4), none, [4]⟩,
  ⟨some 38, .call 140 [.t 37], none, []⟩,
  ⟨some 39, .un .not (.t 38), none, []⟩,
  ⟨some 40, .mv (.t 39), none, []⟩,
  ⟨some 41, .mv (.t 11), some (40, false), []⟩,
  ⟨some 42, .un .not (.t 41), some (40, false), []⟩,
  ⟨some 43, .pick (.t 40) (.c (.bool true)) (.t 42), none, []⟩,
  ⟨some 44, .mv (.t 43), none, []⟩,
  ⟨some 45, .mv (.t 14), some (44, false), []⟩,
  ⟨some 46, .un .not (.t 45), some (44, false), []⟩,
  ⟨some 47, .pick (.t 44) (.c (.bool true)) (.t 46), none, []⟩] [9, 10, 12, 13, 47]
theorem r107_3 : type_of% (@rr _ _ c107_3.eq_1) := rr c107_3.eq_1
def c107_4 : ACode := .ops [⟨some 6, .mv (.c (.int .i64 0)), none, []⟩,
  ⟨some 7, .mv (.c (.int .i64 0)), none, []⟩,
  ⟨some 8, .mv (.c (.bool false)), none, []⟩] [6, 7, 8]
theorem r107_4 : type_of% (@rr _ _ c107_4.eq_1) := rr c107_4.eq_1
def c107_5 : ACode := .seq c107_4 .ret
theorem r107_5 : type_of% (@rr _ _ c107_5.eq_1) := rr c107_5.eq_1
def c107_6 : ACode := .cond (.t 47) c107_5 .skip
theorem r107_6 : type_of% (@rr _ _ c107_6.eq_1) := rr c107_6.eq_1
def c107_7 : ACode := .seq c107_3 c107_6
theorem r107_7 : type_of% (@rr _ _ c107_7.eq_1) := rr c107_7.eq_1
def c107_8 : ACode := .ops [⟨some 48, .mv (.t 12), none, []⟩,
  ⟨some 49, .mv (.t 10), none, []⟩,
  ⟨some 50, .bin .sub (.t 48) (.t 49), none, []⟩,
  ⟨some 51, .mv (.t 13), none, []⟩,
  ⟨some 52, .mv (.t 9), none, []⟩,
  ⟨some 53, .bin .sub (.t 51) (.t 52), none, []⟩,
  ⟨some 6, .mv (.t 50), none, []⟩,
  ⟨some 7, .mv (.t 53), none, []⟩,
  ⟨some 8, .mv (.c (.bool true)), none, []⟩] [6, 7, 8]
theorem r107_8 : type_of% (@rr _ _ c107_8.eq_1) := rr c107_8.eq_1
def c107_9 : ACode := .seq c107_8 .ret
theorem r107_9 : type_of% (@rr _ _ c107_9.eq_1) := rr c107_9.eq_1
def c107_10 : ACode := .seq c107_7 c107_9
theorem r107_10 : type_of% (@rr _ _ c107_10.eq_1) := rr c107_10.eq_1
def c107_11 : ACode := .seq c107_2 c107_10
theorem r107_11 : type_of% (@rr _ _ c107_11.eq_1) := rr c107_11.eq_1
def c107_12 : ACode := .seq c107_1 c107_11
theorem r107_12 : type_of% (@rr _ _ c107_12.eq_1) := rr c107_12.eq_1
def c107_13 : ACode := .seq c107_0 c107_12
theorem r107_13 : type_of% (@rr _ _ c107_13.eq_1) := rr c107_13.eq_1
def a107 : AFun := ⟨3, 54, c107_13, [.t 6, .t 7, .t 8]⟩
attribute [simp] r107_0 r107_1 r107_2 r107_3 r107_4 r107_5 r107_6 r107_7 r107_8 r107_9 r107_10 r107_11 r107_12 r107_13
theorem m107 : mFun Try.prog Try.f107 a107 = true := by decide +kernel
theorem runs_pairs (q : Query) (c : Bool) (h : some (paired q) = some c) : Runs (tbl []) a140 [Arg.enc q] (Arg.enc c) := by
  cases h
  refine ⟨rfl, fun g => run_def ?_⟩
  unfold a140
  by_cases k1 : q.kind = 3
  case neg => simp -implicitDefEqProofs [paired, k1]
  by_cases k2 : 0 ≤ q.feature
  case neg => simp -implicitDefEqProofs [paired, k1, k2]
  simp -implicitDefEqProofs [paired, k1, k2]
theorem c_pairs : Contract Try.prog 140 (sp1 fun q => some (paired q)) :=
  contract_of_runs mixed tbl_nil Try.func140 m140 (sp1_runs runs_pairs)
def firstB (q : Query) (b : Box) : Box := if paired q then { b with s4 := ⟨0, 0⟩ } else b
def secondB (q : Query) (b : Box) : Box := if paired q then { b.set q.feature b.s4 with s4 := ⟨0, 0⟩ } else b
def orderedB (q : Query) (b : Box) : Bool := paired q && !b.empty && decide ((b.get q.feature).lo < b.s4.hi)
theorem runs_First (q : Query) (b : Box) (c : Box) (h : some (firstB q b) = some c) : Runs (tbl [(140, sp1 fun q => some (paired q))]) a141 [Arg.enc q, Arg.enc b] (Arg.enc c) := by
  cases h
  refine ⟨rfl, fun g => run_def ?_⟩
  unfold a141
  cases hp : paired q <;> simp -implicitDefEqProofs [firstB, hp]
theorem c_First : Contract Try.prog 141 (sp2 fun q b => some (firstB q b)) :=
  contract_of_runs mixed (tbl_cons c_pairs tbl_nil) Try.func141 m141 (sp2_runs runs_First)
theorem runs_cSecond (q : Query) (b : Box) (c : Box) (h : some (secondB q b) = some c) : Runs (tbl [(140, sp1 fun q => some (paired q))]) a142 [Arg.enc q, Arg.enc b] (Arg.enc c) := by
  cases h
  refine ⟨rfl, fun g => run_def ?_⟩
  unfold a142
  cases hp : paired q
  · simp -implicitDefEqProofs [secondB, hp]
  · have hf := paired_feature hp
    obtain ⟨kind, cls, region, lo, hi, feature, falls, budget⟩ := q
    simp only at hf
    rcases hf with rfl | rfl | rfl | rfl <;> simp -implicitDefEqProofs [secondB, hp, Box.set]
theorem c_cSecond : Contract Try.prog 142 (sp2 fun q b => some (secondB q b)) :=
  contract_of_runs mixed (tbl_cons c_pairs tbl_nil) Try.func142 m142 (sp2_runs runs_cSecond)
theorem runs_Ordered (q : Query) (b : Box) (c : Bool) (h : some (orderedB q b) = some c) : Runs (tbl [(140, sp1 fun q => some (paired q)), (66, sp1 fun (b : Box) => some b.empty)]) a106 [Arg.enc q, Arg.enc b] (Arg.enc c) := by
  cases h
  refine ⟨rfl, fun g => run_def ?_⟩
  unfold a106
  cases hp : paired q
  · simp -implicitDefEqProofs [orderedB, hp]
  · have hf := paired_feature hp
    cases he : b.empty
    case true => simp -implicitDefEqProofs [orderedB, hp, he]
    obtain ⟨kind, cls, region, lo, hi, feature, falls, budget⟩ := q
    simp only at hf
    rcases hf with rfl | rfl | rfl | rfl <;> simp -implicitDefEqProofs [orderedB, hp, he, Box.get]
theorem c_Ordered : Contract Try.prog 106 (sp2 fun q b => some (orderedB q b)) :=
  contract_of_runs mixed (tbl_cons c_pairs (tbl_cons c_bEmpty tbl_nil)) Try.func106 m106 (sp2_runs runs_Ordered)
def changeM (m : Model) (q : Query) (b : Box) : Tri Int Int Bool :=
  if paired q && (boundM m q.cls (firstB q b)).c && (boundM m q.cls (secondB q b)).c then
    ⟨(boundM m q.cls (secondB q b)).a - (boundM m q.cls (firstB q b)).b, (boundM m q.cls (secondB q b)).b - (boundM m q.cls (firstB q b)).a, true⟩ else ⟨0, 0, false⟩
theorem boundM_le {m : Model} (hm : RM m) (c : Int) (b : Box) : -19327352832 ≤ (boundM m c b).a ∧ (boundM m c b).a ≤ 19327352823 ∧ -19327352832 ≤ (boundM m c b).b ∧ (boundM m c b).b ≤ 19327352823 := by
  unfold boundM
  split
  · simp
  · rename_i h
    have he : b.empty = false := by cases he : b.empty <;> simp [he] at h ⊢
    have := boundP_le hm c he
    simp only
    omega
theorem okB_first {b : Box} (h : okB b) (q : Query) : okB (firstB q b) ∧ okB (secondB q b) := by
  have z : okS64 ⟨0, 0⟩ := by unfold okS64 ok64; simp only; omega
  unfold firstB secondB
  cases paired q
  · exact ⟨h, h⟩
  · have h2 := okB_set h q.feature h.2.2.2.2
    exact ⟨⟨h.1, h.2.1, h.2.2.1, h.2.2.2.1, z⟩, h2.1, h2.2.1, h2.2.2.1, h2.2.2.2.1, z⟩
noncomputable def ChangeC (m : Model) (q : Query) (b : Box) : Option (Tri Int Int Bool) := Part (RM m ∧ okB b) (changeM m q b)
set_option maxHeartbeats 1000000 in
theorem runs_Change (m : Model) (q : Query) (b : Box) (c : Tri Int Int Bool) (h : ChangeC m q b = some c) : Runs (tbl [(141, sp2 fun q b => some (firstB q b)), (142, sp2 fun q b => some (secondB q b)), (63, sp3 BoundS), (140, sp1 fun q => some (paired q))]) a107 [Arg.enc m, Arg.enc q, Arg.enc b] (Arg.enc c) := by
  obtain ⟨⟨hm, hb⟩, rfl⟩ := part_some h
  clear h
  refine ⟨rfl, fun g => run_def ?_⟩
  unfold a107
  have hk := okB_first hb q
  have s1 : BoundS m q.cls (firstB q b) = some (boundM m q.cls (firstB q b)) := part_of ⟨hm, hk.1⟩ _
  have s2 : BoundS m q.cls (secondB q b) = some (boundM m q.cls (secondB q b)) := part_of ⟨hm, hk.2⟩ _
  have l1 := boundM_le hm q.cls (firstB q b)
  have l2 := boundM_le hm q.cls (secondB q b)
  have w1 : IntKind.i64.wrap ((boundM m q.cls (secondB q b)).a - (boundM m q.cls (firstB q b)).b) = (boundM m q.cls (secondB q b)).a - (boundM m q.cls (firstB q b)).b := wrap64 (by omega) (by omega)
  have w2 : IntKind.i64.wrap ((boundM m q.cls (secondB q b)).b - (boundM m q.cls (firstB q b)).a) = (boundM m q.cls (secondB q b)).b - (boundM m q.cls (firstB q b)).a := wrap64 (by omega) (by omega)
  cases hp : paired q
  case false => simp -implicitDefEqProofs [changeM, hp, s1, s2]
  cases h1 : (boundM m q.cls (firstB q b)).c
  case false => simp -implicitDefEqProofs [changeM, hp, s1, s2, h1]
  cases h2 : (boundM m q.cls (secondB q b)).c <;> simp -implicitDefEqProofs [changeM, hp, s1, s2, h1, h2, w1, w2]
theorem c_Change : Contract Try.prog 107 (sp3 ChangeC) :=
  contract_of_runs mixed (tbl_cons c_First (tbl_cons c_cSecond (tbl_cons c_bSum (tbl_cons c_pairs tbl_nil)))) Try.func107 m107 (sp3_runs runs_Change)
end Go.Co
