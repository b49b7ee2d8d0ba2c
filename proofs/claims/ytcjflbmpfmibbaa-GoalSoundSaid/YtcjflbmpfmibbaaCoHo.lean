/- CO: the cells of a box; does a query hold? -/
import Derived.Test.YtcjflbmpfmibbaaCoCe
import Derived.Test.YtcjflbmpfmibbaaCoK
namespace Go.Co
open Go.Am Go.Proofs
set_option linter.unusedSimpArgs false
set_option linter.unusedVariables false
attribute [-simp] Go.Am.eff_gcall
def c46_0 : ACode := .ops [⟨some 4, .box (.t 0) 6, none, []⟩,
  ⟨some 5, .box (.t 1) 17, none, []⟩,
  ⟨some 6, .box (.t 2) 10, none, []⟩,
  ⟨some 8, .mv (.c (.nils)), none, []⟩,
  ⟨some 9, .mv (.c (.bool false)), none, []⟩] [3, 4, 5, 6]
def c46_1 : ACode := .ops [⟨some 22, .load 6 true (.t 4), none, [4]⟩,
  ⟨some 23, .load 17 true (.t 5), none, [5]⟩,
  ⟨some 24, .load 10 true (.t 6), none, [6]⟩,
  ⟨some 25, .mv (.t 3), none, []⟩,
  ⟨some 26, .call 48 [.t 22, .t 23, .t 24, .t 25], none, []⟩,
  ⟨some 21, .mv (.t 26), none, []⟩,
  ⟨some 27, .ext (.t 21) 0, none, []⟩,
  ⟨some 28, .ext (.t 21) 1, none, []⟩,
  ⟨some 10, .mv (.t 27), none, []⟩,
  ⟨some 11, .mv (.t 28), none, []⟩] [4, 5, 6, 11]
def c46_2 : ACode := .ops [⟨some 29, .mv (.t 11), none, []⟩,
  ⟨some 30, .un .not (.t 29), none, []⟩] [4, 5, 6, 30]
def c46_3 : ACode := .ops [⟨some 8, .mv (.c (.nils)), none, []⟩,
  ⟨some 9, .mv (.c (.bool false)), none, []⟩] [8, 9]
def c46_4 : ACode := .seq c46_3 .ret
def c46_5 : ACode := .cond (.t 30) c46_4 .skip
def c46_6 : ACode := .seq c46_2 c46_5
def c46_7 : ACode := .seq c46_1 c46_6
def c46_8 : ACode := .ops [⟨some 31, .load 10 true (.t 6), none, [6]⟩,
  ⟨some 32, .mkrow 12 1 10 [.int .i64 0, .int .i64 0, .int .i64 0, .int .i64 0, .int .i64 0, .int .i64 0, .int .i64 0, .int .i64 0, .int .i64 0, .int .i64 0] [(0, 10, .t 31)], none, []⟩,
  ⟨some 12, .mv (.t 32), none, []⟩] [4, 5, 6, 12]
def c46_9 : ACode := .ops [⟨some 33, .mv (.c (.int .i64 0)), none, []⟩] [4, 5, 6, 12, 33]
def c46_10 : ACode := .ops [⟨some 34, .bin .lss (.t 33) (.c (.int .i64 5)), none, []⟩] [4, 5, 6, 12, 33, 34]
def c46_11 : ACode := .cond (.t 34) .skip (.exit 0)
def c46_12 : ACode := .ops [⟨some 35, .mv (.t 33), none, []⟩,
  ⟨some 13, .mv (.t 35), none, []⟩] [4, 5, 6, 12, 13, 33]
def c46_13 : ACode := .ops [⟨some 36, .load 6 true (.t 4), none, [4]⟩,
  ⟨some 37, .load 17 true (.t 5), none, [5]⟩,
  ⟨some 38, .load 10 true (.t 6), none, [6]⟩,
  ⟨some 39, .mv (.t 13), none, []⟩,
  ⟨some 40, .call 51 [.t 36, .t 37, .t 38, .t 39], none, []⟩,
  ⟨some 14, .mv (.t 40), none, []⟩] [4, 5, 6, 12, 13, 14, 33]
def c46_14 : ACode := .ops [⟨some 15, .nil0 15 10, none, []⟩] [4, 5, 6, 12, 13, 14, 15, 33]
def c46_15 : ACode := .ops [⟨some 41, .mv (.t 12), none, []⟩,
  ⟨some 42, .len (.t 41), none, [12]⟩,
  ⟨some 43, .mv (.c (.int .i64 0)), none, []⟩] [4, 5, 6, 13, 14, 15, 33, 41, 42, 43]
def c46_16 : ACode := .ops [⟨some 44, .bin .lss (.t 43) (.t 42), none, []⟩] [4, 5, 6, 13, 14, 15, 33, 41, 42, 43, 44]
def c46_17 : ACode := .cond (.t 44) .skip (.exit 2)
def c46_18 : ACode := .ops [⟨some 45, .ias (.t 41) (.t 43) 10, none, [12]⟩,
  ⟨some 46, .load 10 true (.t 45), none, [12]⟩,
  ⟨some 17, .alloc [.int .i64 0, .int .i64 0, .int .i64 0, .int .i64 0, .int .i64 0, .int .i64 0, .int .i64 0, .int .i64 0, .int .i64 0, .int .i64 0], none, []⟩,
  ⟨none, .store (.t 17) 10 (.t 46), none, [17]⟩] [4, 5, 6, 13, 14, 15, 17, 33, 41, 42, 43]
def c46_19 : ACode := .ops [⟨some 47, .mv (.t 14), none, []⟩,
  ⟨some 48, .len (.t 47), none, []⟩,
  ⟨some 49, .mv (.c (.int .i64 0)), none, []⟩] [4, 5, 6, 13, 14, 15, 17, 33, 41, 42, 43, 47, 48, 49]
def c46_20 : ACode := .ops [⟨some 50, .bin .lss (.t 49) (.t 48), none, []⟩] [4, 5, 6, 13, 14, 15, 17, 33, 41, 42, 43, 47, 48, 49, 50]
def c46_21 : ACode := .cond (.t 50) .skip (.exit 4)
def c46_22 : ACode := .ops [⟨some 51, .ias (.t 47) (.t 49) 1, none, []⟩,
  ⟨some 52, .load 1 false (.t 51), none, []⟩,
  ⟨some 19, .mv (.t 52), none, []⟩] [4, 5, 6, 13, 14, 15, 17, 19, 33, 41, 42, 43, 47, 48, 49]
def c46_23 : ACode := .ops [⟨some 20, .alloc [.int .i64 0, .int .i64 0, .int .i64 0, .int .i64 0, .int .i64 0, .int .i64 0, .int .i64 0, .int .i64 0, .int .i64 0, .int .i64 0], none, []⟩] [4, 5, 6, 13, 14, 15, 17, 19, 20, 33, 41, 42, 43, 47, 48, 49]
def c46_24 : ACode := .ops [⟨some 54, .load 10 true (.t 17), none, [17]⟩,
  ⟨some 55, .mv (.t 13), none, []⟩,
  ⟨some 56, .mv (.t 19), none, []⟩,
  ⟨some 57, .call 58 [.t 54, .t 55, .t 56], none, []⟩,
  ⟨some 53, .mv (.t 57), none, []⟩,
  ⟨some 58, .ext (.t 53) 0, none, []⟩,
  ⟨some 59, .ext (.t 53) 1, none, []⟩,
  ⟨none, .store (.t 20) 10 (.t 58), none, [20]⟩,
  ⟨none, .store (.t 17) 10 (.t 59), none, [17]⟩] [4, 5, 6, 13, 14, 15, 17, 20, 33, 41, 42, 43, 47, 48, 49]
def c46_25 : ACode := .ops [⟨some 60, .mv (.t 15), none, []⟩,
  ⟨some 61, .load 10 true (.t 20), none, [20]⟩,
  ⟨some 62, .mkrow 62 1 10 [.int .i64 0, .int .i64 0, .int .i64 0, .int .i64 0, .int .i64 0, .int .i64 0, .int .i64 0, .int .i64 0, .int .i64 0, .int .i64 0] [(0, 10, .t 61)], none, []⟩,
  ⟨some 63, .app 15 [15] (.t 60) (.t 62) 10, none, [15, 62]⟩,
  ⟨some 15, .mv (.t 63), none, []⟩] [4, 5, 6, 13, 14, 15, 17, 33, 41, 42, 43, 47, 48, 49]
def c46_26 : ACode := .seq c46_24 c46_25
def c46_27 : ACode := .seq c46_23 c46_26
def c46_28 : ACode := .seq c46_22 c46_27
def c46_29 : ACode := .block 5 c46_28
def c46_30 : ACode := .ops [⟨some 64, .bin .add (.t 49) (.c (.int .i64 1)), none, []⟩,
  ⟨some 49, .mv (.t 64), none, []⟩] [4, 5, 6, 13, 14, 15, 17, 33, 41, 42, 43, 47, 48, 49]
def c46_31 : ACode := .seq c46_29 c46_30
def c46_32 : ACode := .seq c46_21 c46_31
def c46_33 : ACode := .seq c46_20 c46_32
def c46_34 : ACode := .keep [4, 5, 6, 13, 14, 15, 17, 33, 41, 42, 43, 47, 48, 49] [4, 5, 6, 12, 15, 17] c46_33
def c46_35 : ACode := .loop c46_34
def c46_36 : ACode := .block 4 c46_35
def c46_37 : ACode := .seq c46_19 c46_36
def c46_38 : ACode := .ops [⟨some 65, .mv (.t 15), none, []⟩,
  ⟨some 66, .load 10 true (.t 17), none, [17]⟩,
  ⟨some 67, .mkrow 67 1 10 [.int .i64 0, .int .i64 0, .int .i64 0, .int .i64 0, .int .i64 0, .int .i64 0, .int .i64 0, .int .i64 0, .int .i64 0, .int .i64 0] [(0, 10, .t 66)], none, []⟩,
  ⟨some 68, .app 15 [15] (.t 65) (.t 67) 10, none, [15, 67]⟩,
  ⟨some 15, .mv (.t 68), none, []⟩] [4, 5, 6, 13, 14, 15, 33, 41, 42, 43]
def c46_39 : ACode := .seq c46_37 c46_38
def c46_40 : ACode := .seq c46_18 c46_39
def c46_41 : ACode := .block 3 c46_40
def c46_42 : ACode := .ops [⟨some 69, .bin .add (.t 43) (.c (.int .i64 1)), none, []⟩,
  ⟨some 43, .mv (.t 69), none, []⟩] [4, 5, 6, 13, 14, 15, 33, 41, 42, 43]
def c46_43 : ACode := .seq c46_41 c46_42
def c46_44 : ACode := .seq c46_17 c46_43
def c46_45 : ACode := .seq c46_16 c46_44
def c46_46 : ACode := .keep [4, 5, 6, 13, 14, 15, 33, 41, 42, 43] [4, 5, 6, 12, 15] c46_45
def c46_47 : ACode := .loop c46_46
def c46_48 : ACode := .block 2 c46_47
def c46_49 : ACode := .seq c46_15 c46_48
def c46_50 : ACode := .ops [⟨some 70, .mv (.t 15), none, []⟩,
  ⟨some 12, .frz (.t 70), none, [15]⟩] [4, 5, 6, 12, 33]
def c46_51 : ACode := .seq c46_49 c46_50
def c46_52 : ACode := .seq c46_14 c46_51
def c46_53 : ACode := .seq c46_13 c46_52
def c46_54 : ACode := .seq c46_12 c46_53
def c46_55 : ACode := .block 1 c46_54
def c46_56 : ACode := .ops [⟨some 71, .bin .add (.t 33) (.c (.int .i64 1)), none, []⟩,
  ⟨some 33, .mv (.t 71), none, []⟩] [4, 5, 6, 12, 33]
def c46_57 : ACode := .seq c46_55 c46_56
def c46_58 : ACode := .seq c46_11 c46_57
def c46_59 : ACode := .seq c46_10 c46_58
def c46_60 : ACode := .keep [4, 5, 6, 12, 33] [4, 5, 6, 12] c46_59
def c46_61 : ACode := .loop c46_60
def c46_62 : ACode := .block 0 c46_61
def c46_63 : ACode := .seq c46_9 c46_62
def c46_64 : ACode := .ops [⟨some 72, .mv (.t 12), none, []⟩,
  ⟨some 8, .mv (.t 72), none, []⟩,
  ⟨some 9, .mv (.c (.bool true)), none, []⟩] [8, 9]
def c46_65 : ACode := .seq c46_64 .ret
def c46_66 : ACode := .seq c46_63 c46_65
def c46_67 : ACode := .seq c46_8 c46_66
def c46_68 : ACode := .seq c46_7 c46_67
def c46_69 : ACode := .seq c46_0 c46_68
def a46 : AFun := ⟨4, 73, c46_69, [.t 8, .t 9]⟩
def c100_0 : ACode := .ops [⟨some 1, .box (.t 0) 10, none, []⟩,
  ⟨some 2, .alloc [.int .i64 0, .int .i64 0, .int .i64 0, .int .i64 0], none, []⟩] [1, 2]
theorem r100_0 : type_of% (@rr _ _ c100_0.eq_1) := rr c100_0.eq_1
def c100_1 : ACode := .ops [⟨some 3, .alloc [.int .i64 0, .int .i64 0, .int .i64 0, .int .i64 0], none, []⟩] [1, 2, 3]
theorem r100_1 : type_of% (@rr _ _ c100_1.eq_1) := rr c100_1.eq_1
def c100_2 : ACode := .ops [⟨some 5, .mv (.c (.int .i64 0)), none, []⟩] [1, 2, 3, 5]
theorem r100_2 : type_of% (@rr _ _ c100_2.eq_1) := rr c100_2.eq_1
def c100_3 : ACode := .ops [⟨some 6, .bin .lss (.t 5) (.c (.int .i64 4)), none, []⟩] [1, 2, 3, 5, 6]
theorem r100_3 : type_of% (@rr _ _ c100_3.eq_1) := rr c100_3.eq_1
def c100_4 : ACode := .cond (.t 6) .skip (.exit 0)
theorem r100_4 : type_of% (@rr _ _ c100_4.eq_1) := rr c100_4.eq_1
def c100_5 : ACode := .ops [⟨some 7, .mv (.t 5), none, []⟩,
  ⟨some 4, .mv (.t 7), none, []⟩] [1, 2, 3, 4, 5]
theorem r100_5 : type_of% (@rr _ _ c100_5.eq_1) := rr c100_5.eq_1
def c100_6 : ACode := .ops [⟨some 8, .mv (.t 4), none, []⟩,
  ⟨some 9, .mv (.t 4), none, []⟩,
  ⟨some 10, .iad (.t 1) (.t 9) 2 5, none, [1]⟩,
  ⟨some 11, .fad (.t 10) 0, none, [1]⟩,
  ⟨some 12, .load 1 false (.t 11), none, [1]⟩,
  ⟨some 13, .iad (.t 3) (.t 8) 1 4, none, [3]⟩,
  ⟨none, .store (.t 13) 1 (.t 12), none, [3]⟩] [1, 2, 3, 5]
theorem r100_6 : type_of% (@rr _ _ c100_6.eq_1) := rr c100_6.eq_1
def c100_7 : ACode := .seq c100_5 c100_6
theorem r100_7 : type_of% (@rr _ _ c100_7.eq_1) := rr c100_7.eq_1
def c100_8 : ACode := .block 1 c100_7
theorem r100_8 : type_of% (@rr _ _ c100_8.eq_1) := rr c100_8.eq_1
def c100_9 : ACode := .ops [⟨some 14, .bin .add (.t 5) (.c (.int .i64 1)), none, []⟩,
  ⟨some 5, .mv (.t 14), none, []⟩] [1, 2, 3, 5]
theorem r100_9 : type_of% (@rr _ _ c100_9.eq_1) := rr c100_9.eq_1
def c100_10 : ACode := .seq c100_8 c100_9
theorem r100_10 : type_of% (@rr _ _ c100_10.eq_1) := rr c100_10.eq_1
def c100_11 : ACode := .seq c100_4 c100_10
theorem r100_11 : type_of% (@rr _ _ c100_11.eq_1) := rr c100_11.eq_1
def c100_12 : ACode := .seq c100_3 c100_11
theorem r100_12 : type_of% (@rr _ _ c100_12.eq_1) := rr c100_12.eq_1
def c100_13 : ACode := .keep [1, 2, 3, 5] [1, 2, 3] c100_12
theorem r100_13 : type_of% (@rr _ _ c100_13.eq_1) := rr c100_13.eq_1
def c100_14 : ACode := .loop c100_13
theorem r100_14 : type_of% (@rr _ _ c100_14.eq_1) := rr c100_14.eq_1
def c100_15 : ACode := .block 0 c100_14
theorem r100_15 : type_of% (@rr _ _ c100_15.eq_1) := rr c100_15.eq_1
def c100_16 : ACode := .seq c100_2 c100_15
theorem r100_16 : type_of% (@rr _ _ c100_16.eq_1) := rr c100_16.eq_1
def c100_17 : ACode := .ops [⟨some 15, .load 4 true (.t 3), none, [3]⟩,
  ⟨none, .store (.t 2) 4 (.t 15), none, [2]⟩] [2]
theorem r100_17 : type_of% (@rr _ _ c100_17.eq_1) := rr c100_17.eq_1
def c100_18 : ACode := .seq c100_17 .ret
theorem r100_18 : type_of% (@rr _ _ c100_18.eq_1) := rr c100_18.eq_1
def c100_19 : ACode := .seq c100_16 c100_18
theorem r100_19 : type_of% (@rr _ _ c100_19.eq_1) := rr c100_19.eq_1
def c100_20 : ACode := .seq c100_1 c100_19
theorem r100_20 : type_of% (@rr _ _ c100_20.eq_1) := rr c100_20.eq_1
def c100_21 : ACode := .seq c100_0 c100_20
theorem r100_21 : type_of% (@rr _ _ c100_21.eq_1) := rr c100_21.eq_1
def a100 : AFun := ⟨1, 16, c100_21, [.cell 2 4 true]⟩
attribute [simp] r100_0 r100_1 r100_2 r100_3 r100_4 r100_5 r100_6 r100_7 r100_8 r100_9 r100_10 r100_11 r100_12 r100_13 r100_14 r100_15 r100_16 r100_17 r100_18 r100_19 r100_20 r100_21
theorem m100 : mFun Try.prog Try.f100 a100 = true := by decide +kernel
set_option maxRecDepth 8000 in
theorem runs_Low (b : Box) (r : Point) (h : some (lowB b) = some r) : Runs (tbl []) a100 [Arg.enc b] (Arg.enc r) := by
  cases h
  refine ⟨rfl, fun g => run_def ?_⟩
  unfold a100 lowB
  simp -implicitDefEqProofs [run_round]
theorem c_Low : Contract Try.prog 100 (sp1 fun b => some (lowB b)) :=
  contract_of_runs mixed tbl_nil Try.func100 m100 (sp1_runs runs_Low)
def corner (m : Model) (q : Query) (b : Box) : Bool := breaks m q (lowB b) b.s4.hi
@[simp] theorem dec_ref_query (q : Query) : (Arg.dec (.ipt 0 [.int .i64 q.kind, .int .i64 q.cls, .int .i64 q.region.s0.lo, .int .i64 q.region.s0.hi, .int .i64 q.region.s1.lo, .int .i64 q.region.s1.hi, .int .i64 q.region.s2.lo, .int .i64 q.region.s2.hi, .int .i64 q.region.s3.lo, .int .i64 q.region.s3.hi, .int .i64 q.region.s4.lo, .int .i64 q.region.s4.hi, .int .i64 q.lo, .int .i64 q.hi, .int .i64 q.feature, .bool q.falls, .int .i64 q.budget]) : Option (Ref Query)) = some ⟨q⟩ := Arg.dec_enc (⟨q⟩ : Ref Query)
structure CloH where
  m : Model
  q : Query
instance : Arg CloH where
  enc r := .clo 99 [.ipt 0 (Row.enc r.m), .ipt 0 (Row.enc r.q)]
  dec x := match x with
    | .clo f [.ipt 0 xs, .ipt 0 ys] => if f = 99 then (Row.dec xs).bind fun m => (Row.dec ys).map fun q => CloH.mk m q else none
    | _ => none
  dec_enc r := by simp only [if_true, Row.dec_enc]; rfl
  enc_dec x r h := by
    split at h
    · split at h
      · rename_i he
        rw [Option.bind_eq_some_iff] at h
        obtain ⟨a, ha, h⟩ := h
        rw [Option.map_eq_some_iff] at h
        obtain ⟨c, hc, rfl⟩ := h
        rw [Row.enc_dec _ _ ha, Row.enc_dec _ _ hc, he]
      · cases h
    · cases h
@[simp] theorem enc_cloh (r : CloH) : Arg.enc r = .clo 99 [.ipt 0 (Row.enc r.m), .ipt 0 (Row.enc r.q)] := rfl
@[simp] theorem dec_cloh (m : Model) (q : Query) : (Arg.dec (.clo 99 [.ipt 0 [.int .i64 m.dim, .int .i64 m.classes, .int .i64 m.bias.b0, .int .i64 m.bias.b1, .int .i64 m.bias.b2, .lst m.trees.length (encL m.trees)], .ipt 0 [.int .i64 q.kind, .int .i64 q.cls, .int .i64 q.region.s0.lo, .int .i64 q.region.s0.hi, .int .i64 q.region.s1.lo, .int .i64 q.region.s1.hi, .int .i64 q.region.s2.lo, .int .i64 q.region.s2.hi, .int .i64 q.region.s3.lo, .int .i64 q.region.s3.hi, .int .i64 q.region.s4.lo, .int .i64 q.region.s4.hi, .int .i64 q.lo, .int .i64 q.hi, .int .i64 q.feature, .bool q.falls, .int .i64 q.budget]]) : Option CloH) = some ⟨m, q⟩ := Arg.dec_enc (⟨m, q⟩ : CloH)
end Go.Co
