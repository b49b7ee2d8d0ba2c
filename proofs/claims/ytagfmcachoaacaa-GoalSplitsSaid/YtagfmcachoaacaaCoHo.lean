/- CO: the cells of a box; does a query hold? -/
import Derived.Test.YtagfmcachoaacaaCoCe
import Derived.Test.YtagfmcachoaacaaCoK
namespace Go.Co
open Go.Am Go.Proofs
set_option linter.unusedSimpArgs false
set_option linter.unusedVariables false
attribute [-simp] Go.Am.eff_gcall
def c53_0 : ACode := .ops [⟨some 4, .box (.t 0) 6, none, []⟩,
  ⟨some 5, .box (.t 1) 17, none, []⟩,
  ⟨some 6, .box (.t 2) 10, none, []⟩,
  ⟨some 8, .mv (.c (.nils)), none, []⟩,
  ⟨some 9, .mv (.c (.bool false)), none, []⟩] [3, 4, 5, 6]
def c53_1 : ACode := .ops [⟨some 22, .load 6 true (.t 4), none, [4]⟩,
  ⟨some 23, .load 17 true (.t 5), none, [5]⟩,
  ⟨some 24, .load 10 true (.t 6), none, [6]⟩,
  ⟨some 25, .mv (.t 3), none, []⟩,
  ⟨some 26, .call 75 [.t 22, .t 23, .t 24, .t 25], none, []⟩,
  ⟨some 21, .mv (.t 26), none, []⟩,
  ⟨some 27, .ext (.t 21) 0, none, []⟩,
  ⟨some 28, .ext (.t 21) 1, none, []⟩,
  ⟨some 10, .mv (.t 27), none, []⟩,
  ⟨some 11, .mv (.t 28), none, []⟩] [4, 5, 6, 11]
def c53_2 : ACode := .ops [⟨some 29, .mv (.t 11), none, []⟩,
  ⟨some 30, .un .not (.t 29), none, []⟩] [4, 5, 6, 30]
def c53_3 : ACode := .ops [⟨some 8, .mv (.c (.nils)), none, []⟩,
  ⟨some 9, .mv (.c (.bool false)), none, []⟩] [8, 9]
def c53_4 : ACode := .seq c53_3 .ret
def c53_5 : ACode := .cond (.t 30) c53_4 .skip
def c53_6 : ACode := .seq c53_2 c53_5
def c53_7 : ACode := .seq c53_1 c53_6
def c53_8 : ACode := .ops [⟨some 31, .load 10 true (.t 6), none, [6]⟩,
  ⟨some 32, .mkrow 12 1 10 [.int .i64 0, .int .i64 0, .int .i64 0, .int .i64 0, .int .i64 0, .int .i64 0, .int .i64 0, .int .i64 0, .int .i64 0, .int .i64 0] [(0, 10, .t 31)], none, []⟩,
  ⟨some 12, .mv (.t 32), none, []⟩] [4, 5, 6, 12]
def c53_9 : ACode := .ops [⟨some 33, .mv (.c (.int .i64 0)), none, []⟩] [4, 5, 6, 12, 33]
def c53_10 : ACode := .ops [⟨some 34, .bin .lss (.t 33) (.c (.int .i64 5)), none, []⟩] [4, 5, 6, 12, 33, 34]
def c53_11 : ACode := .cond (.t 34) .skip (.exit 0)
def c53_12 : ACode := .ops [⟨some 35, .mv (.t 33), none, []⟩,
  ⟨some 13, .mv (.t 35), none, []⟩] [4, 5, 6, 12, 13, 33]
def c53_13 : ACode := .ops [⟨some 36, .load 6 true (.t 4), none, [4]⟩,
  ⟨some 37, .load 17 true (.t 5), none, [5]⟩,
  ⟨some 38, .load 10 true (.t 6), none, [6]⟩,
  ⟨some 39, .mv (.t 13), none, []⟩,
  ⟨some 40, .call 19 [.t 36, .t 37, .t 38, .t 39], none, []⟩,
  ⟨some 14, .mv (.t 40), none, []⟩] [4, 5, 6, 12, 13, 14, 33]
def c53_14 : ACode := .ops [⟨some 15, .nil0 15 10, none, []⟩] [4, 5, 6, 12, 13, 14, 15, 33]
def c53_15 : ACode := .ops [⟨some 41, .mv (.t 12), none, []⟩,
  ⟨some 42, .len (.t 41), none, [12]⟩,
  ⟨some 43, .mv (.c (.int .i64 0)), none, []⟩] [4, 5, 6, 13, 14, 15, 33, 41, 42, 43]
def c53_16 : ACode := .ops [⟨some 44, .bin .lss (.t 43) (.t 42), none, []⟩] [4, 5, 6, 13, 14, 15, 33, 41, 42, 43, 44]
def c53_17 : ACode := .cond (.t 44) .skip (.exit 2)
def c53_18 : ACode := .ops [⟨some 45, .ias (.t 41) (.t 43) 10, none, [12]⟩,
  ⟨some 46, .load 10 true (.t 45), none, [12]⟩,
  ⟨some 17, .alloc [.int .i64 0, .int .i64 0, .int .i64 0, .int .i64 0, .int .i64 0, .int .i64 0, .int .i64 0, .int .i64 0, .int .i64 0, .int .i64 0], none, []⟩,
  ⟨none, .store (.t 17) 10 (.t 46), none, [17]⟩] [4, 5, 6, 13, 14, 15, 17, 33, 41, 42, 43]
def c53_19 : ACode := .ops [⟨some 47, .mv (.t 14), none, []⟩,
  ⟨some 48, .len (.t 47), none, []⟩,
  ⟨some 49, .mv (.c (.int .i64 0)), none, []⟩] [4, 5, 6, 13, 14, 15, 17, 33, 41, 42, 43, 47, 48, 49]
def c53_20 : ACode := .ops [⟨some 50, .bin .lss (.t 49) (.t 48), none, []⟩] [4, 5, 6, 13, 14, 15, 17, 33, 41, 42, 43, 47, 48, 49, 50]
def c53_21 : ACode := .cond (.t 50) .skip (.exit 4)
def c53_22 : ACode := .ops [⟨some 51, .ias (.t 47) (.t 49) 1, none, []⟩,
  ⟨some 52, .load 1 false (.t 51), none, []⟩,
  ⟨some 19, .mv (.t 52), none, []⟩] [4, 5, 6, 13, 14, 15, 17, 19, 33, 41, 42, 43, 47, 48, 49]
def c53_23 : ACode := .ops [⟨some 20, .alloc [.int .i64 0, .int .i64 0, .int .i64 0, .int .i64 0, .int .i64 0, .int .i64 0, .int .i64 0, .int .i64 0, .int .i64 0, .int .i64 0], none, []⟩] [4, 5, 6, 13, 14, 15, 17, 19, 20, 33, 41, 42, 43, 47, 48, 49]
def c53_24 : ACode := .ops [⟨some 54, .load 10 true (.t 17), none, [17]⟩,
  ⟨some 55, .mv (.t 13), none, []⟩,
  ⟨some 56, .mv (.t 19), none, []⟩,
  ⟨some 57, .call 15 [.t 54, .t 55, .t 56], none, []⟩,
  ⟨some 53, .mv (.t 57), none, []⟩,
  ⟨some 58, .ext (.t 53) 0, none, []⟩,
  ⟨some 59, .ext (.t 53) 1, none, []⟩,
  ⟨none, .store (.t 20) 10 (.t 58), none, [20]⟩,
  ⟨none, .store (.t 17) 10 (.t 59), none, [17]⟩] [4, 5, 6, 13, 14, 15, 17, 20, 33, 41, 42, 43, 47, 48, 49]
def c53_25 : ACode := .ops [⟨some 60, .mv (.t 15), none, []⟩,
  ⟨some 61, .load 10 true (.t 20), none, [20]⟩,
  ⟨some 62, .mkrow 62 1 10 [.int .i64 0, .int .i64 0, .int .i64 0, .int .i64 0, .int .i64 0, .int .i64 0, .int .i64 0, .int .i64 0, .int .i64 0, .int .i64 0] [(0, 10, .t 61)], none, []⟩,
  ⟨some 63, .app 15 [15] (.t 60) (.t 62) 10, none, [15, 62]⟩,
  ⟨some 15, .mv (.t 63), none, []⟩] [4, 5, 6, 13, 14, 15, 17, 33, 41, 42, 43, 47, 48, 49]
def c53_26 : ACode := .seq c53_24 c53_25
def c53_27 : ACode := .seq c53_23 c53_26
def c53_28 : ACode := .seq c53_22 c53_27
def c53_29 : ACode := .block 5 c53_28
def c53_30 : ACode := .ops [⟨some 64, .bin .add (.t 49) (.c (.int .i64 1)), none, []⟩,
  ⟨some 49, .mv (.t 64), none, []⟩] [4, 5, 6, 13, 14, 15, 17, 33, 41, 42, 43, 47, 48, 49]
def c53_31 : ACode := .seq c53_29 c53_30
def c53_32 : ACode := .seq c53_21 c53_31
def c53_33 : ACode := .seq c53_20 c53_32
def c53_34 : ACode := .keep [4, 5, 6, 13, 14, 15, 17, 33, 41, 42, 43, 47, 48, 49] [4, 5, 6, 12, 15, 17] c53_33
def c53_35 : ACode := .loop c53_34
def c53_36 : ACode := .block 4 c53_35
def c53_37 : ACode := .seq c53_19 c53_36
def c53_38 : ACode := .ops [⟨some 65, .mv (.t 15), none, []⟩,
  ⟨some 66, .load 10 true (.t 17), none, [17]⟩,
  ⟨some 67, .mkrow 67 1 10 [.int .i64 0, .int .i64 0, .int .i64 0, .int .i64 0, .int .i64 0, .int .i64 0, .int .i64 0, .int .i64 0, .int .i64 0, .int .i64 0] [(0, 10, .t 66)], none, []⟩,
  ⟨some 68, .app 15 [15] (.t 65) (.t 67) 10, none, [15, 67]⟩,
  ⟨some 15, .mv (.t 68), none, []⟩] [4, 5, 6, 13, 14, 15, 33, 41, 42, 43]
def c53_39 : ACode := .seq c53_37 c53_38
def c53_40 : ACode := .seq c53_18 c53_39
def c53_41 : ACode := .block 3 c53_40
def c53_42 : ACode := .ops [⟨some 69, .bin .add (.t 43) (.c (.int .i64 1)), none, []⟩,
  ⟨some 43, .mv (.t 69), none, []⟩] [4, 5, 6, 13, 14, 15, 33, 41, 42, 43]
def c53_43 : ACode := .seq c53_41 c53_42
def c53_44 : ACode := .seq c53_17 c53_43
def c53_45 : ACode := .seq c53_16 c53_44
def c53_46 : ACode := .keep [4, 5, 6, 13, 14, 15, 33, 41, 42, 43] [4, 5, 6, 12, 15] c53_45
def c53_47 : ACode := .loop c53_46
def c53_48 : ACode := .block 2 c53_47
def c53_49 : ACode := .seq c53_15 c53_48
def c53_50 : ACode := .ops [⟨some 70, .mv (.t 15), none, []⟩,
  ⟨some 12, .frz (.t 70), none, [15]⟩] [4, 5, 6, 12, 33]
def c53_51 : ACode := .seq c53_49 c53_50
def c53_52 : ACode := .seq c53_14 c53_51
def c53_53 : ACode := .seq c53_13 c53_52
def c53_54 : ACode := .seq c53_12 c53_53
def c53_55 : ACode := .block 1 c53_54
def c53_56 : ACode := .ops [⟨some 71, .bin .add (.t 33) (.c (.int .i64 1)), none, []⟩,
  ⟨some 33, .mv (.t 71), none, []⟩] [4, 5, 6, 12, 33]
def c53_57 : ACode := .seq c53_55 c53_56
def c53_58 : ACode := .seq c53_11 c53_57
def c53_59 : ACode := .seq c53_10 c53_58
def c53_60 : ACode := .keep [4, 5, 6, 12, 33] [4, 5, 6, 12] c53_59
def c53_61 : ACode := .loop c53_60
def c53_62 : ACode := .block 0 c53_61
def c53_63 : ACode := .seq c53_9 c53_62
def c53_64 : ACode := .ops [⟨some 72, .mv (.t 12), none, []⟩,
  ⟨some 8, .mv (.t 72), none, []⟩,
  ⟨some 9, .mv (.c (.bool true)), none, []⟩] [8, 9]
def c53_65 : ACode := .seq c53_64 .ret
def c53_66 : ACode := .seq c53_63 c53_65
def c53_67 : ACode := .seq c53_8 c53_66
def c53_68 : ACode := .seq c53_7 c53_67
def c53_69 : ACode := .seq c53_0 c53_68
def a53 : AFun := ⟨4, 73, c53_69, [.t 8, .t 9]⟩
def c37_0 : ACode := .ops [⟨some 1, .box (.t 0) 10, none, []⟩,
  ⟨some 2, .alloc [.int .i64 0, .int .i64 0, .int .i64 0, .int .i64 0], none, []⟩] [1, 2]
def c37_1 : ACode := .ops [⟨some 3, .alloc [.int .i64 0, .int .i64 0, .int .i64 0, .int .i64 0], none, []⟩] [1, 2, 3]
def c37_2 : ACode := .ops [⟨some 5, .mv (.c (.int .i64 0)), none, []⟩] [1, 2, 3, 5]
def c37_3 : ACode := .ops [⟨some 6, .bin .lss (.t 5) (.c (.int .i64 4)), none, []⟩] [1, 2, 3, 5, 6]
def c37_4 : ACode := .cond (.t 6) .skip (.exit 0)
def c37_5 : ACode := .ops [⟨some 7, .mv (.t 5), none, []⟩,
  ⟨some 4, .mv (.t 7), none, []⟩] [1, 2, 3, 4, 5]
def c37_6 : ACode := .ops [⟨some 8, .mv (.t 4), none, []⟩,
  ⟨some 9, .mv (.t 4), none, []⟩,
  ⟨some 10, .iad (.t 1) (.t 9) 2 5, none, [1]⟩,
  ⟨some 11, .fad (.t 10) 0, none, [1]⟩,
  ⟨some 12, .load 1 false (.t 11), none, [1]⟩,
  ⟨some 13, .iad (.t 3) (.t 8) 1 4, none, [3]⟩,
  ⟨none, .store (.t 13) 1 (.t 12), none, [3]⟩] [1, 2, 3, 5]
def c37_7 : ACode := .seq c37_5 c37_6
def c37_8 : ACode := .block 1 c37_7
def c37_9 : ACode := .ops [⟨some 14, .bin .add (.t 5) (.c (.int .i64 1)), none, []⟩,
  ⟨some 5, .mv (.t 14), none, []⟩] [1, 2, 3, 5]
def c37_10 : ACode := .seq c37_8 c37_9
def c37_11 : ACode := .seq c37_4 c37_10
def c37_12 : ACode := .seq c37_3 c37_11
def c37_13 : ACode := .keep [1, 2, 3, 5] [1, 2, 3] c37_12
def c37_14 : ACode := .loop c37_13
def c37_15 : ACode := .block 0 c37_14
def c37_16 : ACode := .seq c37_2 c37_15
def c37_17 : ACode := .ops [⟨some 15, .load 4 true (.t 3), none, [3]⟩,
  ⟨none, .store (.t 2) 4 (.t 15), none, [2]⟩] [2]
def c37_18 : ACode := .seq c37_17 .ret
def c37_19 : ACode := .seq c37_16 c37_18
def c37_20 : ACode := .seq c37_1 c37_19
def c37_21 : ACode := .seq c37_0 c37_20
def a37 : AFun := ⟨1, 16, c37_21, [.cell 2 4 true]⟩
theorem m37 : mFun Try.prog Try.f37 a37 = true := by decide +kernel
def corner (m : Model) (q : Query) (b : Box) : Bool := breaks m q (lowB b) b.s4.hi
@[simp] theorem dec_ref_query (q : Query) : (Arg.dec (.ipt 0 [.int .i64 q.kind, .int .i64 q.cls, .int .i64 q.region.s0.lo, .int .i64 q.region.s0.hi, .int .i64 q.region.s1.lo, .int .i64 q.region.s1.hi, .int .i64 q.region.s2.lo, .int .i64 q.region.s2.hi, .int .i64 q.region.s3.lo, .int .i64 q.region.s3.hi, .int .i64 q.region.s4.lo, .int .i64 q.region.s4.hi, .int .i64 q.lo, .int .i64 q.hi, .int .i64 q.feature, .bool q.falls, .int .i64 q.budget]) : Option (Ref Query)) = some ⟨q⟩ := Arg.dec_enc (⟨q⟩ : Ref Query)
structure CloH where
  m : Model
  q : Query
instance : Arg CloH where
  enc r := .clo 55 [.ipt 0 (Row.enc r.m), .ipt 0 (Row.enc r.q)]
  dec x := match x with
    | .clo f [.ipt 0 xs, .ipt 0 ys] => if f = 55 then (Row.dec xs).bind fun m => (Row.dec ys).map fun q => CloH.mk m q else none
    | _ => none
  dec_enc r := by simp only [if_true, Row.dec_enc]; rfl
  enc_dec x r h := by
    split at h
    · split at h
      · rename_i he
        rw [Option.bind_eq_some_iff] at h
        obtain ⟨a, ha, h⟩ := h
        rw [Option.map_eq_some_iff] at h
        obtain ⟨c, hc, rfl⟩ := h
        rw [Row.enc_dec _ _ ha, Row.enc_dec _ _ hc, he]
      · cases h
    · cases h
@[simp] theorem enc_cloh (r : CloH) : Arg.enc r = .clo 55 [.ipt 0 (Row.enc r.m), .ipt 0 (Row.enc r.q)] := rfl
@[simp] theorem dec_cloh (m : Model) (q : Query) : (Arg.dec (.clo 55 [.ipt 0 [.int .i64 m.dim, .int .i64 m.classes, .int .i64 m.bias.b0, .int .i64 m.bias.b1, .int .i64 m.bias.b2, .lst m.trees.length (encL m.trees)], .ipt 0 [.int .i64 q.kind, .int .i64 q.cls, .int .i64 q.region.s0.lo, .int .i64 q.region.s0.hi, .int .i64 q.region.s1.lo, .int .i64 q.region.s1.hi, .int .i64 q.region.s2.lo, .int .i64 q.region.s2.hi, .int .i64 q.region.s3.lo, .int .i64 q.region.s3.hi, .int .i64 q.region.s4.lo, .int .i64 q.region.s4.hi, .int .i64 q.lo, .int .i64 q.hi, .int .i64 q.feature, .bool q.falls, .int .i64 q.budget]]) : Option CloH) = some ⟨m, q⟩ := Arg.dec_enc (⟨m, q⟩ : CloH)
end Go.Co
