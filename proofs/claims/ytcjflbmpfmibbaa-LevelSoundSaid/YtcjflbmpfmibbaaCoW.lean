/- CO: meeting pieces, levels, the range. -/
import Derived.Test.YtcjflbmpfmibbaaCoM
import Derived.Test.YtcjflbmpfmibbaaCoLev
namespace Go.Co
open Go.Am Go.Proofs
set_option linter.unusedSimpArgs false
set_option linter.unusedVariables false
def c161_0 : ACode := .ops [⟨some 6, .mv (.c (.nils)), none, []⟩,
  ⟨some 7, .mv (.c (.bool false)), none, []⟩] [0, 1, 2]
theorem r161_0 : type_of% (@rr _ _ c161_0.eq_1) := rr c161_0.eq_1
def c161_1 : ACode := .ops [⟨some 8, .nil0 8 11, none, []⟩] [0, 1, 2, 8]
theorem r161_1 : type_of% (@rr _ _ c161_1.eq_1) := rr c161_1.eq_1
def c161_2 : ACode := .ops [⟨some 14, .mv (.t 0), none, []⟩,
  ⟨some 15, .len (.t 14), none, []⟩,
  ⟨some 16, .mv (.c (.int .i64 0)), none, []⟩] [1, 2, 8, 14, 15, 16]
theorem r161_2 : type_of% (@rr _ _ c161_2.eq_1) := rr c161_2.eq_1
def c161_3 : ACode := .ops [⟨some 17, .bin .lss (.t 16) (.t 15), none, []⟩] [1, 2, 8, 14, 15, 16, 17]
theorem r161_3 : type_of% (@rr _ _ c161_3.eq_1) := rr c161_3.eq_1
def c161_4 : ACode := .cond (.t 17) .skip (.exit 0)
theorem r161_4 : type_of% (@rr _ _ c161_4.eq_1) := rr c161_4.eq_1
def c161_5 : ACode := .ops [⟨some 18, .ias (.t 14) (.t 16) 11, none, []⟩,
  ⟨some 19, .load 11 true (.t 18), none, []⟩,
  ⟨some 10, .alloc [.int .i64 0, .int .i64 0, .int .i64 0, .int .i64 0, .int .i64 0, .int .i64 0, .int .i64 0, .int .i64 0, .int .i64 0, .int .i64 0, .int .i64 0], none, []⟩,
  ⟨none, .store (.t 10) 11 (.t 19), none, [10]⟩] [1, 2, 8, 10, 14, 15, 16]
theorem r161_5 : type_of% (@rr _ _ c161_5.eq_1) := rr c161_5.eq_1
def c161_6 : ACode := .ops [⟨some 20, .mv (.t 1), none, []⟩,
  ⟨some 21, .len (.t 20), none, []⟩,
  ⟨some 22, .mv (.c (.int .i64 0)), none, []⟩] [1, 2, 8, 10, 14, 15, 16, 20, 21, 22]
theorem r161_6 : type_of% (@rr _ _ c161_6.eq_1) := rr c161_6.eq_1
def c161_7 : ACode := .ops [⟨some 23, .bin .lss (.t 22) (.t 21), none, []⟩] [1, 2, 8, 10, 14, 15, 16, 20, 21, 22, 23]
theorem r161_7 : type_of% (@rr _ _ c161_7.eq_1) := rr c161_7.eq_1
def c161_8 : ACode := .cond (.t 23) .skip (.exit 2)
theorem r161_8 : type_of% (@rr _ _ c161_8.eq_1) := rr c161_8.eq_1
def c161_9 : ACode := .ops [⟨some 24, .ias (.t 20) (.t 22) 11, none, []⟩,
  ⟨some 25, .load 11 true (.t 24), none, []⟩,
  ⟨some 12, .alloc [.int .i64 0, .int .i64 0, .int .i64 0, .int .i64 0, .int .i64 0, .int .i64 0, .int .i64 0, .int .i64 0, .int .i64 0, .int .i64 0, .int .i64 0], none, []⟩,
  ⟨none, .store (.t 12) 11 (.t 25), none, [12]⟩] [1, 2, 8, 10, 12, 14, 15, 16, 20, 21, 22]
theorem r161_9 : type_of% (@rr _ _ c161_9.eq_1) := rr c161_9.eq_1
def c161_10 : ACode := .ops [⟨some 26, .fad (.t 10) 0, none, [10]⟩,
  ⟨some 27, .load 10 true (.t 26), none, [10]⟩,
  ⟨some 28, .fad (.t 12) 0, none, [12]⟩,
  ⟨some 29, .load 10 true (.t 28), none, [12]⟩,
  ⟨some 30, .call 169 [.t 27, .t 29], none, []⟩,
  ⟨some 13, .alloc [.int .i64 0, .int .i64 0, .int .i64 0, .int .i64 0, .int .i64 0, .int .i64 0, .int .i64 0, .int .i64 0, .int .i64 0, .int .i64 0], none, []⟩,
  ⟨none, .store (.t 13) 10 (.t 30), none, [13]⟩] [1, 2, 8, 10, 12, 13, 14, 15, 16, 20, 21, 22]
theorem r161_10 : type_of% (@rr _ _ c161_10.eq_1) := rr c161_10.eq_1
def c161_11 : ACode := .ops [⟨some 31, .load 10 true (.t 13), none, [13]⟩,
  ⟨some 32, .call 66 [.t 31], none, []⟩] [1, 2, 8, 10, 12, 13, 14, 15, 16, 20, 21, 22, 32]
theorem r161_11 : type_of% (@rr _ _ c161_11.eq_1) := rr c161_11.eq_1
def c161_12 : ACode := .cond (.t 32) (.exit 3) .skip
theorem r161_12 : type_of% (@rr _ _ c161_12.eq_1) := rr c161_12.eq_1
def c161_13 : ACode := .seq c161_11 c161_12
theorem r161_13 : type_of% (@rr _ _ c161_13.eq_1) := rr c161_13.eq_1
def c161_14 : ACode := .ops [⟨some 33, .mv (.t 8), none, []⟩,
  ⟨some 34, .len (.t 33), none, [8]⟩,
  ⟨some 35, .mv (.t 2), none, []⟩,
  ⟨some 36, .bin .geq (.t 34) (.t 35), none, []⟩] [1, 2, 8, 10, 12, 13, 14, 15, 16, 20, 21, 22, 36]
theorem r161_14 : type_of% (@rr _ _ c161_14.eq_1) := rr c161_14.eq_1
def c161_15 : ACode := .ops [⟨some 6, .mv (.c (.nils)), none, []⟩,
  ⟨some 7, .mv (.c (.bool false)), none, []⟩] [6, 7]
theorem r161_15 : type_of% (@rr _ _ c161_15.eq_1) := rr c161_15.eq_1
def c161_16 : ACode := .seq c161_15 .ret
theorem r161_16 : type_of% (@rr _ _ c161_16.eq_1) := rr c161_16.eq_1
def c161_17 : ACode := .cond (.t 36) c161_16 .skip
theorem r161_17 : type_of% (@rr _ _ c161_17.eq_1) := rr c161_17.eq_1
def c161_18 : ACode := .seq c161_14 c161_17
theorem r161_18 : type_of% (@rr _ _ c161_18.eq_1) := rr c161_18.eq_1
def c161_19 : ACode := .ops [⟨some 37, .mv (.t 8), none, []⟩,
  ⟨some 38, .load 10 true (.t 13), none, [13]⟩,
  ⟨some 39, .fad (.t 10) 10, none, [10]⟩,
  ⟨some 40, .load 1 false (.t 39), none, [10]⟩,
  ⟨some 41, .fad (.t 12) 10, none, [12]⟩,
  ⟨some 42, .load 1 false (.t 41), none, [12]⟩,
  ⟨some 43, .bin .add (.t 40) (.t 42), none, []⟩,
  ⟨some 44, .build [.int .i64 0, .int .i64 0, .int .i64 0, .int .i64 0, .int .i64 0, .int .i64 0, .int .i64 0, .int .i64 0, .int .i64 0, .int .i64 0, .int .i64 0] [(0, 10, .t 38), (10, 1, .t 43)], none, []⟩,
  ⟨some 45, .mkrow 45 1 11 [.int .i64 0, .int .i64 0, .int .i64 0, .int .i64 0, .int .i64 0, .int .i64 0, .int .i64 0, .int .i64 0, .int .i64 0, .int .i64 0, .int .i64 0] [(0, 11, .t 44)], none, []⟩,
  ⟨some 46, .app 8 [8] (.t 37) (.t 45) 11, none, [8, 45]⟩,
  ⟨some 8, .mv (.t 46), none, []⟩] [1, 2, 8, 10, 14, 15, 16, 20, 21, 22]
theorem r161_19 : type_of% (@rr _ _ c161_19.eq_1) := rr c161_19.eq_1
def c161_20 : ACode := .seq c161_18 c161_19
theorem r161_20 : type_of% (@rr _ _ c161_20.eq_1) := rr c161_20.eq_1
def c161_21 : ACode := .seq c161_13 c161_20
theorem r161_21 : type_of% (@rr _ _ c161_21.eq_1) := rr c161_21.eq_1
def c161_22 : ACode := .seq c161_10 c161_21
theorem r161_22 : type_of% (@rr _ _ c161_22.eq_1) := rr c161_22.eq_1
def c161_23 : ACode := .seq c161_9 c161_22
theorem r161_23 : type_of% (@rr _ _ c161_23.eq_1) := rr c161_23.eq_1
def c161_24 : ACode := .block 3 c161_23
theorem r161_24 : type_of% (@rr _ _ c161_24.eq_1) := rr c161_24.eq_1
def c161_25 : ACode := .ops [⟨some 47, .bin .add (.t 22) (.c (.int .i64 1)), none, []⟩,
  ⟨some 22, .mv (.t 47), none, []⟩] [1, 2, 8, 10, 14, 15, 16, 20, 21, 22]
theorem r161_25 : type_of% (@rr _ _ c161_25.eq_1) := rr c161_25.eq_1
def c161_26 : ACode := .seq c161_24 c161_25
theorem r161_26 : type_of% (@rr _ _ c161_26.eq_1) := rr c161_26.eq_1
def c161_27 : ACode := .seq c161_8 c161_26
theorem r161_27 : type_of% (@rr _ _ c161_27.eq_1) := rr c161_27.eq_1
def c161_28 : ACode := .seq c161_7 c161_27
theorem r161_28 : type_of% (@rr _ _ c161_28.eq_1) := rr c161_28.eq_1
def c161_29 : ACode := .keep [1, 2, 8, 10, 14, 15, 16, 20, 21, 22] [8, 10] c161_28
theorem r161_29 : type_of% (@rr _ _ c161_29.eq_1) := rr c161_29.eq_1
def c161_30 : ACode := .loop c161_29
theorem r161_30 : type_of% (@rr _ _ c161_30.eq_1) := rr c161_30.eq_1
def c161_31 : ACode := .block 2 c161_30
theorem r161_31 : type_of% (@rr _ _ c161_31.eq_1) := rr c161_31.eq_1
def c161_32 : ACode := .seq c161_6 c161_31
theorem r161_32 : type_of% (@rr _ _ c161_32.eq_1) := rr c161_32.eq_1
def c161_33 : ACode := .seq c161_5 c161_32
theorem r161_33 : type_of% (@rr _ _ c161_33.eq_1) := rr c161_33.eq_1
def c161_34 : ACode := .block 1 c161_33
theorem r161_34 : type_of% (@rr _ _ c161_34.eq_1) := rr c161_34.eq_1
def c161_35 : ACode := .ops [⟨some 48, .bin .add (.t 16) (.c (.int .i64 1)), none, []⟩,
  ⟨some 16, .mv (.t 48), none, []⟩] [1, 2, 8, 14, 15, 16]
theorem r161_35 : type_of% (@rr _ _ c161_35.eq_1) := rr c161_35.eq_1
def c161_36 : ACode := .seq c161_34 c161_35
theorem r161_36 : type_of% (@rr _ _ c161_36.eq_1) := rr c161_36.eq_1
def c161_37 : ACode := .seq c161_4 c161_36
theorem r161_37 : type_of% (@rr _ _ c161_37.eq_1) := rr c161_37.eq_1
def c161_38 : ACode := .seq c161_3 c161_37
theorem r161_38 : type_of% (@rr _ _ c161_38.eq_1) := rr c161_38.eq_1
def c161_39 : ACode := .keep [1, 2, 8, 14, 15, 16] [8] c161_38
theorem r161_39 : type_of% (@rr _ _ c161_39.eq_1) := rr c161_39.eq_1
def c161_40 : ACode := .loop c161_39
theorem r161_40 : type_of% (@rr _ _ c161_40.eq_1) := rr c161_40.eq_1
def c161_41 : ACode := .block 0 c161_40
theorem r161_41 : type_of% (@rr _ _ c161_41.eq_1) := rr c161_41.eq_1
def c161_42 : ACode := .seq c161_2 c161_41
theorem r161_42 : type_of% (@rr _ _ c161_42.eq_1) := rr c161_42.eq_1
def c161_43 : ACode := .ops [⟨some 49, .mv (.t 8), none, []⟩,
  ⟨some 6, .mv (.t 49), none, []⟩,
  ⟨some 7, .mv (.c (.bool true)), none, []⟩] [6, 7]
theorem r161_43 : type_of% (@rr _ _ c161_43.eq_1) := rr c161_43.eq_1
def c161_44 : ACode := .seq c161_43 .ret
theorem r161_44 : type_of% (@rr _ _ c161_44.eq_1) := rr c161_44.eq_1
def c161_45 : ACode := .seq c161_42 c161_44
theorem r161_45 : type_of% (@rr _ _ c161_45.eq_1) := rr c161_45.eq_1
def c161_46 : ACode := .seq c161_1 c161_45
theorem r161_46 : type_of% (@rr _ _ c161_46.eq_1) := rr c161_46.eq_1
def c161_47 : ACode := .seq c161_0 c161_46
theorem r161_47 : type_of% (@rr _ _ c161_47.eq_1) := rr c161_47.eq_1
def a161 : AFun := ⟨3, 50, c161_47, [.t 6, .t 7]⟩
attribute [simp] r161_0 r161_1 r161_2 r161_3 r161_4 r161_5 r161_6 r161_7 r161_8 r161_9 r161_10 r161_11 r161_12 r161_13 r161_14 r161_15 r161_16 r161_17 r161_18 r161_19 r161_20 r161_21 r161_22 r161_23 r161_24 r161_25 r161_26 r161_27 r161_28 r161_29 r161_30 r161_31 r161_32 r161_33 r161_34 r161_35 r161_36 r161_37 r161_38 r161_39 r161_40 r161_41 r161_42 r161_43 r161_44 r161_45 r161_46 r161_47
theorem m161 : mFun Try.prog Try.f161 a161 = true := by decide +kernel
set_option maxRecDepth 8000 in
theorem runs_bMeet (a b c : Box) (h : some (meetB a b) = some c) : Runs (tbl [(171, sp2 fun (a b : Span) => some (meetS a b))]) a169 [Arg.enc a, Arg.enc b] (Arg.enc c) := by
  cases h
  refine ⟨rfl, fun g => run_def ?_⟩
  unfold a169
  simp -implicitDefEqProofs [run_round, meetB]
theorem c_bMeet : Contract Try.prog 169 (sp2 fun (a b : Box) => some (meetB a b)) :=
  contract_of_runs mixed (tbl_cons c_sMeet tbl_nil) Try.func169 m169 (sp2_runs runs_bMeet)
def okG (g : List Piece) : Prop := (∀ x ∈ g, -(2 : Int) ^ 61 ≤ x.value ∧ x.value ≤ (2 : Int) ^ 61) ∧ g.length ≤ 1073741824
noncomputable def MeetC (a b : List Piece) (most : Int) : Option (List Piece × Bool) := Part (okG a ∧ okG b ∧ 0 ≤ most ∧ most ≤ 1073741824) (meetP a b most)
theorem rd_pc (l : List Piece) (i : Nat) (h : i < l.length) : rd (encL l) (i * 11) 11 true = some (.agg [.int .i64 l[i].box.s0.lo, .int .i64 l[i].box.s0.hi, .int .i64 l[i].box.s1.lo, .int .i64 l[i].box.s1.hi, .int .i64 l[i].box.s2.lo, .int .i64 l[i].box.s2.hi, .int .i64 l[i].box.s3.lo, .int .i64 l[i].box.s3.hi, .int .i64 l[i].box.s4.lo, .int .i64 l[i].box.s4.hi, .int .i64 l[i].value]) := rd_row l i h
set_option maxHeartbeats 4000000 in
theorem runs_cMeet (a b : List Piece) (most : Int) (c : List Piece × Bool) (h : MeetC a b most = some c) : Runs (tbl [(169, sp2 fun (a b : Box) => some (meetB a b)), (66, sp1 fun (b : Box) => some b.empty)]) a161 [Arg.enc a, Arg.enc b, Arg.enc most] (Arg.enc c) := by
  obtain ⟨⟨ha, hb, m0, m1⟩, rfl⟩ := part_some h
  clear h
  refine ⟨rfl, fun g => run_def ?_⟩
  unfold a161
  have la := ha.2
  have lb := hb.2
  have na : a.length ≤ maxN := by unfold maxN; omega
  have nb : b.length ≤ maxN := by unfold maxN; omega
  have p61 : (2 : Int) ^ 61 = 2305843009213693952 := by decide
  simp -implicitDefEqProofs [na, nb]
  refine run_while (c := c161_38) (fun n s => ∃ (i : Nat) (g : Nat → Nat), i + n = a.length ∧ ((prod (a.take i) b).length : Int) ≤ most ∧ s = ⟨[(1, .lst b.length (encL b)), (2, .int .i64 most), (8, .own 8 (g 8) 0 (prod (a.take i) b).length), (14, .lst a.length (encL a)), (15, .int .i64 a.length), (16, .int .i64 i)], [(8, ⟨encL (prod (a.take i) b), false, 11⟩)], g⟩) a.length ⟨0, bump 8 g, by omega, by simp [prod]; omega, by simp [prod, encL_nil]⟩ ?_
  rintro n s ⟨i, g, hi, hlen, rfl⟩
  by_cases h1 : i < a.length
  case neg =>
    have hil : i = a.length := by omega
    subst hil
    rw [List.take_length] at *
    have nn : (prod a b).length ≤ maxN := by unfold maxN; omega
    have c1 : (prod a b).length * 11 ≤ (encL (prod a b)).length := by rw [encL_length]; simp
    have htk : List.take ((prod a b).length * 11) (encL (prod a b)) = encL (prod a b) := take_rows _ _ (by simp)
    simp -implicitDefEqProofs [h1, meetP, hlen, nn, c1, htk]
  have w1 : IntKind.i64.wrap ((i : Int) + 1) = (i : Int) + 1 := wrap64 (by omega) (by omega)
  have hrow := rd_pc a i h1
  simp -implicitDefEqProofs [h1, hrow, nb]
  refine run_while (c := c161_28) (fun n s => ∃ (j : Nat) (g : Nat → Nat), j + n = b.length ∧ ((sofar a b i j a[i]).length : Int) ≤ most ∧ s = ⟨[(1, .lst b.length (encL b)), (2, .int .i64 most), (8, .own 8 (g 8) 0 (sofar a b i j a[i]).length), (10, .ptr 10 (g 10) 0), (14, .lst a.length (encL a)), (15, .int .i64 a.length), (16, .int .i64 i), (20, .lst b.length (encL b)), (21, .int .i64 b.length), (22, .int .i64 j)], [(8, ⟨encL (sofar a b i j a[i]), false, 11⟩), (10, ⟨Row.enc a[i], false, 0⟩)], g⟩) b.length ⟨0, bump 10 g, by omega, by simp [sofar, row]; omega, by simp [sofar, row]⟩ ?_
  rintro n2 s ⟨j, g, hj, hlen, rfl⟩
  by_cases h2 : j < b.length
  case neg =>
    have hjl : j = b.length := by omega
    subst hjl
    rw [sofar_end h1] at *
    simp -implicitDefEqProofs [h2, w1]
    exact ⟨n - 1, by omega, i + 1, by omega, hlen, ⟨rfl, by omega⟩, rfl⟩
  have w2 : IntKind.i64.wrap ((j : Int) + 1) = (j : Int) + 1 := wrap64 (by omega) (by omega)
  have hrow2 := rd_pc b j h2
  have v1 := ha.1 a[i] (List.getElem_mem h1)
  have v2 := hb.1 b[j] (List.getElem_mem h2)
  have w3 : IntKind.i64.wrap (a[i].value + b[j].value) = a[i].value + b[j].value := wrap64 (by omega) (by omega)
  have hs := sofar_row (a := a) (i := i) (x := a[i]) h2
  cases he : (meetB a[i].box b[j].box).empty
  case true =>
    rw [row_none (by simp [meetF, he]), List.append_nil] at hs
    simp -implicitDefEqProofs [h2, hrow2, he, w2]
    exact ⟨n2 - 1, by omega, j + 1, by omega, by rw [hs]; exact hlen, ⟨by rw [hs], by omega⟩, by rw [hs]⟩
  case false =>
    rw [row_some (z := ⟨meetB a[i].box b[j].box, a[i].value + b[j].value⟩) (by simp [meetF, he])] at hs
    have hs2 : (sofar a b i (j + 1) a[i]).length = (sofar a b i j a[i]).length + 1 := by rw [hs]; simp
    by_cases h3 : most ≤ (sofar a b i j a[i]).length
    case pos =>
      obtain ⟨r, hr⟩ := sofar_pre (a := a) (b := b) (i := i) (j := j + 1) h1
      have hno : ¬ ((prod a b).length : Int) ≤ most := by
        rw [hr, List.length_append]
        omega
      simp -implicitDefEqProofs [h2, hrow2, he, w2, h3, meetP, hno, encL_nil]
    case neg =>
      have nn : (sofar a b i j a[i]).length ≤ 1099511627775 := by omega
      have nn2 : (sofar a b i j a[i]).length ≤ maxN := by unfold maxN; omega
      have c1 : (sofar a b i j a[i]).length * 11 ≤ (encL (sofar a b i j a[i])).length := by rw [encL_length]; simp
      have htk : List.take ((sofar a b i j a[i]).length * 11) (encL (sofar a b i j a[i])) = encL (sofar a b i j a[i]) := take_rows _ _ (by simp)
      have hE : encL (sofar a b i (j + 1) a[i]) = encL (sofar a b i j a[i]) ++ Row.enc (⟨meetB a[i].box b[j].box, a[i].value + b[j].value⟩ : Piece) := by rw [hs, encL_append, encL_cons, encL_nil, List.append_nil]
      simp -implicitDefEqProofs [h2, hrow2, he, w2, w3, h3, nn, nn2, c1, htk]
      refine ⟨n2 - 1, by omega, j + 1, by omega, by omega, ⟨by omega, by omega⟩, ?_⟩
      rw [hE]
      rfl
theorem c_cMeet : Contract Try.prog 161 (sp3 MeetC) :=
  contract_of_runs mixed (tbl_cons c_bMeet (tbl_cons c_bEmpty tbl_nil)) Try.func161 m161 (sp3_runs runs_cMeet)
end Go.Co
