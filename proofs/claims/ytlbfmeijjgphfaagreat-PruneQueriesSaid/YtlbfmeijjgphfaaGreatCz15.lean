/- CO: texts of this claim, one behind the other. -/
import Derived.Test.YtlbfmeijjgphfaaGreatCz14
import Derived.Test.YtlbfmeijjgphfaaGreatCz6
import Derived.Test.YtlbfmeijjgphfaaGreatCz1
import Derived.Test.YtlbfmeijjgphfaaGreatCz9
set_option linter.unusedVariables false
set_option linter.unusedSimpArgs false
/- CO: a search run to its end: what comes of it. -/
set_option maxHeartbeats 16000000
set_option maxRecDepth 100000
namespace Go.Co
open Go.Am Go.Proofs
attribute [-simp] Go.Am.eff_gcall Go.Am.eff_gcal2
noncomputable abbrev rnT : Cs := tbl [(1000000 + 40, gspec newG), (1000000 + 41, gspec stepG), (42, sp1 VerC)]
def runE (g : Nat → Nat) (t : List (Nat × AV)) : Env := (4, .ptr 4 (g 4) 0) :: (5, .ptr 20001 (g 20001) 0) :: t
def runH (x : SS) (g : Nat → Nat) : Hp := (4, ⟨[.int .i64 0, .nils, .int .i64 0, .int .i64 0, .int .i64 0, .int .i64 0, .int .i64 0, .int .i64 0], false, 0⟩) :: x.hp 20001 20002 20003 (g 20002) (g 20003)
theorem step_lf (x : SS) : (stepS x).2.lf = x.lf := by
  unfold stepS
  split
  · rfl
  · split
    · rfl
    · split
      · rfl
      · split <;> rfl
theorem step_pf (x : SS) : x.pf ≠ [] → (stepS x).2.pf ≠ [] := by
  intro h
  unfold stepS
  split
  · exact h
  · split
    · simp
    · split
      · exact h
      · split
        · simp
        · exact h
theorem run_on (x : SS) (hx : x.Ok) (ht : (stepS x).1 = true) (g : Nat → Nat) (fs : List Fr) (Q : Post) (hQ : ∀ g', kont rnT fs Q .normal ⟨runE g' [(10, .bool true)], runH (stepS x).2 g', g'⟩) :
    run rnT c17_6 fs ⟨runE g [], runH x g, g⟩ Q := by
  have hG := stepG_of hx
  have hso := step_ok hx
  have hk := hso.2.2.2 ht
  have hy := hso.1
  have hlf := step_lf x
  have hpp := step_pf x
  rw [ht] at hG
  generalize stepS x = ty at *
  obtain ⟨t, y⟩ := ty
  simp only at ht hlf hpp hy hG hQ
  subst ht
  obtain ⟨m, q, lf, L, G, pf, kind, w, tw, sp⟩ := x
  obtain ⟨m', q', lf', L', G', pf', kind', w', tw', sp'⟩ := y
  have hn := hx.n
  have hk1' := hy.p
  have hk0 := hk.1
  simp only at hlf hpp hn hk1' hk0
  subst hlf hk0
  have hlt : lf' = true := by
    cases lf'
    · exact absurd (hn rfl).1 (by decide)
    · rfl
  subst hlt
  have hX : (encL L ++ G).all AV.plain = true := by rw [List.all_append, encL_plain]; exact hx.g
  have hX' : (encL L' ++ G').all AV.plain = true := by rw [List.all_append, encL_plain]; exact hy.g
  have hp : (encL pf).all AV.plain = true := encL_plain pf
  have hp' : (encL pf').all AV.plain = true := encL_plain pf'
  simp only [SS.hp, SS.cellsV, SS.lv, SS.pv, SS.lh, SS.ph, if_true] at hG
  have hQ1 := hQ (bump 20002 g)
  have hQ2 := hQ (bump 20003 (bump 20002 g))
  simp only [runE, runH, SS.hp, SS.cellsV, SS.lv, SS.pv, SS.lh, SS.ph, if_true] at hQ1 hQ2
  have h01 : ¬ (0 : Int) = 1 := by decide
  by_cases hpf : pf = []
  · subst hpf
    by_cases hpf' : pf' = []
    · subst hpf'
      have h1 : ¬ kind' = 1 := fun e => hk1' e rfl
      simp [h01, h1, bump] at hG hQ1
      simp -implicitDefEqProofs [runE, runH, SS.hp, SS.cellsV, SS.lv, SS.pv, SS.lh, SS.ph, hG, mapM1_nrm hX, mapM1_up hX']
      exact hQ1
    · by_cases h1 : kind' = 1
      · simp [h01, h1, hpf', bump] at hG hQ2
        simp -implicitDefEqProofs [runE, runH, SS.hp, SS.cellsV, SS.lv, SS.pv, SS.lh, SS.ph, hG, mapM1_nrm hX, mapM1_up hX', mapM1_up hp']
        exact hQ2
      · simp [h01, h1, hpf', bump] at hG hQ2
        simp -implicitDefEqProofs [runE, runH, SS.hp, SS.cellsV, SS.lv, SS.pv, SS.lh, SS.ph, hG, mapM1_nrm hX, mapM1_up hX', mapM1_up hp']
        exact hQ2
  · by_cases hpf' : pf' = []
    · exact absurd hpf' (hpp hpf)
    · by_cases h1 : kind' = 1
      · simp [h01, h1, hpf, hpf', bump] at hG hQ2
        simp -implicitDefEqProofs [runE, runH, SS.hp, SS.cellsV, SS.lv, SS.pv, SS.lh, SS.ph, hG, hpf, mapM1_nrm hX, mapM1_nrm hp, mapM1_up hX', mapM1_up hp']
        exact hQ2
      · simp [h01, h1, hpf, hpf', bump] at hG hQ2
        simp -implicitDefEqProofs [runE, runH, SS.hp, SS.cellsV, SS.lv, SS.pv, SS.lh, SS.ph, hG, hpf, mapM1_nrm hX, mapM1_nrm hp, mapM1_up hX', mapM1_up hp']
        exact hQ2
theorem run_off (x : SS) (hx : x.Ok) (ht : (stepS x).1 = false) (g : Nat → Nat) (fs : List Fr) (Q : Post) (hQ : ∀ g', kont rnT fs Q (.exit 0) ⟨runE g' [(10, .bool false)], runH x g', g'⟩) :
    run rnT c17_6 fs ⟨runE g [], runH x g, g⟩ Q := by
  have hG := stepG_of hx
  have hso := (step_ok hx).2.2.1 ht
  rw [ht, hso.1] at hG
  clear hso ht
  obtain ⟨m, q, lf, L, G, pf, kind, w, tw, sp⟩ := x
  have hn := hx.n
  have hk1 := hx.p
  simp only at hn hk1
  have hX : (encL L ++ G).all AV.plain = true := by rw [List.all_append, encL_plain]; exact hx.g
  have hp : (encL pf).all AV.plain = true := encL_plain pf
  simp only [SS.hp, SS.cellsV, SS.lv, SS.pv, SS.lh, SS.ph] at hG
  have hQ1 := hQ (bump 20002 g)
  have hQ2 := hQ (bump 20003 (bump 20002 g))
  have hQ0 := hQ g
  simp only [runE, runH, SS.hp, SS.cellsV, SS.lv, SS.pv, SS.lh, SS.ph] at hQ0 hQ1 hQ2
  cases lf
  · obtain ⟨rfl, rfl, rfl, rfl⟩ := hn rfl
    simp [bump] at hG hQ0
    simp -implicitDefEqProofs [runE, runH, SS.hp, SS.cellsV, SS.lv, SS.pv, SS.lh, SS.ph, hG]
    exact hQ0
  · by_cases hpf : pf = []
    · subst hpf
      have h1 : ¬ kind = 1 := fun e => hk1 e rfl
      simp [h1, bump] at hG hQ1
      simp -implicitDefEqProofs [runE, runH, SS.hp, SS.cellsV, SS.lv, SS.pv, SS.lh, SS.ph, h1, hG, mapM1_nrm hX, mapM1_up hX]
      exact hQ1
    · by_cases h1 : kind = 1
      · subst h1
        simp [hpf, bump] at hG hQ2
        simp -implicitDefEqProofs [runE, runH, SS.hp, SS.cellsV, SS.lv, SS.pv, SS.lh, SS.ph, hG, hpf, mapM1_nrm hX, mapM1_nrm hp, mapM1_up hX, mapM1_up hp]
        exact hQ2
      · simp [h1, hpf, bump] at hG hQ2
        simp -implicitDefEqProofs [runE, runH, SS.hp, SS.cellsV, SS.lv, SS.pv, SS.lh, SS.ph, h1, hG, hpf, mapM1_nrm hX, mapM1_nrm hp, mapM1_up hX, mapM1_up hp]
        exact hQ2
def SS.srch (x : SS) : Srch := ⟨x.m, x.q, x.L, x.pf, ⟨x.kind, if x.kind = 1 then x.pf else [], x.w, x.tw, 0⟩, x.sp⟩
theorem run_end (x : SS) (hx : x.Ok) (g : Nat → Nat) : run rnT c17_11 [] ⟨runE g [(10, .bool false)], runH x g, g⟩ (fin [.cell 4 8 true] (Arg.enc (verS x))) := by
  have hV : VerC ⟨x.srch⟩ = some (verS x) := by
    unfold VerC
    rw [part_of]
    · rfl
    · have h1 := hx.pl
      have h2 := hx.s1
      unfold SS.srch
      simp only
      split
      · omega
      · simp
  have hD := dec_ref_Srch x.srch
  have hk1 := hx.p
  have hn := hx.n
  obtain ⟨m, q, lf, L, G, pf, kind, w, tw, sp⟩ := x
  simp only at hn hk1
  have hX : (encL L ++ G).all AV.plain = true := by rw [List.all_append, encL_plain]; exact hx.g
  have hp : (encL pf).all AV.plain = true := encL_plain pf
  have htk := take_boxG L G
  have hlen := len_boxG L G
  have hLp : (encL L).all AV.plain = true := encL_plain L
  have htkp := take_stepsE pf
  have hlnp := len_steps pf
  simp only [SS.srch, Srch.cells, row_Model, row_Query, row_Verdict, List.cons_append, List.nil_append] at hV hD
  have hlen2 : L.length * 10 ≤ (encL L).length + G.length := by simpa using hlen
  cases lf
  · obtain ⟨rfl, rfl, rfl, rfl⟩ := hn rfl
    simp [verS, encL_nil] at hV hD
    simp -implicitDefEqProofs [runE, runH, SS.hp, SS.cellsV, SS.lv, SS.pv, SS.lh, SS.ph, hV, hD, verS]
  · by_cases hpf : pf = []
    · subst hpf
      have h1 : ¬ kind = 1 := fun e => hk1 e rfl
      simp [h1, verS, encL_nil] at hV hD
      simp -implicitDefEqProofs [runE, runH, SS.hp, SS.cellsV, SS.lv, SS.pv, SS.lh, SS.ph, hV, hD, h1, htk, hlen2, hLp, verS]
    · by_cases h1 : kind = 1
      · subst h1
        simp [verS, encL_nil] at hV hD
        simp -implicitDefEqProofs [runE, runH, SS.hp, SS.cellsV, SS.lv, SS.pv, SS.lh, SS.ph, hV, hD, hpf, htk, hlen2, hLp, htkp, hlnp, hp, verS]
      · simp [h1, verS, encL_nil] at hV hD
        simp -implicitDefEqProofs [runE, runH, SS.hp, SS.cellsV, SS.lv, SS.pv, SS.lh, SS.ph, hV, hD, h1, hpf, htk, hlen2, hLp, htkp, hlnp, hp, verS]
theorem keep_runH (x : SS) (g : Nat → Nat) : keepH (runH x g) [4, 20001, 20002, 20003] = runH x g := by
  unfold runH SS.hp SS.lh SS.ph
  cases x.lf <;> by_cases hp : x.pf = [] <;> simp [hp, keepH, hlook]
noncomputable def RunC (m : Model) (q : Query) : Option Verdict := Part (RM m) (searchM m q)
theorem runs_Run (m : Model) (q : Query) (r : Verdict) (h : RunC m q = some r) : Runs rnT a17 [Arg.enc m, Arg.enc q] (Arg.enc r) := by
  obtain ⟨hm, rfl⟩ := part_some h
  clear h
  refine ⟨rfl, fun g => run_def ?_⟩
  have hN := newG_of hm q
  obtain ⟨hok, hres⟩ := new_ok hm q
  rw [← hres]
  have hkE : ∀ (g : Nat → Nat) (t : List (Nat × AV)), keepT (runE g t) [4, 5] = runE g [] := fun g t => by simp [runE, keepT, Go.Am.look]
  have hstep : ∀ (R : Verdict) (n : Nat) (s : St), (∃ (x : SS) (g : Nat → Nat), x.Ok ∧ resS x = R ∧ fuelS x ≤ n ∧ s = ⟨runE g [], runH x g, g⟩) → run rnT c17_6 [] s fun e s' => match e with
      | .normal => ∃ m', m' < n ∧ ∃ (x : SS) (g : Nat → Nat), x.Ok ∧ resS x = R ∧ fuelS x ≤ m' ∧ (⟨keepT s'.t [4, 5], keepH s'.h [4, 20001, 20002, 20003], s'.g⟩ : St) = ⟨runE g [], runH x g, g⟩
      | e => kont rnT [.blk 0, .c c17_11] (fin [.cell 4 8 true] (Arg.enc R)) e s' := by
    rintro R n s ⟨x, g, hx, hxr, hf, rfl⟩
    have hso := step_ok hx
    cases ht : (stepS x).1
    · refine run_off x hx ht g _ _ fun g' => ?_
      have hv := (hso.2.2.1 ht).2
      rw [hxr] at hv
      rw [kont_nil]
      show kont rnT [.blk 0, .c c17_11] _ (.exit 0) _
      rw [kont_blk_exit, if_pos rfl, kont_c, hv]
      exact run_end x hx g'
    · refine run_on x hx ht g _ _ fun g' => ?_
      obtain ⟨_, h1, h2, h3⟩ := hso.2.2.2 ht
      rw [kont_nil]
      refine ⟨fuelS (stepS x).2, ?_, (stepS x).2, g', hso.1, by rw [hso.2.1, hxr], Nat.le_refl _, ?_⟩
      · unfold fuelS at *
        rw [h2, h3]
        omega
      · simp only [hkE, keep_runH]
  obtain ⟨hN1, hN2⟩ : (newS m q).lf = okQuery m q ∧ (newS m q).pf = [] := by unfold newS; split <;> simp [*]
  have hk0 : (newS m q).kind ≠ 1 := by unfold newS; split <;> simp
  generalize hx0 : newS m q = x0 at *
  obtain ⟨m0, q0, lf, L, G, pf, kind, w, tw, sp⟩ := x0
  simp only at hN1 hN2 hk0
  subst hN2
  have hX : (encL L ++ G).all AV.plain = true := by rw [List.all_append, encL_plain]; exact hok.g
  have h99 : ([] : List Step) = [] := rfl
  simp only [SS.hp, SS.cellsV, SS.lv, SS.pv, SS.lh, SS.ph, if_true, enc_Model, enc_Query] at hN
  unfold a17
  cases lf
  · simp [hk0] at hN
    simp -implicitDefEqProofs [hN, hk0]
    refine run_while (c := c17_6) (fun n s => ∃ (x : SS) (g : Nat → Nat), x.Ok ∧ resS x = resS ⟨m0, q0, false, L, G, [], kind, w, tw, sp⟩ ∧ fuelS x ≤ n ∧ s = ⟨runE g [], runH x g, g⟩) (fuelS ⟨m0, q0, false, L, G, [], kind, w, tw, sp⟩) ⟨⟨m0, q0, false, L, G, [], kind, w, tw, sp⟩, bump 20001 (bump 4 (bump 3 (bump 2 g))), hok, rfl, Nat.le_refl _, ?_⟩ (hstep _)
    simp [runE, runH, SS.hp, SS.cellsV, SS.lv, SS.pv, SS.lh, SS.ph, hk0]
  · simp [hk0] at hN
    simp -implicitDefEqProofs [hN, hk0, mapM1_up hX]
    refine run_while (c := c17_6) (fun n s => ∃ (x : SS) (g : Nat → Nat), x.Ok ∧ resS x = resS ⟨m0, q0, true, L, G, [], kind, w, tw, sp⟩ ∧ fuelS x ≤ n ∧ s = ⟨runE g [], runH x g, g⟩) (fuelS ⟨m0, q0, true, L, G, [], kind, w, tw, sp⟩) ⟨⟨m0, q0, true, L, G, [], kind, w, tw, sp⟩, bump 20002 (bump 20001 (bump 4 (bump 3 (bump 2 g)))), hok, rfl, Nat.le_refl _, ?_⟩ (hstep _)
    simp [runE, runH, SS.hp, SS.cellsV, SS.lv, SS.pv, SS.lh, SS.ph, hk0]
theorem c_Run : Contract Tryz.prog 17 (sp2 RunC) :=
  contract_of_runs mixed (tbl_cons c_New (tbl_cons c_Step (tbl_cons c_Verdict tbl_nil))) Tryz.func17 m17 (sp2_runs runs_Run)
end Go.Co
/- CO: lists held against each other: told of the same list twice. (written by mkCoSm.py) -/
namespace Go.Co
open Go.Am Go.Proofs
attribute [-simp] Go.Am.eff_gcall
def c77_0 : ACode := .ops [⟨some 4, .mv (.c (.bool false)), none, []⟩] [0, 1]
def c77_1 : ACode := .ops [⟨some 6, .mv (.t 0), none, []⟩,⟨some 7, .len (.t 6), none, []⟩,⟨some 8, .mv (.t 1), none, []⟩,⟨some 9, .len (.t 8), none, []⟩,⟨some 10, .bin .neq (.t 7) (.t 9), none, []⟩] [0, 1, 10]
def c77_2 : ACode := .ops [⟨some 4, .mv (.c (.bool false)), none, []⟩] [4]
def c77_3 : ACode := .seq c77_2 .ret
def c77_4 : ACode := .cond (.t 10) c77_3 .skip
def c77_5 : ACode := .seq c77_1 c77_4
def c77_6 : ACode := .ops [⟨some 5, .mv (.c (.int .i64 0)), none, []⟩] [0, 1, 5]
def c77_7 : ACode := .ops [⟨some 11, .mv (.t 5), none, []⟩,⟨some 12, .mv (.t 0), none, []⟩,⟨some 13, .len (.t 12), none, []⟩,⟨some 14, .bin .lss (.t 11) (.t 13), none, []⟩] [0, 1, 5, 14]
def c77_8 : ACode := .cond (.t 14) .skip (.exit 0)
def c77_9 : ACode := .seq c77_7 c77_8
def c77_10 : ACode := .ops [⟨some 17, .mv (.t 0), none, []⟩,⟨some 18, .mv (.t 5), none, []⟩,⟨some 19, .ias (.t 17) (.t 18) 1, none, []⟩,⟨some 20, .load 1 false (.t 19), none, []⟩,⟨some 21, .mv (.t 1), none, []⟩,⟨some 22, .mv (.t 5), none, []⟩,⟨some 23, .ias (.t 21) (.t 22) 1, none, []⟩,⟨some 24, .load 1 false (.t 23), none, []⟩,⟨some 25, .bin .neq (.t 20) (.t 24), none, []⟩] [0, 1, 5, 25]
def c77_11 : ACode := .ops [⟨some 4, .mv (.c (.bool false)), none, []⟩] [4]
def c77_12 : ACode := .seq c77_11 .ret
def c77_13 : ACode := .cond (.t 25) c77_12 .skip
def c77_14 : ACode := .seq c77_10 c77_13
def c77_15 : ACode := .block 1 c77_14
def c77_16 : ACode := .ops [⟨some 15, .mv (.t 5), none, []⟩,⟨some 16, .bin .add (.t 15) (.c (.int .i64 1)), none, []⟩,⟨some 5, .mv (.t 16), none, []⟩] [0, 1, 5]
def c77_17 : ACode := .seq c77_15 c77_16
def c77_18 : ACode := .seq c77_9 c77_17
def c77_19 : ACode := .keep [0, 1, 5] [] c77_18
def c77_20 : ACode := .loop c77_19
def c77_21 : ACode := .block 0 c77_20
def c77_22 : ACode := .seq c77_6 c77_21
def c77_23 : ACode := .ops [⟨some 4, .mv (.c (.bool true)), none, []⟩] [4]
def c77_24 : ACode := .seq c77_23 .ret
def c77_25 : ACode := .seq c77_22 c77_24
def c77_26 : ACode := .seq c77_5 c77_25
def c77_27 : ACode := .seq c77_0 c77_26
def a77 : AFun := ⟨2, 26, c77_27, [.t 4]⟩
theorem m77 : mFun Tryz.prog Tryz.f77 a77 = true := by decide +kernel
end Go.Co
/- CO: what of a tree a box needs. -/
set_option maxHeartbeats 16000000
set_option maxRecDepth 100000
namespace Go.Co
open Go.Am Go.Proofs
attribute [-simp] Go.Am.eff_gcall
def c75_0 : ACode := .ops [⟨some 5, .box (.t 2) 10, none, []⟩,⟨some 6, .mv (.c (.int .i64 0)), none, []⟩] [0, 1, 5]
theorem r75_0 : type_of% (rr c75_0.eq_1) := rr rfl
def c75_1 : ACode := .ops [⟨some 13, .mv (.t 0), none, []⟩,⟨some 14, .chk (.t 13), none, [0]⟩,⟨some 15, .fad (.t 14) 0, none, [0]⟩,⟨some 16, .load 1 false (.t 15), none, [0]⟩,⟨some 17, .mv (.t 1), none, []⟩,⟨some 18, .ias (.t 16) (.t 17) 1, none, [1, 10001]⟩,⟨some 19, .load 1 false (.t 18), none, [1, 10001]⟩,⟨some 20, .call 85 [.t 19], none, []⟩,⟨some 12, .mv (.t 20), none, []⟩,⟨some 21, .ext (.t 12) 0, none, []⟩,⟨some 22, .ext (.t 12) 1, none, []⟩,⟨some 7, .alloc [.bool false, .int .i64 0, .int .i64 0, .int .i64 0, .int .i64 0, .int .i64 0], none, []⟩,⟨none, .store (.t 7) 6 (.t 21), none, [7]⟩,⟨some 8, .mv (.t 22), none, []⟩] [0, 1, 5, 7]
theorem r75_1 : type_of% (rr c75_1.eq_1) := rr rfl
def c75_2 : ACode := .ops [⟨some 23, .fad (.t 7) 0, none, [7]⟩,⟨some 24, .load 1 false (.t 23), none, [7]⟩] [0, 1, 5, 7, 24]
theorem r75_2 : type_of% (rr c75_2.eq_1) := rr rfl
def c75_3 : ACode := .ops [⟨some 25, .mv (.t 0), none, []⟩,⟨some 26, .mv (.t 0), none, []⟩,⟨some 27, .chk (.t 26), none, [0]⟩,⟨some 28, .fad (.t 27) 1, none, [0]⟩,⟨some 29, .load 1 false (.t 28), none, [0]⟩,⟨some 30, .mv (.t 0), none, []⟩,⟨some 31, .chk (.t 30), none, [0]⟩,⟨some 32, .fad (.t 31) 0, none, [0]⟩,⟨some 33, .load 1 false (.t 32), none, [0]⟩,⟨some 34, .mv (.t 1), none, []⟩,⟨some 35, .ias (.t 33) (.t 34) 1, none, [1, 10001]⟩,⟨some 36, .load 1 false (.t 35), none, [1, 10001]⟩,⟨some 37, .mkrow 37 1 1 [.int .u64 0] [(0, 1, .t 36)], none, []⟩,⟨some 38, .app 10001 [1, 10001] (.t 29) (.t 37) 1, none, [1, 37, 10001]⟩,⟨some 39, .chk (.t 25), none, [0]⟩,⟨some 40, .fad (.t 39) 1, none, [0]⟩,⟨none, .store (.t 40) 1 (.t 38), none, [0]⟩] [0]
theorem r75_3 : type_of% (rr c75_3.eq_1) := rr rfl
def c75_4 : ACode := .ops [⟨some 41, .mv (.t 0), none, []⟩,⟨some 42, .chk (.t 41), none, [0]⟩,⟨some 43, .fad (.t 42) 1, none, [0]⟩,⟨some 44, .load 1 false (.t 43), none, [0]⟩,⟨some 45, .len (.t 44), none, [1, 10001]⟩,⟨some 46, .bin .sub (.t 45) (.c (.int .i64 1)), none, []⟩,⟨some 6, .mv (.t 46), none, []⟩] [6]
theorem r75_4 : type_of% (rr c75_4.eq_1) := rr rfl
def c75_5 : ACode := .seq c75_4 .ret
theorem r75_5 : type_of% (rr c75_5.eq_1) := rr rfl
def c75_6 : ACode := .seq c75_3 c75_5
theorem r75_6 : type_of% (rr c75_6.eq_1) := rr rfl
def c75_7 : ACode := .cond (.t 24) c75_6 .skip
theorem r75_7 : type_of% (rr c75_7.eq_1) := rr rfl
def c75_8 : ACode := .seq c75_2 c75_7
theorem r75_8 : type_of% (rr c75_8.eq_1) := rr rfl
def c75_9 : ACode := .ops [⟨some 48, .load 10 true (.t 5), none, [5]⟩,⟨some 49, .fad (.t 7) 2, none, [7]⟩,⟨some 50, .load 1 false (.t 49), none, [7]⟩,⟨some 51, .fad (.t 7) 3, none, [7]⟩,⟨some 52, .load 1 false (.t 51), none, [7]⟩,⟨some 53, .call 69 [.t 48, .t 50, .t 52], none, []⟩,⟨some 47, .mv (.t 53), none, []⟩,⟨some 54, .ext (.t 47) 0, none, []⟩,⟨some 55, .ext (.t 47) 1, none, []⟩,⟨some 9, .alloc [.int .i64 0, .int .i64 0, .int .i64 0, .int .i64 0, .int .i64 0, .int .i64 0, .int .i64 0, .int .i64 0, .int .i64 0, .int .i64 0], none, []⟩,⟨some 10, .alloc [.int .i64 0, .int .i64 0, .int .i64 0, .int .i64 0, .int .i64 0, .int .i64 0, .int .i64 0, .int .i64 0, .int .i64 0, .int .i64 0], none, []⟩,⟨none, .store (.t 9) 10 (.t 54), none, [9]⟩,⟨none, .store (.t 10) 10 (.t 55), none, [10]⟩] [0, 7, 9, 10]
theorem r75_9 : type_of% (rr c75_9.eq_1) := rr rfl
def c75_10 : ACode := .ops [⟨some 57, .load 10 true (.t 9), none, [9]⟩,⟨some 58, .call 26 [.t 57], none, []⟩,⟨some 56, .mv (.t 58), none, []⟩] [0, 7, 9, 10, 56]
theorem r75_10 : type_of% (rr c75_10.eq_1) := rr rfl
def c75_11 : ACode := .ops [⟨some 59, .mv (.t 0), none, []⟩,⟨some 60, .fad (.t 7) 5, none, [7]⟩,⟨some 61, .load 1 false (.t 60), none, [7]⟩,⟨some 62, .load 10 true (.t 10), none, [10]⟩,⟨some 63, .gcall 75 [.t 59, .t 61, .t 62] [0, 1] 10001, none, [0, 1, 10001]⟩,⟨some 6, .mv (.t 63), none, []⟩] [6]
theorem r75_11 : type_of% (rr c75_11.eq_1) := rr rfl
def c75_12 : ACode := .seq c75_11 .ret
theorem r75_12 : type_of% (rr c75_12.eq_1) := rr rfl
def c75_13 : ACode := .ops [⟨some 65, .load 10 true (.t 10), none, [10]⟩,⟨some 66, .call 26 [.t 65], none, []⟩,⟨some 64, .mv (.t 66), none, []⟩] [0, 7, 9, 10, 64]
theorem r75_13 : type_of% (rr c75_13.eq_1) := rr rfl
def c75_14 : ACode := .ops [⟨some 67, .mv (.t 0), none, []⟩,⟨some 68, .fad (.t 7) 4, none, [7]⟩,⟨some 69, .load 1 false (.t 68), none, [7]⟩,⟨some 70, .load 10 true (.t 9), none, [9]⟩,⟨some 71, .gcall 75 [.t 67, .t 69, .t 70] [0, 1] 10001, none, [0, 1, 10001]⟩,⟨some 6, .mv (.t 71), none, []⟩] [6]
theorem r75_14 : type_of% (rr c75_14.eq_1) := rr rfl
def c75_15 : ACode := .seq c75_14 .ret
theorem r75_15 : type_of% (rr c75_15.eq_1) := rr rfl
def c75_16 : ACode := .cond (.t 64) c75_15 .skip
theorem r75_16 : type_of% (rr c75_16.eq_1) := rr rfl
def c75_17 : ACode := .seq c75_13 c75_16
theorem r75_17 : type_of% (rr c75_17.eq_1) := rr rfl
def c75_18 : ACode := .cond (.t 56) c75_12 c75_17
theorem r75_18 : type_of% (rr c75_18.eq_1) := rr rfl
def c75_19 : ACode := .seq c75_10 c75_18
theorem r75_19 : type_of% (rr c75_19.eq_1) := rr rfl
def c75_20 : ACode := .block 0 c75_19
theorem r75_20 : type_of% (rr c75_20.eq_1) := rr rfl
def c75_21 : ACode := .ops [⟨some 72, .mv (.t 0), none, []⟩,⟨some 73, .chk (.t 72), none, [0]⟩,⟨some 74, .fad (.t 73) 1, none, [0]⟩,⟨some 75, .load 1 false (.t 74), none, [0]⟩,⟨some 76, .len (.t 75), none, [1, 10001]⟩,⟨some 11, .mv (.t 76), none, []⟩] [0, 7, 9, 10, 11]
theorem r75_21 : type_of% (rr c75_21.eq_1) := rr rfl
def c75_22 : ACode := .ops [⟨some 77, .mv (.t 0), none, []⟩,⟨some 78, .mv (.t 0), none, []⟩,⟨some 79, .chk (.t 78), none, [0]⟩,⟨some 80, .fad (.t 79) 1, none, [0]⟩,⟨some 81, .load 1 false (.t 80), none, [0]⟩,⟨some 82, .mkrow 82 1 1 [.int .u64 0] [(0, 1, .c (.int .u64 0))], none, []⟩,⟨some 83, .app 10001 [1, 10001] (.t 81) (.t 82) 1, none, [1, 82, 10001]⟩,⟨some 84, .chk (.t 77), none, [0]⟩,⟨some 85, .fad (.t 84) 1, none, [0]⟩,⟨none, .store (.t 85) 1 (.t 83), none, [0]⟩] [0, 7, 9, 10, 11]
theorem r75_22 : type_of% (rr c75_22.eq_1) := rr rfl
def c75_23 : ACode := .ops [⟨some 86, .mv (.t 0), none, []⟩,⟨some 87, .fad (.t 7) 4, none, [7]⟩,⟨some 88, .load 1 false (.t 87), none, [7]⟩,⟨some 89, .load 10 true (.t 9), none, [9]⟩,⟨some 90, .gcall 75 [.t 86, .t 88, .t 89] [0, 10001] 10001, none, [0, 1, 10001]⟩,⟨some 91, .fad (.t 7) 4, none, [7]⟩,⟨none, .store (.t 91) 1 (.t 90), none, [7]⟩] [0, 7, 10, 11]
theorem r75_23 : type_of% (rr c75_23.eq_1) := rr rfl
def c75_24 : ACode := .ops [⟨some 92, .mv (.t 0), none, []⟩,⟨some 93, .fad (.t 7) 5, none, [7]⟩,⟨some 94, .load 1 false (.t 93), none, [7]⟩,⟨some 95, .load 10 true (.t 10), none, [10]⟩,⟨some 96, .gcall 75 [.t 92, .t 94, .t 95] [0, 10001] 10001, none, [0, 1, 10001]⟩,⟨some 97, .fad (.t 7) 5, none, [7]⟩,⟨none, .store (.t 97) 1 (.t 96), none, [7]⟩] [0, 7, 11]
theorem r75_24 : type_of% (rr c75_24.eq_1) := rr rfl
def c75_25 : ACode := .ops [⟨some 98, .mv (.t 0), none, []⟩,⟨some 99, .chk (.t 98), none, [0]⟩,⟨some 100, .fad (.t 99) 1, none, [0]⟩,⟨some 101, .load 1 false (.t 100), none, [0]⟩,⟨some 102, .mv (.t 11), none, []⟩,⟨some 103, .load 6 true (.t 7), none, [7]⟩,⟨some 104, .call 91 [.t 103], none, []⟩,⟨some 105, .ias (.t 101) (.t 102) 1, none, [1, 10001]⟩,⟨none, .store (.t 105) 1 (.t 104), none, [1, 10001]⟩] [11]
theorem r75_25 : type_of% (rr c75_25.eq_1) := rr rfl
def c75_26 : ACode := .ops [⟨some 106, .mv (.t 11), none, []⟩,⟨some 6, .mv (.t 106), none, []⟩] [6]
theorem r75_26 : type_of% (rr c75_26.eq_1) := rr rfl
def c75_27 : ACode := .seq c75_26 .ret
theorem r75_27 : type_of% (rr c75_27.eq_1) := rr rfl
def c75_28 : ACode := .seq c75_25 c75_27
theorem r75_28 : type_of% (rr c75_28.eq_1) := rr rfl
def c75_29 : ACode := .seq c75_24 c75_28
theorem r75_29 : type_of% (rr c75_29.eq_1) := rr rfl
def c75_30 : ACode := .seq c75_23 c75_29
theorem r75_30 : type_of% (rr c75_30.eq_1) := rr rfl
def c75_31 : ACode := .seq c75_22 c75_30
theorem r75_31 : type_of% (rr c75_31.eq_1) := rr rfl
def c75_32 : ACode := .seq c75_21 c75_31
theorem r75_32 : type_of% (rr c75_32.eq_1) := rr rfl
def c75_33 : ACode := .seq c75_20 c75_32
theorem r75_33 : type_of% (rr c75_33.eq_1) := rr rfl
def c75_34 : ACode := .seq c75_9 c75_33
theorem r75_34 : type_of% (rr c75_34.eq_1) := rr rfl
def c75_35 : ACode := .seq c75_8 c75_34
theorem r75_35 : type_of% (rr c75_35.eq_1) := rr rfl
def c75_36 : ACode := .seq c75_1 c75_35
theorem r75_36 : type_of% (rr c75_36.eq_1) := rr rfl
def c75_37 : ACode := .seq c75_0 c75_36
theorem r75_37 : type_of% (rr c75_37.eq_1) := rr rfl
def a75 : AFun := ⟨3, 107, c75_37, [.t 6]⟩
attribute [simp] r75_0 r75_1 r75_2 r75_3 r75_4 r75_5 r75_6 r75_7 r75_8 r75_9 r75_10 r75_11 r75_12 r75_13 r75_14 r75_15 r75_16 r75_17 r75_18 r75_19 r75_20 r75_21 r75_22 r75_23 r75_24 r75_25 r75_26 r75_27 r75_28 r75_29 r75_30 r75_31 r75_32 r75_33 r75_34 r75_35 r75_36 r75_37
theorem m75 : mFun Tryz.prog Tryz.f75 a75 = true := by decide +kernel
def c44_0 : ACode := .ops [⟨some 3, .box (.t 1) 10, none, []⟩,⟨some 4, .mv (.c (.nils)), none, []⟩] [0, 3]
theorem r44_0 : type_of% (rr c44_0.eq_1) := rr rfl
def c44_1 : ACode := .ops [⟨some 6, .mv (.t 0), none, []⟩,⟨some 7, .call 74 [.t 6, .c (.int .i64 4)], none, []⟩,⟨some 8, .un .not (.t 7), none, []⟩,⟨some 9, .mv (.t 8), none, []⟩,⟨some 10, .load 10 true (.t 3), some (9, false), [3]⟩,⟨some 11, .call 26 [.t 10], some (9, false), []⟩,⟨some 12, .pick (.t 9) (.c (.bool true)) (.t 11), none, []⟩] [0, 3, 12]
theorem r44_1 : type_of% (rr c44_1.eq_1) := rr rfl
def c44_2 : ACode := .ops [⟨some 4, .mv (.c (.nils)), none, []⟩] [4]
theorem r44_2 : type_of% (rr c44_2.eq_1) := rr rfl
def c44_3 : ACode := .seq c44_2 .ret
theorem r44_3 : type_of% (rr c44_3.eq_1) := rr rfl
def c44_4 : ACode := .cond (.t 12) c44_3 .skip
theorem r44_4 : type_of% (rr c44_4.eq_1) := rr rfl
def c44_5 : ACode := .seq c44_1 c44_4
theorem r44_5 : type_of% (rr c44_5.eq_1) := rr rfl
def c44_6 : ACode := .ops [⟨some 13, .mv (.t 0), none, []⟩,⟨some 14, .build [.nils, .nils] [(0, 1, .t 13)], none, []⟩,⟨some 15, .box (.t 14) 2, none, []⟩,⟨some 5, .mv (.t 15), none, []⟩] [3, 5]
theorem r44_6 : type_of% (rr c44_6.eq_1) := rr rfl
def c44_7 : ACode := .ops [⟨some 16, .mv (.t 5), none, []⟩,⟨some 17, .load 10 true (.t 3), none, [3]⟩,⟨some 18, .gcall 75 [.t 16, .c (.int .i64 0), .t 17] [15, 18] 18, none, [15, 18]⟩] [5]
theorem r44_7 : type_of% (rr c44_7.eq_1) := rr rfl
def c44_8 : ACode := .ops [⟨some 19, .mv (.t 5), none, []⟩,⟨some 20, .chk (.t 19), none, [15]⟩,⟨some 21, .fad (.t 20) 1, none, [15]⟩,⟨some 22, .load 1 false (.t 21), none, [15]⟩,⟨some 4, .mv (.t 22), none, []⟩] [4]
theorem r44_8 : type_of% (rr c44_8.eq_1) := rr rfl
def c44_9 : ACode := .seq c44_8 .ret
theorem r44_9 : type_of% (rr c44_9.eq_1) := rr rfl
def c44_10 : ACode := .seq c44_7 c44_9
theorem r44_10 : type_of% (rr c44_10.eq_1) := rr rfl
def c44_11 : ACode := .seq c44_6 c44_10
theorem r44_11 : type_of% (rr c44_11.eq_1) := rr rfl
def c44_12 : ACode := .seq c44_5 c44_11
theorem r44_12 : type_of% (rr c44_12.eq_1) := rr rfl
def c44_13 : ACode := .seq c44_0 c44_12
theorem r44_13 : type_of% (rr c44_13.eq_1) := rr rfl
def a44 : AFun := ⟨2, 23, c44_13, [.t 4]⟩
attribute [simp] r44_0 r44_1 r44_2 r44_3 r44_4 r44_5 r44_6 r44_7 r44_8 r44_9 r44_10 r44_11 r44_12 r44_13
theorem m44 : mFun Tryz.prog Tryz.f44 a44 = true := by decide +kernel
def c18_0 : ACode := .ops [⟨some 2, .box (.t 0) 6, none, []⟩,⟨some 3, .box (.t 1) 10, none, []⟩,⟨some 4, .alloc [.int .i64 0, .int .i64 0, .int .i64 0, .int .i64 0, .int .i64 0, .nils], none, []⟩] [2, 3, 4]
theorem r18_0 : type_of% (rr c18_0.eq_1) := rr rfl
def c18_1 : ACode := .ops [⟨some 8, .load 6 true (.t 2), none, [2]⟩,⟨some 9, .call 43 [.t 8], none, [10205]⟩,⟨some 10, .un .not (.t 9), none, []⟩,⟨some 11, .mv (.t 10), none, []⟩,⟨some 12, .load 10 true (.t 3), some (11, false), [3]⟩,⟨some 13, .call 26 [.t 12], some (11, false), []⟩,⟨some 14, .pick (.t 11) (.c (.bool true)) (.t 13), none, []⟩] [2, 3, 4, 14]
theorem r18_1 : type_of% (rr c18_1.eq_1) := rr rfl
def c18_2 : ACode := .ops [⟨some 15, .build [.int .i64 0, .int .i64 0, .int .i64 0, .int .i64 0, .int .i64 0, .nils] [], none, []⟩,⟨none, .store (.t 4) 6 (.t 15), none, [4]⟩] [4]
theorem r18_2 : type_of% (rr c18_2.eq_1) := rr rfl
def c18_3 : ACode := .seq c18_2 .ret
theorem r18_3 : type_of% (rr c18_3.eq_1) := rr rfl
def c18_4 : ACode := .cond (.t 14) c18_3 .skip
theorem r18_4 : type_of% (rr c18_4.eq_1) := rr rfl
def c18_5 : ACode := .seq c18_1 c18_4
theorem r18_5 : type_of% (rr c18_5.eq_1) := rr rfl
def c18_6 : ACode := .ops [⟨some 16, .fad (.t 2) 5, none, [2]⟩,⟨some 17, .load 1 false (.t 16), none, [2]⟩,⟨some 5, .mv (.t 17), none, []⟩] [2, 3, 4, 5]
theorem r18_6 : type_of% (rr c18_6.eq_1) := rr rfl
def c18_7 : ACode := .ops [⟨some 18, .fad (.t 2) 5, none, [2]⟩,⟨none, .store (.t 18) 1 (.c (.nils)), none, [2]⟩] [2, 3, 4, 5]
theorem r18_7 : type_of% (rr c18_7.eq_1) := rr rfl
def c18_8 : ACode := .ops [⟨some 19, .mv (.t 5), none, []⟩,⟨some 20, .len (.t 19), none, [10205]⟩,⟨some 21, .mv (.c (.int .i64 0)), none, []⟩] [2, 3, 4, 19, 20, 21]
theorem r18_8 : type_of% (rr c18_8.eq_1) := rr rfl
def c18_9 : ACode := .ops [⟨some 22, .bin .lss (.t 21) (.t 20), none, []⟩] [2, 3, 4, 19, 20, 21, 22]
theorem r18_9 : type_of% (rr c18_9.eq_1) := rr rfl
def c18_10 : ACode := .cond (.t 22) .skip (.exit 0)
theorem r18_10 : type_of% (rr c18_10.eq_1) := rr rfl
def c18_11 : ACode := .ops [⟨some 23, .ias (.t 19) (.t 21) 2, none, [10205]⟩,⟨some 24, .load 2 true (.t 23), none, [10205]⟩,⟨some 7, .alloc [.int .i64 0, .nils], none, []⟩,⟨none, .store (.t 7) 2 (.t 24), none, [7]⟩] [2, 3, 4, 7, 19, 20, 21]
theorem r18_11 : type_of% (rr c18_11.eq_1) := rr rfl
def c18_12 : ACode := .ops [⟨some 25, .fad (.t 2) 5, none, [2]⟩,⟨some 26, .load 1 false (.t 25), none, [2]⟩,⟨some 27, .fad (.t 7) 0, none, [7]⟩,⟨some 28, .load 1 false (.t 27), none, [7]⟩,⟨some 29, .fad (.t 7) 1, none, [7]⟩,⟨some 30, .load 1 false (.t 29), none, [7]⟩,⟨some 31, .load 10 true (.t 3), none, [3]⟩,⟨some 32, .call 44 [.t 30, .t 31], none, []⟩,⟨some 33, .build [.int .i64 0, .nils] [(0, 1, .t 28), (1, 1, .t 32)], none, []⟩,⟨some 34, .mkrow 34 1 2 [.int .i64 0, .nils] [(0, 2, .t 33)], none, []⟩,⟨some 35, .app 10205 [10205] (.t 26) (.t 34) 2, none, [34, 10205]⟩,⟨some 36, .fad (.t 2) 5, none, [2]⟩,⟨none, .store (.t 36) 1 (.t 35), none, [2]⟩] [2, 3, 4, 19, 20, 21]
theorem r18_12 : type_of% (rr c18_12.eq_1) := rr rfl
def c18_13 : ACode := .seq c18_11 c18_12
theorem r18_13 : type_of% (rr c18_13.eq_1) := rr rfl
def c18_14 : ACode := .block 1 c18_13
theorem r18_14 : type_of% (rr c18_14.eq_1) := rr rfl
def c18_15 : ACode := .ops [⟨some 37, .bin .add (.t 21) (.c (.int .i64 1)), none, []⟩,⟨some 21, .mv (.t 37), none, []⟩] [2, 3, 4, 19, 20, 21]
theorem r18_15 : type_of% (rr c18_15.eq_1) := rr rfl
def c18_16 : ACode := .seq c18_14 c18_15
theorem r18_16 : type_of% (rr c18_16.eq_1) := rr rfl
def c18_17 : ACode := .seq c18_10 c18_16
theorem r18_17 : type_of% (rr c18_17.eq_1) := rr rfl
def c18_18 : ACode := .seq c18_9 c18_17
theorem r18_18 : type_of% (rr c18_18.eq_1) := rr rfl
def c18_19 : ACode := .keep [2, 3, 4, 19, 20, 21] [2, 3, 4, 10205] c18_18
theorem r18_19 : type_of% (rr c18_19.eq_1) := rr rfl
def c18_20 : ACode := .loop c18_19
theorem r18_20 : type_of% (rr c18_20.eq_1) := rr rfl
def c18_21 : ACode := .block 0 c18_20
theorem r18_21 : type_of% (rr c18_21.eq_1) := rr rfl
def c18_22 : ACode := .seq c18_8 c18_21
theorem r18_22 : type_of% (rr c18_22.eq_1) := rr rfl
def c18_23 : ACode := .ops [⟨some 38, .load 6 true (.t 2), none, [2]⟩,⟨none, .store (.t 4) 6 (.t 38), none, [4]⟩] [4]
theorem r18_23 : type_of% (rr c18_23.eq_1) := rr rfl
def c18_24 : ACode := .seq c18_23 .ret
theorem r18_24 : type_of% (rr c18_24.eq_1) := rr rfl
def c18_25 : ACode := .seq c18_22 c18_24
theorem r18_25 : type_of% (rr c18_25.eq_1) := rr rfl
def c18_26 : ACode := .seq c18_7 c18_25
theorem r18_26 : type_of% (rr c18_26.eq_1) := rr rfl
def c18_27 : ACode := .seq c18_6 c18_26
theorem r18_27 : type_of% (rr c18_27.eq_1) := rr rfl
def c18_28 : ACode := .seq c18_5 c18_27
theorem r18_28 : type_of% (rr c18_28.eq_1) := rr rfl
def c18_29 : ACode := .seq c18_0 c18_28
theorem r18_29 : type_of% (rr c18_29.eq_1) := rr rfl
def a18 : AFun := ⟨2, 39, c18_29, [.cell 4 6 true]⟩
attribute [simp] r18_0 r18_1 r18_2 r18_3 r18_4 r18_5 r18_6 r18_7 r18_8 r18_9 r18_10 r18_11 r18_12 r18_13 r18_14 r18_15 r18_16 r18_17 r18_18 r18_19 r18_20 r18_21 r18_22 r18_23 r18_24 r18_25 r18_26 r18_27 r18_28 r18_29
theorem m18 : mFun Tryz.prog Tryz.f18 a18 = true := by decide +kernel
def wdAt (l : List Word) (i : Nat) : Word := l.getD i default
theorem wdAt_lt {l : List Word} {i : Nat} (h : i < l.length) : wdAt l i = l[i] := by unfold wdAt; simp [h]
def stayN (old : List Word) : Nat → Int → Box → List Word → Option (Int × List Word)
  | 0, _, _, _ => none
  | n + 1, at_, b, out =>
    if 0 ≤ at_ ∧ at_ < old.length then
      if (ndAt old at_.toNat).leaf then some ((out.length : Int), out ++ [wdAt old at_.toNat]) else
      if (cutB b (ndAt old at_.toNat).feature (ndAt old at_.toNat).cut).1.empty then stayN old n (ndAt old at_.toNat).right (cutB b (ndAt old at_.toNat).feature (ndAt old at_.toNat).cut).2 out else
      if (cutB b (ndAt old at_.toNat).feature (ndAt old at_.toNat).cut).2.empty then stayN old n (ndAt old at_.toNat).left (cutB b (ndAt old at_.toNat).feature (ndAt old at_.toNat).cut).1 out else
      (stayN old n (ndAt old at_.toNat).left (cutB b (ndAt old at_.toNat).feature (ndAt old at_.toNat).cut).1 (out ++ [⟨0⟩])).bind fun p =>
      (stayN old n (ndAt old at_.toNat).right (cutB b (ndAt old at_.toNat).feature (ndAt old at_.toNat).cut).2 p.2).bind fun r =>
      some ((out.length : Int), r.2.set out.length (pack { ndAt old at_.toNat with left := p.1, right := r.1 }))
    else none
theorem stayN_len {old : List Word} : ∀ (n : Nat) (at_ : Int) (b : Box) (out : List Word) (k : Int) (out' : List Word), stayN old n at_ b out = some (k, out') → k = out.length ∧ out.length < out'.length
  | 0, at_, b, out, k, out', h => by cases h
  | n + 1, at_, b, out, k, out', h => by
    unfold stayN at h
    split at h
    · split at h
      · cases h; simp
      · split at h
        · exact stayN_len n _ _ _ _ _ h
        · split at h
          · exact stayN_len n _ _ _ _ _ h
          · rw [Option.bind_eq_some_iff] at h
            obtain ⟨⟨k1, o1⟩, h1, h⟩ := h
            rw [Option.bind_eq_some_iff] at h
            obtain ⟨⟨k2, o2⟩, h2, h⟩ := h
            have g1 := stayN_len n _ _ _ _ _ h1
            have g2 := stayN_len n _ _ _ _ _ h2
            cases h
            simp at g1 ⊢
            simp only at g2
            omega
    · cases h
def outOf : AV → Hp → Option (List Word)
  | .nils, [] => some []
  | .own 1 0 0 n, [(1, ⟨cs, false, 1⟩)] => (Arg.dec (.lst n cs) : Option (List Word))
  | _, _ => none
open Classical in
noncomputable def stayG (n : Nat) : GSp := fun args h => match args, h with
  | [.ptr 0 0 0, .int .i64 at_, x], (0, ⟨[y, o], false, 0⟩) :: hx => (Arg.dec x : Option Box).bind fun b => (Arg.dec y : Option (List Word)).bind fun old => (outOf o hx).bind fun out => (stayN old n at_ b out).bind fun p =>
    if RT old 4 ∧ okB b ∧ p.2.length ≤ 1099511627776 then some (.int .i64 p.1, [(0, ⟨[.lst old.length (encL old), .own 2 0 0 p.2.length], false, 0⟩), (2, ⟨encL p.2, false, 1⟩)]) else none
  | _, _ => none
noncomputable abbrev prT (n : Nat) : Cs := tbl [(85, sp1 Unpack), (69, sp3 CutB), (26, sp1 fun (b : Box) => some b.empty), (91, sp1 fun n => some (pack n)), (1000000 + 75, gspec (stayG n))]
inductive OutV (out : List Word) : AV → Hp → Prop
  | nil : out = [] → OutV out .nils []
  | own : OutV out (.own 1 0 0 out.length) [(1, ⟨encL out, false, 1⟩)]
theorem stayG_of {old : List Word} (hr : RT old 4) {n : Nat} {at_ : Int} {b : Box} (hb : okB b) {out : List Word} {k : Int} {out' : List Word} (hs : stayN old n at_ b out = some (k, out')) (hl : out'.length ≤ 1099511627776) {o : AV} {hx : Hp} (ho : OutV out o hx) :
    stayG n [.ptr 0 0 0, .int .i64 at_, Arg.enc b] ((0, ⟨[.lst old.length (encL old), o], false, 0⟩) :: hx) = some (.int .i64 k, [(0, ⟨[.lst old.length (encL old), .own 2 0 0 out'.length], false, 0⟩), (2, ⟨encL out', false, 1⟩)]) := by
  have h1 : (Arg.dec (.lst old.length (encL old)) : Option (List Word)) = some old := dec_lst old
  have h2 : outOf o hx = some out := by
    cases ho with
    | nil h => subst h; rfl
    | own => exact dec_lst out
  unfold stayG
  simp only [Arg.dec_enc, h1, h2, Option.bind_some, hs]
  rw [if_pos ⟨hr, hb, hl⟩]
theorem run_stay (old : List Word) (hr : RT old 4) (n : Nat) (at_ : Int) (b : Box) (hb : okB b) (out : List Word) (k : Int) (out' : List Word) (hs : stayN old (n + 1) at_ b out = some (k, out')) (hl : out'.length ≤ 1099511627776) (o : AV) (hx : Hp) (ho : OutV out o hx) :
    run (prT n) a75.code [] ⟨argEnv 0 [.ptr 0 0 0, .int .i64 at_, Arg.enc b], (0, ⟨[.lst old.length (encL old), o], false, 0⟩) :: hx, fun _ => 0⟩ (gfinN a75.res true (some 10001) (.int .i64 k) [(0, ⟨[.lst old.length (encL old), .own 2 0 0 out'.length], false, 0⟩), (2, ⟨encL out', false, 1⟩)]) := by
  have hlen := stayN_len _ _ _ _ _ _ hs
  unfold a75
  unfold stayN at hs
  split at hs
  case isFalse => cases hs
  rename_i hat
  obtain ⟨i, rfl⟩ : ∃ i : Nat, at_ = i := ⟨at_.toNat, by omega⟩
  have hi : i < old.length := by omega
  have ei : ((i : Nat) : Int).toNat = i := by omega
  rw [ei] at hs
  have hU := unpack_at hr hi
  rw [wdAt_lt hi] at hs
  have b1 : old.length ≤ maxN := by have := hr.le; unfold maxN; omega
  have hp1 : (encL old).all AV.plain = true := encL_plain old
  cases hlf : (ndAt old i).leaf
  case true =>
    rw [hlf] at hs
    simp only [if_true, Option.some.injEq, Prod.mk.injEq] at hs
    obtain ⟨rfl, rfl⟩ := hs
    have e1 : encL (out ++ [old[i]]) = encL out ++ [.int .u64 old[i].v] := by rw [encL_append]; rfl
    have c1 : out.length ≤ 1099511627775 := by simp at hl; omega
    have c2 : out.length ≤ 9223372036854775806 := by omega
    have hl2 : (encL out).length = out.length := by have : (encL out).length = out.length * 1 := encL_length out; omega
    have htk : List.take out.length (encL out) = encL out := by rw [← hl2, List.take_length]
    have w0 : IntKind.i64.wrap (out.length : Int) = out.length := wrap64 (by omega) (by omega)
    rw [e1]
    have hp2 : (encL out).all AV.plain = true := encL_plain out
    cases ho with
    | nil h0 =>
      subst h0
      simp -implicitDefEqProofs [hi, rd_words, hU, hlf, encL_nil]
    | own =>
      have hp3 : (encL out ++ [AV.int .u64 old[i].v]).all AV.plain = true := by rw [List.all_append, hp2]; rfl
      have c3 : out.length + 1 ≤ maxN := by unfold maxN; omega
      generalize hX : encL out ++ [AV.int .u64 old[i].v] = X at *
      simp -implicitDefEqProofs [hi, rd_words, hU, hlf, c1, c2, c3, hl2, htk, w0, hX, mapM1_nrm hp3]
  case false =>
    have hf := hr.feature hi hlf
    have hct := ok64_fits (hr.cutOk hi)
    have hok2 := okB_cut hb (ndAt old i).feature hct
    have hCu := cutB_of hb (ndAt old i).feature hct
    rw [hlf] at hs
    simp only [Bool.false_eq_true, if_false] at hs
    generalize cutB b (ndAt old i).feature (ndAt old i).cut = xy at *
    obtain ⟨x, y⟩ := xy
    simp only at hs hok2
    generalize ndAt old i = d at *
    obtain ⟨lf, val, ft, ct, lt, rt⟩ := d
    simp only at hlf hs hCu
    subst hlf
    have hpo : (encL out).all AV.plain = true := encL_plain out
    have hpo' : (encL out').all AV.plain = true := encL_plain out'
    have hmu : ∀ gm, mapM1 (up1 gm) (encL out') = some (encL out') := fun gm => mapM1_up hpo'
    cases he1 : x.empty
    case true =>
      rw [he1, if_pos rfl] at hs
      have hG := stayG_of hr hok2.2 hs hl ho
      simp only [enc_Box] at hG
      cases ho with
      | nil h0 =>
        subst h0
        simp -implicitDefEqProofs [hi, rd_words, hU, hCu, he1, hG, hmu, mapM1_nrm hpo']
      | own =>
        simp -implicitDefEqProofs [hi, rd_words, hU, hCu, he1, hG, hmu, mapM1_nrm hpo', mapM1_nrm hpo]
    case false =>
      rw [he1] at hs
      simp only [Bool.false_eq_true, if_false] at hs
      cases he2 : y.empty
      case true =>
        rw [he2, if_pos rfl] at hs
        have hG := stayG_of hr hok2.1 hs hl ho
        simp only [enc_Box] at hG
        cases ho with
        | nil h0 =>
          subst h0
          simp -implicitDefEqProofs [hi, rd_words, hU, hCu, he1, he2, hG, hmu, mapM1_nrm hpo']
        | own =>
          simp -implicitDefEqProofs [hi, rd_words, hU, hCu, he1, he2, hG, hmu, mapM1_nrm hpo', mapM1_nrm hpo]
      case false =>
        rw [he2] at hs
        simp only [Bool.false_eq_true, if_false] at hs
        rw [Option.bind_eq_some_iff] at hs
        obtain ⟨⟨k1, o1⟩, hs1, hs⟩ := hs
        rw [Option.bind_eq_some_iff] at hs
        obtain ⟨⟨k2, o2⟩, hs2, hs⟩ := hs
        simp only [Option.some.injEq, Prod.mk.injEq] at hs hs2
        obtain ⟨rfl, rfl⟩ := hs
        have g1 := stayN_len _ _ _ _ _ _ hs1
        have g2 := stayN_len _ _ _ _ _ _ hs2
        rw [List.length_set] at hl
        rw [List.length_append, List.length_singleton] at g1
        have ho1 : OutV (out ++ [⟨0⟩]) (.own 1 0 0 (out ++ [(⟨0⟩ : Word)]).length) [(1, ⟨encL (out ++ [(⟨0⟩ : Word)]), false, 1⟩)] := .own
        have hG1 := stayG_of hr hok2.1 hs1 (by omega) ho1
        have hG2 := stayG_of hr hok2.2 hs2 hl .own
        have e1 : encL (out ++ [(⟨0⟩ : Word)]) = encL out ++ [.int .u64 0] := by rw [encL_append]; rfl
        rw [e1, List.length_append, List.length_singleton] at hG1
        simp only [enc_Box] at hG1 hG2
        have hp1 : (encL out ++ [AV.int .u64 0]).all AV.plain = true := by rw [List.all_append, hpo]; rfl
        have hq1 : (encL o1).all AV.plain = true := encL_plain o1
        have hq2 : (encL o2).all AV.plain = true := encL_plain o2
        have hm1 : ∀ gm, mapM1 (up1 gm) (encL o1) = some (encL o1) := fun gm => mapM1_up hq1
        have hm2 : ∀ gm, mapM1 (up1 gm) (encL o2) = some (encL o2) := fun gm => mapM1_up hq2
        have c1 : out.length ≤ 1099511627775 := by omega
        have c2 : out.length ≤ maxN := by unfold maxN; omega
        have c3 : out.length < o2.length := by omega
        have hl2 : (encL out).length = out.length := by have : (encL out).length = out.length * 1 := encL_length out; omega
        have hl3 : (encL o2).length = o2.length := by have : (encL o2).length = o2.length * 1 := encL_length o2; omega
        have htk : List.take out.length (encL out) = encL out := by rw [← hl2, List.take_length]
        have hwr : wr (encL o2) out.length [.int .u64 (pack ⟨false, val, ft, ct, k1, k2⟩).v] = encL (o2.set out.length (pack ⟨false, val, ft, ct, k1, k2⟩)) := by
          have := wr_row o2 out.length c3 (pack ⟨false, val, ft, ct, k1, k2⟩)
          simpa using this
        have hDn : (Arg.dec (.agg [.bool false, .int .i64 val, .int .i64 ft, .int .i64 ct, .int .i64 k1, .int .i64 k2]) : Option Node) = some ⟨false, val, ft, ct, k1, k2⟩ := Arg.dec_enc (⟨false, val, ft, ct, k1, k2⟩ : Node)
        have hpk : ∀ w : Word, (Arg.enc w) = .int .u64 w.v := fun w => rfl
        have hq3 : (encL (o2.set out.length (pack ⟨false, val, ft, ct, k1, k2⟩))).all AV.plain = true := encL_plain _
        have c5 : out.length + 1 ≤ o2.length := c3
        generalize hX : encL out ++ [AV.int .u64 0] = X at *
        have c4 : X.length = out.length + 1 := by rw [← hX]; simp [hl2]
        cases ho with
        | nil h0 =>
          subst h0
          have hX' : X = [.int .u64 0] := by rw [← hX]; rfl
          rw [hX'] at hG1 hp1
          simp only [List.length_nil, Nat.zero_add] at hG1 hwr hq3 c3 c5
          simp -implicitDefEqProofs [hi, rd_words, hU, hCu, he1, he2, hG1, hG2, hm1, hm2, mapM1_nrm hp1, mapM1_nrm hq1, mapM1_nrm hq2, mapM1_nrm hq3, hDn, hl3, c3, c5, hwr]
        | own =>
          simp -implicitDefEqProofs [hi, rd_words, hU, hCu, he1, he2, hG1, hG2, hm1, hm2, mapM1_nrm hp1, mapM1_nrm hq1, mapM1_nrm hq2, hDn, c1, c2, c3, c5, hl2, hl3, htk, hX, hwr, mapM1_nrm hq3]
theorem outV_of {o : AV} {hx : Hp} {out : List Word} (h : outOf o hx = some out) : OutV out o hx := by
  unfold outOf at h
  split at h
  · cases h; exact .nil rfl
  · have := Arg.enc_dec _ _ h
    have e : Arg.enc out = .lst out.length (encL out) := rfl
    rw [e] at this
    injection this with h1 h2
    subst h1
    subst h2
    exact .own
  · cases h
theorem c_stay : ∀ n, Contract Tryz.prog (gBase + 75) (gspec (stayG n))
  | 0 => gcontractN (C := tbl [(85, sp1 Unpack), (69, sp3 CutB), (26, sp1 fun (b : Box) => some b.empty), (91, sp1 fun n => some (pack n))]) mixed (tbl_cons c_Unpack (tbl_cons c_bCut (tbl_cons c_bEmpty (tbl_cons c_Pack tbl_nil)))) Tryz.func75 m75 fun args h r h' hs => by
      unfold stayG at hs
      split at hs
      · rw [Option.bind_eq_some_iff] at hs
        obtain ⟨b, hb, hs⟩ := hs
        rw [Option.bind_eq_some_iff] at hs
        obtain ⟨old, ho, hs⟩ := hs
        rw [Option.bind_eq_some_iff] at hs
        obtain ⟨out, hu, hs⟩ := hs
        cases hs
      · cases hs
  | n + 1 => gcontractN (C := prT n) mixed (tbl_cons c_Unpack (tbl_cons c_bCut (tbl_cons c_bEmpty (tbl_cons c_Pack (tbl_cons (c_stay n) tbl_nil))))) Tryz.func75 m75 fun args h r h' hs => by
      unfold stayG at hs
      split at hs
      · rw [Option.bind_eq_some_iff] at hs
        obtain ⟨b, hb, hs⟩ := hs
        rw [Option.bind_eq_some_iff] at hs
        obtain ⟨old, ho, hs⟩ := hs
        rw [Option.bind_eq_some_iff] at hs
        obtain ⟨out, hu, hs⟩ := hs
        rw [Option.bind_eq_some_iff] at hs
        obtain ⟨⟨k, out'⟩, hst, hs⟩ := hs
        split at hs
        · rename_i hc
          simp only [Option.some.injEq, Prod.mk.injEq] at hs
          obtain ⟨rfl, rfl⟩ := hs
          obtain rfl := Arg.enc_dec _ _ hb
          obtain rfl := Arg.enc_dec _ _ ho
          exact ⟨rfl, true, _, run_stay old hc.1 n _ b hc.2.1 out k out' hst hc.2.2 _ _ (outV_of hu)⟩
        · cases hs
      · cases hs
theorem stayN_some {old : List Word} {d : Int} (hr : RT old d) : ∀ (n i : Nat) (b : Box) (out : List Word), i < old.length → old.length ≤ i + n → ∃ k out', stayN old n i b out = some (k, out') ∧ out'.length + 1 ≤ out.length + 2 ^ n
  | 0, i, b, out, hi, hn => by omega
  | n + 1, i, b, out, hi, hn => by
    unfold stayN
    have ei : ((i : Nat) : Int).toNat = i := by omega
    rw [if_pos ⟨by omega, by omega⟩, ei]
    have hp : 1 ≤ 2 ^ n := Nat.one_le_two_pow
    have hp2 : 2 ^ (n + 1) = 2 ^ n + 2 ^ n := by rw [Nat.pow_succ]; omega
    cases hl : (ndAt old i).leaf
    case true => exact ⟨_, _, rfl, by simp; omega⟩
    case false =>
      simp only [Bool.false_eq_true, if_false]
      have hin := hr.inner i hi (by rw [← ndAt_lt hi]; exact hl)
      rw [← ndAt_lt hi] at hin
      obtain ⟨_, _, l1, l2, r1, r2⟩ := hin
      obtain ⟨lt, hlt⟩ : ∃ lt : Nat, (ndAt old i).left = lt := ⟨(ndAt old i).left.toNat, by omega⟩
      obtain ⟨rt, hrt⟩ : ∃ rt : Nat, (ndAt old i).right = rt := ⟨(ndAt old i).right.toNat, by omega⟩
      rw [hlt] at l1 l2 ⊢
      rw [hrt] at r1 r2 ⊢
      split
      · obtain ⟨k, o, h1, h2⟩ := stayN_some hr n rt (cutB b (ndAt old i).feature (ndAt old i).cut).2 out (by omega) (by omega)
        exact ⟨k, o, h1, by omega⟩
      · split
        · obtain ⟨k, o, h1, h2⟩ := stayN_some hr n lt (cutB b (ndAt old i).feature (ndAt old i).cut).1 out (by omega) (by omega)
          exact ⟨k, o, h1, by omega⟩
        · obtain ⟨k, o, h1, h2⟩ := stayN_some hr n lt (cutB b (ndAt old i).feature (ndAt old i).cut).1 (out ++ [⟨0⟩]) (by omega) (by omega)
          obtain ⟨k', o', h3, h4⟩ := stayN_some hr n rt (cutB b (ndAt old i).feature (ndAt old i).cut).2 o (by omega) (by omega)
          rw [h1]
          simp only [Option.bind_some]
          rw [h3]
          simp only [Option.bind_some]
          have hg := stayN_len _ _ _ _ _ _ h1
          refine ⟨_, _, rfl, ?_⟩
          rw [List.length_set]
          simp at h2 hg
          omega
def pruneT (l : List Word) (b : Box) : List Word := match stayN l 31 0 b [] with
  | some p => p.2
  | none => []
noncomputable def PruneC (l : List Word) (b : Box) : Option (List Word) := Part ((okL l ∧ l.length ≤ maxN) ∧ (RT l 4 → okB b)) (if rightT l 4 && !b.empty then pruneT l b else [])
theorem runs_prTree (l : List Word) (b : Box) (r : List Word) (h : PruneC l b = some r) : Runs (tbl [(74, sp2 TreeRightT), (26, sp1 fun (b : Box) => some b.empty), (1000000 + 75, gspec (stayG 31))]) a44 [Arg.enc l, Arg.enc b] (Arg.enc r) := by
  obtain ⟨⟨hw, hb⟩, rfl⟩ := part_some h
  clear h
  refine ⟨rfl, fun g => run_def ?_⟩
  unfold a44
  have hT : TreeRightT l 4 = some (rightT l 4) := part_of hw _
  cases ht : rightT l 4
  case false =>
    rw [ht] at hT
    simp -implicitDefEqProofs [hT, encL_nil]
  case true =>
    rw [ht] at hT
    have hr := rightT_true.1 ht
    cases he : b.empty
    case true => simp -implicitDefEqProofs [hT, he, encL_nil]
    case false =>
      obtain ⟨k, out, h1, h2⟩ := stayN_some hr 31 0 b [] hr.pos (by have := hr.le; omega)
      have h1 : stayN l 31 0 b [] = some (k, out) := h1
      have hG := stayG_of hr (hb hr) h1 (by simp at h2; omega) (.nil rfl)
      have hp : pruneT l b = out := by unfold pruneT; rw [h1]
      have hpo : (encL out).all AV.plain = true := encL_plain out
      have hm : ∀ gm, mapM1 (up1 gm) (encL out) = some (encL out) := fun gm => mapM1_up hpo
      have hl2 : (encL out).length = out.length := by have : (encL out).length = out.length * 1 := encL_length out; omega
      have htk : List.take out.length (encL out) = encL out := by rw [← hl2, List.take_length]
      simp only [enc_Box] at hG
      simp -implicitDefEqProofs [hT, he, hG, hp, hm, hl2, htk]
theorem c_prTree : Contract Tryz.prog 44 (sp2 PruneC) :=
  contract_of_runs mixed (tbl_cons c_tRightT (tbl_cons c_bEmpty (tbl_cons (c_stay 31) tbl_nil))) Tryz.func44 m44 (sp2_runs runs_prTree)
end Go.Co
/- CO: what of a model a box needs. -/
set_option maxHeartbeats 16000000
set_option maxRecDepth 100000
namespace Go.Co
open Go.Am Go.Proofs
attribute [-simp] Go.Am.eff_gcall
def prF (b : Box) (t : Tree) : Tree := ⟨t.cls, pruneT t.nodes b⟩
def pruneM (m : Model) (b : Box) : Model := { m with trees := m.trees.map (prF b) }
noncomputable def PrModelC (m : Model) (b : Box) : Option Model := Part (RM m ∧ okB b) (if b.empty then ⟨0, 0, ⟨0, 0, 0⟩, []⟩ else pruneM m b)
theorem map_take {α β : Type} (f : α → β) (l : List α) (i : Nat) (h : i < l.length) : (l.take (i + 1)).map f = (l.take i).map f ++ [f l[i]] := by
  rw [List.take_succ_eq_append_getElem h, List.map_append]
  rfl
theorem okL_of {l : List Word} {d : Int} (h : RT l d) : okL l ∧ l.length ≤ maxN := by
  refine ⟨fun w hw => ?_, by have := h.le; unfold maxN; omega⟩
  obtain ⟨i, hi, rfl⟩ := List.getElem_of_mem hw
  exact (h.ok i hi).1
theorem runs_prModel (m : Model) (b : Box) (r : Model) (h : PrModelC m b = some r) : Runs (tbl [(43, sp1 MRight), (26, sp1 fun (b : Box) => some b.empty), (44, sp2 PruneC)]) a18 [Arg.enc m, Arg.enc b] (Arg.enc r) := by
  obtain ⟨⟨hm, hb⟩, rfl⟩ := part_some h
  clear h
  refine ⟨rfl, fun g => run_def ?_⟩
  unfold a18
  have hR : MRight m = some true := by unfold MRight; rw [if_neg (by have := hm.dim; omega)]; exact part_of hm _
  cases he : b.empty
  case true => simp -implicitDefEqProofs [hR, he, encL_nil]
  case false =>
    have hle := hm.trees
    have b3 : m.trees.length ≤ maxN := by unfold maxN; omega
    have hP : ∀ (i : Nat) (h : i < m.trees.length), PruneC m.trees[i].nodes b = some (pruneT m.trees[i].nodes b) := fun i h => by
      have hr := hm.rt (List.getElem_mem h)
      have h4 := hr.four
      unfold PruneC
      rw [part_of ⟨okL_of hr, fun _ => hb⟩, rightT_true.2 h4, he]
      rfl
    have hpm : Arg.enc (pruneM m b) = .agg [.int .i64 m.dim, .int .i64 m.classes, .int .i64 m.bias.b0, .int .i64 m.bias.b1, .int .i64 m.bias.b2, .lst (m.trees.map (prF b)).length (encL (m.trees.map (prF b)))] := rfl
    simp only [Bool.false_eq_true, if_false, hpm]
    simp -implicitDefEqProofs [hR, he, b3]
    refine run_while (c := c18_18) (fun n s => ∃ (i : Nat) (V : AV) (hx : Hp) (g : Nat → Nat), i + n = m.trees.length ∧ ((i = 0 ∧ V = .nils ∧ hx = []) ∨ (i ≠ 0 ∧ V = .own 10205 (g 10205) 0 i ∧ hx = [(10205, ⟨encL ((m.trees.map (prF b)).take i), false, 2⟩)])) ∧
      s = ⟨[(2, .ptr 2 (g 2) 0), (3, .ptr 3 (g 3) 0), (4, .ptr 4 (g 4) 0), (19, .lst m.trees.length (encL m.trees)), (20, .int .i64 m.trees.length), (21, .int .i64 i)], (2, ⟨[.int .i64 m.dim, .int .i64 m.classes, .int .i64 m.bias.b0, .int .i64 m.bias.b1, .int .i64 m.bias.b2, V], false, 0⟩) :: (3, ⟨Row.enc b, false, 0⟩) :: (4, ⟨[.int .i64 0, .int .i64 0, .int .i64 0, .int .i64 0, .int .i64 0, .nils], false, 0⟩) :: hx, g⟩) m.trees.length ⟨0, .nils, [], bump 4 (bump 3 (bump 2 g)), by omega, .inl ⟨rfl, rfl, rfl⟩, by simp⟩ ?_
    rintro n s ⟨i, V, hx, g, hi, hV, rfl⟩
    have hL : ((m.trees.map (prF b)).take i).length = i := by simp; omega
    have c5 : i * 2 ≤ (encL ((m.trees.map (prF b)).take i)).length := by rw [encL_length, hL]; exact Nat.le_refl _
    have htk : List.take (i * 2) (encL ((m.trees.map (prF b)).take i)) = encL ((m.trees.map (prF b)).take i) := take_rows _ _ (by rw [hL]; exact Nat.le_refl _)
    by_cases h1 : i < m.trees.length
    case pos =>
      have w1 : IntKind.i64.wrap ((i : Int) + 1) = (i : Int) + 1 := wrap64 (by omega) (by omega)
      have hrow := rd_tree m.trees i h1
      have hPi := hP i h1
      have c3 : i ≤ 1099511627775 := by omega
      have hE : encL ((m.trees.map (prF b)).take (i + 1)) = encL ((m.trees.map (prF b)).take i) ++ [.int .i64 m.trees[i].cls, .lst (pruneT m.trees[i].nodes b).length (encL (pruneT m.trees[i].nodes b))] := by
        rw [List.take_succ_eq_append_getElem (show i < (m.trees.map (prF b)).length by simpa using h1), encL_append, List.getElem_map]
        rfl
      rcases hV with ⟨rfl, rfl, rfl⟩ | ⟨hi0, rfl, rfl⟩
      · simp -implicitDefEqProofs [h1, hrow, hPi, w1]
        refine ⟨n - 1, by omega, 1, by omega, _, _, _, .inr ⟨by omega, ?_, ?_⟩, ⟨?_, ?_, ?_, by omega⟩, ⟨rfl, rfl⟩, rfl⟩
        · simp
        · rw [hE]; rfl
        all_goals simp
      · simp -implicitDefEqProofs [h1, hrow, hPi, w1, c3, c5, htk]
        refine ⟨n - 1, by omega, i + 1, by omega, _, _, _, .inr ⟨by omega, ?_, ?_⟩, ⟨?_, ?_, ?_, by omega⟩, ⟨rfl, rfl⟩, rfl⟩
        · simp
        · rw [hE]
        all_goals simp
    case neg =>
      have hil : i = m.trees.length := by omega
      have hT : (m.trees.map (prF b)).take i = m.trees.map (prF b) := List.take_of_length_le (by simp; omega)
      rw [hT] at c5 htk hV
      have hLm : (m.trees.map (prF b)).length = i := by simp; omega
      rcases hV with ⟨rfl, rfl, rfl⟩ | ⟨hi0, rfl, rfl⟩
      · have h0 : m.trees = [] := List.length_eq_zero_iff.1 (by omega)
        simp -implicitDefEqProofs [h1, h0, encL_nil]
      · simp -implicitDefEqProofs [h1, c5, htk, hLm]
        exact hil
theorem c_prModel : Contract Tryz.prog 18 (sp2 PrModelC) :=
  contract_of_runs mixed (tbl_cons c_mRight (tbl_cons c_bEmpty (tbl_cons c_prTree tbl_nil))) Tryz.func18 m18 (sp2_runs runs_prModel)
end Go.Co
