/- CO: what breaks a query, by the document. -/
import Derived.Test.YtbjnmbbhlaghaaaCoS
namespace Go.Co
open Go.Am Go.Proofs
set_option linter.unusedSimpArgs false
set_option linter.unusedVariables false

theorem reval_of {m : Model} (h : RM m) {c : Int} (h0 : 0 ≤ c) (h1 : c < m.classes) (p : Point) : REval m c p = some (evalM m c p) := by
  unfold REval
  rw [part_of h, evalX, if_pos ⟨h0, h1⟩]
set_option maxRecDepth 100000 in
set_option maxHeartbeats 4000000 in
theorem runs_rBreaks (m : Model) (q : Query) (p : Point) (t : Int) (c : Bool) (h : BreaksC m q p t = some c) :
    Runs (tbl [(60, sp2 RQRight), (98, sp3 REval)]) a62 [Arg.enc m, Arg.enc q, Arg.enc p, Arg.enc t] (Arg.enc c) := by
  obtain ⟨hr, rfl⟩ := part_some h
  clear h
  refine ⟨rfl, fun g => run_def ?_⟩
  unfold a62
  have hM : RQRight m q = some (okQuery m q) := part_of hr _
  cases hq : okQuery m q
  case false => simp -implicitDefEqProofs [hM, hq, breaks]
  have hs := okQuery_spec hq
  have hE := reval_of hr hs.1 hs.2.1 p
  have hc3 := hr.classes
  have hks := okKind_spec hs.2.2.2.2.2
  obtain ⟨kind, cls, region, lo, hi, feature, falls, budget⟩ := q
  simp only at hE hks hs
  rcases hks with ⟨k, _⟩ | ⟨k, k2, _⟩ | ⟨k, f0, f1, _⟩
  · subst k
    by_cases g1 : evalM m cls p < lo
    · have g2 : ¬ lo ≤ evalM m cls p := by omega
      simp -implicitDefEqProofs [hM, hq, breaks, hE, Span.has, g1, g2]
    · have g2 : lo ≤ evalM m cls p := by omega
      by_cases g3 : hi < evalM m cls p
      · have g4 : ¬ evalM m cls p ≤ hi := by omega
        simp -implicitDefEqProofs [hM, hq, breaks, hE, Span.has, g1, g2, g3, g4]
      · have g4 : evalM m cls p ≤ hi := by omega
        simp -implicitDefEqProofs [hM, hq, breaks, hE, Span.has, g1, g2, g3, g4]
  · subst k
    have e0 := reval_of hr (c := 0) (by omega) (by omega) p
    have e1 := reval_of hr (c := 1) (by omega) (by omega) p
    obtain ⟨dim, classes, bias, trees⟩ := m
    simp only at hE hc3 k2 hs
    have hcl : classes = 2 ∨ classes = 3 := by omega
    have hcs : cls = 0 ∨ cls = 1 ∨ cls = 2 := by omega
    have rg2 : List.range 2 = [0, 1] := rfl
    have rg3 : List.range 3 = [0, 1, 2] := rfl
    rcases hcl with rfl | rfl
    · have hcs : cls = 0 ∨ cls = 1 := by omega
      rcases hcs with rfl | rfl
      · by_cases g0 : evalM (⟨dim, 2, bias, trees⟩ : Model) 0 p ≤ evalM (⟨dim, 2, bias, trees⟩ : Model) 1 p <;> simp -implicitDefEqProofs [hM, hq, breaks, e0, e1, g0, run_round, beaten, rg2]
      · by_cases g0 : evalM (⟨dim, 2, bias, trees⟩ : Model) 1 p ≤ evalM (⟨dim, 2, bias, trees⟩ : Model) 0 p <;> simp -implicitDefEqProofs [hM, hq, breaks, e0, e1, g0, run_round, beaten, rg2]
    · have e2 := reval_of hr (c := 2) (by omega) (by simp) p
      rcases hcs with rfl | rfl | rfl
      · by_cases g0 : evalM (⟨dim, 3, bias, trees⟩ : Model) 0 p ≤ evalM (⟨dim, 3, bias, trees⟩ : Model) 1 p <;> by_cases g1 : evalM (⟨dim, 3, bias, trees⟩ : Model) 0 p ≤ evalM (⟨dim, 3, bias, trees⟩ : Model) 2 p <;> simp -implicitDefEqProofs [hM, hq, breaks, e0, e1, e2, g0, g1, run_round, beaten, rg3]
      · by_cases g0 : evalM (⟨dim, 3, bias, trees⟩ : Model) 1 p ≤ evalM (⟨dim, 3, bias, trees⟩ : Model) 0 p <;> by_cases g1 : evalM (⟨dim, 3, bias, trees⟩ : Model) 1 p ≤ evalM (⟨dim, 3, bias, trees⟩ : Model) 2 p <;> simp -implicitDefEqProofs [hM, hq, breaks, e0, e1, e2, g0, g1, run_round, beaten, rg3]
      · by_cases g0 : evalM (⟨dim, 3, bias, trees⟩ : Model) 2 p ≤ evalM (⟨dim, 3, bias, trees⟩ : Model) 0 p <;> by_cases g1 : evalM (⟨dim, 3, bias, trees⟩ : Model) 2 p ≤ evalM (⟨dim, 3, bias, trees⟩ : Model) 1 p <;> simp -implicitDefEqProofs [hM, hq, breaks, e0, e1, e2, g0, g1, run_round, beaten, rg3]
  · subst k
    have f2 : feature < 4 := by have := hr.dim; omega
    have hsec : secondOf ⟨3, cls, region, lo, hi, feature, falls, budget⟩ p t = p.set feature t := by unfold secondOf paired; rw [if_pos (by simp; omega)]
    have hE2 := eval_of hr hs.1 hs.2.1 (p.set feature t)
    have hE2 : REval m cls (p.set feature t) = some (evalM m cls (p.set feature t)) := reval_of hr hs.1 hs.2.1 _
    obtain ⟨Y, hY⟩ : ∃ Y, evalM m cls (p.set feature t) = Y := ⟨_, rfl⟩
    obtain ⟨X, hX⟩ : ∃ X, evalM m cls p = X := ⟨_, rfl⟩
    rw [hY] at hE2
    rw [hX] at hE
    by_cases g1 : t ≤ p.get feature
    · have g2 : ¬ p.get feature < t := by omega
      simp -implicitDefEqProofs [hM, hq, breaks, hE, f0, f2, g1, g2]
    · have g2 : p.get feature < t := by omega
      have hf : feature = 0 ∨ feature = 1 ∨ feature = 2 ∨ feature = 3 := by omega
      rcases hf with rfl | rfl | rfl | rfl <;> simp only [Point.set, Point.get, Int.reduceEq, if_true, if_false, reduceIte] at hE2 hsec hY g1 g2 <;>
        by_cases e1 : X < Y <;> by_cases e2 : Y < X <;> (try (exfalso; omega)) <;> cases falls <;>
        simp -implicitDefEqProofs [hM, hq, breaks, hE, hE2, hsec, hX, hY, g1, g2, e1, e2, Point.get]
theorem c_rBreaks : Contract Try.prog 62 (sp4 BreaksC) :=
  contract_of_runs mixed (tbl_cons c_rRight' (tbl_cons c_rEval tbl_nil)) Try.func62 m62 (sp4_runs runs_rBreaks)
end Go.Co
