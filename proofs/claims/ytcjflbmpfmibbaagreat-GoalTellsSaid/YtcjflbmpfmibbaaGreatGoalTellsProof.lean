/- The law GoalTells holds: its call returns true, and what was there reads as before. No condition. -/
import Derived.Test.YtcjflbmpfmibbaaGreatRows
import Derived.WalkKit
import Derived.ProofKit
import Derived.OpenShut
import Derived.Test.YtcjflbmpfmibbaaGreatAm4
import Derived.Test.YtcjflbmpfmibbaaGreatLGoalTells
import Derived.Test.YtcjflbmpfmibbaaGreatGoalTellsFacts
namespace Go.Proofs.YtcjflbmpfmibbaaGreat.goalTells
open Go.Am Go.Co Go.ChangeShapes Go.WideShapes Go.ChangeAt Go.RowKit
set_option linter.unusedVariables false

theorem own : ownKnob Tryz.prog.godebug = none := by kernel_rfl

set_option maxRecDepth 100000 in
theorem reads (xs : List AV) (h : argsOk Tryz.prog Tryz.f3.params.toList xs) : law_sp xs = some (.bool true) := by
  rw [Tryz.params3] at h
  obtain ⟨x0, xs, rfl, h0, h⟩ := argsOk_cons h
  obtain ⟨x1, xs, rfl, h1, h⟩ := argsOk_cons h
  obtain ⟨x2, xs, rfl, h2, h⟩ := argsOk_cons h
  obtain ⟨x3, xs, rfl, h3, h⟩ := argsOk_cons h
  obtain ⟨x4, xs, rfl, h4, h⟩ := argsOk_cons h
  obtain rfl := argsOk_nil h
  obtain ⟨a0, rfl, g0⟩ := arg_agg (α := Go.Co.Forest) (by kernel_rfl) (by kernel_rfl) h0
  obtain ⟨a1, rfl, g1⟩ := arg_agg (α := Go.Co.Ask) (by kernel_rfl) (by kernel_rfl) h1
  obtain ⟨a2, rfl, g2, l2⟩ := arg_list (α := Int) (by kernel_rfl) (by kernel_rfl) h2
  obtain ⟨a3, rfl, g3⟩ := arg_agg (α := Go.Co.Box) (by kernel_rfl) (by kernel_rfl) h3
  obtain ⟨a4, rfl⟩ := arg_bool (by kernel_rfl) (by kernel_rfl) h4
  exact law_says a0 a1 a2 a3 a4 g3

set_option maxRecDepth 100000 in
theorem lifted (os : Os) (started : os.Started) (H : Type) (enc : TypeId × Value → H) :
    ReturnsInHanded {} Tryz.checked os 3 .any (Rows.goalTellsSpec.pre6 enc Tryz.prog Tryz.f3 Rows.goalTellsRow.domain false) (Rows.goalTellsSpec.post enc Tryz.prog Tryz.f3 false true false false) := by
  refine returnsInHanded_of_change (C := Tryz.checked) own started (by kernel_rfl) Tryz.func3
    (ChangeSpec.witness6 (enc := enc) (C := Tryz.checked) false ⟨#[], #[.agg #[.int .i64 0, .int .i64 0, .slice none 0 0, .slice none 0 0], .agg #[.int .i64 0, .int .i64 0, .int .i64 0, .int .i64 0, .int .i64 0, .int .i64 0, .bool false, .slice none 0 0], .slice none 0 0, .agg #[.int .i64 0, .int .i64 0, .int .i64 0, .int .i64 0, .int .i64 0, .int .i64 0, .int .i64 0, .int .i64 0, .int .i64 0, .int .i64 0], .bool false], []⟩ 8 (by kernel_rfl) (by kernel_rfl) (by kernel_rfl) (by kernel_rfl)) ?_
  intro W base args ds gs before hval0 hW hcnd _
  refine law_gate (tb := 4) (by kernel_rfl) rfl (fun ds hd => ?_) (by kernel_rfl) (by kernel_rfl) Tryz.underlying4 hval0 hW law_holds reads
  rw [Tryz.params3] at hd
  match ds, hd with
  | [d0, d1, d2, d3, d4], _ => exact ⟨rfl, rfl, rfl⟩

theorem over : Rows.goalTellsRow.holds Tryz.pinned (OpenSpec.ofChange Rows.goalTellsSpec) :=
  OpenClaim.holds_of_wide 3 Tryz.f3 rfl rfl rfl rfl rfl rfl rfl ⟨rfl, rfl, rfl, rfl, rfl⟩ rfl rfl rfl rfl rfl (by kernel_rfl) Tryz.func3 goalTellsFacts.joined
    (of_decide_eq_true (by kernel_rfl)) (by unfold Func.isWrapper; first | (rw [if_pos (by decide +kernel)]; kernel_rfl) | (rw [if_neg (by decide +kernel)]; exact ⟨rfl, rfl⟩))
    (fun os started H enc _ => lifted os started H enc)

theorem proved : Rows.GoalTellsSaid :=
  over
#print axioms proved
end Go.Proofs.YtcjflbmpfmibbaaGreat.goalTells
