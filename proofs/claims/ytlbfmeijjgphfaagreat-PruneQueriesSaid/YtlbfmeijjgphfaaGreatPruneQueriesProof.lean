/- The law PruneQueries holds: its call returns true, and what was there reads as before. No condition. -/
import Derived.Test.YtlbfmeijjgphfaaGreatRows
import Derived.WalkKit
import Derived.ProofKit
import Derived.OpenShut
import Derived.Test.YtlbfmeijjgphfaaGreatAm4
import Derived.Test.YtlbfmeijjgphfaaGreatLPruneQueries
import Derived.Test.YtlbfmeijjgphfaaGreatPruneQueriesFacts
namespace Go.Proofs.YtlbfmeijjgphfaaGreat.pruneQueries
open Go.Am Go.Co Go.ChangeShapes Go.WideShapes Go.ChangeAt Go.RowKit
set_option linter.unusedVariables false

theorem own : ownKnob Tryz.prog.godebug = none := by kernel_rfl

set_option maxRecDepth 100000 in
theorem reads (xs : List AV) (h : argsOk Tryz.prog Tryz.f4.params.toList xs) : law_sp xs = some (.bool true) := by
  rw [Tryz.params4] at h
  obtain ⟨x0, xs, rfl, h0, h⟩ := argsOk_cons h
  obtain ⟨x1, xs, rfl, h1, h⟩ := argsOk_cons h
  obtain ⟨x2, xs, rfl, h2, h⟩ := argsOk_cons h
  obtain rfl := argsOk_nil h
  obtain ⟨a0, rfl, g0⟩ := arg_agg (α := Go.Co.Forest) (by kernel_rfl) (by kernel_rfl) h0
  obtain ⟨a1, rfl, g1⟩ := arg_agg (α := Go.Co.Ask) (by kernel_rfl) (by kernel_rfl) h1
  obtain ⟨a2, rfl, g2⟩ := arg_int (by kernel_rfl) (by kernel_rfl) h2
  exact law_says a0 a1 a2

set_option maxRecDepth 100000 in
theorem lifted (os : Os) (started : os.Started) (H : Type) (enc : TypeId × Value → H) :
    ReturnsInHanded {} Tryz.checked os 4 .any (Rows.pruneQueriesSpec.pre6 enc Tryz.prog Tryz.f4 Rows.pruneQueriesRow.domain false) (Rows.pruneQueriesSpec.post enc Tryz.prog Tryz.f4 false true false false) := by
  refine returnsInHanded_of_change (C := Tryz.checked) own started (by kernel_rfl) Tryz.func4
    (ChangeSpec.witness6 (enc := enc) (C := Tryz.checked) false ⟨#[], #[.agg #[.int .i64 0, .int .i64 0, .slice none 0 0, .slice none 0 0], .agg #[.int .i64 0, .int .i64 0, .int .i64 0, .int .i64 0, .int .i64 0, .int .i64 0, .bool false, .slice none 0 0], .int .i64 0], []⟩ 8 (by kernel_rfl) (by kernel_rfl) (by kernel_rfl) (by kernel_rfl)) ?_
  intro W base args ds gs before hval0 hW hcnd _
  refine law_gate (tb := 4) (by kernel_rfl) rfl (fun ds hd => ?_) (by kernel_rfl) (by kernel_rfl) Tryz.underlying4 hval0 hW law_holds reads
  rw [Tryz.params4] at hd
  match ds, hd with
  | [d0, d1, d2], _ => exact ⟨rfl, rfl, rfl⟩

theorem over : Rows.pruneQueriesRow.holds Tryz.pinned (OpenSpec.ofChange Rows.pruneQueriesSpec) :=
  OpenClaim.holds_of_wide 4 Tryz.f4 rfl rfl rfl rfl rfl rfl rfl ⟨rfl, rfl, rfl, rfl, rfl⟩ rfl rfl rfl rfl rfl (by kernel_rfl) Tryz.func4 pruneQueriesFacts.joined
    (of_decide_eq_true (by kernel_rfl)) (by unfold Func.isWrapper; first | (rw [if_pos (by decide +kernel)]; kernel_rfl) | (rw [if_neg (by decide +kernel)]; exact ⟨rfl, rfl⟩))
    (fun os started H enc _ => lifted os started H enc)

theorem proved : Rows.PruneQueriesSaid :=
  over
#print axioms proved
end Go.Proofs.YtlbfmeijjgphfaaGreat.pruneQueries
