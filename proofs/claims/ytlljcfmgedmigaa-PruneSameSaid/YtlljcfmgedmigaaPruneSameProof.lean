/- The law PruneSame holds: its call returns true, and what was there reads as before. No condition. -/
import Derived.Test.YtlljcfmgedmigaaRows
import Derived.WalkKit
import Derived.ProofKit
import Derived.OpenShut
import Derived.Test.YtlljcfmgedmigaaAm4
import Derived.Test.YtlljcfmgedmigaaLPruneSame
import Derived.Test.YtlljcfmgedmigaaPruneSameFacts
namespace Go.Proofs.Ytlljcfmgedmigaa.pruneSame
open Go.Am Go.Co Go.ChangeShapes Go.WideShapes Go.ChangeAt Go.RowKit
set_option linter.unusedVariables false

theorem own : ownKnob Try.prog.godebug = none := by kernel_rfl

set_option maxRecDepth 100000 in
theorem reads (xs : List AV) (h : argsOk Try.prog Try.f6.params.toList xs) : law_sp xs = some (.bool true) := by
  rw [Try.params6] at h
  obtain ⟨x0, xs, rfl, h0, h⟩ := argsOk_cons h
  obtain ⟨x1, xs, rfl, h1, h⟩ := argsOk_cons h
  obtain ⟨x2, xs, rfl, h2, h⟩ := argsOk_cons h
  obtain rfl := argsOk_nil h
  obtain ⟨a0, rfl, g0⟩ := arg_agg (α := Go.Co.Forest) (by kernel_rfl) (by kernel_rfl) h0
  obtain ⟨a1, rfl, g1, l1⟩ := arg_list (α := Int) (by kernel_rfl) (by kernel_rfl) h1
  obtain ⟨a2, rfl, g2, l2⟩ := arg_list (α := Int) (by kernel_rfl) (by kernel_rfl) h2
  exact law_says a0 a1 a2

set_option maxRecDepth 100000 in
theorem lifted (os : Os) (started : os.Started) (H : Type) (enc : TypeId × Value → H) :
    ReturnsInHanded {} Try.checked os 6 .any (Rows.pruneSameSpec.pre6 enc Try.prog Try.f6 Rows.pruneSameRow.domain false) (Rows.pruneSameSpec.post enc Try.prog Try.f6 false true false false) := by
  refine returnsInHanded_of_change (C := Try.checked) own started (by kernel_rfl) Try.func6
    (ChangeSpec.witness6 (enc := enc) (C := Try.checked) false ⟨#[], #[.agg #[.int .i64 0, .int .i64 0, .slice none 0 0, .slice none 0 0], .slice none 0 0, .slice none 0 0], []⟩ 8 (by kernel_rfl) (by kernel_rfl) (by kernel_rfl) (by kernel_rfl)) ?_
  intro W base args ds gs before hval0 hW hcnd _
  refine law_gate (tb := 4) (by kernel_rfl) rfl (fun ds hd => ?_) (by kernel_rfl) (by kernel_rfl) Try.underlying4 hval0 hW law_holds reads
  rw [Try.params6] at hd
  match ds, hd with
  | [d0, d1, d2], _ => exact ⟨rfl, rfl, rfl⟩

theorem over : Rows.pruneSameRow.holds Try.pinned (OpenSpec.ofChange Rows.pruneSameSpec) :=
  OpenClaim.holds_of_wide 6 Try.f6 rfl rfl rfl rfl rfl rfl rfl ⟨rfl, rfl, rfl, rfl, rfl⟩ rfl rfl rfl rfl rfl (by kernel_rfl) Try.func6 pruneSameFacts.joined
    (of_decide_eq_true (by kernel_rfl)) (by unfold Func.isWrapper; first | (rw [if_pos (by decide +kernel)]; kernel_rfl) | (rw [if_neg (by decide +kernel)]; exact ⟨rfl, rfl⟩))
    (fun os started H enc _ => lifted os started H enc)

theorem proved : Rows.PruneSameSaid :=
  over
#print axioms proved
end Go.Proofs.Ytlljcfmgedmigaa.pruneSame
