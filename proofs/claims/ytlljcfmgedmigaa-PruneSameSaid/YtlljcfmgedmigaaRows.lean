/-
  No cell of these rows narrows 'for every input' (looked for: loops, veiled, ifaces, maps, wideKeys, modest, calm, conditions, laid).
  DERIVED. THE GIVEN ROWS OF THIS SEAT. 7 by the template 'for every input the law returns true; each argument reads behind the call as it read before'; 0 by the template 'total and deterministic' (their statements: YtlljcfmgedmigaaTotals.lean).
  GIVEN WITH THE SEED: the statements are not yours to turn. If you find one false, say at which input.
  Laid BY PROGRAM, IN A SANDBOX (cutbox-rows.mjs): the forced cells as the released guide's own fill.sh prints them over the translation 260f68ed266e1689… (all of the seat's roots in one cut). By AI agents, Wed Nov 11 2026. No macro, syntax, notation, axiom, sorry.
-/
import Derived.Test.YtlljcfmgedmigaaChecked
import GoSem.Claim
import GoSem.ClaimJoined
import GoSem.ClaimMapViews
import Derived.JoinedTies
import Derived.KernelRfl
namespace Go.Proofs.Ytlljcfmgedmigaa
/- THE CELL 'sum', in the pinned program and in every row, IS THE sha256 OF THE DUMP (.gsa) THAT YtlljcfmgedmigaaProg.lean LOADS. Nothing in Lean hashes anything: it is a label: what it is worth is what the hold of that sum in a sandbox is worth. -/
noncomputable def Try.pinned : Pinned := { name := "ytlljcfmgedmigaa", sum := "260f68ed266e1689c45b4d4e73255ed3ab520d74e02605c0771cb4b417226b0c", checked := Try.checked }
namespace Rows
def none {H : Type} : Left H := { results := [], args := [] }

/-- 'copselaw25.PruneOrder': WHATEVER THE INPUT: true; the input reads as it did. -/
def pruneOrderSpec : ChangeSpec := { name := "pruneOrder", fn := fun _ => fun
  | [d1, d2, d3, d4] => { results := [.lit (.bool true)], args := [d1, d2, d3, d4] }
  | _ => none }
def pruneOrderRow : OpenClaim := { program := "ytlljcfmgedmigaa", sum := "260f68ed266e1689c45b4d4e73255ed3ab520d74e02605c0771cb4b417226b0c", func := "copse/copselaw25.PruneOrder", spec := "pruneOrder", unfollowed := true, recurses := true, plainKeys := false, apart := false }
def PruneOrderSaid : Prop := pruneOrderRow.holds Try.pinned (OpenSpec.ofChange pruneOrderSpec)

/-- ITS FALSE NEIGHBOUR: 'it returns false'. Refute it at one input. -/
def pruneOrderWrong : ChangeSpec := { name := "pruneOrder", fn := fun _ => fun
  | [d1, d2, d3, d4] => { results := [.lit (.bool false)], args := [d1, d2, d3, d4] }
  | _ => none }
def PruneOrderWrongFalsely : Prop := pruneOrderRow.holds Try.pinned (OpenSpec.ofChange pruneOrderWrong)

/-- 'copselaw25.PruneNested': WHATEVER THE INPUT: true; the input reads as it did. -/
def pruneNestedSpec : ChangeSpec := { name := "pruneNested", fn := fun _ => fun
  | [d1, d2, d3, d4] => { results := [.lit (.bool true)], args := [d1, d2, d3, d4] }
  | _ => none }
def pruneNestedRow : OpenClaim := { program := "ytlljcfmgedmigaa", sum := "260f68ed266e1689c45b4d4e73255ed3ab520d74e02605c0771cb4b417226b0c", func := "copse/copselaw25.PruneNested", spec := "pruneNested", unfollowed := true, recurses := true, plainKeys := false, apart := false }
def PruneNestedSaid : Prop := pruneNestedRow.holds Try.pinned (OpenSpec.ofChange pruneNestedSpec)

/-- ITS FALSE NEIGHBOUR: 'it returns false'. Refute it at one input. -/
def pruneNestedWrong : ChangeSpec := { name := "pruneNested", fn := fun _ => fun
  | [d1, d2, d3, d4] => { results := [.lit (.bool false)], args := [d1, d2, d3, d4] }
  | _ => none }
def PruneNestedWrongFalsely : Prop := pruneNestedRow.holds Try.pinned (OpenSpec.ofChange pruneNestedWrong)

/-- 'copselaw14.BoundMargin': WHATEVER THE INPUT: true; the input reads as it did. -/
def boundMarginSpec : ChangeSpec := { name := "boundMargin", fn := fun _ => fun
  | [d1, d2, d3, d4] => { results := [.lit (.bool true)], args := [d1, d2, d3, d4] }
  | _ => none }
def boundMarginRow : OpenClaim := { program := "ytlljcfmgedmigaa", sum := "260f68ed266e1689c45b4d4e73255ed3ab520d74e02605c0771cb4b417226b0c", func := "copse/copselaw14.BoundMargin", spec := "boundMargin", unfollowed := true, recurses := true, plainKeys := false, apart := false }
def BoundMarginSaid : Prop := boundMarginRow.holds Try.pinned (OpenSpec.ofChange boundMarginSpec)

/-- ITS FALSE NEIGHBOUR: 'it returns false'. Refute it at one input. -/
def boundMarginWrong : ChangeSpec := { name := "boundMargin", fn := fun _ => fun
  | [d1, d2, d3, d4] => { results := [.lit (.bool false)], args := [d1, d2, d3, d4] }
  | _ => none }
def BoundMarginWrongFalsely : Prop := boundMarginRow.holds Try.pinned (OpenSpec.ofChange boundMarginWrong)

/-- 'copselaw25.PruneSame': WHATEVER THE INPUT: true; the input reads as it did. -/
def pruneSameSpec : ChangeSpec := { name := "pruneSame", fn := fun _ => fun
  | [d1, d2, d3] => { results := [.lit (.bool true)], args := [d1, d2, d3] }
  | _ => none }
def pruneSameRow : OpenClaim := { program := "ytlljcfmgedmigaa", sum := "260f68ed266e1689c45b4d4e73255ed3ab520d74e02605c0771cb4b417226b0c", func := "copse/copselaw25.PruneSame", spec := "pruneSame", unfollowed := true, recurses := true, plainKeys := false, apart := false }
def PruneSameSaid : Prop := pruneSameRow.holds Try.pinned (OpenSpec.ofChange pruneSameSpec)

/-- ITS FALSE NEIGHBOUR: 'it returns false'. Refute it at one input. -/
def pruneSameWrong : ChangeSpec := { name := "pruneSame", fn := fun _ => fun
  | [d1, d2, d3] => { results := [.lit (.bool false)], args := [d1, d2, d3] }
  | _ => none }
def PruneSameWrongFalsely : Prop := pruneSameRow.holds Try.pinned (OpenSpec.ofChange pruneSameWrong)

/-- 'copselaw16.LevelTells': WHATEVER THE INPUT: true; the input reads as it did. -/
def levelTellsSpec : ChangeSpec := { name := "levelTells", fn := fun _ => fun
  | [d1, d2, d3, d4, d5, d6] => { results := [.lit (.bool true)], args := [d1, d2, d3, d4, d5, d6] }
  | _ => none }
def levelTellsRow : OpenClaim := { program := "ytlljcfmgedmigaa", sum := "260f68ed266e1689c45b4d4e73255ed3ab520d74e02605c0771cb4b417226b0c", func := "copse/copselaw16.LevelTells", spec := "levelTells", unfollowed := true, recurses := true, plainKeys := false, apart := false }
def LevelTellsSaid : Prop := levelTellsRow.holds Try.pinned (OpenSpec.ofChange levelTellsSpec)

/-- ITS FALSE NEIGHBOUR: 'it returns false'. Refute it at one input. -/
def levelTellsWrong : ChangeSpec := { name := "levelTells", fn := fun _ => fun
  | [d1, d2, d3, d4, d5, d6] => { results := [.lit (.bool false)], args := [d1, d2, d3, d4, d5, d6] }
  | _ => none }
def LevelTellsWrongFalsely : Prop := levelTellsRow.holds Try.pinned (OpenSpec.ofChange levelTellsWrong)

/-- 'copselaw8.ModelTells': WHATEVER THE INPUT: true; the input reads as it did. -/
def modelTellsSpec : ChangeSpec := { name := "modelTells", fn := fun _ => fun
  | [d1, d2, d3, d4, d5] => { results := [.lit (.bool true)], args := [d1, d2, d3, d4, d5] }
  | _ => none }
def modelTellsRow : OpenClaim := { program := "ytlljcfmgedmigaa", sum := "260f68ed266e1689c45b4d4e73255ed3ab520d74e02605c0771cb4b417226b0c", func := "copse/copselaw8.ModelTells", spec := "modelTells", unfollowed := true, recurses := true, plainKeys := false, apart := false }
def ModelTellsSaid : Prop := modelTellsRow.holds Try.pinned (OpenSpec.ofChange modelTellsSpec)

/-- ITS FALSE NEIGHBOUR: 'it returns false'. Refute it at one input. -/
def modelTellsWrong : ChangeSpec := { name := "modelTells", fn := fun _ => fun
  | [d1, d2, d3, d4, d5] => { results := [.lit (.bool false)], args := [d1, d2, d3, d4, d5] }
  | _ => none }
def ModelTellsWrongFalsely : Prop := modelTellsRow.holds Try.pinned (OpenSpec.ofChange modelTellsWrong)

/-- 'copselaw12.GridTells': WHATEVER THE INPUT: true; the input reads as it did. -/
def gridTellsSpec : ChangeSpec := { name := "gridTells", fn := fun _ => fun
  | [d1, d2, d3, d4, d5] => { results := [.lit (.bool true)], args := [d1, d2, d3, d4, d5] }
  | _ => none }
def gridTellsRow : OpenClaim := { program := "ytlljcfmgedmigaa", sum := "260f68ed266e1689c45b4d4e73255ed3ab520d74e02605c0771cb4b417226b0c", func := "copse/copselaw12.GridTells", spec := "gridTells", unfollowed := true, recurses := true, plainKeys := false, apart := false }
def GridTellsSaid : Prop := gridTellsRow.holds Try.pinned (OpenSpec.ofChange gridTellsSpec)

/-- ITS FALSE NEIGHBOUR: 'it returns false'. Refute it at one input. -/
def gridTellsWrong : ChangeSpec := { name := "gridTells", fn := fun _ => fun
  | [d1, d2, d3, d4, d5] => { results := [.lit (.bool false)], args := [d1, d2, d3, d4, d5] }
  | _ => none }
def GridTellsWrongFalsely : Prop := gridTellsRow.holds Try.pinned (OpenSpec.ofChange gridTellsWrong)

/- THE SECOND FORM. 'bulk': how many values and letters a reading holds, each counted each time it is reached (what is shared counts as often as it is met; a slice's spare places count too). A statement '..UptoSaid' is the law's where the arguments, and the package variables that the reading takes, are together of bulk at most 1048576: NARROWER than '..Said'. Prove '..Said' where nothing that the law and all that it calls make is longer than what came in: it says more and counts as full. Else prove '..UptoSaid'. A law counts once. -/
mutual
def uptoBulk {H : Type} : DataW H → Nat
  | .lit (.string bytes) => bytes.length + 1
  | .lit _ => 1
  | .nil => 1
  | .ptr d => uptoBulk d + 1
  | .slice elems spare => uptoBulkAll elems + uptoBulkAll spare + 1
  | .agg parts => uptoBulkAll parts + 1
  | .iface _ d => uptoBulk d + 1
  | .map entries => uptoBulkEntries entries + 1
  | .held _ => 1
def uptoBulkAll {H : Type} : List (DataW H) → Nat
  | [] => 0
  | d :: r => uptoBulk d + uptoBulkAll r
def uptoBulkEntries {H : Type} : List (Lit × DataW H) → Nat
  | [] => 0
  | x :: r => uptoBulkEntry x + uptoBulkEntries r
def uptoBulkEntry {H : Type} : Lit × DataW H → Nat
  | (.string bytes, d) => bytes.length + uptoBulk d + 1
  | (_, d) => uptoBulk d + 1
 end
def uptoSmall : (H : Type) → List (DataW H) → Bool := fun _ ds => decide (uptoBulkAll ds ≤ 1048576)
def OpenSpec.upto (s : _root_.Go.ChangeSpec) : _root_.Go.OpenSpec := { _root_.Go.OpenSpec.ofChange s with cond := some uptoSmall }

/-- 'copselaw25.PruneOrder', WHERE WHAT IT READS IS OF BULK AT MOST 1048576: true; the input reads as it did. -/
def pruneOrderUptoRow : OpenClaim := { program := "ytlljcfmgedmigaa", sum := "260f68ed266e1689c45b4d4e73255ed3ab520d74e02605c0771cb4b417226b0c", func := "copse/copselaw25.PruneOrder", spec := "pruneOrder", unfollowed := true, recurses := true, plainKeys := false, apart := false, narrowed := true }
def PruneOrderUptoSaid : Prop := pruneOrderUptoRow.holds Try.pinned (OpenSpec.upto pruneOrderSpec)

/-- 'copselaw25.PruneNested', WHERE WHAT IT READS IS OF BULK AT MOST 1048576: true; the input reads as it did. -/
def pruneNestedUptoRow : OpenClaim := { program := "ytlljcfmgedmigaa", sum := "260f68ed266e1689c45b4d4e73255ed3ab520d74e02605c0771cb4b417226b0c", func := "copse/copselaw25.PruneNested", spec := "pruneNested", unfollowed := true, recurses := true, plainKeys := false, apart := false, narrowed := true }
def PruneNestedUptoSaid : Prop := pruneNestedUptoRow.holds Try.pinned (OpenSpec.upto pruneNestedSpec)

/-- 'copselaw14.BoundMargin', WHERE WHAT IT READS IS OF BULK AT MOST 1048576: true; the input reads as it did. -/
def boundMarginUptoRow : OpenClaim := { program := "ytlljcfmgedmigaa", sum := "260f68ed266e1689c45b4d4e73255ed3ab520d74e02605c0771cb4b417226b0c", func := "copse/copselaw14.BoundMargin", spec := "boundMargin", unfollowed := true, recurses := true, plainKeys := false, apart := false, narrowed := true }
def BoundMarginUptoSaid : Prop := boundMarginUptoRow.holds Try.pinned (OpenSpec.upto boundMarginSpec)

/-- 'copselaw25.PruneSame', WHERE WHAT IT READS IS OF BULK AT MOST 1048576: true; the input reads as it did. -/
def pruneSameUptoRow : OpenClaim := { program := "ytlljcfmgedmigaa", sum := "260f68ed266e1689c45b4d4e73255ed3ab520d74e02605c0771cb4b417226b0c", func := "copse/copselaw25.PruneSame", spec := "pruneSame", unfollowed := true, recurses := true, plainKeys := false, apart := false, narrowed := true }
def PruneSameUptoSaid : Prop := pruneSameUptoRow.holds Try.pinned (OpenSpec.upto pruneSameSpec)

/-- 'copselaw16.LevelTells', WHERE WHAT IT READS IS OF BULK AT MOST 1048576: true; the input reads as it did. -/
def levelTellsUptoRow : OpenClaim := { program := "ytlljcfmgedmigaa", sum := "260f68ed266e1689c45b4d4e73255ed3ab520d74e02605c0771cb4b417226b0c", func := "copse/copselaw16.LevelTells", spec := "levelTells", unfollowed := true, recurses := true, plainKeys := false, apart := false, narrowed := true }
def LevelTellsUptoSaid : Prop := levelTellsUptoRow.holds Try.pinned (OpenSpec.upto levelTellsSpec)

/-- 'copselaw8.ModelTells', WHERE WHAT IT READS IS OF BULK AT MOST 1048576: true; the input reads as it did. -/
def modelTellsUptoRow : OpenClaim := { program := "ytlljcfmgedmigaa", sum := "260f68ed266e1689c45b4d4e73255ed3ab520d74e02605c0771cb4b417226b0c", func := "copse/copselaw8.ModelTells", spec := "modelTells", unfollowed := true, recurses := true, plainKeys := false, apart := false, narrowed := true }
def ModelTellsUptoSaid : Prop := modelTellsUptoRow.holds Try.pinned (OpenSpec.upto modelTellsSpec)

/-- 'copselaw12.GridTells', WHERE WHAT IT READS IS OF BULK AT MOST 1048576: true; the input reads as it did. -/
def gridTellsUptoRow : OpenClaim := { program := "ytlljcfmgedmigaa", sum := "260f68ed266e1689c45b4d4e73255ed3ab520d74e02605c0771cb4b417226b0c", func := "copse/copselaw12.GridTells", spec := "gridTells", unfollowed := true, recurses := true, plainKeys := false, apart := false, narrowed := true }
def GridTellsUptoSaid : Prop := gridTellsUptoRow.holds Try.pinned (OpenSpec.upto gridTellsSpec)

end Rows
end Go.Proofs.Ytlljcfmgedmigaa
