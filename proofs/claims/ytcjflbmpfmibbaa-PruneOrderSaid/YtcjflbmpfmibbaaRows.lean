/-
  No cell of these rows narrows 'for every input' (looked for: loops, veiled, ifaces, maps, wideKeys, modest, calm, conditions, laid).
  DERIVED. THE GIVEN ROWS OF THIS SEAT. 12 by the template 'for every input the law returns true; each argument reads behind the call as it read before'; 0 by the template 'total and deterministic' (their statements: YtcjflbmpfmibbaaTotals.lean).
  GIVEN WITH THE SEED: the statements are not yours to turn. If you find one false, say at which input.
  Laid BY PROGRAM, IN A SANDBOX (cutbox-rows.mjs): the forced cells as the released guide's own fill.sh prints them over the translation 9149f15e30103a9a… (all of the seat's roots in one cut). By AI agents, Wed Nov 11 2026. No macro, syntax, notation, axiom, sorry.
-/
import Derived.Test.YtcjflbmpfmibbaaChecked
import GoSem.Claim
import GoSem.ClaimJoined
import GoSem.ClaimMapViews
import Derived.JoinedTies
import Derived.KernelRfl
namespace Go.Proofs.Ytcjflbmpfmibbaa
/- THE CELL 'sum', in the pinned program and in every row, IS THE sha256 OF THE DUMP (.gsa) THAT YtcjflbmpfmibbaaProg.lean LOADS. Nothing in Lean hashes anything: it is a label: what it is worth is what the hold of that sum in a sandbox is worth. -/
noncomputable def Try.pinned : Pinned := { name := "ytcjflbmpfmibbaa", sum := "9149f15e30103a9a9f0297caf1cb371a381aff6106b3bdbb2ef11d8dec0e7d17", checked := Try.checked }
namespace Rows
def none {H : Type} : Left H := { results := [], args := [] }

/-- 'copselaw25.PruneOrder': WHATEVER THE INPUT: true; the input reads as it did. -/
def pruneOrderSpec : ChangeSpec := { name := "pruneOrder", fn := fun _ => fun
  | [d1, d2, d3, d4] => { results := [.lit (.bool true)], args := [d1, d2, d3, d4] }
  | _ => none }
def pruneOrderRow : OpenClaim := { program := "ytcjflbmpfmibbaa", sum := "9149f15e30103a9a9f0297caf1cb371a381aff6106b3bdbb2ef11d8dec0e7d17", func := "copse/copselaw25.PruneOrder", spec := "pruneOrder", unfollowed := true, recurses := true, plainKeys := false, apart := false }
def PruneOrderSaid : Prop := pruneOrderRow.holds Try.pinned (OpenSpec.ofChange pruneOrderSpec)

/-- ITS FALSE NEIGHBOUR: 'it returns false'. Refute it at one input. -/
def pruneOrderWrong : ChangeSpec := { name := "pruneOrder", fn := fun _ => fun
  | [d1, d2, d3, d4] => { results := [.lit (.bool false)], args := [d1, d2, d3, d4] }
  | _ => none }
def PruneOrderWrongFalsely : Prop := pruneOrderRow.holds Try.pinned (OpenSpec.ofChange pruneOrderWrong)

/-- 'copselaw25.PruneNested': WHATEVER THE INPUT: true; the input reads as it did. -/
def pruneNestedSpec : ChangeSpec := { name := "pruneNested", fn := fun _ => fun
  | [d1, d2, d3, d4] => { results := [.lit (.bool true)], args := [d1, d2, d3, d4] }
  | _ => none }
def pruneNestedRow : OpenClaim := { program := "ytcjflbmpfmibbaa", sum := "9149f15e30103a9a9f0297caf1cb371a381aff6106b3bdbb2ef11d8dec0e7d17", func := "copse/copselaw25.PruneNested", spec := "pruneNested", unfollowed := true, recurses := true, plainKeys := false, apart := false }
def PruneNestedSaid : Prop := pruneNestedRow.holds Try.pinned (OpenSpec.ofChange pruneNestedSpec)

/-- ITS FALSE NEIGHBOUR: 'it returns false'. Refute it at one input. -/
def pruneNestedWrong : ChangeSpec := { name := "pruneNested", fn := fun _ => fun
  | [d1, d2, d3, d4] => { results := [.lit (.bool false)], args := [d1, d2, d3, d4] }
  | _ => none }
def PruneNestedWrongFalsely : Prop := pruneNestedRow.holds Try.pinned (OpenSpec.ofChange pruneNestedWrong)

/-- 'copselaw25.PruneSame': WHATEVER THE INPUT: true; the input reads as it did. -/
def pruneSameSpec : ChangeSpec := { name := "pruneSame", fn := fun _ => fun
  | [d1, d2, d3] => { results := [.lit (.bool true)], args := [d1, d2, d3] }
  | _ => none }
def pruneSameRow : OpenClaim := { program := "ytcjflbmpfmibbaa", sum := "9149f15e30103a9a9f0297caf1cb371a381aff6106b3bdbb2ef11d8dec0e7d17", func := "copse/copselaw25.PruneSame", spec := "pruneSame", unfollowed := true, recurses := true, plainKeys := false, apart := false }
def PruneSameSaid : Prop := pruneSameRow.holds Try.pinned (OpenSpec.ofChange pruneSameSpec)

/-- ITS FALSE NEIGHBOUR: 'it returns false'. Refute it at one input. -/
def pruneSameWrong : ChangeSpec := { name := "pruneSame", fn := fun _ => fun
  | [d1, d2, d3] => { results := [.lit (.bool false)], args := [d1, d2, d3] }
  | _ => none }
def PruneSameWrongFalsely : Prop := pruneSameRow.holds Try.pinned (OpenSpec.ofChange pruneSameWrong)

/-- 'copselaw21.CheckTells': WHATEVER THE INPUT: true; the input reads as it did. -/
def checkTellsSpec : ChangeSpec := { name := "checkTells", fn := fun _ => fun
  | [d1, d2, d3, d4, d5, d6, d7] => { results := [.lit (.bool true)], args := [d1, d2, d3, d4, d5, d6, d7] }
  | _ => none }
def checkTellsRow : OpenClaim := { program := "ytcjflbmpfmibbaa", sum := "9149f15e30103a9a9f0297caf1cb371a381aff6106b3bdbb2ef11d8dec0e7d17", func := "copse/copselaw21.CheckTells", spec := "checkTells", unfollowed := true, recurses := true, plainKeys := false, apart := false }
def CheckTellsSaid : Prop := checkTellsRow.holds Try.pinned (OpenSpec.ofChange checkTellsSpec)

/-- ITS FALSE NEIGHBOUR: 'it returns false'. Refute it at one input. -/
def checkTellsWrong : ChangeSpec := { name := "checkTells", fn := fun _ => fun
  | [d1, d2, d3, d4, d5, d6, d7] => { results := [.lit (.bool false)], args := [d1, d2, d3, d4, d5, d6, d7] }
  | _ => none }
def CheckTellsWrongFalsely : Prop := checkTellsRow.holds Try.pinned (OpenSpec.ofChange checkTellsWrong)

/-- 'copselaw21.CheckSound': WHATEVER THE INPUT: true; the input reads as it did. -/
def checkSoundSpec : ChangeSpec := { name := "checkSound", fn := fun _ => fun
  | [d1, d2, d3, d4, d5, d6, d7, d8] => { results := [.lit (.bool true)], args := [d1, d2, d3, d4, d5, d6, d7, d8] }
  | _ => none }
def checkSoundRow : OpenClaim := { program := "ytcjflbmpfmibbaa", sum := "9149f15e30103a9a9f0297caf1cb371a381aff6106b3bdbb2ef11d8dec0e7d17", func := "copse/copselaw21.CheckSound", spec := "checkSound", unfollowed := true, recurses := true, plainKeys := false, apart := false }
def CheckSoundSaid : Prop := checkSoundRow.holds Try.pinned (OpenSpec.ofChange checkSoundSpec)

/-- ITS FALSE NEIGHBOUR: 'it returns false'. Refute it at one input. -/
def checkSoundWrong : ChangeSpec := { name := "checkSound", fn := fun _ => fun
  | [d1, d2, d3, d4, d5, d6, d7, d8] => { results := [.lit (.bool false)], args := [d1, d2, d3, d4, d5, d6, d7, d8] }
  | _ => none }
def CheckSoundWrongFalsely : Prop := checkSoundRow.holds Try.pinned (OpenSpec.ofChange checkSoundWrong)

/-- 'copselaw21.CheckFiner': WHATEVER THE INPUT: true; the input reads as it did. -/
def checkFinerSpec : ChangeSpec := { name := "checkFiner", fn := fun _ => fun
  | [d1, d2, d3, d4] => { results := [.lit (.bool true)], args := [d1, d2, d3, d4] }
  | _ => none }
def checkFinerRow : OpenClaim := { program := "ytcjflbmpfmibbaa", sum := "9149f15e30103a9a9f0297caf1cb371a381aff6106b3bdbb2ef11d8dec0e7d17", func := "copse/copselaw21.CheckFiner", spec := "checkFiner", unfollowed := true, recurses := true, plainKeys := false, apart := false }
def CheckFinerSaid : Prop := checkFinerRow.holds Try.pinned (OpenSpec.ofChange checkFinerSpec)

/-- ITS FALSE NEIGHBOUR: 'it returns false'. Refute it at one input. -/
def checkFinerWrong : ChangeSpec := { name := "checkFiner", fn := fun _ => fun
  | [d1, d2, d3, d4] => { results := [.lit (.bool false)], args := [d1, d2, d3, d4] }
  | _ => none }
def CheckFinerWrongFalsely : Prop := checkFinerRow.holds Try.pinned (OpenSpec.ofChange checkFinerWrong)

/-- 'copselaw21.CheckRegion': WHATEVER THE INPUT: true; the input reads as it did. -/
def checkRegionSpec : ChangeSpec := { name := "checkRegion", fn := fun _ => fun
  | [d1, d2, d3, d4, d5] => { results := [.lit (.bool true)], args := [d1, d2, d3, d4, d5] }
  | _ => none }
def checkRegionRow : OpenClaim := { program := "ytcjflbmpfmibbaa", sum := "9149f15e30103a9a9f0297caf1cb371a381aff6106b3bdbb2ef11d8dec0e7d17", func := "copse/copselaw21.CheckRegion", spec := "checkRegion", unfollowed := true, recurses := true, plainKeys := false, apart := false }
def CheckRegionSaid : Prop := checkRegionRow.holds Try.pinned (OpenSpec.ofChange checkRegionSpec)

/-- ITS FALSE NEIGHBOUR: 'it returns false'. Refute it at one input. -/
def checkRegionWrong : ChangeSpec := { name := "checkRegion", fn := fun _ => fun
  | [d1, d2, d3, d4, d5] => { results := [.lit (.bool false)], args := [d1, d2, d3, d4, d5] }
  | _ => none }
def CheckRegionWrongFalsely : Prop := checkRegionRow.holds Try.pinned (OpenSpec.ofChange checkRegionWrong)

/-- 'copselaw8.ModelCells': WHATEVER THE INPUT: true; the input reads as it did. -/
def modelCellsSpec : ChangeSpec := { name := "modelCells", fn := fun _ => fun
  | [d1, d2, d3] => { results := [.lit (.bool true)], args := [d1, d2, d3] }
  | _ => none }
def modelCellsRow : OpenClaim := { program := "ytcjflbmpfmibbaa", sum := "9149f15e30103a9a9f0297caf1cb371a381aff6106b3bdbb2ef11d8dec0e7d17", func := "copse/copselaw8.ModelCells", spec := "modelCells", unfollowed := true, recurses := true, plainKeys := false, apart := false }
def ModelCellsSaid : Prop := modelCellsRow.holds Try.pinned (OpenSpec.ofChange modelCellsSpec)

/-- ITS FALSE NEIGHBOUR: 'it returns false'. Refute it at one input. -/
def modelCellsWrong : ChangeSpec := { name := "modelCells", fn := fun _ => fun
  | [d1, d2, d3] => { results := [.lit (.bool false)], args := [d1, d2, d3] }
  | _ => none }
def ModelCellsWrongFalsely : Prop := modelCellsRow.holds Try.pinned (OpenSpec.ofChange modelCellsWrong)

/-- 'copselaw12.GridTells': WHATEVER THE INPUT: true; the input reads as it did. -/
def gridTellsSpec : ChangeSpec := { name := "gridTells", fn := fun _ => fun
  | [d1, d2, d3, d4, d5] => { results := [.lit (.bool true)], args := [d1, d2, d3, d4, d5] }
  | _ => none }
def gridTellsRow : OpenClaim := { program := "ytcjflbmpfmibbaa", sum := "9149f15e30103a9a9f0297caf1cb371a381aff6106b3bdbb2ef11d8dec0e7d17", func := "copse/copselaw12.GridTells", spec := "gridTells", unfollowed := true, recurses := true, plainKeys := false, apart := false }
def GridTellsSaid : Prop := gridTellsRow.holds Try.pinned (OpenSpec.ofChange gridTellsSpec)

/-- ITS FALSE NEIGHBOUR: 'it returns false'. Refute it at one input. -/
def gridTellsWrong : ChangeSpec := { name := "gridTells", fn := fun _ => fun
  | [d1, d2, d3, d4, d5] => { results := [.lit (.bool false)], args := [d1, d2, d3, d4, d5] }
  | _ => none }
def GridTellsWrongFalsely : Prop := gridTellsRow.holds Try.pinned (OpenSpec.ofChange gridTellsWrong)

/-- 'copselaw18.GoalSound': WHATEVER THE INPUT: true; the input reads as it did. -/
def goalSoundSpec : ChangeSpec := { name := "goalSound", fn := fun _ => fun
  | [d1, d2, d3, d4, d5, d6, d7] => { results := [.lit (.bool true)], args := [d1, d2, d3, d4, d5, d6, d7] }
  | _ => none }
def goalSoundRow : OpenClaim := { program := "ytcjflbmpfmibbaa", sum := "9149f15e30103a9a9f0297caf1cb371a381aff6106b3bdbb2ef11d8dec0e7d17", func := "copse/copselaw18.GoalSound", spec := "goalSound", unfollowed := true, recurses := true, plainKeys := false, apart := false }
def GoalSoundSaid : Prop := goalSoundRow.holds Try.pinned (OpenSpec.ofChange goalSoundSpec)

/-- ITS FALSE NEIGHBOUR: 'it returns false'. Refute it at one input. -/
def goalSoundWrong : ChangeSpec := { name := "goalSound", fn := fun _ => fun
  | [d1, d2, d3, d4, d5, d6, d7] => { results := [.lit (.bool false)], args := [d1, d2, d3, d4, d5, d6, d7] }
  | _ => none }
def GoalSoundWrongFalsely : Prop := goalSoundRow.holds Try.pinned (OpenSpec.ofChange goalSoundWrong)

/-- 'copselaw18.GoalOne': WHATEVER THE INPUT: true; the input reads as it did. -/
def goalOneSpec : ChangeSpec := { name := "goalOne", fn := fun _ => fun
  | [d1, d2, d3, d4] => { results := [.lit (.bool true)], args := [d1, d2, d3, d4] }
  | _ => none }
def goalOneRow : OpenClaim := { program := "ytcjflbmpfmibbaa", sum := "9149f15e30103a9a9f0297caf1cb371a381aff6106b3bdbb2ef11d8dec0e7d17", func := "copse/copselaw18.GoalOne", spec := "goalOne", unfollowed := true, recurses := true, plainKeys := false, apart := false }
def GoalOneSaid : Prop := goalOneRow.holds Try.pinned (OpenSpec.ofChange goalOneSpec)

/-- ITS FALSE NEIGHBOUR: 'it returns false'. Refute it at one input. -/
def goalOneWrong : ChangeSpec := { name := "goalOne", fn := fun _ => fun
  | [d1, d2, d3, d4] => { results := [.lit (.bool false)], args := [d1, d2, d3, d4] }
  | _ => none }
def GoalOneWrongFalsely : Prop := goalOneRow.holds Try.pinned (OpenSpec.ofChange goalOneWrong)

/-- 'copselaw16.LevelSound': WHATEVER THE INPUT: true; the input reads as it did. -/
def levelSoundSpec : ChangeSpec := { name := "levelSound", fn := fun _ => fun
  | [d1, d2, d3, d4, d5] => { results := [.lit (.bool true)], args := [d1, d2, d3, d4, d5] }
  | _ => none }
def levelSoundRow : OpenClaim := { program := "ytcjflbmpfmibbaa", sum := "9149f15e30103a9a9f0297caf1cb371a381aff6106b3bdbb2ef11d8dec0e7d17", func := "copse/copselaw16.LevelSound", spec := "levelSound", unfollowed := true, recurses := true, plainKeys := false, apart := false }
def LevelSoundSaid : Prop := levelSoundRow.holds Try.pinned (OpenSpec.ofChange levelSoundSpec)

/-- ITS FALSE NEIGHBOUR: 'it returns false'. Refute it at one input. -/
def levelSoundWrong : ChangeSpec := { name := "levelSound", fn := fun _ => fun
  | [d1, d2, d3, d4, d5] => { results := [.lit (.bool false)], args := [d1, d2, d3, d4, d5] }
  | _ => none }
def LevelSoundWrongFalsely : Prop := levelSoundRow.holds Try.pinned (OpenSpec.ofChange levelSoundWrong)

/- THE SECOND FORM. 'bulk': how many values and letters a reading holds, each counted each time it is reached (what is shared counts as often as it is met; a slice's spare places count too). A statement '..UptoSaid' is the law's where the arguments, and the package variables that the reading takes, are together of bulk at most 1048576: NARROWER than '..Said'. Prove '..Said' where nothing that the law and all that it calls make is longer than what came in: it says more and counts as full. Else prove '..UptoSaid'. A law counts once. -/
mutual
def uptoBulk {H : Type} : DataW H → Nat
  | .lit (.string bytes) => bytes.length + 1
  | .lit _ => 1
  | .nil => 1
  | .ptr d => uptoBulk d + 1
  | .slice elems spare => uptoBulkAll elems + uptoBulkAll spare + 1
  | .agg parts => uptoBulkAll parts + 1
  | .iface _ d => uptoBulk d + 1
  | .map entries => uptoBulkEntries entries + 1
  | .held _ => 1
def uptoBulkAll {H : Type} : List (DataW H) → Nat
  | [] => 0
  | d :: r => uptoBulk d + uptoBulkAll r
def uptoBulkEntries {H : Type} : List (Lit × DataW H) → Nat
  | [] => 0
  | x :: r => uptoBulkEntry x + uptoBulkEntries r
def uptoBulkEntry {H : Type} : Lit × DataW H → Nat
  | (.string bytes, d) => bytes.length + uptoBulk d + 1
  | (_, d) => uptoBulk d + 1
 end
def uptoSmall : (H : Type) → List (DataW H) → Bool := fun _ ds => decide (uptoBulkAll ds ≤ 1048576)
def OpenSpec.upto (s : _root_.Go.ChangeSpec) : _root_.Go.OpenSpec := { _root_.Go.OpenSpec.ofChange s with cond := some uptoSmall }

/-- 'copselaw25.PruneOrder', WHERE WHAT IT READS IS OF BULK AT MOST 1048576: true; the input reads as it did. -/
def pruneOrderUptoRow : OpenClaim := { program := "ytcjflbmpfmibbaa", sum := "9149f15e30103a9a9f0297caf1cb371a381aff6106b3bdbb2ef11d8dec0e7d17", func := "copse/copselaw25.PruneOrder", spec := "pruneOrder", unfollowed := true, recurses := true, plainKeys := false, apart := false, narrowed := true }
def PruneOrderUptoSaid : Prop := pruneOrderUptoRow.holds Try.pinned (OpenSpec.upto pruneOrderSpec)

/-- 'copselaw25.PruneNested', WHERE WHAT IT READS IS OF BULK AT MOST 1048576: true; the input reads as it did. -/
def pruneNestedUptoRow : OpenClaim := { program := "ytcjflbmpfmibbaa", sum := "9149f15e30103a9a9f0297caf1cb371a381aff6106b3bdbb2ef11d8dec0e7d17", func := "copse/copselaw25.PruneNested", spec := "pruneNested", unfollowed := true, recurses := true, plainKeys := false, apart := false, narrowed := true }
def PruneNestedUptoSaid : Prop := pruneNestedUptoRow.holds Try.pinned (OpenSpec.upto pruneNestedSpec)

/-- 'copselaw25.PruneSame', WHERE WHAT IT READS IS OF BULK AT MOST 1048576: true; the input reads as it did. -/
def pruneSameUptoRow : OpenClaim := { program := "ytcjflbmpfmibbaa", sum := "9149f15e30103a9a9f0297caf1cb371a381aff6106b3bdbb2ef11d8dec0e7d17", func := "copse/copselaw25.PruneSame", spec := "pruneSame", unfollowed := true, recurses := true, plainKeys := false, apart := false, narrowed := true }
def PruneSameUptoSaid : Prop := pruneSameUptoRow.holds Try.pinned (OpenSpec.upto pruneSameSpec)

/-- 'copselaw21.CheckTells', WHERE WHAT IT READS IS OF BULK AT MOST 1048576: true; the input reads as it did. -/
def checkTellsUptoRow : OpenClaim := { program := "ytcjflbmpfmibbaa", sum := "9149f15e30103a9a9f0297caf1cb371a381aff6106b3bdbb2ef11d8dec0e7d17", func := "copse/copselaw21.CheckTells", spec := "checkTells", unfollowed := true, recurses := true, plainKeys := false, apart := false, narrowed := true }
def CheckTellsUptoSaid : Prop := checkTellsUptoRow.holds Try.pinned (OpenSpec.upto checkTellsSpec)

/-- 'copselaw21.CheckSound', WHERE WHAT IT READS IS OF BULK AT MOST 1048576: true; the input reads as it did. -/
def checkSoundUptoRow : OpenClaim := { program := "ytcjflbmpfmibbaa", sum := "9149f15e30103a9a9f0297caf1cb371a381aff6106b3bdbb2ef11d8dec0e7d17", func := "copse/copselaw21.CheckSound", spec := "checkSound", unfollowed := true, recurses := true, plainKeys := false, apart := false, narrowed := true }
def CheckSoundUptoSaid : Prop := checkSoundUptoRow.holds Try.pinned (OpenSpec.upto checkSoundSpec)

/-- 'copselaw21.CheckFiner', WHERE WHAT IT READS IS OF BULK AT MOST 1048576: true; the input reads as it did. -/
def checkFinerUptoRow : OpenClaim := { program := "ytcjflbmpfmibbaa", sum := "9149f15e30103a9a9f0297caf1cb371a381aff6106b3bdbb2ef11d8dec0e7d17", func := "copse/copselaw21.CheckFiner", spec := "checkFiner", unfollowed := true, recurses := true, plainKeys := false, apart := false, narrowed := true }
def CheckFinerUptoSaid : Prop := checkFinerUptoRow.holds Try.pinned (OpenSpec.upto checkFinerSpec)

/-- 'copselaw21.CheckRegion', WHERE WHAT IT READS IS OF BULK AT MOST 1048576: true; the input reads as it did. -/
def checkRegionUptoRow : OpenClaim := { program := "ytcjflbmpfmibbaa", sum := "9149f15e30103a9a9f0297caf1cb371a381aff6106b3bdbb2ef11d8dec0e7d17", func := "copse/copselaw21.CheckRegion", spec := "checkRegion", unfollowed := true, recurses := true, plainKeys := false, apart := false, narrowed := true }
def CheckRegionUptoSaid : Prop := checkRegionUptoRow.holds Try.pinned (OpenSpec.upto checkRegionSpec)

/-- 'copselaw8.ModelCells', WHERE WHAT IT READS IS OF BULK AT MOST 1048576: true; the input reads as it did. -/
def modelCellsUptoRow : OpenClaim := { program := "ytcjflbmpfmibbaa", sum := "9149f15e30103a9a9f0297caf1cb371a381aff6106b3bdbb2ef11d8dec0e7d17", func := "copse/copselaw8.ModelCells", spec := "modelCells", unfollowed := true, recurses := true, plainKeys := false, apart := false, narrowed := true }
def ModelCellsUptoSaid : Prop := modelCellsUptoRow.holds Try.pinned (OpenSpec.upto modelCellsSpec)

/-- 'copselaw12.GridTells', WHERE WHAT IT READS IS OF BULK AT MOST 1048576: true; the input reads as it did. -/
def gridTellsUptoRow : OpenClaim := { program := "ytcjflbmpfmibbaa", sum := "9149f15e30103a9a9f0297caf1cb371a381aff6106b3bdbb2ef11d8dec0e7d17", func := "copse/copselaw12.GridTells", spec := "gridTells", unfollowed := true, recurses := true, plainKeys := false, apart := false, narrowed := true }
def GridTellsUptoSaid : Prop := gridTellsUptoRow.holds Try.pinned (OpenSpec.upto gridTellsSpec)

/-- 'copselaw18.GoalSound', WHERE WHAT IT READS IS OF BULK AT MOST 1048576: true; the input reads as it did. -/
def goalSoundUptoRow : OpenClaim := { program := "ytcjflbmpfmibbaa", sum := "9149f15e30103a9a9f0297caf1cb371a381aff6106b3bdbb2ef11d8dec0e7d17", func := "copse/copselaw18.GoalSound", spec := "goalSound", unfollowed := true, recurses := true, plainKeys := false, apart := false, narrowed := true }
def GoalSoundUptoSaid : Prop := goalSoundUptoRow.holds Try.pinned (OpenSpec.upto goalSoundSpec)

/-- 'copselaw18.GoalOne', WHERE WHAT IT READS IS OF BULK AT MOST 1048576: true; the input reads as it did. -/
def goalOneUptoRow : OpenClaim := { program := "ytcjflbmpfmibbaa", sum := "9149f15e30103a9a9f0297caf1cb371a381aff6106b3bdbb2ef11d8dec0e7d17", func := "copse/copselaw18.GoalOne", spec := "goalOne", unfollowed := true, recurses := true, plainKeys := false, apart := false, narrowed := true }
def GoalOneUptoSaid : Prop := goalOneUptoRow.holds Try.pinned (OpenSpec.upto goalOneSpec)

/-- 'copselaw16.LevelSound', WHERE WHAT IT READS IS OF BULK AT MOST 1048576: true; the input reads as it did. -/
def levelSoundUptoRow : OpenClaim := { program := "ytcjflbmpfmibbaa", sum := "9149f15e30103a9a9f0297caf1cb371a381aff6106b3bdbb2ef11d8dec0e7d17", func := "copse/copselaw16.LevelSound", spec := "levelSound", unfollowed := true, recurses := true, plainKeys := false, apart := false, narrowed := true }
def LevelSoundUptoSaid : Prop := levelSoundUptoRow.holds Try.pinned (OpenSpec.upto levelSoundSpec)

end Rows
end Go.Proofs.Ytcjflbmpfmibbaa
