/-
  No cell of these rows narrows 'for every input' (looked for: loops, veiled, ifaces, maps, wideKeys, modest, calm, conditions, laid).
  DERIVED. THE GIVEN ROWS OF THIS SEAT. 4 by the template 'for every input the law returns true; each argument reads behind the call as it read before'; 0 by the template 'total and deterministic' (their statements: YtagfmcachoaacaaTotals.lean).
  GIVEN WITH THE SEED: the statements are not yours to turn. If you find one false, say at which input.
  Laid BY PROGRAM, IN A SANDBOX (cutbox-rows.mjs): the forced cells as the released guide's own fill.sh prints them over the translation 0219b00e13b7c934… (all of the seat's roots in one cut). By AI agents, Wed Nov 11 2026. No macro, syntax, notation, axiom, sorry.
-/
import Derived.Test.YtagfmcachoaacaaChecked
import GoSem.Claim
import GoSem.ClaimJoined
import GoSem.ClaimMapViews
import Derived.JoinedTies
import Derived.KernelRfl
namespace Go.Proofs.Ytagfmcachoaacaa
/- THE CELL 'sum', in the pinned program and in every row, IS THE sha256 OF THE DUMP (.gsa) THAT YtagfmcachoaacaaProg.lean LOADS. Nothing in Lean hashes anything: it is a label: what it is worth is what the hold of that sum in a sandbox is worth. -/
noncomputable def Try.pinned : Pinned := { name := "ytagfmcachoaacaa", sum := "0219b00e13b7c93477dc776f8c09b05c8434329dd8545a5de7d3f47069a8af62", checked := Try.checked }
namespace Rows
def none {H : Type} : Left H := { results := [], args := [] }

/-- 'copselaw18.GoalSound': WHATEVER THE INPUT: true; the input reads as it did. -/
def goalSoundSpec : ChangeSpec := { name := "goalSound", fn := fun _ => fun
  | [d1, d2, d3, d4, d5, d6, d7] => { results := [.lit (.bool true)], args := [d1, d2, d3, d4, d5, d6, d7] }
  | _ => none }
def goalSoundRow : OpenClaim := { program := "ytagfmcachoaacaa", sum := "0219b00e13b7c93477dc776f8c09b05c8434329dd8545a5de7d3f47069a8af62", func := "copse/copselaw18.GoalSound", spec := "goalSound", unfollowed := true, recurses := true, apart := false }
def GoalSoundSaid : Prop := goalSoundRow.holds Try.pinned (OpenSpec.ofChange goalSoundSpec)

/-- ITS FALSE NEIGHBOUR: 'it returns false'. Refute it at one input. -/
def goalSoundWrong : ChangeSpec := { name := "goalSound", fn := fun _ => fun
  | [d1, d2, d3, d4, d5, d6, d7] => { results := [.lit (.bool false)], args := [d1, d2, d3, d4, d5, d6, d7] }
  | _ => none }
def GoalSoundWrongFalsely : Prop := goalSoundRow.holds Try.pinned (OpenSpec.ofChange goalSoundWrong)

/-- 'copselaw18.GoalSplits': WHATEVER THE INPUT: true; the input reads as it did. -/
def goalSplitsSpec : ChangeSpec := { name := "goalSplits", fn := fun _ => fun
  | [d1, d2, d3] => { results := [.lit (.bool true)], args := [d1, d2, d3] }
  | _ => none }
def goalSplitsRow : OpenClaim := { program := "ytagfmcachoaacaa", sum := "0219b00e13b7c93477dc776f8c09b05c8434329dd8545a5de7d3f47069a8af62", func := "copse/copselaw18.GoalSplits", spec := "goalSplits", unfollowed := true, recurses := true, apart := false }
def GoalSplitsSaid : Prop := goalSplitsRow.holds Try.pinned (OpenSpec.ofChange goalSplitsSpec)

/-- ITS FALSE NEIGHBOUR: 'it returns false'. Refute it at one input. -/
def goalSplitsWrong : ChangeSpec := { name := "goalSplits", fn := fun _ => fun
  | [d1, d2, d3] => { results := [.lit (.bool false)], args := [d1, d2, d3] }
  | _ => none }
def GoalSplitsWrongFalsely : Prop := goalSplitsRow.holds Try.pinned (OpenSpec.ofChange goalSplitsWrong)

/-- 'copselaw18.GoalOne': WHATEVER THE INPUT: true; the input reads as it did. -/
def goalOneSpec : ChangeSpec := { name := "goalOne", fn := fun _ => fun
  | [d1, d2, d3, d4] => { results := [.lit (.bool true)], args := [d1, d2, d3, d4] }
  | _ => none }
def goalOneRow : OpenClaim := { program := "ytagfmcachoaacaa", sum := "0219b00e13b7c93477dc776f8c09b05c8434329dd8545a5de7d3f47069a8af62", func := "copse/copselaw18.GoalOne", spec := "goalOne", unfollowed := true, recurses := true, apart := false }
def GoalOneSaid : Prop := goalOneRow.holds Try.pinned (OpenSpec.ofChange goalOneSpec)

/-- ITS FALSE NEIGHBOUR: 'it returns false'. Refute it at one input. -/
def goalOneWrong : ChangeSpec := { name := "goalOne", fn := fun _ => fun
  | [d1, d2, d3, d4] => { results := [.lit (.bool false)], args := [d1, d2, d3, d4] }
  | _ => none }
def GoalOneWrongFalsely : Prop := goalOneRow.holds Try.pinned (OpenSpec.ofChange goalOneWrong)

/-- 'copselaw16.LevelSound': WHATEVER THE INPUT: true; the input reads as it did. -/
def levelSoundSpec : ChangeSpec := { name := "levelSound", fn := fun _ => fun
  | [d1, d2, d3, d4, d5] => { results := [.lit (.bool true)], args := [d1, d2, d3, d4, d5] }
  | _ => none }
def levelSoundRow : OpenClaim := { program := "ytagfmcachoaacaa", sum := "0219b00e13b7c93477dc776f8c09b05c8434329dd8545a5de7d3f47069a8af62", func := "copse/copselaw16.LevelSound", spec := "levelSound", unfollowed := true, recurses := true, apart := false }
def LevelSoundSaid : Prop := levelSoundRow.holds Try.pinned (OpenSpec.ofChange levelSoundSpec)

/-- ITS FALSE NEIGHBOUR: 'it returns false'. Refute it at one input. -/
def levelSoundWrong : ChangeSpec := { name := "levelSound", fn := fun _ => fun
  | [d1, d2, d3, d4, d5] => { results := [.lit (.bool false)], args := [d1, d2, d3, d4, d5] }
  | _ => none }
def LevelSoundWrongFalsely : Prop := levelSoundRow.holds Try.pinned (OpenSpec.ofChange levelSoundWrong)

/- THE SECOND FORM. 'bulk': how many values and letters a reading holds, each counted each time it is reached (what is shared counts as often as it is met; a slice's spare places count too). A statement '..UptoSaid' is the law's where the arguments, and the package variables that the reading takes, are together of bulk at most 1048576: NARROWER than '..Said'. Prove '..Said' where nothing that the law and all that it calls make is longer than what came in: it says more and counts as full. Else prove '..UptoSaid'. A law counts once. -/
mutual
def uptoBulk {H : Type} : DataW H → Nat
  | .lit (.string bytes) => bytes.length + 1
  | .lit _ => 1
  | .nil => 1
  | .ptr d => uptoBulk d + 1
  | .slice elems spare => uptoBulkAll elems + uptoBulkAll spare + 1
  | .agg parts => uptoBulkAll parts + 1
  | .iface _ d => uptoBulk d + 1
  | .map entries => uptoBulkEntries entries + 1
  | .held _ => 1
def uptoBulkAll {H : Type} : List (DataW H) → Nat
  | [] => 0
  | d :: r => uptoBulk d + uptoBulkAll r
def uptoBulkEntries {H : Type} : List (Lit × DataW H) → Nat
  | [] => 0
  | x :: r => uptoBulkEntry x + uptoBulkEntries r
def uptoBulkEntry {H : Type} : Lit × DataW H → Nat
  | (.string bytes, d) => bytes.length + uptoBulk d + 1
  | (_, d) => uptoBulk d + 1
 end
def uptoSmall : (H : Type) → List (DataW H) → Bool := fun _ ds => decide (uptoBulkAll ds ≤ 1048576)
def OpenSpec.upto (s : _root_.Go.ChangeSpec) : _root_.Go.OpenSpec := { _root_.Go.OpenSpec.ofChange s with cond := some uptoSmall }

/-- 'copselaw18.GoalSound', WHERE WHAT IT READS IS OF BULK AT MOST 1048576: true; the input reads as it did. -/
def goalSoundUptoRow : OpenClaim := { program := "ytagfmcachoaacaa", sum := "0219b00e13b7c93477dc776f8c09b05c8434329dd8545a5de7d3f47069a8af62", func := "copse/copselaw18.GoalSound", spec := "goalSound", unfollowed := true, recurses := true, apart := false, narrowed := true }
def GoalSoundUptoSaid : Prop := goalSoundUptoRow.holds Try.pinned (OpenSpec.upto goalSoundSpec)

/-- 'copselaw18.GoalSplits', WHERE WHAT IT READS IS OF BULK AT MOST 1048576: true; the input reads as it did. -/
def goalSplitsUptoRow : OpenClaim := { program := "ytagfmcachoaacaa", sum := "0219b00e13b7c93477dc776f8c09b05c8434329dd8545a5de7d3f47069a8af62", func := "copse/copselaw18.GoalSplits", spec := "goalSplits", unfollowed := true, recurses := true, apart := false, narrowed := true }
def GoalSplitsUptoSaid : Prop := goalSplitsUptoRow.holds Try.pinned (OpenSpec.upto goalSplitsSpec)

/-- 'copselaw18.GoalOne', WHERE WHAT IT READS IS OF BULK AT MOST 1048576: true; the input reads as it did. -/
def goalOneUptoRow : OpenClaim := { program := "ytagfmcachoaacaa", sum := "0219b00e13b7c93477dc776f8c09b05c8434329dd8545a5de7d3f47069a8af62", func := "copse/copselaw18.GoalOne", spec := "goalOne", unfollowed := true, recurses := true, apart := false, narrowed := true }
def GoalOneUptoSaid : Prop := goalOneUptoRow.holds Try.pinned (OpenSpec.upto goalOneSpec)

/-- 'copselaw16.LevelSound', WHERE WHAT IT READS IS OF BULK AT MOST 1048576: true; the input reads as it did. -/
def levelSoundUptoRow : OpenClaim := { program := "ytagfmcachoaacaa", sum := "0219b00e13b7c93477dc776f8c09b05c8434329dd8545a5de7d3f47069a8af62", func := "copse/copselaw16.LevelSound", spec := "levelSound", unfollowed := true, recurses := true, apart := false, narrowed := true }
def LevelSoundUptoSaid : Prop := levelSoundUptoRow.holds Try.pinned (OpenSpec.upto levelSoundSpec)

end Rows
end Go.Proofs.Ytagfmcachoaacaa
