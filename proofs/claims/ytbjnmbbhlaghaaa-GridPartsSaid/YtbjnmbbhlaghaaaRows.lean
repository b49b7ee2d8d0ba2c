/-
  No cell of these rows narrows 'for every input' (looked for: loops, veiled, ifaces, maps, wideKeys, modest, calm, conditions, laid).
  DERIVED. THE GIVEN ROWS OF THIS SEAT. 40 by the template 'for every input the law returns true; each argument reads behind the call as it read before'; 0 by the template 'total and deterministic' (their statements: YtbjnmbbhlaghaaaTotals.lean).
  GIVEN WITH THE SEED: the statements are not yours to turn. If you find one false, say at which input.
  Laid BY PROGRAM, IN A SANDBOX (cutbox-rows.mjs): the forced cells as the released guide's own fill.sh prints them over the translation dfb15500a1e44060… (all of the seat's roots in one cut). By AI agents, Wed Nov 11 2026. No macro, syntax, notation, axiom, sorry.
-/
import Derived.Test.YtbjnmbbhlaghaaaChecked
import GoSem.Claim
import GoSem.ClaimJoined
import GoSem.ClaimMapViews
import Derived.JoinedTies
import Derived.KernelRfl
namespace Go.Proofs.Ytbjnmbbhlaghaaa
/- THE CELL 'sum', in the pinned program and in every row, IS THE sha256 OF THE DUMP (.gsa) THAT YtbjnmbbhlaghaaaProg.lean LOADS. Nothing in Lean hashes anything: it is a label: what it is worth is what the hold of that sum in a sandbox is worth. -/
noncomputable def Try.pinned : Pinned := { name := "ytbjnmbbhlaghaaa", sum := "dfb15500a1e440603516b5c66250b77669e25737f496d4cd2d91664e612128a6", checked := Try.checked }
namespace Rows
def none {H : Type} : Left H := { results := [], args := [] }

/-- 'copselaw14.BoundRuns': WHATEVER THE INPUT: true; the input reads as it did. -/
def boundRunsSpec : ChangeSpec := { name := "boundRuns", fn := fun _ => fun
  | [] => { results := [.lit (.bool true)], args := [] }
  | _ => none }
def boundRunsRow : OpenClaim := { program := "ytbjnmbbhlaghaaa", sum := "dfb15500a1e440603516b5c66250b77669e25737f496d4cd2d91664e612128a6", func := "copse/copselaw14.BoundRuns", spec := "boundRuns", unfollowed := true, recurses := true, plainKeys := false, apart := false }
def BoundRunsSaid : Prop := boundRunsRow.holds Try.pinned (OpenSpec.ofChange boundRunsSpec)

/-- ITS FALSE NEIGHBOUR: 'it returns false'. Refute it at one input. -/
def boundRunsWrong : ChangeSpec := { name := "boundRuns", fn := fun _ => fun
  | [] => { results := [.lit (.bool false)], args := [] }
  | _ => none }
def BoundRunsWrongFalsely : Prop := boundRunsRow.holds Try.pinned (OpenSpec.ofChange boundRunsWrong)

/-- 'copselaw14.BoundTells': WHATEVER THE INPUT: true; the input reads as it did. -/
def boundTellsSpec : ChangeSpec := { name := "boundTells", fn := fun _ => fun
  | [d1, d2, d3, d4, d5] => { results := [.lit (.bool true)], args := [d1, d2, d3, d4, d5] }
  | _ => none }
def boundTellsRow : OpenClaim := { program := "ytbjnmbbhlaghaaa", sum := "dfb15500a1e440603516b5c66250b77669e25737f496d4cd2d91664e612128a6", func := "copse/copselaw14.BoundTells", spec := "boundTells", unfollowed := true, recurses := true, plainKeys := false, apart := false }
def BoundTellsSaid : Prop := boundTellsRow.holds Try.pinned (OpenSpec.ofChange boundTellsSpec)

/-- ITS FALSE NEIGHBOUR: 'it returns false'. Refute it at one input. -/
def boundTellsWrong : ChangeSpec := { name := "boundTells", fn := fun _ => fun
  | [d1, d2, d3, d4, d5] => { results := [.lit (.bool false)], args := [d1, d2, d3, d4, d5] }
  | _ => none }
def BoundTellsWrongFalsely : Prop := boundTellsRow.holds Try.pinned (OpenSpec.ofChange boundTellsWrong)

/-- 'copselaw14.BoundTrees': WHATEVER THE INPUT: true; the input reads as it did. -/
def boundTreesSpec : ChangeSpec := { name := "boundTrees", fn := fun _ => fun
  | [d1, d2] => { results := [.lit (.bool true)], args := [d1, d2] }
  | _ => none }
def boundTreesRow : OpenClaim := { program := "ytbjnmbbhlaghaaa", sum := "dfb15500a1e440603516b5c66250b77669e25737f496d4cd2d91664e612128a6", func := "copse/copselaw14.BoundTrees", spec := "boundTrees", unfollowed := true, recurses := true, plainKeys := false, apart := false }
def BoundTreesSaid : Prop := boundTreesRow.holds Try.pinned (OpenSpec.ofChange boundTreesSpec)

/-- ITS FALSE NEIGHBOUR: 'it returns false'. Refute it at one input. -/
def boundTreesWrong : ChangeSpec := { name := "boundTrees", fn := fun _ => fun
  | [d1, d2] => { results := [.lit (.bool false)], args := [d1, d2] }
  | _ => none }
def BoundTreesWrongFalsely : Prop := boundTreesRow.holds Try.pinned (OpenSpec.ofChange boundTreesWrong)

/-- 'copselaw17.CoupleRuns': WHATEVER THE INPUT: true; the input reads as it did. -/
def coupleRunsSpec : ChangeSpec := { name := "coupleRuns", fn := fun _ => fun
  | [] => { results := [.lit (.bool true)], args := [] }
  | _ => none }
def coupleRunsRow : OpenClaim := { program := "ytbjnmbbhlaghaaa", sum := "dfb15500a1e440603516b5c66250b77669e25737f496d4cd2d91664e612128a6", func := "copse/copselaw17.CoupleRuns", spec := "coupleRuns", unfollowed := true, recurses := true, plainKeys := false, apart := false }
def CoupleRunsSaid : Prop := coupleRunsRow.holds Try.pinned (OpenSpec.ofChange coupleRunsSpec)

/-- ITS FALSE NEIGHBOUR: 'it returns false'. Refute it at one input. -/
def coupleRunsWrong : ChangeSpec := { name := "coupleRuns", fn := fun _ => fun
  | [] => { results := [.lit (.bool false)], args := [] }
  | _ => none }
def CoupleRunsWrongFalsely : Prop := coupleRunsRow.holds Try.pinned (OpenSpec.ofChange coupleRunsWrong)

/-- 'copselaw10.QueryRuns': WHATEVER THE INPUT: true; the input reads as it did. -/
def queryRunsSpec : ChangeSpec := { name := "queryRuns", fn := fun _ => fun
  | [] => { results := [.lit (.bool true)], args := [] }
  | _ => none }
def queryRunsRow : OpenClaim := { program := "ytbjnmbbhlaghaaa", sum := "dfb15500a1e440603516b5c66250b77669e25737f496d4cd2d91664e612128a6", func := "copse/copselaw10.QueryRuns", spec := "queryRuns", unfollowed := true, recurses := true, plainKeys := false, apart := false }
def QueryRunsSaid : Prop := queryRunsRow.holds Try.pinned (OpenSpec.ofChange queryRunsSpec)

/-- ITS FALSE NEIGHBOUR: 'it returns false'. Refute it at one input. -/
def queryRunsWrong : ChangeSpec := { name := "queryRuns", fn := fun _ => fun
  | [] => { results := [.lit (.bool false)], args := [] }
  | _ => none }
def QueryRunsWrongFalsely : Prop := queryRunsRow.holds Try.pinned (OpenSpec.ofChange queryRunsWrong)

/-- 'copselaw10.QueryTells': WHATEVER THE INPUT: true; the input reads as it did. -/
def queryTellsSpec : ChangeSpec := { name := "queryTells", fn := fun _ => fun
  | [d1, d2, d3, d4, d5, d6] => { results := [.lit (.bool true)], args := [d1, d2, d3, d4, d5, d6] }
  | _ => none }
def queryTellsRow : OpenClaim := { program := "ytbjnmbbhlaghaaa", sum := "dfb15500a1e440603516b5c66250b77669e25737f496d4cd2d91664e612128a6", func := "copse/copselaw10.QueryTells", spec := "queryTells", unfollowed := true, recurses := true, plainKeys := false, apart := false }
def QueryTellsSaid : Prop := queryTellsRow.holds Try.pinned (OpenSpec.ofChange queryTellsSpec)

/-- ITS FALSE NEIGHBOUR: 'it returns false'. Refute it at one input. -/
def queryTellsWrong : ChangeSpec := { name := "queryTells", fn := fun _ => fun
  | [d1, d2, d3, d4, d5, d6] => { results := [.lit (.bool false)], args := [d1, d2, d3, d4, d5, d6] }
  | _ => none }
def QueryTellsWrongFalsely : Prop := queryTellsRow.holds Try.pinned (OpenSpec.ofChange queryTellsWrong)

/-- 'copselaw10.QueryEdges': WHATEVER THE INPUT: true; the input reads as it did. -/
def queryEdgesSpec : ChangeSpec := { name := "queryEdges", fn := fun _ => fun
  | [d1, d2, d3, d4] => { results := [.lit (.bool true)], args := [d1, d2, d3, d4] }
  | _ => none }
def queryEdgesRow : OpenClaim := { program := "ytbjnmbbhlaghaaa", sum := "dfb15500a1e440603516b5c66250b77669e25737f496d4cd2d91664e612128a6", func := "copse/copselaw10.QueryEdges", spec := "queryEdges", unfollowed := true, recurses := true, plainKeys := false, apart := false }
def QueryEdgesSaid : Prop := queryEdgesRow.holds Try.pinned (OpenSpec.ofChange queryEdgesSpec)

/-- ITS FALSE NEIGHBOUR: 'it returns false'. Refute it at one input. -/
def queryEdgesWrong : ChangeSpec := { name := "queryEdges", fn := fun _ => fun
  | [d1, d2, d3, d4] => { results := [.lit (.bool false)], args := [d1, d2, d3, d4] }
  | _ => none }
def QueryEdgesWrongFalsely : Prop := queryEdgesRow.holds Try.pinned (OpenSpec.ofChange queryEdgesWrong)

/-- 'copselaw10.QuerySecond': WHATEVER THE INPUT: true; the input reads as it did. -/
def querySecondSpec : ChangeSpec := { name := "querySecond", fn := fun _ => fun
  | [d1, d2, d3, d4] => { results := [.lit (.bool true)], args := [d1, d2, d3, d4] }
  | _ => none }
def querySecondRow : OpenClaim := { program := "ytbjnmbbhlaghaaa", sum := "dfb15500a1e440603516b5c66250b77669e25737f496d4cd2d91664e612128a6", func := "copse/copselaw10.QuerySecond", spec := "querySecond", unfollowed := true, recurses := true, plainKeys := false, apart := false }
def QuerySecondSaid : Prop := querySecondRow.holds Try.pinned (OpenSpec.ofChange querySecondSpec)

/-- ITS FALSE NEIGHBOUR: 'it returns false'. Refute it at one input. -/
def querySecondWrong : ChangeSpec := { name := "querySecond", fn := fun _ => fun
  | [d1, d2, d3, d4] => { results := [.lit (.bool false)], args := [d1, d2, d3, d4] }
  | _ => none }
def QuerySecondWrongFalsely : Prop := querySecondRow.holds Try.pinned (OpenSpec.ofChange querySecondWrong)

/-- 'copselaw17.CoupleBoth': WHATEVER THE INPUT: true; the input reads as it did. -/
def coupleBothSpec : ChangeSpec := { name := "coupleBoth", fn := fun _ => fun
  | [d1, d2, d3] => { results := [.lit (.bool true)], args := [d1, d2, d3] }
  | _ => none }
def coupleBothRow : OpenClaim := { program := "ytbjnmbbhlaghaaa", sum := "dfb15500a1e440603516b5c66250b77669e25737f496d4cd2d91664e612128a6", func := "copse/copselaw17.CoupleBoth", spec := "coupleBoth", unfollowed := true, recurses := true, plainKeys := false, apart := false }
def CoupleBothSaid : Prop := coupleBothRow.holds Try.pinned (OpenSpec.ofChange coupleBothSpec)

/-- ITS FALSE NEIGHBOUR: 'it returns false'. Refute it at one input. -/
def coupleBothWrong : ChangeSpec := { name := "coupleBoth", fn := fun _ => fun
  | [d1, d2, d3] => { results := [.lit (.bool false)], args := [d1, d2, d3] }
  | _ => none }
def CoupleBothWrongFalsely : Prop := coupleBothRow.holds Try.pinned (OpenSpec.ofChange coupleBothWrong)

/-- 'copselaw17.CoupleCuts': WHATEVER THE INPUT: true; the input reads as it did. -/
def coupleCutsSpec : ChangeSpec := { name := "coupleCuts", fn := fun _ => fun
  | [d1, d2, d3, d4, d5, d6] => { results := [.lit (.bool true)], args := [d1, d2, d3, d4, d5, d6] }
  | _ => none }
def coupleCutsRow : OpenClaim := { program := "ytbjnmbbhlaghaaa", sum := "dfb15500a1e440603516b5c66250b77669e25737f496d4cd2d91664e612128a6", func := "copse/copselaw17.CoupleCuts", spec := "coupleCuts", unfollowed := true, recurses := true, plainKeys := false, apart := false }
def CoupleCutsSaid : Prop := coupleCutsRow.holds Try.pinned (OpenSpec.ofChange coupleCutsSpec)

/-- ITS FALSE NEIGHBOUR: 'it returns false'. Refute it at one input. -/
def coupleCutsWrong : ChangeSpec := { name := "coupleCuts", fn := fun _ => fun
  | [d1, d2, d3, d4, d5, d6] => { results := [.lit (.bool false)], args := [d1, d2, d3, d4, d5, d6] }
  | _ => none }
def CoupleCutsWrongFalsely : Prop := coupleCutsRow.holds Try.pinned (OpenSpec.ofChange coupleCutsWrong)

/-- 'copselaw14.BoundSound': WHATEVER THE INPUT: true; the input reads as it did. -/
def boundSoundSpec : ChangeSpec := { name := "boundSound", fn := fun _ => fun
  | [d1, d2, d3, d4, d5] => { results := [.lit (.bool true)], args := [d1, d2, d3, d4, d5] }
  | _ => none }
def boundSoundRow : OpenClaim := { program := "ytbjnmbbhlaghaaa", sum := "dfb15500a1e440603516b5c66250b77669e25737f496d4cd2d91664e612128a6", func := "copse/copselaw14.BoundSound", spec := "boundSound", unfollowed := true, recurses := true, plainKeys := false, apart := false }
def BoundSoundSaid : Prop := boundSoundRow.holds Try.pinned (OpenSpec.ofChange boundSoundSpec)

/-- ITS FALSE NEIGHBOUR: 'it returns false'. Refute it at one input. -/
def boundSoundWrong : ChangeSpec := { name := "boundSound", fn := fun _ => fun
  | [d1, d2, d3, d4, d5] => { results := [.lit (.bool false)], args := [d1, d2, d3, d4, d5] }
  | _ => none }
def BoundSoundWrongFalsely : Prop := boundSoundRow.holds Try.pinned (OpenSpec.ofChange boundSoundWrong)

/-- 'copselaw25.PruneRuns': WHATEVER THE INPUT: true; the input reads as it did. -/
def pruneRunsSpec : ChangeSpec := { name := "pruneRuns", fn := fun _ => fun
  | [] => { results := [.lit (.bool true)], args := [] }
  | _ => none }
def pruneRunsRow : OpenClaim := { program := "ytbjnmbbhlaghaaa", sum := "dfb15500a1e440603516b5c66250b77669e25737f496d4cd2d91664e612128a6", func := "copse/copselaw25.PruneRuns", spec := "pruneRuns", unfollowed := true, recurses := true, plainKeys := false, apart := false }
def PruneRunsSaid : Prop := pruneRunsRow.holds Try.pinned (OpenSpec.ofChange pruneRunsSpec)

/-- ITS FALSE NEIGHBOUR: 'it returns false'. Refute it at one input. -/
def pruneRunsWrong : ChangeSpec := { name := "pruneRuns", fn := fun _ => fun
  | [] => { results := [.lit (.bool false)], args := [] }
  | _ => none }
def PruneRunsWrongFalsely : Prop := pruneRunsRow.holds Try.pinned (OpenSpec.ofChange pruneRunsWrong)

/-- 'copselaw25.PruneOrder': WHATEVER THE INPUT: true; the input reads as it did. -/
def pruneOrderSpec : ChangeSpec := { name := "pruneOrder", fn := fun _ => fun
  | [d1, d2, d3, d4] => { results := [.lit (.bool true)], args := [d1, d2, d3, d4] }
  | _ => none }
def pruneOrderRow : OpenClaim := { program := "ytbjnmbbhlaghaaa", sum := "dfb15500a1e440603516b5c66250b77669e25737f496d4cd2d91664e612128a6", func := "copse/copselaw25.PruneOrder", spec := "pruneOrder", unfollowed := true, recurses := true, plainKeys := false, apart := false }
def PruneOrderSaid : Prop := pruneOrderRow.holds Try.pinned (OpenSpec.ofChange pruneOrderSpec)

/-- ITS FALSE NEIGHBOUR: 'it returns false'. Refute it at one input. -/
def pruneOrderWrong : ChangeSpec := { name := "pruneOrder", fn := fun _ => fun
  | [d1, d2, d3, d4] => { results := [.lit (.bool false)], args := [d1, d2, d3, d4] }
  | _ => none }
def PruneOrderWrongFalsely : Prop := pruneOrderRow.holds Try.pinned (OpenSpec.ofChange pruneOrderWrong)

/-- 'copselaw25.PruneNested': WHATEVER THE INPUT: true; the input reads as it did. -/
def pruneNestedSpec : ChangeSpec := { name := "pruneNested", fn := fun _ => fun
  | [d1, d2, d3, d4] => { results := [.lit (.bool true)], args := [d1, d2, d3, d4] }
  | _ => none }
def pruneNestedRow : OpenClaim := { program := "ytbjnmbbhlaghaaa", sum := "dfb15500a1e440603516b5c66250b77669e25737f496d4cd2d91664e612128a6", func := "copse/copselaw25.PruneNested", spec := "pruneNested", unfollowed := true, recurses := true, plainKeys := false, apart := false }
def PruneNestedSaid : Prop := pruneNestedRow.holds Try.pinned (OpenSpec.ofChange pruneNestedSpec)

/-- ITS FALSE NEIGHBOUR: 'it returns false'. Refute it at one input. -/
def pruneNestedWrong : ChangeSpec := { name := "pruneNested", fn := fun _ => fun
  | [d1, d2, d3, d4] => { results := [.lit (.bool false)], args := [d1, d2, d3, d4] }
  | _ => none }
def PruneNestedWrongFalsely : Prop := pruneNestedRow.holds Try.pinned (OpenSpec.ofChange pruneNestedWrong)

/-- 'copselaw10.QueryKinds': WHATEVER THE INPUT: true; the input reads as it did. -/
def queryKindsSpec : ChangeSpec := { name := "queryKinds", fn := fun _ => fun
  | [d1, d2, d3, d4, d5] => { results := [.lit (.bool true)], args := [d1, d2, d3, d4, d5] }
  | _ => none }
def queryKindsRow : OpenClaim := { program := "ytbjnmbbhlaghaaa", sum := "dfb15500a1e440603516b5c66250b77669e25737f496d4cd2d91664e612128a6", func := "copse/copselaw10.QueryKinds", spec := "queryKinds", unfollowed := true, recurses := true, plainKeys := false, apart := false }
def QueryKindsSaid : Prop := queryKindsRow.holds Try.pinned (OpenSpec.ofChange queryKindsSpec)

/-- ITS FALSE NEIGHBOUR: 'it returns false'. Refute it at one input. -/
def queryKindsWrong : ChangeSpec := { name := "queryKinds", fn := fun _ => fun
  | [d1, d2, d3, d4, d5] => { results := [.lit (.bool false)], args := [d1, d2, d3, d4, d5] }
  | _ => none }
def QueryKindsWrongFalsely : Prop := queryKindsRow.holds Try.pinned (OpenSpec.ofChange queryKindsWrong)

/-- 'copselaw14.BoundMargin': WHATEVER THE INPUT: true; the input reads as it did. -/
def boundMarginSpec : ChangeSpec := { name := "boundMargin", fn := fun _ => fun
  | [d1, d2, d3, d4] => { results := [.lit (.bool true)], args := [d1, d2, d3, d4] }
  | _ => none }
def boundMarginRow : OpenClaim := { program := "ytbjnmbbhlaghaaa", sum := "dfb15500a1e440603516b5c66250b77669e25737f496d4cd2d91664e612128a6", func := "copse/copselaw14.BoundMargin", spec := "boundMargin", unfollowed := true, recurses := true, plainKeys := false, apart := false }
def BoundMarginSaid : Prop := boundMarginRow.holds Try.pinned (OpenSpec.ofChange boundMarginSpec)

/-- ITS FALSE NEIGHBOUR: 'it returns false'. Refute it at one input. -/
def boundMarginWrong : ChangeSpec := { name := "boundMargin", fn := fun _ => fun
  | [d1, d2, d3, d4] => { results := [.lit (.bool false)], args := [d1, d2, d3, d4] }
  | _ => none }
def BoundMarginWrongFalsely : Prop := boundMarginRow.holds Try.pinned (OpenSpec.ofChange boundMarginWrong)

/-- 'copselaw25.PruneSame': WHATEVER THE INPUT: true; the input reads as it did. -/
def pruneSameSpec : ChangeSpec := { name := "pruneSame", fn := fun _ => fun
  | [d1, d2, d3] => { results := [.lit (.bool true)], args := [d1, d2, d3] }
  | _ => none }
def pruneSameRow : OpenClaim := { program := "ytbjnmbbhlaghaaa", sum := "dfb15500a1e440603516b5c66250b77669e25737f496d4cd2d91664e612128a6", func := "copse/copselaw25.PruneSame", spec := "pruneSame", unfollowed := true, recurses := true, plainKeys := false, apart := false }
def PruneSameSaid : Prop := pruneSameRow.holds Try.pinned (OpenSpec.ofChange pruneSameSpec)

/-- ITS FALSE NEIGHBOUR: 'it returns false'. Refute it at one input. -/
def pruneSameWrong : ChangeSpec := { name := "pruneSame", fn := fun _ => fun
  | [d1, d2, d3] => { results := [.lit (.bool false)], args := [d1, d2, d3] }
  | _ => none }
def PruneSameWrongFalsely : Prop := pruneSameRow.holds Try.pinned (OpenSpec.ofChange pruneSameWrong)

/-- 'copselaw16.LevelRuns': WHATEVER THE INPUT: true; the input reads as it did. -/
def levelRunsSpec : ChangeSpec := { name := "levelRuns", fn := fun _ => fun
  | [] => { results := [.lit (.bool true)], args := [] }
  | _ => none }
def levelRunsRow : OpenClaim := { program := "ytbjnmbbhlaghaaa", sum := "dfb15500a1e440603516b5c66250b77669e25737f496d4cd2d91664e612128a6", func := "copse/copselaw16.LevelRuns", spec := "levelRuns", unfollowed := true, recurses := true, plainKeys := false, apart := false }
def LevelRunsSaid : Prop := levelRunsRow.holds Try.pinned (OpenSpec.ofChange levelRunsSpec)

/-- ITS FALSE NEIGHBOUR: 'it returns false'. Refute it at one input. -/
def levelRunsWrong : ChangeSpec := { name := "levelRuns", fn := fun _ => fun
  | [] => { results := [.lit (.bool false)], args := [] }
  | _ => none }
def LevelRunsWrongFalsely : Prop := levelRunsRow.holds Try.pinned (OpenSpec.ofChange levelRunsWrong)

/-- 'copselaw16.LevelTells': WHATEVER THE INPUT: true; the input reads as it did. -/
def levelTellsSpec : ChangeSpec := { name := "levelTells", fn := fun _ => fun
  | [d1, d2, d3, d4, d5, d6] => { results := [.lit (.bool true)], args := [d1, d2, d3, d4, d5, d6] }
  | _ => none }
def levelTellsRow : OpenClaim := { program := "ytbjnmbbhlaghaaa", sum := "dfb15500a1e440603516b5c66250b77669e25737f496d4cd2d91664e612128a6", func := "copse/copselaw16.LevelTells", spec := "levelTells", unfollowed := true, recurses := true, plainKeys := false, apart := false }
def LevelTellsSaid : Prop := levelTellsRow.holds Try.pinned (OpenSpec.ofChange levelTellsSpec)

/-- ITS FALSE NEIGHBOUR: 'it returns false'. Refute it at one input. -/
def levelTellsWrong : ChangeSpec := { name := "levelTells", fn := fun _ => fun
  | [d1, d2, d3, d4, d5, d6] => { results := [.lit (.bool false)], args := [d1, d2, d3, d4, d5, d6] }
  | _ => none }
def LevelTellsWrongFalsely : Prop := levelTellsRow.holds Try.pinned (OpenSpec.ofChange levelTellsWrong)

/-- 'copselaw16.LevelRoom': WHATEVER THE INPUT: true; the input reads as it did. -/
def levelRoomSpec : ChangeSpec := { name := "levelRoom", fn := fun _ => fun
  | [d1, d2, d3, d4] => { results := [.lit (.bool true)], args := [d1, d2, d3, d4] }
  | _ => none }
def levelRoomRow : OpenClaim := { program := "ytbjnmbbhlaghaaa", sum := "dfb15500a1e440603516b5c66250b77669e25737f496d4cd2d91664e612128a6", func := "copse/copselaw16.LevelRoom", spec := "levelRoom", unfollowed := true, recurses := true, plainKeys := false, apart := false }
def LevelRoomSaid : Prop := levelRoomRow.holds Try.pinned (OpenSpec.ofChange levelRoomSpec)

/-- ITS FALSE NEIGHBOUR: 'it returns false'. Refute it at one input. -/
def levelRoomWrong : ChangeSpec := { name := "levelRoom", fn := fun _ => fun
  | [d1, d2, d3, d4] => { results := [.lit (.bool false)], args := [d1, d2, d3, d4] }
  | _ => none }
def LevelRoomWrongFalsely : Prop := levelRoomRow.holds Try.pinned (OpenSpec.ofChange levelRoomWrong)

/-- 'copselaw16.LevelTrees': WHATEVER THE INPUT: true; the input reads as it did. -/
def levelTreesSpec : ChangeSpec := { name := "levelTrees", fn := fun _ => fun
  | [d1, d2, d3] => { results := [.lit (.bool true)], args := [d1, d2, d3] }
  | _ => none }
def levelTreesRow : OpenClaim := { program := "ytbjnmbbhlaghaaa", sum := "dfb15500a1e440603516b5c66250b77669e25737f496d4cd2d91664e612128a6", func := "copse/copselaw16.LevelTrees", spec := "levelTrees", unfollowed := true, recurses := true, plainKeys := false, apart := false }
def LevelTreesSaid : Prop := levelTreesRow.holds Try.pinned (OpenSpec.ofChange levelTreesSpec)

/-- ITS FALSE NEIGHBOUR: 'it returns false'. Refute it at one input. -/
def levelTreesWrong : ChangeSpec := { name := "levelTrees", fn := fun _ => fun
  | [d1, d2, d3] => { results := [.lit (.bool false)], args := [d1, d2, d3] }
  | _ => none }
def LevelTreesWrongFalsely : Prop := levelTreesRow.holds Try.pinned (OpenSpec.ofChange levelTreesWrong)

/-- 'copselaw17.CouplePairs': WHATEVER THE INPUT: true; the input reads as it did. -/
def couplePairsSpec : ChangeSpec := { name := "couplePairs", fn := fun _ => fun
  | [d1, d2, d3, d4, d5, d6] => { results := [.lit (.bool true)], args := [d1, d2, d3, d4, d5, d6] }
  | _ => none }
def couplePairsRow : OpenClaim := { program := "ytbjnmbbhlaghaaa", sum := "dfb15500a1e440603516b5c66250b77669e25737f496d4cd2d91664e612128a6", func := "copse/copselaw17.CouplePairs", spec := "couplePairs", unfollowed := true, recurses := true, plainKeys := false, apart := false }
def CouplePairsSaid : Prop := couplePairsRow.holds Try.pinned (OpenSpec.ofChange couplePairsSpec)

/-- ITS FALSE NEIGHBOUR: 'it returns false'. Refute it at one input. -/
def couplePairsWrong : ChangeSpec := { name := "couplePairs", fn := fun _ => fun
  | [d1, d2, d3, d4, d5, d6] => { results := [.lit (.bool false)], args := [d1, d2, d3, d4, d5, d6] }
  | _ => none }
def CouplePairsWrongFalsely : Prop := couplePairsRow.holds Try.pinned (OpenSpec.ofChange couplePairsWrong)

/-- 'copselaw21.CheckRuns': WHATEVER THE INPUT: true; the input reads as it did. -/
def checkRunsSpec : ChangeSpec := { name := "checkRuns", fn := fun _ => fun
  | [] => { results := [.lit (.bool true)], args := [] }
  | _ => none }
def checkRunsRow : OpenClaim := { program := "ytbjnmbbhlaghaaa", sum := "dfb15500a1e440603516b5c66250b77669e25737f496d4cd2d91664e612128a6", func := "copse/copselaw21.CheckRuns", spec := "checkRuns", unfollowed := true, recurses := true, plainKeys := false, apart := false }
def CheckRunsSaid : Prop := checkRunsRow.holds Try.pinned (OpenSpec.ofChange checkRunsSpec)

/-- ITS FALSE NEIGHBOUR: 'it returns false'. Refute it at one input. -/
def checkRunsWrong : ChangeSpec := { name := "checkRuns", fn := fun _ => fun
  | [] => { results := [.lit (.bool false)], args := [] }
  | _ => none }
def CheckRunsWrongFalsely : Prop := checkRunsRow.holds Try.pinned (OpenSpec.ofChange checkRunsWrong)

/-- 'copselaw21.CheckTells': WHATEVER THE INPUT: true; the input reads as it did. -/
def checkTellsSpec : ChangeSpec := { name := "checkTells", fn := fun _ => fun
  | [d1, d2, d3, d4, d5, d6, d7] => { results := [.lit (.bool true)], args := [d1, d2, d3, d4, d5, d6, d7] }
  | _ => none }
def checkTellsRow : OpenClaim := { program := "ytbjnmbbhlaghaaa", sum := "dfb15500a1e440603516b5c66250b77669e25737f496d4cd2d91664e612128a6", func := "copse/copselaw21.CheckTells", spec := "checkTells", unfollowed := true, recurses := true, plainKeys := false, apart := false }
def CheckTellsSaid : Prop := checkTellsRow.holds Try.pinned (OpenSpec.ofChange checkTellsSpec)

/-- ITS FALSE NEIGHBOUR: 'it returns false'. Refute it at one input. -/
def checkTellsWrong : ChangeSpec := { name := "checkTells", fn := fun _ => fun
  | [d1, d2, d3, d4, d5, d6, d7] => { results := [.lit (.bool false)], args := [d1, d2, d3, d4, d5, d6, d7] }
  | _ => none }
def CheckTellsWrongFalsely : Prop := checkTellsRow.holds Try.pinned (OpenSpec.ofChange checkTellsWrong)

/-- 'copselaw21.CheckSound': WHATEVER THE INPUT: true; the input reads as it did. -/
def checkSoundSpec : ChangeSpec := { name := "checkSound", fn := fun _ => fun
  | [d1, d2, d3, d4, d5, d6, d7, d8] => { results := [.lit (.bool true)], args := [d1, d2, d3, d4, d5, d6, d7, d8] }
  | _ => none }
def checkSoundRow : OpenClaim := { program := "ytbjnmbbhlaghaaa", sum := "dfb15500a1e440603516b5c66250b77669e25737f496d4cd2d91664e612128a6", func := "copse/copselaw21.CheckSound", spec := "checkSound", unfollowed := true, recurses := true, plainKeys := false, apart := false }
def CheckSoundSaid : Prop := checkSoundRow.holds Try.pinned (OpenSpec.ofChange checkSoundSpec)

/-- ITS FALSE NEIGHBOUR: 'it returns false'. Refute it at one input. -/
def checkSoundWrong : ChangeSpec := { name := "checkSound", fn := fun _ => fun
  | [d1, d2, d3, d4, d5, d6, d7, d8] => { results := [.lit (.bool false)], args := [d1, d2, d3, d4, d5, d6, d7, d8] }
  | _ => none }
def CheckSoundWrongFalsely : Prop := checkSoundRow.holds Try.pinned (OpenSpec.ofChange checkSoundWrong)

/-- 'copselaw21.CheckFiner': WHATEVER THE INPUT: true; the input reads as it did. -/
def checkFinerSpec : ChangeSpec := { name := "checkFiner", fn := fun _ => fun
  | [d1, d2, d3, d4] => { results := [.lit (.bool true)], args := [d1, d2, d3, d4] }
  | _ => none }
def checkFinerRow : OpenClaim := { program := "ytbjnmbbhlaghaaa", sum := "dfb15500a1e440603516b5c66250b77669e25737f496d4cd2d91664e612128a6", func := "copse/copselaw21.CheckFiner", spec := "checkFiner", unfollowed := true, recurses := true, plainKeys := false, apart := false }
def CheckFinerSaid : Prop := checkFinerRow.holds Try.pinned (OpenSpec.ofChange checkFinerSpec)

/-- ITS FALSE NEIGHBOUR: 'it returns false'. Refute it at one input. -/
def checkFinerWrong : ChangeSpec := { name := "checkFiner", fn := fun _ => fun
  | [d1, d2, d3, d4] => { results := [.lit (.bool false)], args := [d1, d2, d3, d4] }
  | _ => none }
def CheckFinerWrongFalsely : Prop := checkFinerRow.holds Try.pinned (OpenSpec.ofChange checkFinerWrong)

/-- 'copselaw21.CheckRegion': WHATEVER THE INPUT: true; the input reads as it did. -/
def checkRegionSpec : ChangeSpec := { name := "checkRegion", fn := fun _ => fun
  | [d1, d2, d3, d4, d5] => { results := [.lit (.bool true)], args := [d1, d2, d3, d4, d5] }
  | _ => none }
def checkRegionRow : OpenClaim := { program := "ytbjnmbbhlaghaaa", sum := "dfb15500a1e440603516b5c66250b77669e25737f496d4cd2d91664e612128a6", func := "copse/copselaw21.CheckRegion", spec := "checkRegion", unfollowed := true, recurses := true, plainKeys := false, apart := false }
def CheckRegionSaid : Prop := checkRegionRow.holds Try.pinned (OpenSpec.ofChange checkRegionSpec)

/-- ITS FALSE NEIGHBOUR: 'it returns false'. Refute it at one input. -/
def checkRegionWrong : ChangeSpec := { name := "checkRegion", fn := fun _ => fun
  | [d1, d2, d3, d4, d5] => { results := [.lit (.bool false)], args := [d1, d2, d3, d4, d5] }
  | _ => none }
def CheckRegionWrongFalsely : Prop := checkRegionRow.holds Try.pinned (OpenSpec.ofChange checkRegionWrong)

/-- 'copselaw21.CheckSums': WHATEVER THE INPUT: true; the input reads as it did. -/
def checkSumsSpec : ChangeSpec := { name := "checkSums", fn := fun _ => fun
  | [d1, d2, d3, d4] => { results := [.lit (.bool true)], args := [d1, d2, d3, d4] }
  | _ => none }
def checkSumsRow : OpenClaim := { program := "ytbjnmbbhlaghaaa", sum := "dfb15500a1e440603516b5c66250b77669e25737f496d4cd2d91664e612128a6", func := "copse/copselaw21.CheckSums", spec := "checkSums", unfollowed := true, recurses := true, plainKeys := false, apart := false }
def CheckSumsSaid : Prop := checkSumsRow.holds Try.pinned (OpenSpec.ofChange checkSumsSpec)

/-- ITS FALSE NEIGHBOUR: 'it returns false'. Refute it at one input. -/
def checkSumsWrong : ChangeSpec := { name := "checkSums", fn := fun _ => fun
  | [d1, d2, d3, d4] => { results := [.lit (.bool false)], args := [d1, d2, d3, d4] }
  | _ => none }
def CheckSumsWrongFalsely : Prop := checkSumsRow.holds Try.pinned (OpenSpec.ofChange checkSumsWrong)

/-- 'copselaw8.ModelRuns': WHATEVER THE INPUT: true; the input reads as it did. -/
def modelRunsSpec : ChangeSpec := { name := "modelRuns", fn := fun _ => fun
  | [] => { results := [.lit (.bool true)], args := [] }
  | _ => none }
def modelRunsRow : OpenClaim := { program := "ytbjnmbbhlaghaaa", sum := "dfb15500a1e440603516b5c66250b77669e25737f496d4cd2d91664e612128a6", func := "copse/copselaw8.ModelRuns", spec := "modelRuns", unfollowed := true, recurses := true, plainKeys := false, apart := false }
def ModelRunsSaid : Prop := modelRunsRow.holds Try.pinned (OpenSpec.ofChange modelRunsSpec)

/-- ITS FALSE NEIGHBOUR: 'it returns false'. Refute it at one input. -/
def modelRunsWrong : ChangeSpec := { name := "modelRuns", fn := fun _ => fun
  | [] => { results := [.lit (.bool false)], args := [] }
  | _ => none }
def ModelRunsWrongFalsely : Prop := modelRunsRow.holds Try.pinned (OpenSpec.ofChange modelRunsWrong)

/-- 'copselaw8.ModelTells': WHATEVER THE INPUT: true; the input reads as it did. -/
def modelTellsSpec : ChangeSpec := { name := "modelTells", fn := fun _ => fun
  | [d1, d2, d3, d4, d5] => { results := [.lit (.bool true)], args := [d1, d2, d3, d4, d5] }
  | _ => none }
def modelTellsRow : OpenClaim := { program := "ytbjnmbbhlaghaaa", sum := "dfb15500a1e440603516b5c66250b77669e25737f496d4cd2d91664e612128a6", func := "copse/copselaw8.ModelTells", spec := "modelTells", unfollowed := true, recurses := true, plainKeys := false, apart := false }
def ModelTellsSaid : Prop := modelTellsRow.holds Try.pinned (OpenSpec.ofChange modelTellsSpec)

/-- ITS FALSE NEIGHBOUR: 'it returns false'. Refute it at one input. -/
def modelTellsWrong : ChangeSpec := { name := "modelTells", fn := fun _ => fun
  | [d1, d2, d3, d4, d5] => { results := [.lit (.bool false)], args := [d1, d2, d3, d4, d5] }
  | _ => none }
def ModelTellsWrongFalsely : Prop := modelTellsRow.holds Try.pinned (OpenSpec.ofChange modelTellsWrong)

/-- 'copselaw8.ModelBest': WHATEVER THE INPUT: true; the input reads as it did. -/
def modelBestSpec : ChangeSpec := { name := "modelBest", fn := fun _ => fun
  | [d1, d2] => { results := [.lit (.bool true)], args := [d1, d2] }
  | _ => none }
def modelBestRow : OpenClaim := { program := "ytbjnmbbhlaghaaa", sum := "dfb15500a1e440603516b5c66250b77669e25737f496d4cd2d91664e612128a6", func := "copse/copselaw8.ModelBest", spec := "modelBest", unfollowed := true, recurses := true, plainKeys := false, apart := false }
def ModelBestSaid : Prop := modelBestRow.holds Try.pinned (OpenSpec.ofChange modelBestSpec)

/-- ITS FALSE NEIGHBOUR: 'it returns false'. Refute it at one input. -/
def modelBestWrong : ChangeSpec := { name := "modelBest", fn := fun _ => fun
  | [d1, d2] => { results := [.lit (.bool false)], args := [d1, d2] }
  | _ => none }
def ModelBestWrongFalsely : Prop := modelBestRow.holds Try.pinned (OpenSpec.ofChange modelBestWrong)

/-- 'copselaw8.ModelCells': WHATEVER THE INPUT: true; the input reads as it did. -/
def modelCellsSpec : ChangeSpec := { name := "modelCells", fn := fun _ => fun
  | [d1, d2, d3] => { results := [.lit (.bool true)], args := [d1, d2, d3] }
  | _ => none }
def modelCellsRow : OpenClaim := { program := "ytbjnmbbhlaghaaa", sum := "dfb15500a1e440603516b5c66250b77669e25737f496d4cd2d91664e612128a6", func := "copse/copselaw8.ModelCells", spec := "modelCells", unfollowed := true, recurses := true, plainKeys := false, apart := false }
def ModelCellsSaid : Prop := modelCellsRow.holds Try.pinned (OpenSpec.ofChange modelCellsSpec)

/-- ITS FALSE NEIGHBOUR: 'it returns false'. Refute it at one input. -/
def modelCellsWrong : ChangeSpec := { name := "modelCells", fn := fun _ => fun
  | [d1, d2, d3] => { results := [.lit (.bool false)], args := [d1, d2, d3] }
  | _ => none }
def ModelCellsWrongFalsely : Prop := modelCellsRow.holds Try.pinned (OpenSpec.ofChange modelCellsWrong)

/-- 'copselaw8.ModelSums': WHATEVER THE INPUT: true; the input reads as it did. -/
def modelSumsSpec : ChangeSpec := { name := "modelSums", fn := fun _ => fun
  | [d1, d2, d3] => { results := [.lit (.bool true)], args := [d1, d2, d3] }
  | _ => none }
def modelSumsRow : OpenClaim := { program := "ytbjnmbbhlaghaaa", sum := "dfb15500a1e440603516b5c66250b77669e25737f496d4cd2d91664e612128a6", func := "copse/copselaw8.ModelSums", spec := "modelSums", unfollowed := true, recurses := true, plainKeys := false, apart := false }
def ModelSumsSaid : Prop := modelSumsRow.holds Try.pinned (OpenSpec.ofChange modelSumsSpec)

/-- ITS FALSE NEIGHBOUR: 'it returns false'. Refute it at one input. -/
def modelSumsWrong : ChangeSpec := { name := "modelSums", fn := fun _ => fun
  | [d1, d2, d3] => { results := [.lit (.bool false)], args := [d1, d2, d3] }
  | _ => none }
def ModelSumsWrongFalsely : Prop := modelSumsRow.holds Try.pinned (OpenSpec.ofChange modelSumsWrong)

/-- 'copselaw8.ModelEdges': WHATEVER THE INPUT: true; the input reads as it did. -/
def modelEdgesSpec : ChangeSpec := { name := "modelEdges", fn := fun _ => fun
  | [d1, d2, d3, d4] => { results := [.lit (.bool true)], args := [d1, d2, d3, d4] }
  | _ => none }
def modelEdgesRow : OpenClaim := { program := "ytbjnmbbhlaghaaa", sum := "dfb15500a1e440603516b5c66250b77669e25737f496d4cd2d91664e612128a6", func := "copse/copselaw8.ModelEdges", spec := "modelEdges", unfollowed := true, recurses := true, plainKeys := false, apart := false }
def ModelEdgesSaid : Prop := modelEdgesRow.holds Try.pinned (OpenSpec.ofChange modelEdgesSpec)

/-- ITS FALSE NEIGHBOUR: 'it returns false'. Refute it at one input. -/
def modelEdgesWrong : ChangeSpec := { name := "modelEdges", fn := fun _ => fun
  | [d1, d2, d3, d4] => { results := [.lit (.bool false)], args := [d1, d2, d3, d4] }
  | _ => none }
def ModelEdgesWrongFalsely : Prop := modelEdgesRow.holds Try.pinned (OpenSpec.ofChange modelEdgesWrong)

/-- 'copselaw12.GridRuns': WHATEVER THE INPUT: true; the input reads as it did. -/
def gridRunsSpec : ChangeSpec := { name := "gridRuns", fn := fun _ => fun
  | [] => { results := [.lit (.bool true)], args := [] }
  | _ => none }
def gridRunsRow : OpenClaim := { program := "ytbjnmbbhlaghaaa", sum := "dfb15500a1e440603516b5c66250b77669e25737f496d4cd2d91664e612128a6", func := "copse/copselaw12.GridRuns", spec := "gridRuns", unfollowed := true, recurses := true, plainKeys := false, apart := false }
def GridRunsSaid : Prop := gridRunsRow.holds Try.pinned (OpenSpec.ofChange gridRunsSpec)

/-- ITS FALSE NEIGHBOUR: 'it returns false'. Refute it at one input. -/
def gridRunsWrong : ChangeSpec := { name := "gridRuns", fn := fun _ => fun
  | [] => { results := [.lit (.bool false)], args := [] }
  | _ => none }
def GridRunsWrongFalsely : Prop := gridRunsRow.holds Try.pinned (OpenSpec.ofChange gridRunsWrong)

/-- 'copselaw12.GridTells': WHATEVER THE INPUT: true; the input reads as it did. -/
def gridTellsSpec : ChangeSpec := { name := "gridTells", fn := fun _ => fun
  | [d1, d2, d3, d4, d5] => { results := [.lit (.bool true)], args := [d1, d2, d3, d4, d5] }
  | _ => none }
def gridTellsRow : OpenClaim := { program := "ytbjnmbbhlaghaaa", sum := "dfb15500a1e440603516b5c66250b77669e25737f496d4cd2d91664e612128a6", func := "copse/copselaw12.GridTells", spec := "gridTells", unfollowed := true, recurses := true, plainKeys := false, apart := false }
def GridTellsSaid : Prop := gridTellsRow.holds Try.pinned (OpenSpec.ofChange gridTellsSpec)

/-- ITS FALSE NEIGHBOUR: 'it returns false'. Refute it at one input. -/
def gridTellsWrong : ChangeSpec := { name := "gridTells", fn := fun _ => fun
  | [d1, d2, d3, d4, d5] => { results := [.lit (.bool false)], args := [d1, d2, d3, d4, d5] }
  | _ => none }
def GridTellsWrongFalsely : Prop := gridTellsRow.holds Try.pinned (OpenSpec.ofChange gridTellsWrong)

/-- 'copselaw12.GridHolds': WHATEVER THE INPUT: true; the input reads as it did. -/
def gridHoldsSpec : ChangeSpec := { name := "gridHolds", fn := fun _ => fun
  | [d1, d2, d3, d4, d5] => { results := [.lit (.bool true)], args := [d1, d2, d3, d4, d5] }
  | _ => none }
def gridHoldsRow : OpenClaim := { program := "ytbjnmbbhlaghaaa", sum := "dfb15500a1e440603516b5c66250b77669e25737f496d4cd2d91664e612128a6", func := "copse/copselaw12.GridHolds", spec := "gridHolds", unfollowed := true, recurses := true, plainKeys := false, apart := false }
def GridHoldsSaid : Prop := gridHoldsRow.holds Try.pinned (OpenSpec.ofChange gridHoldsSpec)

/-- ITS FALSE NEIGHBOUR: 'it returns false'. Refute it at one input. -/
def gridHoldsWrong : ChangeSpec := { name := "gridHolds", fn := fun _ => fun
  | [d1, d2, d3, d4, d5] => { results := [.lit (.bool false)], args := [d1, d2, d3, d4, d5] }
  | _ => none }
def GridHoldsWrongFalsely : Prop := gridHoldsRow.holds Try.pinned (OpenSpec.ofChange gridHoldsWrong)

/-- 'copselaw12.GridLess': WHATEVER THE INPUT: true; the input reads as it did. -/
def gridLessSpec : ChangeSpec := { name := "gridLess", fn := fun _ => fun
  | [d1, d2, d3, d4, d5] => { results := [.lit (.bool true)], args := [d1, d2, d3, d4, d5] }
  | _ => none }
def gridLessRow : OpenClaim := { program := "ytbjnmbbhlaghaaa", sum := "dfb15500a1e440603516b5c66250b77669e25737f496d4cd2d91664e612128a6", func := "copse/copselaw12.GridLess", spec := "gridLess", unfollowed := true, recurses := true, plainKeys := false, apart := false }
def GridLessSaid : Prop := gridLessRow.holds Try.pinned (OpenSpec.ofChange gridLessSpec)

/-- ITS FALSE NEIGHBOUR: 'it returns false'. Refute it at one input. -/
def gridLessWrong : ChangeSpec := { name := "gridLess", fn := fun _ => fun
  | [d1, d2, d3, d4, d5] => { results := [.lit (.bool false)], args := [d1, d2, d3, d4, d5] }
  | _ => none }
def GridLessWrongFalsely : Prop := gridLessRow.holds Try.pinned (OpenSpec.ofChange gridLessWrong)

/-- 'copselaw12.GridParts': WHATEVER THE INPUT: true; the input reads as it did. -/
def gridPartsSpec : ChangeSpec := { name := "gridParts", fn := fun _ => fun
  | [d1, d2, d3, d4] => { results := [.lit (.bool true)], args := [d1, d2, d3, d4] }
  | _ => none }
def gridPartsRow : OpenClaim := { program := "ytbjnmbbhlaghaaa", sum := "dfb15500a1e440603516b5c66250b77669e25737f496d4cd2d91664e612128a6", func := "copse/copselaw12.GridParts", spec := "gridParts", unfollowed := true, recurses := true, plainKeys := false, apart := false }
def GridPartsSaid : Prop := gridPartsRow.holds Try.pinned (OpenSpec.ofChange gridPartsSpec)

/-- ITS FALSE NEIGHBOUR: 'it returns false'. Refute it at one input. -/
def gridPartsWrong : ChangeSpec := { name := "gridParts", fn := fun _ => fun
  | [d1, d2, d3, d4] => { results := [.lit (.bool false)], args := [d1, d2, d3, d4] }
  | _ => none }
def GridPartsWrongFalsely : Prop := gridPartsRow.holds Try.pinned (OpenSpec.ofChange gridPartsWrong)

/-- 'copselaw18.GoalRuns': WHATEVER THE INPUT: true; the input reads as it did. -/
def goalRunsSpec : ChangeSpec := { name := "goalRuns", fn := fun _ => fun
  | [] => { results := [.lit (.bool true)], args := [] }
  | _ => none }
def goalRunsRow : OpenClaim := { program := "ytbjnmbbhlaghaaa", sum := "dfb15500a1e440603516b5c66250b77669e25737f496d4cd2d91664e612128a6", func := "copse/copselaw18.GoalRuns", spec := "goalRuns", unfollowed := true, recurses := true, plainKeys := false, apart := false }
def GoalRunsSaid : Prop := goalRunsRow.holds Try.pinned (OpenSpec.ofChange goalRunsSpec)

/-- ITS FALSE NEIGHBOUR: 'it returns false'. Refute it at one input. -/
def goalRunsWrong : ChangeSpec := { name := "goalRuns", fn := fun _ => fun
  | [] => { results := [.lit (.bool false)], args := [] }
  | _ => none }
def GoalRunsWrongFalsely : Prop := goalRunsRow.holds Try.pinned (OpenSpec.ofChange goalRunsWrong)

/- THE SECOND FORM. 'bulk': how many values and letters a reading holds, each counted each time it is reached (what is shared counts as often as it is met; a slice's spare places count too). A statement '..UptoSaid' is the law's where the arguments, and the package variables that the reading takes, are together of bulk at most 1048576: NARROWER than '..Said'. Prove '..Said' where nothing that the law and all that it calls make is longer than what came in: it says more and counts as full. Else prove '..UptoSaid'. A law counts once. -/
mutual
def uptoBulk {H : Type} : DataW H → Nat
  | .lit (.string bytes) => bytes.length + 1
  | .lit _ => 1
  | .nil => 1
  | .ptr d => uptoBulk d + 1
  | .slice elems spare => uptoBulkAll elems + uptoBulkAll spare + 1
  | .agg parts => uptoBulkAll parts + 1
  | .iface _ d => uptoBulk d + 1
  | .map entries => uptoBulkEntries entries + 1
  | .held _ => 1
def uptoBulkAll {H : Type} : List (DataW H) → Nat
  | [] => 0
  | d :: r => uptoBulk d + uptoBulkAll r
def uptoBulkEntries {H : Type} : List (Lit × DataW H) → Nat
  | [] => 0
  | x :: r => uptoBulkEntry x + uptoBulkEntries r
def uptoBulkEntry {H : Type} : Lit × DataW H → Nat
  | (.string bytes, d) => bytes.length + uptoBulk d + 1
  | (_, d) => uptoBulk d + 1
 end
def uptoSmall : (H : Type) → List (DataW H) → Bool := fun _ ds => decide (uptoBulkAll ds ≤ 1048576)
def OpenSpec.upto (s : _root_.Go.ChangeSpec) : _root_.Go.OpenSpec := { _root_.Go.OpenSpec.ofChange s with cond := some uptoSmall }

/-- 'copselaw14.BoundRuns', WHERE WHAT IT READS IS OF BULK AT MOST 1048576: true; the input reads as it did. -/
def boundRunsUptoRow : OpenClaim := { program := "ytbjnmbbhlaghaaa", sum := "dfb15500a1e440603516b5c66250b77669e25737f496d4cd2d91664e612128a6", func := "copse/copselaw14.BoundRuns", spec := "boundRuns", unfollowed := true, recurses := true, plainKeys := false, apart := false, narrowed := true }
def BoundRunsUptoSaid : Prop := boundRunsUptoRow.holds Try.pinned (OpenSpec.upto boundRunsSpec)

/-- 'copselaw14.BoundTells', WHERE WHAT IT READS IS OF BULK AT MOST 1048576: true; the input reads as it did. -/
def boundTellsUptoRow : OpenClaim := { program := "ytbjnmbbhlaghaaa", sum := "dfb15500a1e440603516b5c66250b77669e25737f496d4cd2d91664e612128a6", func := "copse/copselaw14.BoundTells", spec := "boundTells", unfollowed := true, recurses := true, plainKeys := false, apart := false, narrowed := true }
def BoundTellsUptoSaid : Prop := boundTellsUptoRow.holds Try.pinned (OpenSpec.upto boundTellsSpec)

/-- 'copselaw14.BoundTrees', WHERE WHAT IT READS IS OF BULK AT MOST 1048576: true; the input reads as it did. -/
def boundTreesUptoRow : OpenClaim := { program := "ytbjnmbbhlaghaaa", sum := "dfb15500a1e440603516b5c66250b77669e25737f496d4cd2d91664e612128a6", func := "copse/copselaw14.BoundTrees", spec := "boundTrees", unfollowed := true, recurses := true, plainKeys := false, apart := false, narrowed := true }
def BoundTreesUptoSaid : Prop := boundTreesUptoRow.holds Try.pinned (OpenSpec.upto boundTreesSpec)

/-- 'copselaw17.CoupleRuns', WHERE WHAT IT READS IS OF BULK AT MOST 1048576: true; the input reads as it did. -/
def coupleRunsUptoRow : OpenClaim := { program := "ytbjnmbbhlaghaaa", sum := "dfb15500a1e440603516b5c66250b77669e25737f496d4cd2d91664e612128a6", func := "copse/copselaw17.CoupleRuns", spec := "coupleRuns", unfollowed := true, recurses := true, plainKeys := false, apart := false, narrowed := true }
def CoupleRunsUptoSaid : Prop := coupleRunsUptoRow.holds Try.pinned (OpenSpec.upto coupleRunsSpec)

/-- 'copselaw10.QueryRuns', WHERE WHAT IT READS IS OF BULK AT MOST 1048576: true; the input reads as it did. -/
def queryRunsUptoRow : OpenClaim := { program := "ytbjnmbbhlaghaaa", sum := "dfb15500a1e440603516b5c66250b77669e25737f496d4cd2d91664e612128a6", func := "copse/copselaw10.QueryRuns", spec := "queryRuns", unfollowed := true, recurses := true, plainKeys := false, apart := false, narrowed := true }
def QueryRunsUptoSaid : Prop := queryRunsUptoRow.holds Try.pinned (OpenSpec.upto queryRunsSpec)

/-- 'copselaw10.QueryTells', WHERE WHAT IT READS IS OF BULK AT MOST 1048576: true; the input reads as it did. -/
def queryTellsUptoRow : OpenClaim := { program := "ytbjnmbbhlaghaaa", sum := "dfb15500a1e440603516b5c66250b77669e25737f496d4cd2d91664e612128a6", func := "copse/copselaw10.QueryTells", spec := "queryTells", unfollowed := true, recurses := true, plainKeys := false, apart := false, narrowed := true }
def QueryTellsUptoSaid : Prop := queryTellsUptoRow.holds Try.pinned (OpenSpec.upto queryTellsSpec)

/-- 'copselaw10.QueryEdges', WHERE WHAT IT READS IS OF BULK AT MOST 1048576: true; the input reads as it did. -/
def queryEdgesUptoRow : OpenClaim := { program := "ytbjnmbbhlaghaaa", sum := "dfb15500a1e440603516b5c66250b77669e25737f496d4cd2d91664e612128a6", func := "copse/copselaw10.QueryEdges", spec := "queryEdges", unfollowed := true, recurses := true, plainKeys := false, apart := false, narrowed := true }
def QueryEdgesUptoSaid : Prop := queryEdgesUptoRow.holds Try.pinned (OpenSpec.upto queryEdgesSpec)

/-- 'copselaw10.QuerySecond', WHERE WHAT IT READS IS OF BULK AT MOST 1048576: true; the input reads as it did. -/
def querySecondUptoRow : OpenClaim := { program := "ytbjnmbbhlaghaaa", sum := "dfb15500a1e440603516b5c66250b77669e25737f496d4cd2d91664e612128a6", func := "copse/copselaw10.QuerySecond", spec := "querySecond", unfollowed := true, recurses := true, plainKeys := false, apart := false, narrowed := true }
def QuerySecondUptoSaid : Prop := querySecondUptoRow.holds Try.pinned (OpenSpec.upto querySecondSpec)

/-- 'copselaw17.CoupleBoth', WHERE WHAT IT READS IS OF BULK AT MOST 1048576: true; the input reads as it did. -/
def coupleBothUptoRow : OpenClaim := { program := "ytbjnmbbhlaghaaa", sum := "dfb15500a1e440603516b5c66250b77669e25737f496d4cd2d91664e612128a6", func := "copse/copselaw17.CoupleBoth", spec := "coupleBoth", unfollowed := true, recurses := true, plainKeys := false, apart := false, narrowed := true }
def CoupleBothUptoSaid : Prop := coupleBothUptoRow.holds Try.pinned (OpenSpec.upto coupleBothSpec)

/-- 'copselaw17.CoupleCuts', WHERE WHAT IT READS IS OF BULK AT MOST 1048576: true; the input reads as it did. -/
def coupleCutsUptoRow : OpenClaim := { program := "ytbjnmbbhlaghaaa", sum := "dfb15500a1e440603516b5c66250b77669e25737f496d4cd2d91664e612128a6", func := "copse/copselaw17.CoupleCuts", spec := "coupleCuts", unfollowed := true, recurses := true, plainKeys := false, apart := false, narrowed := true }
def CoupleCutsUptoSaid : Prop := coupleCutsUptoRow.holds Try.pinned (OpenSpec.upto coupleCutsSpec)

/-- 'copselaw14.BoundSound', WHERE WHAT IT READS IS OF BULK AT MOST 1048576: true; the input reads as it did. -/
def boundSoundUptoRow : OpenClaim := { program := "ytbjnmbbhlaghaaa", sum := "dfb15500a1e440603516b5c66250b77669e25737f496d4cd2d91664e612128a6", func := "copse/copselaw14.BoundSound", spec := "boundSound", unfollowed := true, recurses := true, plainKeys := false, apart := false, narrowed := true }
def BoundSoundUptoSaid : Prop := boundSoundUptoRow.holds Try.pinned (OpenSpec.upto boundSoundSpec)

/-- 'copselaw25.PruneRuns', WHERE WHAT IT READS IS OF BULK AT MOST 1048576: true; the input reads as it did. -/
def pruneRunsUptoRow : OpenClaim := { program := "ytbjnmbbhlaghaaa", sum := "dfb15500a1e440603516b5c66250b77669e25737f496d4cd2d91664e612128a6", func := "copse/copselaw25.PruneRuns", spec := "pruneRuns", unfollowed := true, recurses := true, plainKeys := false, apart := false, narrowed := true }
def PruneRunsUptoSaid : Prop := pruneRunsUptoRow.holds Try.pinned (OpenSpec.upto pruneRunsSpec)

/-- 'copselaw25.PruneOrder', WHERE WHAT IT READS IS OF BULK AT MOST 1048576: true; the input reads as it did. -/
def pruneOrderUptoRow : OpenClaim := { program := "ytbjnmbbhlaghaaa", sum := "dfb15500a1e440603516b5c66250b77669e25737f496d4cd2d91664e612128a6", func := "copse/copselaw25.PruneOrder", spec := "pruneOrder", unfollowed := true, recurses := true, plainKeys := false, apart := false, narrowed := true }
def PruneOrderUptoSaid : Prop := pruneOrderUptoRow.holds Try.pinned (OpenSpec.upto pruneOrderSpec)

/-- 'copselaw25.PruneNested', WHERE WHAT IT READS IS OF BULK AT MOST 1048576: true; the input reads as it did. -/
def pruneNestedUptoRow : OpenClaim := { program := "ytbjnmbbhlaghaaa", sum := "dfb15500a1e440603516b5c66250b77669e25737f496d4cd2d91664e612128a6", func := "copse/copselaw25.PruneNested", spec := "pruneNested", unfollowed := true, recurses := true, plainKeys := false, apart := false, narrowed := true }
def PruneNestedUptoSaid : Prop := pruneNestedUptoRow.holds Try.pinned (OpenSpec.upto pruneNestedSpec)

/-- 'copselaw10.QueryKinds', WHERE WHAT IT READS IS OF BULK AT MOST 1048576: true; the input reads as it did. -/
def queryKindsUptoRow : OpenClaim := { program := "ytbjnmbbhlaghaaa", sum := "dfb15500a1e440603516b5c66250b77669e25737f496d4cd2d91664e612128a6", func := "copse/copselaw10.QueryKinds", spec := "queryKinds", unfollowed := true, recurses := true, plainKeys := false, apart := false, narrowed := true }
def QueryKindsUptoSaid : Prop := queryKindsUptoRow.holds Try.pinned (OpenSpec.upto queryKindsSpec)

/-- 'copselaw14.BoundMargin', WHERE WHAT IT READS IS OF BULK AT MOST 1048576: true; the input reads as it did. -/
def boundMarginUptoRow : OpenClaim := { program := "ytbjnmbbhlaghaaa", sum := "dfb15500a1e440603516b5c66250b77669e25737f496d4cd2d91664e612128a6", func := "copse/copselaw14.BoundMargin", spec := "boundMargin", unfollowed := true, recurses := true, plainKeys := false, apart := false, narrowed := true }
def BoundMarginUptoSaid : Prop := boundMarginUptoRow.holds Try.pinned (OpenSpec.upto boundMarginSpec)

/-- 'copselaw25.PruneSame', WHERE WHAT IT READS IS OF BULK AT MOST 1048576: true; the input reads as it did. -/
def pruneSameUptoRow : OpenClaim := { program := "ytbjnmbbhlaghaaa", sum := "dfb15500a1e440603516b5c66250b77669e25737f496d4cd2d91664e612128a6", func := "copse/copselaw25.PruneSame", spec := "pruneSame", unfollowed := true, recurses := true, plainKeys := false, apart := false, narrowed := true }
def PruneSameUptoSaid : Prop := pruneSameUptoRow.holds Try.pinned (OpenSpec.upto pruneSameSpec)

/-- 'copselaw16.LevelRuns', WHERE WHAT IT READS IS OF BULK AT MOST 1048576: true; the input reads as it did. -/
def levelRunsUptoRow : OpenClaim := { program := "ytbjnmbbhlaghaaa", sum := "dfb15500a1e440603516b5c66250b77669e25737f496d4cd2d91664e612128a6", func := "copse/copselaw16.LevelRuns", spec := "levelRuns", unfollowed := true, recurses := true, plainKeys := false, apart := false, narrowed := true }
def LevelRunsUptoSaid : Prop := levelRunsUptoRow.holds Try.pinned (OpenSpec.upto levelRunsSpec)

/-- 'copselaw16.LevelTells', WHERE WHAT IT READS IS OF BULK AT MOST 1048576: true; the input reads as it did. -/
def levelTellsUptoRow : OpenClaim := { program := "ytbjnmbbhlaghaaa", sum := "dfb15500a1e440603516b5c66250b77669e25737f496d4cd2d91664e612128a6", func := "copse/copselaw16.LevelTells", spec := "levelTells", unfollowed := true, recurses := true, plainKeys := false, apart := false, narrowed := true }
def LevelTellsUptoSaid : Prop := levelTellsUptoRow.holds Try.pinned (OpenSpec.upto levelTellsSpec)

/-- 'copselaw16.LevelRoom', WHERE WHAT IT READS IS OF BULK AT MOST 1048576: true; the input reads as it did. -/
def levelRoomUptoRow : OpenClaim := { program := "ytbjnmbbhlaghaaa", sum := "dfb15500a1e440603516b5c66250b77669e25737f496d4cd2d91664e612128a6", func := "copse/copselaw16.LevelRoom", spec := "levelRoom", unfollowed := true, recurses := true, plainKeys := false, apart := false, narrowed := true }
def LevelRoomUptoSaid : Prop := levelRoomUptoRow.holds Try.pinned (OpenSpec.upto levelRoomSpec)

/-- 'copselaw16.LevelTrees', WHERE WHAT IT READS IS OF BULK AT MOST 1048576: true; the input reads as it did. -/
def levelTreesUptoRow : OpenClaim := { program := "ytbjnmbbhlaghaaa", sum := "dfb15500a1e440603516b5c66250b77669e25737f496d4cd2d91664e612128a6", func := "copse/copselaw16.LevelTrees", spec := "levelTrees", unfollowed := true, recurses := true, plainKeys := false, apart := false, narrowed := true }
def LevelTreesUptoSaid : Prop := levelTreesUptoRow.holds Try.pinned (OpenSpec.upto levelTreesSpec)

/-- 'copselaw17.CouplePairs', WHERE WHAT IT READS IS OF BULK AT MOST 1048576: true; the input reads as it did. -/
def couplePairsUptoRow : OpenClaim := { program := "ytbjnmbbhlaghaaa", sum := "dfb15500a1e440603516b5c66250b77669e25737f496d4cd2d91664e612128a6", func := "copse/copselaw17.CouplePairs", spec := "couplePairs", unfollowed := true, recurses := true, plainKeys := false, apart := false, narrowed := true }
def CouplePairsUptoSaid : Prop := couplePairsUptoRow.holds Try.pinned (OpenSpec.upto couplePairsSpec)

/-- 'copselaw21.CheckRuns', WHERE WHAT IT READS IS OF BULK AT MOST 1048576: true; the input reads as it did. -/
def checkRunsUptoRow : OpenClaim := { program := "ytbjnmbbhlaghaaa", sum := "dfb15500a1e440603516b5c66250b77669e25737f496d4cd2d91664e612128a6", func := "copse/copselaw21.CheckRuns", spec := "checkRuns", unfollowed := true, recurses := true, plainKeys := false, apart := false, narrowed := true }
def CheckRunsUptoSaid : Prop := checkRunsUptoRow.holds Try.pinned (OpenSpec.upto checkRunsSpec)

/-- 'copselaw21.CheckTells', WHERE WHAT IT READS IS OF BULK AT MOST 1048576: true; the input reads as it did. -/
def checkTellsUptoRow : OpenClaim := { program := "ytbjnmbbhlaghaaa", sum := "dfb15500a1e440603516b5c66250b77669e25737f496d4cd2d91664e612128a6", func := "copse/copselaw21.CheckTells", spec := "checkTells", unfollowed := true, recurses := true, plainKeys := false, apart := false, narrowed := true }
def CheckTellsUptoSaid : Prop := checkTellsUptoRow.holds Try.pinned (OpenSpec.upto checkTellsSpec)

/-- 'copselaw21.CheckSound', WHERE WHAT IT READS IS OF BULK AT MOST 1048576: true; the input reads as it did. -/
def checkSoundUptoRow : OpenClaim := { program := "ytbjnmbbhlaghaaa", sum := "dfb15500a1e440603516b5c66250b77669e25737f496d4cd2d91664e612128a6", func := "copse/copselaw21.CheckSound", spec := "checkSound", unfollowed := true, recurses := true, plainKeys := false, apart := false, narrowed := true }
def CheckSoundUptoSaid : Prop := checkSoundUptoRow.holds Try.pinned (OpenSpec.upto checkSoundSpec)

/-- 'copselaw21.CheckFiner', WHERE WHAT IT READS IS OF BULK AT MOST 1048576: true; the input reads as it did. -/
def checkFinerUptoRow : OpenClaim := { program := "ytbjnmbbhlaghaaa", sum := "dfb15500a1e440603516b5c66250b77669e25737f496d4cd2d91664e612128a6", func := "copse/copselaw21.CheckFiner", spec := "checkFiner", unfollowed := true, recurses := true, plainKeys := false, apart := false, narrowed := true }
def CheckFinerUptoSaid : Prop := checkFinerUptoRow.holds Try.pinned (OpenSpec.upto checkFinerSpec)

/-- 'copselaw21.CheckRegion', WHERE WHAT IT READS IS OF BULK AT MOST 1048576: true; the input reads as it did. -/
def checkRegionUptoRow : OpenClaim := { program := "ytbjnmbbhlaghaaa", sum := "dfb15500a1e440603516b5c66250b77669e25737f496d4cd2d91664e612128a6", func := "copse/copselaw21.CheckRegion", spec := "checkRegion", unfollowed := true, recurses := true, plainKeys := false, apart := false, narrowed := true }
def CheckRegionUptoSaid : Prop := checkRegionUptoRow.holds Try.pinned (OpenSpec.upto checkRegionSpec)

/-- 'copselaw21.CheckSums', WHERE WHAT IT READS IS OF BULK AT MOST 1048576: true; the input reads as it did. -/
def checkSumsUptoRow : OpenClaim := { program := "ytbjnmbbhlaghaaa", sum := "dfb15500a1e440603516b5c66250b77669e25737f496d4cd2d91664e612128a6", func := "copse/copselaw21.CheckSums", spec := "checkSums", unfollowed := true, recurses := true, plainKeys := false, apart := false, narrowed := true }
def CheckSumsUptoSaid : Prop := checkSumsUptoRow.holds Try.pinned (OpenSpec.upto checkSumsSpec)

/-- 'copselaw8.ModelRuns', WHERE WHAT IT READS IS OF BULK AT MOST 1048576: true; the input reads as it did. -/
def modelRunsUptoRow : OpenClaim := { program := "ytbjnmbbhlaghaaa", sum := "dfb15500a1e440603516b5c66250b77669e25737f496d4cd2d91664e612128a6", func := "copse/copselaw8.ModelRuns", spec := "modelRuns", unfollowed := true, recurses := true, plainKeys := false, apart := false, narrowed := true }
def ModelRunsUptoSaid : Prop := modelRunsUptoRow.holds Try.pinned (OpenSpec.upto modelRunsSpec)

/-- 'copselaw8.ModelTells', WHERE WHAT IT READS IS OF BULK AT MOST 1048576: true; the input reads as it did. -/
def modelTellsUptoRow : OpenClaim := { program := "ytbjnmbbhlaghaaa", sum := "dfb15500a1e440603516b5c66250b77669e25737f496d4cd2d91664e612128a6", func := "copse/copselaw8.ModelTells", spec := "modelTells", unfollowed := true, recurses := true, plainKeys := false, apart := false, narrowed := true }
def ModelTellsUptoSaid : Prop := modelTellsUptoRow.holds Try.pinned (OpenSpec.upto modelTellsSpec)

/-- 'copselaw8.ModelBest', WHERE WHAT IT READS IS OF BULK AT MOST 1048576: true; the input reads as it did. -/
def modelBestUptoRow : OpenClaim := { program := "ytbjnmbbhlaghaaa", sum := "dfb15500a1e440603516b5c66250b77669e25737f496d4cd2d91664e612128a6", func := "copse/copselaw8.ModelBest", spec := "modelBest", unfollowed := true, recurses := true, plainKeys := false, apart := false, narrowed := true }
def ModelBestUptoSaid : Prop := modelBestUptoRow.holds Try.pinned (OpenSpec.upto modelBestSpec)

/-- 'copselaw8.ModelCells', WHERE WHAT IT READS IS OF BULK AT MOST 1048576: true; the input reads as it did. -/
def modelCellsUptoRow : OpenClaim := { program := "ytbjnmbbhlaghaaa", sum := "dfb15500a1e440603516b5c66250b77669e25737f496d4cd2d91664e612128a6", func := "copse/copselaw8.ModelCells", spec := "modelCells", unfollowed := true, recurses := true, plainKeys := false, apart := false, narrowed := true }
def ModelCellsUptoSaid : Prop := modelCellsUptoRow.holds Try.pinned (OpenSpec.upto modelCellsSpec)

/-- 'copselaw8.ModelSums', WHERE WHAT IT READS IS OF BULK AT MOST 1048576: true; the input reads as it did. -/
def modelSumsUptoRow : OpenClaim := { program := "ytbjnmbbhlaghaaa", sum := "dfb15500a1e440603516b5c66250b77669e25737f496d4cd2d91664e612128a6", func := "copse/copselaw8.ModelSums", spec := "modelSums", unfollowed := true, recurses := true, plainKeys := false, apart := false, narrowed := true }
def ModelSumsUptoSaid : Prop := modelSumsUptoRow.holds Try.pinned (OpenSpec.upto modelSumsSpec)

/-- 'copselaw8.ModelEdges', WHERE WHAT IT READS IS OF BULK AT MOST 1048576: true; the input reads as it did. -/
def modelEdgesUptoRow : OpenClaim := { program := "ytbjnmbbhlaghaaa", sum := "dfb15500a1e440603516b5c66250b77669e25737f496d4cd2d91664e612128a6", func := "copse/copselaw8.ModelEdges", spec := "modelEdges", unfollowed := true, recurses := true, plainKeys := false, apart := false, narrowed := true }
def ModelEdgesUptoSaid : Prop := modelEdgesUptoRow.holds Try.pinned (OpenSpec.upto modelEdgesSpec)

/-- 'copselaw12.GridRuns', WHERE WHAT IT READS IS OF BULK AT MOST 1048576: true; the input reads as it did. -/
def gridRunsUptoRow : OpenClaim := { program := "ytbjnmbbhlaghaaa", sum := "dfb15500a1e440603516b5c66250b77669e25737f496d4cd2d91664e612128a6", func := "copse/copselaw12.GridRuns", spec := "gridRuns", unfollowed := true, recurses := true, plainKeys := false, apart := false, narrowed := true }
def GridRunsUptoSaid : Prop := gridRunsUptoRow.holds Try.pinned (OpenSpec.upto gridRunsSpec)

/-- 'copselaw12.GridTells', WHERE WHAT IT READS IS OF BULK AT MOST 1048576: true; the input reads as it did. -/
def gridTellsUptoRow : OpenClaim := { program := "ytbjnmbbhlaghaaa", sum := "dfb15500a1e440603516b5c66250b77669e25737f496d4cd2d91664e612128a6", func := "copse/copselaw12.GridTells", spec := "gridTells", unfollowed := true, recurses := true, plainKeys := false, apart := false, narrowed := true }
def GridTellsUptoSaid : Prop := gridTellsUptoRow.holds Try.pinned (OpenSpec.upto gridTellsSpec)

/-- 'copselaw12.GridHolds', WHERE WHAT IT READS IS OF BULK AT MOST 1048576: true; the input reads as it did. -/
def gridHoldsUptoRow : OpenClaim := { program := "ytbjnmbbhlaghaaa", sum := "dfb15500a1e440603516b5c66250b77669e25737f496d4cd2d91664e612128a6", func := "copse/copselaw12.GridHolds", spec := "gridHolds", unfollowed := true, recurses := true, plainKeys := false, apart := false, narrowed := true }
def GridHoldsUptoSaid : Prop := gridHoldsUptoRow.holds Try.pinned (OpenSpec.upto gridHoldsSpec)

/-- 'copselaw12.GridLess', WHERE WHAT IT READS IS OF BULK AT MOST 1048576: true; the input reads as it did. -/
def gridLessUptoRow : OpenClaim := { program := "ytbjnmbbhlaghaaa", sum := "dfb15500a1e440603516b5c66250b77669e25737f496d4cd2d91664e612128a6", func := "copse/copselaw12.GridLess", spec := "gridLess", unfollowed := true, recurses := true, plainKeys := false, apart := false, narrowed := true }
def GridLessUptoSaid : Prop := gridLessUptoRow.holds Try.pinned (OpenSpec.upto gridLessSpec)

/-- 'copselaw12.GridParts', WHERE WHAT IT READS IS OF BULK AT MOST 1048576: true; the input reads as it did. -/
def gridPartsUptoRow : OpenClaim := { program := "ytbjnmbbhlaghaaa", sum := "dfb15500a1e440603516b5c66250b77669e25737f496d4cd2d91664e612128a6", func := "copse/copselaw12.GridParts", spec := "gridParts", unfollowed := true, recurses := true, plainKeys := false, apart := false, narrowed := true }
def GridPartsUptoSaid : Prop := gridPartsUptoRow.holds Try.pinned (OpenSpec.upto gridPartsSpec)

/-- 'copselaw18.GoalRuns', WHERE WHAT IT READS IS OF BULK AT MOST 1048576: true; the input reads as it did. -/
def goalRunsUptoRow : OpenClaim := { program := "ytbjnmbbhlaghaaa", sum := "dfb15500a1e440603516b5c66250b77669e25737f496d4cd2d91664e612128a6", func := "copse/copselaw18.GoalRuns", spec := "goalRuns", unfollowed := true, recurses := true, plainKeys := false, apart := false, narrowed := true }
def GoalRunsUptoSaid : Prop := goalRunsUptoRow.holds Try.pinned (OpenSpec.upto goalRunsSpec)

end Rows
end Go.Proofs.Ytbjnmbbhlaghaaa
