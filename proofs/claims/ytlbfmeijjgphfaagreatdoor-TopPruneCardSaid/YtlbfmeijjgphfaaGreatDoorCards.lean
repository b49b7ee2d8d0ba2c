/-
  DERIVED. GIVEN WITH THE SEED: THE CARDS: each row of YtlbfmeijjgphfaaGreatDoorRows.lean that lists a variable, with what it lists TIED to the program's text (the seventh form; the later family's looks); each row that meets fmt, with fmt's text TOLD by the authors' own Lean function (tested against real Go, not proved from fmt's source: count such statements apart). THE CARD IS WHAT COUNTS. Prove the row's statement (the work); the ties are given (YtlbfmeijjgphfaaGreatDoorTie.lean); close each card by the builder's one call (the guide's Derived/Test/ToyasCard.lean, 'card_holds'). Laid BY PROGRAM, IN A SANDBOX (cutbox-door.mjs). By AI agents, Wed Nov 11 2026. No macro, syntax, notation, axiom, sorry.
-/
import Derived.Test.YtlbfmeijjgphfaaGreatDoorRows
import GoSem.ClaimSeven
namespace Go.Proofs.YtlbfmeijjgphfaaGreatDoor
namespace Rows

/-- THE TIED CARD OF 'copsetop.TopPoints'. -/
def topPointsCard : Claim7 := { stood := { row := topPointsRow, standIns := [], harness := (true, "b7ba5c20151085d698620802d94521bb17f2ea5c90e586bb8f0a9186fd9b850b"), looks := true }, kinds := [], alts := [], laidByText := true, laidKinds := [.data, .data, .data, .data, .sentinel, .sentinel, .pinned], laidTests := true, laidLooks := .later }
def TopPointsCardSaid : Prop := Claim7.holds Tryz.pinned (.plain (OpenSpec.ofChange topPointsSpec)) topPointsCard

/-- THE TIED CARD OF 'copsetop.TopRegions'. -/
def topRegionsCard : Claim7 := { stood := { row := topRegionsRow, standIns := [], harness := (true, "b7ba5c20151085d698620802d94521bb17f2ea5c90e586bb8f0a9186fd9b850b"), looks := true }, kinds := [], alts := [], laidByText := true, laidKinds := [.data, .data, .data, .data, .sentinel, .sentinel, .pinned], laidTests := true, laidLooks := .later }
def TopRegionsCardSaid : Prop := Claim7.holds Tryz.pinned (.plain (OpenSpec.ofChange topRegionsSpec)) topRegionsCard

/-- THE TIED CARD OF 'copsetop.TopOrder'. -/
def topOrderCard : Claim7 := { stood := { row := topOrderRow, standIns := [], harness := (true, "b7ba5c20151085d698620802d94521bb17f2ea5c90e586bb8f0a9186fd9b850b"), looks := true }, kinds := [], alts := [], laidByText := true, laidKinds := [.data, .data, .data, .data, .sentinel, .sentinel, .pinned], laidTests := true, laidLooks := .later }
def TopOrderCardSaid : Prop := Claim7.holds Tryz.pinned (.plain (OpenSpec.ofChange topOrderSpec)) topOrderCard

/-- THE TIED CARD OF 'copsetop.TopBias'. -/
def topBiasCard : Claim7 := { stood := { row := topBiasRow, standIns := [], harness := (true, "b7ba5c20151085d698620802d94521bb17f2ea5c90e586bb8f0a9186fd9b850b"), looks := true }, kinds := [], alts := [], laidByText := true, laidKinds := [.data, .data, .data, .data, .sentinel, .sentinel, .pinned], laidTests := true, laidLooks := .later }
def TopBiasCardSaid : Prop := Claim7.holds Tryz.pinned (.plain (OpenSpec.ofChange topBiasSpec)) topBiasCard

/-- THE TIED CARD OF 'copsetop.TopBest'. -/
def topBestCard : Claim7 := { stood := { row := topBestRow, standIns := [], harness := (true, "b7ba5c20151085d698620802d94521bb17f2ea5c90e586bb8f0a9186fd9b850b"), looks := true }, kinds := [], alts := [], laidByText := true, laidKinds := [.data, .data, .data, .data, .sentinel, .sentinel, .pinned], laidTests := true, laidLooks := .later }
def TopBestCardSaid : Prop := Claim7.holds Tryz.pinned (.plain (OpenSpec.ofChange topBestSpec)) topBestCard

/-- THE TIED CARD OF 'copsetop.TopTruth'. -/
def topTruthCard : Claim7 := { stood := { row := topTruthRow, standIns := [], harness := (true, "b7ba5c20151085d698620802d94521bb17f2ea5c90e586bb8f0a9186fd9b850b"), looks := true }, kinds := [], alts := [], laidByText := true, laidKinds := [.data, .data, .data, .data, .sentinel, .sentinel, .pinned], laidTests := true, laidLooks := .later }
def TopTruthCardSaid : Prop := Claim7.holds Tryz.pinned (.plain (OpenSpec.ofChange topTruthSpec)) topTruthCard

/-- THE TIED CARD OF 'copsetop.TopPrune'. -/
def topPruneCard : Claim7 := { stood := { row := topPruneRow, standIns := [], harness := (true, "b7ba5c20151085d698620802d94521bb17f2ea5c90e586bb8f0a9186fd9b850b"), looks := true }, kinds := [], alts := [], laidByText := true, laidKinds := [.data, .data, .data, .data, .sentinel, .sentinel, .pinned], laidTests := true, laidLooks := .later }
def TopPruneCardSaid : Prop := Claim7.holds Tryz.pinned (.plain (OpenSpec.ofChange topPruneSpec)) topPruneCard

/-- THE SECOND FORM's CARD OF 'copsetop.TopPoints'. -/
def topPointsUptoCard : Claim7 := { stood := { row := topPointsUptoRow, standIns := [], harness := (true, "b7ba5c20151085d698620802d94521bb17f2ea5c90e586bb8f0a9186fd9b850b"), looks := true }, kinds := [], alts := [], laidByText := true, laidKinds := [.data, .data, .data, .data, .sentinel, .sentinel, .pinned], laidTests := true, laidLooks := .later }
def TopPointsUptoCardSaid : Prop := Claim7.holds Tryz.pinned (.plain (OpenSpec.upto topPointsSpec)) topPointsUptoCard

/-- THE SECOND FORM's CARD OF 'copsetop.TopRegions'. -/
def topRegionsUptoCard : Claim7 := { stood := { row := topRegionsUptoRow, standIns := [], harness := (true, "b7ba5c20151085d698620802d94521bb17f2ea5c90e586bb8f0a9186fd9b850b"), looks := true }, kinds := [], alts := [], laidByText := true, laidKinds := [.data, .data, .data, .data, .sentinel, .sentinel, .pinned], laidTests := true, laidLooks := .later }
def TopRegionsUptoCardSaid : Prop := Claim7.holds Tryz.pinned (.plain (OpenSpec.upto topRegionsSpec)) topRegionsUptoCard

/-- THE SECOND FORM's CARD OF 'copsetop.TopOrder'. -/
def topOrderUptoCard : Claim7 := { stood := { row := topOrderUptoRow, standIns := [], harness := (true, "b7ba5c20151085d698620802d94521bb17f2ea5c90e586bb8f0a9186fd9b850b"), looks := true }, kinds := [], alts := [], laidByText := true, laidKinds := [.data, .data, .data, .data, .sentinel, .sentinel, .pinned], laidTests := true, laidLooks := .later }
def TopOrderUptoCardSaid : Prop := Claim7.holds Tryz.pinned (.plain (OpenSpec.upto topOrderSpec)) topOrderUptoCard

/-- THE SECOND FORM's CARD OF 'copsetop.TopBias'. -/
def topBiasUptoCard : Claim7 := { stood := { row := topBiasUptoRow, standIns := [], harness := (true, "b7ba5c20151085d698620802d94521bb17f2ea5c90e586bb8f0a9186fd9b850b"), looks := true }, kinds := [], alts := [], laidByText := true, laidKinds := [.data, .data, .data, .data, .sentinel, .sentinel, .pinned], laidTests := true, laidLooks := .later }
def TopBiasUptoCardSaid : Prop := Claim7.holds Tryz.pinned (.plain (OpenSpec.upto topBiasSpec)) topBiasUptoCard

/-- THE SECOND FORM's CARD OF 'copsetop.TopBest'. -/
def topBestUptoCard : Claim7 := { stood := { row := topBestUptoRow, standIns := [], harness := (true, "b7ba5c20151085d698620802d94521bb17f2ea5c90e586bb8f0a9186fd9b850b"), looks := true }, kinds := [], alts := [], laidByText := true, laidKinds := [.data, .data, .data, .data, .sentinel, .sentinel, .pinned], laidTests := true, laidLooks := .later }
def TopBestUptoCardSaid : Prop := Claim7.holds Tryz.pinned (.plain (OpenSpec.upto topBestSpec)) topBestUptoCard

/-- THE SECOND FORM's CARD OF 'copsetop.TopTruth'. -/
def topTruthUptoCard : Claim7 := { stood := { row := topTruthUptoRow, standIns := [], harness := (true, "b7ba5c20151085d698620802d94521bb17f2ea5c90e586bb8f0a9186fd9b850b"), looks := true }, kinds := [], alts := [], laidByText := true, laidKinds := [.data, .data, .data, .data, .sentinel, .sentinel, .pinned], laidTests := true, laidLooks := .later }
def TopTruthUptoCardSaid : Prop := Claim7.holds Tryz.pinned (.plain (OpenSpec.upto topTruthSpec)) topTruthUptoCard

/-- THE SECOND FORM's CARD OF 'copsetop.TopPrune'. -/
def topPruneUptoCard : Claim7 := { stood := { row := topPruneUptoRow, standIns := [], harness := (true, "b7ba5c20151085d698620802d94521bb17f2ea5c90e586bb8f0a9186fd9b850b"), looks := true }, kinds := [], alts := [], laidByText := true, laidKinds := [.data, .data, .data, .data, .sentinel, .sentinel, .pinned], laidTests := true, laidLooks := .later }
def TopPruneUptoCardSaid : Prop := Claim7.holds Tryz.pinned (.plain (OpenSpec.upto topPruneSpec)) topPruneUptoCard
end Rows
end Go.Proofs.YtlbfmeijjgphfaaGreatDoor
