/- What the row of law TopPrune asks of the program's text, part by part. No condition. -/
import Derived.Test.YtlbfmeijjgphfaaGreatDoorRows
import Derived.ProofKit
namespace Go.Proofs.YtlbfmeijjgphfaaGreatDoor.topPruneFacts
open Go.Proofs
def signs : List Char := [Char.ofNat 104, Char.ofNat 97, Char.ofNat 114, Char.ofNat 110, Char.ofNat 101, Char.ofNat 115, Char.ofNat 115, Char.ofNat 32, Char.ofNat 98, Char.ofNat 55, Char.ofNat 98, Char.ofNat 97, Char.ofNat 53, Char.ofNat 99, Char.ofNat 50, Char.ofNat 48, Char.ofNat 49, Char.ofNat 53, Char.ofNat 49, Char.ofNat 48, Char.ofNat 56, Char.ofNat 53, Char.ofNat 100, Char.ofNat 54, Char.ofNat 57, Char.ofNat 56, Char.ofNat 54, Char.ofNat 50, Char.ofNat 48, Char.ofNat 56, Char.ofNat 48, Char.ofNat 50, Char.ofNat 100, Char.ofNat 57, Char.ofNat 52, Char.ofNat 53, Char.ofNat 50, Char.ofNat 49, Char.ofNat 98, Char.ofNat 98, Char.ofNat 49, Char.ofNat 55, Char.ofNat 102, Char.ofNat 50, Char.ofNat 101, Char.ofNat 97, Char.ofNat 53, Char.ofNat 99, Char.ofNat 57, Char.ofNat 48, Char.ofNat 101, Char.ofNat 53, Char.ofNat 56, Char.ofNat 54, Char.ofNat 98, Char.ofNat 98, Char.ofNat 56, Char.ofNat 102, Char.ofNat 48, Char.ofNat 97, Char.ofNat 57, Char.ofNat 49, Char.ofNat 56, Char.ofNat 54, Char.ofNat 102, Char.ofNat 100, Char.ofNat 57, Char.ofNat 98, Char.ofNat 56, Char.ofNat 53, Char.ofNat 48, Char.ofNat 98, Char.ofNat 32, Char.ofNat 99, Char.ofNat 117, Char.ofNat 116, Char.ofNat 32, Char.ofNat 97, Char.ofNat 116, Char.ofNat 32, Char.ofNat 99, Char.ofNat 111, Char.ofNat 112, Char.ofNat 115, Char.ofNat 101, Char.ofNat 47, Char.ofNat 99, Char.ofNat 111, Char.ofNat 112, Char.ofNat 115, Char.ofNat 101, Char.ofNat 116, Char.ofNat 111, Char.ofNat 112, Char.ofNat 46, Char.ofNat 84, Char.ofNat 111, Char.ofNat 112, Char.ofNat 80, Char.ofNat 111, Char.ofNat 105, Char.ofNat 110, Char.ofNat 116, Char.ofNat 115, Char.ofNat 32, Char.ofNat 99, Char.ofNat 111, Char.ofNat 112, Char.ofNat 115, Char.ofNat 101, Char.ofNat 47, Char.ofNat 99, Char.ofNat 111, Char.ofNat 112, Char.ofNat 115, Char.ofNat 101, Char.ofNat 116, Char.ofNat 111, Char.ofNat 112, Char.ofNat 46, Char.ofNat 84, Char.ofNat 111, Char.ofNat 112, Char.ofNat 82, Char.ofNat 101, Char.ofNat 103, Char.ofNat 105, Char.ofNat 111, Char.ofNat 110, Char.ofNat 115, Char.ofNat 32, Char.ofNat 99, Char.ofNat 111, Char.ofNat 112, Char.ofNat 115, Char.ofNat 101, Char.ofNat 47, Char.ofNat 99, Char.ofNat 111, Char.ofNat 112, Char.ofNat 115, Char.ofNat 101, Char.ofNat 116, Char.ofNat 111, Char.ofNat 112, Char.ofNat 46, Char.ofNat 84, Char.ofNat 111, Char.ofNat 112, Char.ofNat 79, Char.ofNat 114, Char.ofNat 100, Char.ofNat 101, Char.ofNat 114, Char.ofNat 32, Char.ofNat 99, Char.ofNat 111, Char.ofNat 112, Char.ofNat 115, Char.ofNat 101, Char.ofNat 47, Char.ofNat 99, Char.ofNat 111, Char.ofNat 112, Char.ofNat 115, Char.ofNat 101, Char.ofNat 116, Char.ofNat 111, Char.ofNat 112, Char.ofNat 46, Char.ofNat 84, Char.ofNat 111, Char.ofNat 112, Char.ofNat 66, Char.ofNat 105, Char.ofNat 97, Char.ofNat 115, Char.ofNat 32, Char.ofNat 99, Char.ofNat 111, Char.ofNat 112, Char.ofNat 115, Char.ofNat 101, Char.ofNat 47, Char.ofNat 99, Char.ofNat 111, Char.ofNat 112, Char.ofNat 115, Char.ofNat 101, Char.ofNat 116, Char.ofNat 111, Char.ofNat 112, Char.ofNat 46, Char.ofNat 84, Char.ofNat 111, Char.ofNat 112, Char.ofNat 66, Char.ofNat 101, Char.ofNat 115, Char.ofNat 116, Char.ofNat 32, Char.ofNat 99, Char.ofNat 111, Char.ofNat 112, Char.ofNat 115, Char.ofNat 101, Char.ofNat 47, Char.ofNat 99, Char.ofNat 111, Char.ofNat 112, Char.ofNat 115, Char.ofNat 101, Char.ofNat 116, Char.ofNat 111, Char.ofNat 112, Char.ofNat 46, Char.ofNat 84, Char.ofNat 111, Char.ofNat 112, Char.ofNat 84, Char.ofNat 114, Char.ofNat 117, Char.ofNat 116, Char.ofNat 104, Char.ofNat 32, Char.ofNat 99, Char.ofNat 111, Char.ofNat 112, Char.ofNat 115, Char.ofNat 101, Char.ofNat 47, Char.ofNat 99, Char.ofNat 111, Char.ofNat 112, Char.ofNat 115, Char.ofNat 101, Char.ofNat 116, Char.ofNat 111, Char.ofNat 112, Char.ofNat 46, Char.ofNat 84, Char.ofNat 111, Char.ofNat 112, Char.ofNat 80, Char.ofNat 114, Char.ofNat 117, Char.ofNat 110, Char.ofNat 101]
theorem order_eq : Tryz.prog.initOrder = String.ofList signs := by kernel_rfl
theorem order_signs : Tryz.prog.initOrder.toList = signs := by rw [order_eq, String.toList_ofList]
theorem strip (rest : List (List Char)) : stripLifts liftWords ("cut".toList :: rest) = ([], "cut".toList :: rest) := by kernel_rfl
theorem make_cut (P : Program) (rest : List (List Char)) (h : behindMainWord (wordsSigns P.initOrder.toList) = "cut".toList :: rest) : P.make = some .cut := by
  unfold Program.make
  rw [h]
  kernel_rfl
theorem enters_cut (P : Program) (rest : List (List Char)) (h : behindMainWord (wordsSigns P.initOrder.toList) = "cut".toList :: rest) (h1 : P.laysLater = false) (h2 : P.bearsReflect = false) (h3 : P.doorFits [] = true) : P.mayEnter = true := by
  unfold Program.mayEnter
  rw [h]
  simp only [strip, h1, h2, h3]
  kernel_rfl
theorem lifts_cut (P : Program) (rest : List (List Char)) (h : behindMainWord (wordsSigns P.initOrder.toList) = "cut".toList :: rest) : P.liftsFinal = false := by
  unfold Program.liftsFinal Program.headLifts
  rw [h]
  simp only [strip]
  kernel_rfl
theorem words : behindMainWord (wordsSigns signs) = "cut".toList :: (behindMainWord (wordsSigns signs)).tail := by kernel_rfl
theorem behind : behindMainWord (wordsSigns Tryz.prog.initOrder.toList) = "cut".toList :: (behindMainWord (wordsSigns signs)).tail := (congrArg (fun l => behindMainWord (wordsSigns l)) order_signs).trans words
theorem enters : Tryz.prog.mayEnter = true := enters_cut _ _ behind (by kernel_rfl) (by kernel_rfl) (by kernel_rfl)
theorem lifts : Tryz.prog.liftsFinal = false := lifts_cut _ _ behind
theorem make : Tryz.prog.make = some .cut := make_cut _ _ behind
theorem k1 : Rows.topPruneRow.wf (OpenSpec.ofChange Rows.topPruneSpec) = true := by kernel_rfl
theorem k2 : laidOutB Tryz.prog = true := by kernel_rfl
theorem k3 : mapsRowed Tryz.prog = true := by kernel_rfl
theorem k4 : Tryz.f9.params.all (Tryz.prog.readableRec ·) = true := by kernel_rfl
theorem k5 : namedTie Tryz.prog Rows.topPruneRow.named Rows.topPruneSpec.vars = true := by kernel_rfl
theorem k6 : (Rows.topPruneRow.stops == []) = true := by kernel_rfl
theorem k7 : (Tryz.prog.stops == []) = true := by kernel_rfl
theorem k8 : (Rows.topPruneRow.knobs == []) = true := by kernel_rfl
theorem k9 : (Tryz.prog.stopKnobs == []) = true := by kernel_rfl
theorem k10 : (Rows.topPruneRow.inPlace == Tryz.prog.inPlace 9) = true := by kernel_rfl
theorem k11 : (Rows.topPruneRow.unfollowed == Tryz.prog.unfollowed 9) = true := by kernel_rfl
theorem k12 : (Rows.topPruneRow.recurses == Tryz.prog.recurses 9) = true := by kernel_rfl
theorem k13 : (Rows.topPruneRow.named == Tryz.prog.varsNamed 9) = true := by kernel_rfl
theorem joined : joinedFacts Tryz.prog 9 Tryz.f9 Rows.topPruneSpec Rows.topPruneRow = true := by
  unfold joinedFacts
  rw [k1, k2, k3, k4, k5, k6, k7, k8, k9, k10, k11, k12, k13, enters, lifts, make]
  kernel_rfl
end Go.Proofs.YtlbfmeijjgphfaaGreatDoor.topPruneFacts
