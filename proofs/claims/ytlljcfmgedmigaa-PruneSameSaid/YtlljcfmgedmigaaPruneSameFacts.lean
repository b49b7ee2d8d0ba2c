/- What the row of law PruneSame asks of the program's text, part by part. No condition. -/
import Derived.Test.YtlljcfmgedmigaaRows
import Derived.ProofKit
namespace Go.Proofs.Ytlljcfmgedmigaa.pruneSameFacts
open Go.Proofs
def signs : List Char := [Char.ofNat 104, Char.ofNat 97, Char.ofNat 114, Char.ofNat 110, Char.ofNat 101, Char.ofNat 115, Char.ofNat 115, Char.ofNat 32, Char.ofNat 56, Char.ofNat 48, Char.ofNat 53, Char.ofNat 57, Char.ofNat 56, Char.ofNat 97, Char.ofNat 57, Char.ofNat 55, Char.ofNat 100, Char.ofNat 48, Char.ofNat 100, Char.ofNat 101, Char.ofNat 57, Char.ofNat 51, Char.ofNat 52, Char.ofNat 97, Char.ofNat 98, Char.ofNat 101, Char.ofNat 101, Char.ofNat 50, Char.ofNat 57, Char.ofNat 56, Char.ofNat 53, Char.ofNat 49, Char.ofNat 57, Char.ofNat 54, Char.ofNat 52, Char.ofNat 101, Char.ofNat 49, Char.ofNat 53, Char.ofNat 98, Char.ofNat 98, Char.ofNat 54, Char.ofNat 53, Char.ofNat 98, Char.ofNat 98, Char.ofNat 52, Char.ofNat 54, Char.ofNat 52, Char.ofNat 55, Char.ofNat 55, Char.ofNat 98, Char.ofNat 54, Char.ofNat 53, Char.ofNat 49, Char.ofNat 99, Char.ofNat 56, Char.ofNat 49, Char.ofNat 55, Char.ofNat 100, Char.ofNat 54, Char.ofNat 102, Char.ofNat 99, Char.ofNat 53, Char.ofNat 56, Char.ofNat 99, Char.ofNat 51, Char.ofNat 49, Char.ofNat 99, Char.ofNat 49, Char.ofNat 99, Char.ofNat 100, Char.ofNat 53, Char.ofNat 49, Char.ofNat 32, Char.ofNat 99, Char.ofNat 117, Char.ofNat 116, Char.ofNat 32, Char.ofNat 97, Char.ofNat 116, Char.ofNat 32, Char.ofNat 99, Char.ofNat 111, Char.ofNat 112, Char.ofNat 115, Char.ofNat 101, Char.ofNat 47, Char.ofNat 99, Char.ofNat 111, Char.ofNat 112, Char.ofNat 115, Char.ofNat 101, Char.ofNat 108, Char.ofNat 97, Char.ofNat 119, Char.ofNat 50, Char.ofNat 53, Char.ofNat 46, Char.ofNat 80, Char.ofNat 114, Char.ofNat 117, Char.ofNat 110, Char.ofNat 101, Char.ofNat 79, Char.ofNat 114, Char.ofNat 100, Char.ofNat 101, Char.ofNat 114, Char.ofNat 32, Char.ofNat 99, Char.ofNat 111, Char.ofNat 112, Char.ofNat 115, Char.ofNat 101, Char.ofNat 47, Char.ofNat 99, Char.ofNat 111, Char.ofNat 112, Char.ofNat 115, Char.ofNat 101, Char.ofNat 108, Char.ofNat 97, Char.ofNat 119, Char.ofNat 50, Char.ofNat 53, Char.ofNat 46, Char.ofNat 80, Char.ofNat 114, Char.ofNat 117, Char.ofNat 110, Char.ofNat 101, Char.ofNat 78, Char.ofNat 101, Char.ofNat 115, Char.ofNat 116, Char.ofNat 101, Char.ofNat 100, Char.ofNat 32, Char.ofNat 99, Char.ofNat 111, Char.ofNat 112, Char.ofNat 115, Char.ofNat 101, Char.ofNat 47, Char.ofNat 99, Char.ofNat 111, Char.ofNat 112, Char.ofNat 115, Char.ofNat 101, Char.ofNat 108, Char.ofNat 97, Char.ofNat 119, Char.ofNat 49, Char.ofNat 52, Char.ofNat 46, Char.ofNat 66, Char.ofNat 111, Char.ofNat 117, Char.ofNat 110, Char.ofNat 100, Char.ofNat 77, Char.ofNat 97, Char.ofNat 114, Char.ofNat 103, Char.ofNat 105, Char.ofNat 110, Char.ofNat 32, Char.ofNat 99, Char.ofNat 111, Char.ofNat 112, Char.ofNat 115, Char.ofNat 101, Char.ofNat 47, Char.ofNat 99, Char.ofNat 111, Char.ofNat 112, Char.ofNat 115, Char.ofNat 101, Char.ofNat 108, Char.ofNat 97, Char.ofNat 119, Char.ofNat 50, Char.ofNat 53, Char.ofNat 46, Char.ofNat 80, Char.ofNat 114, Char.ofNat 117, Char.ofNat 110, Char.ofNat 101, Char.ofNat 83, Char.ofNat 97, Char.ofNat 109, Char.ofNat 101, Char.ofNat 32, Char.ofNat 99, Char.ofNat 111, Char.ofNat 112, Char.ofNat 115, Char.ofNat 101, Char.ofNat 47, Char.ofNat 99, Char.ofNat 111, Char.ofNat 112, Char.ofNat 115, Char.ofNat 101, Char.ofNat 108, Char.ofNat 97, Char.ofNat 119, Char.ofNat 49, Char.ofNat 54, Char.ofNat 46, Char.ofNat 76, Char.ofNat 101, Char.ofNat 118, Char.ofNat 101, Char.ofNat 108, Char.ofNat 84, Char.ofNat 101, Char.ofNat 108, Char.ofNat 108, Char.ofNat 115, Char.ofNat 32, Char.ofNat 99, Char.ofNat 111, Char.ofNat 112, Char.ofNat 115, Char.ofNat 101, Char.ofNat 47, Char.ofNat 99, Char.ofNat 111, Char.ofNat 112, Char.ofNat 115, Char.ofNat 101, Char.ofNat 108, Char.ofNat 97, Char.ofNat 119, Char.ofNat 56, Char.ofNat 46, Char.ofNat 77, Char.ofNat 111, Char.ofNat 100, Char.ofNat 101, Char.ofNat 108, Char.ofNat 84, Char.ofNat 101, Char.ofNat 108, Char.ofNat 108, Char.ofNat 115, Char.ofNat 32, Char.ofNat 99, Char.ofNat 111, Char.ofNat 112, Char.ofNat 115, Char.ofNat 101, Char.ofNat 47, Char.ofNat 99, Char.ofNat 111, Char.ofNat 112, Char.ofNat 115, Char.ofNat 101, Char.ofNat 108, Char.ofNat 97, Char.ofNat 119, Char.ofNat 49, Char.ofNat 50, Char.ofNat 46, Char.ofNat 71, Char.ofNat 114, Char.ofNat 105, Char.ofNat 100, Char.ofNat 84, Char.ofNat 101, Char.ofNat 108, Char.ofNat 108, Char.ofNat 115]
theorem order_eq : Try.prog.initOrder = String.ofList signs := by kernel_rfl
theorem order_signs : Try.prog.initOrder.toList = signs := by rw [order_eq, String.toList_ofList]
theorem strip (rest : List (List Char)) : stripLifts liftWords ("cut".toList :: rest) = ([], "cut".toList :: rest) := by kernel_rfl
theorem make_cut (P : Program) (rest : List (List Char)) (h : behindMainWord (wordsSigns P.initOrder.toList) = "cut".toList :: rest) : P.make = some .cut := by
  unfold Program.make
  rw [h]
  kernel_rfl
theorem enters_cut (P : Program) (rest : List (List Char)) (h : behindMainWord (wordsSigns P.initOrder.toList) = "cut".toList :: rest) (h1 : P.laysLater = false) (h2 : P.bearsReflect = false) (h3 : P.doorFits [] = true) : P.mayEnter = true := by
  unfold Program.mayEnter
  rw [h]
  simp only [strip, h1, h2, h3]
  kernel_rfl
theorem lifts_cut (P : Program) (rest : List (List Char)) (h : behindMainWord (wordsSigns P.initOrder.toList) = "cut".toList :: rest) : P.liftsFinal = false := by
  unfold Program.liftsFinal Program.headLifts
  rw [h]
  simp only [strip]
  kernel_rfl
theorem words : behindMainWord (wordsSigns signs) = "cut".toList :: (behindMainWord (wordsSigns signs)).tail := by kernel_rfl
theorem behind : behindMainWord (wordsSigns Try.prog.initOrder.toList) = "cut".toList :: (behindMainWord (wordsSigns signs)).tail := (congrArg (fun l => behindMainWord (wordsSigns l)) order_signs).trans words
theorem enters : Try.prog.mayEnter = true := enters_cut _ _ behind (by kernel_rfl) (by kernel_rfl) (by kernel_rfl)
theorem lifts : Try.prog.liftsFinal = false := lifts_cut _ _ behind
theorem make : Try.prog.make = some .cut := make_cut _ _ behind
theorem k1 : Rows.pruneSameRow.wf (OpenSpec.ofChange Rows.pruneSameSpec) = true := by kernel_rfl
theorem k2 : laidOutB Try.prog = true := by kernel_rfl
theorem k3 : mapsRowed Try.prog = true := by kernel_rfl
theorem k4 : Try.f6.params.all (Try.prog.readableRec ·) = true := by kernel_rfl
theorem k5 : namedTie Try.prog Rows.pruneSameRow.named Rows.pruneSameSpec.vars = true := by kernel_rfl
theorem k6 : (Rows.pruneSameRow.stops == []) = true := by kernel_rfl
theorem k7 : (Try.prog.stops == []) = true := by kernel_rfl
theorem k8 : (Rows.pruneSameRow.knobs == []) = true := by kernel_rfl
theorem k9 : (Try.prog.stopKnobs == []) = true := by kernel_rfl
theorem k10 : (Rows.pruneSameRow.inPlace == Try.prog.inPlace 6) = true := by kernel_rfl
theorem k11 : (Rows.pruneSameRow.unfollowed == Try.prog.unfollowed 6) = true := by kernel_rfl
theorem k12 : (Rows.pruneSameRow.recurses == Try.prog.recurses 6) = true := by kernel_rfl
theorem k13 : (Rows.pruneSameRow.named == Try.prog.varsNamed 6) = true := by kernel_rfl
theorem joined : joinedFacts Try.prog 6 Try.f6 Rows.pruneSameSpec Rows.pruneSameRow = true := by
  unfold joinedFacts
  rw [k1, k2, k3, k4, k5, k6, k7, k8, k9, k10, k11, k12, k13, enters, lifts, make]
  kernel_rfl
end Go.Proofs.Ytlljcfmgedmigaa.pruneSameFacts
