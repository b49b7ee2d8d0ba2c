/- The law TopPrune holds: its call returns true, and what was there reads as before; its card. -/
import Derived.Test.YtlbfmeijjgphfaaGreatDoorRows
import Derived.Test.YtlbfmeijjgphfaaGreatDoorCards
import Derived.Test.YtlbfmeijjgphfaaGreatDoorTie
import Derived.WalkKit
import Derived.ProofKit
import Derived.OpenShut
import Derived.Deep.DeepHandedRow
import Derived.JoinedCond
import Derived.SizedLaws
import Derived.LaidLaws
import Derived.Lib.LaidTab
import Derived.SevenTiedAt
import Derived.Test.YtlbfmeijjgphfaaGreatDoorAm4
import Derived.Test.YtlbfmeijjgphfaaGreatDoorLTopPrune
import Derived.Test.YtlbfmeijjgphfaaGreatDoorTopPruneFacts
namespace Go.Proofs.YtlbfmeijjgphfaaGreatDoor.topPrune
open Go.Am Go.Co Go.ChangeShapes Go.WideShapes Go.ChangeAt Go.RowKit
set_option linter.unusedVariables false
set_option maxRecDepth 1000000

theorem own : ownKnob Tryz.prog.godebug = none := by kernel_rfl
def litV : DataW Unit → Value
  | .lit (.int k n) => .int k n
  | _ => .nilIface
def cells1 : DataW Unit → List Value
  | .agg ds => ds.map litV
  | _ => []
def cells2 : DataW Unit → List Value
  | .agg ds => (ds.map cells1).flatten
  | _ => []
def errBlk (l : List UInt8) : Obj := .cells #[.string ⟨l.toArray⟩] 295 (0, 0)
def lay (h : Array Obj) (k : Nat) (cs : List Value) : Array Obj := h.modify k fun
  | .cells _ t frozen => .cells cs.toArray t frozen
  | o => o
/-- the settled world, the listed variables laid -/
noncomputable def laidWorld (os : Os) : World :=
  let w0 := World.holding Tryz.prog os ⟨#[errBlk [118, 97, 108, 117, 101, 32, 111, 117, 116, 32, 111, 102, 32, 114, 97, 110, 103, 101], errBlk [105, 110, 118, 97, 108, 105, 100, 32, 115, 121, 110, 116, 97, 120]], #[], []⟩
  let N := (World.settled Tryz.prog os).heap.size
  { w0 with heap := lay (lay (lay (lay (lay (lay (lay w0.heap 0 (cells1 Rows.laid_internal_strconv_uint64pow10)) 6 (cells1 Rows.laid_math_bits_deBruijn32tab)) 7 (cells1 Rows.laid_math_bits_deBruijn64tab)) 5 (cells2 Rows.laid_unicode_utf8_acceptRanges)) 4 (cells1 Rows.laid_unicode_utf8_first)) 3 [.iface 293 (.pointer (some ⟨N, 0, none⟩))]) 2 [.iface 293 (.pointer (some ⟨N + 1, 0, none⟩))] }
theorem laid_met (os : Os) (args : Array Value) : laidMet Tryz.prog Rows.topPruneRow.laid ((laidWorld os).forCall (fun _ _ => 0) ⟨#[], args, []⟩).memory :=
  laidMet_of_run' 12 (by kernel_rfl) (by kernel_rfl)
/-- the table of powers of ten, out of the row's condition -/
theorem tab_laid {W : World} (h : laidMet Tryz.prog Rows.topPruneRow.laid W) : Lib.TabIs Tryz.prog W "internal/strconv.uint64pow10" .u64 ((List.range 20).map fun i => ((10 ^ i : Nat) : Int)) := by
  obtain ⟨ps, h, _⟩ := h
  obtain ⟨_, _, _, _, _, q1, _, _, _, _, h, _⟩ := h
  obtain ⟨_, _, _, _, _, q2, _, _, _, _, h, _⟩ := h
  obtain ⟨g', t', cs, fuel, p, q, hg', ht', hvar, hd, _, _⟩ := h
  have hg : Tryz.prog.globalNamed "internal/strconv.uint64pow10" = some 0 := by kernel_rfl
  have hty : (Tryz.prog.globals[0]?).map (·.type) = some 270 := by kernel_rfl
  obtain rfl := Option.some.inj (hg.symm.trans hg')
  obtain rfl := Option.some.inj (hty.symm.trans ht')
  unfold Lib.TabIs
  have hd' : DataW.trod _ Tryz.prog W _ _ _ fuel 270 cs.toList = some (Lib.tabData .u64 ((List.range 20).map fun i => ((10 ^ i : Nat) : Int)), p) := hd
  rw [hvar, ← Lib.cells_of_tab (n := 20) (e := 87) (by kernel_rfl) (by kernel_rfl) (by kernel_rfl) (by kernel_rfl) hd']
theorem tabOk {W : World} (h : laidMet Tryz.prog Rows.topPruneRow.laid W) : TabOk (fun b => b < W.heap.size) W := by
  have ht := tab_laid h
  have hg : Tryz.prog.globalNamed "internal/strconv.uint64pow10" = some 0 := by kernel_rfl
  have hc := fun i hi => ht.cell hg i hi
  have h0 := hc 0 (by decide)
  have hlt : 0 < W.heap.size := World.block_lt_of_cell? W _ h0
  unfold TabOk
  simp only [VR]
  refine ⟨0, 0, (List.range 20).map fun i => .int .u64 ((10 ^ i : Nat) : Int), rfl, hlt, fun i v hv => ?_, ?_⟩
  · have hi : i < 20 := by
      have := (List.getElem?_eq_some_iff.1 hv).1
      simpa using this
    have := hc i (by simpa using hi)
    rw [Nat.zero_add, this]
    rw [← hv]
    simp [hi]
  · unfold tab10
    refine VRs.of_get (by simp) fun i x v hx hv => ?_
    simp only [List.getElem?_map, Option.map_eq_some_iff] at hx hv
    obtain ⟨a, ha, rfl⟩ := hx
    obtain ⟨b, hb, rfl⟩ := hv
    rw [ha] at hb
    cases hb
    simp [VR]
theorem reads (xs : List AV) (h : argsOk Tryz.prog Tryz.f9.params.toList xs) : law_sp xs = some (.bool true) := by
  rw [Tryz.params9] at h
  obtain ⟨x0, xs, rfl, h0, h⟩ := argsOk_cons h
  obtain ⟨x1, xs, rfl, h1, h⟩ := argsOk_cons h
  obtain rfl := argsOk_nil h
  obtain ⟨a0, rfl, g0⟩ := arg_agg (α := Go.Co.Forest) (by kernel_rfl) (by kernel_rfl) h0
  obtain ⟨a1, rfl, g1⟩ := arg_agg (α := Go.Co.Ask) (by kernel_rfl) (by kernel_rfl) h1
  exact law_says a0 a1
abbrev wit : Array Value := #[.agg #[.int .i64 0, .int .i64 0, .slice none 0 0, .slice none 0 0], .agg #[.int .i64 0, .int .i64 0, .int .i64 0, .int .i64 0, .int .i64 0, .int .i64 0, .bool false, .slice none 0 0]]
theorem witness_row (os : Os) {H : Type} (enc : TypeId × Value → H) :
    (OpenSpec.ofChange Rows.topPruneSpec).preRow enc Tryz.prog Tryz.f9 Rows.topPruneRow.domain false Rows.topPruneRow.laid ((laidWorld os).forCall (fun _ _ => 0) ⟨#[], wit, []⟩).memory wit :=
  OpenSpec.preRow_of_B rfl 8 (by kernel_rfl) (by kernel_rfl) (laid_met os _)
theorem lifted (os : Os) (started : os.Started) (H : Type) (enc : TypeId × Value → H) (F : Stop.Interp) :
    ReturnsInHanded {} Tryz.checked os 9 .any ((OpenSpec.ofChange Rows.topPruneSpec).preRow enc Tryz.prog Tryz.f9 Rows.topPruneRow.domain false Rows.topPruneRow.laid) (((OpenSpec.ofChange Rows.topPruneSpec).at F).post enc Tryz.prog Tryz.f9 false true false false) := by
  refine returnsInHanded_of_row (C := Tryz.checked) (s := OpenSpec.ofChange Rows.topPruneSpec) own started (by kernel_rfl) Tryz.func9
    (witness_row_at (enc := enc) (C := Tryz.checked) false (laidWorld os) wit rfl (by kernel_rfl) (by kernel_rfl) (by kernel_rfl) (witness_row os enc)) ?_
  intro W base args ds gs before hval0 hW _ _ _ hL _ _
  refine law_gate (s := Rows.topPruneSpec) (tb := 4) (by kernel_rfl) rfl (fun ds hd => ?_) (by kernel_rfl) (by kernel_rfl) Tryz.underlying4 hval0 hW law_holds (tabOk hL) reads
  rw [Tryz.params9] at hd
  match ds, hd with
  | [d0, d1], _ => exact ⟨rfl, rfl, rfl⟩
theorem over (facts : joinedFacts Tryz.checked.prog 9 Tryz.f9 (OpenSpec.ofChange Rows.topPruneSpec).bare Rows.topPruneRow = true) : Rows.topPruneRow.holds Tryz.pinned (OpenSpec.ofChange Rows.topPruneSpec) :=
  OpenClaim.holds_of_cond 9 Tryz.f9 rfl rfl rfl rfl rfl rfl rfl ⟨rfl, rfl, rfl, rfl, rfl⟩ rfl rfl rfl rfl rfl (by kernel_rfl) Tryz.func9 facts
    (of_decide_eq_true (by kernel_rfl)) (by unfold Func.isWrapper; first | (rw [if_pos (by decide +kernel)]; kernel_rfl) | (rw [if_neg (by decide +kernel)]; exact ⟨rfl, rfl⟩))
    (fun os started H enc _ F => by rw [OpenClaim.pre_eq_preRow]; exact lifted os started H enc F)
theorem card (over : Rows.topPruneRow.holds Tryz.pinned (OpenSpec.ofChange Rows.topPruneSpec)) : Rows.TopPruneCardSaid :=
  Claim7.holds_tied_plain_at .later [] [.data, .data, .data, .data, .sentinel, .sentinel, .pinned] true (true, "b7ba5c20151085d698620802d94521bb17f2ea5c90e586bb8f0a9186fd9b850b") true
    over (fun _ h => by cases h) (by kernel_rfl) (fun _ h => by cases h) topPrune_row_tie rfl ⟨rfl, rfl⟩ (by kernel_rfl) rfl
    (fun f fn hf hfn => by
      obtain rfl : f = 9 := Option.some.inj ((show Tryz.prog.funcNamed "copse/copsetop.TopPrune" = some 9 by kernel_rfl).symm.trans hf) |>.symm
      obtain rfl : fn = Tryz.f9 := (Option.some.inj (Tryz.func9.symm.trans hfn)).symm
      exact ⟨by kernel_rfl, fun j t ht => by
        rw [Tryz.params9] at ht
        rcases j with _ | _ | j
        all_goals (simp at ht; try (subst ht; kernel_rfl))⟩)
    (by kernel_rfl)
theorem proved : Rows.TopPruneCardSaid := card (over topPruneFacts.joined)
#print axioms proved
end Go.Proofs.YtlbfmeijjgphfaaGreatDoor.topPrune
