/- AM: one operation of the model's, beside one of AM's: the check, and that it is sound. -/
import Derived.Test.YtbjnmbbhlaghaaaAmStep
import Derived.Laws.AppendOwn
import Derived.Laws.Cells
import Derived.Laws.CopyRow
import Derived.Maps.AppendAt
namespace Go.Am
set_option linter.unusedSimpArgs false
set_option linter.unusedVariables false
open Go.RowKit

/-! ### the check -/
def isFn (f : Nat) : Value → Bool
  | .func (.func f') a c => decide (f = f') && (a.isEmpty && c.isEmpty)
  | _ => false
def isNilS : Value → Bool
  | .slice none 0 0 => true
  | _ => false
theorem isFn_eq {f : Nat} {v : Value} (h : isFn f v = true) : v = .func (.func f) #[] #[] := by
  unfold isFn at h
  split at h
  · simp at h
    obtain ⟨rfl, rfl, rfl⟩ := h
    rfl
  · cases h
theorem isNilS_eq {v : Value} (h : isNilS v = true) : v = .slice none 0 0 := by
  unfold isNilS at h
  split at h
  · rfl
  · cases h
mutual
def cval : AV → Value → Bool
  | .int k n, .int k' n' => decide (k = k') && decide (n = n')
  | .bool b, .bool b' => b == b'
  | .str s, .string t => decide (t.data.toList = s) && decide (t.size ≤ maxLen)
  | .clo f [], v => isFn f v
  | .agg xs, .agg cs => cvals xs cs.toList
  | .nils, v => isNilS v
  | .junk, _ => true
  | _, _ => false
def cvals : List AV → List Value → Bool
  | [], [] => true
  | x :: xs, v :: vs => cval x v && cvals xs vs
  | _, _ => false
end

def mOpd : Operand → AOpd → Bool
  | .tmp t, .t n => decide (t = n)
  | .const v, .c x => cval x v
  | .func f, .c (.clo g []) => decide (f = g)
  | _, _ => false

def mOpds : List Operand → List AOpd → Bool
  | [], [] => true
  | x :: xs, y :: ys => mOpd x y && mOpds xs ys
  | _, _ => false

def mOpdO : Option Operand → Option AOpd → Bool
  | some x, some y => mOpd x y
  | none, none => true
  | _, _ => false

/-- the size of a type, and whether its values are rows of cells -/
def tInfo (P : Program) (t : TypeId) : Option (Nat × Bool) :=
  match P.info? t, P.underlying t with
  | some i, some (.struct _) | some i, some (.array _ _) => some (i.size, true)
  | some i, some _ => some (i.size, false)
  | _, _ => none

def tIs (P : Program) (t : TypeId) (n : Nat) (agg : Bool) : Bool :=
  match tInfo P t with
  | some (m, b) => decide (m = n) && (b == agg) && (agg || decide (n = 1))
  | none => false

def tZero (P : Program) (t : TypeId) (z : List AV) : Bool :=
  match P.info? t with
  | some i => match i.zero with
    | some v => cvals z v.cells.toList
    | none => false
  | none => false

/-- the element type of a slice type, its size, its zero cells, few enough bytes -/
def tSlice (P : Program) (t : TypeId) (sz : Nat) : Bool :=
  match P.underlying t with
  | some (.slice e) => match P.info? e with
    | some i => match i.zero with
      | some v => decide (i.size = sz) && decide (0 < sz) && decide (v.cells.size = sz) && decide (i.bytes ≤ 128) && decide (sz ≠ mapTag)
      | none => false
    | none => false
  | _ => false

def tSliceZ (P : Program) (t : TypeId) (z : List AV) : Bool :=
  match P.underlying t with
  | some (.slice e) => tZero P e z
  | _ => false

def tInt (P : Program) (t : TypeId) (k : IntKind) : Bool :=
  match P.underlying t with
  | some (.int k') => decide (k = k')
  | _ => false

def mParts (place : Nat → Option (Nat × Nat)) : List (Nat × Operand) → List (Nat × Nat × AOpd) → Bool
  | [], [] => true
  | (i, x) :: ps, (off, n, y) :: qs => decide (place i = some (off, n)) && mOpd x y && mParts place ps qs
  | _, _ => false

def placesOf (P : Program) (fs : List Field) : Option (List (Nat × Nat)) := fs.mapM fun f => (P.info? f.type).map fun i => (f.offset, i.size)

/-- the fields of a struct, from an offset on, by the kinds of their types' cells -/
def flatF (P : Program) (g : TypeId → Option (List Bool)) : Nat → List Field → Option (List Bool)
  | _, [] => some []
  | n, f :: fs => if f.name = "_" then none else
      match g f.type with
      | some ks => if f.offset = n ∧ (P.info? f.type).map (·.size) = some ks.length then (match flatF P g (n + ks.length) fs with | some r => some (ks ++ r) | none => none) else none
      | none => none

/-- a type whose values are rows of numbers (false) and bools (true) alone: its cells -/
def flatT (P : Program) : Nat → TypeId → Option (List Bool)
  | 0, _ => none
  | d + 1, t => match P.underlying t with
    | some .bool => some [true]
    | some (.int _) => some [false]
    | some (.struct fs) => if P.stoodInHeld t then none else flatF P (flatT P d) 0 fs.toList
    | some (.array n e) => match flatT P d e with
      | some ks => if (P.info? e).map (·.size) = some ks.length ∧ ks.length ≠ 0 then some (List.replicate n ks).flatten else none
      | none => none
    | _ => none

/-! ### operands -/
section
variable {P : Program} {w0 : Base} {I0 : Nat → Prop} {N : Nat} {I : Nat → Prop} {ρ : Nat → Place} {s : St} {a : Act} {w : World} {M : Option Mode}

mutual
theorem cval_VR : ∀ (x : AV) (v : Value), cval x v = true → VR I w M x v
  | .int k n, v, h => by
    cases v <;> simp [cval] at h
    simp [VR, h.1, h.2]
  | .bool b, v, h => by
    cases v <;> simp [cval] at h
    simp [VR, h]
  | .str b, v, h => by
    cases v <;> simp [cval] at h
    simp only [VR]
    exact ⟨_, rfl, h.1, h.2⟩
  | .clo f cs, v, h => by
    cases cs with
    | cons c cs => simp [cval] at h
    | nil =>
      simp only [cval] at h
      simp only [VR]
      exact ⟨[], isFn_eq h, by simp [VRs]⟩
  | .agg xs, v, h => by
    cases v <;> simp [cval] at h
    rename_i cs
    simp only [VR]
    exact ⟨cs.toList, by simp, cvals_VRs xs _ h⟩
  | .nils, v, h => by
    simp only [cval] at h
    simp only [VR]
    exact isNilS_eq h
  | .junk, v, h => by simp [VR]
  | .lst _ _, v, h => by cases v <;> simp [cval] at h
  | .tup _, v, h => by cases v <;> simp [cval] at h
  | .ipt _ _, v, h => by cases v <;> simp [cval] at h
  | .ptr _ _ _, v, h => by cases v <;> simp [cval] at h
  | .own _ _ _ _, v, h => by cases v <;> simp [cval] at h
theorem cvals_VRs : ∀ (xs : List AV) (vs : List Value), cvals xs vs = true → VRs I w M xs vs
  | [], [], _ => by simp [VRs]
  | [], _ :: _, h => by simp [cvals] at h
  | _ :: _, [], h => by simp [cvals] at h
  | x :: xs, v :: vs, h => by
    simp [cvals] at h
    simp only [VRs]
    exact ⟨cval_VR x v h.1, cvals_VRs xs vs h.2⟩
end

theorem R.opd (h : R w0 I0 N I ρ s a w) {y : Operand} {x : AOpd} (hm : mOpd y x = true) : VR I w (modeOf s ρ) (opv s x) (a.eval y) := by
  cases y <;> cases x <;> simp only [mOpd, Bool.false_eq_true] at hm
  · simp at hm; subst hm
    exact h.tm _
  · exact cval_VR _ _ hm
  · rename_i f x
    cases x <;> try (simp at hm; done)
    rename_i g cs
    cases cs <;> simp at hm
    subst hm
    simp only [opv, VR, Act.eval]
    exact ⟨[], rfl, by simp [VRs]⟩

theorem R.opds (h : R w0 I0 N I ρ s a w) : ∀ {ys : List Operand} {xs : List AOpd}, mOpds ys xs = true → VRs I w (modeOf s ρ) (xs.map (opv s)) (ys.map a.eval)
  | [], [], _ => by simp [VRs]
  | [], _ :: _, hm => by simp [mOpds] at hm
  | _ :: _, [], hm => by simp [mOpds] at hm
  | y :: ys, x :: xs, hm => by
    simp [mOpds] at hm
    simp only [List.map_cons, VRs]
    exact ⟨h.opd hm.1, R.opds h hm.2⟩

/-! ### shapes -/
theorem VR_int {k : IntKind} {n : Int} {v : Value} (h : VR I w M (.int k n) v) : v = .int k n := by simpa [VR] using h
theorem VR_bool {b : Bool} {v : Value} (h : VR I w M (.bool b) v) : v = .bool b := by simpa [VR] using h
theorem VR_agg {xs : List AV} {v : Value} (h : VR I w M (.agg xs) v) : ∃ cs : List Value, v = .agg cs.toArray ∧ VRs I w M xs cs := by simpa [VR] using h
theorem VR_tup {xs : List AV} {v : Value} (h : VR I w M (.tup xs) v) : ∃ cs : List Value, v = .tuple cs.toArray ∧ VRs I w M xs cs := by simpa [VR] using h

theorem R.live (h : R w0 I0 N I ρ s a w) {fp : List Nat} {b g : Nat} {k : Blk} (hb : liveAt s fp b g = some k) :
    s.g b = g ∧ hlook s.h b = some k ∧ aliveA s ρ b g = some (ρ b, k.esz) ∧ BlkOk w0 I w (modeOf s ρ) (ρ b) k := by
  unfold liveAt at hb
  split at hb
  · split at hb
    · rename_i hg
      refine ⟨hg, hb, ?_, h.hp b k hb⟩
      simp [aliveA, hg, hb]
    · cases hb
  · cases hb
theorem blkAt_live {fp : List Nat} {b g : Nat} {k : Blk} (hb : blkAt s fp b g = some k) : liveAt s fp b g = some k ∧ k.esz ≠ mapTag := by
  unfold blkAt at hb
  split at hb
  · split at hb
    · cases hb
    · rename_i hl he
      cases hb
      exact ⟨hl, he⟩
  · cases hb
theorem mapAt_live {fp : List Nat} {b g : Nat} {k : Blk} (hb : mapAt s fp b g = some k) : liveAt s fp b g = some k ∧ k.esz = mapTag := by
  unfold mapAt at hb
  split at hb
  · split at hb
    · rename_i hl he
      cases hb
      exact ⟨hl, he⟩
    · cases hb
  · cases hb
/-- a living map -/
theorem R.mapped (h : R w0 I0 N I ρ s a w) {fp : List Nat} {b g : Nat} {k : Blk} {v : Value} (hb : mapAt s fp b g = some k) (hv : VR I w (modeOf s ρ) (.mp b g) v) :
    ∃ r σ es, ρ b = some (r, σ) ∧ v = .map (some r) ∧ hlook s.h b = some k ∧ k.esz = mapTag ∧ w.heap[r]? = some (.map es es.size) ∧ mEnt k.cs 0 es.toList := by
  obtain ⟨hl, he⟩ := mapAt_live hb
  obtain ⟨h1, h2, h3, h4⟩ := h.live hl
  simp only [VR, modeOf] at hv
  obtain ⟨r, σ, h5, h6⟩ := hv.2.2 _ h3
  unfold BlkOk at h4
  rw [if_pos he] at h4
  simp only at h5
  rw [h5] at h4
  obtain ⟨_, _, _, es, h7, h8⟩ := h4
  exact ⟨r, σ, es, h5, h6, h2, he, h7, h8⟩
/-- a living block -/
theorem R.blk (h : R w0 I0 N I ρ s a w) {fp : List Nat} {b g : Nat} {k : Blk} (hb : blkAt s fp b g = some k) :
    s.g b = g ∧ hlook s.h b = some k ∧ aliveA s ρ b g = some (ρ b, k.esz) ∧ BlkC w0 I w (modeOf s ρ) (ρ b) k := by
  obtain ⟨hl, he⟩ := blkAt_live hb
  obtain ⟨h1, h2, h3, h4⟩ := h.live hl
  unfold BlkOk at h4
  rw [if_neg he] at h4
  exact ⟨h1, h2, h3, h4⟩

theorem R.ptr (h : R w0 I0 N I ρ s a w) {fp : List Nat} {b g o : Nat} {k : Blk} {v : Value} (hb : blkAt s fp b g = some k) (hv : VR I w (modeOf s ρ) (.ptr b g o) v) :
    ∃ r σ, ρ b = some (r, σ) ∧ v = .pointer (some ⟨r, o, none⟩) := by
  obtain ⟨_, _, h3, _⟩ := h.blk hb
  simp only [VR, modeOf] at hv
  obtain ⟨r, σ, h4, h5⟩ := hv.2.2 _ h3
  exact ⟨r, σ, h4, h5⟩

theorem VRs_oneCell {xs : List AV} {vs : List Value} (h : VRs I w M xs vs) (hc : xs.all AV.isCell = true) : ∀ v ∈ vs, v.oneCell' = true := by
  intro v hv
  obtain ⟨i, hi, rfl⟩ := List.mem_iff_getElem.1 hv
  have hlen := h.length
  obtain ⟨u, hu, hr⟩ := h.get i xs[i] (by simp [hlen ▸ hi])
  rw [List.getElem?_eq_getElem hi] at hu
  cases hu
  have hx : (xs[i]'(by omega)).isCell = true := by
    rw [List.all_eq_true] at hc
    exact hc _ (List.getElem_mem _)
  generalize vs[i] = u at hr
  generalize (xs[i]'(by omega)) = x at hr hx
  cases x <;> simp [AV.isCell] at hx <;> simp only [VR] at hr
  · subst hr; rfl
  · subst hr; rfl
  · obtain ⟨t, rfl, _⟩ := hr; rfl
  · rcases hr with ⟨_, _, p, c, rfl⟩ | ⟨b, off, cap, cs, rfl, _⟩ <;> rfl
  · obtain ⟨cs, rfl, _⟩ := hr; rfl
  · obtain ⟨b, off, cs, rfl, _⟩ := hr; rfl
  · cases M with
    | none => exact hr.elim
    | some m => obtain ⟨⟨p, rfl⟩, _⟩ := hr; rfl
  · cases M with
    | none => exact hr.elim
    | some m => obtain ⟨⟨p, l, c, rfl⟩, _⟩ := hr; rfl
  · subst hr; rfl

end
end Go.Am
