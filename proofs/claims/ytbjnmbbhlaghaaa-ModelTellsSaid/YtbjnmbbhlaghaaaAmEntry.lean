/- AM: what a statement's reading of an argument says: a pure value of the type's shape. -/
import Derived.Test.YtbjnmbbhlaghaaaAmGate
namespace Go.Am
set_option linter.unusedVariables false
set_option linter.unusedSimpArgs false
open Go.RowKit Go.ChangeShapes

/-- the shape of a cell -/
inductive Shp where
  | int (k : IntKind)
  | bool
  | sl (row : List Shp)

mutual
def okS : Shp → AV → Prop
  | .int k, .int k' n => k' = k ∧ k.min ≤ n ∧ n ≤ k.max
  | .bool, .bool _ => True
  | .sl row, .lst n xs => n ≤ maxLen ∧ xs.length = n * row.length ∧ ∀ i, i < n → okR row ((xs.drop (i * row.length)).take row.length)
  | _, _ => False
def okR : List Shp → List AV → Prop
  | [], [] => True
  | s :: ss, x :: xs => okS s x ∧ okR ss xs
  | _, _ => False
end

def shpF (P : Program) (g : TypeId → Option (List Shp)) : Nat → List Field → Option (List Shp)
  | _, [] => some []
  | n, f :: fs => match g f.type with
    | some ks => if f.offset = n ∧ P.cellsOf f.type = ks.length then (match shpF P g (n + ks.length) fs with | some r => some (ks ++ r) | none => none) else none
    | none => none

def shp (P : Program) : Nat → TypeId → Option (List Shp)
  | 0, _ => none
  | d + 1, t => match P.underlying t with
    | some .bool => some [.bool]
    | some (.int k) => some [.int k]
    | some (.slice e) => match shp P d e with
      | some r => if P.cellsOf e = r.length ∧ 0 < r.length then some [.sl r] else none
      | none => none
    | some (.struct fs) => match shpF P (shp P d) 0 fs.toList with
      | some r => if P.cellsOf t = r.length then some r else none
      | none => none
    | some (.array n e) => match shp P d e with
      | some r => if P.cellsOf e = r.length ∧ P.cellsOf t = n * r.length then some (List.replicate n r).flatten else none
      | none => none
    | _ => none

theorem okR_append : ∀ {a b : List Shp} {xs ys : List AV}, okR a xs → okR b ys → okR (a ++ b) (xs ++ ys)
  | [], b, [], ys, _, h => h
  | [], b, _ :: _, ys, h, _ => by simp [okR] at h
  | _ :: _, b, [], ys, h, _ => by simp [okR] at h
  | s :: a, b, x :: xs, ys, h, h' => by
    simp only [okR, List.cons_append] at h ⊢
    exact ⟨h.1, okR_append h.2 h'⟩

theorem okR_length : ∀ {a : List Shp} {xs : List AV}, okR a xs → xs.length = a.length
  | [], [], _ => rfl
  | [], _ :: _, h => by simp [okR] at h
  | _ :: _, [], h => by simp [okR] at h
  | s :: a, x :: xs, h => by
    simp only [okR] at h
    simp [okR_length h.2]

theorem mapM_some {α β : Type} {f : α → Option β} : ∀ {l : List α} {r : List β}, l.mapM f = some r → l.length = r.length ∧ ∀ (i : Nat) (a : α), l[i]? = some a → ∃ b, r[i]? = some b ∧ f a = some b
  | [], r, h => by
    simp at h; subst h
    exact ⟨rfl, fun i a h => by simp at h⟩
  | x :: l, r, h => by
    simp only [List.mapM_cons] at h
    cases hx : f x with
    | none => simp [hx] at h
    | some y =>
      cases hl : l.mapM f with
      | none => simp [hx, hl] at h
      | some ys =>
        simp [hx, hl] at h
        subst h
        obtain ⟨h1, h2⟩ := mapM_some hl
        refine ⟨by simp [h1], fun i a ha => ?_⟩
        cases i with
        | zero => simp at ha; subst ha; exact ⟨y, rfl, hx⟩
        | succ i => simpa using h2 i a (by simpa using ha)

section
variable {H : Type} {enc : TypeId × Value → H} {P : Program} {w : World} {sp : Nat → Bool} {held : Bool}

/-- so many rows of one length, one behind the other -/
theorem rows {ss : List Shp} {I : Nat → Prop} : ∀ (n : Nat) (cs : List Value), cs.length = n * ss.length → (∀ i, i < n → ∃ xs, okR ss xs ∧ VRs I w none xs ((cs.drop (i * ss.length)).take ss.length)) →
    ∃ xs : List AV, xs.length = n * ss.length ∧ (∀ i, i < n → okR ss ((xs.drop (i * ss.length)).take ss.length)) ∧ VRs I w none xs cs
  | 0, cs, hl, h => by
    have : cs = [] := by simpa using hl
    subst this
    exact ⟨[], by simp, fun i hi => by omega, by simp [VRs]⟩
  | n + 1, cs, hl, h => by
    rw [Nat.succ_mul] at hl
    obtain ⟨x0, hk0, hv0⟩ := h 0 (by omega)
    have hx0 := okR_length hk0
    obtain ⟨xs, hxl, hxk, hxv⟩ := rows (ss := ss) (I := I) n (cs.drop ss.length) (by simp; omega) (fun i hi => by
      obtain ⟨y, hy, hyv⟩ := h (i + 1) (by omega)
      refine ⟨y, hy, ?_⟩
      rw [List.drop_drop]
      rw [Nat.succ_mul, Nat.add_comm] at hyv
      exact hyv)
    refine ⟨x0 ++ xs, by simp [hx0, hxl, Nat.succ_mul]; omega, fun i hi => ?_, ?_⟩
    · cases i with
      | zero =>
        simp only [Nat.zero_mul, List.drop_zero]
        rw [List.take_append_of_le_length (by omega), List.take_of_length_le (by omega)]
        exact hk0
      | succ i =>
        have := hxk i (by omega)
        have hd : (x0 ++ xs).drop ((i + 1) * ss.length) = xs.drop (i * ss.length) := by
          rw [Nat.succ_mul, Nat.add_comm, ← List.drop_drop, ← hx0, List.drop_left]
        rw [hd]
        exact this
    · have : cs = cs.take ss.length ++ cs.drop ss.length := (List.take_append_drop _ _).symm
      rw [this]
      simp only [Nat.zero_mul, List.drop_zero] at hv0
      exact hv0.append hxv

theorem okR_rep {ss : List Shp} : ∀ (n : Nat) (xs : List AV), xs.length = n * ss.length → (∀ i, i < n → okR ss ((xs.drop (i * ss.length)).take ss.length)) → okR (List.replicate n ss).flatten xs
  | 0, xs, hl, _ => by
    have : xs = [] := by simpa using hl
    subst this
    simp [okR]
  | n + 1, xs, hl, h => by
    rw [Nat.succ_mul] at hl
    rw [List.replicate_succ, List.flatten_cons]
    have : xs = xs.take ss.length ++ xs.drop ss.length := (List.take_append_drop _ _).symm
    rw [this]
    refine okR_append (by simpa using h 0 (by omega)) (okR_rep n _ (by simp; omega) fun i hi => ?_)
    have := h (i + 1) (by omega)
    rw [Nat.succ_mul, Nat.add_comm] at this
    rw [List.drop_drop]
    exact this

theorem cell_lt {a : Addr} {v : Value} (h : w.cell? a = some v) : a.block < w.heap.size ∧ a.spot = none := by
  unfold World.cell? at h
  split at h
  · rename_i c _ _ hc
    refine ⟨(Array.getElem?_eq_some_iff.1 hc).1, ?_⟩
    split at h
    · cases h
    · rename_i hs; simpa using hs
  · cases h

theorem trod_cells : ∀ (fuel : Nat) (t : TypeId) (cs : List Value) (d : DataW H) (ps : List MemPlace) (dep : Nat) (ss : List Shp), shp P dep t = some ss → DataW.trod enc P w 0 sp held fuel t cs = some (d, ps) →
    ∃ xs, okR ss xs ∧ VRs (fun b => b < w.heap.size) w none xs cs
  | 0, t, cs, d, ps, dep, ss, _, h => by simp [DataW.trod] at h
  | fuel + 1, t, cs, d, ps, 0, ss, hs, h => by simp [shp] at hs
  | fuel + 1, t, cs, d, ps, dep + 1, ss, hs, h => by
    unfold shp at hs
    unfold DataW.trod at h
    split at hs
    · -- bool
      rename_i hu
      cases hs
      rw [hu] at h
      split at h <;> try (first | (cases h; done) | (simp_all; done))
      rename_i b _
      exact ⟨[.bool b], by simp [okR, okS], by simp [VRs, VR]⟩
    · rename_i k hu
      cases hs
      rw [hu] at h
      split at h <;> try (first | (cases h; done) | (simp_all; done))
      rename_i k1 k2 n e
      cases e
      split at h
      · rename_i hk
        obtain ⟨rfl, hw⟩ := hk
        simp only [Lit.wf, Bool.and_eq_true, decide_eq_true_eq] at hw
        exact ⟨[.int k2 n], by simp [okR, okS, hw], by simp [VRs, VR]⟩
      · cases h
    · rename_i e hu
      split at hs
      · rename_i r hr
        split at hs
        · rename_i hsz
          cases hs
          rw [hu] at h
          split at h <;> try (first | (cases h; done) | (simp_all; done))
          · exact ⟨[.lst 0 []], by simp [okR, okS], by simp [VRs, VR]⟩
          · rename_i e1 a len cap he
            cases he
            simp only [] at h
            split at h
            · rename_i hc
              cases hel : (List.range len).mapM (fun i => (w.cells? 0 (a.add (i * P.cellsOf e)) (P.cellsOf e)).bind (DataW.trod enc P w 0 sp held fuel e)) with
              | none => rw [hel] at h; cases h
              | some elems =>
                obtain ⟨h1, h2⟩ := mapM_some hel
                rw [hsz.1] at h2
                by_cases hl0 : len = 0
                · subst hl0
                  exact ⟨[.lst 0 []], by simp [okR, okS], by simp [VRs, VR]⟩
                · have hcell : ∀ i, i < len → ∃ us, w.cells? 0 (a.add (i * r.length)) r.length = some us ∧ ∃ x, DataW.trod enc P w 0 sp held fuel e us = some x := by
                    intro i hi
                    obtain ⟨x, _, hx⟩ := h2 i i (by simp [hi])
                    rw [Option.bind_eq_some_iff] at hx
                    obtain ⟨us, hus, hx⟩ := hx
                    exact ⟨us, hus, x, hx⟩
                  have hcs : ∀ i us, w.cells? 0 (a.add (i * r.length)) r.length = some us → us.length = r.length ∧ ∀ j v, us[j]? = some v → w.cell? ((a.add (i * r.length)).add j) = some v := by
                    intro i us hus
                    unfold World.cells? at hus
                    rw [if_pos (Nat.zero_le _)] at hus
                    obtain ⟨g1, g2⟩ := mapM_some hus
                    refine ⟨by simpa using g1.symm, fun j v hv => ?_⟩
                    have hj : j < r.length := by
                      have := (List.getElem?_eq_some_iff.1 hv).1
                      simp at g1; omega
                    obtain ⟨b, hb, hb2⟩ := g2 j j (by simp [hj])
                    rw [hv] at hb; cases hb
                    exact hb2
                  obtain ⟨u0, hu0, _⟩ := hcell 0 (by omega)
                  have h00 := (hcs 0 u0 hu0)
                  have hlt0 : 0 < u0.length := by omega
                  have hc0 := h00.2 0 u0[0] (List.getElem?_eq_getElem hlt0)
                  simp only [Nat.zero_mul, Addr.add, if_true] at hc0
                  obtain ⟨hblk, hspot⟩ := cell_lt hc0
                  have hadd : ∀ n, a.add n = ⟨a.block, a.off + n, none⟩ := by
                    intro n
                    unfold Addr.add
                    split
                    · rename_i hn; subst hn; cases a; simp at hspot; subst hspot; rfl
                    · rfl
                  -- the whole row
                  have key : ∀ n, n ≤ len → ∃ us : List Value, us.length = n * r.length ∧ rowAt w a.block a.off us ∧ ∀ i, i < n → ∃ x, DataW.trod enc P w 0 sp held fuel e ((us.drop (i * r.length)).take r.length) = some x := by
                    intro n
                    induction n with
                    | zero => exact fun _ => ⟨[], by simp, fun i v hv => by simp at hv, fun i hi => by omega⟩
                    | succ n ih =>
                      intro hn
                      obtain ⟨us, g1, g2, g3⟩ := ih (by omega)
                      obtain ⟨vs, hvs, x, hx⟩ := hcell n (by omega)
                      obtain ⟨q1, q2⟩ := hcs n vs hvs
                      refine ⟨us ++ vs, by simp [g1, q1, Nat.succ_mul], fun i v hv => ?_, fun i hi => ?_⟩
                      · rw [List.getElem?_append] at hv
                        split at hv
                        · exact g2 i v hv
                        · rename_i hge
                          have := q2 _ v hv
                          rw [hadd, Addr_add] at this
                          rw [← this]
                          congr 2
                          omega
                      · by_cases hin : i = n
                        · subst hin
                          refine ⟨x, ?_⟩
                          rw [List.drop_append_of_le_length (by omega), List.drop_of_length_le (by omega), List.nil_append, List.take_of_length_le (by omega)]
                          exact hx
                        · obtain ⟨y, hy⟩ := g3 i (by omega)
                          refine ⟨y, ?_⟩
                          have hle : (i + 1) * r.length ≤ n * r.length := Nat.mul_le_mul_right _ (by omega)
                          rw [Nat.succ_mul] at hle
                          rw [List.drop_append_of_le_length (by omega), List.take_append_of_le_length (by simp; omega)]
                          exact hy
                  obtain ⟨us, g1, g2, g3⟩ := key len (Nat.le_refl _)
                  obtain ⟨xs, x1, x2, x3⟩ := rows (w := w) (ss := r) len us g1 (fun i hi => by
                    obtain ⟨⟨d', ps'⟩, hx⟩ := g3 i hi
                    exact trod_cells fuel e _ d' ps' dep r hr hx)
                  refine ⟨[.lst len xs], ?_, ?_⟩
                  · simp only [okR, okS, and_true]
                    exact ⟨by omega, x1, x2⟩
                  · simp only [VRs, VR, and_true]
                    refine .inr ⟨a.block, a.off, cap, us, ?_, hc.2.1, hc.2.2, hblk, g2, x3⟩
                    cases a; simp at hspot; subst hspot; rfl
            · cases h
        · cases hs
      · cases hs
    · rename_i fs hu
      split at hs
      · rename_i r hr
        split at hs
        · rename_i hsz
          cases hs
          rw [hu] at h
          split at h <;> try (first | (cases h; done) | (simp_all; done))
          rename_i fs1 hq
          cases hq
          rename_i cs x1 cs2
          split at h
          · rename_i hcl
            cases hel : fs.toList.mapM (fun f => DataW.trod enc P w 0 sp held fuel f.type ((cs.drop f.offset).take (P.cellsOf f.type))) with
            | none => rw [hel] at h; cases h
            | some elems =>
              obtain ⟨h1, h2⟩ := mapM_some hel
              have key : ∀ (l : List Field) (n : Nat) (q : List Shp), shpF P (shp P dep) n l = some q → (∀ f ∈ l, ∃ x, DataW.trod enc P w 0 sp held fuel f.type ((cs.drop f.offset).take (P.cellsOf f.type)) = some x) → (cs.drop n).length = q.length →
                  ∃ xs, okR q xs ∧ VRs (fun b => b < w.heap.size) w none xs (cs.drop n) := by
                intro l
                induction l with
                | nil =>
                  intro n q hq _ hlen
                  simp only [shpF, Option.some.injEq] at hq
                  subst hq
                  have : cs.drop n = [] := List.length_eq_zero_iff.1 (by simpa using hlen)
                  rw [this]
                  exact ⟨[], by simp [okR], by simp [VRs]⟩
                | cons f l ih =>
                  intro n q hq hall hlen
                  unfold shpF at hq
                  split at hq
                  · rename_i ks hks
                    split at hq
                    · rename_i hoff
                      split at hq
                      · rename_i q' hq'
                        cases hq
                        obtain ⟨⟨d', ps'⟩, hx⟩ := hall f (by simp)
                        rw [hoff.1, hoff.2] at hx
                        obtain ⟨xs, k1, k2⟩ := trod_cells fuel f.type _ d' ps' dep ks hks hx
                        obtain ⟨ys, k3, k4⟩ := ih _ _ hq' (fun f hf => hall f (by simp [hf])) (by simp at hlen ⊢; omega)
                        refine ⟨xs ++ ys, okR_append k1 k3, ?_⟩
                        have : cs.drop n = (cs.drop n).take ks.length ++ cs.drop (n + ks.length) := by
                          rw [← List.drop_drop]; exact (List.take_append_drop _ _).symm
                        rw [this]
                        exact k2.append k4
                      · cases hq
                    · cases hq
                  · cases hq
              have := key fs.toList 0 ss hr (fun f hf => by
                obtain ⟨i, hi⟩ := List.getElem?_of_mem hf
                obtain ⟨b, _, hb⟩ := h2 i f hi
                exact ⟨b, hb⟩) (by simp; omega)
              simpa using this
          · cases h
        · cases hs
      · cases hs
    · rename_i n e hu
      split at hs
      · rename_i r hr
        split at hs
        · rename_i hsz
          cases hs
          rw [hu] at h
          split at h <;> try (first | (cases h; done) | (simp_all; done))
          rename_i n1 e1 hq
          cases hq
          rename_i cs x1 cs2
          split at h
          · rename_i hcl
            cases hel : (List.range n).mapM (fun i => DataW.trod enc P w 0 sp held fuel e ((cs.drop (i * P.cellsOf e)).take (P.cellsOf e))) with
            | none => rw [hel] at h; cases h
            | some elems =>
              obtain ⟨h1, h2⟩ := mapM_some hel
              obtain ⟨xs, x1, x2, x3⟩ := rows (w := w) (I := fun b => b < w.heap.size) (ss := r) n cs (by omega) (fun i hi => by
                obtain ⟨⟨d', ps'⟩, _, hx⟩ := h2 i i (by simp [hi])
                rw [hsz.1] at hx
                exact trod_cells fuel e _ d' ps' dep r hr hx)
              exact ⟨xs, okR_rep n xs x1 x2, x3⟩
          · cases h
        · cases hs
      · cases hs
    · cases hs
end
end Go.Am
