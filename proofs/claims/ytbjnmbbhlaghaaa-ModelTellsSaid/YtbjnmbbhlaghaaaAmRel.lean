/- AM: what an abstract value says of one of the model's, and an abstract state of a frame and a world. -/
import Derived.Test.YtbjnmbbhlaghaaaAmDefs
import Derived.Below
import Derived.Carry
import Derived.Orders
namespace Go.Am
open Go.RowKit

/-- cells from a place on -/
def rowAt (w : World) (b off : Nat) (cs : List Value) : Prop := ∀ i v, cs[i]? = some v → w.cell? ⟨b, off + i, none⟩ = some v

/-- where the activation's own blocks lie: the real block and its size; none: no memory yet -/
abbrev Place := Option (Nat × Nat)

structure Mode where
  G : Nat → Nat
  A : Nat → Nat → Option (Place × Nat)

mutual
def VR (I : Nat → Prop) (w : World) (M : Option Mode) : AV → Value → Prop
  | .junk, _ => True
  | .int k n, v => v = .int k n
  | .bool b, v => v = .bool b
  | .str s, v => ∃ t : ByteArray, v = .string t ∧ t.data.toList = s ∧ t.size ≤ maxLen
  | .lst n xs, v => (n = 0 ∧ xs = [] ∧ ∃ a c, v = .slice a 0 c) ∨
      ∃ b off cap cs, v = .slice (some ⟨b, off, none⟩) n cap ∧ n ≤ cap ∧ cap ≤ maxLen ∧ I b ∧ rowAt w b off cs ∧ VRs I w none xs cs
  | .agg xs, v => ∃ cs : List Value, v = .agg cs.toArray ∧ VRs I w M xs cs
  | .tup xs, v => ∃ cs : List Value, v = .tuple cs.toArray ∧ VRs I w M xs cs
  | .clo f caps, v => ∃ cs : List Value, v = .func (.func f) #[] cs.toArray ∧ VRs I w none caps cs
  | .ipt o xs, v => ∃ b off cs, v = .pointer (some ⟨b, off + o, none⟩) ∧ I b ∧ rowAt w b off cs ∧ VRs I w none xs cs
  | .ptr b g o, v => match M with
      | none => False
      | some m => (∃ p, v = .pointer p) ∧ g ≤ m.G b ∧ ∀ L, m.A b g = some L → ∃ r σ, L.1 = some (r, σ) ∧ v = .pointer (some ⟨r, o, none⟩)
  | .own b g o n, v => match M with
      | none => False
      | some m => (∃ p l c, v = .slice p l c) ∧ g ≤ m.G b ∧ ∀ L, m.A b g = some L → match L.1 with
        | none => v = .slice none 0 0 ∧ n = 0 ∧ o = 0
        | some (r, σ) => ∃ a cap, v = .slice a n cap ∧ n ≤ cap ∧ cap ≤ maxLen ∧ ((n = 0 ∧ o ≠ 0) ∨ (a = some ⟨r, o, none⟩ ∧ (o = 0 → cap * L.2 = σ)))
  | .nils, v => v = .slice none 0 0
  | .und, v => v = undef
  | .mp b g, v => match M with
      | none => False
      | some m => (∃ p, v = .map p) ∧ g ≤ m.G b ∧ ∀ L, m.A b g = some L → ∃ r σ, L.1 = some (r, σ) ∧ v = .map (some r)
def VRs (I : Nat → Prop) (w : World) (M : Option Mode) : List AV → List Value → Prop
  | [], [] => True
  | x :: xs, v :: vs => VR I w M x v ∧ VRs I w M xs vs
  | _, _ => False
end

def Mode.le : Option Mode → Option Mode → Prop
  | none, _ => True
  | some m, some m' => (∀ b, m.G b ≤ m'.G b) ∧ ∀ b g L, g ≤ m.G b → m'.A b g = some L → m.A b g = some L
  | some _, none => False

theorem Mode.le_refl (M : Option Mode) : Mode.le M M := by
  cases M with
  | none => trivial
  | some m => exact ⟨fun _ => Nat.le_refl _, fun _ _ _ _ h => h⟩

section
variable {I I' : Nat → Prop} {w w' : World}

theorem rowAt.mono {b off : Nat} {cs : List Value} (hw : ∀ off, w'.cell? ⟨b, off, none⟩ = w.cell? ⟨b, off, none⟩) (h : rowAt w b off cs) : rowAt w' b off cs :=
  fun i v hv => (hw _).trans (h i v hv)

mutual
theorem VR.mono (hI : ∀ b, I b → I' b) (hw : ∀ b, I b → ∀ off, w'.cell? ⟨b, off, none⟩ = w.cell? ⟨b, off, none⟩) : ∀ (x : AV) (v : Value) {M M' : Option Mode}, Mode.le M M' → VR I w M x v → VR I' w' M' x v
  | .junk, _, _, _, _, _ => by simp [VR]
  | .int .., _, _, _, _, h => by simpa [VR] using h
  | .bool _, _, _, _, _, h => by simpa [VR] using h
  | .str _, _, _, _, _, h => by simpa [VR] using h
  | .lst n xs, v, M, M', hM, h => by
    simp only [VR] at h ⊢
    rcases h with h | ⟨b, off, cap, cs, h1, h2, h3, h4, h5, h6⟩
    · exact .inl h
    · exact .inr ⟨b, off, cap, cs, h1, h2, h3, hI b h4, h5.mono (hw b h4), VRs.mono hI hw xs cs (M := none) (M' := none) trivial h6⟩
  | .agg xs, v, M, M', hM, h => by
    simp only [VR] at h ⊢
    obtain ⟨cs, h1, h2⟩ := h
    exact ⟨cs, h1, VRs.mono hI hw xs cs hM h2⟩
  | .tup xs, v, M, M', hM, h => by
    simp only [VR] at h ⊢
    obtain ⟨cs, h1, h2⟩ := h
    exact ⟨cs, h1, VRs.mono hI hw xs cs hM h2⟩
  | .clo f xs, v, M, M', hM, h => by
    simp only [VR] at h ⊢
    obtain ⟨cs, h1, h2⟩ := h
    exact ⟨cs, h1, VRs.mono hI hw xs cs (M := none) (M' := none) trivial h2⟩
  | .ipt o xs, v, M, M', hM, h => by
    simp only [VR] at h ⊢
    obtain ⟨b, off, cs, h1, h2, h3, h4⟩ := h
    exact ⟨b, off, cs, h1, hI b h2, h3.mono (hw b h2), VRs.mono hI hw xs cs (M := none) (M' := none) trivial h4⟩
  | .ptr b g o, v, M, M', hM, h => by
    simp only [VR] at h ⊢
    cases M with
    | none => exact h.elim
    | some m =>
      cases M' with
      | none => exact hM.elim
      | some m' => exact ⟨h.1, Nat.le_trans h.2.1 (hM.1 b), fun L hL => h.2.2 L (hM.2 b g L h.2.1 hL)⟩
  | .own b g o n, v, M, M', hM, h => by
    simp only [VR] at h ⊢
    cases M with
    | none => exact h.elim
    | some m =>
      cases M' with
      | none => exact hM.elim
      | some m' => exact ⟨h.1, Nat.le_trans h.2.1 (hM.1 b), fun L hL => h.2.2 L (hM.2 b g L h.2.1 hL)⟩
  | .nils, _, _, _, _, h => by simpa [VR] using h
  | .und, _, _, _, _, h => by simpa [VR] using h
  | .mp b g, v, M, M', hM, h => by
    simp only [VR] at h ⊢
    cases M with
    | none => exact h.elim
    | some m =>
      cases M' with
      | none => exact hM.elim
      | some m' => exact ⟨h.1, Nat.le_trans h.2.1 (hM.1 b), fun L hL => h.2.2 L (hM.2 b g L h.2.1 hL)⟩
theorem VRs.mono (hI : ∀ b, I b → I' b) (hw : ∀ b, I b → ∀ off, w'.cell? ⟨b, off, none⟩ = w.cell? ⟨b, off, none⟩) : ∀ (xs : List AV) (vs : List Value) {M M' : Option Mode}, Mode.le M M' → VRs I w M xs vs → VRs I' w' M' xs vs
  | [], [], _, _, _, h => by simp [VRs]
  | [], _ :: _, _, _, _, h => by simp [VRs] at h
  | _ :: _, [], _, _, _, h => by simp [VRs] at h
  | x :: xs, v :: vs, M, M', hM, h => by
    simp only [VRs] at h ⊢
    exact ⟨VR.mono hI hw x v hM h.1, VRs.mono hI hw xs vs hM h.2⟩
end
end

section
variable {I : Nat → Prop} {w : World} {M : Option Mode}

theorem VRs.length : ∀ {xs : List AV} {vs : List Value}, VRs I w M xs vs → xs.length = vs.length
  | [], [], _ => rfl
  | [], _ :: _, h => by simp [VRs] at h
  | _ :: _, [], h => by simp [VRs] at h
  | _ :: xs, _ :: vs, h => by simp only [VRs] at h; simp [VRs.length h.2]

theorem VRs.get : ∀ {xs : List AV} {vs : List Value}, VRs I w M xs vs → ∀ (i : Nat) (x : AV), xs[i]? = some x → ∃ v, vs[i]? = some v ∧ VR I w M x v
  | [], [], _, i, x, hx => by simp at hx
  | [], _ :: _, h, _, _, _ => by simp [VRs] at h
  | _ :: _, [], h, _, _, _ => by simp [VRs] at h
  | y :: xs, u :: vs, h, i, x, hx => by
    simp only [VRs] at h
    cases i with
    | zero => simp at hx; subst hx; exact ⟨u, rfl, h.1⟩
    | succ i => simpa using VRs.get h.2 i x (by simpa using hx)

theorem VRs.of_get : ∀ {xs : List AV} {vs : List Value}, xs.length = vs.length → (∀ (i : Nat) (x : AV) (v : Value), xs[i]? = some x → vs[i]? = some v → VR I w M x v) → VRs I w M xs vs
  | [], [], _, _ => by simp [VRs]
  | [], _ :: _, h, _ => by simp at h
  | _ :: _, [], h, _ => by simp at h
  | x :: xs, v :: vs, h, hg => by
    simp only [VRs]
    exact ⟨hg 0 x v rfl rfl, VRs.of_get (by simpa using h) fun i y u hy hu => hg (i + 1) y u (by simpa using hy) (by simpa using hu)⟩

theorem VRs.take {xs : List AV} {vs : List Value} (h : VRs I w M xs vs) (n : Nat) : VRs I w M (xs.take n) (vs.take n) := by
  refine VRs.of_get (by simp [h.length]) fun i x v hx hv => ?_
  rw [List.getElem?_take] at hx hv
  split at hx
  · rw [if_pos ‹_›] at hv
    obtain ⟨u, hu, hr⟩ := h.get i x hx
    rw [hv] at hu; cases hu; exact hr
  · cases hx

theorem VRs.drop {xs : List AV} {vs : List Value} (h : VRs I w M xs vs) (n : Nat) : VRs I w M (xs.drop n) (vs.drop n) := by
  refine VRs.of_get (by simp [h.length]) fun i x v hx hv => ?_
  rw [List.getElem?_drop] at hx hv
  obtain ⟨u, hu, hr⟩ := h.get _ x hx
  rw [hv] at hu; cases hu; exact hr

theorem VRs.append {xs ys : List AV} {vs us : List Value} (h : VRs I w M xs vs) (h' : VRs I w M ys us) : VRs I w M (xs ++ ys) (vs ++ us) := by
  have hl := h.length
  refine VRs.of_get (by simp [hl, h'.length]) fun i x v hx hv => ?_
  rw [List.getElem?_append] at hx hv
  split at hx
  · rename_i hlt
    rw [if_pos (by omega)] at hv
    obtain ⟨u, hu, hr⟩ := h.get i x hx
    rw [hv] at hu; cases hu; exact hr
  · rename_i hge
    rw [if_neg (by omega)] at hv
    rw [← hl] at hv
    obtain ⟨u, hu, hr⟩ := h'.get _ x hx
    rw [hv] at hu; cases hu; exact hr

theorem VRs.wr {xs vs' : List AV} {us us' : List Value} (h : VRs I w M xs us) (h' : VRs I w M vs' us') (o : Nat) :
    VRs I w M (Am.wr xs o vs') (us.take o ++ us' ++ us.drop (o + us'.length)) := by
  unfold Am.wr
  rw [← h'.length]
  exact ((h.take o).append h').append (h.drop _)

theorem VRs_split {xs ys : List AV} {cs : List Value} (h : VRs I w M (xs ++ ys) cs) : VRs I w M xs (cs.take xs.length) ∧ VRs I w M ys (cs.drop xs.length) := by
  have h1 := h.take xs.length
  have h2 := h.drop xs.length
  simp at h1 h2
  exact ⟨h1, h2⟩

theorem VRs_rep {z : List AV} {cs : List Value} (h : VRs I w M z cs) : ∀ n, VRs I w M (rep n z) (List.replicate n cs).flatten
  | 0 => by simp [rep, VRs]
  | n + 1 => by
    have ih := VRs_rep h n
    unfold rep at ih ⊢
    rw [List.replicate_succ, List.flatten_cons, List.replicate_succ, List.flatten_cons]
    exact h.append ih
end

theorem plain_none {I : Nat → Prop} {w : World} {M : Option Mode} (M' : Option Mode) : ∀ {x : AV} {v : Value}, x.plain = true → VR I w M x v → VR I w M' x v := by
  intro x v hp h
  cases x <;> simp [AV.plain] at hp <;> simpa [VR] using h

theorem plains_none {I : Nat → Prop} {w : World} {M : Option Mode} (M' : Option Mode) : ∀ {xs : List AV} {vs : List Value}, xs.all AV.plain = true → VRs I w M xs vs → VRs I w M' xs vs
  | [], [], _, _ => by simp [VRs]
  | [], _ :: _, _, h => by simp [VRs] at h
  | _ :: _, [], _, h => by simp [VRs] at h
  | x :: xs, v :: vs, hp, h => by
    simp only [VRs] at h ⊢
    simp only [List.all_cons, Bool.and_eq_true] at hp
    exact ⟨plain_none M' hp.1 h.1, plains_none M' hp.2 h.2⟩

/-- where a living reference leads to -/
def aliveA (s : St) (ρ : Nat → Place) (b g : Nat) : Option (Place × Nat) :=
  if s.g b = g then (hlook s.h b).map fun k => (ρ b, k.esz) else none

def modeOf (s : St) (ρ : Nat → Place) : Option Mode := some ⟨s.g, aliveA s ρ⟩

/-- where a run begins: a world, and the blocks that are given to it -/
structure Base where
  w : World
  ids : Nat → Prop
  pl : Nat → Place
/-- a block that the run may change -/
def Base.mine (w0 : Base) (r : Nat) : Prop := w0.w.heap.size ≤ r ∨ ∃ b σ, w0.ids b ∧ w0.pl b = some (r, σ)
/-- whatever else there was is as it was -/
structure Base.upto (w0 : Base) (w : World) : Prop where
  os : w.os = w0.w.os
  tape : w.tape = w0.w.tape
  output : w.output = w0.w.output
  size : w0.w.heap.size ≤ w.heap.size
  block : ∀ k, ¬ w0.mine k → w.heap[k]? = w0.w.heap[k]?
theorem Base.upto.refl (w0 : Base) : w0.upto w0.w := ⟨rfl, rfl, rfl, Nat.le_refl _, fun _ _ => rfl⟩
theorem Base.upto.trans {w0 : Base} {w w' : World} (h : w0.upto w) (os : w'.os = w.os) (tape : w'.tape = w.tape) (output : w'.output = w.output) (size : w.heap.size ≤ w'.heap.size) (block : ∀ k, ¬ w0.mine k → w'.heap[k]? = w.heap[k]?) : w0.upto w' :=
  ⟨os.trans h.os, tape.trans h.tape, output.trans h.output, Nat.le_trans h.size size, fun k hk => (block k hk).trans (h.block k hk)⟩
theorem Base.upto.below {w0 : Base} {w w' : World} (h : w0.upto w) (hb : Below w.heap.size w w') : w0.upto w' :=
  h.trans hb.os hb.tape hb.output hb.size fun k hk => hb.block k (Nat.lt_of_lt_of_le (Nat.lt_of_not_le fun hle => hk (.inl hle)) h.size)
/-- a run that is given nothing -/
def Base.plain (w : World) : Base := ⟨w, fun _ => False, fun _ => none⟩
theorem Base.plain_mine {w : World} {r : Nat} : (Base.plain w).mine r ↔ w.heap.size ≤ r := ⟨fun h => h.elim id (fun ⟨_, _, h, _⟩ => h.elim), .inl⟩
theorem Base.plain_below {w w' : World} (h : (Base.plain w).upto w') : Below w.heap.size w w' :=
  ⟨h.os, h.tape, h.output, h.size, fun k hk => h.block k fun hm => by have := Base.plain_mine.1 hm; omega⟩

/-- a row of cells -/
def BlkC (w0 : Base) (I : Nat → Prop) (w : World) (M : Option Mode) (p : Place) (k : Blk) : Prop :=
  match p with
  | none => k.cs = []
  | some (r, σ) => w0.mine r ∧ (k.frz = true → I r) ∧ (k.frz = false → ¬ I r) ∧ k.cs.length ≤ σ ∧
      ∃ (arr : Array Value) (ty : Nat), w.heap[r]? = some (.cells arr ty (0, 0)) ∧ arr.size = σ ∧ VRs I w M k.cs (arr.toList.take k.cs.length)

/-- keys and values in turn, and a map's entries, the oldest first -/
def mEnt : List AV → Nat → List MapEntry → Prop
  | [], _, [] => True
  | .int .i64 a :: x :: cs, n, e :: es => e.key = .int .i64 a ∧ x.flat = true ∧ (∀ I w M, VR I w M x e.val) ∧ e.born = n ∧ mEnt cs (n + 1) es
  | _, _, _ => False

/-- a map -/
def BlkM (w0 : Base) (I : Nat → Prop) (w : World) (p : Place) (k : Blk) : Prop :=
  match p with
  | none => k.cs = []
  | some (r, _) => w0.mine r ∧ (k.frz = true → I r) ∧ (k.frz = false → ¬ I r) ∧ ∃ es : Array MapEntry, w.heap[r]? = some (.map es es.size) ∧ mEnt k.cs 0 es.toList

def BlkOk (w0 : Base) (I : Nat → Prop) (w : World) (M : Option Mode) (p : Place) (k : Blk) : Prop :=
  if k.esz = mapTag then BlkM w0 I w p k else BlkC w0 I w M p k

theorem BlkOk.first {w0 : Base} {I : Nat → Prop} {w : World} {M : Option Mode} {r σ : Nat} {k : Blk} (h : BlkOk w0 I w M (some (r, σ)) k) : w0.mine r ∧ (k.frz = true → I r) ∧ (k.frz = false → ¬ I r) := by
  unfold BlkOk at h
  split at h
  · exact ⟨h.1, h.2.1, h.2.2.1⟩
  · exact ⟨h.1, h.2.1, h.2.2.1⟩

structure R (w0 : Base) (I0 : Nat → Prop) (N : Nat) (I : Nat → Prop) (ρ : Nat → Place) (s : St) (a : Act) (w : World) : Prop where
  defers : a.defers = []
  size : a.tmps.size = N
  below : w0.upto w
  imm : ∀ b, I b → b < w.heap.size
  old : ∀ b, I0 b → I b
  new : ∀ b, I b → I0 b ∨ w0.mine b
  /-- a block that was given lies where it lay -/
  kept : ∀ b, w0.ids b → s.g b = 0 → ρ b = w0.pl b
  tm : ∀ t, VR I w (modeOf s ρ) (look s.t t) (a.tmps.getD t undef)
  hp : ∀ b k, hlook s.h b = some k → BlkOk w0 I w (modeOf s ρ) (ρ b) k
  inj : ∀ b b' k k' r σ σ', hlook s.h b = some k → hlook s.h b' = some k' → ρ b = some (r, σ) → ρ b' = some (r, σ') → b = b'

/-! ### environments -/
theorem look_put (l : Env) (d : Nat) (v : AV) (t : Nat) : look (put l d v) t = if d = t then v else look l t := rfl

theorem look_cut (ks : List Nat) : ∀ (l : Env) (t : Nat), look (cut ks l) t = .junk ∨ look (cut ks l) t = look l t
  | [], t => .inl rfl
  | (k, u) :: l, t => by
    have ih := look_cut ks l t
    simp only [cut]
    split
    · rename_i hk
      by_cases hkt : k = t
      · left
        subst hkt
        have : ∀ (l : Env), look (cut ks l) k = .junk := by
          intro l
          induction l with
          | nil => rfl
          | cons p l ih =>
            obtain ⟨k', u'⟩ := p
            simp only [cut]
            split
            · exact ih
            · simp only [look]
              rw [if_neg (by intro e; subst e; simp_all)]
              exact ih
        exact this l
      · rcases ih with h | h
        · exact .inl h
        · right; rw [h]; simp [look, hkt]
    · simp only [look]
      split
      · exact .inr rfl
      · exact ih

theorem look_keepT (l : Env) : ∀ (ks : List Nat) (t : Nat), look (keepT l ks) t = .junk ∨ look (keepT l ks) t = look l t
  | [], t => .inl rfl
  | k :: ks, t => by
    simp only [keepT, look]
    split
    · rename_i h; subst h; exact .inr rfl
    · exact look_keepT l ks t

theorem hlook_hput : ∀ (l : Hp) (d : Nat) (v : Blk) (t : Nat), hlook (hput l d v) t = if d = t then some v else hlook l t
  | [], d, v, t => by simp [hput, hlook]
  | (k, u) :: l, d, v, t => by
    simp only [hput]
    split
    · rename_i h; subst h
      simp only [hlook]
      split <;> simp_all
    · rename_i h
      simp only [hlook, hlook_hput l d v t]
      split
      · rename_i h'; subst h'; rw [if_neg (fun e => h e.symm)]
      · rfl

theorem hlook_hdel : ∀ (l : Hp) (d : Nat) (t : Nat), hlook (hdel l d) t = if d = t then none else hlook l t
  | [], d, t => by simp [hdel, hlook]
  | (k, u) :: l, d, t => by
    simp only [hdel]
    have ih := hlook_hdel l d t
    split
    · rename_i h; subst h
      rw [ih]
      split
      · rfl
      · simp [hlook, *]
    · rename_i h
      simp only [hlook, ih]
      split
      · rename_i h'; subst h'; rw [if_neg (fun e => h e.symm)]
      · rfl

theorem hlook_keepH (l : Hp) : ∀ (ks : List Nat) (t : Nat), hlook (keepH l ks) t = none ∨ hlook (keepH l ks) t = hlook l t
  | [], t => .inl rfl
  | k :: ks, t => by
    simp only [keepH]
    split
    · rename_i b hb
      simp only [hlook]
      split
      · rename_i h; subst h; exact .inr hb.symm
      · exact hlook_keepH l ks t
    · exact hlook_keepH l ks t

theorem hlook_frzAll (ids : List Nat) : ∀ (l : Hp) (t : Nat), hlook (frzAll ids l) t = (hlook l t).map fun k => if ids.contains t then { k with frz := true } else k
  | [], t => rfl
  | (k, b) :: l, t => by
    simp only [frzAll, hlook]
    split
    · rename_i h; subst h; simp
    · exact hlook_frzAll ids l t

end Go.Am
