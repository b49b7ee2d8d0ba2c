/- AM: operations that do not meddle with one another may be done in either order. -/
import Derived.Test.YtbjnmbbhlaghaaaAmSim5
namespace Go.Am
set_option linter.unusedSimpArgs false
set_option linter.unusedVariables false

/-! ### what an operation looks at, and what it touches -/
def AOpd.slot : AOpd → List Nat
  | .t n => [n]
  | .c _ => []

def slotsO : Option AOpd → List Nat
  | some x => x.slot
  | none => []

def slotsL : List AOpd → List Nat
  | [] => []
  | x :: xs => x.slot ++ slotsL xs

def slotsP : List (Nat × Nat × AOpd) → List Nat
  | [] => []
  | (_, _, x) :: xs => x.slot ++ slotsP xs

def AOp.slots : AOp → List Nat
  | .mkmap => []
  | .mget x k _ | .ment x k _ => x.slot ++ k.slot
  | .mset x k v | .mupd x k v => x.slot ++ (k.slot ++ v.slot)
  | .gcall _ xs _ _ => slotsL xs
  | .frz x | .mv x | .box x _ | .load _ _ x | .fad x _ | .fld x _ _ _ | .un _ x | .conv _ x | .ext x _ | .len x | .mks _ x _ _ | .clear x _ _ | .chk x => x.slot
  | .pick c a b => c.slot ++ (a.slot ++ b.slot)
  | .alloc _ | .nil0 _ _ => []
  | .build _ ps | .mkrow _ _ _ _ ps => slotsP ps
  | .store x _ v => x.slot ++ v.slot
  | .iad x i _ _ | .ias x i _ | .idx x i _ _ _ | .bin _ x i | .eqa _ _ x i | .eqb _ x i | .mnmx _ x i | .app _ _ x i _ => x.slot ++ i.slot
  | .call _ xs | .clo _ xs => slotsL xs
  | .dyn x xs => x.slot ++ slotsL xs
  | .sl x lo hi _ => x.slot ++ (slotsO lo ++ slotsO hi)

def AOper.news (o : AOper) : List Nat :=
  match o.op with
  | .alloc _ | .box _ _ | .mkmap => (match o.d with | some d => [d] | none => [])
  | .mkrow id _ _ _ _ | .nil0 id _ | .app id _ _ _ _ | .mks id _ _ _ | .gcall _ _ _ id => [id]
  | _ => []

/-- blocks that it may write, or drop -/
def AOper.ww (o : AOper) : List Nat :=
  match o.op with
  | .store _ _ _ | .clear _ _ _ | .ment _ _ _ | .mset _ _ _ | .mupd _ _ _ => o.fp
  | .app _ ws _ _ _ => ws
  | .gcall _ _ bs _ => bs
  | _ => []

def AOper.isF (o : AOper) : Bool :=
  match o.op with
  | .call _ _ | .dyn _ _ | .clo _ _ | .frz _ | .gcall _ _ _ _ => true
  | _ => false

/-- blocks that it makes or changes -/
def AOper.wr (o : AOper) : List Nat := o.news ++ o.ww

def AOper.guards (o : AOper) : List Nat := match o.gd with | some (g, _) => [g] | none => []

def disj (a b : List Nat) : Bool := a.all fun x => !b.contains x

def dstL (o : AOper) : List Nat := match o.d with | some d => [d] | none => []

/-- may x and y change places? -/
def commute (x y : AOper) : Bool :=
  disj (dstL x) (y.op.slots ++ y.guards) && disj (dstL y) (x.op.slots ++ x.guards) && disj (dstL x) (dstL y) &&
  disj x.wr (y.fp ++ y.wr) && disj y.wr (x.fp ++ x.wr)

/-! ### a view of the state -/
structure Like (o : AOper) (s s' : St) : Prop where
  t : ∀ n ∈ o.op.slots, look s'.t n = look s.t n
  g : ∀ b ∈ o.fp ++ o.news, s'.g b = s.g b
  h : ∀ b ∈ o.fp, (∃ k k', hlook s.h b = some k ∧ hlook s'.h b = some k' ∧ k'.cs = k.cs ∧ k'.esz = k.esz ∧ (b ∈ o.ww → k'.frz = k.frz)) ∨ (hlook s.h b = none ∧ hlook s'.h b = none)

theorem opv_like {s s' : St} {x : AOpd} (h : ∀ n ∈ x.slot, look s'.t n = look s.t n) : opv s' x = opv s x := by
  cases x with
  | t n => exact h n (by simp [AOpd.slot])
  | c v => rfl

theorem opvs_like {s s' : St} : ∀ {xs : List AOpd}, (∀ n ∈ slotsL xs, look s'.t n = look s.t n) → xs.map (opv s') = xs.map (opv s)
  | [], _ => rfl
  | x :: xs, h => by
    simp only [List.map_cons]
    rw [opv_like (fun n hn => h n (by simp [slotsL, hn])), opvs_like (fun n hn => h n (by simp [slotsL, hn]))]

/-- blocks are the same but for being frozen -/
def blkLike (W : Bool) (x y : Option Blk) : Prop :=
  (∃ k k', x = some k ∧ y = some k' ∧ k'.cs = k.cs ∧ k'.esz = k.esz ∧ (W = true → k'.frz = k.frz)) ∨ (x = none ∧ y = none)

theorem Like.liveW {o : AOper} {s s' : St} (h : Like o s s') (W : Bool) (b g : Nat) (hW : W = true → b ∈ o.fp → b ∈ o.ww) : blkLike W (liveAt s o.fp b g) (liveAt s' o.fp b g) := by
  unfold liveAt
  by_cases hb : o.fp.contains b = true
  · rw [if_pos hb, if_pos hb]
    have hm : b ∈ o.fp := by simpa using hb
    rw [h.g b (by simp [hm])]
    split
    · rcases h.h b hm with ⟨k, k', h1, h2, h3, h4, h5⟩ | ⟨h1, h2⟩
      · exact .inl ⟨k, k', h1, h2, h3, h4, fun e => h5 (hW e hm)⟩
      · exact .inr ⟨h1, h2⟩
    · exact .inr ⟨rfl, rfl⟩
  · rw [if_neg hb, if_neg hb]
    exact .inr ⟨rfl, rfl⟩
theorem Like.blkW {o : AOper} {s s' : St} (h : Like o s s') (W : Bool) (b g : Nat) (hW : W = true → b ∈ o.fp → b ∈ o.ww) : blkLike W (blkAt s o.fp b g) (blkAt s' o.fp b g) := by
  unfold blkAt
  rcases h.liveW W b g hW with ⟨k, k', h1, h2, h3, h4, h5⟩ | ⟨h1, h2⟩
  · rw [h1, h2]
    simp only [h4]
    split
    · exact .inr ⟨rfl, rfl⟩
    · exact .inl ⟨k, k', rfl, rfl, h3, h4, h5⟩
  · rw [h1, h2]
    exact .inr ⟨rfl, rfl⟩
theorem Like.mapW {o : AOper} {s s' : St} (h : Like o s s') (W : Bool) (b g : Nat) (hW : W = true → b ∈ o.fp → b ∈ o.ww) : blkLike W (mapAt s o.fp b g) (mapAt s' o.fp b g) := by
  unfold mapAt
  rcases h.liveW W b g hW with ⟨k, k', h1, h2, h3, h4, h5⟩ | ⟨h1, h2⟩
  · rw [h1, h2]
    simp only [h4]
    split
    · exact .inl ⟨k, k', rfl, rfl, h3, h4, h5⟩
    · exact .inr ⟨rfl, rfl⟩
  · rw [h1, h2]
    exact .inr ⟨rfl, rfl⟩
theorem blk_ext {k k' : Blk} (h1 : k'.cs = k.cs) (h2 : k'.esz = k.esz) (h3 : k'.frz = k.frz) : k' = k := by
  obtain ⟨c, f, e⟩ := k
  obtain ⟨c', f', e'⟩ := k'
  simp only [] at h1 h2 h3
  rw [h1, h2, h3]

theorem Like.blk {o : AOper} {s s' : St} (h : Like o s s') (b g : Nat) : blkLike false (blkAt s o.fp b g) (blkAt s' o.fp b g) := h.blkW false b g (fun e => by cases e)

theorem fill_like {s s' : St} : ∀ (ps : List (Nat × Nat × AOpd)) (cs : List AV), (∀ n ∈ slotsP ps, look s'.t n = look s.t n) → fill s' cs ps = fill s cs ps
  | [], cs, _ => rfl
  | (o, n, x) :: r, cs, h => by
    simp only [fill]
    rw [opv_like (fun n hn => h n (by simp [slotsP, hn]))]
    split
    · split
      · exact fill_like r _ (fun n hn => h n (by simp [slotsP, hn]))
      · rfl
    · rfl

theorem mapO_congr {f g : AV → Option (AV × List Nat)} (h : ∀ x, f x = g x) : ∀ xs, mapO f xs = mapO g xs
  | [] => rfl
  | x :: xs => by simp only [mapO, h x, mapO_congr h xs]

theorem pure1_like {s s' : St} {fp : List Nat} {W : Bool} (hb : ∀ b g, blkLike W (blkAt s fp b g) (blkAt s' fp b g)) : ∀ (m : Nat) (x : AV), pure1 s' fp m x = pure1 s fp m x
  | 0, _ => rfl
  | m + 1, x => by
    cases x <;> try rfl
    rename_i b g o n
    simp only [pure1]
    rcases hb b g with ⟨k, k', h1, h2, h3, h4, _⟩ | ⟨h1, h2⟩
    · simp only [h1, h2, h3, h4, mapO_congr (pure1_like hb m)]
    · simp only [h1, h2]

theorem pureV_like {s s' : St} {fp : List Nat} {W : Bool} (hb : ∀ b g, blkLike W (blkAt s fp b g) (blkAt s' fp b g)) (x : AV) : pureV s' fp x = pureV s fp x := by
  cases x <;> simp only [pureV, pure1_like hb, mapO_congr (pure1_like hb 4)]

theorem pureVs_like {s s' : St} {fp : List Nat} {W : Bool} (hb : ∀ b g, blkLike W (blkAt s fp b g) (blkAt s' fp b g)) (xs : List AV) : pureVs s' fp xs = pureVs s fp xs := mapO_congr (pureV_like hb) xs

theorem mapM1_congr {f g : AV → Option AV} (h : ∀ x, f x = g x) : ∀ xs, mapM1 f xs = mapM1 g xs
  | [] => rfl
  | x :: xs => by simp only [mapM1, h x, mapM1_congr h xs]

theorem nrm1_like {s s' : St} {fp bs : List Nat} {W : Bool} (hb : ∀ b g, blkLike W (blkAt s fp b g) (blkAt s' fp b g)) (x : AV) : nrm1 s' fp bs x = nrm1 s fp bs x := by
  cases x
  case ptr b g o =>
    simp only [nrm1]
    rcases hb b g with ⟨k, k', h1, h2, _⟩ | ⟨h1, h2⟩ <;> simp only [h1, h2] <;> cases posOf b bs 0 <;> rfl
  case own b g o n =>
    simp only [nrm1]
    rcases hb b g with ⟨k, k', h1, h2, _⟩ | ⟨h1, h2⟩ <;> simp only [h1, h2] <;> cases posOf b bs 0 <;> rfl
  all_goals rfl

theorem nrm_like {s s' : St} {fp bs : List Nat} {W : Bool} (hb : ∀ b g, blkLike W (blkAt s fp b g) (blkAt s' fp b g)) (x : AV) : nrm s' fp bs x = nrm s fp bs x := by
  cases x <;> simp only [nrm, nrm1_like hb, mapM1_congr (nrm1_like hb)]

theorem garg_like {s s' : St} {fp bs : List Nat} {W : Bool} (hb : ∀ b g, blkLike W (blkAt s fp b g) (blkAt s' fp b g)) (x : AV) : garg s' fp bs x = garg s fp bs x := by
  simp only [garg, nrm_like hb, pureV_like hb]

theorem gblks_like {s s' : St} {fp bs : List Nat} {W : Bool} (hb : ∀ b g, blkLike W (blkAt s fp b g) (blkAt s' fp b g)) : ∀ (l : List Nat) (i : Nat), (∀ b ∈ l, b ∈ fp → hlook s'.h b = hlook s.h b) → gblks s' fp bs l i = gblks s fp bs l i
  | [], _, _ => rfl
  | b :: l, i, h => by
    simp only [gblks]
    split
    · rename_i hc
      rw [h b (by simp) (by simpa using hc), gblks_like hb l (i + 1) (fun b hm => h b (by simp [hm]))]
      simp only [mapM1_congr (nrm1_like hb)]
    · rfl

theorem gblks_mem {s : St} {fp bs : List Nat} : ∀ {l : List Nat} {i : Nat} {hg : Hp}, gblks s fp bs l i = some hg → ∀ b ∈ l, b ∈ fp
  | [], _, _, _ => by simp
  | b :: l, i, hg, h => by
    simp only [gblks] at h
    split at h
    · rename_i hc
      split at h
      · split at h
        · split at h
          · rename_i h1 h2
            intro c hm
            rcases List.mem_cons.1 hm with rfl | hm
            · simpa using hc
            · exact gblks_mem h2 c hm
          · cases h
        · cases h
      · intro c hm
        rcases List.mem_cons.1 hm with rfl | hm
        · simpa using hc
        · exact gblks_mem h c hm
    · cases h

theorem gmap_like {s s' : St} {kept new : Option Nat} (h1 : ∀ b, kept = some b → s'.g b = s.g b) (h2 : ∀ b, new = some b → s'.g b = s.g b) : gmap s' kept new = gmap s kept new := by
  funext c
  unfold gmap
  split
  · cases kept with
    | none => rfl
    | some b => simp only [h1 b rfl]
  · cases new with
    | none => rfl
    | some b => simp only [h2 b rfl]
  · rfl

theorem geff_like {s s' : St} {bs : List Nat} {nid : Nat} {fz : List Nat} {r : AV} {h : Hp} (h1 : ∀ b ∈ bs, s'.g b = s.g b ∧ hlook s'.h b = hlook s.h b) (h2 : s'.g nid = s.g nid) : geff s' bs nid fz r h = geff s bs nid fz r h := by
  unfold geff
  split
  · rw [gmap_like (s := s) (s' := s') (fun b hb => by cases hb) (fun b hb => by cases hb)]
  · rw [gmap_like (s := s) (s' := s') (fun b hb => by cases hb) (fun b hb => by cases hb; exact h2)]
  · rename_i b k
    have := h1 b (by simp)
    rw [gmap_like (s := s) (s' := s') (fun c hb => by cases hb; exact this.1) (fun b hb => by cases hb), this.2]
  · rename_i b x k k2
    have := h1 b (by simp)
    rw [gmap_like (s := s) (s' := s') (fun c hb => by cases hb; exact this.1) (fun b hb => by cases hb; exact h2), this.2]
  · rfl

theorem caps_like {s s' : St} {fp : List Nat} {W : Bool} (hb : ∀ b g, blkLike W (blkAt s fp b g) (blkAt s' fp b g)) : ∀ xs, caps s' fp xs = caps s fp xs
  | [] => rfl
  | x :: xs => by
    cases x
    case ptr b g o =>
      simp only [caps, caps_like hb xs]
      cases caps s fp xs with
      | none => rfl
      | some q =>
        obtain ⟨vs, fs⟩ := q
        simp only []
        rcases hb b g with ⟨k, k', h1, h2, h3, h4, _⟩ | ⟨h1, h2⟩
        · simp only [h1, h2, h3]
        · simp only [h1, h2]
    all_goals (simp only [caps, caps_like hb xs]; try (cases caps s fp xs <;> rfl))

theorem shows_like {s s' : St} {fp : List Nat} {W : Bool} (hb : ∀ b g, blkLike W (blkAt s fp b g) (blkAt s' fp b g)) (sz : Nat) (x : AV) : shows s' fp sz x = shows s fp sz x := by
  cases x <;> try rfl
  rename_i b g o n
  simp only [shows]
  rcases hb b g with ⟨k, k', h1, h2, h3, h4, _⟩ | ⟨h1, h2⟩
  · simp only [h1, h2, h3]
  · simp only [h1, h2]

theorem bounds_like {s s' : St} {n : Nat} {lo hi : Option AOpd} (h : ∀ m ∈ slotsO lo ++ slotsO hi, look s'.t m = look s.t m) : bounds s' n lo hi = bounds s n lo hi := by
  unfold bounds
  cases hi with
  | none =>
    cases lo with
    | none => rfl
    | some l => simp only [opv_like (s := s) (s' := s') (x := l) (fun m hm => h m (by simp [slotsO, hm]))]
  | some z =>
    have hz := opv_like (s := s) (s' := s') (x := z) (fun m hm => h m (by simp [slotsO, hm]))
    cases lo with
    | none => simp only [hz]
    | some l => simp only [hz, opv_like (s := s) (s' := s') (x := l) (fun m hm => h m (by simp [slotsO, hm]))]

/-- WHAT AN OPERATION DOES hangs on what it looks at alone. -/
theorem eff_like {C : Cs} {o : AOper} {s s' : St} (h : Like o s s') : eff C s' o = eff C s o := by
  have hb := h.blk
  have hbw := h.blkW true
  have hm : ∀ b g, blkLike false (mapAt s o.fp b g) (mapAt s' o.fp b g) := fun b g => h.mapW false b g (fun e => by cases e)
  have hmw := h.mapW true
  obtain ⟨d, op, gd, fp⟩ := o
  have ht := h.t
  have hg := h.g
  have hop : ∀ x : AOpd, (∀ n ∈ x.slot, n ∈ op.slots) → opv s' x = opv s x := fun x hx => opv_like fun n hn => ht n (hx n hn)
  cases op
  case mv x => simp only [eff, hop x (fun n hn => by simpa [AOp.slots] using hn)]
  case pick c a b =>
    simp only [eff, hop c (fun n hn => by simp [AOp.slots, hn]), hop a (fun n hn => by simp [AOp.slots, hn]), hop b (fun n hn => by simp [AOp.slots, hn])]
  case alloc z =>
    cases d with
    | none => rfl
    | some d => simp only [eff, hg d (by simp [AOper.news])]
  case box x n =>
    simp only [eff, hop x (fun n hn => by simpa [AOp.slots] using hn)]
    cases d with
    | none => rfl
    | some d =>
      have := hg d (by simp [AOper.news])
      cases (opv s x).cells with
      | none => rfl
      | some cs => simp only [this]
  case build z ps => simp only [eff, fill_like ps z (fun n hn => ht n (by simpa [AOp.slots] using hn))]
  case mkrow id len sz z ps => simp only [eff, fill_like ps (rep len z) (fun n hn => ht n (by simpa [AOp.slots] using hn)), hg id (by simp [AOper.news])]
  case nil0 id sz => simp only [eff, hg id (by simp [AOper.news])]
  case load n agg x =>
    simp only [eff, hop x (fun n hn => by simpa [AOp.slots] using hn)]
    split <;> try rfl
    rename_i b g p _
    rcases hb b g with ⟨k, k', h1, h2, h3, h4, _⟩ | ⟨h1, h2⟩
    · simp only [] at h1 h2; simp only [h1, h2, h3]
    · simp only [] at h1 h2; simp only [h1, h2]
  case store x n v =>
    simp only [eff, hop x (fun n hn => by simp [AOp.slots, hn]), hop v (fun n hn => by simp [AOp.slots, hn])]
    split <;> try rfl
    rename_i b g p _
    rcases hbw b g (fun _ hm => hm) with ⟨k, k', h1, h2, h3, h4, h5⟩ | ⟨h1, h2⟩
    · have h6 : k' = k := by
        obtain ⟨c, f, e⟩ := k
        obtain ⟨c', f', e'⟩ := k'
        have := h5 rfl
        simp only [] at h3 h4 this
        rw [h3, h4, this]
      subst h6
      simp only [] at h1 h2; simp only [h1, h2]
    · simp only [] at h1 h2; simp only [h1, h2]
  case fad x off =>
    simp only [eff, hop x (fun n hn => by simpa [AOp.slots] using hn)]
    split <;> try rfl
    rename_i b g p _
    rcases hb b g with ⟨k, k', h1, h2, h3, h4, _⟩ | ⟨h1, h2⟩
    · simp only [] at h1 h2; simp only [h1, h2]
    · simp only [] at h1 h2; simp only [h1, h2]
  case iad x i sz len =>
    simp only [eff, hop x (fun n hn => by simp [AOp.slots, hn]), hop i (fun n hn => by simp [AOp.slots, hn])]
    split <;> try rfl
    split <;> try rfl
    split <;> try rfl
    rename_i b g p _
    rcases hb b g with ⟨k, k', h1, h2, h3, h4, _⟩ | ⟨h1, h2⟩
    · simp only [] at h1 h2; simp only [h1, h2]
    · simp only [] at h1 h2; simp only [h1, h2]
  case ias x i sz =>
    simp only [eff, hop x (fun n hn => by simp [AOp.slots, hn]), hop i (fun n hn => by simp [AOp.slots, hn])]
    split <;> try rfl
    split <;> try rfl
    rename_i n _ _ b g p len _
    rcases hb b g with ⟨k, k', h1, h2, h3, h4, _⟩ | ⟨h1, h2⟩
    · simp only [] at h1 h2; simp only [h1, h2]; cases offOf n len sz <;> rfl
    · simp only [] at h1 h2; simp only [h1, h2]
  case fld x off n agg => simp only [eff, hop x (fun n hn => by simpa [AOp.slots] using hn)]
  case idx x i sz len agg => simp only [eff, hop x (fun n hn => by simp [AOp.slots, hn]), hop i (fun n hn => by simp [AOp.slots, hn])]
  case bin op x y => simp only [eff, hop x (fun n hn => by simp [AOp.slots, hn]), hop y (fun n hn => by simp [AOp.slots, hn])]
  case eqa neg ks x y => simp only [eff, hop x (fun n hn => by simp [AOp.slots, hn]), hop y (fun n hn => by simp [AOp.slots, hn])]
  case eqb neg x y => simp only [eff, hop x (fun n hn => by simp [AOp.slots, hn]), hop y (fun n hn => by simp [AOp.slots, hn])]
  case un op x => simp only [eff, hop x (fun n hn => by simpa [AOp.slots] using hn)]
  case conv k x => simp only [eff, hop x (fun n hn => by simpa [AOp.slots] using hn)]
  case ext x i => simp only [eff, hop x (fun n hn => by simpa [AOp.slots] using hn)]
  case call f args =>
    have h1 : args.map (opv s') = args.map (opv s) := opvs_like fun n hn => ht n (by simpa [AOp.slots] using hn)
    simp only [eff, h1, pureVs_like hb]
  case frz x => simp only [eff, hop x (fun n hn => by simpa [AOp.slots] using hn), pureV_like hb]
  case gcall f args bs nid =>
    have h1 : args.map (opv s') = args.map (opv s) := opvs_like fun n hn => ht n (by simpa [AOp.slots] using hn)
    have hl : ∀ b ∈ bs, b ∈ fp → hlook s'.h b = hlook s.h b := by
      intro b hm hf
      rcases h.h b hf with ⟨k, k', e1, e2, e3, e4, e5⟩ | ⟨e1, e2⟩
      · rw [e1, e2, blk_ext e3 e4 (e5 hm)]
      · rw [e1, e2]
    simp only [eff, h1, mapO_congr (garg_like hb), gblks_like hb bs 0 hl]
    split <;> try rfl
    rename_i vs fz hh _ hgb
    split <;> try rfl
    split <;> try rfl
    split <;> try rfl
    exact geff_like (fun b hm => ⟨hg b (by simp [gblks_mem hgb b hm]), hl b hm (gblks_mem hgb b hm)⟩) (hg nid (by simp [AOper.news]))
  case dyn x args =>
    have h1 : args.map (opv s') = args.map (opv s) := opvs_like fun n hn => ht n (by simp [AOp.slots, hn])
    simp only [eff, h1, pureVs_like hb, hop x (fun n hn => by simp [AOp.slots, hn])]
  case app id ws x y sz =>
    simp only [eff, hop x (fun n hn => by simp [AOp.slots, hn]), hop y (fun n hn => by simp [AOp.slots, hn]), shows_like hb, hg id (by simp [AOper.news])]
    split <;> try rfl
    split <;> try rfl
    rename_i b g p n _
    split <;> try rfl
    rename_i hws
    rcases hbw b g (fun _ _ => by simpa [AOper.ww] using hws) with ⟨k, k', h1, h2, h3, h4, h5⟩ | ⟨h1, h2⟩
    · have h6 : k' = k := by
        obtain ⟨c, f, e⟩ := k
        obtain ⟨c', f', e'⟩ := k'
        have := h5 rfl
        simp only [] at h3 h4 this
        rw [h3, h4, this]
      subst h6
      simp only [] at h1 h2; simp only [h1, h2]
    · simp only [] at h1 h2; simp only [h1, h2]
  case len x =>
    simp only [eff, hop x (fun n hn => by simpa [AOp.slots] using hn)]
    split <;> try rfl
    rename_i b g p n _
    rcases hb b g with ⟨k, k', h1, h2, h3, h4, _⟩ | ⟨h1, h2⟩
    · simp only [] at h1 h2; simp only [h1, h2]
    · simp only [] at h1 h2; simp only [h1, h2]
  case mnmx mx x y => simp only [eff, hop x (fun n hn => by simp [AOp.slots, hn]), hop y (fun n hn => by simp [AOp.slots, hn])]
  case mks id n sz z => simp only [eff, hop n (fun n hn => by simpa [AOp.slots] using hn), hg id (by simp [AOper.news])]
  case sl x lo hi sz =>
    have hbd : ∀ n, bounds s' n lo hi = bounds s n lo hi := fun n => bounds_like fun m hm => ht m (by simp only [AOp.slots]; exact List.mem_append_right _ hm)
    simp only [eff, hop x (fun n hn => by simp [AOp.slots, hn]), hbd]
    split <;> try rfl
    rename_i b g p n _
    rcases hb b g with ⟨k, k', h1, h2, h3, h4, _⟩ | ⟨h1, h2⟩
    · simp only [] at h1 h2; simp only [h1, h2]; cases bounds s n lo hi <;> rfl
    · simp only [] at h1 h2; simp only [h1, h2]
  case clear x sz z =>
    simp only [eff, hop x (fun n hn => by simpa [AOp.slots] using hn)]
    split <;> try rfl
    rename_i b g p n _
    rcases hbw b g (fun _ hm => hm) with ⟨k, k', h1, h2, h3, h4, h5⟩ | ⟨h1, h2⟩
    · have h6 : k' = k := by
        obtain ⟨c, f, e⟩ := k
        obtain ⟨c', f', e'⟩ := k'
        have := h5 rfl
        simp only [] at h3 h4 this
        rw [h3, h4, this]
      subst h6
      simp only [] at h1 h2; simp only [h1, h2]
    · simp only [] at h1 h2; simp only [h1, h2]
  case clo f cs =>
    have h1 : cs.map (opv s') = cs.map (opv s) := opvs_like fun n hn => ht n (by simpa [AOp.slots] using hn)
    simp only [eff, h1, caps_like hb]
  case chk x =>
    simp only [eff, hop x (fun n hn => by simpa [AOp.slots] using hn)]
    split <;> try rfl
    rename_i b g p _
    rcases hb b g with ⟨k, k', h1, h2, h3, h4, _⟩ | ⟨h1, h2⟩
    · simp only [] at h1 h2; simp only [h1, h2]
    · simp only [] at h1 h2; simp only [h1, h2]
  case mkmap =>
    cases d with
    | none => rfl
    | some d => simp only [eff, hg d (by simp [AOper.news])]
  case mget x k z =>
    simp only [eff, hop x (fun n hn => by simp [AOp.slots, hn]), hop k (fun n hn => by simp [AOp.slots, hn])]
    split <;> try rfl
    rename_i b g n _ _
    rcases hm b g with ⟨k, k', h1, h2, h3, h4, _⟩ | ⟨h1, h2⟩
    · simp only [] at h1 h2; simp only [h1, h2, h3]
    · simp only [] at h1 h2; simp only [h1, h2]
  case ment x k z =>
    simp only [eff, hop x (fun n hn => by simp [AOp.slots, hn]), hop k (fun n hn => by simp [AOp.slots, hn])]
    split <;> try rfl
    rename_i b g n _ _
    rcases hmw b g (fun _ hm => hm) with ⟨k, k', h1, h2, h3, h4, h5⟩ | ⟨h1, h2⟩
    · have h6 : k' = k := blk_ext h3 h4 (h5 rfl)
      subst h6
      simp only [] at h1 h2; simp only [h1, h2]
    · simp only [] at h1 h2; simp only [h1, h2]
  case mset x k v =>
    simp only [eff, hop x (fun n hn => by simp [AOp.slots, hn]), hop k (fun n hn => by simp [AOp.slots, hn]), hop v (fun n hn => by simp [AOp.slots, hn])]
    split <;> try rfl
    rename_i b g n _ _
    rcases hmw b g (fun _ hm => hm) with ⟨k, k', h1, h2, h3, h4, h5⟩ | ⟨h1, h2⟩
    · have h6 : k' = k := blk_ext h3 h4 (h5 rfl)
      subst h6
      simp only [] at h1 h2; simp only [h1, h2]
    · simp only [] at h1 h2; simp only [h1, h2]
  case mupd x k v =>
    simp only [eff, hop x (fun n hn => by simp [AOp.slots, hn]), hop k (fun n hn => by simp [AOp.slots, hn]), hop v (fun n hn => by simp [AOp.slots, hn])]
    split <;> try rfl
    rename_i b g n _ _
    rcases hmw b g (fun _ hm => hm) with ⟨k, k', h1, h2, h3, h4, h5⟩ | ⟨h1, h2⟩
    · have h6 : k' = k := blk_ext h3 h4 (h5 rfl)
      subst h6
      simp only [] at h1 h2; simp only [h1, h2]
    · simp only [] at h1 h2; simp only [h1, h2]

/-! ### the shape of an effect -/
theorem liveAt_mem {s : St} {fp : List Nat} {b g : Nat} {k : Blk} (h : liveAt s fp b g = some k) : b ∈ fp := by
  unfold liveAt at h
  split at h
  · rename_i hc
    simpa using hc
  · cases h
theorem blkAt_mem {s : St} {fp : List Nat} {b g : Nat} {k : Blk} (h : blkAt s fp b g = some k) : b ∈ fp := liveAt_mem (blkAt_live h).1
theorem mapAt_mem {s : St} {fp : List Nat} {b g : Nat} {k : Blk} (h : mapAt s fp b g = some k) : b ∈ fp := liveAt_mem (mapAt_live h).1

theorem mapO_mem {f : AV → Option (AV × List Nat)} {fp : List Nat} (hf : ∀ x y fz, f x = some (y, fz) → ∀ b ∈ fz, b ∈ fp) : ∀ xs ys fz, mapO f xs = some (ys, fz) → ∀ b ∈ fz, b ∈ fp
  | [], ys, fz, h => by simp [mapO] at h; obtain ⟨_, rfl⟩ := h; simp
  | x :: xs, ys, fz, h => by
    simp only [mapO] at h
    split at h
    · rename_i v g vs gs h1 h2
      cases h
      intro b hb
      rcases List.mem_append.1 hb with hb | hb
      · exact hf x v g h1 b hb
      · exact mapO_mem hf xs vs gs h2 b hb
    · cases h

theorem pure1_mem {s : St} {fp : List Nat} : ∀ (m : Nat) (x y : AV) (fz : List Nat), pure1 s fp m x = some (y, fz) → ∀ b ∈ fz, b ∈ fp
  | 0, _, _, _, h => by simp [pure1] at h
  | m + 1, x, y, fz, h => by
    cases x <;> simp only [pure1, Option.some.injEq, Prod.mk.injEq, reduceCtorEq] at h
    case own b g o n =>
      split at h
      · rename_i k hk
        have hm := blkAt_mem hk
        split at h
        · split at h
          · cases h; simpa using hm
          · split at h
            · rename_i vs f hf
              cases h
              intro c hc
              rcases List.mem_cons.1 hc with rfl | hc
              · exact hm
              · exact mapO_mem (fun x y fz => pure1_mem m x y fz) _ _ _ hf c hc
            · cases h
        · cases h
      · cases h
    all_goals (obtain ⟨_, rfl⟩ := h; simp)

theorem pureVs_mem {s : St} {fp : List Nat} (xs ys : List AV) (fz : List Nat) (h : pureVs s fp xs = some (ys, fz)) : ∀ b ∈ fz, b ∈ fp := by
  refine mapO_mem (f := pureV s fp) (fun x y fz hx => ?_) xs ys fz h
  cases x with
  | agg zs =>
    simp only [pureV] at hx
    split at hx
    · cases hx; simp
    · split at hx
      · rename_i vs f hf
        cases hx
        exact mapO_mem (fun x y fz => pure1_mem 4 x y fz) _ _ _ hf
      · cases hx
  | _ => exact pure1_mem 4 _ y fz (by simpa [pureV] using hx)

theorem caps_mem {s : St} {fp : List Nat} : ∀ (xs ys : List AV) (fz : List Nat), caps s fp xs = some (ys, fz) → ∀ b ∈ fz, b ∈ fp
  | [], ys, fz, h => by simp [caps] at h; obtain ⟨_, rfl⟩ := h; simp
  | x :: xs, ys, fz, h => by
    simp only [caps] at h
    split at h
    · rename_i b g o vs fs hc
      split at h
      · rename_i k hk
        split at h
        · cases h
          intro c hm
          rcases List.mem_cons.1 hm with rfl | hm
          · exact blkAt_mem hk
          · exact caps_mem xs vs fs hc c hm
        · cases h
      · cases h
    · rename_i o cs vs fs hc
      cases h
      exact caps_mem xs vs fz hc
    · cases h

structure Shape (o : AOper) (e : Eff) : Prop where
  nw : ∀ b k, e.nw = some (b, k) → b ∈ o.news
  rm : ∀ b, e.rm = some b → b ∈ o.ww
  st : ∀ b k, e.st = some (b, k) → b ∈ o.ww
  fz : ∀ b ∈ e.fz, b ∈ o.fp

theorem Shape.val {o : AOper} {x : AV} {e : Eff} (h : val x = .ok e) : Shape o e := by
  unfold Am.val at h; cases h
  exact ⟨by simp, by simp, by simp, by simp⟩

theorem Shape.valO {o : AOper} {x : Option AV} {e : Eff} (h : valO x = .ok e) : Shape o e := by
  cases x with
  | none => cases h
  | some y => unfold Am.valO at h; cases h; exact ⟨by simp, by simp, by simp, by simp⟩

theorem garg_mem {s : St} {fp bs : List Nat} (x y : AV) (fz : List Nat) (h : garg s fp bs x = some (y, fz)) : ∀ b ∈ fz, b ∈ fp := by
  unfold garg at h
  split at h
  · cases h; simp
  · have := pureVs_mem [x] [y] fz (fp := fp) (s := s) (by simp [pureVs, mapO, h])
    exact this

theorem geff_shape {s : St} {bs : List Nat} {nid : Nat} {fz : List Nat} {r : AV} {h : Hp} {e : Eff} {d : Option Nat} {f : Nat} {args : List AOpd} {gd : Option (Nat × Bool)} {fp : List Nat} (hz : ∀ b ∈ fz, b ∈ fp) (he : geff s bs nid fz r h = .ok e) :
    Shape ⟨d, .gcall f args bs nid, gd, fp⟩ e := by
  unfold geff at he
  split at he
  · split at he
    · cases he
      exact ⟨by simp, by simp, by simp, hz⟩
    · cases he
  · split at he
    · split at he
      · cases he
        exact ⟨fun b k hb => by cases hb; simp [AOper.news], by simp, by simp, hz⟩
      · cases he
    · cases he
  · split at he
    · split at he
      · cases he
        exact ⟨by simp, by simp, fun b k hb => by cases hb; simp [AOper.ww], hz⟩
      · cases he
    · cases he
  · split at he
    · split at he
      · cases he
        exact ⟨fun b k hb => by cases hb; simp [AOper.news], fun b hb => by cases hb; simp [AOper.ww], fun b k hb => by cases hb; simp [AOper.ww], hz⟩
      · cases he
    · cases he
  · cases he

theorem eff_shape {C : Cs} {o : AOper} {s : St} {e : Eff} (h : eff C s o = .ok e) : Shape o e := by
  obtain ⟨d, op, gd, fp⟩ := o
  cases op <;> simp only [eff] at h
  case alloc z =>
    split at h
    · cases h; exact ⟨by simp [AOper.news], by simp, by simp, by simp⟩
    · cases h
  case box x n =>
    split at h
    · split at h
      · cases h; exact ⟨by simp [AOper.news], by simp, by simp, by simp⟩
      · cases h
    · cases h
  case mkrow =>
    split at h
    · cases h; exact ⟨by simp [AOper.news], by simp, by simp, by simp⟩
    · cases h
  case nil0 => cases h; exact ⟨by simp [AOper.news], by simp, by simp, by simp⟩
  case store x n v =>
    split at h
    · split at h
      · rename_i k vs hk _
        split at h
        · cases h; exact ⟨by simp, by simp, fun b k hb => by cases hb; exact blkAt_mem hk, by simp⟩
        · cases h
      · cases h
    · cases h
  case call f args =>
    split at h
    · rename_i vs fz hp
      split at h
      · cases h; exact ⟨by simp, by simp, by simp, pureVs_mem _ _ _ hp⟩
      · cases h
    · cases h
  case frz x =>
    split at h
    · rename_i v fz hp
      cases h
      exact ⟨by simp, by simp, by simp, pureVs_mem (s := s) [opv s x] [v] fz (by simp [pureVs, mapO, hp])⟩
    · cases h
  case gcall f args bs nid =>
    split at h
    · rename_i vs fz hg hp hgb
      split at h
      · split at h
        · split at h
          · exact geff_shape (mapO_mem (fun x y fz => garg_mem x y fz) _ _ _ hp) h
          · cases h
        · cases h
      · cases h
    · cases h
  case dyn x args =>
    split at h
    · split at h
      · split at h
        · rename_i vs fz hp
          split at h
          · cases h; exact ⟨by simp, by simp, by simp, pureVs_mem _ _ _ hp⟩
          · cases h
        · cases h
      · cases h
    · cases h
  case app id ws x y sz =>
    split at h
    · split at h
      · split at h
        · exact Shape.val h
        · split at h
          · cases h; exact ⟨by simp [AOper.news], by simp, by simp, by simp⟩
          · cases h
      · split at h
        · rename_i hws
          split at h
          · rename_i k hk
            split at h
            · cases h; exact ⟨by simp [AOper.news], fun b hb => by cases hb; simpa [AOper.ww] using hws, by simp, by simp⟩
            · cases h
          · cases h
        · cases h
      · cases h
    · cases h
  case mks =>
    split at h
    · split at h
      · cases h; exact ⟨by simp [AOper.news], by simp, by simp, by simp⟩
      · cases h
    · cases h
  case clear x sz z =>
    split at h
    · split at h
      · rename_i k hk
        split at h
        · cases h; exact ⟨by simp, by simp, fun b k hb => by cases hb; exact blkAt_mem hk, by simp⟩
        · cases h
      · cases h
    · cases h; exact ⟨by simp, by simp, by simp, by simp⟩
    · cases h
  case clo f cs =>
    split at h
    · rename_i vs fz hp
      cases h; exact ⟨by simp, by simp, by simp, caps_mem _ _ _ hp⟩
    · cases h
  case mkmap =>
    split at h
    · cases h; exact ⟨by simp [AOper.news], by simp, by simp, by simp⟩
    · cases h
  case ment x k z =>
    (repeat' split at h) <;> cases h <;> exact ⟨by simp, by simp, fun b k hb => by cases hb; exact mapAt_mem ‹_›, by simp⟩
  case mset x k z =>
    (repeat' split at h) <;> cases h <;> exact ⟨by simp, by simp, fun b k hb => by cases hb; exact mapAt_mem ‹_›, by simp⟩
  case mupd x k z =>
    (repeat' split at h) <;> cases h <;> exact ⟨by simp, by simp, fun b k hb => by cases hb; exact mapAt_mem ‹_›, by simp⟩
  all_goals first
    | exact Shape.val h
    | exact Shape.valO h
    | ((repeat' split at h) <;> first | exact Shape.val h | exact Shape.valO h | cases h)

/-! ### states that read alike -/
structure Eqv (s s' : St) : Prop where
  t : ∀ n, look s'.t n = look s.t n
  h : ∀ b, hlook s'.h b = hlook s.h b
  g : ∀ b, s'.g b = s.g b

theorem Eqv.refl (s : St) : Eqv s s := ⟨fun _ => rfl, fun _ => rfl, fun _ => rfl⟩
theorem Eqv.trans {a b c : St} (h : Eqv a b) (k : Eqv b c) : Eqv a c := ⟨fun n => (k.t n).trans (h.t n), fun n => (k.h n).trans (h.h n), fun n => (k.g n).trans (h.g n)⟩
theorem Eqv.symm {a b : St} (h : Eqv a b) : Eqv b a := ⟨fun n => (h.t n).symm, fun n => (h.h n).symm, fun n => (h.g n).symm⟩

theorem Eqv.like {o : AOper} {s s' : St} (h : Eqv s s') : Like o s s' :=
  ⟨fun n _ => h.t n, fun b _ => h.g b, fun b _ => by
    rw [h.h b]
    cases hlook s.h b with
    | none => exact .inr ⟨rfl, rfl⟩
    | some k => exact .inl ⟨k, k, rfl, rfl, rfl, rfl, fun _ => rfl⟩⟩

/-- what the parts of a state are behind an effect -/
theorem look_putO (d : Option Nat) (v : Option AV) (t : Env) (n : Nat) : look (putO d v t) n = if d = some n then v.getD .junk else look t n := by
  cases d with
  | none => simp [putO]
  | some d =>
    cases v <;> simp only [putO, look_put, Option.some.injEq, Option.getD]

theorem hlook_appH (e : Eff) (h : Hp) (b : Nat) : hlook (appH e h) b =
    match e.nw with
    | some (b', k) => if b' = b then some k else hlook (appH { e with nw := none } h) b
    | none => hlook (appH { e with nw := none } h) b := by
  unfold appH
  cases e.nw with
  | none => rfl
  | some p => obtain ⟨b', k⟩ := p; simp only [hlook_hput]

theorem hlook_appH2 (e : Eff) (h : Hp) (b : Nat) : hlook (appH { e with nw := none } h) b =
    match e.st with
    | some (b', k) => if b' = b then some k else hlook (appH { e with nw := none, st := none } h) b
    | none => hlook (appH { e with nw := none, st := none } h) b := by
  unfold appH
  cases e.st with
  | none => rfl
  | some p => obtain ⟨b', k⟩ := p; simp only [hlook_hput]

theorem hlook_appH3 (e : Eff) (h : Hp) (b : Nat) : hlook (appH { e with nw := none, st := none } h) b =
    if e.rm = some b then none else (hlook h b).map fun k => if e.fz.contains b then { k with frz := true } else k := by
  unfold appH
  have hf : hlook (match e.fz with | [] => h | f => frzAll f h) b = (hlook h b).map fun k => if e.fz.contains b then { k with frz := true } else k := by
    cases hz : e.fz with
    | nil => cases hlook h b <;> simp
    | cons c l => simp only []; rw [← hz, hlook_frzAll]
  cases e.rm with
  | none => simp only [reduceCtorEq, if_false]; exact hf
  | some b' =>
    simp only [hlook_hdel, Option.some.injEq]
    split
    · rfl
    · exact hf

/-- a block that an effect neither makes nor changes nor drops -/
theorem hlook_away {o : AOper} {e : Eff} (hs : Shape o e) (h : Hp) {b : Nat} (hb : b ∉ o.wr) : hlook (appH e h) b = (hlook h b).map fun k => if e.fz.contains b then { k with frz := true } else k := by
  have h1 : ∀ k, e.nw ≠ some (b, k) := fun k hk => hb (by unfold AOper.wr; exact List.mem_append_left _ (hs.nw b k hk))
  have h2 : ∀ k, e.st ≠ some (b, k) := fun k hk => hb (by unfold AOper.wr; exact List.mem_append_right _ (hs.st b k hk))
  have h3 : e.rm ≠ some b := fun hk => hb (by unfold AOper.wr; exact List.mem_append_right _ (hs.rm b hk))
  rw [hlook_appH, hlook_appH2, hlook_appH3, if_neg h3]
  cases hn : e.nw with
  | none =>
    simp only []
    cases hst : e.st with
    | none => rfl
    | some p =>
      obtain ⟨b', k⟩ := p
      simp only []
      rw [if_neg (fun e' => h2 k (by rw [hst, e']))]
  | some q =>
    obtain ⟨c, k0⟩ := q
    simp only []
    rw [if_neg (fun e' => h1 k0 (by rw [hn, e']))]
    cases hst : e.st with
    | none => rfl
    | some p =>
      obtain ⟨b', k⟩ := p
      simp only []
      rw [if_neg (fun e' => h2 k (by rw [hst, e']))]

/-- what becomes of a block hangs on the block alone -/
theorem hlook_own (e : Eff) {h h' : Hp} {b : Nat} (hh : hlook h' b = hlook h b) : hlook (appH e h') b = hlook (appH e h) b := by
  have h3 : hlook (appH { e with nw := none, st := none } h') b = hlook (appH { e with nw := none, st := none } h) b := by rw [hlook_appH3, hlook_appH3, hh]
  have h2 : hlook (appH { e with nw := none } h') b = hlook (appH { e with nw := none } h) b := by rw [hlook_appH2, hlook_appH2 e h, h3]
  rw [hlook_appH, hlook_appH e h, h2]

theorem appG_away {o : AOper} {e : Eff} (hs : Shape o e) (g : Nat → Nat) {b : Nat} (hb : b ∉ o.news) : appG e g b = g b := by
  unfold appG
  cases hn : e.nw with
  | none => rfl
  | some p =>
    obtain ⟨b', k⟩ := p
    simp only [bump]
    rw [if_neg (fun e' : b = b' => hb (e' ▸ hs.nw b' k hn))]

theorem appG_own (e : Eff) {g g' : Nat → Nat} {b : Nat} (h : g' b = g b) : appG e g' b = appG e g b := by
  unfold appG
  cases e.nw with
  | none => exact h
  | some p => obtain ⟨b', k⟩ := p; simp only [bump, h]

theorem app_eqv {d : Option Nat} {e : Eff} {s s' : St} (h : Eqv s s') : Eqv (app d e s) (app d e s') :=
  ⟨fun n => by simp only [app, look_putO, h.t], fun b => hlook_own e (h.h b), fun b => appG_own e (h.g b)⟩

theorem evOper_eqv {C : Cs} {o : AOper} {s s' s1 : St} (h : Eqv s s') (he : evOper C s o = .ok s1) : ∃ s1', evOper C s' o = .ok s1' ∧ Eqv s1 s1' := by
  unfold evOper at he ⊢
  have hl := eff_like (C := C) (Eqv.like (o := o) h)
  have doit : ∀ r, ap o.d s r = .ok s1 → ∃ s1', ap o.d s' r = .ok s1' ∧ Eqv s1 s1' := by
    intro r hr
    cases r with
    | ok e => simp only [ap, Res.ok.injEq] at hr ⊢; subst hr; exact ⟨_, rfl, app_eqv h⟩
    | fail => cases hr
    | vac => cases hr
  split at he
  · rw [hl]; exact doit _ he
  · rename_i g want hg
    rw [h.t]
    split at he
    · rename_i t ht
      split at he
      · rename_i hw
        simp only [if_pos hw, hl]
        exact doit _ he
      · rename_i hw
        simp only [if_neg hw]
        cases he
        exact ⟨_, rfl, fun n => by simp only [look_putO, h.t], h.h, h.g⟩
    · cases he
      exact ⟨_, rfl, fun n => by simp only [look_putO, h.t], h.h, h.g⟩
    · cases he

theorem evOps_eqv {C : Cs} : ∀ (l : List AOper) {s s' s1 : St}, Eqv s s' → evOps C l s = .ok s1 → ∃ s1', evOps C l s' = .ok s1' ∧ Eqv s1 s1'
  | [], s, s', s1, h, he => by simp only [evOps, Res.ok.injEq] at he; subst he; exact ⟨s', rfl, h⟩
  | o :: l, s, s', s1, h, he => by
    simp only [evOps] at he ⊢
    split at he
    · rename_i s2 h2
      obtain ⟨s2', h3, h4⟩ := evOper_eqv h h2
      rw [h3]
      exact evOps_eqv l h4 he
    · cases he
    · cases he

/-! ### changing places -/
theorem disj_spec {a b : List Nat} (h : disj a b = true) : ∀ x ∈ a, x ∉ b := by
  intro x hx hb
  unfold disj at h
  rw [List.all_eq_true] at h
  have := h x hx
  simp at this
  exact this hb

/-- is an operation passed over? -/
def passes (v : AV) (want : Bool) : Bool :=
  match v with
  | .bool t => decide (t ≠ want)
  | .und => true
  | _ => false
/-- an operation's steps: either the effect, or nothing but the slot -/
theorem evOper_cases {C : Cs} {o : AOper} {s s1 : St} (h : evOper C s o = .ok s1) :
    (∃ e, eff C s o = .ok e ∧ s1 = app o.d e s ∧ (∀ g want, o.gd = some (g, want) → look s.t g = .bool want)) ∨
    (s1 = ⟨putO o.d (some .und) s.t, s.h, s.g⟩ ∧ ∃ g want t, o.gd = some (g, want) ∧ look s.t g = t ∧ passes t want = true) := by
  unfold evOper at h
  have ap_ok : ∀ r, ap o.d s r = .ok s1 → ∃ e, r = .ok e ∧ s1 = app o.d e s := by
    intro r hr
    cases r with
    | ok e => simp only [ap, Res.ok.injEq] at hr; exact ⟨e, rfl, hr.symm⟩
    | fail => cases hr
    | vac => cases hr
  split at h
  · rename_i hg
    obtain ⟨e, h1, h2⟩ := ap_ok _ h
    exact .inl ⟨e, h1, h2, fun g want hgw => by rw [hg] at hgw; cases hgw⟩
  · rename_i g want hg
    split at h
    · rename_i t ht
      split at h
      · rename_i hw
        obtain ⟨e, h1, h2⟩ := ap_ok _ h
        exact .inl ⟨e, h1, h2, fun g' want' hgw => by rw [hg] at hgw; cases hgw; rw [ht, hw]⟩
      · rename_i hw
        cases h
        exact .inr ⟨rfl, g, want, _, hg, ht, by simpa [passes] using hw⟩
    · rename_i ht
      cases h
      exact .inr ⟨rfl, g, want, _, hg, ht, rfl⟩
    · cases h

theorem evOper_of_eff {C : Cs} {o : AOper} {s : St} {e : Eff} (h : eff C s o = .ok e) (hg : ∀ g want, o.gd = some (g, want) → look s.t g = .bool want) : evOper C s o = .ok (app o.d e s) := by
  unfold evOper
  cases hgd : o.gd with
  | none => simp only [h, ap]
  | some p =>
    obtain ⟨g, want⟩ := p
    simp only [hg g want hgd, if_true, h, ap]

theorem evOper_skip {C : Cs} {o : AOper} {s : St} {g : Nat} {want : Bool} {t : AV} (h : o.gd = some (g, want)) (ht : look s.t g = t) (hne : passes t want = true) : evOper C s o = .ok ⟨putO o.d (some .und) s.t, s.h, s.g⟩ := by
  unfold evOper
  cases t <;> simp [passes] at hne
  · simp only [h, ht, if_neg hne]
  · simp only [h, ht]

/-- the state behind a step of x, for an operation that doesn't meddle with it -/
structure Apart (x y : AOper) (s s1 : St) : Prop where
  t : ∀ n ∈ y.op.slots ++ y.guards, look s1.t n = look s.t n
  like : Like y s s1

theorem apart_of {C : Cs} {x y : AOper} {s s1 : St} (hc : commute x y = true) (h : evOper C s x = .ok s1) : Apart x y s s1 := by
  simp only [commute, Bool.and_eq_true] at hc
  obtain ⟨⟨⟨⟨c1, c2⟩, c3⟩, c4⟩, c5⟩ := hc
  have d1 := disj_spec c1
  have d4 := disj_spec c4
  have d5 := disj_spec c5
  have hslot : ∀ v n, n ∈ y.op.slots ++ y.guards → look (putO x.d v s.t) n = look s.t n := by
    intro v n hn
    rw [look_putO]
    split
    · rename_i hd
      exact absurd hn (d1 n (by simp [dstL, hd]))
    · rfl
  rcases evOper_cases h with ⟨e, he, rfl, _⟩ | ⟨rfl, _⟩
  · have hs := eff_shape he
    refine ⟨fun n hn => hslot _ n hn, fun n hn => hslot _ n (List.mem_append_left _ hn), fun b hb => ?_, fun b hb => ?_⟩
    · refine appG_away hs _ (fun hbn => ?_)
      have h1 : b ∈ x.wr := by unfold AOper.wr; exact List.mem_append_left _ hbn
      refine d4 b h1 ?_
      rcases List.mem_append.1 hb with hb | hb
      · exact List.mem_append_left _ hb
      · exact List.mem_append_right _ (by unfold AOper.wr; exact List.mem_append_left _ hb)
    · have hnb : b ∉ x.wr := fun hbx => d4 b hbx (List.mem_append_left _ hb)
      show (∃ k k', hlook s.h b = some k ∧ hlook (appH e s.h) b = some k' ∧ _) ∨ (hlook s.h b = none ∧ hlook (appH e s.h) b = none)
      rw [hlook_away hs s.h hnb]
      cases hlook s.h b with
      | none => exact .inr ⟨rfl, rfl⟩
      | some k =>
        refine .inl ⟨k, _, rfl, rfl, ?_, ?_, fun hw => ?_⟩
        · split <;> rfl
        · split <;> rfl
        · split
          · rename_i hf
            exfalso
            have hbf : b ∈ x.fp := hs.fz b (by simpa using hf)
            refine d5 b ?_ (List.mem_append_left _ hbf)
            unfold AOper.wr
            exact List.mem_append_right _ hw
          · rfl
  · exact ⟨fun n hn => hslot (some .und) n hn, fun n hn => hslot (some .und) n (List.mem_append_left _ hn), fun b hb => rfl, fun b hb => by
      cases hlook s.h b with
      | none => exact .inr ⟨rfl, rfl⟩
      | some k => exact .inl ⟨k, k, rfl, rfl, rfl, rfl, fun _ => rfl⟩⟩

theorem commute_symm {x y : AOper} (h : commute x y = true) : commute y x = true := by
  simp only [commute, Bool.and_eq_true] at h ⊢
  obtain ⟨⟨⟨⟨c1, c2⟩, c3⟩, c4⟩, c5⟩ := h
  refine ⟨⟨⟨⟨c2, c1⟩, ?_⟩, c5⟩, c4⟩
  unfold disj at c3 ⊢
  rw [List.all_eq_true] at c3 ⊢
  intro b hb
  simp only [Bool.not_eq_true', List.contains_eq_mem, decide_eq_false_iff_not] at c3 ⊢
  intro ha
  exact c3 b ha hb

/-- the same step from a state that an operation which doesn't meddle has left -/
theorem step_apart {C : Cs} {x y : AOper} {s s1 s2 : St} (hA : Apart x y s s1) (h : evOper C s1 y = .ok s2) :
    ∃ u : St → St, evOper C s y = .ok (u s) ∧ s2 = u s1 ∧ ((∃ e, Shape y e ∧ u = app y.d e) ∨ u = fun s => ⟨putO y.d (some .und) s.t, s.h, s.g⟩) := by
  rcases evOper_cases h with ⟨e, he, rfl, hg⟩ | ⟨rfl, g, want, t, hg, ht, hne⟩
  · have he' : eff C s y = .ok e := by rw [← eff_like hA.like]; exact he
    refine ⟨app y.d e, evOper_of_eff he' (fun g want hgw => ?_), rfl, .inl ⟨e, eff_shape he', rfl⟩⟩
    rw [← hA.t g (List.mem_append_right _ (by simp [AOper.guards, hgw]))]
    exact hg g want hgw
  · refine ⟨fun s => ⟨putO y.d (some .und) s.t, s.h, s.g⟩, evOper_skip hg ?_ hne, rfl, .inr rfl⟩
    rw [← hA.t g (List.mem_append_right _ (by simp [AOper.guards, hg]))]
    exact ht

theorem swap {C : Cs} {x y : AOper} {s s1 s2 : St} (hc : commute x y = true) (hx : evOper C s x = .ok s1) (hy : evOper C s1 y = .ok s2) :
    ∃ s1', evOper C s y = .ok s1' ∧ ∃ s2', evOper C s1' x = .ok s2' ∧ Eqv s2 s2' := by
  obtain ⟨u, hu1, rfl, hu2⟩ := step_apart (apart_of hc hx) hy
  have hA := apart_of (commute_symm hc) hu1
  -- x from the state that y has left
  have hx2 : ∃ v : St → St, evOper C (u s) x = .ok (v (u s)) ∧ s1 = v s ∧ ((∃ e, Shape x e ∧ v = app x.d e) ∨ v = fun s => ⟨putO x.d (some .und) s.t, s.h, s.g⟩) := by
    rcases evOper_cases hx with ⟨e, he, rfl, hg⟩ | ⟨rfl, g, want, t, hg, ht, hne⟩
    · have he' : eff C (u s) x = .ok e := by rw [eff_like hA.like]; exact he
      refine ⟨app x.d e, evOper_of_eff he' (fun g want hgw => ?_), rfl, .inl ⟨e, eff_shape he, rfl⟩⟩
      rw [hA.t g (List.mem_append_right _ (by simp [AOper.guards, hgw]))]
      exact hg g want hgw
    · refine ⟨fun s => ⟨putO x.d (some .und) s.t, s.h, s.g⟩, evOper_skip hg ?_ hne, rfl, .inr rfl⟩
      rw [hA.t g (List.mem_append_right _ (by simp [AOper.guards, hg]))]
      exact ht
  obtain ⟨v, hv1, rfl, hv2⟩ := hx2
  refine ⟨u s, hu1, v (u s), hv1, ?_⟩
  simp only [commute, Bool.and_eq_true] at hc
  obtain ⟨⟨⟨⟨c1, c2⟩, c3⟩, c4⟩, c5⟩ := hc
  have d3 := disj_spec c3
  have d4 := disj_spec c4
  have d5 := disj_spec c5
  have hdd : ∀ n, x.d = some n → y.d ≠ some n := fun n hn hm => d3 n (by simp [dstL, hn]) (by simp [dstL, hm])
  have tcomm : ∀ vx vy t n, look (putO x.d vx (putO y.d vy t)) n = look (putO y.d vy (putO x.d vx t)) n := by
    intro vx vy t n
    simp only [look_putO]
    by_cases h1 : x.d = some n
    · rw [if_pos h1, if_pos h1, if_neg (hdd n h1)]
    · rw [if_neg h1, if_neg h1]
  rcases hu2 with ⟨ey, sy, rfl⟩ | rfl <;> rcases hv2 with ⟨ex, sx, rfl⟩ | rfl
  · refine ⟨fun n => tcomm _ _ _ n, fun b => ?_, fun b => ?_⟩
    · show hlook (appH ex (appH ey s.h)) b = hlook (appH ey (appH ex s.h)) b
      by_cases hbx : b ∈ x.wr
      · have hby : b ∉ y.wr := fun h => d4 b hbx (List.mem_append_right _ h)
        have hbf : b ∉ y.fp := fun h => d4 b hbx (List.mem_append_left _ h)
        have hnf : ey.fz.contains b = false := by
          simp only [List.contains_eq_mem, decide_eq_false_iff_not]
          exact fun h => hbf (sy.fz b h)
        rw [hlook_away sy (appH ex s.h) hby]
        have : hlook (appH ey s.h) b = hlook s.h b := by
          rw [hlook_away sy s.h hby]
          simp only [hnf, Bool.false_eq_true, if_false]
          cases hlook s.h b <;> rfl
        rw [hlook_own ex this]
        simp only [hnf, Bool.false_eq_true, if_false]
        cases hlook (appH ex s.h) b <;> rfl
      · by_cases hby : b ∈ y.wr
        · have hbf : b ∉ x.fp := fun h => d5 b hby (List.mem_append_left _ h)
          have hnf : ex.fz.contains b = false := by
            simp only [List.contains_eq_mem, decide_eq_false_iff_not]
            exact fun h => hbf (sx.fz b h)
          rw [hlook_away sx (appH ey s.h) hbx]
          have : hlook (appH ex s.h) b = hlook s.h b := by
            rw [hlook_away sx s.h hbx]
            simp only [hnf, Bool.false_eq_true, if_false]
            cases hlook s.h b <;> rfl
          rw [hlook_own ey this]
          simp only [hnf, Bool.false_eq_true, if_false]
          cases hlook (appH ey s.h) b <;> rfl
        · rw [hlook_away sx _ hbx, hlook_away sy _ hby, hlook_away sy _ hby, hlook_away sx _ hbx]
          cases hlook s.h b with
          | none => rfl
          | some k =>
            simp only [Option.map_some]
            congr 1
            split <;> split <;> rfl
    · show appG ex (appG ey s.g) b = appG ey (appG ex s.g) b
      by_cases hbx : b ∈ x.news
      · have hby : b ∉ y.news := fun h => d4 b (by unfold AOper.wr; exact List.mem_append_left _ hbx) (List.mem_append_right _ (by unfold AOper.wr; exact List.mem_append_left _ h))
        rw [appG_away sy _ hby]
        exact appG_own ex (appG_away sy _ hby)
      · rw [appG_away sx _ hbx]
        exact (appG_own ey (appG_away sx _ hbx)).symm
  · exact ⟨fun n => tcomm (some .und) ey.v s.t n, fun b => rfl, fun b => rfl⟩
  · exact ⟨fun n => tcomm ex.v (some .und) s.t n, fun b => rfl, fun b => rfl⟩
  · exact ⟨fun n => tcomm (some .und) (some .und) s.t n, fun b => rfl, fun b => rfl⟩

/-- an operation is moved ahead of those with which it may change places -/
theorem ahead {C : Cs} {y : AOper} {l2 : List AOper} : ∀ (l1 : List AOper) {s sf : St}, (∀ x ∈ l1, commute x y = true) → evOps C (l1 ++ y :: l2) s = .ok sf →
    ∃ s1, evOper C s y = .ok s1 ∧ ∃ sf', evOps C (l1 ++ l2) s1 = .ok sf' ∧ Eqv sf sf'
  | [], s, sf, _, h => by
    simp only [List.nil_append, evOps] at h ⊢
    split at h
    · rename_i s1 h1
      exact ⟨s1, h1, sf, h, Eqv.refl _⟩
    · cases h
    · cases h
  | x :: l1, s, sf, hc, h => by
    simp only [List.cons_append, evOps] at h
    split at h
    · rename_i sx hx
      obtain ⟨s1, h1, sf', h2, h3⟩ := ahead l1 (fun z hz => hc z (List.mem_cons_of_mem _ hz)) h
      obtain ⟨s1', h4, s2', h5, h6⟩ := swap (hc x (by simp)) hx h1
      refine ⟨s1', h4, ?_⟩
      obtain ⟨sf'', h7, h8⟩ := evOps_eqv (l1 ++ l2) h6 h2
      refine ⟨sf'', ?_, h3.trans h8⟩
      simp only [List.cons_append, evOps, h5]
      exact h7
    · cases h
    · cases h

end Go.Am
