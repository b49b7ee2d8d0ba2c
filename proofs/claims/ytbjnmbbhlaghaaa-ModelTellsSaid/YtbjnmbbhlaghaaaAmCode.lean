/- AM: the check of a whole function's text, and that it is sound. -/
import Derived.Test.YtbjnmbbhlaghaaaAmOrder
import Derived.Test.YtbjnmbbhlaghaaaAmRules
import Derived.Test.YtbjnmbbhlaghaaaAmMap
namespace Go.Am
set_option linter.unusedSimpArgs false
set_option linter.unusedVariables false
open Go.RowKit

/-! ### the check of an operation -/
def fieldFits (P : Program) (t : TypeId) (f off : Nat) (k : Field → Bool) : Bool :=
  match P.underlying t with
  | some (.struct fs) => match fs[f]? with
    | some fd => decide (fd.offset = off) && k fd
    | none => false
  | _ => false

def tSome (P : Program) (t : TypeId) : Bool := match P.info? t with | some i => decide (0 < i.size) | none => false

def isAggT (P : Program) (t : TypeId) : Bool := match P.underlying t with | some (.struct _) | some (.array _ _) => true | _ => false

def mOp (P : Program) (o : Op) (a : AOp) : Bool :=
  match a with
  | .mv y => match o with
    | .move x | .assign x => mOpd x y
    | _ => false
  | .frz y => match o with
    | .move x | .assign x => mOpd x y
    | _ => false
  | .gcall f' xs _ _ => match o with
    | .call { callee := .value (.func f), args, argTypes := _ } => decide (f = f') && mOpds args.toList xs
    | _ => false
  | .nil0 _ _ => match o with
    | .move x | .assign x => mOpd x (.c .nils)
    | _ => false
  | .pick c' x' y' => match o with
    | .pick c x y => mOpd c c' && (mOpd x x' && mOpd y y')
    | _ => false
  | .alloc z => match o with
    | .alloc t => tZero P t z
    | _ => false
  | .mkmap => match o with
    | .makeMap _ none => true
    | _ => false
  | .mget x' y' z => match o with
    | .lookup t x y false => mOpd x x' && (mOpd y y' && tMap P t z)
    | _ => false
  | .ment x' y' z => match o with
    | .mapEntry t x y => mOpd x x' && (mOpd y y' && tMap P t z)
    | _ => false
  | .mset x' y' v' => match o with
    | .entryStore _ x y v => mOpd x x' && (mOpd y y' && mOpd v v')
    | _ => false
  | .mupd x' y' v' => match o with
    | .mapUpdate t x y v => mOpd x x' && (mOpd y y' && (mOpd v v' && (tMap P t (.int .i64 0) || tMap P t (.bool false))))
    | _ => false
  | .box x' _ => match o with
    | .box _ x => mOpd x x'
    | _ => false
  | .build z qs => match o with
    | .build t ps => tZero P t z && (match P.underlying t with
      | some (.struct fs) => (match placesOf P fs.toList with | some pl => mParts (pl[·]?) ps.toList qs | none => false)
      | some (.array _ e) => (match P.info? e with | some ie => mParts (fun i => some (i * ie.size, ie.size)) ps.toList qs | none => false)
      | _ => false)
    | _ => false
  | .mkrow _ len' sz z qs => match o with
    | .buildSlice t len ps => decide (len = len') && (tSlice P t sz && (tSliceZ P t z && (mParts (fun i => some (i * sz, sz)) ps.toList qs && decide (len * sz ≤ 16777216))))
    | _ => false
  | .load n agg x' => match o with
    | .load t x => mOpd x x' && tIs P t n agg
    | _ => false
  | .store x' n y' => match o with
    | .store t x y => mOpd x x' && (mOpd y y' && (match P.info? t with | some i => decide (i.size = n) | none => false))
    | _ => false
  | .fad x' off => match o with
    | .fieldAddr t x f => mOpd x x' && fieldFits P t f off (fun fd => tSome P fd.type)
    | _ => false
  | .iad x' y' sz len => match o with
    | .indexAddr t x y => mOpd x x' && (mOpd y y' && (match P.underlying t with
      | some (.array len' e) => decide (len' = len) && (match P.info? e with | some i => decide (i.size = sz) | none => false)
      | _ => false))
    | _ => false
  | .ias x' y' sz => match o with
    | .indexAddr t x y => mOpd x x' && (mOpd y y' && (match P.underlying t with
      | some (.slice e) => (match P.info? e with | some i => decide (i.size = sz) | none => false)
      | _ => false))
    | _ => false
  | .fld x' off n agg => match o with
    | .field t x f => mOpd x x' && fieldFits P t f off (fun fd => tIs P fd.type n agg)
    | _ => false
  | .idx x' y' sz len agg => match o with
    | .index t x y => mOpd x x' && (mOpd y y' && (match P.underlying t with
      | some (.array len' e) => decide (len' = len) && tIs P e sz agg
      | _ => false))
    | _ => false
  | .bin op' x' y' => match o with
    | .binOp op _ x y _ => decide (op = op') && (mOpd x x' && mOpd y y')
    | _ => false
  | .eqa neg ks x' y' => match o with
    | .binOp op t x y _ => decide (op = if neg then .neq else .eql) && (mOpd x x' && (mOpd y y' && (decide (flatT P 20 t = some ks) && (!P.eqGuardType P.depth t && isAggT P t))))
    | _ => false
  | .eqb neg x' y' => match o with
    | .binOp op t x y _ => decide (op = if neg then .neq else .eql) && (mOpd x x' && (mOpd y y' && (match P.underlying t with | some .bool => true | _ => false)))
    | _ => false
  | .un op' x' => match o with
    | .unOp op _ x => decide (op = op') && mOpd x x'
    | _ => false
  | .conv k x' => match o with
    | .convert t t' x => mOpd x x' && ((match P.underlying t' with | some (.int k') => decide (k' = k) | _ => false) && (match P.underlying t with | some (.int _) => true | _ => false))
    | _ => false
  | .ext x' i' => match o with
    | .extract x i => mOpd x x' && decide (i = i')
    | _ => false
  | .call f' xs => match o with
    | .call { callee := .value (.func f), args, argTypes := _ } => decide (f = f') && (decide (f < gBase) && mOpds args.toList xs)
    | _ => false
  | .dyn x' xs => match o with
    | .call { callee := .value x, args, argTypes := _ } => mOpd x x' && mOpds args.toList xs
    | _ => false
  | .app _ _ x' y' sz => match o with
    | .call { callee := .builtin .append, args, argTypes } => (match args.toList, argTypes.toList with
      | [x, y], [t, t'] => decide (t = t') && (mOpd x x' && (mOpd y y' && tSlice P t sz))
      | _, _ => false)
    | _ => false
  | .len x' => match o with
    | .call { callee := .builtin .len, args, argTypes } => (match args.toList, argTypes.toList with
      | [x], [t] => mOpd x x' && (match P.underlying t with | some (.slice _) => true | _ => false)
      | _, _ => false)
    | _ => false
  | .mnmx mx x' y' => match o with
    | .call { callee := .builtin b, args, argTypes := _ } => decide (b = if mx then .max else .min) && (match args.toList with
      | [x, y] => mOpd x x' && mOpd y y'
      | _ => false)
    | _ => false
  | .mks _ x' sz z => match o with
    | .makeSlice t x y => mOpd x x' && (mOpd y x' && (tSlice P t sz && tSliceZ P t z))
    | _ => false
  | .sl x' lo hi sz => match o with
    | .slice t x lo' hi' none => mOpd x x' && (mOpdO lo' lo && (mOpdO hi' hi && tSlice P t sz))
    | _ => false
  | .clear x' sz z => match o with
    | .call { callee := .builtin .clear, args, argTypes } => (match args.toList, argTypes.toList with
      | [x], [t] => mOpd x x' && (tSlice P t sz && (tSliceZ P t z && z.all AV.isCell))
      | _, _ => false)
    | _ => false
  | .clo f' xs => match o with
    | .makeFunc (.func f) first ys => decide (f = f') && (first.isEmpty && mOpds ys.toList xs)
    | _ => false
  | .chk x' => match o with
    | .nilCheck x => mOpd x x'
    | _ => false

section
variable {P : Program} {N : Nat} {o : Oper} {ao : AOper} {C : Cs}

theorem mOp_sound (hC : ∀ f, Contract P f (C f)) (hd : o.dst = ao.d) (hN : ∀ n, ao.d = some n → n < N) (h : mOp P o.op ao.op = true) : Sim P N o C ao := by
  obtain ⟨dst, op, type, pos, after, guard⟩ := o
  obtain ⟨d, aop, gd, fp⟩ := ao
  simp only [] at hd h hN
  cases aop <;> unfold mOp at h <;> simp only [] at h
  case mv y =>
    split at h
    · exact sim_mv hd hN _ _ (.inl rfl) rfl h
    · exact sim_mv hd hN _ _ (.inr rfl) rfl h
    · cases h
  case nil0 id sz =>
    split at h
    · exact sim_nil0 hd hN _ _ _ (.inl rfl) rfl h
    · exact sim_nil0 hd hN _ _ _ (.inr rfl) rfl h
    · cases h
  case pick c x y =>
    split at h
    · simp only [Bool.and_eq_true] at h
      exact sim_pick hd hN _ _ _ _ _ _ rfl rfl h.1 h.2.1 h.2.2
    · cases h
  case alloc z =>
    split at h
    · exact sim_alloc hd hN _ _ rfl rfl h
    · cases h
  case box x n =>
    split at h
    · exact sim_box hd hN _ _ _ _ rfl rfl h
    · cases h
  case build z qs =>
    split at h
    · rename_i t ps
      simp only [Bool.and_eq_true] at h
      obtain ⟨h1, h2⟩ := h
      split at h2
      · rename_i fs hu
        split at h2
        · rename_i pl hpl
          exact sim_build_struct hd hN t ps z qs rfl rfl h1 fs hu pl hpl h2
        · cases h2
      · rename_i k e hu
        split at h2
        · rename_i ie hie
          exact sim_build_array hd hN t ps z qs rfl rfl h1 k e hu ie hie h2
        · cases h2
      · cases h2
    · cases h
  case mkrow id len sz z qs =>
    split at h
    · rename_i t len' ps
      simp only [Bool.and_eq_true, decide_eq_true_eq] at h
      obtain ⟨rfl, h1, h2, h3, h4⟩ := h
      exact sim_mkrow hd hN t _ ps id sz z qs rfl rfl h1 h2 h3 h4
    · cases h
  case load n agg x =>
    split at h
    · simp only [Bool.and_eq_true] at h
      exact sim_load hd hN _ _ _ _ _ rfl rfl h.1 h.2
    · cases h
  case store x n y =>
    split at h
    · simp only [Bool.and_eq_true] at h
      obtain ⟨h1, h2, h3⟩ := h
      split at h3
      · rename_i i hi
        exact sim_store hd hN _ _ _ _ _ _ rfl rfl h1 h2 i hi (by simpa using h3)
      · cases h3
    · cases h
  case fad x off =>
    split at h
    · simp only [Bool.and_eq_true] at h
      obtain ⟨h1, h2⟩ := h
      unfold fieldFits at h2
      split at h2
      · rename_i fs hu
        split at h2
        · rename_i fd hf
          simp only [Bool.and_eq_true, decide_eq_true_eq, tSome] at h2
          obtain ⟨h3, h4⟩ := h2
          split at h4
          · rename_i i hi
            exact sim_fad hd hN _ _ _ _ _ rfl rfl h1 fs hu fd hf h3 i hi (by simpa using h4)
          · cases h4
        · cases h2
      · cases h2
    · cases h
  case iad x y sz len =>
    split at h
    · simp only [Bool.and_eq_true] at h
      obtain ⟨h1, h2, h3⟩ := h
      split at h3
      · rename_i len' e hu
        simp only [Bool.and_eq_true, decide_eq_true_eq] at h3
        obtain ⟨rfl, h4⟩ := h3
        split at h4
        · rename_i i hi
          exact sim_iad hd hN _ _ _ _ _ _ _ rfl rfl h1 h2 e hu i hi (by simpa using h4)
        · cases h4
      · cases h3
    · cases h
  case ias x y sz =>
    split at h
    · simp only [Bool.and_eq_true] at h
      obtain ⟨h1, h2, h3⟩ := h
      split at h3
      · rename_i e hu
        split at h3
        · rename_i i hi
          exact sim_ias hd hN _ _ _ _ _ _ rfl rfl h1 h2 e hu i hi (by simpa using h3)
        · cases h3
      · cases h3
    · cases h
  case fld x off n agg =>
    split at h
    · simp only [Bool.and_eq_true] at h
      obtain ⟨h1, h2⟩ := h
      unfold fieldFits at h2
      split at h2
      · rename_i fs hu
        split at h2
        · rename_i fd hf
          simp only [Bool.and_eq_true, decide_eq_true_eq] at h2
          exact sim_fld hd hN _ _ _ _ _ _ _ rfl rfl h1 fs hu fd hf h2.1 h2.2
        · cases h2
      · cases h2
    · cases h
  case idx x y sz len agg =>
    split at h
    · simp only [Bool.and_eq_true] at h
      obtain ⟨h1, h2, h3⟩ := h
      split at h3
      · rename_i len' e hu
        simp only [Bool.and_eq_true, decide_eq_true_eq] at h3
        obtain ⟨rfl, h4⟩ := h3
        exact sim_idx hd hN _ _ _ _ _ _ _ _ rfl rfl h1 h2 e hu h4
      · cases h3
    · cases h
  case bin op x y =>
    split at h
    · simp only [Bool.and_eq_true, decide_eq_true_eq] at h
      obtain ⟨rfl, h1, h2⟩ := h
      exact sim_bin hd hN _ _ _ _ _ _ _ rfl rfl h1 h2
    · cases h
  case eqa neg ks x y =>
    split at h
    · simp only [Bool.and_eq_true, decide_eq_true_eq, Bool.not_eq_true'] at h
      obtain ⟨rfl, h1, h2, h3, h4, h5⟩ := h
      refine sim_eqa hd hN neg _ _ _ _ _ _ ks rfl rfl h1 h2 h3 h4 ?_
      unfold isAggT at h5
      split at h5
      · rename_i fs hu; rw [hu]; trivial
      · rename_i k e hu; rw [hu]; trivial
      · cases h5
    · cases h
  case eqb neg x y =>
    split at h
    · simp only [Bool.and_eq_true, decide_eq_true_eq] at h
      obtain ⟨rfl, h1, h2, h3⟩ := h
      split at h3
      · rename_i hu
        exact sim_eqb hd hN neg _ _ _ _ _ _ rfl rfl h1 h2 hu
      · cases h3
    · cases h
  case un op x =>
    split at h
    · simp only [Bool.and_eq_true, decide_eq_true_eq] at h
      obtain ⟨rfl, h1⟩ := h
      exact sim_un hd hN _ _ _ _ rfl rfl h1
    · cases h
  case conv k x =>
    split at h
    · simp only [Bool.and_eq_true] at h
      obtain ⟨h1, h2, h3⟩ := h
      split at h2
      · rename_i k' hu
        simp only [decide_eq_true_eq] at h2
        subst h2
        split at h3
        · rename_i k0 hu0
          exact sim_conv hd hN _ _ _ _ _ rfl rfl h1 hu ⟨k0, hu0⟩
        · cases h3
      · cases h2
    · cases h
  case ext x i =>
    split at h
    · simp only [Bool.and_eq_true, decide_eq_true_eq] at h
      obtain ⟨h1, rfl⟩ := h
      exact sim_ext hd hN _ _ _ rfl rfl h1
    · cases h
  case call f xs =>
    split at h
    · simp only [Bool.and_eq_true, decide_eq_true_eq] at h
      obtain ⟨rfl, hlt, h1⟩ := h
      exact sim_call hC hd hN _ hlt _ _ _ rfl rfl h1
    · cases h
  case frz y =>
    split at h
    · exact sim_frz hd hN _ _ (.inl rfl) rfl h
    · exact sim_frz hd hN _ _ (.inr rfl) rfl h
    · cases h
  case gcall f xs bs nid =>
    split at h
    · simp only [Bool.and_eq_true, decide_eq_true_eq] at h
      obtain ⟨rfl, h1⟩ := h
      exact sim_gcall hC hd hN _ _ _ _ _ _ rfl rfl h1
    · cases h
  case dyn x xs =>
    split at h
    · simp only [Bool.and_eq_true] at h
      exact sim_dyn hC hd hN _ _ _ _ _ rfl rfl h.1 h.2
    · cases h
  case app id ws x y sz =>
    split at h
    · rename_i args ts
      split at h
      · rename_i x0 y0 t t' ha ht
        simp only [Bool.and_eq_true, decide_eq_true_eq] at h
        obtain ⟨rfl, h1, h2, h3⟩ := h
        have e1 : args = #[x0, y0] := by apply Array.ext'; simpa using ha
        have e2 : ts = #[t, t] := by apply Array.ext'; simpa using ht
        subst e1; subst e2
        exact sim_app hd hN t x0 y0 x y id ws sz rfl rfl h1 h2 h3
      · cases h
    · cases h
  case len x =>
    split at h
    · rename_i args ts
      split at h
      · rename_i x0 t ha ht
        simp only [Bool.and_eq_true] at h
        obtain ⟨h1, h2⟩ := h
        have e1 : args = #[x0] := by apply Array.ext'; simpa using ha
        have e2 : ts = #[t] := by apply Array.ext'; simpa using ht
        subst e1; subst e2
        split at h2
        · rename_i e hu
          exact sim_len hd hN t x0 x rfl rfl h1 e hu
        · cases h2
      · cases h
    · cases h
  case mnmx mx x y =>
    split at h
    · rename_i b args ts
      simp only [Bool.and_eq_true, decide_eq_true_eq] at h
      obtain ⟨rfl, h1⟩ := h
      split at h1
      · rename_i x0 y0 ha
        simp only [Bool.and_eq_true] at h1
        have e1 : args = #[x0, y0] := by apply Array.ext'; simpa using ha
        subst e1
        exact sim_mnmx hd hN mx ts x0 y0 x y rfl rfl h1.1 h1.2
      · cases h1
    · cases h
  case mks id x sz z =>
    split at h
    · simp only [Bool.and_eq_true] at h
      obtain ⟨h1, h2, h3, h4⟩ := h
      exact sim_mks hd hN _ _ _ _ _ _ _ rfl rfl h1 h2 h3 h4
    · cases h
  case sl x lo hi sz =>
    split at h
    · simp only [Bool.and_eq_true] at h
      obtain ⟨h1, h2, h3, h4⟩ := h
      exact sim_sl hd hN _ _ _ _ _ _ _ _ rfl rfl h1 h2 h3 h4
    · cases h
  case clear x sz z =>
    split at h
    · rename_i args ts
      split at h
      · rename_i x0 t ha ht
        simp only [Bool.and_eq_true] at h
        obtain ⟨h1, h2, h3, h4⟩ := h
        have e1 : args = #[x0] := by apply Array.ext'; simpa using ha
        have e2 : ts = #[t] := by apply Array.ext'; simpa using ht
        subst e1; subst e2
        exact sim_clear hd hN t x0 x sz z rfl rfl h1 h2 h3 h4
      · cases h
    · cases h
  case clo f xs =>
    split at h
    · rename_i f' first ys
      simp only [Bool.and_eq_true, decide_eq_true_eq] at h
      obtain ⟨rfl, h1, h2⟩ := h
      have e1 : first = #[] := by simpa using h1
      subst e1
      exact sim_clo hd hN _ _ _ rfl rfl h2
    · cases h
  case chk x =>
    split at h
    · exact sim_chk hd hN _ _ rfl rfl h
    · cases h

  case mkmap =>
    split at h
    · exact sim_mkmap hd hN _ rfl rfl
    · cases h
  case mget x y z =>
    split at h
    · simp only [Bool.and_eq_true] at h
      exact sim_mget hd hN _ _ _ _ _ _ rfl rfl h.1 h.2.1 h.2.2
    · cases h
  case ment x y z =>
    split at h
    · simp only [Bool.and_eq_true] at h
      exact sim_ment hd hN _ _ _ _ _ _ rfl rfl h.1 h.2.1 h.2.2
    · cases h
  case mset x y v =>
    split at h
    · simp only [Bool.and_eq_true] at h
      exact sim_mset hd hN _ _ _ _ _ _ _ rfl rfl h.1 h.2.1 h.2.2
    · cases h
  case mupd x y v =>
    split at h
    · simp only [Bool.and_eq_true, Bool.or_eq_true] at h
      rcases h.2.2.2 with h4 | h4
      · exact sim_mupd hd hN _ _ _ _ _ _ _ _ rfl rfl h.1 h.2.1 h.2.2.1 h4
      · exact sim_mupd hd hN _ _ _ _ _ _ _ _ rfl rfl h.1 h.2.1 h.2.2.1 h4
    · cases h

/-- nothing ends in silence -/
theorem no_vac {w0 : Base} {I0 I : Nat → Prop} {ρ : Nat → Place} {s : St} {a : Act} {w : World} (hm : mOp P o.op ao.op = true) (h : R w0 I0 N I ρ s a w) : eff C s ao ≠ .vac := by
  obtain ⟨d, aop, gd, fp⟩ := ao
  cases aop
  case len x =>
    unfold mOp at hm
    simp only [] at hm
    split at hm
    · split at hm
      · simp only [Bool.and_eq_true] at hm
        exact len_novac _ x rfl hm.1 h
      · cases hm
    · cases hm
  case gcall f xs bs nid =>
    intro he
    simp only [eff] at he
    repeat' split at he
    all_goals first
      | (cases he; done)
      | (unfold geff at he; repeat' split at he
         all_goals cases he)
  all_goals
    intro he
    simp only [eff, val] at he
    first
      | (cases he; done)
      | ((repeat' split at he) <;> first | (cases he; done) | (revert he; unfold valO; split <;> intro he <;> cases he) | (revert he; unfold val; intro he; cases he))
      | (revert he; unfold valO; split <;> intro he <;> cases he)
end

end Go.Am
