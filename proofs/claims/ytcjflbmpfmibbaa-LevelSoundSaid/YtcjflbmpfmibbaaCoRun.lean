/- CO: the rules by which a text is run with letters for its arguments. -/
import Derived.Test.YtcjflbmpfmibbaaCoTypes
namespace Go.Co
open Go.Am
attribute [simp] Go.Am.run_seq Go.Am.run_block Go.Am.run_skip Go.Am.run_ret Go.Am.run_exit Go.Am.run_ops Go.Am.run_keep Go.Am.kont_nil Go.Am.kont_c Go.Am.kont_c_ret Go.Am.kont_c_exit Go.Am.kont_blk Go.Am.kont_blk_ret Go.Am.kont_blk_exit Go.Am.kont_lp Go.Am.kont_lp_ret Go.Am.kont_lp_exit Go.Am.goOps_nil Go.Am.goOps_cons Go.Am.goR_ok Go.Am.goR_ap Go.Am.goE_ok Go.Am.goE_fail Go.Am.goE_vac Go.Am.goE_ite Go.Am.goR_ite Go.Am.evOper_none Go.Am.app_mk Go.Am.run_cond Go.Am.goC_bool Go.Am.evOper_some Go.Am.goG_bool Go.Am.goG_und Go.Am.fin_ret Go.Am.fin_normal
attribute [simp] Go.Am.liveAt Go.Am.mapAt Go.Am.mapTag Go.Am.AV.flat Go.Am.look Go.Am.put Go.Am.cut Go.Am.keepT Go.Am.hlook Go.Am.hput Go.Am.hdel Go.Am.keepH Go.Am.bump Go.Am.opv Go.Am.val Go.Am.valO Go.Am.bin2 Go.Am.un1 Go.Am.eqs Go.Am.blkAt Go.Am.fill Go.Am.shows Go.Am.pure1 Go.Am.pureV Go.Am.pureVs Go.Am.mapO Go.Am.caps Go.Am.rep Go.Am.offOf Go.Am.bounds Go.Am.appH Go.Am.appG Go.Am.putO Go.Am.frzAll Go.Am.resV Go.Am.resVs Go.Am.oneOrTup Go.Am.handed Go.Am.argEnv Go.Am.AV.cells Go.Am.AV.isCell Go.Am.AV.plain Go.Am.tbl
def iand (k : IntKind) (a b : Int) : Int := k.wrap (BitVec.ofInt k.bits a &&& BitVec.ofInt k.bits b).toNat
def ior (k : IntKind) (a b : Int) : Int := k.wrap (BitVec.ofInt k.bits a ||| BitVec.ofInt k.bits b).toNat
def ixor (k : IntKind) (a b : Int) : Int := k.wrap (BitVec.ofInt k.bits a ^^^ BitVec.ofInt k.bits b).toNat
def iandNot (k : IntKind) (a b : Int) : Int := k.wrap (BitVec.ofInt k.bits a &&& ~~~ BitVec.ofInt k.bits b).toNat
def ishl (k : IntKind) (a b : Int) : Int := k.wrap (a * 2 ^ (min b.toNat k.bits))
def ishr (k : IntKind) (a b : Int) : Int := a.fdiv (2 ^ (min b.toNat k.bits))
@[simp] theorem ibin_add (k : IntKind) (a b : Int) : ibin .add k a b = some (.int k (k.wrap (a + b))) := rfl
@[simp] theorem ibin_sub (k : IntKind) (a b : Int) : ibin .sub k a b = some (.int k (k.wrap (a - b))) := rfl
@[simp] theorem ibin_mul (k : IntKind) (a b : Int) : ibin .mul k a b = some (.int k (k.wrap (a * b))) := rfl
@[simp] theorem ibin_quo (k : IntKind) (a b : Int) : ibin .quo k a b = if b = 0 then none else some (.int k (k.wrap (a.tdiv b))) := rfl
@[simp] theorem ibin_rem (k : IntKind) (a b : Int) : ibin .rem k a b = if b = 0 then none else some (.int k (a.tmod b)) := rfl
@[simp] theorem ibin_and (k : IntKind) (a b : Int) : ibin .and k a b = some (.int k (iand k a b)) := rfl
@[simp] theorem ibin_or (k : IntKind) (a b : Int) : ibin .or k a b = some (.int k (ior k a b)) := rfl
@[simp] theorem ibin_xor (k : IntKind) (a b : Int) : ibin .xor k a b = some (.int k (ixor k a b)) := rfl
@[simp] theorem ibin_andNot (k : IntKind) (a b : Int) : ibin .andNot k a b = some (.int k (iandNot k a b)) := rfl
@[simp] theorem ibin_eql (k : IntKind) (a b : Int) : ibin .eql k a b = some (.bool (decide (a = b))) := rfl
@[simp] theorem ibin_neq (k : IntKind) (a b : Int) : ibin .neq k a b = some (.bool (decide (a ≠ b))) := rfl
@[simp] theorem ibin_lss (k : IntKind) (a b : Int) : ibin .lss k a b = some (.bool (decide (a < b))) := rfl
@[simp] theorem ibin_leq (k : IntKind) (a b : Int) : ibin .leq k a b = some (.bool (decide (a ≤ b))) := rfl
@[simp] theorem ibin_gtr (k : IntKind) (a b : Int) : ibin .gtr k a b = some (.bool (decide (a > b))) := rfl
@[simp] theorem ibin_geq (k : IntKind) (a b : Int) : ibin .geq k a b = some (.bool (decide (a ≥ b))) := rfl
@[simp] theorem shift_shl (k : IntKind) (a b : Int) : shift .shl k a b = if b < 0 then none else some (.int k (ishl k a b)) := rfl
@[simp] theorem shift_shr (k : IntKind) (a b : Int) : shift .shr k a b = if b < 0 then none else some (.int k (ishr k a b)) := rfl
attribute [simp] ishl ishr IntKind.bits
@[simp] theorem wrap64 {x : Int} (h : -9223372036854775808 ≤ x) (h' : x ≤ 9223372036854775807) : IntKind.i64.wrap x = x := by
  unfold IntKind.wrap
  simp [IntKind.bits, IntKind.signed]
  omega
@[simp] theorem rd_cons (x : AV) (l : List AV) (o n : Nat) (agg : Bool) : rd (x :: l) o n agg = if o + n ≤ (x :: l).length then (if agg then some (.agg (((x :: l).drop o).take n)) else (x :: l)[o]?) else none := rfl
@[simp] theorem wr_cons (x : AV) (l : List AV) (o : Nat) (vs : List AV) : wr (x :: l) o vs = (x :: l).take o ++ vs ++ (x :: l).drop (o + vs.length) := rfl
theorem rd_row {α : Type} [Row α] (l : List α) (i : Nat) (h : i < l.length) : rd (encL l) (i * Row.sz α) (Row.sz α) true = some (.agg (Row.enc l[i])) := by
  have h2 := encL_length l
  unfold rd
  rw [if_pos (by
    have : (i + 1) * Row.sz α ≤ l.length * Row.sz α := Nat.mul_le_mul_right _ h
    rw [Nat.succ_mul] at this
    omega)]
  simp [encL_get l i h]
theorem rd_cell {α : Type} [Row α] (l : List α) (i j : Nat) (h : i < l.length) (hj : j < Row.sz α) : rd (encL l) (i * Row.sz α + j) 1 false = (Row.enc l[i])[j]? := by
  have h2 := encL_length l
  have h1 := encL_get l i h
  unfold rd
  rw [if_pos (by
    have : (i + 1) * Row.sz α ≤ l.length * Row.sz α := Nat.mul_le_mul_right _ h
    rw [Nat.succ_mul] at this
    omega)]
  rw [← h1]
  simp [List.getElem?_take, hj]
theorem rd_ints (l : List Int) (i : Nat) (h : i < l.length) : rd (encL l) i 1 false = some (.int .i64 l[i]) := by
  have := rd_cell l i 0 h (by decide)
  simpa using this
theorem rd_words (l : List Word) (i : Nat) (h : i < l.length) : rd (encL l) i 1 false = some (.int .u64 l[i].v) := by
  have := rd_cell l i 0 h (by decide)
  simpa using this
theorem wr_ints (l : List Int) (i : Nat) (h : i < l.length) (v : Int) : wr (encL l) i [.int .i64 v] = encL (l.set i v) := by
  have := encL_set l i h v
  simpa using this
theorem wr_row {α : Type} [Row α] (l : List α) (i : Nat) (h : i < l.length) (a : α) : wr (encL l) (i * Row.sz α) (Row.enc a) = encL (l.set i a) := encL_set l i h a
theorem rep_enc {α : Type} [Row α] (n : Nat) (a : α) : rep n (Row.enc a) = encL (List.replicate n a) := by
  induction n with
  | zero => rfl
  | succ n ih => rw [List.replicate_succ, encL_cons, ← ih]; simp [rep, List.replicate_succ]
theorem rep_ints (n : Nat) (v : Int) : rep n [.int .i64 v] = encL (List.replicate n v) := rep_enc n v
theorem rep_cells (n : Nat) (v : Int) : List.replicate n (AV.int .i64 v) = encL (List.replicate n v) := by
  induction n with
  | zero => rfl
  | succ n ih => rw [List.replicate_succ, List.replicate_succ, encL_cons, ← ih]; rfl
class Cells (α : Type) [Row α] : Prop where
  all : ∀ a : α, (Row.enc a).all AV.plain = true
instance : Cells Int := ⟨fun _ => rfl⟩
instance : Cells Word := ⟨fun _ => rfl⟩
instance : Cells Span := ⟨fun _ => rfl⟩
instance : Cells Box := ⟨fun _ => rfl⟩
instance : Cells Node := ⟨fun _ => rfl⟩
instance : Cells Tree := ⟨fun _ => rfl⟩
instance : Cells Piece := ⟨fun _ => rfl⟩
instance : Cells Step := ⟨fun _ => rfl⟩
@[simp high] theorem encL_plain {α : Type} [Row α] [Cells α] (l : List α) : (encL l).all AV.plain = true := by
  induction l with
  | nil => rfl
  | cons a l ih => rw [encL_cons, List.all_append, Cells.all, ih]; rfl
theorem plain_cell {x : AV} (h : x.plain = true) : x.isCell = true := by cases x <;> first | rfl | cases h
@[simp high] theorem encL_cells {α : Type} [Row α] [Cells α] (l : List α) : (encL l).all AV.isCell = true := by
  have := encL_plain l
  rw [List.all_eq_true] at this ⊢
  exact fun x hx => plain_cell (this x hx)
@[simp] theorem take_words (l : List Word) (n : Nat) : (encL l).take n = encL (l.take n) := by
  have := encL_take l n
  simpa using this
@[simp] theorem drop_words (l : List Word) (n : Nat) : (encL l).drop n = encL (l.drop n) := by
  have := encL_drop l n
  simpa using this
@[simp] theorem take_ints (l : List Int) (n : Nat) : (encL l).take n = encL (l.take n) := by
  have := encL_take l n
  simpa using this
@[simp] theorem drop_ints (l : List Int) (n : Nat) : (encL l).drop n = encL (l.drop n) := by
  have := encL_drop l n
  simpa using this
theorem take_rows {α : Type} [Row α] (l : List α) (n : Nat) (h : l.length * Row.sz α ≤ n) : (encL l).take n = encL l := List.take_of_length_le (by rw [encL_length]; exact h)
theorem run_while {C : Cs} {k : List Fr} {s : St} {Q : Post} {kt kh : List Nat} {c : ACode} (J : Nat → St → Prop) (n : Nat) (h0 : J n ⟨keepT s.t kt, keepH s.h kh, s.g⟩)
    (step : ∀ m s, J m s → run C c [] s fun e s' => match e with
      | .normal => ∃ m', m' < m ∧ J m' ⟨keepT s'.t kt, keepH s'.h kh, s'.g⟩
      | e => kont C k Q e s') : run C (.loop (.keep kt kh c)) k s Q :=
  run_loop (fun m s => J m ⟨keepT s.t kt, keepH s.h kh, s.g⟩) n h0 fun m s hs => by
    rw [run_keep]
    exact step m _ hs
structure Ref (α : Type) where
  v : α
instance refArg {α : Type} [Row α] : Arg (Ref α) where
  enc r := .ipt 0 (Row.enc r.v)
  dec x := match x with
    | .ipt 0 xs => (Row.dec xs).map Ref.mk
    | _ => none
  dec_enc r := by simp [Row.dec_enc]
  enc_dec x r h := by
    split at h
    · rw [Option.map_eq_some_iff] at h
      obtain ⟨a, ha, rfl⟩ := h
      rw [Row.enc_dec _ _ ha]
    · cases h
@[simp] theorem enc_ref {α : Type} [Row α] (r : Ref α) : Arg.enc r = .ipt 0 (Row.enc r.v) := rfl
@[simp] theorem dec_ref_word (v : Int) : (Arg.dec (.ipt 0 [.int .u64 v]) : Option (Ref Word)) = some ⟨⟨v⟩⟩ := rfl
theorem rr {c d : ACode} (h : c = d) {C : Cs} {k : List Fr} {s : St} {Q : Post} : run C c k s Q = run C d k s Q := by rw [h]
end Go.Co
