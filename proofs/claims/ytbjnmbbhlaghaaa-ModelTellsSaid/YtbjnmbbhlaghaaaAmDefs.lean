/- AM: an abstract machine for Go code whose values are pure (a slice is a list; a local variable in memory is a block that bears the number of the slot that made it). Definitions alone. -/
import GoSem.Step
namespace Go.Am

/-- abstract values -/
inductive AV where
  | junk
  | int (k : IntKind) (n : Int)
  | bool (b : Bool)
  | str (s : List UInt8)
  | lst (n : Nat) (xs : List AV)
  | agg (xs : List AV)
  | tup (xs : List AV)
  | clo (f : Nat) (caps : List AV)
  | ipt (o : Nat) (xs : List AV)
  | ptr (b g o : Nat)
  | own (b g o n : Nat)
  | nils
  /-- what an operation that was passed over leaves -/
  | und
  /-- a map of the activation's own -/
  | mp (b g : Nat)
  deriving Inhabited

/-- one cell's value -/
def AV.isCell : AV → Bool
  | .int .. | .bool _ | .str _ | .lst .. | .clo .. | .ipt .. | .ptr .. | .own .. | .nils => true
  | _ => false

/-- nothing of the activation's own memory in it -/
def AV.plain : AV → Bool
  | .int .. | .bool _ | .str _ | .lst .. | .clo .. | .ipt .. => true
  | _ => false

def AV.cells : AV → Option (List AV)
  | .agg xs => some xs
  | .tup _ | .junk | .und | .mp _ _ => none
  | v => some [v]

abbrev Env := List (Nat × AV)
def look : Env → Nat → AV
  | [], _ => .junk
  | (k, v) :: l, t => if k = t then v else look l t
def put (l : Env) (d : Nat) (v : AV) : Env := (d, v) :: l
def cut (ks : List Nat) : Env → Env
  | [] => []
  | (k, v) :: l => if ks.contains k then cut ks l else (k, v) :: cut ks l
def keepT (l : Env) : List Nat → Env
  | [] => []
  | k :: ks => (k, look l k) :: keepT l ks

structure Blk where
  cs : List AV
  frz : Bool
  esz : Nat
  deriving Inhabited

abbrev Hp := List (Nat × Blk)
def hlook : Hp → Nat → Option Blk
  | [], _ => none
  | (k, v) :: l, t => if k = t then some v else hlook l t
def hput : Hp → Nat → Blk → Hp
  | [], d, v => [(d, v)]
  | (k, u) :: l, d, v => if k = d then (d, v) :: l else (k, u) :: hput l d v
def hdel : Hp → Nat → Hp
  | [], _ => []
  | (k, u) :: l, d => if k = d then hdel l d else (k, u) :: hdel l d
def keepH (l : Hp) : List Nat → Hp
  | [] => []
  | k :: ks => match hlook l k with
    | some b => (k, b) :: keepH l ks
    | none => keepH l ks

structure St where
  t : Env
  h : Hp
  g : Nat → Nat

def bump (d : Nat) (g : Nat → Nat) : Nat → Nat := fun b => if b = d then g b + 1 else g b

inductive AOpd where
  | t (n : Nat)
  | c (v : AV)
  deriving Inhabited

def opv (s : St) : AOpd → AV
  | .t n => look s.t n
  | .c v => v

inductive Res (α : Type) where
  | ok (a : α)
  | fail
  | vac

/-- what an operation does: its value, blocks that are set anew (with a new generation, or in place) or dropped, blocks that are frozen -/
structure Eff where
  v : Option AV := none
  /-- created: (block, contents) -/
  nw : Option (Nat × Blk) := none
  /-- dropped -/
  rm : Option Nat := none
  /-- set in place -/
  st : Option (Nat × Blk) := none
  fz : List Nat := []

inductive AOp where
  | mv (x : AOpd)
  | pick (c a b : AOpd)
  | alloc (zero : List AV)
  | box (x : AOpd) (n : Nat)
  | build (zero : List AV) (parts : List (Nat × Nat × AOpd))
  | mkrow (id len sz : Nat) (zero : List AV) (parts : List (Nat × Nat × AOpd))
  | load (n : Nat) (agg : Bool) (x : AOpd)
  | store (x : AOpd) (n : Nat) (v : AOpd)
  | fad (x : AOpd) (off : Nat)
  | iad (x i : AOpd) (sz len : Nat)
  | ias (x i : AOpd) (sz : Nat)
  | fld (x : AOpd) (off n : Nat) (agg : Bool)
  | idx (x i : AOpd) (sz len : Nat) (agg : Bool)
  | bin (op : BinOp) (x y : AOpd)
  | eqa (neg : Bool) (ks : List Bool) (x y : AOpd)
  | eqb (neg : Bool) (x y : AOpd)
  | un (op : UnOp) (x : AOpd)
  | conv (k : IntKind) (x : AOpd)
  | ext (x : AOpd) (i : Nat)
  | call (f : Nat) (args : List AOpd)
  | dyn (x : AOpd) (args : List AOpd)
  | app (id : Nat) (ws : List Nat) (x y : AOpd) (sz : Nat)
  | nil0 (id sz : Nat)
  | len (x : AOpd)
  | mnmx (mx : Bool) (x y : AOpd)
  | mks (id : Nat) (n : AOpd) (sz : Nat) (zero : List AV)
  | sl (x : AOpd) (lo hi : Option AOpd) (sz : Nat)
  | clear (x : AOpd) (sz : Nat) (zero : List AV)
  | clo (f : Nat) (caps : List AOpd)
  | chk (x : AOpd)
  | mkmap
  | mget (x k : AOpd) (z : AV)
  | ment (x k : AOpd) (z : AV)
  | mset (x t v : AOpd)
  | mupd (x k v : AOpd)
  /-- made pure: what it leads to is frozen -/
  | frz (x : AOpd)
  /-- a call that is given blocks of the activation's own (bs), and may hand back a new one (nid) -/
  | gcall (f : Nat) (args : List AOpd) (bs : List Nat) (nid : Nat)
  deriving Inhabited

structure AOper where
  d : Option Nat
  op : AOp
  gd : Option (Nat × Bool) := none
  /-- blocks that it may look at, or change -/
  fp : List Nat := []
  deriving Inhabited

inductive ACode where
  | skip
  | ops (l : List AOper) (live : List Nat)
  | seq (a b : ACode)
  | cond (c : AOpd) (a b : ACode)
  | block (id : Nat) (c : ACode)
  | loop (c : ACode)
  | keep (kt kh : List Nat) (c : ACode)
  | exit (id : Nat)
  | ret
  deriving Inhabited

inductive ARes where
  | t (n : Nat)
  | cell (a n : Nat) (agg : Bool)

structure AFun where
  np : Nat
  nt : Nat
  code : ACode
  res : List ARes

/-! ### words of the evaluation -/
def ofOpt {α : Type} : Option α → Res α
  | some a => .ok a
  | none => .fail

def maxN : Nat := 9223372036854775807

def ibin (op : BinOp) (k : IntKind) (a b : Int) : Option AV :=
  match op with
  | .add => some (.int k (k.wrap (a + b)))
  | .sub => some (.int k (k.wrap (a - b)))
  | .mul => some (.int k (k.wrap (a * b)))
  | .quo => if b = 0 then none else some (.int k (k.wrap (a.tdiv b)))
  | .rem => if b = 0 then none else some (.int k (a.tmod b))
  | .and => some (.int k (k.wrap (BitVec.ofInt k.bits a &&& BitVec.ofInt k.bits b).toNat))
  | .or => some (.int k (k.wrap (BitVec.ofInt k.bits a ||| BitVec.ofInt k.bits b).toNat))
  | .xor => some (.int k (k.wrap (BitVec.ofInt k.bits a ^^^ BitVec.ofInt k.bits b).toNat))
  | .andNot => some (.int k (k.wrap (BitVec.ofInt k.bits a &&& ~~~ BitVec.ofInt k.bits b).toNat))
  | .eql => some (.bool (decide (a = b)))
  | .neq => some (.bool (decide (a ≠ b)))
  | .lss => some (.bool (decide (a < b)))
  | .leq => some (.bool (decide (a ≤ b)))
  | .gtr => some (.bool (decide (a > b)))
  | .geq => some (.bool (decide (a ≥ b)))
  | _ => none

def shift (op : BinOp) (k : IntKind) (a b : Int) : Option AV :=
  if b < 0 then none else
  match op with
  | .shl => some (.int k (k.wrap (a * 2 ^ (min b.toNat k.bits))))
  | .shr => some (.int k (a.fdiv (2 ^ (min b.toNat k.bits))))
  | _ => none

def bin2 (op : BinOp) : AV → AV → Option AV
  | .int k a, .int k' b => match op with
    | .shl => shift .shl k a b
    | .shr => shift .shr k a b
    | op => if k = k' then ibin op k a b else none
  | _, _ => none

def un1 (op : UnOp) : AV → Option AV
  | .int k n => match op with
    | .neg => some (.int k (k.wrap (0 - n)))
    | _ => none
  | .bool b => match op with
    | .not => some (.bool (!b))
    | _ => none
  | _ => none

/-- two rows of numbers (false) and bools (true), held against each other -/
def eqs : List Bool → List AV → List AV → Option Bool
  | [], [], [] => some true
  | false :: ks, .int k a :: xs, .int k' b :: ys => if k = k' then (match eqs ks xs ys with | some r => some (decide (a = b) && r) | none => none) else none
  | true :: ks, .bool a :: xs, .bool b :: ys => match eqs ks xs ys with | some r => some ((a == b) && r) | none => none
  | _, _, _ => none

def rd (cs : List AV) (o n : Nat) (agg : Bool) : Option AV :=
  if o + n ≤ cs.length then (if agg then some (.agg ((cs.drop o).take n)) else cs[o]?) else none

def wr (cs : List AV) (o : Nat) (vs : List AV) : List AV := cs.take o ++ vs ++ cs.drop (o + vs.length)

/-- the mark of a map's block: its contents are keys and values, in turn -/
def mapTag : Nat := 1000000007

/-- a living block -/
def liveAt (s : St) (fp : List Nat) (b g : Nat) : Option Blk :=
  if fp.contains b then (if s.g b = g then hlook s.h b else none) else none
/-- a block that a pointer or a slice of the activation leads to -/
def blkAt (s : St) (fp : List Nat) (b g : Nat) : Option Blk :=
  match liveAt s fp b g with
  | some k => if k.esz = mapTag then none else some k
  | none => none
/-- the block of a map -/
def mapAt (s : St) (fp : List Nat) (b g : Nat) : Option Blk :=
  match liveAt s fp b g with
  | some k => if k.esz = mapTag then some k else none
  | none => none
/-- a key's place and value -/
def mfind (n : Int) : List AV → Nat → Option (Nat × AV)
  | .int .i64 a :: v :: cs, i => if n = a then some (i, v) else mfind n cs (i + 1)
  | _, _ => none
/-- what a map says of a key -/
def mgetV (n : Int) (cs : List AV) (z : AV) : AV := match mfind n cs 0 with
  | some (_, v) => v
  | none => z
/-- a key's value is set -/
def mputV (n : Int) (cs : List AV) (v : AV) : List AV := match mfind n cs 0 with
  | some (i, _) => wr cs (2 * i + 1) [v]
  | none => cs ++ [.int .i64 n, v]
/-- a number, or a bool -/
def AV.flat : AV → Bool
  | .int .. | .bool _ => true
  | _ => false

def fill (s : St) : List AV → List (Nat × Nat × AOpd) → Option (List AV)
  | cs, [] => some cs
  | cs, (o, n, x) :: r =>
    match (opv s x).cells with
    | some vs => if vs.length = n ∧ o + n ≤ cs.length then fill s (wr cs o vs) r else none
    | none => none

/-- the cells that a slice shows -/
def shows (s : St) (fp : List Nat) (sz : Nat) : AV → Option (Nat × List AV)
  | .nils => some (0, [])
  | .lst n xs => if xs.length = n * sz then some (n, xs) else none
  | .own b g o n => match blkAt s fp b g with
    | some k => if o + n * sz ≤ k.cs.length then some (n, (k.cs.drop o).take (n * sz)) else none
    | none => none
  | _ => none

def mapO (f : AV → Option (AV × List Nat)) : List AV → Option (List AV × List Nat)
  | [] => some ([], [])
  | x :: xs => match f x, mapO f xs with
    | some (v, g), some (vs, gs) => some (v :: vs, g ++ gs)
    | _, _ => none

/-- made pure: what a callee gets, or what is handed back; the blocks that are frozen by it -/
def pure1 (s : St) (fp : List Nat) : Nat → AV → Option (AV × List Nat)
  | 0, _ => none
  | m + 1, x => match x with
    | .nils => some (.lst 0 [], [])
    | .own b g o n => match blkAt s fp b g with
      | some k => if o + n * k.esz ≤ k.cs.length then
          (if ((k.cs.drop o).take (n * k.esz)).all AV.plain = true then some (.lst n ((k.cs.drop o).take (n * k.esz)), [b])
           else match mapO (pure1 s fp m) ((k.cs.drop o).take (n * k.esz)) with
            | some (vs, f) => some (.lst n vs, b :: f)
            | none => none) else none
      | none => none
    | .int k n => some (.int k n, [])
    | .bool b => some (.bool b, [])
    | .str b => some (.str b, [])
    | .lst n xs => some (.lst n xs, [])
    | .clo f c => some (.clo f c, [])
    | .ipt o xs => some (.ipt o xs, [])
    | _ => none

def pureV (s : St) (fp : List Nat) : AV → Option (AV × List Nat)
  | .agg xs => if xs.all AV.plain = true then some (.agg xs, []) else match mapO (pure1 s fp 4) xs with
    | some (vs, f) => some (.agg vs, f)
    | none => none
  | v => pure1 s fp 4 v

def pureVs (s : St) (fp : List Nat) : List AV → Option (List AV × List Nat) := mapO (pureV s fp)

def caps (s : St) (fp : List Nat) : List AV → Option (List AV × List Nat)
  | [] => some ([], [])
  | x :: xs => match x, caps s fp xs with
    | .ptr b g o, some (vs, fs) => (match blkAt s fp b g with
      | some k => if k.cs.all AV.plain then some (.ipt o k.cs :: vs, b :: fs) else none
      | none => none)
    | .ipt o cs, some (vs, fs) => some (.ipt o cs :: vs, fs)
    | _, _ => none

abbrev Cs := Nat → List AV → Option AV

/-! ### blocks at a call's gate -/
/-- contracts of calls that are given blocks stand under the functions' numbers from here on -/
def gBase : Nat := 1000000

def posOf (b : Nat) : List Nat → Nat → Option Nat
  | [], _ => none
  | x :: xs, i => if x = b then some i else posOf b xs (i + 1)

/-- a value at the gate: blocks bear their places there -/
def nrm1 (s : St) (fp bs : List Nat) : AV → Option AV
  | .ptr b g o => match posOf b bs 0, blkAt s fp b g with
    | some i, some _ => some (.ptr i 0 o)
    | _, _ => none
  | .own b g o n => match posOf b bs 0, blkAt s fp b g with
    | some i, some _ => some (.own i 0 o n)
    | _, _ => none
  | .nils => some .nils
  | x => if x.plain = true then some x else none

def mapM1 (f : AV → Option AV) : List AV → Option (List AV)
  | [] => some []
  | x :: xs => match f x, mapM1 f xs with
    | some y, some ys => some (y :: ys)
    | _, _ => none

def nrm (s : St) (fp bs : List Nat) : AV → Option AV
  | .agg xs => match mapM1 (nrm1 s fp bs) xs with
    | some ys => some (.agg ys)
    | none => none
  | x => nrm1 s fp bs x

/-- an argument: at the gate, or made pure -/
def garg (s : St) (fp bs : List Nat) (x : AV) : Option (AV × List Nat) :=
  match nrm s fp bs x with
  | some y => some (y, [])
  | none => pureV s fp x

/-- the blocks that are given: those that there are -/
def gblks (s : St) (fp bs : List Nat) : List Nat → Nat → Option Hp
  | [], _ => some []
  | b :: r, i => if fp.contains b = true then (match hlook s.h b with
    | some k => if k.frz = false ∧ k.esz ≠ mapTag then (match mapM1 (nrm1 s fp bs) k.cs, gblks s fp bs r (i + 1) with
      | some cs, some h => some ((i, ⟨cs, false, k.esz⟩) :: h)
      | _, _ => none) else none
    | none => gblks s fp bs r (i + 1)) else none

def encB (p : Nat × Blk) : AV := .agg [.int .i64 p.1, .int .i64 p.2.esz, .agg p.2.cs]
def encs (h : Hp) : List AV := h.map encB
def decB : AV → Option (Nat × Blk)
  | .agg [.int .i64 (.ofNat b), .int .i64 (.ofNat e), .agg cs] => some (b, ⟨cs, false, e⟩)
  | _ => none
def decs : List AV → Option Hp
  | [] => some []
  | x :: xs => match decB x, decs xs with
    | some p, some h => some (p :: h)
    | _, _ => none

/-- back from the gate: m tells a place's block and generation -/
def up1 (m : Nat → Option (Nat × Nat)) : AV → Option AV
  | .ptr i g o => if g = 0 then (match m i with
    | some (b, g') => some (.ptr b g' o)
    | none => none) else none
  | .own i g o n => if g = 0 then (match m i with
    | some (b, g') => some (.own b g' o n)
    | none => none) else none
  | .nils => some .nils
  | x => if x.plain = true then some x else none
def up2 (m : Nat → Option (Nat × Nat)) : AV → Option AV
  | .agg xs => match mapM1 (up1 m) xs with
    | some ys => some (.agg ys)
    | none => none
  | x => up1 m x
def up (m : Nat → Option (Nat × Nat)) : AV → Option AV
  | .tup xs => match mapM1 (up2 m) xs with
    | some ys => some (.tup ys)
    | none => none
  | x => up2 m x

def rep (n : Nat) (z : List AV) : List AV := (List.replicate n z).flatten

def offOf (i : Int) (len sz : Nat) : Option Nat := if 0 ≤ i ∧ i < len then some (i.toNat * sz) else none

def bounds (s : St) (n : Nat) (lo hi : Option AOpd) : Option (Nat × Nat) :=
  match hi with
  | none => match lo with
    | none => some (0, n)
    | some l => match opv s l with
      | .int _ a => if 0 ≤ a ∧ a ≤ n then some (a.toNat, n) else none
      | _ => none
  | some h => match opv s h with
    | .int _ b => if 0 ≤ b ∧ b ≤ n then (match lo with
      | none => some (0, b.toNat)
      | some l => match opv s l with
        | .int _ a => if 0 ≤ a ∧ a ≤ b then some (a.toNat, b.toNat) else none
        | _ => none) else none
    | _ => none

def val (v : AV) : Res Eff := .ok { v := some v }
def valO : Option AV → Res Eff
  | some v => .ok { v := some v }
  | none => .fail

/-- which block, and generation, a place behind the gate is -/
def gmap (s : St) (kept new : Option Nat) : Nat → Option (Nat × Nat)
  | 0 => match kept with
    | some b => some (b, s.g b)
    | none => none
  | 2 => match new with
    | some b => some (b, s.g b + 1)
    | none => none
  | _ => none

/-- behind a call that was given blocks: the first one is kept, the second one is dropped, a third one (number 2) is new -/
def geff (s : St) (bs : List Nat) (nid : Nat) (fz : List Nat) (r : AV) (h : Hp) : Res Eff :=
  match bs, h with
  | [], [] => match up (gmap s none none) r with
    | some v => .ok { v := some v, fz := fz }
    | none => .fail
  | [], [(2, k)] => match up (gmap s none (some nid)) r, mapM1 (up1 (gmap s none (some nid))) k.cs with
    | some v, some cs => if k.esz ≠ mapTag then .ok { v := some v, nw := some (nid, ⟨cs, false, k.esz⟩), fz := fz } else .fail
    | _, _ => .fail
  | [b], [(0, k)] => match up (gmap s (some b) none) r, mapM1 (up1 (gmap s (some b) none)) k.cs with
    | some v, some cs => if (hlook s.h b).map (·.esz) = some k.esz then .ok { v := some v, st := some (b, ⟨cs, false, k.esz⟩), fz := fz } else .fail
    | _, _ => .fail
  | [b, x], [(0, k), (2, k2)] => match up (gmap s (some b) (some nid)) r, mapM1 (up1 (gmap s (some b) (some nid))) k.cs, mapM1 (up1 (gmap s (some b) (some nid))) k2.cs with
    | some v, some cs, some cs2 => if (hlook s.h b).map (·.esz) = some k.esz ∧ k2.esz ≠ mapTag ∧ nid ≠ b ∧ b ≠ x then .ok { v := some v, st := some (b, ⟨cs, false, k.esz⟩), rm := some x, nw := some (nid, ⟨cs2, false, k2.esz⟩), fz := fz } else .fail
    | _, _, _ => .fail
  | _, _ => .fail

def eff (C : Cs) (s : St) (o : AOper) : Res Eff :=
  match o.op with
  | .mv x => val (opv s x)
  | .pick c a b => match opv s c with
    | .bool t => val (if t then opv s a else opv s b)
    | _ => .fail
  | .alloc z => match o.d with
    | some d => .ok { v := some (.ptr d (s.g d + 1) 0), nw := some (d, ⟨z, false, 0⟩) }
    | none => .fail
  | .box x n => match o.d, (opv s x).cells with
    | some d, some cs => if cs.length = n then .ok { v := some (.ptr d (s.g d + 1) 0), nw := some (d, ⟨cs, false, 0⟩) } else .fail
    | _, _ => .fail
  | .build z ps => match fill s z ps with
    | some cs => val (.agg cs)
    | none => .fail
  | .mkrow d len sz z ps => match fill s (rep len z) ps with
    | some cs => .ok { v := some (.own d (s.g d + 1) 0 len), nw := some (d, ⟨cs, false, sz⟩) }
    | none => .fail
  | .nil0 d sz => .ok { v := some (.own d (s.g d + 1) 0 0), nw := some (d, ⟨[], false, sz⟩) }
  | .load n agg x => match opv s x with
    | .ptr b g p => match blkAt s o.fp b g with
      | some k => valO (rd k.cs p n agg)
      | none => .fail
    | .ipt p cs => valO (rd cs p n agg)
    | _ => .fail
  | .store x n v => match opv s x with
    | .ptr b g p => match blkAt s o.fp b g, (opv s v).cells with
      | some k, some vs => if vs.length = n ∧ p + n ≤ k.cs.length ∧ k.frz = false ∧ vs.all AV.isCell = true then .ok { st := some (b, { k with cs := wr k.cs p vs }) } else .fail
      | _, _ => .fail
    | _ => .fail
  | .fad x off => match opv s x with
    | .ptr b g p => match blkAt s o.fp b g with
      | some _ => val (.ptr b g (p + off))
      | none => .fail
    | .ipt p cs => val (.ipt (p + off) cs)
    | _ => .fail
  | .iad x i sz len => match opv s i with
    | .int _ n => match offOf n len sz with
      | some q => match opv s x with
        | .ptr b g p => match blkAt s o.fp b g with
          | some _ => val (.ptr b g (p + q))
          | none => .fail
        | .ipt p cs => val (.ipt (p + q) cs)
        | _ => .fail
      | none => .fail
    | _ => .fail
  | .ias x i sz => match opv s i with
    | .int _ n => match opv s x with
      | .own b g p len => match blkAt s o.fp b g, offOf n len sz with
        | some _, some q => val (.ptr b g (p + q))
        | _, _ => .fail
      | .lst len cs => match offOf n len sz with
        | some q => val (.ipt q cs)
        | none => .fail
      | _ => .fail
    | _ => .fail
  | .fld x off n agg => match opv s x with
    | .agg cs => valO (rd cs off n agg)
    | _ => .fail
  | .idx x i sz len agg => match opv s x, opv s i with
    | .agg cs, .int _ n => match offOf n len sz with
      | some q => valO (rd cs q sz agg)
      | none => .fail
    | _, _ => .fail
  | .bin op x y => valO (bin2 op (opv s x) (opv s y))
  | .eqa neg ks x y => match opv s x, opv s y with
    | .agg a, .agg b => match eqs ks a b with
      | some t => val (.bool (if neg then !t else t))
      | none => .fail
    | _, _ => .fail
  | .eqb neg x y => match opv s x, opv s y with
    | .bool a, .bool b => val (.bool (if neg then a != b else a == b))
    | _, _ => .fail
  | .un op x => valO (un1 op (opv s x))
  | .conv k x => match opv s x with
    | .int _ n => val (.int k (k.wrap n))
    | _ => .fail
  | .ext x i => match opv s x with
    | .tup vs => valO vs[i]?
    | _ => .fail
  | .call f args => match pureVs s o.fp (args.map (opv s)) with
    | some (vs, fz) => match C f vs with
      | some r => .ok { v := some r, fz := fz }
      | none => .fail
    | none => .fail
  | .dyn x args => match opv s x with
    | .clo f cp => if f < 1000000 then (match pureVs s o.fp (args.map (opv s)) with
      | some (vs, fz) => match C f (vs ++ cp) with
        | some r => .ok { v := some r, fz := fz }
        | none => .fail
      | none => .fail) else .fail
    | _ => .fail
  | .app d ws x y sz => match shows s o.fp sz (opv s y) with
    | some (m, ys) => match opv s x with
      | .nils => if m = 0 then val .nils else
          if m ≤ 1099511627776 ∧ ys.all AV.isCell = true then .ok { v := some (.own d (s.g d + 1) 0 m), nw := some (d, ⟨ys, false, sz⟩) } else .fail
      | .own b g p n => if ws.contains b then (match blkAt s o.fp b g with
        | some k => if p = 0 ∧ n * sz ≤ k.cs.length ∧ k.frz = false ∧ k.esz = sz ∧ n + m ≤ 1099511627776 ∧ ys.all AV.isCell = true then
            .ok { v := some (.own d (s.g d + 1) 0 (n + m)), rm := some b, nw := some (d, ⟨k.cs.take (n * sz) ++ ys, false, sz⟩) } else .fail
        | none => .fail) else .fail
      | _ => .fail
    | none => .fail
  | .len x => match opv s x with
    | .own b g _ n => match blkAt s o.fp b g with
      | some _ => if n ≤ maxN then val (.int .i64 n) else .vac
      | none => .fail
    | .lst n _ => if n ≤ maxN then val (.int .i64 n) else .vac
    | .nils => val (.int .i64 0)
    | _ => .fail
  | .mnmx mx x y => match opv s x, opv s y with
    | .int k a, .int k' b => if k = k' then val (.int k (if mx then (if b > a then b else a) else (if b < a then b else a))) else .fail
    | _, _ => .fail
  | .mks d n sz z => match opv s n with
    | .int _ m => if 0 ≤ m ∧ m ≤ 1099511627776 then .ok { v := some (.own d (s.g d + 1) 0 m.toNat), nw := some (d, ⟨rep m.toNat z, false, sz⟩) } else .fail
    | _ => .fail
  | .sl x lo hi sz => match opv s x with
    | .own b g p n => match blkAt s o.fp b g, bounds s n lo hi with
      | some _, some (l, h) => val (.own b g (p + l * sz) (h - l))
      | _, _ => .fail
    | .lst n xs => match bounds s n lo hi with
      | some (l, h) => val (.lst (h - l) ((xs.drop (l * sz)).take ((h - l) * sz)))
      | none => .fail
    | .nils => match bounds s 0 lo hi with
      | some _ => val .nils
      | none => .fail
    | _ => .fail
  | .clear x sz z => match opv s x with
    | .own b g p n => match blkAt s o.fp b g with
      | some k => if p + n * sz ≤ k.cs.length ∧ k.frz = false then .ok { st := some (b, { k with cs := wr k.cs p (rep n z) }) } else .fail
      | none => .fail
    | .nils => .ok {}
    | _ => .fail
  | .clo f cs => match caps s o.fp (cs.map (opv s)) with
    | some (vs, fz) => .ok { v := some (.clo f vs), fz := fz }
    | none => .fail
  | .chk x => match opv s x with
    | .ptr b g p => match blkAt s o.fp b g with
      | some _ => val (.ptr b g p)
      | none => .fail
    | .ipt p cs => val (.ipt p cs)
    | _ => .fail
  | .mkmap => match o.d with
    | some d => .ok { v := some (.mp d (s.g d + 1)), nw := some (d, ⟨[], false, mapTag⟩) }
    | none => .fail
  | .mget x k z => match opv s x, opv s k with
    | .mp b g, .int .i64 n => match mapAt s o.fp b g with
      | some q => val (mgetV n q.cs z)
      | none => .fail
    | _, _ => .fail
  | .ment x k z => match opv s x, opv s k with
    | .mp b g, .int .i64 n => match mapAt s o.fp b g with
      | some q => if q.frz = false then (match mfind n q.cs 0 with
        | some (i, v) => .ok { v := some (.tup [v, .int .i64 i]), st := some (b, q) }
        | none => .ok { v := some (.tup [z, .int .i64 (q.cs.length / 2 : Nat)]), st := some (b, { q with cs := q.cs ++ [.int .i64 n, z] }) }) else .fail
      | none => .fail
    | _, _ => .fail
  | .mset x t v => match opv s x, opv s t with
    | .mp b g, .int .i64 i => match mapAt s o.fp b g with
      | some q => if q.frz = false ∧ 0 ≤ i ∧ 2 * i.toNat + 1 < q.cs.length ∧ (opv s v).flat = true then .ok { st := some (b, { q with cs := wr q.cs (2 * i.toNat + 1) [opv s v] }) } else .fail
      | none => .fail
    | _, _ => .fail
  | .mupd x k v => match opv s x, opv s k with
    | .mp b g, .int .i64 n => match mapAt s o.fp b g with
      | some q => if q.frz = false ∧ (opv s v).flat = true then .ok { st := some (b, { q with cs := mputV n q.cs (opv s v) }) } else .fail
      | none => .fail
    | _, _ => .fail

  | .frz x => match pureV s o.fp (opv s x) with
    | some (v, fz) => .ok { v := some v, fz := fz }
    | none => .fail
  | .gcall f args bs nid => match mapO (garg s o.fp bs) (args.map (opv s)), gblks s o.fp bs bs 0 with
    | some (vs, fz), some h => if fz.all (fun b => !bs.contains b) = true then (match C (1000000 + f) (vs ++ [.tup (encs h)]) with
      | some (.tup (r :: out)) => match decs out with
        | some h' => geff s bs nid fz r h'
        | none => .fail
      | _ => .fail) else .fail
    | _, _ => .fail

def frzAll (ids : List Nat) : Hp → Hp
  | [] => []
  | (k, b) :: l => (k, if ids.contains k then { b with frz := true } else b) :: frzAll ids l

def putO (d : Option Nat) (v : Option AV) (t : Env) : Env :=
  match d with
  | some d => match v with
    | some v => put t d v
    | none => put t d .junk
  | none => t

def appH (e : Eff) (h : Hp) : Hp :=
  let h1 := match e.fz with | [] => h | f => frzAll f h
  let h2 := match e.rm with | some b => hdel h1 b | none => h1
  let h3 := match e.st with | some (b, k) => hput h2 b k | none => h2
  match e.nw with | some (b, k) => hput h3 b k | none => h3

def appG (e : Eff) (g : Nat → Nat) : Nat → Nat :=
  match e.nw with | some (b, _) => bump b g | none => g

def app (d : Option Nat) (e : Eff) (s : St) : St := { t := putO d e.v s.t, h := appH e s.h, g := appG e s.g }

def ap (d : Option Nat) (s : St) : Res Eff → Res St
  | .ok e => .ok (app d e s)
  | .fail => .fail
  | .vac => .vac

def evOper (C : Cs) (s : St) (o : AOper) : Res St :=
  match o.gd with
  | none => ap o.d s (eff C s o)
  | some (g, want) => match look s.t g with
    | .bool t => if t = want then ap o.d s (eff C s o) else .ok { s with t := putO o.d (some .und) s.t }
    | .und => .ok { s with t := putO o.d (some .und) s.t }
    | _ => .fail

def evOps (C : Cs) : List AOper → St → Res St
  | [], s => .ok s
  | o :: l, s => match evOper C s o with
    | .ok s' => evOps C l s'
    | .fail => .fail
    | .vac => .vac

inductive Ex where
  | normal
  | exit (id : Nat)
  | ret
  deriving DecidableEq

abbrev Post := Ex → St → Prop

def iter (W : St → Post → Prop) : Nat → St → Post → Prop
  | 0, _, _ => False
  | n + 1, s, Q => W s fun e s' => match e with
    | .normal => iter W n s' Q
    | e => Q e s'

def Res.elim : Res St → (St → Prop) → Prop
  | .ok s, K => K s
  | .fail, _ => False
  | .vac, _ => True

def wpC (C : Cs) : ACode → St → Post → Prop
  | .skip, s, Q => Q .normal s
  | .ops l live, s, Q => (evOps C l s).elim fun s' => Q .normal { s' with t := keepT s'.t live }
  | .seq a b, s, Q => wpC C a s fun e s' => match e with
    | .normal => wpC C b s' Q
    | e => Q e s'
  | .cond c a b, s, Q => match opv s c with
    | .bool t => (t = true → wpC C a s Q) ∧ (t = false → wpC C b s Q)
    | _ => False
  | .block id c, s, Q => wpC C c s fun e s' => match e with
    | .exit id' => if id' = id then Q .normal s' else Q (.exit id') s'
    | e => Q e s'
  | .loop c, s, Q => ∃ n, iter (wpC C c) n s Q
  | .keep kt kh c, s, Q => wpC C c { t := keepT s.t kt, h := keepH s.h kh, g := s.g } Q
  | .exit id, s, Q => Q (.exit id) s
  | .ret, s, Q => Q .ret s

def resV (s : St) : ARes → Option AV
  | .t n => some (look s.t n)
  | .cell a n agg => match look s.t a with
    | .ptr b g p => match blkAt s [b] b g with
      | some k => rd k.cs p n agg
      | none => none
    | _ => none

def resVs (s : St) : List ARes → Option (List AV)
  | [] => some []
  | r :: rs => match resV s r, resVs s rs with
    | some v, some vs => some (v :: vs)
    | _, _ => none

def oneOrTup : List AV → AV
  | [v] => v
  | vs => .tup vs

/-- what is handed back, as a pure value -/
def handed (s : St) (rs : List ARes) : Option AV :=
  match resVs s rs with
  | some vs => match pureVs s (s.h.map (·.1)) vs with
    | some (vs, _) => some (oneOrTup vs)
    | none => none
  | none => none

/-- a block that is nowhere -/
def nope : Nat := 999999937
/-- what a function that was given blocks hands back: a value, and the blocks: the one that was given first (0), a new one (2) -/
def ghanded (s : St) (rs : List ARes) (kept : Bool) (new : Option Nat) : Option (AV × Hp) :=
  let bs := [if kept then 0 else nope, nope, new.getD nope]
  let fp := s.h.map (·.1)
  match resVs s rs with
  | some vs => match mapO (garg s fp bs) vs, gblks s fp bs (if kept then [0] else []) 0, gblks s fp bs new.toList 2 with
    | some (vs, fz), some h0, some h2 => if fz.all (fun b => !bs.contains b) = true ∧ s.g 0 = 0 ∧ new ≠ some 0 ∧ new ≠ some nope then some (oneOrTup vs, h0 ++ h2) else none
    | _, _, _ => none
  | none => none

def argEnv : Nat → List AV → Env
  | _, [] => []
  | i, v :: vs => (i, v) :: argEnv (i + 1) vs

/-- the end of a function's text: r is handed back -/
def fin (rs : List ARes) (r : AV) : Post := fun e s => match e with
  | .normal | .ret => handed s rs = some r
  | .exit _ => False

/-- the end of the text of a function that was given blocks -/
def gfin (rs : List ARes) (kept : Bool) (r : AV) (h' : Hp) : Post := fun e s => match e with
  | .normal | .ret => ∃ new, ghanded s rs kept new = some (r, h')
  | .exit _ => False

/-- a function's text comes to r -/
def Runs (C : Cs) (f : AFun) (args : List AV) (r : AV) : Prop :=
  args.length = f.np ∧ ∀ g, wpC C f.code { t := argEnv 0 args, h := [], g := g } (fin f.res r)

end Go.Am
