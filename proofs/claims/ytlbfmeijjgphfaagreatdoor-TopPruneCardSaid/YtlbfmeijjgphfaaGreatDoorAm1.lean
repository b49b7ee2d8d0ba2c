/- AM: an abstract machine for Go code whose values are pure (a slice is a list; a local variable in memory is a block that bears the number of the slot that made it). Definitions alone. -/
import GoSem.Step
import Derived.Below
import Derived.Carry
import Derived.Orders
import Derived.Laws.AppendOwn
import Derived.Laws.Cells
import Derived.Laws.CopyRow
import Derived.Maps.AppendAt
set_option linter.unusedVariables false
set_option linter.unusedSimpArgs false
namespace Go.Am
inductive AV where
 | junk
 | int (k:IntKind) (n:Int)
 | bool (b:Bool)
 | str (s:List UInt8)
 | lst (n:Nat) (xs:List AV)
 | agg (xs:List AV)
 | tup (xs:List AV)
 | clo (f:Nat) (caps:List AV)
 | ipt (o:Nat) (xs:List AV)
 | ptr (b g o:Nat)
 | own (b g o n:Nat)
 | nils
 /-- what an operation that was passed over leaves -/
 | und
 /-- a map of the activation's own -/
 | mp (b g:Nat)
 /-- a pointer (false),or an interface (true),that is nil -/
 | nilv (ifc:Bool)
 deriving Inhabited
def AV.isCell:AV→Bool
 | .int .. | .bool _|.str _|.lst .. | .clo .. | .ipt .. | .ptr .. | .own .. | .nils|.nilv _=>true
 | _=>false
def AV.plain:AV→Bool
 | .int .. | .bool _|.str _|.lst .. | .clo .. | .ipt .. | .nilv _=>true
 | _=>false
def AV.cells:AV→Option (List AV)
 | .agg xs=>some xs
 | .tup _|.junk|.und|.mp _ _=>none
 | v=>some [v]
abbrev Env:=List (Nat×AV)
def look:Env→Nat→AV
 | [],_=>.junk
 | (k,v)::l,t=>if k=t then v else look l t
def put (l:Env) (d:Nat) (v:AV):Env:=(d,v)::l
def cut (ks:List Nat):Env→Env
 | []=>[]
 | (k,v)::l=>if ks.contains k then cut ks l else (k,v)::cut ks l
def keepT (l:Env):List Nat→Env
 | []=>[]
 | k::ks=>(k,look l k)::keepT l ks
structure Blk where
 cs:List AV
 frz:Bool
 esz:Nat
 deriving Inhabited
abbrev Hp:=List (Nat×Blk)
def hlook:Hp→Nat→Option Blk
 | [],_=>none
 | (k,v)::l,t=>if k=t then some v else hlook l t
def hput:Hp→Nat→Blk→Hp
 | [],d,v=>[(d,v)]
 | (k,u)::l,d,v=>if k=d then (d,v)::l else (k,u)::hput l d v
def hdel:Hp→Nat→Hp
 | [],_=>[]
 | (k,u)::l,d=>if k=d then hdel l d else (k,u)::hdel l d
def keepH (l:Hp):List Nat→Hp
 | []=>[]
 | k::ks=>match hlook l k with
  | some b=>(k,b)::keepH l ks
  | none=>keepH l ks
structure St where
 t:Env
 h:Hp
 g:Nat→Nat
def bump (d:Nat) (g:Nat→Nat):Nat→Nat:=fun b=>if b=d then g b+1 else g b
inductive AOpd where
 | t (n:Nat)
 | c (v:AV)
 deriving Inhabited
def opv (s:St):AOpd→AV
 | .t n=>look s.t n
 | .c v=>v
inductive Res (α:Type) where
 | ok (a:α)
 | fail
 | vac
structure Eff where
 v:Option AV:=none
 /-- created: (block,contents) -/
 nw:Option (Nat×Blk):=none
 /-- dropped -/
 rm:Option Nat:=none
 /-- set in place -/
 st:Option (Nat×Blk):=none
 fz:List Nat:=[]
 /-- dropped,too -/
 rm2:Option Nat:=none
 /-- created,too -/
 nw2:Option (Nat×Blk):=none
inductive AOp where
 | mv (x:AOpd)
 | pick (c a b:AOpd)
 | alloc (zero:List AV)
 | box (x:AOpd) (n:Nat)
 | build (zero:List AV) (parts:List (Nat×Nat×AOpd))
 | mkrow (id len sz:Nat) (zero:List AV) (parts:List (Nat×Nat×AOpd))
 | load (n:Nat) (agg:Bool) (x:AOpd)
 | store (x:AOpd) (n:Nat) (v:AOpd)
 | fad (x:AOpd) (off:Nat)
 | iad (x i:AOpd) (sz len:Nat)
 | ias (x i:AOpd) (sz:Nat)
 | fld (x:AOpd) (off n:Nat) (agg:Bool)
 | idx (x i:AOpd) (sz len:Nat) (agg:Bool)
 | bin (op:BinOp) (x y:AOpd)
 | eqa (neg:Bool) (ks:List Bool) (x y:AOpd)
 | eqb (neg:Bool) (x y:AOpd)
 | un (op:UnOp) (x:AOpd)
 | conv (k:IntKind) (x:AOpd)
 | ext (x:AOpd) (i:Nat)
 | call (f:Nat) (args:List AOpd)
 | dyn (x:AOpd) (args:List AOpd)
 | app (id:Nat) (ws:List Nat) (x y:AOpd) (sz:Nat)
 | nil0 (id sz:Nat)
 | len (x:AOpd)
 | mnmx (mx:Bool) (x y:AOpd)
 | mks (id:Nat) (n:AOpd) (sz:Nat) (zero:List AV)
 | sl (x:AOpd) (lo hi:Option AOpd) (sz:Nat)
 | clear (x:AOpd) (sz:Nat) (zero:List AV)
 | clo (f:Nat) (caps:List AOpd)
 | chk (x:AOpd)
 | mkmap
 | mget (x k:AOpd) (z:AV)
 | ment (x k:AOpd) (z:AV)
 /-- what a map says of a key that is n numbers -/
 | aget (x k:AOpd) (n:Nat) (z:AV)
 /-- the entry of a key that is n numbers -/
 | aent (x k:AOpd) (n:Nat) (z:AV)
 | mset (x t v:AOpd)
 | mupd (x k v:AOpd)
 /-- how many entries a map has -/
 | mlen (x:AOpd)
 /-- a map's entries,in whatever order: none yet -/
 | mrng (x:AOpd)
 /-- the entry that came last -/
 | entry (x:AOpd)
 /-- made pure: what it leads to is frozen -/
 | frz (x:AOpd)
 /-- a call that is given blocks of the activation's own (bs),and may hand back a new one (nid) -/
 | gcall (f:Nat) (args:List AOpd) (bs:List Nat) (nid:Nat)
 /-- a call that is given none,or three blocks of the activation's own: the first one is kept,the others are dropped;two may be new -/
 | gcal2 (f:Nat) (args:List AOpd) (bs:List Nat) (n1 n2:Nat)
 /-- of strings: joined (0),the same (1),not the same (2),how long (3),a byte (4);of nil: is it (5),is it not (6) -/
 | str (k:Nat) (xs:List AOpd)
 /-- a string's part -/
 | ssl (x:AOpd) (lo hi:Option AOpd)
 /-- bytes as a string -/
 | b2s (x:AOpd)
 /-- an array's part -/
 | sla (x:AOpd) (lo hi:Option AOpd) (sz len:Nat)
 /-- a block that bears its type -/
 | alcT (t:Nat) (zero:List AV)
 /-- a string's bytes,or a row's,behind a row of bytes,which bears its elements' type -/
 | aps (id:Nat) (ws:List Nat) (x y:AOpd) (t:Nat)
 /-- strings.Builder's copyCheck -/
 | cck (f:Nat) (x:AOpd)
 /-- strings.Builder's String -/
 | bst (f:Nat) (x:AOpd)
 /-- nothing is told of it -/
 | no
 deriving Inhabited
structure AOper where
 d:Option Nat
 op:AOp
 gd:Option (Nat×Bool):=none
 /-- blocks that it may look at,or change -/
 fp:List Nat:=[]
 deriving Inhabited
inductive ACode where
 | skip
 | ops (l:List AOper) (live:List Nat)
 | seq (a b:ACode)
 | cond (c:AOpd) (a b:ACode)
 | block (id:Nat) (c:ACode)
 | loop (c:ACode)
 | keep (kt kh:List Nat) (c:ACode)
 | exit (id:Nat)
 | ret
 /-- some entry that has not come yet;or there is none -/
 | next (x:AOpd) (d e:Nat) (fp live:List Nat)
 /-- is a row nil? of one that is empty nobody knows -/
 | nilq (x:AOpd) (n d:Nat) (live:List Nat)
 deriving Inhabited
inductive ARes where
 | t (n:Nat)
 | cell (a n:Nat) (agg:Bool)
structure AFun where
 np:Nat
 nt:Nat
 code:ACode
 res:List ARes
def maxN:Nat:=9223372036854775807
def ibin (op:BinOp) (k:IntKind) (a b:Int):Option AV :=
 match op with
 | .add=>some (.int k (k.wrap (a+b)))
 | .sub=>some (.int k (k.wrap (a-b)))
 | .mul=>some (.int k (k.wrap (a*b)))
 | .quo=>if b=0 then none else some (.int k (k.wrap (a.tdiv b)))
 | .rem=>if b=0 then none else some (.int k (a.tmod b))
 | .and=>some (.int k (k.wrap (BitVec.ofInt k.bits a &&& BitVec.ofInt k.bits b).toNat))
 | .or=>some (.int k (k.wrap (BitVec.ofInt k.bits a ||| BitVec.ofInt k.bits b).toNat))
 | .xor=>some (.int k (k.wrap (BitVec.ofInt k.bits a ^^^ BitVec.ofInt k.bits b).toNat))
 | .andNot=>some (.int k (k.wrap (BitVec.ofInt k.bits a &&& ~~~ BitVec.ofInt k.bits b).toNat))
 | .eql=>some (.bool (decide (a=b)))
 | .neq=>some (.bool (decide (a≠b)))
 | .lss=>some (.bool (decide (a<b)))
 | .leq=>some (.bool (decide (a≤b)))
 | .gtr=>some (.bool (decide (a>b)))
 | .geq=>some (.bool (decide (a≥b)))
 | _=>none
def shift (op:BinOp) (k:IntKind) (a b:Int):Option AV :=
 if b<0 then none else
 match op with
 | .shl=>some (.int k (k.wrap (a*2^(min b.toNat k.bits))))
 | .shr=>some (.int k (a.fdiv (2^(min b.toNat k.bits))))
 | _=>none
def bin2 (op:BinOp):AV→AV→Option AV
 | .int k a,.int k' b=>match op with
  | .shl=>shift .shl k a b
  | .shr=>shift .shr k a b
  | op=>if k=k' then ibin op k a b else none
 | _,_=>none
def un1 (op:UnOp):AV→Option AV
 | .int k n=>match op with
  | .neg=>some (.int k (k.wrap (0-n)))
  | _=>none
 | .bool b=>match op with
  | .not=>some (.bool (!b))
  | _=>none
 | _=>none
def eqs:List Bool→List AV→List AV→Option Bool
 | [],[],[]=>some true
 | false::ks,.int k a::xs,.int k' b::ys=>if k=k' then (match eqs ks xs ys with|some r=>some (decide (a=b)&&r)|none=>none) else none
 | true::ks,.bool a::xs,.bool b::ys=>match eqs ks xs ys with|some r=>some ((a==b)&&r)|none=>none
 | _,_,_=>none
def rd (cs:List AV) (o n:Nat) (agg:Bool):Option AV :=
 if o+n≤cs.length then (if agg then some (.agg ((cs.drop o).take n)) else cs[o]?) else none
def wr (cs:List AV) (o:Nat) (vs:List AV):List AV:=cs.take o++vs++cs.drop (o+vs.length)
def mapTag:Nat:=1000000007
def liveAt (s:St) (fp:List Nat) (b g:Nat):Option Blk :=
 if fp.contains b then (if s.g b=g then hlook s.h b else none) else none
def blkAt (s:St) (fp:List Nat) (b g:Nat):Option Blk :=
 match liveAt s fp b g with
 | some k=>if k.esz=mapTag then none else some k
 | none=>none
def itOf:List AV→Option (Nat×Nat×Int×Int×List AV)
 | .mp b g::.int .i64 s::.int .i64 c::seen=>some (b,g,s,c,seen)
 | _=>none
def isIt:List AV→Bool
 | .mp _ _::_=>true
 | _=>false
def mapAt (s:St) (fp:List Nat) (b g:Nat):Option Blk :=
 match liveAt s fp b g with
 | some k=>if k.esz=mapTag∧isIt k.cs=false then some k else none
 | none=>none
def itAt (s:St) (fp:List Nat) (b g:Nat):Option Blk :=
 match liveAt s fp b g with
 | some k=>if k.esz=mapTag∧isIt k.cs=true then some k else none
 | none=>none
def entV (q:List AV) (c:Int) (seen:List AV):Option AV :=
 match seen.getLast? with
 | some (.int .i64 i)=>if c=(q.length/2:Nat)∧0≤i then (match q[2*i.toNat]?,q[2*i.toNat+1]? with
  | some k,some v=>some (.tup [k,v])
  | _,_=>none) else none
 | _=>none
def toCome (s:St) (fp:List Nat) (v:AV):Option (Nat×Blk×(Nat×Nat×Int×Int×List AV)×Nat) :=
 match v with
 | .ptr b g 0=>match itAt s fp b g with
  | some k=>match itOf k.cs with
   | some (mb,mg,n,c,seen)=>match mapAt s fp mb mg with
    | some q=>if k.frz=false∧((q.cs.length/2:Nat):Int)=n then some (b,k,(mb,mg,n,c,seen),q.cs.length/2) else none
    | none=>none
   | none=>none
  | none=>none
 | _=>none
def itMore (k:Blk) (z:Nat×Nat×Int×Int×List AV) (m i:Nat):Blk :=
 { k with cs:=.mp z.1 z.2.1::.int .i64 z.2.2.1::.int .i64 m::(z.2.2.2.2++[.int .i64 i]) }
def mfind (n:Int):List AV→Nat→Option (Nat×AV)
 | .int .i64 a::v::cs,i=>if n=a then some (i,v) else mfind n cs (i+1)
 | _,_=>none
def mgetV (n:Int) (cs:List AV) (z:AV):AV:=match mfind n cs 0 with
 | some (_,v)=>v
 | none=>z
def mputV (n:Int) (cs:List AV) (v:AV):List AV:=match mfind n cs 0 with
 | some (i,_)=>wr cs (2*i+1) [v]
 | none=>cs++[.int .i64 n,v]
def isA:List AV→Bool
 | .agg _::_=>true
 | _=>false
def aOk (n:Nat):List AV→Bool
 | []=>true
 | .agg ks::_=>ks.length==n
 | _=>false
def ints:List AV→Option (List Int)
 | []=>some []
 | .int .i64 a::l=>match ints l with
  | some r=>some (a::r)
  | none=>none
 | _=>none
def mfindA (a:List Int):List AV→Nat→Option (Nat×AV)
 | .agg ks::v::cs,i=>if ints ks=some a then some (i,v) else mfindA a cs (i+1)
 | _,_=>none
def mgetA (a:List Int) (cs:List AV) (z:AV):AV:=match mfindA a cs 0 with
 | some (_,v)=>v
 | none=>z
def AV.flat:AV→Bool
 | .int .. | .bool _=>true
 | _=>false
def fill (s:St):List AV→List (Nat×Nat×AOpd)→Option (List AV)
 | cs,[]=>some cs
 | cs,(o,n,x)::r =>
  match (opv s x).cells with
  | some vs=>if vs.length=n∧o+n≤cs.length then fill s (wr cs o vs) r else none
  | none=>none
def shows (s:St) (fp:List Nat) (sz:Nat):AV→Option (Nat×List AV)
 | .nils=>some (0,[])
 | .lst n xs=>if xs.length=n*sz then some (n,xs) else none
 | .own b g o n=>match blkAt s fp b g with
  | some k=>if o+n*sz≤k.cs.length then some (n,(k.cs.drop o).take (n*sz)) else none
  | none=>none
 | _=>none
def mapO (f:AV→Option (AV×List Nat)):List AV→Option (List AV×List Nat)
 | []=>some ([],[])
 | x::xs=>match f x,mapO f xs with
  | some (v,g),some (vs,gs)=>some (v::vs,g++gs)
  | _,_=>none
def pure1 (s : St) (fp : List Nat) : Nat → AV → Option (AV × List Nat)
  | 0, _ => none
  | m + 1, x => match x with
    | .nils => some (.lst 0 [], [])
    | .own b g o n => match blkAt s fp b g with
      | some k => if o + n * k.esz ≤ k.cs.length then
          (if ((k.cs.drop o).take (n * k.esz)).all AV.plain = true then some (.lst n ((k.cs.drop o).take (n * k.esz)), [b])
           else match mapO (pure1 s fp m) ((k.cs.drop o).take (n * k.esz)) with
            | some (vs, f) => some (.lst n vs, b :: f)
            | none => none) else none
      | none => none
    | .int k n => some (.int k n, [])
    | .bool b => some (.bool b, [])
    | .str b => some (.str b, [])
    | .lst n xs => some (.lst n xs, [])
    | .clo f c => some (.clo f c, [])
    | .ipt o xs => some (.ipt o xs, [])
    | .nilv i => some (.nilv i, [])
    | .ptr b g o => match blkAt s fp b g with
      | some k => if k.cs.all AV.plain = true then some (.ipt o k.cs, [b]) else (match mapO (pure1 s fp m) k.cs with
        | some (vs, f) => some (.ipt o vs, b :: f)
        | none => none)
      | none => none
    | _ => none
def pureV (s:St) (fp:List Nat):AV→Option (AV×List Nat)
 | .agg xs=>if xs.all AV.plain=true then some (.agg xs,[]) else match mapO (pure1 s fp 4) xs with
  | some (vs,f)=>some (.agg vs,f)
  | none=>none
 | v=>pure1 s fp 4 v
def pureVs (s:St) (fp:List Nat):List AV→Option (List AV×List Nat):=mapO (pureV s fp)
def caps (s:St) (fp:List Nat):List AV→Option (List AV×List Nat)
 | []=>some ([],[])
 | x::xs=>match x,caps s fp xs with
  | .ptr b g o,some (vs,fs)=>(match blkAt s fp b g with
   | some k=>if k.cs.all AV.plain then some (.ipt o k.cs::vs,b::fs) else none
   | none=>none)
  | .ipt o cs,some (vs,fs)=>some (.ipt o cs::vs,fs)
  | _,_=>none
abbrev Cs:=Nat→List AV→Option AV
def strEv:Nat→List AV→Option AV
 | 0,[.str a,.str b]=>if a.length+b.length≤maxN then some (.str (a++b)) else none
 | 1,[.str a,.str b]=>some (.bool (a==b))
 | 2,[.str a,.str b]=>some (.bool (!(a==b)))
 | 3,[.str a]=>if a.length≤maxN then some (.int .i64 a.length) else none
 | 4,[.str a,.int _ n]=>if 0≤n then (match a[n.toNat]? with|some c=>some (.int .u8 c.toNat)|none=>none) else none
 | 5,[.nilv true]=>some (.bool true)
 | 6,[.nilv true]=>some (.bool false)
 | _,_=>none
def bytesOf:List AV→Option (List UInt8)
 | []=>some []
 | .int .u8 n::xs=>if 0≤n∧n<256 then (match bytesOf xs with|some l=>some (UInt8.ofNat n.toNat::l)|none=>none) else none
 | _=>none
def byteAV (c:UInt8):AV:=.int .u8 (c.toNat:Int)
def showB (s:St) (fp:List Nat):AV→Option (Nat×List AV)
 | .str l=>some (l.length,l.map byteAV)
 | x=>shows s fp 1 x
def rowTag (t:Nat):Nat:=4096*(2*t+1)+1
def varTag (t:Nat):Nat:=4096*(2*t+2)+1
def sBase:Nat:=500000
def tBase:Nat:=750000
def gBase:Nat:=1000000
def posOf (b:Nat):List Nat→Nat→Option Nat
 | [],_=>none
 | x::xs,i=>if x=b then some i else posOf b xs (i+1)
def nrm1 (s:St) (fp bs:List Nat):AV→Option AV
 | .ptr b g o=>match posOf b bs 0,blkAt s fp b g with
  | some i,some _=>some (.ptr i 0 o)
  | _,_=>none
 | .own b g o n=>match posOf b bs 0,blkAt s fp b g with
  | some i,some _=>some (.own i 0 o n)
  | _,_=>none
 | .nils=>some .nils
 | x=>if x.plain=true then some x else none
def mapM1 (f:AV→Option AV):List AV→Option (List AV)
 | []=>some []
 | x::xs=>match f x,mapM1 f xs with
  | some y,some ys=>some (y::ys)
  | _,_=>none
def nrm (s:St) (fp bs:List Nat):AV→Option AV
 | .agg xs=>match mapM1 (nrm1 s fp bs) xs with
  | some ys=>some (.agg ys)
  | none=>none
 | x=>nrm1 s fp bs x
def garg (s:St) (fp bs:List Nat) (x:AV):Option (AV×List Nat) :=
 match nrm s fp bs x with
 | some y=>some (y,[])
 | none=>pureV s fp x
def gblks (s:St) (fp bs:List Nat):List Nat→Nat→Option Hp
 | [],_=>some []
 | b::r,i=>if fp.contains b=true then (match hlook s.h b with
  | some k=>if k.frz=false∧k.esz≠mapTag then (match mapM1 (nrm1 s fp bs) k.cs,gblks s fp bs r (i+1) with
   | some cs,some h=>some ((i,⟨cs,false,k.esz⟩)::h)
   | _,_=>none) else none
  | none=>gblks s fp bs r (i+1)) else none
def encB (p:Nat×Blk):AV:=.agg [.int .i64 p.1,.int .i64 p.2.esz,.agg p.2.cs]
def encs (h:Hp):List AV:=h.map encB
def decB:AV→Option (Nat×Blk)
 | .agg [.int .i64 (.ofNat b),.int .i64 (.ofNat e),.agg cs]=>some (b,⟨cs,false,e⟩)
 | _=>none
def decs:List AV→Option Hp
 | []=>some []
 | x::xs=>match decB x,decs xs with
  | some p,some h=>some (p::h)
  | _,_=>none
def up1 (m:Nat→Option (Nat×Nat)):AV→Option AV
 | .ptr i g o=>if g=0 then (match m i with
  | some (b,g')=>some (.ptr b g' o)
  | none=>none) else none
 | .own i g o n=>if g=0 then (match m i with
  | some (b,g')=>some (.own b g' o n)
  | none=>none) else none
 | .nils=>some .nils
 | x=>if x.plain=true then some x else none
def up2 (m:Nat→Option (Nat×Nat)):AV→Option AV
 | .agg xs=>match mapM1 (up1 m) xs with
  | some ys=>some (.agg ys)
  | none=>none
 | x=>up1 m x
def up (m:Nat→Option (Nat×Nat)):AV→Option AV
 | .tup xs=>match mapM1 (up2 m) xs with
  | some ys=>some (.tup ys)
  | none=>none
 | x=>up2 m x
def rep (n:Nat) (z:List AV):List AV:=(List.replicate n z).flatten
def offOf (i:Int) (len sz:Nat):Option Nat:=if 0≤i∧i<len then some (i.toNat*sz) else none
def bounds (s:St) (n:Nat) (lo hi:Option AOpd):Option (Nat×Nat) :=
 match hi with
 | none=>match lo with
  | none=>some (0,n)
  | some l=>match opv s l with
   | .int _ a=>if 0≤a∧a≤n then some (a.toNat,n) else none
   | _=>none
 | some h=>match opv s h with
  | .int _ b=>if 0≤b∧b≤n then (match lo with
   | none=>some (0,b.toNat)
   | some l=>match opv s l with
    | .int _ a=>if 0≤a∧a≤b then some (a.toNat,b.toNat) else none
    | _=>none) else none
  | _=>none
def val (v:AV):Res Eff:=.ok { v:=some v }
def valO:Option AV→Res Eff
 | some v=>.ok { v:=some v }
 | none=>.fail
def gmap (s:St) (kept new:Option Nat):Nat→Option (Nat×Nat)
 | 0=>match kept with
  | some b=>some (b,s.g b)
  | none=>none
 | 2=>match new with
  | some b=>some (b,s.g b+1)
  | none=>none
 | _=>none
def geff (s:St) (bs:List Nat) (nid:Nat) (fz:List Nat) (r:AV) (h:Hp):Res Eff :=
 match bs,h with
 | [],[]=>match up (gmap s none none) r with
  | some v=>.ok { v:=some v,fz:=fz }
  | none=>.fail
 | [],[(2,k)]=>match up (gmap s none (some nid)) r,mapM1 (up1 (gmap s none (some nid))) k.cs with
  | some v,some cs=>if k.esz≠mapTag then .ok { v:=some v,nw:=some (nid,⟨cs,false,k.esz⟩),fz:=fz } else .fail
  | _,_=>.fail
 | [b],[(0,k)]=>match up (gmap s (some b) none) r,mapM1 (up1 (gmap s (some b) none)) k.cs with
  | some v,some cs=>if (hlook s.h b).map (·.esz)=some k.esz then .ok { v:=some v,st:=some (b,⟨cs,false,k.esz⟩),fz:=fz } else .fail
  | _,_=>.fail
 | [b,x],[(0,k),(2,k2)]=>match up (gmap s (some b) (some nid)) r,mapM1 (up1 (gmap s (some b) (some nid))) k.cs,mapM1 (up1 (gmap s (some b) (some nid))) k2.cs with
  | some v,some cs,some cs2=>if (hlook s.h b).map (·.esz)=some k.esz∧k2.esz≠mapTag∧nid≠b∧b≠x then .ok { v:=some v,st:=some (b,⟨cs,false,k.esz⟩),rm:=some x,nw:=some (nid,⟨cs2,false,k2.esz⟩),fz:=fz } else .fail
  | _,_,_=>.fail
 | _,_=>.fail
def gmap2 (s:St) (kept n1 n2:Option Nat):Nat→Option (Nat×Nat)
 | 0=>match kept with
  | some b=>some (b,s.g b)
  | none=>none
 | 3=>match n1 with
  | some b=>some (b,s.g b+1)
  | none=>none
 | 4=>match n2 with
  | some b=>some (b,s.g b+1)
  | none=>none
 | _=>none
def geff2 (s:St) (bs:List Nat) (n1 n2:Nat) (fz:List Nat) (r:AV) (h:Hp):Res Eff :=
 match bs,h with
 | [],[(3,k3)]=>match up (gmap2 s none (some n1) none) r,mapM1 (up1 (gmap2 s none (some n1) none)) k3.cs with
  | some v,some c3=>if k3.esz≠mapTag then .ok { v:=some v,nw:=some (n1,⟨c3,false,k3.esz⟩),fz:=fz } else .fail
  | _,_=>.fail
 | [],[(3,k3),(4,k4)]=>match up (gmap2 s none (some n1) (some n2)) r,mapM1 (up1 (gmap2 s none (some n1) (some n2))) k3.cs,mapM1 (up1 (gmap2 s none (some n1) (some n2))) k4.cs with
  | some v,some c3,some c4=>if k3.esz≠mapTag∧k4.esz≠mapTag∧n1≠n2 then .ok { v:=some v,nw:=some (n1,⟨c3,false,k3.esz⟩),nw2:=some (n2,⟨c4,false,k4.esz⟩),fz:=fz } else .fail
  | _,_,_=>.fail
 | [b,x,y],[(0,k)]=>match up (gmap2 s (some b) none none) r,mapM1 (up1 (gmap2 s (some b) none none)) k.cs with
  | some v,some cs=>if (hlook s.h b).map (·.esz)=some k.esz∧b≠x∧b≠y∧x≠y then .ok { v:=some v,st:=some (b,⟨cs,false,k.esz⟩),rm:=some x,rm2:=some y,fz:=fz } else .fail
  | _,_=>.fail
 | [b,x,y],[(0,k),(3,k3)]=>match up (gmap2 s (some b) (some n1) none) r,mapM1 (up1 (gmap2 s (some b) (some n1) none)) k.cs,mapM1 (up1 (gmap2 s (some b) (some n1) none)) k3.cs with
  | some v,some cs,some c3=>if (hlook s.h b).map (·.esz)=some k.esz∧k3.esz≠mapTag∧n1≠b∧b≠x∧b≠y∧x≠y then .ok { v:=some v,st:=some (b,⟨cs,false,k.esz⟩),rm:=some x,rm2:=some y,nw:=some (n1,⟨c3,false,k3.esz⟩),fz:=fz } else .fail
  | _,_,_=>.fail
 | [b,x,y],[(0,k),(3,k3),(4,k4)]=>match up (gmap2 s (some b) (some n1) (some n2)) r,mapM1 (up1 (gmap2 s (some b) (some n1) (some n2))) k.cs,mapM1 (up1 (gmap2 s (some b) (some n1) (some n2))) k3.cs,mapM1 (up1 (gmap2 s (some b) (some n1) (some n2))) k4.cs with
  | some v,some cs,some c3,some c4=>if (hlook s.h b).map (·.esz)=some k.esz∧k3.esz≠mapTag∧k4.esz≠mapTag∧n1≠b∧n2≠b∧n1≠n2∧b≠x∧b≠y∧x≠y then .ok { v:=some v,st:=some (b,⟨cs,false,k.esz⟩),rm:=some x,rm2:=some y,nw:=some (n1,⟨c3,false,k3.esz⟩),nw2:=some (n2,⟨c4,false,k4.esz⟩),fz:=fz } else .fail
  | _,_,_,_=>.fail
 | _,_=>.fail
def eff (C:Cs) (s:St) (o:AOper):Res Eff :=
 match o.op with
 | .mv x=>val (opv s x)
 | .pick c a b=>match opv s c with
  | .bool t=>val (if t then opv s a else opv s b)
  | _=>.fail
 | .alloc z=>match o.d with
  | some d=>.ok { v:=some (.ptr d (s.g d+1) 0),nw:=some (d,⟨z,false,0⟩) }
  | none=>.fail
 | .box x n=>match o.d,(opv s x).cells with
  | some d,some cs=>if cs.length=n then .ok { v:=some (.ptr d (s.g d+1) 0),nw:=some (d,⟨cs,false,0⟩) } else .fail
  | _,_=>.fail
 | .build z ps=>match fill s z ps with
  | some cs=>val (.agg cs)
  | none=>.fail
 | .mkrow d len sz z ps=>match fill s (rep len z) ps with
  | some cs=>.ok { v:=some (.own d (s.g d+1) 0 len),nw:=some (d,⟨cs,false,sz⟩) }
  | none=>.fail
 | .nil0 d sz=>.ok { v:=some (.own d (s.g d+1) 0 0),nw:=some (d,⟨[],false,sz⟩) }
 | .load n agg x=>match opv s x with
  | .ptr b g p=>match blkAt s o.fp b g with
   | some k=>valO (rd k.cs p n agg)
   | none=>.fail
  | .ipt p cs=>valO (rd cs p n agg)
  | _=>.fail
 | .store x n v=>match opv s x with
  | .ptr b g p=>match blkAt s o.fp b g,(opv s v).cells with
   | some k,some vs=>if vs.length=n∧p+n≤k.cs.length∧k.frz=false∧vs.all AV.isCell=true then .ok { st:=some (b,{ k with cs:=wr k.cs p vs }) } else .fail
   | _,_=>.fail
  | _=>.fail
 | .fad x off=>match opv s x with
  | .ptr b g p=>match blkAt s o.fp b g with
   | some _=>val (.ptr b g (p+off))
   | none=>.fail
  | .ipt p cs=>val (.ipt (p+off) cs)
  | _=>.fail
 | .iad x i sz len=>match opv s i with
  | .int _ n=>match offOf n len sz with
   | some q=>match opv s x with
    | .ptr b g p=>match blkAt s o.fp b g with
     | some _=>val (.ptr b g (p+q))
     | none=>.fail
    | .ipt p cs=>val (.ipt (p+q) cs)
    | _=>.fail
   | none=>.fail
  | _=>.fail
 | .ias x i sz=>match opv s i with
  | .int _ n=>match opv s x with
   | .own b g p len=>match blkAt s o.fp b g,offOf n len sz with
    | some _,some q=>val (.ptr b g (p+q))
    | _,_=>.fail
   | .lst len cs=>match offOf n len sz with
    | some q=>val (.ipt q cs)
    | none=>.fail
   | _=>.fail
  | _=>.fail
 | .fld x off n agg=>match opv s x with
  | .agg cs=>valO (rd cs off n agg)
  | _=>.fail
 | .idx x i sz len agg=>match opv s x,opv s i with
  | .agg cs,.int _ n=>match offOf n len sz with
   | some q=>valO (rd cs q sz agg)
   | none=>.fail
  | _,_=>.fail
 | .bin op x y=>valO (bin2 op (opv s x) (opv s y))
 | .eqa neg ks x y=>match opv s x,opv s y with
  | .agg a,.agg b=>match eqs ks a b with
   | some t=>val (.bool (if neg then !t else t))
   | none=>.fail
  | _,_=>.fail
 | .eqb neg x y=>match opv s x,opv s y with
  | .bool a,.bool b=>val (.bool (if neg then a != b else a==b))
  | _,_=>.fail
 | .un op x=>valO (un1 op (opv s x))
 | .conv k x=>match opv s x with
  | .int _ n=>val (.int k (k.wrap n))
  | _=>.fail
 | .ext x i=>match opv s x with
  | .tup vs=>valO vs[i]?
  | _=>.fail
 | .call f args=>match pureVs s o.fp (args.map (opv s)) with
  | some (vs,fz)=>match C f vs with
   | some r=>.ok { v:=some r,fz:=fz }
   | none=>.fail
  | none=>.fail
 | .dyn x args=>match opv s x with
  | .clo f cp=>if f<500000 then (match pureVs s o.fp (args.map (opv s)) with
   | some (vs,fz)=>match C f (vs++cp) with
    | some r=>.ok { v:=some r,fz:=fz }
    | none=>.fail
   | none=>.fail) else .fail
  | _=>.fail
 | .app d ws x y sz=>match shows s o.fp sz (opv s y) with
  | some (m,ys)=>match opv s x with
   | .nils=>if m=0 then val .nils else
     if m≤1099511627776∧ys.all AV.isCell=true then .ok { v:=some (.own d (s.g d+1) 0 m),nw:=some (d,⟨ys,false,sz⟩) } else .fail
   | .own b g p n=>if ws.contains b then (match blkAt s o.fp b g with
    | some k=>if p=0∧n*sz≤k.cs.length∧k.frz=false∧k.esz=sz∧n+m≤1099511627776∧ys.all AV.isCell=true then
      .ok { v:=some (.own d (s.g d+1) 0 (n+m)),rm:=some b,nw:=some (d,⟨k.cs.take (n*sz)++ys,false,sz⟩) } else .fail
    | none=>.fail) else .fail
   | _=>.fail
  | none=>.fail
 | .len x=>match opv s x with
  | .own b g _ n=>match blkAt s o.fp b g with
   | some _=>if n≤maxN then val (.int .i64 n) else .vac
   | none=>.fail
  | .lst n _=>if n≤maxN then val (.int .i64 n) else .vac
  | .nils=>val (.int .i64 0)
  | _=>.fail
 | .mnmx mx x y=>match opv s x,opv s y with
  | .int k a,.int k' b=>if k=k' then val (.int k (if mx then (if b>a then b else a) else (if b<a then b else a))) else .fail
  | _,_=>.fail
 | .mks d n sz z=>match opv s n with
  | .int _ m=>if 0≤m∧m≤1099511627776 then .ok { v:=some (.own d (s.g d+1) 0 m.toNat),nw:=some (d,⟨rep m.toNat z,false,sz⟩) } else .fail
  | _=>.fail
 | .sl x lo hi sz=>match opv s x with
  | .own b g p n=>match blkAt s o.fp b g,bounds s n lo hi with
   | some _,some (l,h)=>val (.own b g (p+l*sz) (h-l))
   | _,_=>.fail
  | .lst n xs=>match bounds s n lo hi with
   | some (l,h)=>val (.lst (h-l) ((xs.drop (l*sz)).take ((h-l)*sz)))
   | none=>.fail
  | .nils=>match bounds s 0 lo hi with
   | some _=>val .nils
   | none=>.fail
  | _=>.fail
 | .clear x sz z=>match opv s x with
  | .own b g p n=>match blkAt s o.fp b g with
   | some k=>if p+n*sz≤k.cs.length∧k.frz=false then .ok { st:=some (b,{ k with cs:=wr k.cs p (rep n z) }) } else .fail
   | none=>.fail
  | .nils=>.ok {}
  | _=>.fail
 | .clo f cs=>match caps s o.fp (cs.map (opv s)) with
  | some (vs,fz)=>.ok { v:=some (.clo f vs),fz:=fz }
  | none=>.fail
 | .chk x=>match opv s x with
  | .ptr b g p=>match blkAt s o.fp b g with
   | some _=>val (.ptr b g p)
   | none=>.fail
  | .ipt p cs=>val (.ipt p cs)
  | _=>.fail
 | .mkmap=>match o.d with
  | some d=>.ok { v:=some (.mp d (s.g d+1)),nw:=some (d,⟨[],false,mapTag⟩) }
  | none=>.fail
 | .mget x k z=>match opv s x,opv s k with
  | .mp b g,.int .i64 n=>match mapAt s o.fp b g with
   | some q=>if isA q.cs=true then .fail else val (mgetV n q.cs z)
   | none=>.fail
  | _,_=>.fail
 | .ment x k z=>match opv s x,opv s k with
  | .mp b g,.int .i64 n=>match mapAt s o.fp b g with
   | some q=>if q.frz=false∧isA q.cs=false then (match mfind n q.cs 0 with
    | some (i,v)=>.ok { v:=some (.tup [v,.int .i64 i]),st:=some (b,q) }
    | none=>.ok { v:=some (.tup [z,.int .i64 (q.cs.length/2:Nat)]),st:=some (b,{ q with cs:=q.cs++[.int .i64 n,z] }) }) else .fail
   | none=>.fail
  | _,_=>.fail
 | .aget x k n z=>match opv s x,opv s k with
  | .mp b g,.agg ks=>match mapAt s o.fp b g,ints ks with
   | some q,some a=>if aOk n q.cs=true∧a.length=n then val (mgetA a q.cs z) else .fail
   | _,_=>.fail
  | _,_=>.fail
 | .aent x k n z=>match opv s x,opv s k with
  | .mp b g,.agg ks=>match mapAt s o.fp b g,ints ks with
   | some q,some a=>if q.frz=false∧aOk n q.cs=true∧a.length=n∧q.cs.length % 2=0 then (match mfindA a q.cs 0 with
    | some (i,v)=>.ok { v:=some (.tup [v,.int .i64 i]),st:=some (b,q) }
    | none=>.ok { v:=some (.tup [z,.int .i64 (q.cs.length/2:Nat)]),st:=some (b,{ q with cs:=q.cs++[.agg ks,z] }) }) else .fail
   | _,_=>.fail
  | _,_=>.fail
 | .mset x t v=>match opv s x,opv s t with
  | .mp b g,.int .i64 i=>match mapAt s o.fp b g with
   | some q=>if q.frz=false∧0≤i∧2*i.toNat+1<q.cs.length∧(opv s v).flat=true then .ok { st:=some (b,{ q with cs:=wr q.cs (2*i.toNat+1) [opv s v] }) } else .fail
   | none=>.fail
  | _,_=>.fail
 | .mupd x k v=>match opv s x,opv s k with
  | .mp b g,.int .i64 n=>match mapAt s o.fp b g with
   | some q=>if q.frz=false∧isA q.cs=false∧(opv s v).flat=true then .ok { st:=some (b,{ q with cs:=mputV n q.cs (opv s v) }) } else .fail
   | none=>.fail
  | _,_=>.fail

 | .mlen x=>match opv s x with
  | .mp b g=>match mapAt s o.fp b g with
   | some q=>val (.int .i64 (q.cs.length/2:Nat))
   | none=>.fail
  | _=>.fail
 | .mrng x=>match o.d,opv s x with
  | some d,.mp b g=>match mapAt s o.fp b g with
   | some q=>if b≠d then .ok { v:=some (.ptr d (s.g d+1) 0),nw:=some (d,⟨[.mp b g,.int .i64 (q.cs.length/2:Nat),.int .i64 (q.cs.length/2:Nat)],false,mapTag⟩) } else .fail
   | none=>.fail
  | _,_=>.fail
 | .entry x=>match opv s x with
  | .ptr b g 0=>match itAt s o.fp b g with
   | some k=>match itOf k.cs with
    | some (mb,mg,_,c,seen)=>match mapAt s o.fp mb mg with
     | some q=>match entV q.cs c seen with
      | some v=>val v
      | none=>.fail
     | none=>.fail
    | none=>.fail
   | none=>.fail
  | _=>.fail
 | .frz x=>match pureV s o.fp (opv s x) with
  | some (v,fz)=>.ok { v:=some v,fz:=fz }
  | none=>.fail
 | .gcall f args bs nid=>match mapO (garg s o.fp bs) (args.map (opv s)),gblks s o.fp bs bs 0 with
  | some (vs,fz),some h=>if fz.all (fun b => !bs.contains b)=true then (match C (1000000+f) (vs++[.tup (encs h)]) with
   | some (.tup (r::out))=>match decs out with
    | some h'=>geff s bs nid fz r h'
    | none=>.fail
   | _=>.fail) else .fail
  | _,_=>.fail
 | .gcal2 f args bs n1 n2=>match mapO (garg s o.fp bs) (args.map (opv s)),gblks s o.fp bs bs 0 with
  | some (vs,fz),some h=>if fz.all (fun b => !bs.contains b)=true then (match C (1000000+f) (vs++[.tup (encs h)]) with
   | some (.tup (r::out))=>match decs out with
    | some h'=>geff2 s bs n1 n2 fz r h'
    | none=>.fail
   | _=>.fail) else .fail
  | _,_=>.fail
 | .str k xs=>valO (strEv k (xs.map (opv s)))
 | .ssl x lo hi=>match opv s x with
  | .str a=>match bounds s a.length lo hi with
   | some (l,h)=>val (.str ((a.take h).drop l))
   | none=>.fail
  | _=>.fail
 | .b2s x=>match shows s o.fp 1 (opv s x) with
  | some (n,ys)=>match bytesOf ys with
   | some l=>if n≠0∧n≤1099511627776 then val (.str l) else .fail
   | none=>.fail
  | none=>.fail
 | .sla x lo hi sz len=>match opv s x with
  | .ptr b g p=>match blkAt s o.fp b g,bounds s len lo hi with
   | some k,some (l,h)=>if p+len*sz≤k.cs.length∧len≤1099511627776∧0<sz∧(p+l*sz≠0∨(k.esz % 4096=sz∧4096≤k.esz∧(k.esz/4096)%2=0∧len*sz=k.cs.length)) then val (.own b g (p+l*sz) (h-l)) else .fail
   | _,_=>.fail
  | _=>.fail
 | .alcT t z=>match o.d with
  | some d=>.ok { v:=some (.ptr d (s.g d+1) 0),nw:=some (d,⟨z,false,varTag t⟩) }
  | none=>.fail
 | .aps d ws x y t=>match showB s o.fp (opv s y) with
  | some (m,ys)=>match opv s x with
   | .nils=>if m≠0∧m≤1099511627776∧ys.all AV.isCell=true then .ok { v:=some (.own d (s.g d+1) 0 m),nw:=some (d,⟨ys,false,rowTag t⟩) } else .fail
   | .own b g p n=>if ws.contains b then (match blkAt s o.fp b g with
    | some k=>if m≠0∧p=0∧n≠0∧n≤k.cs.length∧k.frz=false∧k.esz=rowTag t∧n+m≤1099511627776∧ys.all AV.isCell=true then
      .ok { v:=some (.own d (s.g d+1) 0 (n+m)),rm:=some b,nw:=some (d,⟨k.cs.take n++ys,false,rowTag t⟩) } else .fail
    | none=>.fail) else .fail
   | _=>.fail
  | none=>.fail
 | .cck f x=>match opv s x,C (500000+f) [] with
  | .ptr b g 0,some (.int .i64 (.ofNat t))=>match blkAt s o.fp b g with
   | some k=>if k.esz=varTag t∧k.frz=false then (match k.cs with
    | [.nilv false,c]=>.ok { v:=some (.tup []),st:=some (b,{ k with cs:=[.ptr b g 0,c] }) }
    | [.ptr b' g' 0,_]=>if b'=b∧g'=g then .ok { v:=some (.tup []) } else .fail
    | _=>.fail) else .fail
   | none=>.fail
  | _,_=>.fail
 | .bst f x=>match opv s x,C (750000+f) [] with
  | .ptr b g 0,some (.tup [.int .i64 (.ofNat t),.int .i64 (.ofNat e)])=>match blkAt s o.fp b g with
   | some k=>match k.cs with
    | [_,.own d g' 0 n]=>match blkAt s o.fp d g' with
     | some q=>if k.esz=varTag t∧q.esz=rowTag e∧q.frz=false∧n≠0∧d≠b∧n≤q.cs.length then (match bytesOf (q.cs.take n) with
      | some l=>.ok { v:=some (.str l),rm:=some d }
      | none=>.fail) else .fail
     | none=>.fail
    | _=>.fail
   | none=>.fail
  | _,_=>.fail
 | .no=>.fail
def frzAll (ids:List Nat):Hp→Hp
 | []=>[]
 | (k,b)::l=>(k,if ids.contains k then { b with frz:=true } else b)::frzAll ids l
def putO (d:Option Nat) (v:Option AV) (t:Env):Env :=
 match d with
 | some d=>match v with
  | some v=>put t d v
  | none=>put t d .junk
 | none=>t
def appH (e:Eff) (h:Hp):Hp :=
 let h1:=match e.fz with|[]=>h|f=>frzAll f h
 let h2:=match e.rm with|some b=>hdel h1 b|none=>h1
 let h2:=match e.rm2 with|some b=>hdel h2 b|none=>h2
 let h3:=match e.st with|some (b,k)=>hput h2 b k|none=>h2
 let h4:=match e.nw with|some (b,k)=>hput h3 b k|none=>h3
 match e.nw2 with|some (b,k)=>hput h4 b k|none=>h4
def appG (e:Eff) (g:Nat→Nat):Nat→Nat :=
 let g1:=match e.nw with|some (b,_)=>bump b g|none=>g
 match e.nw2 with|some (b,_)=>bump b g1|none=>g1
def app (d:Option Nat) (e:Eff) (s:St):St:={ t:=putO d e.v s.t,h:=appH e s.h,g:=appG e s.g }
def ap (d:Option Nat) (s:St):Res Eff→Res St
 | .ok e=>.ok (app d e s)
 | .fail=>.fail
 | .vac=>.vac
def evOper (C:Cs) (s:St) (o:AOper):Res St :=
 match o.gd with
 | none=>ap o.d s (eff C s o)
 | some (g,want)=>match look s.t g with
  | .bool t=>if t=want then ap o.d s (eff C s o) else .ok { s with t:=putO o.d (some .und) s.t }
  | .und=>.ok { s with t:=putO o.d (some .und) s.t }
  | _=>.fail
def evOps (C:Cs):List AOper→St→Res St
 | [],s=>.ok s
 | o::l,s=>match evOper C s o with
  | .ok s'=>evOps C l s'
  | .fail=>.fail
  | .vac=>.vac
inductive Ex where
 | normal
 | exit (id:Nat)
 | ret
 deriving DecidableEq
abbrev Post:=Ex→St→Prop
def iter (W:St→Post→Prop):Nat→St→Post→Prop
 | 0,_,_=>False
 | n+1,s,Q=>W s fun e s'=>match e with
  | .normal=>iter W n s' Q
  | e=>Q e s'
def Res.elim:Res St→(St→Prop)→Prop
 | .ok s,K=>K s
 | .fail,_=>False
 | .vac,_=>True
def wpC (C:Cs):ACode→St→Post→Prop
 | .skip,s,Q=>Q .normal s
 | .ops l live,s,Q=>(evOps C l s).elim fun s'=>Q .normal { s' with t:=keepT s'.t live }
 | .seq a b,s,Q=>wpC C a s fun e s'=>match e with
  | .normal=>wpC C b s' Q
  | e=>Q e s'
 | .cond c a b,s,Q=>match opv s c with
  | .bool t=>(t=true→wpC C a s Q)∧(t=false→wpC C b s Q)
  | _=>False
 | .block id c,s,Q=>wpC C c s fun e s'=>match e with
  | .exit id'=>if id'=id then Q .normal s' else Q (.exit id') s'
  | e=>Q e s'
 | .loop c,s,Q=>∃ n,iter (wpC C c) n s Q
 | .keep kt kh c,s,Q=>wpC C c { t:=keepT s.t kt,h:=keepH s.h kh,g:=s.g } Q
 | .exit id,s,Q=>Q (.exit id) s
 | .ret,s,Q=>Q .ret s
 | .next x d e fp live,s,Q=>match toCome s fp (opv s x) with
  | some (b,k,z,m)=>(∀ i:Nat,i<m→(∀ y∈z.2.2.2.2,y≠.int .i64 i)→Q .normal ⟨keepT (put (put s.t d .junk) e (.bool true)) live,hput s.h b (itMore k z m i),s.g⟩) ∧
    ((∀ i:Nat,i<m→∃ y∈z.2.2.2.2,y=.int .i64 i)→Q .normal ⟨keepT (put (put s.t d .junk) e (.bool false)) live,s.h,s.g⟩)
  | none=>False
 | .nilq x n d live,s,Q=>match opv s x with
  | .nils=>Q .normal ⟨keepT (put (put s.t n .nils) d (.bool true)) live,s.h,s.g⟩
  | .lst k xs=>(k=0→Q .normal ⟨keepT (put (put s.t n (.lst k xs)) d (.bool true)) live,s.h,s.g⟩)∧Q .normal ⟨keepT (put (put s.t n (.lst k xs)) d (.bool false)) live,s.h,s.g⟩
  | _=>False
def resV (s:St):ARes→Option AV
 | .t n=>some (look s.t n)
 | .cell a n agg=>match look s.t a with
  | .ptr b g p=>match blkAt s [b] b g with
   | some k=>rd k.cs p n agg
   | none=>none
  | _=>none
def resVs (s:St):List ARes→Option (List AV)
 | []=>some []
 | r::rs=>match resV s r,resVs s rs with
  | some v,some vs=>some (v::vs)
  | _,_=>none
def oneOrTup:List AV→AV
 | [v]=>v
 | vs=>.tup vs
def handed (s:St) (rs:List ARes):Option AV :=
 match resVs s rs with
 | some vs=>match pureVs s (s.h.map (·.1)) vs with
  | some (vs,_)=>some (oneOrTup vs)
  | none=>none
 | none=>none
def nope:Nat:=999999937
def ghanded (s:St) (rs:List ARes) (kept:Bool) (new:Option Nat):Option (AV×Hp) :=
 let bs:=[if kept then 0 else nope,nope,new.getD nope]
 let fp:=s.h.map (·.1)
 match resVs s rs with
 | some vs=>match mapO (garg s fp bs) vs,gblks s fp bs (if kept then [0] else []) 0,gblks s fp bs new.toList 2 with
  | some (vs,fz),some h0,some h2=>if fz.all (fun b => !bs.contains b)=true∧s.g 0=0∧new≠some 0∧new≠some nope then some (oneOrTup vs,h0++h2) else none
  | _,_,_=>none
 | none=>none
def ghanded2 (s:St) (rs:List ARes) (kept:Bool) (n1 n2:Option Nat):Option (AV×Hp) :=
 let bs:=[if kept then 0 else nope,nope,nope,n1.getD nope,n2.getD nope]
 let fp:=s.h.map (·.1)
 match resVs s rs with
 | some vs=>match mapO (garg s fp bs) vs,gblks s fp bs (if kept then [0] else []) 0,gblks s fp bs n1.toList 3,gblks s fp bs n2.toList 4 with
  | some (vs,fz),some h0,some h3,some h4=>if fz.all (fun b => !bs.contains b)=true∧s.g 0=0∧n1≠some 0∧n2≠some 0∧(n1=none∨n1≠n2) then some (oneOrTup vs,h0++h3++h4) else none
  | _,_,_,_=>none
 | none=>none
def argEnv:Nat→List AV→Env
 | _,[]=>[]
 | i,v::vs=>(i,v)::argEnv (i+1) vs
def fin (rs:List ARes) (r:AV):Post:=fun e s=>match e with
 | .normal|.ret=>handed s rs=some r
 | .exit _=>False
def gfin (rs:List ARes) (kept:Bool) (r:AV) (h':Hp):Post:=fun e s=>match e with
 | .normal|.ret=>∃ new,ghanded s rs kept new=some (r,h')
 | .exit _=>False
def gfin2 (rs:List ARes) (kept:Bool) (r:AV) (h':Hp):Post:=fun e s=>match e with
 | .normal|.ret=>∃ n1 n2,ghanded2 s rs kept n1 n2=some (r,h')
 | .exit _=>False
def Runs (C:Cs) (f:AFun) (args:List AV) (r:AV):Prop :=
 args.length=f.np∧∀ g,wpC C f.code { t:=argEnv 0 args,h:=[],g:=g } (fin f.res r)
end Go.Am
namespace Go.Am
inductive Fr where
 | c (b:ACode)
 | blk (id:Nat)
 | lp (b:ACode)
def kont (C:Cs):List Fr→Post→Ex→St→Prop
 | [],Q,e,s=>Q e s
 | .c b::k,Q,e,s=>match e with
  | .normal=>wpC C b s (kont C k Q)
  | e=>kont C k Q e s
 | .blk id::k,Q,e,s=>match e with
  | .exit id'=>if id'=id then kont C k Q .normal s else kont C k Q (.exit id') s
  | e=>kont C k Q e s
 | .lp b::k,Q,e,s=>match e with
  | .normal=>wpC C (.loop b) s (kont C k Q)
  | e=>kont C k Q e s
def run (C:Cs) (c:ACode) (k:List Fr) (s:St) (Q:Post):Prop:=wpC C c s (kont C k Q)
def goOps (C:Cs) (l:List AOper) (s:St) (kill:List Nat) (k:List Fr) (Q:Post):Prop:=(evOps C l s).elim fun s'=>kont C k Q .normal { s' with t:=keepT s'.t kill }
def goR (C:Cs) (r:Res St) (l:List AOper) (kill:List Nat) (k:List Fr) (Q:Post):Prop :=
 (match r with|.ok s=>evOps C l s|.fail=>.fail|.vac=>.vac).elim fun s'=>kont C k Q .normal { s' with t:=keepT s'.t kill }
def goE (C:Cs) (d:Option Nat) (s:St) (r:Res Eff) (l:List AOper) (kill:List Nat) (k:List Fr) (Q:Post):Prop:=goR C (ap d s r) l kill k Q
variable {C:Cs} {Q:Post} {s:St} {k:List Fr}
theorem run_def {c:ACode} (h:run C c [] s Q):wpC C c s Q:=by
 have:kont C [] Q=Q:=by funext e s;rfl
 unfold run at h;rw[this] at h;exact h
theorem run_seq (a b:ACode):run C (.seq a b) k s Q=run C a (.c b::k) s Q:=by
 unfold run;rw[wpC];congr 1
theorem run_block (id:Nat) (c:ACode):run C (.block id c) k s Q=run C c (.blk id::k) s Q:=by
 unfold run;rw[wpC];congr 1
theorem run_skip:run C .skip k s Q=kont C k Q .normal s:=rfl
theorem run_ret:run C .ret k s Q=kont C k Q .ret s:=rfl
theorem run_nilq_lst (x:AOpd) (n d:Nat) (live:List Nat) {m:Nat} {xs:List AV} (h:opv s x=.lst m xs)
  (h1:m=0→kont C k Q .normal ⟨keepT (put (put s.t n (.lst m xs)) d (.bool true)) live,s.h,s.g⟩) (h2:kont C k Q .normal ⟨keepT (put (put s.t n (.lst m xs)) d (.bool false)) live,s.h,s.g⟩):run C (.nilq x n d live) k s Q:=by
 unfold run
 rw[wpC,h]
 exact⟨h1,h2⟩
theorem run_exit (id:Nat):run C (.exit id) k s Q=kont C k Q (.exit id) s:=rfl
theorem run_ops (l:List AOper) (kill:List Nat):run C (.ops l kill) k s Q=goOps C l s kill k Q:=rfl
theorem run_keep (kt kh:List Nat) (c:ACode):run C (.keep kt kh c) k s Q=run C c k { t:=keepT s.t kt,h:=keepH s.h kh,g:=s.g } Q:=rfl
def goC (C:Cs) (v:AV) (a b:ACode) (k:List Fr) (s:St) (Q:Post):Prop :=
 match v with
 | .bool t=>(t=true→run C a k s Q)∧(t=false→run C b k s Q)
 | _=>False
theorem run_cond (c:AOpd) (a b:ACode):run C (.cond c a b) k s Q=goC C (opv s c) a b k s Q:=by
 unfold run goC;rw[wpC];rfl
theorem goC_bool (t:Bool) (a b:ACode):goC C (.bool t) a b k s Q=((t=true→run C a k s Q)∧(t=false→run C b k s Q)):=rfl
theorem kont_nil (e:Ex):kont C [] Q e s=Q e s:=rfl
theorem kont_c (b:ACode):kont C (.c b::k) Q .normal s=run C b k s Q:=rfl
theorem kont_c_ret (b:ACode):kont C (.c b::k) Q .ret s=kont C k Q .ret s:=rfl
theorem kont_c_exit (b:ACode) (id:Nat):kont C (.c b::k) Q (.exit id) s=kont C k Q (.exit id) s:=rfl
theorem kont_blk (id:Nat):kont C (.blk id::k) Q .normal s=kont C k Q .normal s:=rfl
theorem kont_blk_ret (id:Nat):kont C (.blk id::k) Q .ret s=kont C k Q .ret s:=rfl
theorem kont_blk_exit (id id':Nat):kont C (.blk id::k) Q (.exit id') s=if id'=id then kont C k Q .normal s else kont C k Q (.exit id') s:=rfl
theorem goOps_nil (t:Env) (h:Hp) (g:Nat→Nat) (kill:List Nat):goOps C [] ⟨t,h,g⟩ kill k Q=kont C k Q .normal ⟨keepT t kill,h,g⟩:=rfl
theorem goOps_cons (o:AOper) (l:List AOper) (kill:List Nat):goOps C (o::l) s kill k Q=goR C (evOper C s o) l kill k Q:=rfl
theorem goR_ok (l:List AOper) (kill:List Nat):goR C (.ok s) l kill k Q=goOps C l s kill k Q:=rfl
theorem goR_ap (d:Option Nat) (r:Res Eff) (l:List AOper) (kill:List Nat):goR C (ap d s r) l kill k Q=goE C d s r l kill k Q:=rfl
theorem goE_ok (d:Option Nat) (e:Eff) (l:List AOper) (kill:List Nat):goE C d s (.ok e) l kill k Q=goOps C l (app d e s) kill k Q:=rfl
theorem goE_fail (d:Option Nat) (l:List AOper) (kill:List Nat):goE C d s .fail l kill k Q=False:=rfl
theorem goE_vac (d:Option Nat) (l:List AOper) (kill:List Nat):goE C d s .vac l kill k Q=True:=rfl
theorem goE_ite (p:Prop) [Decidable p] (d:Option Nat) (x y:Res Eff) (l:List AOper) (kill:List Nat) :
  goE C d s (if p then x else y) l kill k Q=((p→goE C d s x l kill k Q)∧(¬ p→goE C d s y l kill k Q)):=by
 by_cases h:p<;>simp[h]
theorem goR_ite (p:Prop) [Decidable p] (x y:Res St) (l:List AOper) (kill:List Nat) :
  goR C (if p then x else y) l kill k Q=((p→goR C x l kill k Q)∧(¬ p→goR C y l kill k Q)):=by
 by_cases h:p<;>simp[h]
theorem evOper_none (d:Option Nat) (op:AOp) (fp:List Nat):evOper C s ⟨d,op,none,fp⟩=ap d s (eff C s ⟨d,op,none,fp⟩):=rfl
def goG (C:Cs) (v:AV) (want:Bool) (s:St) (o:AOper):Res St :=
 match v with
 | .bool t=>if t=want then ap o.d s (eff C s o) else .ok { s with t:=putO o.d (some .und) s.t }
 | .und=>.ok { s with t:=putO o.d (some .und) s.t }
 | _=>.fail
theorem evOper_some (d:Option Nat) (op:AOp) (g:Nat) (want:Bool) (fp:List Nat) :
  evOper C s ⟨d,op,some (g,want),fp⟩=goG C (look s.t g) want s ⟨d,op,some (g,want),fp⟩:=by
 unfold evOper goG;simp only[]<;>rfl
theorem goG_bool (t want:Bool) (t0:Env) (h:Hp) (gg:Nat→Nat) (d:Option Nat) (op:AOp) (gd:Option (Nat×Bool)) (fp:List Nat) :
  goG C (.bool t) want ⟨t0,h,gg⟩ ⟨d,op,gd,fp⟩=if t=want then ap d ⟨t0,h,gg⟩ (eff C ⟨t0,h,gg⟩ ⟨d,op,gd,fp⟩) else .ok ⟨putO d (some .und) t0,h,gg⟩:=rfl
theorem goG_und (want:Bool) (t0:Env) (h:Hp) (gg:Nat→Nat) (d:Option Nat) (op:AOp) (gd:Option (Nat×Bool)) (fp:List Nat) :
  goG C .und want ⟨t0,h,gg⟩ ⟨d,op,gd,fp⟩=.ok ⟨putO d (some .und) t0,h,gg⟩:=rfl
theorem app_mk (d:Option Nat) (e:Eff) (t:Env) (h:Hp) (g:Nat→Nat):app d e ⟨t,h,g⟩=⟨putO d e.v t,appH e h,appG e g⟩:=rfl
theorem fin_ret (rs:List ARes) (r:AV):fin rs r .ret s=(handed s rs=some r):=rfl
theorem fin_normal (rs:List ARes) (r:AV):fin rs r .normal s=(handed s rs=some r):=rfl
theorem elim_mono {r:Res St} {K K':St→Prop} (h:∀ s,K s→K' s) (hr:r.elim K):r.elim K':=by
 cases r with
 | ok s=>exact h _ hr
 | fail=>exact hr
 | vac=>trivial
theorem iter_mono {W:St→Post→Prop} (hW:∀ s (Q Q':Post),(∀ e s,Q e s→Q' e s)→W s Q→W s Q') {Q Q':Post} (h:∀ e s,Q e s→Q' e s) :
  ∀ n s,iter W n s Q→iter W n s Q'
 | 0,_,hi=>hi
 | n+1,s,hi=>by
  refine hW s _ _ ?_ hi
  intro e s' he
  cases e with
  | normal=>exact iter_mono hW h n s' he
  | exit id=>exact h _ _ he
  | ret=>exact h _ _ he
theorem wpC_mono:∀(c:ACode) (s:St) (Q Q':Post),(∀ e s,Q e s→Q' e s)→wpC C c s Q→wpC C c s Q'
 | .skip,s,Q,Q',h,hw=>h _ _ hw
 | .ops l kill,s,Q,Q',h,hw=>elim_mono (fun _=>h _ _) hw
 | .seq a b,s,Q,Q',h,hw=>by
  refine wpC_mono a s _ _ ?_ hw
  intro e s' he
  cases e with
  | normal=>exact wpC_mono b s' _ _ h he
  | exit id=>exact h _ _ he
  | ret=>exact h _ _ he
 | .cond c a b,s,Q,Q',h,hw=>by
  unfold wpC at hw ⊢
  split at hw
  ·exact⟨fun t=>wpC_mono a s _ _ h (hw.1 t),fun t=>wpC_mono b s _ _ h (hw.2 t)⟩
  ·exact hw
 | .block id c,s,Q,Q',h,hw=>by
  refine wpC_mono c s _ _ ?_ hw
  intro e s' he
  cases e with
  | normal=>exact h _ _ he
  | exit id' =>
   simp only at he ⊢
   split
   ·rw[if_pos ‹_›] at he;exact h _ _ he
   ·rw[if_neg ‹_›] at he;exact h _ _ he
  | ret=>exact h _ _ he
 | .loop c,s,Q,Q',h,hw=>by
  obtain⟨n,hn⟩:=hw
  exact⟨n,iter_mono (fun s Q Q'=>wpC_mono c s Q Q') h n s hn⟩
 | .keep kt kh c,s,Q,Q',h,hw=>wpC_mono c _ _ _ h hw
 | .exit id,s,Q,Q',h,hw=>h _ _ hw
 | .ret,s,Q,Q',h,hw=>h _ _ hw
 | .next x d e fp live,s,Q,Q',h,hw=>by
  unfold wpC at hw ⊢
  split at hw
  ·exact⟨fun i hi hn=>h _ _ (hw.1 i hi hn),fun hn=>h _ _ (hw.2 hn)⟩
  ·exact hw
 | .nilq x n d live,s,Q,Q',h,hw=>by
  unfold wpC at hw ⊢
  split at hw
  ·exact h _ _ hw
  ·exact⟨fun e=>h _ _ (hw.1 e),h _ _ hw.2⟩
  ·exact hw
theorem run_loop {c:ACode} (I:Nat→St→Prop) (n:Nat) (h0:I n s)
  (step:∀ n s,I n s→run C c [] s fun e s'=>match e with
   | .normal=>∃ m,m<n∧I m s'
   | e=>kont C k Q e s'):run C (.loop c) k s Q:=by
 unfold run
 rw[wpC]
 have key:∀ n s,I n s→∀ N,n<N→iter (wpC C c) N s (kont C k Q):=by
  intro n
  induction n using Nat.strongRecOn with
  | _ n ih =>
   intro s hs N hN
   obtain⟨N,rfl⟩:∃ M,N=M+1:=⟨N-1,by omega⟩
   refine wpC_mono c s _ _ ?_ (run_def (step n s hs))
   intro e s' he
   cases e with
   | normal=>obtain⟨m,hm,hi⟩:=he;exact ih m hm s' hi N (by omega)
   | exit id=>exact he
   | ret=>exact he
 exact⟨n+1,key n s h0 _ (by omega)⟩
theorem wpC_ex:∀(c:ACode) (s:St) (P:Nat→Post),(∀ n e s,P n e s→P (n+1) e s)→wpC C c s (fun e s'=>∃ n,P n e s')→∃ n,wpC C c s (P n)
 | .skip,s,P,hP,h=>h
 | .ops l kill,s,P,hP,h=>by
  rw[wpC] at h
  cases he:evOps C l s with
  | ok s' =>
   rw[he] at h
   obtain⟨n,hn⟩:=h
   exact⟨n,by rw[wpC,he];exact hn⟩
  | fail=>rw[he] at h;exact h.elim
  | vac=>exact⟨0,by rw[wpC,he];trivial⟩
 | .seq a b,s,P,hP,h=>by
  rw[wpC] at h
  obtain⟨n,hn⟩:=wpC_ex a s (fun n e s'=>match e with|.normal=>wpC C b s' (P n)|e=>P n e s') (by
   intro n e s' he
   cases e with
   | normal=>exact wpC_mono b s' _ _ (fun e s=>hP n e s) he
   | exit id=>exact hP n _ _ he
   | ret=>exact hP n _ _ he) (wpC_mono a s _ _ (by
   intro e s' he
   cases e with
   | normal=>exact wpC_ex b s' P hP he
   | exit id=>exact he
   | ret=>exact he) h)
  exact⟨n,by rw[wpC];exact hn⟩
 | .cond c a b,s,P,hP,h=>by
  rw[wpC] at h
  cases hc:opv s c with
  | bool t =>
   rw[hc] at h
   cases t with
   | true =>
    obtain⟨n,hn⟩:=wpC_ex a s P hP (h.1 rfl)
    exact⟨n,by rw[wpC,hc];exact⟨fun _=>hn,fun e=>by cases e⟩⟩
   | false =>
    obtain⟨n,hn⟩:=wpC_ex b s P hP (h.2 rfl)
    exact⟨n,by rw[wpC,hc];exact⟨fun e=>by (cases e),fun _=>hn⟩⟩
  | _=>rw[hc] at h;exact h.elim
 | .block id c,s,P,hP,h=>by
  rw[wpC] at h
  obtain⟨n,hn⟩:=wpC_ex c s (fun n e s'=>match e with|.exit id'=>if id'=id then P n .normal s' else P n (.exit id') s'|e=>P n e s') (by
   intro n e s' he
   cases e with
   | normal=>exact hP n _ _ he
   | exit id' =>
    simp only at he ⊢
    split
    ·rw[if_pos ‹_›] at he;exact hP n _ _ he
    ·rw[if_neg ‹_›] at he;exact hP n _ _ he
   | ret=>exact hP n _ _ he) (wpC_mono c s _ _ (by
   intro e s' he
   cases e with
   | normal=>exact he
   | exit id' =>
    simp only at he ⊢
    split at he
    ·obtain⟨n,hn⟩:=he;exact⟨n,by rw[if_pos ‹_›];exact hn⟩
    ·obtain⟨n,hn⟩:=he;exact⟨n,by rw[if_neg ‹_›];exact hn⟩
   | ret=>exact he) h)
  exact⟨n,by rw[wpC];exact hn⟩
 | .loop c,s,P,hP,h=>by
  rw[wpC] at h
  obtain⟨m,hm⟩:=h
  have key:∀(m:Nat) (s:St),iter (wpC C c) m s (fun e s'=>∃ n,P n e s')→∃ n,iter (wpC C c) m s (P n):=by
   intro m
   induction m with
   | zero=>intro s h;exact h.elim
   | succ m ih =>
    intro s h
    rw[iter] at h
    obtain⟨n,hn⟩:=wpC_ex c s (fun n e s'=>match e with|.normal=>iter (wpC C c) m s' (P n)|e=>P n e s') (by
     intro n e s' he
     cases e with
     | normal=>exact iter_mono (fun s Q Q'=>wpC_mono c s Q Q') (fun e s=>hP n e s) m s' he
     | exit id=>exact hP n _ _ he
     | ret=>exact hP n _ _ he) (wpC_mono c s _ _ (by
     intro e s' he
     cases e with
     | normal=>exact ih s' he
     | exit id=>exact he
     | ret=>exact he) h)
    exact⟨n,by rw[iter];exact hn⟩
  obtain⟨n,hn⟩:=key m s hm
  exact⟨n,by rw[wpC];exact⟨m,hn⟩⟩
 | .keep kt kh c,s,P,hP,h=>wpC_ex c _ P hP h
 | .exit id,s,P,hP,h=>h
 | .ret,s,P,hP,h=>h
 | .nilq x m d live,s,P,hP,h=>by
  have up:∀(d n:Nat) (e:Ex) (s:St),P n e s→P (n+d) e s:=by
   intro d
   induction d with
   | zero=>intro n e s h;exact h
   | succ d ih=>intro n e s h;exact hP _ _ _ (ih n e s h)
  have le:∀ {n m:Nat},n≤m→∀(e:Ex) (s:St),P n e s→P m e s:=fun {n m} hnm e s h=>by
   have:=up (m-n) n e s h
   rwa [show n+(m-n)=m by omega] at this
  rw[wpC] at h
  simp only[wpC]
  split at h
  ·exact h
  ·rename_i k xs hx
   obtain⟨h1,n2,h2⟩:=h
   by_cases hk:k=0
   ·obtain⟨n1,h1⟩:=h1 hk
    exact⟨max n1 n2,fun _=>le (Nat.le_max_left ..) _ _ h1,le (Nat.le_max_right ..) _ _ h2⟩
   ·exact⟨n2,fun e=>absurd e hk,h2⟩
  ·exact h.elim
 | .next x d e fp live,s,P,hP,h=>by
  have up:∀(d n:Nat) (e:Ex) (s:St),P n e s→P (n+d) e s:=by
   intro d
   induction d with
   | zero=>intro n e s h;exact h
   | succ d ih=>intro n e s h;exact hP _ _ _ (ih n e s h)
  have le:∀ {n m:Nat},n≤m→∀(e:Ex) (s:St),P n e s→P m e s:=fun {n m} hnm e s h=>by
   have:=up (m-n) n e s h
   rwa [show n+(m-n)=m by omega] at this
  rw[wpC] at h
  cases hc:toCome s fp (opv s x) with
  | none=>rw[hc] at h;exact h.elim
  | some q =>
   obtain⟨b,k,z,m⟩:=q
   rw[hc] at h
   simp only at h
   have fin:∀ j,j≤m→∃ n,∀ i:Nat,i<j→(∀ y∈z.2.2.2.2,y≠.int .i64 i)→P n .normal ⟨keepT (put (put s.t d .junk) e (.bool true)) live,hput s.h b (itMore k z m i),s.g⟩:=by
    intro j
    induction j with
    | zero=>intro _;exact⟨0,fun i hi=>by omega⟩
    | succ j ih =>
     intro hj
     obtain⟨n,hn⟩:=ih (by omega)
     by_cases hs:∀ y∈z.2.2.2.2,y≠.int .i64 (j:Nat)
     ·obtain⟨n2,hn2⟩:=h.1 j (by omega) hs
      refine⟨max n n2,fun i hi hni=>?_⟩
      by_cases hij:i=j
      ·subst hij;exact le (Nat.le_max_right _ _) _ _ hn2
      ·exact le (Nat.le_max_left _ _) _ _ (hn i (by omega) hni)
     ·refine⟨n,fun i hi hni=>?_⟩
      by_cases hij:i=j
      ·subst hij;exact absurd hni hs
      ·exact hn i (by omega) hni
   obtain⟨n,hn⟩:=fin m (Nat.le_refl m)
   by_cases hall:∀ i:Nat,i<m→∃ y∈z.2.2.2.2,y=.int .i64 i
   ·obtain⟨n2,hn2⟩:=h.2 hall
    refine⟨max n n2, ?_⟩
    rw[wpC,hc]
    exact⟨fun i hi hni=>le (Nat.le_max_left _ _) _ _ (hn i hi hni),fun _=>le (Nat.le_max_right _ _) _ _ hn2⟩
   ·refine⟨n, ?_⟩
    rw[wpC,hc]
    exact⟨hn,fun h=>absurd h hall⟩
theorem iter_succ (c:ACode):∀(n:Nat) (s:St) (Q:Post),iter (wpC C c) n s Q→iter (wpC C c) (n+1) s Q
 | 0,_,_,h=>h.elim
 | n+1,s,Q,h=>by
  rw[iter] at h ⊢
  refine wpC_mono c s _ _ ?_ h
  intro e s' he
  cases e with
  | normal=>exact iter_succ c n s' Q he
  | exit id=>exact he
  | ret=>exact he
theorem run_round (c:ACode):run C (.loop c) k s Q=run C c (.lp c::k) s Q:=by
 apply propext
 unfold run
 rw[wpC]
 constructor
 ·rintro⟨n,hn⟩
  cases n with
  | zero=>exact hn.elim
  | succ n =>
   rw[iter] at hn
   refine wpC_mono c s _ _ ?_ hn
   intro e s' he
   cases e with
   | normal=>show wpC C (.loop c) s' _;rw[wpC];exact⟨n,he⟩
   | exit id=>exact he
   | ret=>exact he
 ·intro h
  obtain⟨n,hn⟩:=wpC_ex c s (fun n e s'=>match e with|.normal=>iter (wpC C c) n s' (kont C k Q)|e=>kont C k Q e s') (by
   intro n e s' he
   cases e with
   | normal=>exact iter_succ c n s' _ he
   | exit id=>exact he
   | ret=>exact he) (wpC_mono c s _ _ (by
   intro e s' he
   cases e with
   | normal=>exact he
   | exit id=>exact⟨0,he⟩
   | ret=>exact⟨0,he⟩) h)
  exact⟨n+1,by rw[iter];exact hn⟩
theorem kont_lp (b:ACode):kont C (.lp b::k) Q .normal s=run C (.loop b) k s Q:=rfl
theorem kont_lp_ret (b:ACode):kont C (.lp b::k) Q .ret s=kont C k Q .ret s:=rfl
theorem kont_lp_exit (b:ACode) (id:Nat):kont C (.lp b::k) Q (.exit id) s=kont C k Q (.exit id) s:=rfl
end Go.Am
namespace Go.Am
variable {C:Cs} {s:St} {dst:Option Nat} {gd:Option (Nat×Bool)} {fp:List Nat}
@[simp] theorem eff_mv (x:_):eff C s ⟨dst,.mv x,gd,fp⟩=(val (opv s x)):=rfl
@[simp] theorem eff_pick (c:_) (a:_) (b:_):eff C s ⟨dst,.pick c a b,gd,fp⟩=(match opv s c with
  | .bool t=>val (if t then opv s a else opv s b)
  | _=>.fail):=rfl
@[simp] theorem eff_alloc (z:_):eff C s ⟨dst,.alloc z,gd,fp⟩=(match dst with
  | some d=>.ok { v:=some (.ptr d (s.g d+1) 0),nw:=some (d,⟨z,false,0⟩) }
  | none=>.fail):=rfl
@[simp] theorem eff_box (x:_) (n:_):eff C s ⟨dst,.box x n,gd,fp⟩=(match dst,(opv s x).cells with
  | some d,some cs=>if cs.length=n then .ok { v:=some (.ptr d (s.g d+1) 0),nw:=some (d,⟨cs,false,0⟩) } else .fail
  | _,_=>.fail):=rfl
@[simp] theorem eff_build (z:_) (ps:_):eff C s ⟨dst,.build z ps,gd,fp⟩=(match fill s z ps with
  | some cs=>val (.agg cs)
  | none=>.fail):=rfl
@[simp] theorem eff_mkrow (d:_) (len:_) (sz:_) (z:_) (ps:_):eff C s ⟨dst,.mkrow d len sz z ps,gd,fp⟩=(match fill s (rep len z) ps with
  | some cs=>.ok { v:=some (.own d (s.g d+1) 0 len),nw:=some (d,⟨cs,false,sz⟩) }
  | none=>.fail):=rfl
@[simp] theorem eff_nil0 (d:_) (sz:_):eff C s ⟨dst,.nil0 d sz,gd,fp⟩=(.ok { v:=some (.own d (s.g d+1) 0 0),nw:=some (d,⟨[],false,sz⟩) }):=rfl
@[simp] theorem eff_load (n:_) (agg:_) (x:_):eff C s ⟨dst,.load n agg x,gd,fp⟩=(match opv s x with
  | .ptr b g p=>match blkAt s fp b g with
   | some k=>valO (rd k.cs p n agg)
   | none=>.fail
  | .ipt p cs=>valO (rd cs p n agg)
  | _=>.fail):=rfl
@[simp] theorem eff_store (x:_) (n:_) (v:_):eff C s ⟨dst,.store x n v,gd,fp⟩=(match opv s x with
  | .ptr b g p=>match blkAt s fp b g,(opv s v).cells with
   | some k,some vs=>if vs.length=n∧p+n≤k.cs.length∧k.frz=false∧vs.all AV.isCell=true then .ok { st:=some (b,{ k with cs:=wr k.cs p vs }) } else .fail
   | _,_=>.fail
  | _=>.fail):=rfl
@[simp] theorem eff_fad (x:_) (off:_):eff C s ⟨dst,.fad x off,gd,fp⟩=(match opv s x with
  | .ptr b g p=>match blkAt s fp b g with
   | some _=>val (.ptr b g (p+off))
   | none=>.fail
  | .ipt p cs=>val (.ipt (p+off) cs)
  | _=>.fail):=rfl
@[simp] theorem eff_iad (x:_) (i:_) (sz:_) (len:_):eff C s ⟨dst,.iad x i sz len,gd,fp⟩=(match opv s i with
  | .int _ n=>match offOf n len sz with
   | some q=>match opv s x with
    | .ptr b g p=>match blkAt s fp b g with
     | some _=>val (.ptr b g (p+q))
     | none=>.fail
    | .ipt p cs=>val (.ipt (p+q) cs)
    | _=>.fail
   | none=>.fail
  | _=>.fail):=rfl
@[simp] theorem eff_ias (x:_) (i:_) (sz:_):eff C s ⟨dst,.ias x i sz,gd,fp⟩=(match opv s i with
  | .int _ n=>match opv s x with
   | .own b g p len=>match blkAt s fp b g,offOf n len sz with
    | some _,some q=>val (.ptr b g (p+q))
    | _,_=>.fail
   | .lst len cs=>match offOf n len sz with
    | some q=>val (.ipt q cs)
    | none=>.fail
   | _=>.fail
  | _=>.fail):=rfl
@[simp] theorem eff_fld (x:_) (off:_) (n:_) (agg:_):eff C s ⟨dst,.fld x off n agg,gd,fp⟩=(match opv s x with
  | .agg cs=>valO (rd cs off n agg)
  | _=>.fail):=rfl
@[simp] theorem eff_idx (x:_) (i:_) (sz:_) (len:_) (agg:_):eff C s ⟨dst,.idx x i sz len agg,gd,fp⟩=(match opv s x,opv s i with
  | .agg cs,.int _ n=>match offOf n len sz with
   | some q=>valO (rd cs q sz agg)
   | none=>.fail
  | _,_=>.fail):=rfl
@[simp] theorem eff_bin (op:_) (x:_) (y:_):eff C s ⟨dst,.bin op x y,gd,fp⟩=(valO (bin2 op (opv s x) (opv s y))):=rfl
@[simp] theorem eff_eqa (neg:_) (ks:_) (x:_) (y:_):eff C s ⟨dst,.eqa neg ks x y,gd,fp⟩=(match opv s x,opv s y with
  | .agg a,.agg b=>match eqs ks a b with
   | some t=>val (.bool (if neg then !t else t))
   | none=>.fail
  | _,_=>.fail):=rfl
@[simp] theorem eff_eqb (neg:_) (x:_) (y:_):eff C s ⟨dst,.eqb neg x y,gd,fp⟩=(match opv s x,opv s y with
  | .bool a,.bool b=>val (.bool (if neg then a != b else a==b))
  | _,_=>.fail):=rfl
@[simp] theorem eff_un (op:_) (x:_):eff C s ⟨dst,.un op x,gd,fp⟩=(valO (un1 op (opv s x))):=rfl
@[simp] theorem eff_conv (k:_) (x:_):eff C s ⟨dst,.conv k x,gd,fp⟩=(match opv s x with
  | .int _ n=>val (.int k (k.wrap n))
  | _=>.fail):=rfl
@[simp] theorem eff_ext (x:_) (i:_):eff C s ⟨dst,.ext x i,gd,fp⟩=(match opv s x with
  | .tup vs=>valO vs[i]?
  | _=>.fail):=rfl
@[simp] theorem eff_call (f:_) (args:_):eff C s ⟨dst,.call f args,gd,fp⟩=(match pureVs s fp (args.map (opv s)) with
  | some (vs,fz)=>match C f vs with
   | some r=>.ok { v:=some r,fz:=fz }
   | none=>.fail
  | none=>.fail):=rfl
@[simp] theorem eff_dyn (x:_) (args:_):eff C s ⟨dst,.dyn x args,gd,fp⟩=(match opv s x with
  | .clo f cp=>if f<500000 then (match pureVs s fp (args.map (opv s)) with
   | some (vs,fz)=>match C f (vs++cp) with
    | some r=>.ok { v:=some r,fz:=fz }
    | none=>.fail
   | none=>.fail) else .fail
  | _=>.fail):=rfl
@[simp] theorem eff_app (d:_) (ws:_) (x:_) (y:_) (sz:_):eff C s ⟨dst,.app d ws x y sz,gd,fp⟩=(match shows s fp sz (opv s y) with
  | some (m,ys)=>match opv s x with
   | .nils=>if m=0 then val .nils else
     if m≤1099511627776∧ys.all AV.isCell=true then .ok { v:=some (.own d (s.g d+1) 0 m),nw:=some (d,⟨ys,false,sz⟩) } else .fail
   | .own b g p n=>if ws.contains b then (match blkAt s fp b g with
    | some k=>if p=0∧n*sz≤k.cs.length∧k.frz=false∧k.esz=sz∧n+m≤1099511627776∧ys.all AV.isCell=true then
      .ok { v:=some (.own d (s.g d+1) 0 (n+m)),rm:=some b,nw:=some (d,⟨k.cs.take (n*sz)++ys,false,sz⟩) } else .fail
    | none=>.fail) else .fail
   | _=>.fail
  | none=>.fail):=rfl
@[simp] theorem eff_len (x:_):eff C s ⟨dst,.len x,gd,fp⟩=(match opv s x with
  | .own b g _ n=>match blkAt s fp b g with
   | some _=>if n≤maxN then val (.int .i64 n) else .vac
   | none=>.fail
  | .lst n _=>if n≤maxN then val (.int .i64 n) else .vac
  | .nils=>val (.int .i64 0)
  | _=>.fail):=rfl
@[simp] theorem eff_mnmx (mx:_) (x:_) (y:_):eff C s ⟨dst,.mnmx mx x y,gd,fp⟩=(match opv s x,opv s y with
  | .int k a,.int k' b=>if k=k' then val (.int k (if mx then (if b>a then b else a) else (if b<a then b else a))) else .fail
  | _,_=>.fail):=rfl
@[simp] theorem eff_mks (d:_) (n:_) (sz:_) (z:_):eff C s ⟨dst,.mks d n sz z,gd,fp⟩=(match opv s n with
  | .int _ m=>if 0≤m∧m≤1099511627776 then .ok { v:=some (.own d (s.g d+1) 0 m.toNat),nw:=some (d,⟨rep m.toNat z,false,sz⟩) } else .fail
  | _=>.fail):=rfl
@[simp] theorem eff_sl (x:_) (lo:_) (hi:_) (sz:_):eff C s ⟨dst,.sl x lo hi sz,gd,fp⟩=(match opv s x with
  | .own b g p n=>match blkAt s fp b g,bounds s n lo hi with
   | some _,some (l,h)=>val (.own b g (p+l*sz) (h-l))
   | _,_=>.fail
  | .lst n xs=>match bounds s n lo hi with
   | some (l,h)=>val (.lst (h-l) ((xs.drop (l*sz)).take ((h-l)*sz)))
   | none=>.fail
  | .nils=>match bounds s 0 lo hi with
   | some _=>val .nils
   | none=>.fail
  | _=>.fail):=rfl
@[simp] theorem eff_clear (x:_) (sz:_) (z:_):eff C s ⟨dst,.clear x sz z,gd,fp⟩=(match opv s x with
  | .own b g p n=>match blkAt s fp b g with
   | some k=>if p+n*sz≤k.cs.length∧k.frz=false then .ok { st:=some (b,{ k with cs:=wr k.cs p (rep n z) }) } else .fail
   | none=>.fail
  | .nils=>.ok {}
  | _=>.fail):=rfl
@[simp] theorem eff_clo (f:_) (cs:_):eff C s ⟨dst,.clo f cs,gd,fp⟩=(match caps s fp (cs.map (opv s)) with
  | some (vs,fz)=>.ok { v:=some (.clo f vs),fz:=fz }
  | none=>.fail):=rfl
@[simp] theorem eff_chk (x:_):eff C s ⟨dst,.chk x,gd,fp⟩=(match opv s x with
  | .ptr b g p=>match blkAt s fp b g with
   | some _=>val (.ptr b g p)
   | none=>.fail
  | .ipt p cs=>val (.ipt p cs)
  | _=>.fail):=rfl
@[simp] theorem eff_mkmap :eff C s ⟨dst,.mkmap ,gd,fp⟩=(match dst with
  | some d=>.ok { v:=some (.mp d (s.g d+1)),nw:=some (d,⟨[],false,mapTag⟩) }
  | none=>.fail):=rfl
@[simp] theorem eff_mget (x:_) (k:_) (z:_):eff C s ⟨dst,.mget x k z,gd,fp⟩=(match opv s x,opv s k with
  | .mp b g,.int .i64 n=>match mapAt s fp b g with
   | some q=>if isA q.cs=true then .fail else val (mgetV n q.cs z)
   | none=>.fail
  | _,_=>.fail):=rfl
@[simp] theorem eff_ment (x:_) (k:_) (z:_):eff C s ⟨dst,.ment x k z,gd,fp⟩=(match opv s x,opv s k with
  | .mp b g,.int .i64 n=>match mapAt s fp b g with
   | some q=>if q.frz=false∧isA q.cs=false then (match mfind n q.cs 0 with
    | some (i,v)=>.ok { v:=some (.tup [v,.int .i64 i]),st:=some (b,q) }
    | none=>.ok { v:=some (.tup [z,.int .i64 (q.cs.length/2:Nat)]),st:=some (b,{ q with cs:=q.cs++[.int .i64 n,z] }) }) else .fail
   | none=>.fail
  | _,_=>.fail):=rfl
@[simp] theorem eff_aget (x:_) (k:_) (n:_) (z:_):eff C s ⟨dst,.aget x k n z,gd,fp⟩=(match opv s x,opv s k with
  | .mp b g,.agg ks=>match mapAt s fp b g,ints ks with
   | some q,some a=>if aOk n q.cs=true∧a.length=n then val (mgetA a q.cs z) else .fail
   | _,_=>.fail
  | _,_=>.fail):=rfl
@[simp] theorem eff_aent (x:_) (k:_) (n:_) (z:_):eff C s ⟨dst,.aent x k n z,gd,fp⟩=(match opv s x,opv s k with
  | .mp b g,.agg ks=>match mapAt s fp b g,ints ks with
   | some q,some a=>if q.frz=false∧aOk n q.cs=true∧a.length=n∧q.cs.length % 2=0 then (match mfindA a q.cs 0 with
    | some (i,v)=>.ok { v:=some (.tup [v,.int .i64 i]),st:=some (b,q) }
    | none=>.ok { v:=some (.tup [z,.int .i64 (q.cs.length/2:Nat)]),st:=some (b,{ q with cs:=q.cs++[.agg ks,z] }) }) else .fail
   | _,_=>.fail
  | _,_=>.fail):=rfl
@[simp] theorem eff_mset (x:_) (t:_) (v:_):eff C s ⟨dst,.mset x t v,gd,fp⟩=(match opv s x,opv s t with
  | .mp b g,.int .i64 i=>match mapAt s fp b g with
   | some q=>if q.frz=false∧0≤i∧2*i.toNat+1<q.cs.length∧(opv s v).flat=true then .ok { st:=some (b,{ q with cs:=wr q.cs (2*i.toNat+1) [opv s v] }) } else .fail
   | none=>.fail
  | _,_=>.fail):=rfl
@[simp] theorem eff_mupd (x:_) (k:_) (v:_):eff C s ⟨dst,.mupd x k v,gd,fp⟩=(match opv s x,opv s k with
  | .mp b g,.int .i64 n=>match mapAt s fp b g with
   | some q=>if q.frz=false∧isA q.cs=false∧(opv s v).flat=true then .ok { st:=some (b,{ q with cs:=mputV n q.cs (opv s v) }) } else .fail
   | none=>.fail
  | _,_=>.fail):=rfl
@[simp] theorem eff_mlen (x:_):eff C s ⟨dst,.mlen x,gd,fp⟩=(match opv s x with
  | .mp b g=>match mapAt s fp b g with
   | some q=>val (.int .i64 (q.cs.length/2:Nat))
   | none=>.fail
  | _=>.fail):=rfl
@[simp] theorem eff_mrng (x:_):eff C s ⟨dst,.mrng x,gd,fp⟩=(match dst,opv s x with
  | some d,.mp b g=>match mapAt s fp b g with
   | some q=>if b≠d then .ok { v:=some (.ptr d (s.g d+1) 0),nw:=some (d,⟨[.mp b g,.int .i64 (q.cs.length/2:Nat),.int .i64 (q.cs.length/2:Nat)],false,mapTag⟩) } else .fail
   | none=>.fail
  | _,_=>.fail):=rfl
@[simp] theorem eff_entry (x:_):eff C s ⟨dst,.entry x,gd,fp⟩=(match opv s x with
  | .ptr b g 0=>match itAt s fp b g with
   | some k=>match itOf k.cs with
    | some (mb,mg,_,c,seen)=>match mapAt s fp mb mg with
     | some q=>match entV q.cs c seen with
      | some v=>val v
      | none=>.fail
     | none=>.fail
    | none=>.fail
   | none=>.fail
  | _=>.fail):=rfl
@[simp] theorem eff_frz (x:_):eff C s ⟨dst,.frz x,gd,fp⟩=(match pureV s fp (opv s x) with
  | some (v,fz)=>.ok { v:=some v,fz:=fz }
  | none=>.fail):=rfl
@[simp] theorem eff_gcall (f:_) (args:_) (bs:_) (nid:_):eff C s ⟨dst,.gcall f args bs nid,gd,fp⟩=(match mapO (garg s fp bs) (args.map (opv s)),gblks s fp bs bs 0 with
  | some (vs,fz),some h=>if fz.all (fun b => !bs.contains b)=true then (match C (1000000+f) (vs++[.tup (encs h)]) with
   | some (.tup (r::out))=>match decs out with
    | some h'=>geff s bs nid fz r h'
    | none=>.fail
   | _=>.fail) else .fail
  | _,_=>.fail):=rfl
@[simp] theorem eff_gcal2 (f:_) (args:_) (bs:_) (n1:_) (n2:_):eff C s ⟨dst,.gcal2 f args bs n1 n2,gd,fp⟩=(match mapO (garg s fp bs) (args.map (opv s)),gblks s fp bs bs 0 with
  | some (vs,fz),some h=>if fz.all (fun b => !bs.contains b)=true then (match C (1000000+f) (vs++[.tup (encs h)]) with
   | some (.tup (r::out))=>match decs out with
    | some h'=>geff2 s bs n1 n2 fz r h'
    | none=>.fail
   | _=>.fail) else .fail
  | _,_=>.fail):=rfl
@[simp] theorem eff_str (k:_) (xs:_):eff C s ⟨dst,.str k xs,gd,fp⟩=(valO (strEv k (xs.map (opv s)))):=rfl
@[simp] theorem eff_ssl (x:_) (lo:_) (hi:_):eff C s ⟨dst,.ssl x lo hi,gd,fp⟩=(match opv s x with
  | .str a=>match bounds s a.length lo hi with
   | some (l,h)=>val (.str ((a.take h).drop l))
   | none=>.fail
  | _=>.fail):=rfl
@[simp] theorem eff_b2s (x:_):eff C s ⟨dst,.b2s x,gd,fp⟩=(match shows s fp 1 (opv s x) with
  | some (n,ys)=>match bytesOf ys with
   | some l=>if n≠0∧n≤1099511627776 then val (.str l) else .fail
   | none=>.fail
  | none=>.fail):=rfl
@[simp] theorem eff_sla (x:_) (lo:_) (hi:_) (sz:_) (len:_):eff C s ⟨dst,.sla x lo hi sz len,gd,fp⟩=(match opv s x with
  | .ptr b g p=>match blkAt s fp b g,bounds s len lo hi with
   | some k,some (l,h)=>if p+len*sz≤k.cs.length∧len≤1099511627776∧0<sz∧(p+l*sz≠0∨(k.esz % 4096=sz∧4096≤k.esz∧(k.esz/4096)%2=0∧len*sz=k.cs.length)) then val (.own b g (p+l*sz) (h-l)) else .fail
   | _,_=>.fail
  | _=>.fail):=rfl
@[simp] theorem eff_alcT (t:_) (z:_):eff C s ⟨dst,.alcT t z,gd,fp⟩=(match dst with
  | some d=>.ok { v:=some (.ptr d (s.g d+1) 0),nw:=some (d,⟨z,false,varTag t⟩) }
  | none=>.fail):=rfl
@[simp] theorem eff_aps (d:_) (ws:_) (x:_) (y:_) (t:_):eff C s ⟨dst,.aps d ws x y t,gd,fp⟩=(match showB s fp (opv s y) with
  | some (m,ys)=>match opv s x with
   | .nils=>if m≠0∧m≤1099511627776∧ys.all AV.isCell=true then .ok { v:=some (.own d (s.g d+1) 0 m),nw:=some (d,⟨ys,false,rowTag t⟩) } else .fail
   | .own b g p n=>if ws.contains b then (match blkAt s fp b g with
    | some k=>if m≠0∧p=0∧n≠0∧n≤k.cs.length∧k.frz=false∧k.esz=rowTag t∧n+m≤1099511627776∧ys.all AV.isCell=true then
      .ok { v:=some (.own d (s.g d+1) 0 (n+m)),rm:=some b,nw:=some (d,⟨k.cs.take n++ys,false,rowTag t⟩) } else .fail
    | none=>.fail) else .fail
   | _=>.fail
  | none=>.fail):=rfl
@[simp] theorem eff_cck (f:_) (x:_):eff C s ⟨dst,.cck f x,gd,fp⟩=(match opv s x,C (500000+f) [] with
  | .ptr b g 0,some (.int .i64 (.ofNat t))=>match blkAt s fp b g with
   | some k=>if k.esz=varTag t∧k.frz=false then (match k.cs with
    | [.nilv false,c]=>.ok { v:=some (.tup []),st:=some (b,{ k with cs:=[.ptr b g 0,c] }) }
    | [.ptr b' g' 0,_]=>if b'=b∧g'=g then .ok { v:=some (.tup []) } else .fail
    | _=>.fail) else .fail
   | none=>.fail
  | _,_=>.fail):=rfl
@[simp] theorem eff_bst (f:_) (x:_):eff C s ⟨dst,.bst f x,gd,fp⟩=(match opv s x,C (750000+f) [] with
  | .ptr b g 0,some (.tup [.int .i64 (.ofNat t),.int .i64 (.ofNat e)])=>match blkAt s fp b g with
   | some k=>match k.cs with
    | [_,.own d g' 0 n]=>match blkAt s fp d g' with
     | some q=>if k.esz=varTag t∧q.esz=rowTag e∧q.frz=false∧n≠0∧d≠b∧n≤q.cs.length then (match bytesOf (q.cs.take n) with
      | some l=>.ok { v:=some (.str l),rm:=some d }
      | none=>.fail) else .fail
     | none=>.fail
    | _=>.fail
   | none=>.fail
  | _,_=>.fail):=rfl
@[simp] theorem eff_no :eff C s ⟨dst,.no ,gd,fp⟩=(.fail):=rfl
end Go.Am
namespace Go.Am
open Go.RowKit
def rowAt (w:World) (b off:Nat) (cs:List Value):Prop:=∀ i v,cs[i]? = some v→w.cell? ⟨b,off+i,none⟩=some v
abbrev Place:=Option (Nat×Nat)
structure Mode where
 G:Nat→Nat
 A:Nat→Nat→Option (Place×Nat)
mutual
def VR (I:Nat→Prop) (w:World) (M:Option Mode):AV→Value→Prop
 | .junk,_=>True
 | .int k n,v=>v=.int k n
 | .bool b,v=>v=.bool b
 | .str s,v=>∃ t:ByteArray,v=.string t∧t.data.toList=s∧t.size≤maxLen
 | .lst n xs,v=>(n=0∧xs=[]∧∃ a c,v=.slice a 0 c) ∨
   ∃ b off cap cs,v=.slice (some ⟨b,off,none⟩) n cap∧n≤cap∧cap≤maxLen∧I b∧rowAt w b off cs∧VRs I w none xs cs
 | .agg xs,v=>∃ cs:List Value,v=.agg cs.toArray∧VRs I w M xs cs
 | .tup xs,v=>∃ cs:List Value,v=.tuple cs.toArray∧VRs I w M xs cs
 | .clo f caps,v=>∃ cs:List Value,v=.func (.func f) #[] cs.toArray∧VRs I w none caps cs
 | .ipt o xs,v=>∃ b off cs,v=.pointer (some ⟨b,off+o,none⟩)∧I b∧rowAt w b off cs∧VRs I w none xs cs
 | .ptr b g o,v=>match M with
   | none=>False
   | some m=>(∃ p,v=.pointer p)∧g≤m.G b∧∀ L,m.A b g=some L→∃ r σ,L.1=some (r,σ)∧v=.pointer (some ⟨r,o,none⟩)
 | .own b g o n,v=>match M with
   | none=>False
   | some m=>(∃ p l c,v=.slice p l c)∧g≤m.G b∧∀ L,m.A b g=some L→match L.1 with
    | none=>v=.slice none 0 0∧n=0∧o=0
    | some (r,σ)=>∃ a cap,v=.slice a n cap∧n≤cap∧cap≤maxLen∧((n=0∧o≠0)∨(a=some ⟨r,o,none⟩∧(o=0→cap*L.2=σ)))
 | .nils,v=>v=.slice none 0 0
 | .und,v=>v=undef
 | .nilv i,v=>v=if i then .nilIface else .pointer none
 | .mp b g,v=>match M with
   | none=>False
   | some m=>(∃ p,v=.map p)∧g≤m.G b∧∀ L,m.A b g=some L→∃ r σ,L.1=some (r,σ)∧v=.map (some r)
def VRs (I:Nat→Prop) (w:World) (M:Option Mode):List AV→List Value→Prop
 | [],[]=>True
 | x::xs,v::vs=>VR I w M x v∧VRs I w M xs vs
 | _,_=>False
end
def Mode.le:Option Mode→Option Mode→Prop
 | none,_=>True
 | some m,some m'=>(∀ b,m.G b≤m'.G b)∧∀ b g L,g≤m.G b→m'.A b g=some L→m.A b g=some L
 | some _,none=>False
theorem Mode.le_refl (M:Option Mode):Mode.le M M:=by
 cases M with
 | none=>trivial
 | some m=>exact⟨fun _=>Nat.le_refl _,fun _ _ _ _ h=>h⟩
section
variable {I I':Nat→Prop} {w w':World}
theorem rowAt.mono {b off:Nat} {cs:List Value} (hw:∀ off,w'.cell? ⟨b,off,none⟩=w.cell? ⟨b,off,none⟩) (h:rowAt w b off cs):rowAt w' b off cs :=
 fun i v hv=>(hw _).trans (h i v hv)
mutual
theorem VR.mono (hI:∀ b,I b→I' b) (hw:∀ b,I b→∀ off,w'.cell? ⟨b,off,none⟩=w.cell? ⟨b,off,none⟩):∀(x:AV) (v:Value) {M M':Option Mode},Mode.le M M'→VR I w M x v→VR I' w' M' x v
 | .junk,_,_,_,_,_=>by simp[VR]
 | .int ..,_,_,_,_,h=>by simpa [VR] using h
 | .bool _,_,_,_,_,h=>by simpa [VR] using h
 | .str _,_,_,_,_,h=>by simpa [VR] using h
 | .lst n xs,v,M,M',hM,h=>by
  simp only[VR] at h ⊢
  rcases h with h|⟨b,off,cap,cs,h1,h2,h3,h4,h5,h6⟩
  ·exact .inl h
  ·exact .inr ⟨b,off,cap,cs,h1,h2,h3,hI b h4,h5.mono (hw b h4),VRs.mono hI hw xs cs (M:=none) (M':=none) trivial h6⟩
 | .agg xs,v,M,M',hM,h=>by
  simp only[VR] at h ⊢
  obtain⟨cs,h1,h2⟩:=h
  exact⟨cs,h1,VRs.mono hI hw xs cs hM h2⟩
 | .tup xs,v,M,M',hM,h=>by
  simp only[VR] at h ⊢
  obtain⟨cs,h1,h2⟩:=h
  exact⟨cs,h1,VRs.mono hI hw xs cs hM h2⟩
 | .clo f xs,v,M,M',hM,h=>by
  simp only[VR] at h ⊢
  obtain⟨cs,h1,h2⟩:=h
  exact⟨cs,h1,VRs.mono hI hw xs cs (M:=none) (M':=none) trivial h2⟩
 | .ipt o xs,v,M,M',hM,h=>by
  simp only[VR] at h ⊢
  obtain⟨b,off,cs,h1,h2,h3,h4⟩:=h
  exact⟨b,off,cs,h1,hI b h2,h3.mono (hw b h2),VRs.mono hI hw xs cs (M:=none) (M':=none) trivial h4⟩
 | .ptr b g o,v,M,M',hM,h=>by
  simp only[VR] at h ⊢
  cases M with
  | none=>exact h.elim
  | some m =>
   cases M' with
   | none=>exact hM.elim
   | some m'=>exact⟨h.1,Nat.le_trans h.2.1 (hM.1 b),fun L hL=>h.2.2 L (hM.2 b g L h.2.1 hL)⟩
 | .own b g o n,v,M,M',hM,h=>by
  simp only[VR] at h ⊢
  cases M with
  | none=>exact h.elim
  | some m =>
   cases M' with
   | none=>exact hM.elim
   | some m'=>exact⟨h.1,Nat.le_trans h.2.1 (hM.1 b),fun L hL=>h.2.2 L (hM.2 b g L h.2.1 hL)⟩
 | .nils,_,_,_,_,h=>by simpa [VR] using h
 | .und,_,_,_,_,h=>by simpa [VR] using h
 | .nilv _,_,_,_,_,h=>by simpa [VR] using h
 | .mp b g,v,M,M',hM,h=>by
  simp only[VR] at h ⊢
  cases M with
  | none=>exact h.elim
  | some m =>
   cases M' with
   | none=>exact hM.elim
   | some m'=>exact⟨h.1,Nat.le_trans h.2.1 (hM.1 b),fun L hL=>h.2.2 L (hM.2 b g L h.2.1 hL)⟩
theorem VRs.mono (hI:∀ b,I b→I' b) (hw:∀ b,I b→∀ off,w'.cell? ⟨b,off,none⟩=w.cell? ⟨b,off,none⟩):∀(xs:List AV) (vs:List Value) {M M':Option Mode},Mode.le M M'→VRs I w M xs vs→VRs I' w' M' xs vs
 | [],[],_,_,_,h=>by simp[VRs]
 | [],_::_,_,_,_,h=>by simp[VRs] at h
 | _::_,[],_,_,_,h=>by simp[VRs] at h
 | x::xs,v::vs,M,M',hM,h=>by
  simp only[VRs] at h ⊢
  exact⟨VR.mono hI hw x v hM h.1,VRs.mono hI hw xs vs hM h.2⟩
end
end
section
variable {I:Nat→Prop} {w:World} {M:Option Mode}
theorem VRs.length:∀ {xs:List AV} {vs:List Value},VRs I w M xs vs→xs.length=vs.length
 | [],[],_=>rfl
 | [],_::_,h=>by simp[VRs] at h
 | _::_,[],h=>by simp[VRs] at h
 | _::xs,_::vs,h=>by simp only[VRs] at h;simp[VRs.length h.2]
theorem VRs.get:∀ {xs:List AV} {vs:List Value},VRs I w M xs vs→∀(i:Nat) (x:AV),xs[i]? = some x→∃ v,vs[i]? = some v∧VR I w M x v
 | [],[],_,i,x,hx=>by simp at hx
 | [],_::_,h,_,_,_=>by simp[VRs] at h
 | _::_,[],h,_,_,_=>by simp[VRs] at h
 | y::xs,u::vs,h,i,x,hx=>by
  simp only[VRs] at h
  cases i with
  | zero=>simp at hx;subst hx;exact⟨u,rfl,h.1⟩
  | succ i=>simpa using VRs.get h.2 i x (by simpa using hx)
theorem VRs.of_get:∀ {xs:List AV} {vs:List Value},xs.length=vs.length→(∀(i:Nat) (x:AV) (v:Value),xs[i]? = some x→vs[i]? = some v→VR I w M x v)→VRs I w M xs vs
 | [],[],_,_=>by simp[VRs]
 | [],_::_,h,_=>by simp at h
 | _::_,[],h,_=>by simp at h
 | x::xs,v::vs,h,hg=>by
  simp only[VRs]
  exact⟨hg 0 x v rfl rfl,VRs.of_get (by simpa using h) fun i y u hy hu=>hg (i+1) y u (by simpa using hy) (by simpa using hu)⟩
theorem VRs.take {xs:List AV} {vs:List Value} (h:VRs I w M xs vs) (n:Nat):VRs I w M (xs.take n) (vs.take n):=by
 refine VRs.of_get (by simp[h.length]) fun i x v hx hv=>?_
 rw[List.getElem?_take] at hx hv
 split at hx
 ·rw[if_pos ‹_›] at hv
  obtain⟨u,hu,hr⟩:=h.get i x hx
  rw[hv] at hu;cases hu;exact hr
 ·cases hx
theorem VRs.drop {xs:List AV} {vs:List Value} (h:VRs I w M xs vs) (n:Nat):VRs I w M (xs.drop n) (vs.drop n):=by
 refine VRs.of_get (by simp[h.length]) fun i x v hx hv=>?_
 rw[List.getElem?_drop] at hx hv
 obtain⟨u,hu,hr⟩:=h.get _ x hx
 rw[hv] at hu;cases hu;exact hr
theorem VRs.append {xs ys:List AV} {vs us:List Value} (h:VRs I w M xs vs) (h':VRs I w M ys us):VRs I w M (xs++ys) (vs++us):=by
 have hl:=h.length
 refine VRs.of_get (by simp[hl,h'.length]) fun i x v hx hv=>?_
 rw[List.getElem?_append] at hx hv
 split at hx
 ·rename_i hlt
  rw[if_pos (by omega)] at hv
  obtain⟨u,hu,hr⟩:=h.get i x hx
  rw[hv] at hu;cases hu;exact hr
 ·rename_i hge
  rw[if_neg (by omega)] at hv
  rw[← hl] at hv
  obtain⟨u,hu,hr⟩:=h'.get _ x hx
  rw[hv] at hu;cases hu;exact hr
theorem VRs.wr {xs vs':List AV} {us us':List Value} (h:VRs I w M xs us) (h':VRs I w M vs' us') (o:Nat) :
  VRs I w M (Am.wr xs o vs') (us.take o++us'++us.drop (o+us'.length)):=by
 unfold Am.wr
 rw[← h'.length]
 exact ((h.take o).append h').append (h.drop _)
theorem VRs_rep {z:List AV} {cs:List Value} (h:VRs I w M z cs):∀ n,VRs I w M (rep n z) (List.replicate n cs).flatten
 | 0=>by simp[rep,VRs]
 | n+1=>by
  have ih:=VRs_rep h n
  unfold rep at ih ⊢
  rw[List.replicate_succ,List.flatten_cons,List.replicate_succ,List.flatten_cons]
  exact h.append ih
end
theorem plain_none {I:Nat→Prop} {w:World} {M:Option Mode} (M':Option Mode):∀ {x:AV} {v:Value},x.plain=true→VR I w M x v→VR I w M' x v:=by
 intro x v hp h
 cases x<;>simp[AV.plain] at hp<;>simpa [VR] using h
theorem plains_none {I:Nat→Prop} {w:World} {M:Option Mode} (M':Option Mode):∀ {xs:List AV} {vs:List Value},xs.all AV.plain=true→VRs I w M xs vs→VRs I w M' xs vs
 | [],[],_,_=>by simp[VRs]
 | [],_::_,_,h=>by simp[VRs] at h
 | _::_,[],_,h=>by simp[VRs] at h
 | x::xs,v::vs,hp,h=>by
  simp only[VRs] at h ⊢
  simp only[List.all_cons,Bool.and_eq_true] at hp
  exact⟨plain_none M' hp.1 h.1,plains_none M' hp.2 h.2⟩
def aliveA (s:St) (ρ:Nat→Place) (b g:Nat):Option (Place×Nat) :=
 if s.g b=g then (hlook s.h b).map fun k=>(ρ b,k.esz % 4096) else none
def modeOf (s:St) (ρ:Nat→Place):Option Mode:=some ⟨s.g,aliveA s ρ⟩
structure Base where
 w:World
 ids:Nat→Prop
 pl:Nat→Place
def Base.mine (w0:Base) (r:Nat):Prop:=w0.w.heap.size≤r∨∃ b σ,w0.ids b∧w0.pl b=some (r,σ)
structure Base.upto (w0:Base) (w:World):Prop where
 os:w.os=w0.w.os
 tape:w.tape=w0.w.tape
 output:w.output=w0.w.output
 size:w0.w.heap.size≤w.heap.size
 block:∀ k,¬ w0.mine k→w.heap[k]? = w0.w.heap[k]?
theorem Base.upto.refl (w0:Base):w0.upto w0.w:=⟨rfl,rfl,rfl,Nat.le_refl _,fun _ _=>rfl⟩
theorem Base.upto.trans {w0:Base} {w w':World} (h:w0.upto w) (os:w'.os=w.os) (tape:w'.tape=w.tape) (output:w'.output=w.output) (size:w.heap.size≤w'.heap.size) (block:∀ k,¬ w0.mine k→w'.heap[k]? = w.heap[k]?):w0.upto w' :=
 ⟨os.trans h.os,tape.trans h.tape,output.trans h.output,Nat.le_trans h.size size,fun k hk=>(block k hk).trans (h.block k hk)⟩
theorem Base.upto.below {w0:Base} {w w':World} (h:w0.upto w) (hb:Below w.heap.size w w'):w0.upto w' :=
 h.trans hb.os hb.tape hb.output hb.size fun k hk=>hb.block k (Nat.lt_of_lt_of_le (Nat.lt_of_not_le fun hle=>hk (.inl hle)) h.size)
def Base.plain (w:World):Base:=⟨w,fun _=>False,fun _=>none⟩
theorem Base.plain_mine {w:World} {r:Nat}:(Base.plain w).mine r↔w.heap.size≤r:=⟨fun h=>h.elim id (fun⟨_,_,h,_⟩=>h.elim),.inl⟩
theorem Base.plain_below {w w':World} (h:(Base.plain w).upto w'):Below w.heap.size w w' :=
 ⟨h.os,h.tape,h.output,h.size,fun k hk=>h.block k fun hm=>by have:=Base.plain_mine.1 hm;omega⟩
def TyOk (w:World) (r:Nat) (k:Blk):Prop :=
 k.esz<4096∨∃ arr,w.heap[r]? = some (.cells arr ((k.esz/4096-1)/2) (0,0))∧((k.esz/4096)%2=0→arr.size=k.cs.length)
theorem TyOk.len {w:World} {r:Nat} {k k':Blk} (h:TyOk w r k) (he:k'.esz=k.esz) (hl:k'.cs.length=k.cs.length):TyOk w r k':=by
 unfold TyOk at h ⊢
 rw[he,hl]
 exact h
def BlkC (w0:Base) (I:Nat→Prop) (w:World) (M:Option Mode) (p:Place) (k:Blk):Prop :=
 match p with
 | none=>k.cs=[]
 | some (r,σ)=>w0.mine r∧((k.frz=true→I r)∧TyOk w r k)∧(k.frz=false→¬ I r)∧k.cs.length≤σ ∧
   ∃(arr:Array Value) (ty:Nat),w.heap[r]? = some (.cells arr ty (0,0))∧arr.size=σ∧VRs I w M k.cs (arr.toList.take k.cs.length)
def KeyR:Option Nat→AV→Value→Prop
 | none,k,v=>∃ n:Int,k=.int .i64 n∧v=.int .i64 n
 | some m,k,v=>∃ a:List Int,a.length=m∧k=.agg (a.map (.int .i64))∧v=.agg (a.map (Value.int .i64)).toArray
def mEntK (κ:Option Nat):List AV→Nat→List MapEntry→Prop
 | [],_,[]=>True
 | k::x::cs,n,e::es=>KeyR κ k e.key∧x.flat=true∧(∀ I w M,VR I w M x e.val)∧e.born=n∧mEntK κ cs (n+1) es
 | _,_,_=>False
def mEnt (cs:List AV) (n:Nat) (es:List MapEntry):Prop:=∃ κ,mEntK κ cs n es
def ItOk (I:Nat→Prop) (w:World) (M:Option Mode) (cs:List AV) (m since:Nat) (seen:Array Nat) (c:Nat):Prop :=
 ∃ b g,cs=.mp b g::.int .i64 since::.int .i64 c::seen.toList.map (fun n=>.int .i64 (n:Int))∧VR I w M (.mp b g) (.map (some m))∧since≤c
def BlkM (w0:Base) (I:Nat→Prop) (w:World) (M:Option Mode) (p:Place) (k:Blk):Prop :=
 match p with
 | none=>k.cs=[]
 | some (r,_)=>w0.mine r∧(k.frz=true→I r)∧(k.frz=false→¬ I r)∧((∃ es:Array MapEntry,w.heap[r]? = some (.map es es.size)∧mEnt k.cs 0 es.toList) ∨
   ∃ m since seen c,w.heap[r]? = some (.mapIter (some m) since seen c)∧ItOk I w M k.cs m since seen c)
def BlkOk (w0:Base) (I:Nat→Prop) (w:World) (M:Option Mode) (p:Place) (k:Blk):Prop :=
 if k.esz=mapTag then BlkM w0 I w M p k else BlkC w0 I w M p k
theorem BlkOk.first {w0:Base} {I:Nat→Prop} {w:World} {M:Option Mode} {r σ:Nat} {k:Blk} (h:BlkOk w0 I w M (some (r,σ)) k):w0.mine r∧(k.frz=true→I r)∧(k.frz=false→¬ I r):=by
 unfold BlkOk at h
 split at h
 ·exact⟨h.1,h.2.1,h.2.2.1⟩
 ·exact⟨h.1,h.2.1.1,h.2.2.1⟩
def tab10:List AV:=(List.range 20).map fun i=>.int .u64 (10^i:Nat)
def TabOk (I:Nat→Prop) (w:World):Prop:=VR I w none (.ipt 0 tab10) (.pointer (some ⟨0,0,none⟩))
structure R (w0:Base) (I0:Nat→Prop) (N:Nat) (I:Nat→Prop) (ρ:Nat→Place) (s:St) (a:Act) (w:World):Prop where
 defers:a.defers=[]
 size:a.tmps.size=N
 below:w0.upto w
 imm:∀ b,I b→b<w.heap.size
 old:∀ b,I0 b→I b
 new:∀ b,I b→I0 b∨w0.mine b
 /-- a block that was given lies where it lay -/
 kept:∀ b,w0.ids b→s.g b=0→ρ b=w0.pl b
 tm:∀ t,VR I w (modeOf s ρ) (look s.t t) (a.tmps.getD t undef)
 hp:∀ b k,hlook s.h b=some k→BlkOk w0 I w (modeOf s ρ) (ρ b) k
 inj:∀ b b' k k' r σ σ',hlook s.h b=some k→hlook s.h b'=some k'→ρ b=some (r,σ)→ρ b'=some (r,σ')→b=b'
 tab:TabOk I w
theorem look_put (l:Env) (d:Nat) (v:AV) (t:Nat):look (put l d v) t=if d=t then v else look l t:=rfl
theorem look_keepT (l:Env):∀(ks:List Nat) (t:Nat),look (keepT l ks) t=.junk∨look (keepT l ks) t=look l t
 | [],t=>.inl rfl
 | k::ks,t=>by
  simp only[keepT,look]
  split
  ·rename_i h;subst h;exact .inr rfl
  ·exact look_keepT l ks t
theorem hlook_hput:∀(l:Hp) (d:Nat) (v:Blk) (t:Nat),hlook (hput l d v) t=if d=t then some v else hlook l t
 | [],d,v,t=>by simp[hput,hlook]
 | (k,u)::l,d,v,t=>by
  simp only[hput]
  split
  ·rename_i h;subst h
   simp only[hlook]
   split<;>simp_all
  ·rename_i h
   simp only[hlook,hlook_hput l d v t]
   split
   ·rename_i h';subst h';rw[if_neg (fun e=>h e.symm)]
   ·rfl
theorem hlook_hdel:∀(l:Hp) (d:Nat) (t:Nat),hlook (hdel l d) t=if d=t then none else hlook l t
 | [],d,t=>by simp[hdel,hlook]
 | (k,u)::l,d,t=>by
  simp only[hdel]
  have ih:=hlook_hdel l d t
  split
  ·rename_i h;subst h
   rw[ih]
   split
   ·rfl
   ·simp[hlook, *]
  ·rename_i h
   simp only[hlook,ih]
   split
   ·rename_i h';subst h';rw[if_neg (fun e=>h e.symm)]
   ·rfl
theorem hlook_keepH (l:Hp):∀(ks:List Nat) (t:Nat),hlook (keepH l ks) t=none∨hlook (keepH l ks) t=hlook l t
 | [],t=>.inl rfl
 | k::ks,t=>by
  simp only[keepH]
  split
  ·rename_i b hb
   simp only[hlook]
   split
   ·rename_i h;subst h;exact .inr hb.symm
   ·exact hlook_keepH l ks t
  ·exact hlook_keepH l ks t
theorem hlook_frzAll (ids:List Nat):∀(l:Hp) (t:Nat),hlook (frzAll ids l) t=(hlook l t).map fun k=>if ids.contains t then { k with frz:=true } else k
 | [],t=>rfl
 | (k,b)::l,t=>by
  simp only[frzAll,hlook]
  split
  ·rename_i h;subst h;simp
  ·exact hlook_frzAll ids l t
end Go.Am
namespace Go.Am
set_option linter.unusedSimpArgs false
set_option linter.unusedVariables false
open Go.RowKit
section
variable {w0:Base} {I0:Nat→Prop} {N:Nat} {I:Nat→Prop} {ρ:Nat→Place} {s:St} {a:Act} {w:World}
theorem cell_of_heap {w w':World} {b:Nat} (h:w'.heap[b]? = w.heap[b]?) (off:Nat):w'.cell? ⟨b,off,none⟩=w.cell? ⟨b,off,none⟩:=by
 simp[World.cell?,h]
theorem R.slots (h:R w0 I0 N I ρ s a w) {t':Env} {tm':Array Value} (hs:tm'.size=N) (ht:∀ t,VR I w (modeOf s ρ) (look t' t) (tm'.getD t undef)) :
  R w0 I0 N I ρ ⟨t',s.h,s.g⟩ { a with tmps:=tm' } w :=
 { defers:=h.defers,tab:=h.tab,size:=hs,below:=h.below,imm:=h.imm,old:=h.old,new:=h.new,kept:=h.kept,tm:=ht,hp:=h.hp,inj:=h.inj }
theorem getD_set (tm:Array Value) (d t:Nat) (v:Value) (hd:d<tm.size):(tm.setIfInBounds d v).getD t undef=if d=t then v else tm.getD t undef:=by
 simp only[Array.getD_eq_getD_getElem?,Array.getElem?_setIfInBounds]
 split
 ·simp
 ·rfl
theorem R.put (h:R w0 I0 N I ρ s a w) {d:Nat} {x:AV} {v:Value} (hd:d<N) (hv:VR I w (modeOf s ρ) x v) :
  R w0 I0 N I ρ ⟨Am.put s.t d x,s.h,s.g⟩ (a.put (some d) v) w:=by
 refine h.slots (by simp[h.size]) fun t=>?_
 rw[look_put,getD_set _ _ _ _ (by rw[h.size];exact hd)]
 split
 ·exact hv
 ·exact h.tm t
theorem R.putO (h:R w0 I0 N I ρ s a w) {d:Option Nat} {x:Option AV} {v:Value} (hd:∀ n,d=some n→n<N) (hv:∀ y,x=some y→VR I w (modeOf s ρ) y v) :
  R w0 I0 N I ρ ⟨Am.putO d x s.t,s.h,s.g⟩ (a.put d v) w:=by
 cases d with
 | none=>exact h
 | some d =>
  cases x with
  | none=>exact h.put (hd d rfl) (by simp[VR])
  | some x=>exact h.put (hd d rfl) (hv x rfl)
theorem BlkC.mono {I':Nat→Prop} {w':World} {M M':Option Mode} {p:Place} {k:Blk} (hI:∀ b,I b→I' b) (hN:∀ r σ,p=some (r,σ)→k.frz=false→¬ I r→¬ I' r)
  (hw:∀ b,I b→∀ off,w'.cell? ⟨b,off,none⟩=w.cell? ⟨b,off,none⟩) (hb:∀ r σ,p=some (r,σ)→w'.heap[r]? = w.heap[r]?) (hM:Mode.le M M') (h:BlkC w0 I w M p k):BlkC w0 I' w' M' p k:=by
 revert h
 unfold BlkC
 cases p with
 | none=>exact id
 | some p =>
  obtain⟨r,σ⟩:=p
  rintro⟨h1,⟨h2,hT⟩,h3,h4,arr,ty,h5,h6,h7⟩
  exact⟨h1,⟨fun e=>hI _ (h2 e),hT.imp id fun⟨arr,e,e2⟩=>⟨arr,(hb r σ rfl).trans e,e2⟩⟩,fun e=>hN r σ rfl e (h3 e),h4,arr,ty,by rw[hb r σ rfl];exact h5,h6,VRs.mono hI hw _ _ hM h7⟩
theorem BlkOk.mono {I':Nat→Prop} {w':World} {M M':Option Mode} {p:Place} {k:Blk} (hI:∀ b,I b→I' b) (hN:∀ r σ,p=some (r,σ)→k.frz=false→¬ I r→¬ I' r)
  (hw:∀ b,I b→∀ off,w'.cell? ⟨b,off,none⟩=w.cell? ⟨b,off,none⟩) (hb:∀ r σ,p=some (r,σ)→w'.heap[r]? = w.heap[r]?) (hM:Mode.le M M') (h:BlkOk w0 I w M p k):BlkOk w0 I' w' M' p k:=by
 unfold BlkOk at h ⊢
 split at h
 ·rename_i he
  rw[if_pos he]
  revert h
  unfold BlkM
  cases p with
  | none=>exact id
  | some p =>
   obtain⟨r,σ⟩:=p
   rintro⟨h1,h2,h3,⟨es,h5,h6⟩|⟨m,since,seen,c,h5,b,g,h6,h7,h8⟩⟩
   ·exact⟨h1,fun e=>hI _ (h2 e),fun e=>hN r σ rfl e (h3 e),.inl ⟨es,by rw[hb r σ rfl];exact h5,h6⟩⟩
   ·exact⟨h1,fun e=>hI _ (h2 e),fun e=>hN r σ rfl e (h3 e),.inr ⟨m,since,seen,c,by rw[hb r σ rfl];exact h5,b,g,h6,VR.mono hI hw _ _ hM h7,h8⟩⟩
 ·rename_i he
  rw[if_neg he]
  exact h.mono hI hN hw hb hM
theorem BlkOk.lt {M:Option Mode} {k:Blk} {r σ:Nat} (h:BlkOk w0 I w M (some (r,σ)) k):r<w.heap.size:=by
 unfold BlkOk at h
 split at h
 ·obtain⟨_,_,_,⟨es,h5,_⟩|⟨_,_,_,_,h5,_⟩⟩:=h
  ·exact (Array.getElem?_eq_some_iff.1 h5).1
  ·exact (Array.getElem?_eq_some_iff.1 h5).1
 ·obtain⟨_,_,_,_,arr,ty,h5,_⟩:=h
  exact (Array.getElem?_eq_some_iff.1 h5).1
theorem R.world (h:R w0 I0 N I ρ s a w) {w':World} (hh:w'.heap=w.heap) (ho:w'.os=w.os) (ht:w'.tape=w.tape) (hu:w'.output=w.output):R w0 I0 N I ρ s a w':=by
 have hc:∀ b,I b→∀ off,w'.cell? ⟨b,off,none⟩=w.cell? ⟨b,off,none⟩:=fun b _ off=>by simp[World.cell?,hh]
 refine { defers:=h.defers,tab:=VR.mono (fun _ h=>h) hc _ _ (M:=none) (M':=none) trivial h.tab,size:=h.size,below:=h.below.trans ho ht hu (by rw[hh];exact Nat.le_refl _) (fun k hk=>by rw[hh]),imm:=by rw[hh];exact h.imm,old:=h.old,new:=h.new,kept:=h.kept,tm:=fun t=>VR.mono (fun _ h=>h) hc _ _ (Mode.le_refl _) (h.tm t),hp:=fun b k hk=>?_,inj:=h.inj }
 exact BlkOk.mono (fun _ h=>h) (fun _ _ _ _ h=>h) hc (fun r σ _=>by rw[hh]) (Mode.le_refl _) (h.hp b k hk)
theorem kept_bump (h:R w0 I0 N I ρ s a w) (d:Nat) (p:Place):∀ b,w0.ids b→bump d s.g b=0→(if b=d then p else ρ b)=w0.pl b:=by
 intro b hb hg
 unfold bump at hg
 split at hg
 ·omega
 ·rename_i hne
  rw[if_neg hne]
  exact h.kept b hb hg
theorem R.alloc0 (h:R w0 I0 N I ρ s a w) (d r esz σ:Nat) (cs:List AV) {w':World} (hb:Below w.heap.size w w') (hr:w.heap.size≤r)
  (hok:∀ M':Option Mode,Mode.le (modeOf s ρ) M'→(∀ b,I b→∀ off,w'.cell? ⟨b,off,none⟩=w.cell? ⟨b,off,none⟩)→w0.mine r→¬ I r→BlkOk w0 I w' M' (some (r,σ)) ⟨cs,false,esz⟩) :
  R w0 I0 N I (fun b=>if b=d then some (r,σ) else ρ b) ⟨s.t,hput s.h d ⟨cs,false,esz⟩,bump d s.g⟩ a w':=by
 have hcell:∀ b,I b→∀ off,w'.cell? ⟨b,off,none⟩=w.cell? ⟨b,off,none⟩:=fun b hi off=>cell_of_heap (hb.block b (h.imm b hi)) off
 have hM:Mode.le (modeOf s ρ) (modeOf ⟨s.t,hput s.h d ⟨cs,false,esz⟩,bump d s.g⟩ (fun b=>if b=d then some (r,σ) else ρ b)):=by
  refine⟨fun b=>?_,fun b g L hg hA=>?_⟩
  ·show s.g b≤bump d s.g b
   unfold bump;split<;>omega
  ·simp only[aliveA,bump,hlook_hput] at hA ⊢
   by_cases hbd:b=d
   ·subst hbd
    rw[if_pos rfl] at hA
    rw[if_neg (by simp only[] at hg;omega)] at hA
    cases hA
   ·simp only[if_neg hbd,if_neg (Ne.symm hbd)] at hA
    exact hA
 refine { defers:=h.defers,tab:=VR.mono (fun _ h=>h) hcell _ _ (M:=none) (M':=none) trivial h.tab,size:=h.size,below:=h.below.below hb,imm:=fun b hi=>Nat.lt_of_lt_of_le (h.imm b hi) hb.size,old:=h.old,new:=h.new,kept:=kept_bump h d _,tm:=fun t=>VR.mono (fun _ h=>h) hcell _ _ hM (h.tm t),hp:=fun b k hk=>?_,inj:=?_ }
 ·simp only[hlook_hput] at hk
  by_cases hbd:d=b
  ·subst hbd
   rw[if_pos rfl] at hk
   cases hk
   simp only[if_true]
   exact hok _ hM hcell (.inl (Nat.le_trans h.below.size hr)) (fun hi=>absurd (h.imm r hi) (by omega))
  ·rw[if_neg hbd] at hk
   rw[if_neg (Ne.symm hbd)]
   exact BlkOk.mono (fun _ h=>h) (fun _ _ _ _ h=>h) hcell (fun r' σ' e=>hb.block r' (by have:=h.hp b k hk;rw[e] at this;exact this.lt)) hM (h.hp b k hk)
 ·intro b b' k k' r' σ σ' hk hk' hp hp'
  simp only[hlook_hput] at hk hk'
  by_cases hbd:b=d<;>by_cases hbd':b'=d
  ·rw[hbd,hbd']
  ·rw[if_pos hbd] at hp
   rw[if_neg hbd'] at hp'
   rw[if_neg (Ne.symm hbd')] at hk'
   cases hp
   have:=h.hp b' k' hk'
   rw[hp'] at this
   have:=this.lt
   omega
  ·rw[if_neg hbd] at hp
   rw[if_pos hbd'] at hp'
   rw[if_neg (Ne.symm hbd)] at hk
   cases hp'
   have:=h.hp b k hk
   rw[hp] at this
   have:=this.lt
   omega
  ·rw[if_neg hbd] at hp
   rw[if_neg hbd'] at hp'
   rw[if_neg (Ne.symm hbd)] at hk
   rw[if_neg (Ne.symm hbd')] at hk'
   exact h.inj b b' k k' r' σ σ' hk hk' hp hp'
theorem R.alloc (h:R w0 I0 N I ρ s a w) (d r esz:Nat) (cs:List AV) (arr:Array Value) (ty:Nat) {w':World} (he:esz≠mapTag) (hb:Below w.heap.size w w') (hr:w.heap.size≤r) (hc:w'.heap[r]? = some (.cells arr ty (0,0)))
  (hl:cs.length≤arr.size) (hv:VRs I w (modeOf s ρ) cs (arr.toList.take cs.length)) (hT:esz<4096∨(ty=(esz/4096-1)/2∧((esz/4096)%2=0→arr.size=cs.length))) :
  R w0 I0 N I (fun b=>if b=d then some (r,arr.size) else ρ b) ⟨s.t,hput s.h d ⟨cs,false,esz⟩,bump d s.g⟩ a w':=by
 refine h.alloc0 d r esz arr.size cs hb hr fun M' hM hcell h1 h2=>?_
 unfold BlkOk
 rw[if_neg he]
 exact⟨h1,⟨fun e=>by simp at e,hT.imp id fun⟨e1,e2⟩=>⟨arr,e1▸hc,e2⟩⟩,fun _=>h2,hl,arr,ty,hc,rfl,VRs.mono (fun _ h=>h) hcell _ _ hM hv⟩
theorem R.allocM (h:R w0 I0 N I ρ s a w) (d:Nat) {w':World} (hb:Below w.heap.size w w') (hc:w'.heap[w.heap.size]? = some (.map #[] 0)) :
  R w0 I0 N I (fun b=>if b=d then some (w.heap.size,0) else ρ b) ⟨s.t,hput s.h d ⟨[],false,mapTag⟩,bump d s.g⟩ a w':=by
 refine h.alloc0 d w.heap.size mapTag 0 [] hb (Nat.le_refl _) fun M' hM hcell h1 h2=>?_
 unfold BlkOk
 rw[if_pos rfl]
 exact⟨h1,fun e=>by simp at e,fun _=>h2,.inl ⟨#[],hc,none,trivial⟩⟩
theorem R.nil0 (h:R w0 I0 N I ρ s a w) (d esz:Nat):R w0 I0 N I (fun b=>if b=d then none else ρ b) ⟨s.t,hput s.h d ⟨[],false,esz⟩,bump d s.g⟩ a w:=by
 have hM:Mode.le (modeOf s ρ) (modeOf ⟨s.t,hput s.h d ⟨[],false,esz⟩,bump d s.g⟩ (fun b=>if b=d then none else ρ b)):=by
  refine⟨fun b=>?_,fun b g L hg hA=>?_⟩
  ·show s.g b≤bump d s.g b
   unfold bump;split<;>omega
  ·simp only[aliveA,bump,hlook_hput] at hA ⊢
   by_cases hbd:b=d
   ·subst hbd
    rw[if_pos rfl] at hA
    rw[if_neg (by simp only[] at hg;omega)] at hA
    cases hA
   ·simp only[if_neg hbd,if_neg (Ne.symm hbd)] at hA
    exact hA
 refine { defers:=h.defers,tab:=VR.mono (fun _ h=>h) (fun _ _ _=>rfl) _ _ (M:=none) (M':=none) trivial h.tab,size:=h.size,below:=h.below,imm:=h.imm,old:=h.old,new:=h.new,kept:=kept_bump h d _,tm:=fun t=>VR.mono (fun _ h=>h) (fun _ _ _=>rfl) _ _ hM (h.tm t),hp:=fun b k hk=>?_,inj:=?_ }
 ·simp only[hlook_hput] at hk
  by_cases hbd:d=b
  ·subst hbd
   rw[if_pos rfl] at hk
   cases hk
   simp[BlkOk,BlkM,BlkC]
  ·rw[if_neg hbd] at hk
   rw[if_neg (Ne.symm hbd)]
   exact BlkOk.mono (fun _ h=>h) (fun _ _ _ _ h=>h) (fun _ _ _=>rfl) (fun _ _ _=>rfl) hM (h.hp b k hk)
 ·intro b b' k k' r' σ σ' hk hk' hp hp'
  simp only[hlook_hput] at hk hk'
  by_cases hbd:b=d<;>by_cases hbd':b'=d
  ·rw[hbd,hbd']
  ·rw[if_pos hbd] at hp;cases hp
  ·rw[if_pos hbd'] at hp';cases hp'
  ·rw[if_neg hbd] at hp
   rw[if_neg hbd'] at hp'
   rw[if_neg (Ne.symm hbd)] at hk
   rw[if_neg (Ne.symm hbd')] at hk'
   exact h.inj b b' k k' r' σ σ' hk hk' hp hp'
theorem R.drop (h:R w0 I0 N I ρ s a w) {t':Env} {h':Hp} (ht:∀ t,look t' t=.junk∨look t' t=look s.t t) (hh:∀ b,hlook h' b=none∨hlook h' b=hlook s.h b):R w0 I0 N I ρ ⟨t',h',s.g⟩ a w:=by
 have hM:Mode.le (modeOf s ρ) (modeOf ⟨t',h',s.g⟩ ρ):=by
  refine⟨fun b=>Nat.le_refl _,fun b g L hg hA=>?_⟩
  simp only[aliveA] at hA ⊢
  rcases hh b with e|e
  ·rw[e] at hA;simp at hA
  ·rw[e] at hA;exact hA
 have hsome:∀ b k,hlook h' b=some k→hlook s.h b=some k:=fun b k hk=>by
  rcases hh b with e|e
  ·rw[e] at hk;cases hk
  ·rw[← e];exact hk
 refine { defers:=h.defers,tab:=h.tab,size:=h.size,below:=h.below,imm:=h.imm,old:=h.old,new:=h.new,kept:=h.kept,tm:=fun t=>?_,hp:=fun b k hk=>?_,inj:=fun b b' k k' r σ σ' hk hk'=>h.inj b b' k k' r σ σ' (hsome b k hk) (hsome b' k' hk') }
 ·show VR I w _ (look t' t) _
  rcases ht t with e|e
  ·rw[e];simp[VR]
  ·rw[e];exact VR.mono (fun _ h=>h) (fun _ _ _=>rfl) _ _ hM (h.tm t)
 ·exact BlkOk.mono (fun _ h=>h) (fun _ _ _ _ h=>h) (fun _ _ _=>rfl) (fun _ _ _=>rfl) hM (h.hp b k (hsome b k hk))
theorem R.set0 (h:R w0 I0 N I ρ s a w) {b:Nat} {k:Blk} {r σ:Nat} (hk:hlook s.h b=some k) (hf:k.frz=false) (hρ:ρ b=some (r,σ)) (cs':List AV) {w':World}
  (hos:w'.os=w.os) (htp:w'.tape=w.tape) (hou:w'.output=w.output) (hsz:w'.heap.size=w.heap.size) (hoth:∀ j,j≠r→w'.heap[j]? = w.heap[j]?)
  (hnew:∀ M':Option Mode,Mode.le (modeOf s ρ) M'→(∀ b,I b→∀ off,w'.cell? ⟨b,off,none⟩=w.cell? ⟨b,off,none⟩)→w0.mine r→¬ I r→BlkOk w0 I w' M' (some (r,σ)) { k with cs:=cs' }) :
  R w0 I0 N I ρ ⟨s.t,hput s.h b { k with cs:=cs' },s.g⟩ a w':=by
 have hok:=h.hp b k hk
 rw[hρ] at hok
 have hnI:¬ I r:=hok.first.2.2 hf
 have hcell:∀ j,I j→∀ off,w'.cell? ⟨j,off,none⟩=w.cell? ⟨j,off,none⟩:=fun j hi off=>cell_of_heap (hoth j (fun e=>hnI (e▸hi))) off
 have hA:∀ b' g,aliveA ⟨s.t,hput s.h b { k with cs:=cs' },s.g⟩ ρ b' g=aliveA s ρ b' g:=by
  intro b' g
  simp only[aliveA,hlook_hput]
  by_cases e:b=b'
  ·subst e;rw[if_pos rfl,hk];rfl
  ·rw[if_neg e]
 have hM:Mode.le (modeOf s ρ) (modeOf ⟨s.t,hput s.h b { k with cs:=cs' },s.g⟩ ρ) :=
  ⟨fun _=>Nat.le_refl _,fun b' g L _ hL=>by show aliveA s ρ b' g=some L;rw[← hA];exact hL⟩
 have hbel:w0.upto w':=h.below.trans hos htp hou (by omega) (fun j hj=>hoth j (fun e=>hj (e▸hok.first.1)))
 refine { defers:=h.defers,tab:=VR.mono (fun _ h=>h) hcell _ _ (M:=none) (M':=none) trivial h.tab,size:=h.size,below:=hbel,imm:=fun b hi=>by rw[hsz];exact h.imm b hi,old:=h.old,new:=h.new,kept:=h.kept,tm:=fun t=>VR.mono (fun _ h=>h) hcell _ _ hM (h.tm t),hp:=fun b' k' hk'=>?_,inj:=?_ }
 ·simp only[hlook_hput] at hk'
  by_cases e:b=b'
  ·subst e
   rw[if_pos rfl] at hk'
   cases hk'
   rw[hρ]
   exact hnew _ hM hcell hok.first.1 hnI
  ·rw[if_neg e] at hk'
   exact BlkOk.mono (fun _ h=>h) (fun _ _ _ _ h=>h) hcell (fun r' σ' er=>hoth r' (fun err=>e (h.inj b b' k k' r σ σ' hk hk' hρ (by rw[er,err])))) hM (h.hp b' k' hk')
 ·intro b1 b2 k1 k2 r' σ1 σ2 h1 h2 hp1 hp2
  simp only[hlook_hput] at h1 h2
  have e1:∃ k,hlook s.h b1=some k:=by
   by_cases e:b=b1
   ·subst e;exact⟨k,hk⟩
   ·rw[if_neg e] at h1;exact⟨_,h1⟩
  have e2:∃ k,hlook s.h b2=some k:=by
   by_cases e:b=b2
   ·subst e;exact⟨k,hk⟩
   ·rw[if_neg e] at h2;exact⟨_,h2⟩
  obtain⟨j1,hj1⟩:=e1
  obtain⟨j2,hj2⟩:=e2
  exact h.inj b1 b2 j1 j2 r' σ1 σ2 hj1 hj2 hp1 hp2
theorem R.set (h:R w0 I0 N I ρ s a w) {b:Nat} {k:Blk} {r σ:Nat} (hk:hlook s.h b=some k) (hf:k.frz=false) (he:k.esz≠mapTag) (hρ:ρ b=some (r,σ)) (cs':List AV) (arr':Array Value) (ty:Nat) {w':World}
  (hos:w'.os=w.os) (htp:w'.tape=w.tape) (hou:w'.output=w.output) (hsz:w'.heap.size=w.heap.size) (hoth:∀ j,j≠r→w'.heap[j]? = w.heap[j]?) (hc:w'.heap[r]? = some (.cells arr' ty (0,0)))
  (hs:arr'.size=σ) (hl:cs'.length≤σ) (hv:VRs I w (modeOf s ρ) cs' (arr'.toList.take cs'.length)) {arr0:Array Value} (ho:w.heap[r]? = some (.cells arr0 ty (0,0))) (hex:k.esz<4096∨(k.esz/4096)%2=1∨cs'.length=k.cs.length) :
  R w0 I0 N I ρ ⟨s.t,hput s.h b { k with cs:=cs' },s.g⟩ a w':=by
 refine h.set0 hk hf hρ cs' hos htp hou hsz hoth fun M' hM hcell h1 h2=>?_
 unfold BlkOk
 rw[if_neg (show ({ k with cs:=cs' }:Blk).esz≠mapTag from he)]
 have hok:=h.hp b k hk
 rw[hρ] at hok
 unfold BlkOk at hok
 rw[if_neg he] at hok
 obtain⟨_,⟨_,hT⟩,_,_,arr1,ty1,h5,h6,_⟩:=hok
 rw[ho] at h5
 cases h5
 refine⟨h1,⟨fun e=>by simp[hf] at e, ?_⟩,fun _=>h2,hl,arr',ty,hc,hs,VRs.mono (fun _ h=>h) hcell _ _ hM hv⟩
 rcases hT with hT|⟨arr2,e1,e2⟩
 ·exact .inl hT
 ·rw[ho] at e1
  cases e1
  rcases hex with hx|hx|hx
  ·exact .inl hx
  ·refine .inr ⟨arr',hc,fun e=>?_⟩
   have e':(k.esz/4096)%2=0:=e
   omega
  ·refine .inr ⟨arr',hc,fun e=>?_⟩
   have:=e2 e
   show arr'.size=cs'.length
   omega
theorem R.setM (h:R w0 I0 N I ρ s a w) {b:Nat} {k:Blk} {r σ:Nat} (hk:hlook s.h b=some k) (hf:k.frz=false) (he:k.esz=mapTag) (hρ:ρ b=some (r,σ)) (cs':List AV) (es:Array MapEntry) (hr:r<w.heap.size)
  (hm:mEnt cs' 0 es.toList) :
  R w0 I0 N I ρ ⟨s.t,hput s.h b { k with cs:=cs' },s.g⟩ a { w with heap:=w.heap.setIfInBounds r (.map es es.size) }:=by
 refine h.set0 hk hf hρ cs' rfl rfl rfl (by simp) (fun j hj=>by simp[Array.getElem?_setIfInBounds,Ne.symm hj]) fun M' hM hcell h1 h2=>?_
 unfold BlkOk
 rw[if_pos (show ({ k with cs:=cs' }:Blk).esz=mapTag from he)]
 exact⟨h1,fun e=>by simp[hf] at e,fun _=>h2,.inl ⟨es,by simp[hr],hm⟩⟩
theorem R.allocI (h:R w0 I0 N I ρ s a w) (d:Nat) {w':World} {b g m since:Nat} (hb:Below w.heap.size w w') (hc:w'.heap[w.heap.size]? = some (.mapIter (some m) since #[] since)) (hv:VR I w (modeOf s ρ) (.mp b g) (.map (some m))) :
  R w0 I0 N I (fun b=>if b=d then some (w.heap.size,0) else ρ b) ⟨s.t,hput s.h d ⟨[.mp b g,.int .i64 since,.int .i64 since],false,mapTag⟩,bump d s.g⟩ a w':=by
 refine h.alloc0 d w.heap.size mapTag 0 [.mp b g,.int .i64 since,.int .i64 since] hb (Nat.le_refl _) fun M' hM hcell h1 h2=>?_
 unfold BlkOk
 rw[if_pos rfl]
 exact⟨h1,fun e=>by simp at e,fun _=>h2,.inr ⟨m,since,#[],since,hc,b,g,rfl,VR.mono (fun _ h=>h) hcell _ _ hM hv,Nat.le_refl _⟩⟩
theorem R.setI (h:R w0 I0 N I ρ s a w) {b:Nat} {k:Blk} {r σ:Nat} (hk:hlook s.h b=some k) (hf:k.frz=false) (he:k.esz=mapTag) (hρ:ρ b=some (r,σ)) (m since:Nat) (seen:Array Nat) (c:Nat) (cs':List AV) {w':World}
  (hos:w'.os=w.os) (htp:w'.tape=w.tape) (hou:w'.output=w.output) (hsz:w'.heap.size=w.heap.size) (hoth:∀ j,j≠r→w'.heap[j]? = w.heap[j]?) (hc:w'.heap[r]? = some (.mapIter (some m) since seen c))
  (hm:ItOk I w (modeOf s ρ) cs' m since seen c) :
  R w0 I0 N I ρ ⟨s.t,hput s.h b { k with cs:=cs' },s.g⟩ a w':=by
 refine h.set0 hk hf hρ cs' hos htp hou hsz hoth fun M' hM hcell h1 h2=>?_
 obtain⟨mb,mg,e1,e2,e3⟩:=hm
 unfold BlkOk
 rw[if_pos (show ({ k with cs:=cs' }:Blk).esz=mapTag from he)]
 exact⟨h1,fun e=>by simp[hf] at e,fun _=>h2,.inr ⟨m,since,seen,c,hc,mb,mg,e1,VR.mono (fun _ h=>h) hcell _ _ hM e2,e3⟩⟩
def frzI (I:Nat→Prop) (ρ:Nat→Place) (s:St) (ids:List Nat):Nat→Prop:=fun x=>I x∨∃ b k σ,b∈ids∧hlook s.h b=some k∧ρ b=some (x,σ)
theorem R.freeze (h:R w0 I0 N I ρ s a w) (ids:List Nat):R w0 I0 N (frzI I ρ s ids) ρ ⟨s.t,frzAll ids s.h,s.g⟩ a w:=by
 have hA:∀ b' g,aliveA ⟨s.t,frzAll ids s.h,s.g⟩ ρ b' g=aliveA s ρ b' g:=by
  intro b' g
  simp only[aliveA,hlook_frzAll,Option.map_map]
  split
  ·congr 1;funext k;simp only[Function.comp];split<;>rfl
  ·rfl
 have hM:Mode.le (modeOf s ρ) (modeOf ⟨s.t,frzAll ids s.h,s.g⟩ ρ) :=
  ⟨fun _=>Nat.le_refl _,fun b' g L _ hL=>by show aliveA s ρ b' g=some L;rw[← hA];exact hL⟩
 have hI:∀ b,I b→frzI I ρ s ids b:=fun b hb=>.inl hb
 refine { defers:=h.defers,tab:=VR.mono hI (fun _ _ _=>rfl) _ _ (M:=none) (M':=none) trivial h.tab,size:=h.size,below:=h.below,imm:=?_,old:=fun b hb=>.inl (h.old b hb),new:=?_,kept:=h.kept,tm:=fun t=>VR.mono hI (fun _ _ _=>rfl) _ _ hM (h.tm t),hp:=fun b k hk=>?_,inj:=?_ }
 ·rintro x (hx|⟨b,k,σ,_,hk,hρ⟩)
  ·exact h.imm x hx
  ·have:=h.hp b k hk;rw[hρ] at this;exact this.lt
 ·rintro x (hx|⟨b,k,σ,_,hk,hρ⟩)
  ·exact h.new x hx
  ·have:=h.hp b k hk;rw[hρ] at this;exact .inr this.first.1
 ·simp only[hlook_frzAll,Option.map_eq_some_iff] at hk
  obtain⟨k0,hk0,rfl⟩:=hk
  have hok:=h.hp b k0 hk0
  revert hok
  have hesz:(if ids.contains b=true then { k0 with frz:=true } else k0).esz=k0.esz:=by split<;>rfl
  unfold BlkOk
  rw[hesz]
  by_cases hmt:k0.esz=mapTag
  ·rw[if_pos hmt,if_pos hmt]
   cases hp:ρ b with
   | none =>
    intro hok
    have e:k0.cs=[]:=hok
    show (if ids.contains b=true then { k0 with frz:=true } else k0).cs=[]
    split<;>exact e
   | some p =>
    obtain⟨r,σ⟩:=p
    rintro⟨h1,h2,h3,hd⟩
    have hd':(∃ es:Array MapEntry,w.heap[r]? = some (.map es es.size)∧mEnt k0.cs 0 es.toList) ∨
      ∃ m since seen c,w.heap[r]? = some (.mapIter (some m) since seen c)∧ItOk (frzI I ρ s ids) w (modeOf ⟨s.t,frzAll ids s.h,s.g⟩ ρ) k0.cs m since seen c:=by
     rcases hd with hd|⟨m,since,seen,c,h5,b,g,h6,h7,h8⟩
     ·exact .inl hd
     ·exact .inr ⟨m,since,seen,c,h5,b,g,h6,VR.mono hI (fun _ _ _=>rfl) _ _ hM h7,h8⟩
    by_cases hc:b∈ids
    ·rw[if_pos (by simpa using hc)]
     exact⟨h1,fun _=>.inr ⟨b,k0,σ,hc,hk0,hp⟩,fun e=>by simp at e,hd'⟩
    ·rw[if_neg (by simpa using hc)]
     refine⟨h1,fun e=>.inl (h2 e),fun e=>?_,hd'⟩
     rintro (hi|⟨b',k',σ',hm,hk',hρ'⟩)
     ·exact h3 e hi
     ·exact hc (h.inj b b' k0 k' r σ σ' hk0 hk' hp hρ'▸hm)
  rw[if_neg hmt,if_neg hmt]
  cases hp:ρ b with
  | none =>
   intro hok
   have e:k0.cs=[]:=hok
   show (if ids.contains b=true then { k0 with frz:=true } else k0).cs=[]
   split<;>exact e
  | some p =>
   obtain⟨r,σ⟩:=p
   rintro⟨h1,⟨h2,hT⟩,h3,h4,arr,ty,h5,h6,h7⟩
   have h7':=VRs.mono hI (fun _ _ _=>rfl) _ _ hM h7
   by_cases hc:b∈ids
   ·rw[if_pos (by simpa using hc)]
    exact⟨h1,⟨fun _=>.inr ⟨b,k0,σ,hc,hk0,hp⟩,hT⟩,fun e=>by simp at e,h4,arr,ty,h5,h6,h7'⟩
   ·rw[if_neg (by simpa using hc)]
    refine⟨h1,⟨fun e=>.inl (h2 e),hT⟩,fun e=>?_,h4,arr,ty,h5,h6,h7'⟩
    rintro (hi|⟨b',k',σ',hm,hk',hρ'⟩)
    ·exact h3 e hi
    ·exact hc (h.inj b b' k0 k' r σ σ' hk0 hk' hp hρ'▸hm)
 ·intro b1 b2 k1 k2 r' σ1 σ2 h1 h2 hp1 hp2
  simp only[hlook_frzAll,Option.map_eq_some_iff] at h1 h2
  obtain⟨j1,hj1,_⟩:=h1
  obtain⟨j2,hj2,_⟩:=h2
  exact h.inj b1 b2 j1 j2 r' σ1 σ2 hj1 hj2 hp1 hp2
theorem R.called (h:R w0 I0 N I ρ s a w) {I':Nat→Prop} {w':World} (hb:Below w.heap.size w w') (h1:∀ b,I b→I' b) (h2:∀ b,I' b→I b∨w.heap.size≤b) (h3:∀ b,I' b→b<w'.heap.size):R w0 I0 N I' ρ s a w':=by
 have hcell:∀ b,I b→∀ off,w'.cell? ⟨b,off,none⟩=w.cell? ⟨b,off,none⟩:=fun b hi off=>cell_of_heap (hb.block b (h.imm b hi)) off
 refine { defers:=h.defers,tab:=VR.mono h1 hcell _ _ (M:=none) (M':=none) trivial h.tab,size:=h.size,below:=h.below.below hb,imm:=h3,old:=fun b hb=>h1 b (h.old b hb),new:=fun b hb'=>?_,kept:=h.kept,tm:=fun t=>VR.mono h1 hcell _ _ (Mode.le_refl _) (h.tm t),hp:=fun b k hk=>?_,inj:=h.inj }
 ·rcases h2 b hb' with e|e
  ·exact h.new b e
  ·exact .inr (.inl (Nat.le_trans h.below.size e))
 ·have hok:=h.hp b k hk
  refine BlkOk.mono h1 (fun r σ e _ hn hi=>?_) hcell (fun r σ e=>hb.block r (by rw[e] at hok;exact hok.lt)) (Mode.le_refl _) hok
  rcases h2 r hi with e'|e'
  ·exact hn e'
  ·rw[e] at hok;have:=hok.lt;omega
end
end Go.Am
namespace Go.Am
set_option linter.unusedSimpArgs false
set_option linter.unusedVariables false
open Go.RowKit
def isFn (f:Nat):Value→Bool
 | .func (.func f') a c=>decide (f=f')&&(a.isEmpty&&c.isEmpty)
 | _=>false
def isNilS:Value→Bool
 | .slice none 0 0=>true
 | _=>false
theorem isFn_eq {f:Nat} {v:Value} (h:isFn f v=true):v=.func (.func f) #[] #[]:=by
 unfold isFn at h
 split at h
 ·simp at h
  obtain⟨rfl,rfl,rfl⟩:=h
  rfl
 ·cases h
theorem isNilS_eq {v:Value} (h:isNilS v=true):v=.slice none 0 0:=by
 unfold isNilS at h
 split at h
 ·rfl
 ·cases h
def isNilV:Bool→Value→Bool
 | true,.nilIface=>true
 | false,.pointer none=>true
 | _,_=>false
def isPow:Nat→List AV→Bool
 | n,.int .u64 k::xs=>decide (k=(10^n:Nat))&&isPow (n+1) xs
 | n,[]=>decide (n=20)
 | _,_=>false
def isTab (xs:List AV):Bool:=isPow 0 xs
theorem isPow_eq:∀(xs:List AV) (n:Nat),isPow n xs=true→n+xs.length=20∧xs=(List.range' n xs.length).map fun i=>.int .u64 (10^i:Nat)
 | [],n,h=>by simpa [isPow] using h
 | x::xs,n,h=>by
  cases x<;>try (simp[isPow] at h;done)
  rename_i k z
  cases k<;>simp[isPow] at h
  obtain⟨h1,h2⟩:=isPow_eq xs (n+1) h.2
  refine⟨by simp;omega, ?_⟩
  simp only[List.length_cons,List.range'_succ,List.map_cons]
  rw[← h2,h.1]
  simp
theorem isTab_eq {xs:List AV} (h:isTab xs=true):xs=tab10:=by
 obtain⟨h1,h2⟩:=isPow_eq xs 0 h
 have e:xs.length=20:=by omega
 rw[h2,e,← List.range_eq_range']
 rfl
theorem isNilV_eq {i:Bool} {v:Value} (h:isNilV i v=true):v=if i then .nilIface else .pointer none:=by
 unfold isNilV at h
 split at h
 ·rfl
 ·rfl
 ·cases h
mutual
def cval:AV→Value→Bool
 | .int k n,.int k' n'=>decide (k=k')&&decide (n=n')
 | .bool b,.bool b'=>b==b'
 | .str s,.string t=>decide (t.data.toList=s)&&decide (t.size≤maxLen)
 | .clo f [],v=>isFn f v
 | .agg xs,.agg cs=>cvals xs cs.toList
 | .nils,v=>isNilS v
 | .nilv i,v=>isNilV i v
 | .junk,_=>true
 | _,_=>false
def cvals:List AV→List Value→Bool
 | [],[]=>true
 | x::xs,v::vs=>cval x v&&cvals xs vs
 | _,_=>false
end
def mOpd:Operand→AOpd→Bool
 | .tmp t,.t n=>decide (t=n)
 | .const v,.c x=>cval x v
 | .func f,.c (.clo g [])=>decide (f=g)
 | .global g,.c (.ipt 0 xs)=>decide (g=0)&&isTab xs
 | _,_=>false
def mOpds:List Operand→List AOpd→Bool
 | [],[]=>true
 | x::xs,y::ys=>mOpd x y&&mOpds xs ys
 | _,_=>false
def mOpdO:Option Operand→Option AOpd→Bool
 | some x,some y=>mOpd x y
 | none,none=>true
 | _,_=>false
def tInfo (P:Program) (t:TypeId):Option (Nat×Bool) :=
 match P.info? t,P.underlying t with
 | some i,some (.struct _)|some i,some (.array _ _)=>some (i.size,true)
 | some i,some _=>some (i.size,false)
 | _,_=>none
def tIs (P:Program) (t:TypeId) (n:Nat) (agg:Bool):Bool :=
 match tInfo P t with
 | some (m,b)=>decide (m=n)&&(b==agg)&&(agg||decide (n=1))
 | none=>false
def tZero (P:Program) (t:TypeId) (z:List AV):Bool :=
 match P.info? t with
 | some i=>match i.zero with
  | some v=>cvals z v.cells.toList
  | none=>false
 | none=>false
def tSlice (P:Program) (t:TypeId) (sz:Nat):Bool :=
 match P.underlying t with
 | some (.slice e)=>match P.info? e with
  | some i=>match i.zero with
   | some v=>decide (i.size=sz)&&decide (0<sz)&&decide (v.cells.size=sz)&&decide (i.bytes≤128)&&decide (sz<4096)
   | none=>false
  | none=>false
 | _=>false
def tSliceZ (P:Program) (t:TypeId) (z:List AV):Bool :=
 match P.underlying t with
 | some (.slice e)=>tZero P e z
 | _=>false
def mParts (place:Nat→Option (Nat×Nat)):List (Nat×Operand)→List (Nat×Nat×AOpd)→Bool
 | [],[]=>true
 | (i,x)::ps,(off,n,y)::qs=>decide (place i=some (off,n))&&mOpd x y&&mParts place ps qs
 | _,_=>false
def placesOf (P:Program) (fs:List Field):Option (List (Nat×Nat)):=fs.mapM fun f=>(P.info? f.type).map fun i=>(f.offset,i.size)
def flatF (P:Program) (g:TypeId→Option (List Bool)):Nat→List Field→Option (List Bool)
 | _,[]=>some []
 | n, f :: fs => if f.name = "_" then none else
   match g f.type with
   | some ks=>if f.offset=n∧(P.info? f.type).map (·.size)=some ks.length then (match flatF P g (n+ks.length) fs with|some r=>some (ks++r)|none=>none) else none
   | none=>none
def flatT (P:Program):Nat→TypeId→Option (List Bool)
 | 0,_=>none
 | d+1,t=>match P.underlying t with
  | some .bool=>some [true]
  | some (.int _)=>some [false]
  | some (.struct fs)=>if P.stoodInHeld t then none else flatF P (flatT P d) 0 fs.toList
  | some (.array n e)=>match flatT P d e with
   | some ks=>if (P.info? e).map (·.size)=some ks.length∧ks.length≠0 then some (List.replicate n ks).flatten else none
   | none=>none
  | _=>none
section
variable {P:Program} {w0:Base} {I0:Nat→Prop} {N:Nat} {I:Nat→Prop} {ρ:Nat→Place} {s:St} {a:Act} {w:World} {M:Option Mode}
mutual
theorem cval_VR:∀(x:AV) (v:Value),cval x v=true→VR I w M x v
 | .int k n,v,h=>by
  cases v<;>simp[cval] at h
  simp[VR,h.1,h.2]
 | .bool b,v,h=>by
  cases v<;>simp[cval] at h
  simp[VR,h]
 | .str b,v,h=>by
  cases v<;>simp[cval] at h
  simp only[VR]
  exact⟨_,rfl,h.1,h.2⟩
 | .clo f cs,v,h=>by
  cases cs with
  | cons c cs=>simp[cval] at h
  | nil =>
   simp only[cval] at h
   simp only[VR]
   exact⟨[],isFn_eq h,by simp[VRs]⟩
 | .agg xs,v,h=>by
  cases v<;>simp[cval] at h
  rename_i cs
  simp only[VR]
  exact⟨cs.toList,by simp,cvals_VRs xs _ h⟩
 | .nils,v,h=>by
  simp only[cval] at h
  simp only[VR]
  exact isNilS_eq h
 | .nilv i,v,h=>by
  simp only[cval] at h
  simp only[VR]
  exact isNilV_eq h
 | .junk,v,h=>by simp[VR]
 | .lst _ _,v,h=>by cases v<;>simp[cval] at h
 | .tup _,v,h=>by cases v<;>simp[cval] at h
 | .ipt _ _,v,h=>by cases v<;>simp[cval] at h
 | .ptr _ _ _,v,h=>by cases v<;>simp[cval] at h
 | .own _ _ _ _,v,h=>by cases v<;>simp[cval] at h
theorem cvals_VRs:∀(xs:List AV) (vs:List Value),cvals xs vs=true→VRs I w M xs vs
 | [],[],_=>by simp[VRs]
 | [],_::_,h=>by simp[cvals] at h
 | _::_,[],h=>by simp[cvals] at h
 | x::xs,v::vs,h=>by
  simp[cvals] at h
  simp only[VRs]
  exact⟨cval_VR x v h.1,cvals_VRs xs vs h.2⟩
end
theorem R.opd (h:R w0 I0 N I ρ s a w) {y:Operand} {x:AOpd} (hm:mOpd y x=true):VR I w (modeOf s ρ) (opv s x) (a.eval y):=by
 unfold mOpd at hm
 split at hm
 ·simp at hm;subst hm
  exact h.tm _
 ·exact cval_VR _ _ hm
 ·simp at hm
  subst hm
  simp only[opv,VR,Act.eval]
  exact⟨[],rfl,by simp[VRs]⟩
 ·simp only[Bool.and_eq_true,decide_eq_true_eq] at hm
  obtain⟨rfl,hm⟩:=hm
  rw[isTab_eq hm]
  have:=h.tab
  unfold TabOk at this
  simp only[opv,Act.eval]
  exact VR.mono (fun _ h=>h) (fun _ _ _=>rfl) _ _ (M:=none) trivial this
 ·cases hm
theorem R.opds (h:R w0 I0 N I ρ s a w):∀ {ys:List Operand} {xs:List AOpd},mOpds ys xs=true→VRs I w (modeOf s ρ) (xs.map (opv s)) (ys.map a.eval)
 | [],[],_=>by simp[VRs]
 | [],_::_,hm=>by simp[mOpds] at hm
 | _::_,[],hm=>by simp[mOpds] at hm
 | y::ys,x::xs,hm=>by
  simp[mOpds] at hm
  simp only[List.map_cons,VRs]
  exact⟨h.opd hm.1,R.opds h hm.2⟩
theorem VR_int {k:IntKind} {n:Int} {v:Value} (h:VR I w M (.int k n) v):v=.int k n:=by simpa [VR] using h
theorem VR_bool {b:Bool} {v:Value} (h:VR I w M (.bool b) v):v=.bool b:=by simpa [VR] using h
theorem VR_agg {xs:List AV} {v:Value} (h:VR I w M (.agg xs) v):∃ cs:List Value,v=.agg cs.toArray∧VRs I w M xs cs:=by simpa [VR] using h
theorem VR_tup {xs:List AV} {v:Value} (h:VR I w M (.tup xs) v):∃ cs:List Value,v=.tuple cs.toArray∧VRs I w M xs cs:=by simpa [VR] using h
theorem R.live (h:R w0 I0 N I ρ s a w) {fp:List Nat} {b g:Nat} {k:Blk} (hb:liveAt s fp b g=some k) :
  s.g b=g∧hlook s.h b=some k∧aliveA s ρ b g=some (ρ b,k.esz % 4096)∧BlkOk w0 I w (modeOf s ρ) (ρ b) k:=by
 unfold liveAt at hb
 split at hb
 ·split at hb
  ·rename_i hg
   refine⟨hg,hb, ?_,h.hp b k hb⟩
   simp[aliveA,hg,hb]
  ·cases hb
 ·cases hb
theorem blkAt_live {fp:List Nat} {b g:Nat} {k:Blk} (hb:blkAt s fp b g=some k):liveAt s fp b g=some k∧k.esz≠mapTag:=by
 unfold blkAt at hb
 split at hb
 ·split at hb
  ·cases hb
  ·rename_i hl he
   cases hb
   exact⟨hl,he⟩
 ·cases hb
theorem mapAt_live' {fp:List Nat} {b g:Nat} {k:Blk} (hb:mapAt s fp b g=some k):liveAt s fp b g=some k∧k.esz=mapTag∧isIt k.cs=false:=by
 unfold mapAt at hb
 split at hb
 ·split at hb
  ·rename_i hl he
   cases hb
   exact⟨hl,he⟩
  ·cases hb
 ·cases hb
theorem mapAt_live {fp:List Nat} {b g:Nat} {k:Blk} (hb:mapAt s fp b g=some k):liveAt s fp b g=some k∧k.esz=mapTag:=⟨(mapAt_live' hb).1,(mapAt_live' hb).2.1⟩
theorem itAt_live {fp:List Nat} {b g:Nat} {k:Blk} (hb:itAt s fp b g=some k):liveAt s fp b g=some k∧k.esz=mapTag∧isIt k.cs=true:=by
 unfold itAt at hb
 split at hb
 ·split at hb
  ·rename_i hl he
   cases hb
   exact⟨hl,he⟩
  ·cases hb
 ·cases hb
theorem mEnt_notIt {cs:List AV} {j:Nat} {es:List MapEntry} (h:mEnt cs j es):isIt cs=false:=by
 obtain⟨κ,h⟩:=h
 match cs,es,h with
 | [],_,_=>rfl
 | k::x::cs,e::es,h =>
  have h1:=h.1
  cases κ with
  | none=>obtain⟨n,rfl,_⟩:=h1;rfl
  | some m=>obtain⟨n,_,rfl,_⟩:=h1;rfl
theorem R.mapped (h:R w0 I0 N I ρ s a w) {fp:List Nat} {b g:Nat} {k:Blk} {v:Value} (hb:mapAt s fp b g=some k) (hv:VR I w (modeOf s ρ) (.mp b g) v) :
  ∃ r σ es,ρ b=some (r,σ)∧v=.map (some r)∧hlook s.h b=some k∧k.esz=mapTag∧w.heap[r]? = some (.map es es.size)∧mEnt k.cs 0 es.toList:=by
 obtain⟨hl,he,hni⟩:=mapAt_live' hb
 obtain⟨h1,h2,h3,h4⟩:=h.live hl
 simp only[VR,modeOf] at hv
 obtain⟨r,σ,h5,h6⟩:=hv.2.2 _ h3
 unfold BlkOk at h4
 rw[if_pos he] at h4
 simp only at h5
 rw[h5] at h4
 obtain⟨_,_,_,⟨es,h7,h8⟩|⟨m,since,seen,c,h7,b2,g2,h8,h9⟩⟩:=h4
 ·exact⟨r,σ,es,h5,h6,h2,he,h7,h8⟩
 ·rw[h8] at hni;cases hni
theorem R.come (h:R w0 I0 N I ρ s a w) {fp:List Nat} {b g:Nat} {k:Blk} {v:Value} (hb:itAt s fp b g=some k) (hv:VR I w (modeOf s ρ) (.ptr b g 0) v) :
  ∃ r σ m since seen c,ρ b=some (r,σ)∧v=.pointer (some ⟨r,0,none⟩)∧hlook s.h b=some k∧k.esz=mapTag∧w.heap[r]? = some (.mapIter (some m) since seen c)∧ItOk I w (modeOf s ρ) k.cs m since seen c:=by
 obtain⟨hl,he,hni⟩:=itAt_live hb
 obtain⟨h1,h2,h3,h4⟩:=h.live hl
 simp only[VR,modeOf] at hv
 obtain⟨r,σ,h5,h6⟩:=hv.2.2 _ h3
 unfold BlkOk at h4
 rw[if_pos he] at h4
 simp only at h5
 rw[h5] at h4
 obtain⟨_,_,_,⟨es,h7,h8⟩|⟨m,since,seen,c,h7,h8⟩⟩:=h4
 ·rw[mEnt_notIt h8] at hni;cases hni
 ·exact⟨r,σ,m,since,seen,c,h5,h6,h2,he,h7,h8⟩
theorem R.blk (h:R w0 I0 N I ρ s a w) {fp:List Nat} {b g:Nat} {k:Blk} (hb:blkAt s fp b g=some k) :
  s.g b=g∧hlook s.h b=some k∧aliveA s ρ b g=some (ρ b,k.esz % 4096)∧BlkC w0 I w (modeOf s ρ) (ρ b) k:=by
 obtain⟨hl,he⟩:=blkAt_live hb
 obtain⟨h1,h2,h3,h4⟩:=h.live hl
 unfold BlkOk at h4
 rw[if_neg he] at h4
 exact⟨h1,h2,h3,h4⟩
theorem R.ptr (h:R w0 I0 N I ρ s a w) {fp:List Nat} {b g o:Nat} {k:Blk} {v:Value} (hb:blkAt s fp b g=some k) (hv:VR I w (modeOf s ρ) (.ptr b g o) v) :
  ∃ r σ,ρ b=some (r,σ)∧v=.pointer (some ⟨r,o,none⟩):=by
 obtain⟨_,_,h3,_⟩:=h.blk hb
 simp only[VR,modeOf] at hv
 obtain⟨r,σ,h4,h5⟩:=hv.2.2 _ h3
 exact⟨r,σ,h4,h5⟩
theorem VRs_oneCell {xs:List AV} {vs:List Value} (h:VRs I w M xs vs) (hc:xs.all AV.isCell=true):∀ v∈vs,v.oneCell'=true:=by
 intro v hv
 obtain⟨i,hi,rfl⟩:=List.mem_iff_getElem.1 hv
 have hlen:=h.length
 obtain⟨u,hu,hr⟩:=h.get i xs[i] (by simp[hlen▸hi])
 rw[List.getElem?_eq_getElem hi] at hu
 cases hu
 have hx:(xs[i]'(by omega)).isCell=true:=by
  rw[List.all_eq_true] at hc
  exact hc _ (List.getElem_mem _)
 generalize vs[i]=u at hr
 generalize (xs[i]'(by omega))=x at hr hx
 cases x<;>simp[AV.isCell] at hx<;>simp only[VR] at hr
 ·subst hr;rfl
 ·subst hr;rfl
 ·obtain⟨t,rfl,_⟩:=hr;rfl
 ·rcases hr with⟨_,_,p,c,rfl⟩|⟨b,off,cap,cs,rfl,_⟩<;>rfl
 ·obtain⟨cs,rfl,_⟩:=hr;rfl
 ·obtain⟨b,off,cs,rfl,_⟩:=hr;rfl
 ·cases M with
  | none=>exact hr.elim
  | some m=>obtain⟨⟨p,rfl⟩,_⟩:=hr;rfl
 ·cases M with
  | none=>exact hr.elim
  | some m=>obtain⟨⟨p,l,c,rfl⟩,_⟩:=hr;rfl
 ·subst hr;rfl
 ·subst hr;split<;>rfl
end
end Go.Am
