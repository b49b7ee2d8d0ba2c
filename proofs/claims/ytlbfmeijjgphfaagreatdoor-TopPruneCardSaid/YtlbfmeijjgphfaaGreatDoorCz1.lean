/- CO: texts of this claim, one behind the other. -/
import Derived.Test.YtlbfmeijjgphfaaGreatDoorAm1
import Derived.Test.YtlbfmeijjgphfaaGreatDoorAm4
import Derived.Test.YtlbfmeijjgphfaaGreatDoorProg
set_option linter.unusedVariables false
set_option linter.unusedSimpArgs false
/- CO: values of the program's types as Lean values: rows of cells and back. -/
namespace Go.Co
open Go.Am
class Row (α:Type) where
 sz:Nat
 enc:α→List AV
 dec:List AV→Option α
 pos:0<sz
 len:∀ a,(enc a).length=sz
 dec_enc:∀ a,dec (enc a)=some a
 enc_dec:∀ xs a,dec xs=some a→xs=enc a
section
variable {α:Type} [Row α]
def encL (l:List α):List AV:=l.flatMap Row.enc
def decL (α:Type) [Row α]:Nat→List AV→Option (List α)
 | 0,[]=>some []
 | 0,_::_=>none
 | n+1,xs=>match Row.dec (xs.take (Row.sz α)) with
  | some a=>match decL α n (xs.drop (Row.sz α)) with
   | some l=>some (a::l)
   | none=>none
  | none=>none
theorem encL_nil:encL ([]:List α)=[]:=rfl
theorem encL_cons (a:α) (l:List α):encL (a::l)=Row.enc a++encL l:=rfl
theorem encL_append (l m:List α):encL (l++m)=encL l++encL m:=by simp[encL]
theorem encL_length (l:List α):(encL l).length=l.length*Row.sz α:=by
 induction l with
 | nil=>simp[encL]
 | cons a l ih=>rw[encL_cons,List.length_append,ih,Row.len,List.length_cons,Nat.succ_mul];omega
theorem decL_encL:∀(l:List α),decL α l.length (encL l)=some l
 | []=>rfl
 | a::l=>by
  rw[List.length_cons,decL,encL_cons]
  rw[List.take_append_of_le_length (by rw[Row.len];exact Nat.le_refl _),List.take_of_length_le (by rw[Row.len];exact Nat.le_refl _),Row.dec_enc]
  have:(Row.enc a++encL l).drop (Row.sz α)=encL l:=by
   have:=Row.len a
   rw[← this,List.drop_left]
  rw[this,decL_encL l]
theorem decL_some:∀(n:Nat) (xs:List AV) (l:List α),decL α n xs=some l→n=l.length∧xs=encL l
 | 0,[],l,h=>by simp only[decL,Option.some.injEq] at h;subst h;exact⟨rfl,rfl⟩
 | 0,_::_,l,h=>by simp[decL] at h
 | n+1,xs,l,h=>by
  unfold decL at h
  split at h
  ·rename_i a ha
   split at h
   ·rename_i m hm
    cases h
    obtain⟨h1,h2⟩:=decL_some n _ m hm
    have h3:=Row.enc_dec _ _ ha
    refine⟨by simp[h1], ?_⟩
    rw[encL_cons,← h2,← h3,List.take_append_drop]
   ·cases h
  ·cases h
theorem encL_get (l:List α) (i:Nat) (h:i<l.length):((encL l).drop (i*Row.sz α)).take (Row.sz α)=Row.enc l[i]:=by
 induction l generalizing i with
 | nil=>simp at h
 | cons a l ih =>
  cases i with
  | zero =>
   simp only[Nat.zero_mul,List.drop_zero,encL_cons,List.getElem_cons_zero]
   rw[List.take_append_of_le_length (by rw[Row.len];exact Nat.le_refl _),List.take_of_length_le (by rw[Row.len];exact Nat.le_refl _)]
  | succ i =>
   have:=ih i (by simpa using h)
   rw[encL_cons,Nat.succ_mul,Nat.add_comm,← List.drop_drop]
   have h2:(Row.enc a++encL l).drop (Row.sz α)=encL l:=by
    have:=Row.len a
    rw[← this,List.drop_left]
   rw[h2]
   simpa using this
theorem encL_take (l:List α) (n:Nat):(encL l).take (n*Row.sz α)=encL (l.take n):=by
 induction l generalizing n with
 | nil=>simp[encL]
 | cons a l ih =>
  cases n with
  | zero=>simp[encL]
  | succ n =>
   have hl:=Row.len a
   rw[encL_cons,List.take_succ_cons,encL_cons,Nat.succ_mul,Nat.add_comm,← ih n,List.take_append,hl]
   rw[List.take_of_length_le (by omega)]
   congr 2
   omega
theorem encL_drop (l:List α) (n:Nat):(encL l).drop (n*Row.sz α)=encL (l.drop n):=by
 induction l generalizing n with
 | nil=>simp[encL]
 | cons a l ih =>
  cases n with
  | zero=>simp
  | succ n =>
   have hl:=Row.len a
   rw[encL_cons,List.drop_succ_cons,Nat.succ_mul,Nat.add_comm,← List.drop_drop,← ih n]
   congr 1
   rw[← hl,List.drop_left]
theorem encL_set (l:List α) (i:Nat) (h:i<l.length) (a:α):wr (encL l) (i*Row.sz α) (Row.enc a)=encL (l.set i a):=by
 unfold wr
 rw[Row.len,← Nat.succ_mul,encL_take,encL_drop]
 have:l.set i a=l.take i++a::l.drop (i+1):=List.set_eq_take_append_cons_drop .. ▸ by rw[if_pos h]
 rw[this,encL_append,encL_cons,List.append_assoc]
end
class Arg (α:Type) where
 enc:α→AV
 dec:AV→Option α
 dec_enc:∀ a,dec (enc a)=some a
 enc_dec:∀ x a,dec x=some a→x=enc a
instance listArg {α:Type} [Row α]:Arg (List α) where
 enc l:=.lst l.length (encL l)
 dec x:=match x with
  | .lst n xs=>decL α n xs
  | _=>none
 dec_enc l:=decL_encL l
 enc_dec x l h:=by
  split at h
  ·obtain⟨h1,h2⟩:=decL_some _ _ _ h
   rw[h1,h2]
  ·cases h
theorem dec_lst {α:Type} [Row α] (l:List α):(Arg.dec (.lst l.length (encL l)):Option (List α))=some l:=decL_encL l
@[reducible] def aggArg (α:Type) [Row α]:Arg α where
 enc a:=.agg (Row.enc a)
 dec x:=match x with
  | .agg xs=>Row.dec xs
  | _=>none
 dec_enc a:=Row.dec_enc a
 enc_dec x a h:=by
  split at h
  ·rw[Row.enc_dec _ _ h]
  ·cases h
structure Word where
 v:Int
 deriving DecidableEq,Inhabited
instance:Row Int where
 sz:=1
 enc n:=[.int .i64 n]
 dec xs:=match xs with
  | [.int .i64 n]=>some n
  | _=>none
 pos:=by decide
 len _:=rfl
 dec_enc _:=rfl
 enc_dec xs a h:=by
  split at h
  ·cases h;rfl
  ·cases h
instance:Row Word where
 sz:=1
 enc n:=[.int .u64 n.v]
 dec xs:=match xs with
  | [.int .u64 n]=>some ⟨n⟩
  | _=>none
 pos:=by decide
 len _:=rfl
 dec_enc _:=rfl
 enc_dec xs a h:=by
  split at h
  ·cases h;rfl
  ·cases h
instance:Arg Int where
 enc n:=.int .i64 n
 dec x:=match x with
  | .int .i64 n=>some n
  | _=>none
 dec_enc _:=rfl
 enc_dec x a h:=by
  split at h
  ·cases h;rfl
  ·cases h
instance:Arg Word where
 enc n:=.int .u64 n.v
 dec x:=match x with
  | .int .u64 n=>some ⟨n⟩
  | _=>none
 dec_enc _:=rfl
 enc_dec x a h:=by
  split at h
  ·cases h;rfl
  ·cases h
instance:Arg Bool where
 enc b:=.bool b
 dec x:=match x with
  | .bool b=>some b
  | _=>none
 dec_enc _:=rfl
 enc_dec x a h:=by
  split at h
  ·cases h;rfl
  ·cases h
instance pairArg {α β:Type} [Arg α] [Arg β]:Arg (α×β) where
 enc p:=.tup [Arg.enc p.1,Arg.enc p.2]
 dec x:=match x with
  | .tup [y,z]=>(Arg.dec y).bind fun a=>(Arg.dec z).map fun b=>(a,b)
  | _=>none
 dec_enc p:=by simp[Arg.dec_enc]
 enc_dec x p h:=by
  split at h
  ·rename_i y z
   rw[Option.bind_eq_some_iff] at h
   obtain⟨a,ha,h⟩:=h
   rw[Option.map_eq_some_iff] at h
   obtain⟨b,hb,rfl⟩:=h
   rw[Arg.enc_dec _ _ ha,Arg.enc_dec _ _ hb]
  ·cases h
end Go.Co
/- CO: the program's types (written by a program of ours). -/
namespace Go.Co
open Go.Am
structure Tri (α β γ:Type) where
 a:α
 b:β
 c:γ
instance triArg {α β γ:Type} [Arg α] [Arg β] [Arg γ]:Arg (Tri α β γ) where
 enc p:=.tup [Arg.enc p.a,Arg.enc p.b,Arg.enc p.c]
 dec x:=match x with
  | .tup [x,y,z]=>(Arg.dec x).bind fun a=>(Arg.dec y).bind fun b=>(Arg.dec z).map fun c=>⟨a,b,c⟩
  | _=>none
 dec_enc p:=by simp[Arg.dec_enc]
 enc_dec x p h:=by
  split at h
  ·rename_i x y z
   rw[Option.bind_eq_some_iff] at h
   obtain⟨a,ha,h⟩:=h
   rw[Option.bind_eq_some_iff] at h
   obtain⟨b,hb,h⟩:=h
   rw[Option.map_eq_some_iff] at h
   obtain⟨c,hc,rfl⟩:=h
   rw[Arg.enc_dec _ _ ha,Arg.enc_dec _ _ hb,Arg.enc_dec _ _ hc]
  ·cases h
structure Span where
 lo:Int
 hi:Int
 deriving DecidableEq,Inhabited
instance:Row Span where
 sz:=2
 enc x:=[.int .i64 x.lo,.int .i64 x.hi]
 dec xs:=match xs with
  | [.int .i64 v0,.int .i64 v1]=>some ⟨v0,v1⟩
  | _=>none
 pos:=by decide
 len _:=rfl
 dec_enc _:=rfl
 enc_dec xs a h:=by
  split at h
  ·cases h;rfl
  ·cases h
instance:Arg Span:=aggArg Span
@[simp] theorem dec_Span (v0:Int) (v1:Int):(Arg.dec (.agg [.int .i64 v0,.int .i64 v1]):Option Span)=some ⟨v0,v1⟩:=rfl
@[simp] theorem enc_Span (x:Span):Arg.enc x=.agg [.int .i64 x.lo,.int .i64 x.hi]:=rfl
@[simp] theorem row_Span (x:Span):Row.enc x=[.int .i64 x.lo,.int .i64 x.hi]:=rfl
@[simp] theorem sz_Span:Row.sz Span=2:=rfl
structure Box where
 s0:Span
 s1:Span
 s2:Span
 s3:Span
 s4:Span
 deriving DecidableEq,Inhabited
instance:Row Box where
 sz:=10
 enc x:=[.int .i64 x.s0.lo,.int .i64 x.s0.hi,.int .i64 x.s1.lo,.int .i64 x.s1.hi,.int .i64 x.s2.lo,.int .i64 x.s2.hi,.int .i64 x.s3.lo,.int .i64 x.s3.hi,.int .i64 x.s4.lo,.int .i64 x.s4.hi]
 dec xs:=match xs with
  | [.int .i64 v0,.int .i64 v1,.int .i64 v2,.int .i64 v3,.int .i64 v4,.int .i64 v5,.int .i64 v6,.int .i64 v7,.int .i64 v8,.int .i64 v9]=>some ⟨⟨v0,v1⟩,⟨v2,v3⟩,⟨v4,v5⟩,⟨v6,v7⟩,⟨v8,v9⟩⟩
  | _=>none
 pos:=by decide
 len _:=rfl
 dec_enc _:=rfl
 enc_dec xs a h:=by
  split at h
  ·cases h;rfl
  ·cases h
instance:Arg Box:=aggArg Box
@[simp] theorem dec_Box (v0:Int) (v1:Int) (v2:Int) (v3:Int) (v4:Int) (v5:Int) (v6:Int) (v7:Int) (v8:Int) (v9:Int):(Arg.dec (.agg [.int .i64 v0,.int .i64 v1,.int .i64 v2,.int .i64 v3,.int .i64 v4,.int .i64 v5,.int .i64 v6,.int .i64 v7,.int .i64 v8,.int .i64 v9]):Option Box)=some ⟨⟨v0,v1⟩,⟨v2,v3⟩,⟨v4,v5⟩,⟨v6,v7⟩,⟨v8,v9⟩⟩:=rfl
@[simp] theorem enc_Box (x:Box):Arg.enc x=.agg [.int .i64 x.s0.lo,.int .i64 x.s0.hi,.int .i64 x.s1.lo,.int .i64 x.s1.hi,.int .i64 x.s2.lo,.int .i64 x.s2.hi,.int .i64 x.s3.lo,.int .i64 x.s3.hi,.int .i64 x.s4.lo,.int .i64 x.s4.hi]:=rfl
@[simp] theorem row_Box (x:Box):Row.enc x=[.int .i64 x.s0.lo,.int .i64 x.s0.hi,.int .i64 x.s1.lo,.int .i64 x.s1.hi,.int .i64 x.s2.lo,.int .i64 x.s2.hi,.int .i64 x.s3.lo,.int .i64 x.s3.hi,.int .i64 x.s4.lo,.int .i64 x.s4.hi]:=rfl
@[simp] theorem sz_Box:Row.sz Box=10:=rfl
structure Point where
 p0:Int
 p1:Int
 p2:Int
 p3:Int
 deriving DecidableEq,Inhabited
instance:Row Point where
 sz:=4
 enc x:=[.int .i64 x.p0,.int .i64 x.p1,.int .i64 x.p2,.int .i64 x.p3]
 dec xs:=match xs with
  | [.int .i64 v0,.int .i64 v1,.int .i64 v2,.int .i64 v3]=>some ⟨v0,v1,v2,v3⟩
  | _=>none
 pos:=by decide
 len _:=rfl
 dec_enc _:=rfl
 enc_dec xs a h:=by
  split at h
  ·cases h;rfl
  ·cases h
instance:Arg Point:=aggArg Point
@[simp] theorem dec_Point (v0:Int) (v1:Int) (v2:Int) (v3:Int):(Arg.dec (.agg [.int .i64 v0,.int .i64 v1,.int .i64 v2,.int .i64 v3]):Option Point)=some ⟨v0,v1,v2,v3⟩:=rfl
@[simp] theorem enc_Point (x:Point):Arg.enc x=.agg [.int .i64 x.p0,.int .i64 x.p1,.int .i64 x.p2,.int .i64 x.p3]:=rfl
@[simp] theorem row_Point (x:Point):Row.enc x=[.int .i64 x.p0,.int .i64 x.p1,.int .i64 x.p2,.int .i64 x.p3]:=rfl
@[simp] theorem sz_Point:Row.sz Point=4:=rfl
structure Bias where
 b0:Int
 b1:Int
 b2:Int
 deriving DecidableEq,Inhabited
instance:Row Bias where
 sz:=3
 enc x:=[.int .i64 x.b0,.int .i64 x.b1,.int .i64 x.b2]
 dec xs:=match xs with
  | [.int .i64 v0,.int .i64 v1,.int .i64 v2]=>some ⟨v0,v1,v2⟩
  | _=>none
 pos:=by decide
 len _:=rfl
 dec_enc _:=rfl
 enc_dec xs a h:=by
  split at h
  ·cases h;rfl
  ·cases h
instance:Arg Bias:=aggArg Bias
@[simp] theorem dec_Bias (v0:Int) (v1:Int) (v2:Int):(Arg.dec (.agg [.int .i64 v0,.int .i64 v1,.int .i64 v2]):Option Bias)=some ⟨v0,v1,v2⟩:=rfl
@[simp] theorem enc_Bias (x:Bias):Arg.enc x=.agg [.int .i64 x.b0,.int .i64 x.b1,.int .i64 x.b2]:=rfl
@[simp] theorem row_Bias (x:Bias):Row.enc x=[.int .i64 x.b0,.int .i64 x.b1,.int .i64 x.b2]:=rfl
@[simp] theorem sz_Bias:Row.sz Bias=3:=rfl
structure Node where
 leaf:Bool
 value:Int
 feature:Int
 cut:Int
 left:Int
 right:Int
 deriving DecidableEq,Inhabited
instance:Row Node where
 sz:=6
 enc x:=[.bool x.leaf,.int .i64 x.value,.int .i64 x.feature,.int .i64 x.cut,.int .i64 x.left,.int .i64 x.right]
 dec xs:=match xs with
  | [.bool v0,.int .i64 v1,.int .i64 v2,.int .i64 v3,.int .i64 v4,.int .i64 v5]=>some ⟨v0,v1,v2,v3,v4,v5⟩
  | _=>none
 pos:=by decide
 len _:=rfl
 dec_enc _:=rfl
 enc_dec xs a h:=by
  split at h
  ·cases h;rfl
  ·cases h
instance:Arg Node:=aggArg Node
@[simp] theorem dec_Node (v0:Bool) (v1:Int) (v2:Int) (v3:Int) (v4:Int) (v5:Int):(Arg.dec (.agg [.bool v0,.int .i64 v1,.int .i64 v2,.int .i64 v3,.int .i64 v4,.int .i64 v5]):Option Node)=some ⟨v0,v1,v2,v3,v4,v5⟩:=rfl
@[simp] theorem enc_Node (x:Node):Arg.enc x=.agg [.bool x.leaf,.int .i64 x.value,.int .i64 x.feature,.int .i64 x.cut,.int .i64 x.left,.int .i64 x.right]:=rfl
@[simp] theorem row_Node (x:Node):Row.enc x=[.bool x.leaf,.int .i64 x.value,.int .i64 x.feature,.int .i64 x.cut,.int .i64 x.left,.int .i64 x.right]:=rfl
@[simp] theorem sz_Node:Row.sz Node=6:=rfl
structure Tree where
 cls:Int
 nodes:List Word
 deriving DecidableEq,Inhabited
instance:Row Tree where
 sz:=2
 enc x:=[.int .i64 x.cls,.lst x.nodes.length (encL x.nodes)]
 dec xs:=match xs with
  | [.int .i64 v0,.lst n1 w1]=>(decL Word n1 w1).bind fun v1=>some ⟨v0,v1⟩
  | _=>none
 pos:=by decide
 len _:=rfl
 dec_enc x:=by simp only[decL_encL,Option.bind_some]
 enc_dec xs a h:=by
  split at h
  ·simp only[Option.bind_eq_some_iff] at h
   obtain⟨v1,h1,h⟩:=h
   cases h
   obtain⟨rfl,rfl⟩:=decL_some _ _ _ h1
   rfl
  ·cases h
instance:Arg Tree:=aggArg Tree
@[simp] theorem dec_Tree (v0:Int) (v1:List Word):(Arg.dec (.agg [.int .i64 v0,.lst v1.length (encL v1)]):Option Tree)=some ⟨v0,v1⟩:=by
 show Row.dec [.int .i64 v0,.lst v1.length (encL v1)]=_
 exact Row.dec_enc (⟨v0,v1⟩:Tree)
@[simp] theorem enc_Tree (x:Tree):Arg.enc x=.agg [.int .i64 x.cls,.lst x.nodes.length (encL x.nodes)]:=rfl
@[simp] theorem row_Tree (x:Tree):Row.enc x=[.int .i64 x.cls,.lst x.nodes.length (encL x.nodes)]:=rfl
@[simp] theorem sz_Tree:Row.sz Tree=2:=rfl
structure Model where
 dim:Int
 classes:Int
 bias:Bias
 trees:List Tree
 deriving DecidableEq,Inhabited
instance:Row Model where
 sz:=6
 enc x:=[.int .i64 x.dim,.int .i64 x.classes,.int .i64 x.bias.b0,.int .i64 x.bias.b1,.int .i64 x.bias.b2,.lst x.trees.length (encL x.trees)]
 dec xs:=match xs with
  | [.int .i64 v0,.int .i64 v1,.int .i64 v2,.int .i64 v3,.int .i64 v4,.lst n5 w5]=>(decL Tree n5 w5).bind fun v5=>some ⟨v0,v1,⟨v2,v3,v4⟩,v5⟩
  | _=>none
 pos:=by decide
 len _:=rfl
 dec_enc x:=by simp only[decL_encL,Option.bind_some]
 enc_dec xs a h:=by
  split at h
  ·simp only[Option.bind_eq_some_iff] at h
   obtain⟨v5,h5,h⟩:=h
   cases h
   obtain⟨rfl,rfl⟩:=decL_some _ _ _ h5
   rfl
  ·cases h
instance:Arg Model:=aggArg Model
@[simp] theorem dec_Model (v0:Int) (v1:Int) (v2:Int) (v3:Int) (v4:Int) (v5:List Tree):(Arg.dec (.agg [.int .i64 v0,.int .i64 v1,.int .i64 v2,.int .i64 v3,.int .i64 v4,.lst v5.length (encL v5)]):Option Model)=some ⟨v0,v1,⟨v2,v3,v4⟩,v5⟩:=by
 show Row.dec [.int .i64 v0,.int .i64 v1,.int .i64 v2,.int .i64 v3,.int .i64 v4,.lst v5.length (encL v5)]=_
 exact Row.dec_enc (⟨v0,v1,⟨v2,v3,v4⟩,v5⟩:Model)
@[simp] theorem enc_Model (x:Model):Arg.enc x=.agg [.int .i64 x.dim,.int .i64 x.classes,.int .i64 x.bias.b0,.int .i64 x.bias.b1,.int .i64 x.bias.b2,.lst x.trees.length (encL x.trees)]:=rfl
@[simp] theorem row_Model (x:Model):Row.enc x=[.int .i64 x.dim,.int .i64 x.classes,.int .i64 x.bias.b0,.int .i64 x.bias.b1,.int .i64 x.bias.b2,.lst x.trees.length (encL x.trees)]:=rfl
@[simp] theorem sz_Model:Row.sz Model=6:=rfl
structure Piece where
 box:Box
 value:Int
 deriving DecidableEq,Inhabited
instance:Row Piece where
 sz:=11
 enc x:=[.int .i64 x.box.s0.lo,.int .i64 x.box.s0.hi,.int .i64 x.box.s1.lo,.int .i64 x.box.s1.hi,.int .i64 x.box.s2.lo,.int .i64 x.box.s2.hi,.int .i64 x.box.s3.lo,.int .i64 x.box.s3.hi,.int .i64 x.box.s4.lo,.int .i64 x.box.s4.hi,.int .i64 x.value]
 dec xs:=match xs with
  | [.int .i64 v0,.int .i64 v1,.int .i64 v2,.int .i64 v3,.int .i64 v4,.int .i64 v5,.int .i64 v6,.int .i64 v7,.int .i64 v8,.int .i64 v9,.int .i64 v10]=>some ⟨⟨⟨v0,v1⟩,⟨v2,v3⟩,⟨v4,v5⟩,⟨v6,v7⟩,⟨v8,v9⟩⟩,v10⟩
  | _=>none
 pos:=by decide
 len _:=rfl
 dec_enc _:=rfl
 enc_dec xs a h:=by
  split at h
  ·cases h;rfl
  ·cases h
instance:Arg Piece:=aggArg Piece
@[simp] theorem dec_Piece (v0:Int) (v1:Int) (v2:Int) (v3:Int) (v4:Int) (v5:Int) (v6:Int) (v7:Int) (v8:Int) (v9:Int) (v10:Int):(Arg.dec (.agg [.int .i64 v0,.int .i64 v1,.int .i64 v2,.int .i64 v3,.int .i64 v4,.int .i64 v5,.int .i64 v6,.int .i64 v7,.int .i64 v8,.int .i64 v9,.int .i64 v10]):Option Piece)=some ⟨⟨⟨v0,v1⟩,⟨v2,v3⟩,⟨v4,v5⟩,⟨v6,v7⟩,⟨v8,v9⟩⟩,v10⟩:=rfl
@[simp] theorem enc_Piece (x:Piece):Arg.enc x=.agg [.int .i64 x.box.s0.lo,.int .i64 x.box.s0.hi,.int .i64 x.box.s1.lo,.int .i64 x.box.s1.hi,.int .i64 x.box.s2.lo,.int .i64 x.box.s2.hi,.int .i64 x.box.s3.lo,.int .i64 x.box.s3.hi,.int .i64 x.box.s4.lo,.int .i64 x.box.s4.hi,.int .i64 x.value]:=rfl
@[simp] theorem row_Piece (x:Piece):Row.enc x=[.int .i64 x.box.s0.lo,.int .i64 x.box.s0.hi,.int .i64 x.box.s1.lo,.int .i64 x.box.s1.hi,.int .i64 x.box.s2.lo,.int .i64 x.box.s2.hi,.int .i64 x.box.s3.lo,.int .i64 x.box.s3.hi,.int .i64 x.box.s4.lo,.int .i64 x.box.s4.hi,.int .i64 x.value]:=rfl
@[simp] theorem sz_Piece:Row.sz Piece=11:=rfl
structure Step where
 sum:Bool
 place:Int
 cut:Int
 deriving DecidableEq,Inhabited
instance:Row Step where
 sz:=3
 enc x:=[.bool x.sum,.int .i64 x.place,.int .i64 x.cut]
 dec xs:=match xs with
  | [.bool v0,.int .i64 v1,.int .i64 v2]=>some ⟨v0,v1,v2⟩
  | _=>none
 pos:=by decide
 len _:=rfl
 dec_enc _:=rfl
 enc_dec xs a h:=by
  split at h
  ·cases h;rfl
  ·cases h
instance:Arg Step:=aggArg Step
@[simp] theorem dec_Step (v0:Bool) (v1:Int) (v2:Int):(Arg.dec (.agg [.bool v0,.int .i64 v1,.int .i64 v2]):Option Step)=some ⟨v0,v1,v2⟩:=rfl
@[simp] theorem enc_Step (x:Step):Arg.enc x=.agg [.bool x.sum,.int .i64 x.place,.int .i64 x.cut]:=rfl
@[simp] theorem row_Step (x:Step):Row.enc x=[.bool x.sum,.int .i64 x.place,.int .i64 x.cut]:=rfl
@[simp] theorem sz_Step:Row.sz Step=3:=rfl
structure Query where
 kind:Int
 cls:Int
 region:Box
 lo:Int
 hi:Int
 feature:Int
 falls:Bool
 budget:Int
 deriving DecidableEq,Inhabited
instance:Row Query where
 sz:=17
 enc x:=[.int .i64 x.kind,.int .i64 x.cls,.int .i64 x.region.s0.lo,.int .i64 x.region.s0.hi,.int .i64 x.region.s1.lo,.int .i64 x.region.s1.hi,.int .i64 x.region.s2.lo,.int .i64 x.region.s2.hi,.int .i64 x.region.s3.lo,.int .i64 x.region.s3.hi,.int .i64 x.region.s4.lo,.int .i64 x.region.s4.hi,.int .i64 x.lo,.int .i64 x.hi,.int .i64 x.feature,.bool x.falls,.int .i64 x.budget]
 dec xs:=match xs with
  | [.int .i64 v0,.int .i64 v1,.int .i64 v2,.int .i64 v3,.int .i64 v4,.int .i64 v5,.int .i64 v6,.int .i64 v7,.int .i64 v8,.int .i64 v9,.int .i64 v10,.int .i64 v11,.int .i64 v12,.int .i64 v13,.int .i64 v14,.bool v15,.int .i64 v16]=>some ⟨v0,v1,⟨⟨v2,v3⟩,⟨v4,v5⟩,⟨v6,v7⟩,⟨v8,v9⟩,⟨v10,v11⟩⟩,v12,v13,v14,v15,v16⟩
  | _=>none
 pos:=by decide
 len _:=rfl
 dec_enc _:=rfl
 enc_dec xs a h:=by
  split at h
  ·cases h;rfl
  ·cases h
instance:Arg Query:=aggArg Query
@[simp] theorem dec_Query (v0:Int) (v1:Int) (v2:Int) (v3:Int) (v4:Int) (v5:Int) (v6:Int) (v7:Int) (v8:Int) (v9:Int) (v10:Int) (v11:Int) (v12:Int) (v13:Int) (v14:Int) (v15:Bool) (v16:Int):(Arg.dec (.agg [.int .i64 v0,.int .i64 v1,.int .i64 v2,.int .i64 v3,.int .i64 v4,.int .i64 v5,.int .i64 v6,.int .i64 v7,.int .i64 v8,.int .i64 v9,.int .i64 v10,.int .i64 v11,.int .i64 v12,.int .i64 v13,.int .i64 v14,.bool v15,.int .i64 v16]):Option Query)=some ⟨v0,v1,⟨⟨v2,v3⟩,⟨v4,v5⟩,⟨v6,v7⟩,⟨v8,v9⟩,⟨v10,v11⟩⟩,v12,v13,v14,v15,v16⟩:=rfl
@[simp] theorem enc_Query (x:Query):Arg.enc x=.agg [.int .i64 x.kind,.int .i64 x.cls,.int .i64 x.region.s0.lo,.int .i64 x.region.s0.hi,.int .i64 x.region.s1.lo,.int .i64 x.region.s1.hi,.int .i64 x.region.s2.lo,.int .i64 x.region.s2.hi,.int .i64 x.region.s3.lo,.int .i64 x.region.s3.hi,.int .i64 x.region.s4.lo,.int .i64 x.region.s4.hi,.int .i64 x.lo,.int .i64 x.hi,.int .i64 x.feature,.bool x.falls,.int .i64 x.budget]:=rfl
@[simp] theorem row_Query (x:Query):Row.enc x=[.int .i64 x.kind,.int .i64 x.cls,.int .i64 x.region.s0.lo,.int .i64 x.region.s0.hi,.int .i64 x.region.s1.lo,.int .i64 x.region.s1.hi,.int .i64 x.region.s2.lo,.int .i64 x.region.s2.hi,.int .i64 x.region.s3.lo,.int .i64 x.region.s3.hi,.int .i64 x.region.s4.lo,.int .i64 x.region.s4.hi,.int .i64 x.lo,.int .i64 x.hi,.int .i64 x.feature,.bool x.falls,.int .i64 x.budget]:=rfl
@[simp] theorem sz_Query:Row.sz Query=17:=rfl
structure Verdict where
 kind:Int
 proof:List Step
 witness:Point
 twin:Int
 spent:Int
 deriving DecidableEq,Inhabited
instance:Row Verdict where
 sz:=8
 enc x:=[.int .i64 x.kind,.lst x.proof.length (encL x.proof),.int .i64 x.witness.p0,.int .i64 x.witness.p1,.int .i64 x.witness.p2,.int .i64 x.witness.p3,.int .i64 x.twin,.int .i64 x.spent]
 dec xs:=match xs with
  | [.int .i64 v0,.lst n1 w1,.int .i64 v2,.int .i64 v3,.int .i64 v4,.int .i64 v5,.int .i64 v6,.int .i64 v7]=>(decL Step n1 w1).bind fun v1=>some ⟨v0,v1,⟨v2,v3,v4,v5⟩,v6,v7⟩
  | _=>none
 pos:=by decide
 len _:=rfl
 dec_enc x:=by simp only[decL_encL,Option.bind_some]
 enc_dec xs a h:=by
  split at h
  ·simp only[Option.bind_eq_some_iff] at h
   obtain⟨v1,h1,h⟩:=h
   cases h
   obtain⟨rfl,rfl⟩:=decL_some _ _ _ h1
   rfl
  ·cases h
instance:Arg Verdict:=aggArg Verdict
@[simp] theorem dec_Verdict (v0:Int) (v1:List Step) (v2:Int) (v3:Int) (v4:Int) (v5:Int) (v6:Int) (v7:Int):(Arg.dec (.agg [.int .i64 v0,.lst v1.length (encL v1),.int .i64 v2,.int .i64 v3,.int .i64 v4,.int .i64 v5,.int .i64 v6,.int .i64 v7]):Option Verdict)=some ⟨v0,v1,⟨v2,v3,v4,v5⟩,v6,v7⟩:=by
 show Row.dec [.int .i64 v0,.lst v1.length (encL v1),.int .i64 v2,.int .i64 v3,.int .i64 v4,.int .i64 v5,.int .i64 v6,.int .i64 v7]=_
 exact Row.dec_enc (⟨v0,v1,⟨v2,v3,v4,v5⟩,v6,v7⟩:Verdict)
@[simp] theorem enc_Verdict (x:Verdict):Arg.enc x=.agg [.int .i64 x.kind,.lst x.proof.length (encL x.proof),.int .i64 x.witness.p0,.int .i64 x.witness.p1,.int .i64 x.witness.p2,.int .i64 x.witness.p3,.int .i64 x.twin,.int .i64 x.spent]:=rfl
@[simp] theorem row_Verdict (x:Verdict):Row.enc x=[.int .i64 x.kind,.lst x.proof.length (encL x.proof),.int .i64 x.witness.p0,.int .i64 x.witness.p1,.int .i64 x.witness.p2,.int .i64 x.witness.p3,.int .i64 x.twin,.int .i64 x.spent]:=rfl
@[simp] theorem sz_Verdict:Row.sz Verdict=8:=rfl
structure KTree where
 cls:Int
 part:List Int
 dir:List Int
 cut:List Int
 val:List Int
 deriving DecidableEq,Inhabited
instance:Row KTree where
 sz:=5
 enc x:=[.int .i64 x.cls,.lst x.part.length (encL x.part),.lst x.dir.length (encL x.dir),.lst x.cut.length (encL x.cut),.lst x.val.length (encL x.val)]
 dec xs:=match xs with
  | [.int .i64 v0,.lst n1 w1,.lst n2 w2,.lst n3 w3,.lst n4 w4]=>(decL Int n1 w1).bind fun v1=>(decL Int n2 w2).bind fun v2=>(decL Int n3 w3).bind fun v3=>(decL Int n4 w4).bind fun v4=>some ⟨v0,v1,v2,v3,v4⟩
  | _=>none
 pos:=by decide
 len _:=rfl
 dec_enc x:=by simp only[decL_encL,Option.bind_some]
 enc_dec xs a h:=by
  split at h
  ·simp only[Option.bind_eq_some_iff] at h
   obtain⟨v1,h1,v2,h2,v3,h3,v4,h4,h⟩:=h
   cases h
   obtain⟨rfl,rfl⟩:=decL_some _ _ _ h1
   obtain⟨rfl,rfl⟩:=decL_some _ _ _ h2
   obtain⟨rfl,rfl⟩:=decL_some _ _ _ h3
   obtain⟨rfl,rfl⟩:=decL_some _ _ _ h4
   rfl
  ·cases h
instance:Arg KTree:=aggArg KTree
@[simp] theorem dec_KTree (v0:Int) (v1:List Int) (v2:List Int) (v3:List Int) (v4:List Int):(Arg.dec (.agg [.int .i64 v0,.lst v1.length (encL v1),.lst v2.length (encL v2),.lst v3.length (encL v3),.lst v4.length (encL v4)]):Option KTree)=some ⟨v0,v1,v2,v3,v4⟩:=by
 show Row.dec [.int .i64 v0,.lst v1.length (encL v1),.lst v2.length (encL v2),.lst v3.length (encL v3),.lst v4.length (encL v4)]=_
 exact Row.dec_enc (⟨v0,v1,v2,v3,v4⟩:KTree)
@[simp] theorem enc_KTree (x:KTree):Arg.enc x=.agg [.int .i64 x.cls,.lst x.part.length (encL x.part),.lst x.dir.length (encL x.dir),.lst x.cut.length (encL x.cut),.lst x.val.length (encL x.val)]:=rfl
@[simp] theorem row_KTree (x:KTree):Row.enc x=[.int .i64 x.cls,.lst x.part.length (encL x.part),.lst x.dir.length (encL x.dir),.lst x.cut.length (encL x.cut),.lst x.val.length (encL x.val)]:=rfl
@[simp] theorem sz_KTree:Row.sz KTree=5:=rfl
structure Forest where
 dim:Int
 classes:Int
 bias:List Int
 trees:List KTree
 deriving DecidableEq,Inhabited
instance:Row Forest where
 sz:=4
 enc x:=[.int .i64 x.dim,.int .i64 x.classes,.lst x.bias.length (encL x.bias),.lst x.trees.length (encL x.trees)]
 dec xs:=match xs with
  | [.int .i64 v0,.int .i64 v1,.lst n2 w2,.lst n3 w3]=>(decL Int n2 w2).bind fun v2=>(decL KTree n3 w3).bind fun v3=>some ⟨v0,v1,v2,v3⟩
  | _=>none
 pos:=by decide
 len _:=rfl
 dec_enc x:=by simp only[decL_encL,Option.bind_some]
 enc_dec xs a h:=by
  split at h
  ·simp only[Option.bind_eq_some_iff] at h
   obtain⟨v2,h2,v3,h3,h⟩:=h
   cases h
   obtain⟨rfl,rfl⟩:=decL_some _ _ _ h2
   obtain⟨rfl,rfl⟩:=decL_some _ _ _ h3
   rfl
  ·cases h
instance:Arg Forest:=aggArg Forest
@[simp] theorem dec_Forest (v0:Int) (v1:Int) (v2:List Int) (v3:List KTree):(Arg.dec (.agg [.int .i64 v0,.int .i64 v1,.lst v2.length (encL v2),.lst v3.length (encL v3)]):Option Forest)=some ⟨v0,v1,v2,v3⟩:=by
 show Row.dec [.int .i64 v0,.int .i64 v1,.lst v2.length (encL v2),.lst v3.length (encL v3)]=_
 exact Row.dec_enc (⟨v0,v1,v2,v3⟩:Forest)
@[simp] theorem enc_Forest (x:Forest):Arg.enc x=.agg [.int .i64 x.dim,.int .i64 x.classes,.lst x.bias.length (encL x.bias),.lst x.trees.length (encL x.trees)]:=rfl
@[simp] theorem row_Forest (x:Forest):Row.enc x=[.int .i64 x.dim,.int .i64 x.classes,.lst x.bias.length (encL x.bias),.lst x.trees.length (encL x.trees)]:=rfl
@[simp] theorem sz_Forest:Row.sz Forest=4:=rfl
structure Ask where
 kind:Int
 cls:Int
 lo:Int
 size:Int
 feature:Int
 budget:Int
 falls:Bool
 spans:List Int
 deriving DecidableEq,Inhabited
instance:Row Ask where
 sz:=8
 enc x:=[.int .i64 x.kind,.int .i64 x.cls,.int .i64 x.lo,.int .i64 x.size,.int .i64 x.feature,.int .i64 x.budget,.bool x.falls,.lst x.spans.length (encL x.spans)]
 dec xs:=match xs with
  | [.int .i64 v0,.int .i64 v1,.int .i64 v2,.int .i64 v3,.int .i64 v4,.int .i64 v5,.bool v6,.lst n7 w7]=>(decL Int n7 w7).bind fun v7=>some ⟨v0,v1,v2,v3,v4,v5,v6,v7⟩
  | _=>none
 pos:=by decide
 len _:=rfl
 dec_enc x:=by simp only[decL_encL,Option.bind_some]
 enc_dec xs a h:=by
  split at h
  ·simp only[Option.bind_eq_some_iff] at h
   obtain⟨v7,h7,h⟩:=h
   cases h
   obtain⟨rfl,rfl⟩:=decL_some _ _ _ h7
   rfl
  ·cases h
instance:Arg Ask:=aggArg Ask
@[simp] theorem dec_Ask (v0:Int) (v1:Int) (v2:Int) (v3:Int) (v4:Int) (v5:Int) (v6:Bool) (v7:List Int):(Arg.dec (.agg [.int .i64 v0,.int .i64 v1,.int .i64 v2,.int .i64 v3,.int .i64 v4,.int .i64 v5,.bool v6,.lst v7.length (encL v7)]):Option Ask)=some ⟨v0,v1,v2,v3,v4,v5,v6,v7⟩:=by
 show Row.dec [.int .i64 v0,.int .i64 v1,.int .i64 v2,.int .i64 v3,.int .i64 v4,.int .i64 v5,.bool v6,.lst v7.length (encL v7)]=_
 exact Row.dec_enc (⟨v0,v1,v2,v3,v4,v5,v6,v7⟩:Ask)
@[simp] theorem enc_Ask (x:Ask):Arg.enc x=.agg [.int .i64 x.kind,.int .i64 x.cls,.int .i64 x.lo,.int .i64 x.size,.int .i64 x.feature,.int .i64 x.budget,.bool x.falls,.lst x.spans.length (encL x.spans)]:=rfl
@[simp] theorem row_Ask (x:Ask):Row.enc x=[.int .i64 x.kind,.int .i64 x.cls,.int .i64 x.lo,.int .i64 x.size,.int .i64 x.feature,.int .i64 x.budget,.bool x.falls,.lst x.spans.length (encL x.spans)]:=rfl
@[simp] theorem sz_Ask:Row.sz Ask=8:=rfl
structure Cutting where
 place:List Int
 cut:List Int
 deriving DecidableEq,Inhabited
instance:Row Cutting where
 sz:=2
 enc x:=[.lst x.place.length (encL x.place),.lst x.cut.length (encL x.cut)]
 dec xs:=match xs with
  | [.lst n0 w0,.lst n1 w1]=>(decL Int n0 w0).bind fun v0=>(decL Int n1 w1).bind fun v1=>some ⟨v0,v1⟩
  | _=>none
 pos:=by decide
 len _:=rfl
 dec_enc x:=by simp only[decL_encL,Option.bind_some]
 enc_dec xs a h:=by
  split at h
  ·simp only[Option.bind_eq_some_iff] at h
   obtain⟨v0,h0,v1,h1,h⟩:=h
   cases h
   obtain⟨rfl,rfl⟩:=decL_some _ _ _ h0
   obtain⟨rfl,rfl⟩:=decL_some _ _ _ h1
   rfl
  ·cases h
instance:Arg Cutting:=aggArg Cutting
@[simp] theorem dec_Cutting (v0:List Int) (v1:List Int):(Arg.dec (.agg [.lst v0.length (encL v0),.lst v1.length (encL v1)]):Option Cutting)=some ⟨v0,v1⟩:=by
 show Row.dec [.lst v0.length (encL v0),.lst v1.length (encL v1)]=_
 exact Row.dec_enc (⟨v0,v1⟩:Cutting)
@[simp] theorem enc_Cutting (x:Cutting):Arg.enc x=.agg [.lst x.place.length (encL x.place),.lst x.cut.length (encL x.cut)]:=rfl
@[simp] theorem row_Cutting (x:Cutting):Row.enc x=[.lst x.place.length (encL x.place),.lst x.cut.length (encL x.cut)]:=rfl
@[simp] theorem sz_Cutting:Row.sz Cutting=2:=rfl
@[simp] theorem dec_int (n:Int):(Arg.dec (.int .i64 n):Option Int)=some n:=rfl
@[simp] theorem enc_int (n:Int):Arg.enc n=.int .i64 n:=rfl
@[simp] theorem row_int (n:Int):Row.enc n=[.int .i64 n]:=rfl
@[simp] theorem sz_int:Row.sz Int=1:=rfl
@[simp] theorem dec_word (n:Int):(Arg.dec (.int .u64 n):Option Word)=some ⟨n⟩:=rfl
@[simp] theorem enc_word (w:Word):Arg.enc w=.int .u64 w.v:=rfl
@[simp] theorem row_word (w:Word):Row.enc w=[.int .u64 w.v]:=rfl
@[simp] theorem sz_word:Row.sz Word=1:=rfl
@[simp] theorem dec_bool (b:Bool):(Arg.dec (.bool b):Option Bool)=some b:=rfl
@[simp] theorem enc_bool (b:Bool):Arg.enc b=.bool b:=rfl
@[simp] theorem enc_list {α:Type} [Row α] (l:List α):Arg.enc l=.lst l.length (encL l):=rfl
attribute [simp] dec_lst
@[simp] theorem enc_pair {α β:Type} [Arg α] [Arg β] (p:α×β):Arg.enc p=.tup [Arg.enc p.1,Arg.enc p.2]:=rfl
@[simp] theorem enc_tri {α β γ:Type} [Arg α] [Arg β] [Arg γ] (p:Tri α β γ):Arg.enc p=.tup [Arg.enc p.a,Arg.enc p.b,Arg.enc p.c]:=rfl
def sp0 {γ:Type} [Arg γ] (F:Option γ):List AV→Option AV
 | []=>(F ).map Arg.enc
 | _=>none
@[simp] theorem sp0_eq {γ:Type} [Arg γ] (F:Option γ):sp0 F []=(F ).map Arg.enc:=rfl
theorem sp0_runs {γ:Type} [Arg γ] {F:Option γ} {C:Cs} {A:AFun} (h:∀ c,F =some c→Runs C A [] (Arg.enc c)):∀ args r,sp0 F args=some r→Runs C A args r:=by
 intro args r hr
 unfold sp0 at hr
 split at hr
 ·rw[Option.map_eq_some_iff] at hr
  obtain⟨c,hc,rfl⟩:=hr
  exact h c hc
 ·cases hr
def sp1 {α0 γ:Type} [Arg α0] [Arg γ] (F:α0→Option γ):List AV→Option AV
 | [x0]=>(Arg.dec x0).bind fun a0=>(F a0).map Arg.enc
 | _=>none
@[simp] theorem sp1_eq {α0 γ:Type} [Arg α0] [Arg γ] (F:α0→Option γ) (x0:AV):sp1 F [x0]=(Arg.dec x0).bind fun a0=>(F a0).map Arg.enc:=rfl
theorem sp1_runs {α0 γ:Type} [Arg α0] [Arg γ] {F:α0→Option γ} {C:Cs} {A:AFun} (h:∀ a0 c,F a0=some c→Runs C A [Arg.enc a0] (Arg.enc c)):∀ args r,sp1 F args=some r→Runs C A args r:=by
 intro args r hr
 unfold sp1 at hr
 split at hr
 ·rw[Option.bind_eq_some_iff] at hr
  obtain⟨a0,h0,hr⟩:=hr
  rw[Option.map_eq_some_iff] at hr
  obtain⟨c,hc,rfl⟩:=hr
  rw[Arg.enc_dec _ _ h0]
  exact h a0 c hc
 ·cases hr
def sp2 {α0 α1 γ:Type} [Arg α0] [Arg α1] [Arg γ] (F:α0→α1→Option γ):List AV→Option AV
 | [x0,x1]=>(Arg.dec x0).bind fun a0=>(Arg.dec x1).bind fun a1=>(F a0 a1).map Arg.enc
 | _=>none
@[simp] theorem sp2_eq {α0 α1 γ:Type} [Arg α0] [Arg α1] [Arg γ] (F:α0→α1→Option γ) (x0 x1:AV):sp2 F [x0,x1]=(Arg.dec x0).bind fun a0=>(Arg.dec x1).bind fun a1=>(F a0 a1).map Arg.enc:=rfl
theorem sp2_runs {α0 α1 γ:Type} [Arg α0] [Arg α1] [Arg γ] {F:α0→α1→Option γ} {C:Cs} {A:AFun} (h:∀ a0 a1 c,F a0 a1=some c→Runs C A [Arg.enc a0,Arg.enc a1] (Arg.enc c)):∀ args r,sp2 F args=some r→Runs C A args r:=by
 intro args r hr
 unfold sp2 at hr
 split at hr
 ·rw[Option.bind_eq_some_iff] at hr
  obtain⟨a0,h0,hr⟩:=hr
  rw[Option.bind_eq_some_iff] at hr
  obtain⟨a1,h1,hr⟩:=hr
  rw[Option.map_eq_some_iff] at hr
  obtain⟨c,hc,rfl⟩:=hr
  rw[Arg.enc_dec _ _ h0]
  rw[Arg.enc_dec _ _ h1]
  exact h a0 a1 c hc
 ·cases hr
def sp3 {α0 α1 α2 γ:Type} [Arg α0] [Arg α1] [Arg α2] [Arg γ] (F:α0→α1→α2→Option γ):List AV→Option AV
 | [x0,x1,x2]=>(Arg.dec x0).bind fun a0=>(Arg.dec x1).bind fun a1=>(Arg.dec x2).bind fun a2=>(F a0 a1 a2).map Arg.enc
 | _=>none
@[simp] theorem sp3_eq {α0 α1 α2 γ:Type} [Arg α0] [Arg α1] [Arg α2] [Arg γ] (F:α0→α1→α2→Option γ) (x0 x1 x2:AV):sp3 F [x0,x1,x2]=(Arg.dec x0).bind fun a0=>(Arg.dec x1).bind fun a1=>(Arg.dec x2).bind fun a2=>(F a0 a1 a2).map Arg.enc:=rfl
theorem sp3_runs {α0 α1 α2 γ:Type} [Arg α0] [Arg α1] [Arg α2] [Arg γ] {F:α0→α1→α2→Option γ} {C:Cs} {A:AFun} (h:∀ a0 a1 a2 c,F a0 a1 a2=some c→Runs C A [Arg.enc a0,Arg.enc a1,Arg.enc a2] (Arg.enc c)):∀ args r,sp3 F args=some r→Runs C A args r:=by
 intro args r hr
 unfold sp3 at hr
 split at hr
 ·rw[Option.bind_eq_some_iff] at hr
  obtain⟨a0,h0,hr⟩:=hr
  rw[Option.bind_eq_some_iff] at hr
  obtain⟨a1,h1,hr⟩:=hr
  rw[Option.bind_eq_some_iff] at hr
  obtain⟨a2,h2,hr⟩:=hr
  rw[Option.map_eq_some_iff] at hr
  obtain⟨c,hc,rfl⟩:=hr
  rw[Arg.enc_dec _ _ h0]
  rw[Arg.enc_dec _ _ h1]
  rw[Arg.enc_dec _ _ h2]
  exact h a0 a1 a2 c hc
 ·cases hr
def sp4 {α0 α1 α2 α3 γ:Type} [Arg α0] [Arg α1] [Arg α2] [Arg α3] [Arg γ] (F:α0→α1→α2→α3→Option γ):List AV→Option AV
 | [x0,x1,x2,x3]=>(Arg.dec x0).bind fun a0=>(Arg.dec x1).bind fun a1=>(Arg.dec x2).bind fun a2=>(Arg.dec x3).bind fun a3=>(F a0 a1 a2 a3).map Arg.enc
 | _=>none
@[simp] theorem sp4_eq {α0 α1 α2 α3 γ:Type} [Arg α0] [Arg α1] [Arg α2] [Arg α3] [Arg γ] (F:α0→α1→α2→α3→Option γ) (x0 x1 x2 x3:AV):sp4 F [x0,x1,x2,x3]=(Arg.dec x0).bind fun a0=>(Arg.dec x1).bind fun a1=>(Arg.dec x2).bind fun a2=>(Arg.dec x3).bind fun a3=>(F a0 a1 a2 a3).map Arg.enc:=rfl
theorem sp4_runs {α0 α1 α2 α3 γ:Type} [Arg α0] [Arg α1] [Arg α2] [Arg α3] [Arg γ] {F:α0→α1→α2→α3→Option γ} {C:Cs} {A:AFun} (h:∀ a0 a1 a2 a3 c,F a0 a1 a2 a3=some c→Runs C A [Arg.enc a0,Arg.enc a1,Arg.enc a2,Arg.enc a3] (Arg.enc c)):∀ args r,sp4 F args=some r→Runs C A args r:=by
 intro args r hr
 unfold sp4 at hr
 split at hr
 ·rw[Option.bind_eq_some_iff] at hr
  obtain⟨a0,h0,hr⟩:=hr
  rw[Option.bind_eq_some_iff] at hr
  obtain⟨a1,h1,hr⟩:=hr
  rw[Option.bind_eq_some_iff] at hr
  obtain⟨a2,h2,hr⟩:=hr
  rw[Option.bind_eq_some_iff] at hr
  obtain⟨a3,h3,hr⟩:=hr
  rw[Option.map_eq_some_iff] at hr
  obtain⟨c,hc,rfl⟩:=hr
  rw[Arg.enc_dec _ _ h0]
  rw[Arg.enc_dec _ _ h1]
  rw[Arg.enc_dec _ _ h2]
  rw[Arg.enc_dec _ _ h3]
  exact h a0 a1 a2 a3 c hc
 ·cases hr
def sp5 {α0 α1 α2 α3 α4 γ:Type} [Arg α0] [Arg α1] [Arg α2] [Arg α3] [Arg α4] [Arg γ] (F:α0→α1→α2→α3→α4→Option γ):List AV→Option AV
 | [x0,x1,x2,x3,x4]=>(Arg.dec x0).bind fun a0=>(Arg.dec x1).bind fun a1=>(Arg.dec x2).bind fun a2=>(Arg.dec x3).bind fun a3=>(Arg.dec x4).bind fun a4=>(F a0 a1 a2 a3 a4).map Arg.enc
 | _=>none
@[simp] theorem sp5_eq {α0 α1 α2 α3 α4 γ:Type} [Arg α0] [Arg α1] [Arg α2] [Arg α3] [Arg α4] [Arg γ] (F:α0→α1→α2→α3→α4→Option γ) (x0 x1 x2 x3 x4:AV):sp5 F [x0,x1,x2,x3,x4]=(Arg.dec x0).bind fun a0=>(Arg.dec x1).bind fun a1=>(Arg.dec x2).bind fun a2=>(Arg.dec x3).bind fun a3=>(Arg.dec x4).bind fun a4=>(F a0 a1 a2 a3 a4).map Arg.enc:=rfl
def sp6 {α0 α1 α2 α3 α4 α5 γ:Type} [Arg α0] [Arg α1] [Arg α2] [Arg α3] [Arg α4] [Arg α5] [Arg γ] (F:α0→α1→α2→α3→α4→α5→Option γ):List AV→Option AV
 | [x0,x1,x2,x3,x4,x5]=>(Arg.dec x0).bind fun a0=>(Arg.dec x1).bind fun a1=>(Arg.dec x2).bind fun a2=>(Arg.dec x3).bind fun a3=>(Arg.dec x4).bind fun a4=>(Arg.dec x5).bind fun a5=>(F a0 a1 a2 a3 a4 a5).map Arg.enc
 | _=>none
@[simp] theorem sp6_eq {α0 α1 α2 α3 α4 α5 γ:Type} [Arg α0] [Arg α1] [Arg α2] [Arg α3] [Arg α4] [Arg α5] [Arg γ] (F:α0→α1→α2→α3→α4→α5→Option γ) (x0 x1 x2 x3 x4 x5:AV):sp6 F [x0,x1,x2,x3,x4,x5]=(Arg.dec x0).bind fun a0=>(Arg.dec x1).bind fun a1=>(Arg.dec x2).bind fun a2=>(Arg.dec x3).bind fun a3=>(Arg.dec x4).bind fun a4=>(Arg.dec x5).bind fun a5=>(F a0 a1 a2 a3 a4 a5).map Arg.enc:=rfl
end Go.Co
/- CO: the rules by which a text is run with letters for its arguments. -/
namespace Go.Co
open Go.Am
attribute [simp] Go.Am.run_seq Go.Am.run_block Go.Am.run_skip Go.Am.run_ret Go.Am.run_exit Go.Am.run_ops Go.Am.run_keep Go.Am.kont_nil Go.Am.kont_c Go.Am.kont_c_ret Go.Am.kont_c_exit Go.Am.kont_blk Go.Am.kont_blk_ret Go.Am.kont_blk_exit Go.Am.kont_lp Go.Am.kont_lp_ret Go.Am.kont_lp_exit Go.Am.goOps_nil Go.Am.goOps_cons Go.Am.goR_ok Go.Am.goR_ap Go.Am.goE_ok Go.Am.goE_fail Go.Am.goE_vac Go.Am.goE_ite Go.Am.goR_ite Go.Am.evOper_none Go.Am.app_mk Go.Am.run_cond Go.Am.goC_bool Go.Am.evOper_some Go.Am.goG_bool Go.Am.goG_und Go.Am.fin_ret Go.Am.fin_normal
attribute [simp] Go.Am.liveAt Go.Am.mapAt Go.Am.mapTag Go.Am.AV.flat Go.Am.look Go.Am.put Go.Am.cut Go.Am.keepT Go.Am.hlook Go.Am.hput Go.Am.hdel Go.Am.keepH Go.Am.bump Go.Am.opv Go.Am.val Go.Am.valO Go.Am.bin2 Go.Am.un1 Go.Am.eqs Go.Am.blkAt Go.Am.fill Go.Am.shows Go.Am.pure1 Go.Am.pureV Go.Am.pureVs Go.Am.mapO Go.Am.caps Go.Am.rep Go.Am.offOf Go.Am.bounds Go.Am.appH Go.Am.appG Go.Am.putO Go.Am.frzAll Go.Am.resV Go.Am.resVs Go.Am.oneOrTup Go.Am.handed Go.Am.argEnv Go.Am.AV.cells Go.Am.AV.isCell Go.Am.AV.plain Go.Am.tbl
@[congr] theorem run_congr {C:Cs} {c:ACode} {k:List Fr} {s s':St} {Q:Post} (h:s=s'):run C c k s Q=run C c k s' Q:=h▸rfl
@[congr] theorem kont_congr {C:Cs} {k:List Fr} {s s':St} {Q:Post} {e e':Ex} (he:e=e') (h:s=s'):kont C k Q e s=kont C k Q e' s':=he▸h▸rfl
@[congr] theorem goOps_congr {C:Cs} {l:List AOper} {s s':St} {q:List Nat} {k:List Fr} {Q:Post} (h:s=s'):goOps C l s q k Q=goOps C l s' q k Q:=h▸rfl
@[congr] theorem goR_congr {C:Cs} {r r':Res St} {l:List AOper} {q:List Nat} {k:List Fr} {Q:Post} (h:r=r'):goR C r l q k Q=goR C r' l q k Q:=h▸rfl
@[congr] theorem goE_congr {C:Cs} {d:Option Nat} {s s':St} {r r':Res Eff} {l:List AOper} {q:List Nat} {k:List Fr} {Q:Post} (hr:r=r') (h:s=s'):goE C d s r l q k Q=goE C d s' r' l q k Q:=hr▸h▸rfl
@[congr] theorem goC_congr {C:Cs} {v v':AV} {a b:ACode} {k:List Fr} {s s':St} {Q:Post} (hv:v=v') (h:s=s'):goC C v a b k s Q=goC C v' a b k s' Q:=hv▸h▸rfl
@[simp] theorem run_code {C:Cs} {n m:Nat} {c:ACode} {r:List ARes} {k:List Fr} {s:St} {Q:Post}:run C (AFun.code ⟨n,m,c,r⟩) k s Q=run C c k s Q:=rfl
def iand (k:IntKind) (a b:Int):Int:=k.wrap (BitVec.ofInt k.bits a &&& BitVec.ofInt k.bits b).toNat
def ior (k:IntKind) (a b:Int):Int:=k.wrap (BitVec.ofInt k.bits a ||| BitVec.ofInt k.bits b).toNat
def ixor (k:IntKind) (a b:Int):Int:=k.wrap (BitVec.ofInt k.bits a ^^^ BitVec.ofInt k.bits b).toNat
def iandNot (k:IntKind) (a b:Int):Int:=k.wrap (BitVec.ofInt k.bits a &&& ~~~ BitVec.ofInt k.bits b).toNat
def ishl (k:IntKind) (a b:Int):Int:=k.wrap (a*2^(min b.toNat k.bits))
def ishr (k:IntKind) (a b:Int):Int:=a.fdiv (2^(min b.toNat k.bits))
@[simp] theorem ibin_add (k:IntKind) (a b:Int):ibin .add k a b=some (.int k (k.wrap (a+b))):=rfl
@[simp] theorem ibin_sub (k:IntKind) (a b:Int):ibin .sub k a b=some (.int k (k.wrap (a-b))):=rfl
@[simp] theorem ibin_mul (k:IntKind) (a b:Int):ibin .mul k a b=some (.int k (k.wrap (a*b))):=rfl
@[simp] theorem ibin_quo (k:IntKind) (a b:Int):ibin .quo k a b=if b=0 then none else some (.int k (k.wrap (a.tdiv b))):=rfl
@[simp] theorem ibin_rem (k:IntKind) (a b:Int):ibin .rem k a b=if b=0 then none else some (.int k (a.tmod b)):=rfl
@[simp] theorem ibin_and (k:IntKind) (a b:Int):ibin .and k a b=some (.int k (iand k a b)):=rfl
@[simp] theorem ibin_or (k:IntKind) (a b:Int):ibin .or k a b=some (.int k (ior k a b)):=rfl
@[simp] theorem ibin_xor (k:IntKind) (a b:Int):ibin .xor k a b=some (.int k (ixor k a b)):=rfl
@[simp] theorem ibin_andNot (k:IntKind) (a b:Int):ibin .andNot k a b=some (.int k (iandNot k a b)):=rfl
@[simp] theorem ibin_eql (k:IntKind) (a b:Int):ibin .eql k a b=some (.bool (decide (a=b))):=rfl
@[simp] theorem ibin_neq (k:IntKind) (a b:Int):ibin .neq k a b=some (.bool (decide (a≠b))):=rfl
@[simp] theorem ibin_lss (k:IntKind) (a b:Int):ibin .lss k a b=some (.bool (decide (a<b))):=rfl
@[simp] theorem ibin_leq (k:IntKind) (a b:Int):ibin .leq k a b=some (.bool (decide (a≤b))):=rfl
@[simp] theorem ibin_gtr (k:IntKind) (a b:Int):ibin .gtr k a b=some (.bool (decide (a>b))):=rfl
@[simp] theorem ibin_geq (k:IntKind) (a b:Int):ibin .geq k a b=some (.bool (decide (a≥b))):=rfl
@[simp] theorem shift_shl (k:IntKind) (a b:Int):shift .shl k a b=if b<0 then none else some (.int k (ishl k a b)):=rfl
@[simp] theorem shift_shr (k:IntKind) (a b:Int):shift .shr k a b=if b<0 then none else some (.int k (ishr k a b)):=rfl
attribute [simp] ishl ishr IntKind.bits
@[simp] theorem wrap64 {x:Int} (h:-9223372036854775808≤x) (h':x≤9223372036854775807):IntKind.i64.wrap x=x:=by
 unfold IntKind.wrap
 simp[IntKind.bits,IntKind.signed]
 omega
@[simp] theorem rd_cons (x:AV) (l:List AV) (o n:Nat) (agg:Bool):rd (x::l) o n agg=if o+n≤(x::l).length then (if agg then some (.agg (((x::l).drop o).take n)) else (x::l)[o]?) else none:=rfl
@[simp] theorem wr_cons (x:AV) (l:List AV) (o:Nat) (vs:List AV):wr (x::l) o vs=(x::l).take o++vs++(x::l).drop (o+vs.length):=rfl
theorem rd_row {α:Type} [Row α] (l:List α) (i:Nat) (h:i<l.length):rd (encL l) (i*Row.sz α) (Row.sz α) true=some (.agg (Row.enc l[i])):=by
 have h2:=encL_length l
 unfold rd
 rw[if_pos (by
  have:(i+1)*Row.sz α≤l.length*Row.sz α:=Nat.mul_le_mul_right _ h
  rw[Nat.succ_mul] at this
  omega)]
 simp[encL_get l i h]
theorem rd_cell {α:Type} [Row α] (l:List α) (i j:Nat) (h:i<l.length) (hj:j<Row.sz α):rd (encL l) (i*Row.sz α+j) 1 false=(Row.enc l[i])[j]? := by
 have h2:=encL_length l
 have h1:=encL_get l i h
 unfold rd
 rw[if_pos (by
  have:(i+1)*Row.sz α≤l.length*Row.sz α:=Nat.mul_le_mul_right _ h
  rw[Nat.succ_mul] at this
  omega)]
 rw[← h1]
 simp[List.getElem?_take,hj]
theorem rd_ints (l:List Int) (i:Nat) (h:i<l.length):rd (encL l) i 1 false=some (.int .i64 l[i]):=by
 have:=rd_cell l i 0 h (by decide)
 simpa using this
theorem rd_words (l:List Word) (i:Nat) (h:i<l.length):rd (encL l) i 1 false=some (.int .u64 l[i].v):=by
 have:=rd_cell l i 0 h (by decide)
 simpa using this
theorem wr_ints (l:List Int) (i:Nat) (h:i<l.length) (v:Int):wr (encL l) i [.int .i64 v]=encL (l.set i v):=by
 have:=encL_set l i h v
 simpa using this
theorem wr_row {α:Type} [Row α] (l:List α) (i:Nat) (h:i<l.length) (a:α):wr (encL l) (i*Row.sz α) (Row.enc a)=encL (l.set i a):=encL_set l i h a
theorem rep_enc {α:Type} [Row α] (n:Nat) (a:α):rep n (Row.enc a)=encL (List.replicate n a):=by
 induction n with
 | zero=>rfl
 | succ n ih=>rw[List.replicate_succ,encL_cons,← ih];simp[rep,List.replicate_succ]
theorem rep_ints (n:Nat) (v:Int):rep n [.int .i64 v]=encL (List.replicate n v):=rep_enc n v
theorem rep_cells (n:Nat) (v:Int):List.replicate n (AV.int .i64 v)=encL (List.replicate n v):=by
 induction n with
 | zero=>rfl
 | succ n ih=>rw[List.replicate_succ,List.replicate_succ,encL_cons,← ih];rfl
class Cells (α:Type) [Row α]:Prop where
 all:∀ a:α,(Row.enc a).all AV.plain=true
instance:Cells Int:=⟨fun _=>rfl⟩
instance:Cells Word:=⟨fun _=>rfl⟩
instance:Cells Span:=⟨fun _=>rfl⟩
instance:Cells Box:=⟨fun _=>rfl⟩
instance:Cells Node:=⟨fun _=>rfl⟩
instance:Cells Tree:=⟨fun _=>rfl⟩
instance:Cells Piece:=⟨fun _=>rfl⟩
instance:Cells Step:=⟨fun _=>rfl⟩
@[simp high] theorem encL_plain {α:Type} [Row α] [Cells α] (l:List α):(encL l).all AV.plain=true:=by
 induction l with
 | nil=>rfl
 | cons a l ih=>rw[encL_cons,List.all_append,Cells.all,ih];rfl
theorem plain_cell {x:AV} (h:x.plain=true):x.isCell=true:=by cases x<;>first|rfl|cases h
@[simp high] theorem encL_cells {α:Type} [Row α] [Cells α] (l:List α):(encL l).all AV.isCell=true:=by
 have:=encL_plain l
 rw[List.all_eq_true] at this ⊢
 exact fun x hx=>plain_cell (this x hx)
@[simp] theorem take_words (l:List Word) (n:Nat):(encL l).take n=encL (l.take n):=by
 have:=encL_take l n
 simpa using this
@[simp] theorem drop_words (l:List Word) (n:Nat):(encL l).drop n=encL (l.drop n):=by
 have:=encL_drop l n
 simpa using this
@[simp] theorem take_ints (l:List Int) (n:Nat):(encL l).take n=encL (l.take n):=by
 have:=encL_take l n
 simpa using this
@[simp] theorem drop_ints (l:List Int) (n:Nat):(encL l).drop n=encL (l.drop n):=by
 have:=encL_drop l n
 simpa using this
theorem take_rows {α:Type} [Row α] (l:List α) (n:Nat) (h:l.length*Row.sz α≤n):(encL l).take n=encL l:=List.take_of_length_le (by rw[encL_length];exact h)
theorem run_while {C:Cs} {k:List Fr} {s:St} {Q:Post} {kt kh:List Nat} {c:ACode} (J:Nat→St→Prop) (n:Nat) (h0:J n ⟨keepT s.t kt,keepH s.h kh,s.g⟩)
  (step:∀ m s,J m s→run C c [] s fun e s'=>match e with
   | .normal=>∃ m',m'<m∧J m' ⟨keepT s'.t kt,keepH s'.h kh,s'.g⟩
   | e=>kont C k Q e s'):run C (.loop (.keep kt kh c)) k s Q :=
 run_loop (fun m s=>J m ⟨keepT s.t kt,keepH s.h kh,s.g⟩) n h0 fun m s hs=>by
  rw[run_keep]
  exact step m _ hs
structure Ref (α:Type) where
 v:α
instance refArg {α:Type} [Row α]:Arg (Ref α) where
 enc r:=.ipt 0 (Row.enc r.v)
 dec x:=match x with
  | .ipt 0 xs=>(Row.dec xs).map Ref.mk
  | _=>none
 dec_enc r:=by simp[Row.dec_enc]
 enc_dec x r h:=by
  split at h
  ·rw[Option.map_eq_some_iff] at h
   obtain⟨a,ha,rfl⟩:=h
   rw[Row.enc_dec _ _ ha]
  ·cases h
@[simp] theorem enc_ref {α:Type} [Row α] (r:Ref α):Arg.enc r=.ipt 0 (Row.enc r.v):=rfl
@[simp] theorem dec_ref_word (v:Int):(Arg.dec (.ipt 0 [.int .u64 v]):Option (Ref Word))=some ⟨⟨v⟩⟩:=rfl
theorem rr {c d:ACode} (h:c=d) ⦃C:Cs⦄ ⦃k:List Fr⦄ ⦃s:St⦄ ⦃Q:Post⦄:run C c k s Q=run C d k s Q:=by rw[h]
end Go.Co
/- CO: what the small functions compute. -/
namespace Go.Co
noncomputable def Part {γ:Type} (p:Prop) (v:γ):Option γ:=open Classical in if p then some v else none
theorem part_some {γ:Type} {p:Prop} {v c:γ} (h:Part p v=some c):p∧v=c:=by
 unfold Part at h
 split at h
 ·cases h;exact⟨‹_›,rfl⟩
 ·cases h
theorem part_of {γ:Type} {p:Prop} (h:p) (v:γ):Part p v=some v:=by unfold Part;rw[if_pos h]
def within (n lo hi:Int):Int:=lo+n % (hi-lo+1)
def pick (l:List Int) (i:Nat):Int:=l.getD (i % l.length) 0
def fits (n:Int):Bool:=decide (-2147483648≤n)&&decide (n≤2147483647)
def wrap32 (n:Int):Int:=(n+2147483648)%4294967296-2147483648
def rightNode (n:Node):Bool :=
 if n.leaf then fits n.value&&decide (n.feature=0)&&decide (n.cut=0)&&decide (n.left=0)&&decide (n.right=0)
 else decide (n.value=0)&&decide (0≤n.feature)&&decide (n.feature<4)&&fits n.cut&&decide (1≤n.left)&&decide (n.left<31)&&decide (1≤n.right)&&decide (n.right<31)
def pack (n:Node):Word :=
 if rightNode n then (if n.leaf then ⟨9223372036854775808+n.value % 4294967296⟩ else ⟨n.cut % 4294967296+n.feature*4294967296+n.left*1099511627776+n.right*281474976710656⟩)
 else ⟨0⟩
def raw (w:Int):Node :=
 if w/9223372036854775808=1 then ⟨true,wrap32 (w % 4294967296),0,0,0,0⟩
 else ⟨false,0,w/4294967296%16,wrap32 (w % 4294967296),w/1099511627776%256,w/281474976710656%256⟩
def unpack (w:Word):Node×Bool:=if rightNode (raw w.v)&&decide (pack (raw w.v)=w) then (raw w.v,true) else (⟨false,0,0,0,0,0⟩,false)
def Span.empty (s:Span):Bool:=decide (s.hi<s.lo)
def noneS:Span:=⟨1,0⟩
def ofS (lo hi:Int):Span:=if hi<lo then noneS else ⟨lo,hi⟩
def cutS (s:Span) (n:Int):Span×Span:=if s.hi≤n then (ofS s.lo s.hi,noneS) else (ofS s.lo n,ofS (if n+1>s.lo then n+1 else s.lo) s.hi)
def ok64 (n:Int):Prop:=-9223372036854775808≤n∧n≤9223372036854775807
instance (n:Int):Decidable (ok64 n):=by unfold ok64;exact inferInstance
def Box.empty (b:Box):Bool:=b.s0.empty||b.s1.empty||b.s2.empty||b.s3.empty||b.s4.empty
def Box.get (b:Box) (i:Int):Span:=if i=0 then b.s0 else if i=1 then b.s1 else if i=2 then b.s2 else if i=3 then b.s3 else b.s4
def Box.set (b:Box) (i:Int) (s:Span):Box :=
 if i=0 then { b with s0:=s } else if i=1 then { b with s1:=s } else if i=2 then { b with s2:=s } else if i=3 then { b with s3:=s } else { b with s4:=s }
def cutB (b:Box) (p n:Int):Box×Box:=if 0≤p∧p<5 then (b.set p (cutS (b.get p) n).1,b.set p (cutS (b.get p) n).2) else (b,b)
def max2 (a b:Int):Int:=if b>a then b else a
def min2 (a b:Int):Int:=if b<a then b else a
def meetS (a b:Span):Span:=ofS (max2 a.lo b.lo) (min2 a.hi b.hi)
end Go.Co
/- CO: numbers of numbers. -/
namespace Go.Co
open Go.Am Go.Proofs
theorem mixed:Tryz.prog.follows .mixedOrders=true:=rfl
def c17_10:ACode:=.seq (.ops [⟨some 6,.mv (.c (.int .i64 0)),none,[]⟩] [0,1,2]) (.seq (.ops [⟨some 7,.mv (.t 0),none,[]⟩,⟨some 8,.mv (.t 2),none,[]⟩,⟨some 9,.mv (.t 1),none,[]⟩,⟨some 10,.bin .sub (.t 8) (.t 9),none,[]⟩,⟨some 11,.bin .add (.t 10) (.c (.int .i64 1)),none,[]⟩,⟨some 12,.bin .rem (.t 7) (.t 11),none,[]⟩,⟨some 0,.mv (.t 12),none,[]⟩] [0,1,2]) (.seq (.seq (.ops [⟨some 13,.mv (.t 0),none,[]⟩,⟨some 14,.bin .lss (.t 13) (.c (.int .i64 0)),none,[]⟩] [0,1,2,14]) (.cond (.t 14) (.ops [⟨some 15,.mv (.t 0),none,[]⟩,⟨some 16,.mv (.t 2),none,[]⟩,⟨some 17,.bin .add (.t 15) (.t 16),none,[]⟩,⟨some 18,.mv (.t 1),none,[]⟩,⟨some 19,.bin .sub (.t 17) (.t 18),none,[]⟩,⟨some 20,.bin .add (.t 19) (.c (.int .i64 1)),none,[]⟩,⟨some 0,.mv (.t 20),none,[]⟩] [0,1]) .skip)) (.seq (.ops [⟨some 21,.mv (.t 1),none,[]⟩,⟨some 22,.mv (.t 0),none,[]⟩,⟨some 23,.bin .add (.t 21) (.t 22),none,[]⟩,⟨some 6,.mv (.t 23),none,[]⟩] [6]) .ret)))
theorem r17_10:type_of% (rr c17_10.eq_1):=rr rfl
def a17:AFun:=⟨3,24,c17_10,[.t 6]⟩
attribute [simp] r17_10
theorem m17:mFun Tryz.prog Tryz.f17 a17=true:=by decide +kernel
def c27_9:ACode:=.seq (.ops [⟨some 4,.mv (.c (.int .i64 0)),none,[]⟩] [0,1]) (.seq (.seq (.ops [⟨some 5,.mv (.t 0),none,[]⟩,⟨some 6,.len (.t 5),none,[]⟩,⟨some 7,.bin .eql (.t 6) (.c (.int .i64 0)),none,[]⟩] [0,1,7]) (.cond (.t 7) (.seq (.ops [⟨some 4,.mv (.c (.int .i64 0)),none,[]⟩] [4]) .ret) .skip)) (.seq (.ops [⟨some 8,.mv (.t 0),none,[]⟩,⟨some 9,.mv (.t 1),none,[]⟩,⟨some 10,.mv (.t 0),none,[]⟩,⟨some 11,.len (.t 10),none,[]⟩,⟨some 12,.bin .rem (.t 9) (.t 11),none,[]⟩,⟨some 13,.ias (.t 8) (.t 12) 1,none,[]⟩,⟨some 14,.load 1 false (.t 13),none,[]⟩,⟨some 4,.mv (.t 14),none,[]⟩] [4]) .ret))
theorem r27_9:type_of% (rr c27_9.eq_1):=rr rfl
def a27:AFun:=⟨2,15,c27_9,[.t 4]⟩
attribute [simp] r27_9
theorem m27:mFun Tryz.prog Tryz.f27 a27=true:=by decide +kernel
def Within (n lo hi:Int):Option Int:=if -1125899906842624≤lo∧lo≤hi∧hi≤1125899906842624 then some (within n lo hi) else none
theorem runs_Within (n lo hi c:Int) (h:Within n lo hi=some c):Runs (tbl []) a17 [Arg.enc n,Arg.enc lo,Arg.enc hi] (Arg.enc c):=by
 unfold Within at h
 split at h
 ·rename_i hb
  cases h
  obtain⟨h1,h2,h3⟩:=hb
  have hm:0<hi-lo+1:=by omega
  have e1:IntKind.i64.wrap (hi-lo)=hi-lo:=wrap64 (by omega) (by omega)
  have e2:IntKind.i64.wrap (hi-lo+1)=hi-lo+1:=wrap64 (by omega) (by omega)
  have e3:hi-lo+1≠0:=by omega
  have t1:=Int.tmod_eq_emod (a:=n) (b:=hi-lo+1)
  have b1:=Int.emod_nonneg n e3
  have b2:=Int.emod_lt_of_pos n hm
  refine⟨rfl,fun g=>run_def ?_⟩
  unfold a17
  simp[e1,e2,e3,within]
  generalize n % (hi-lo+1)=r at *
  generalize n.tmod (hi-lo+1)=q at *
  refine⟨fun hq=>?_,fun hq=>?_⟩
  ·split at t1
   ·omega
   ·have:q=r-(hi-lo+1):=by rw[t1,Int.natAbs_of_nonneg (by omega)]
    rw[wrap64 (x:=q+hi) (by omega) (by omega),wrap64 (x:=q+hi-lo) (by omega) (by omega),wrap64 (x:=q+hi-lo+1) (by omega) (by omega),wrap64 (by omega) (by omega)]
    omega
  ·split at t1
   ·rw[wrap64 (by omega) (by omega)]
    omega
   ·have:q=r-(hi-lo+1):=by rw[t1,Int.natAbs_of_nonneg (by omega)]
    omega
 ·cases h
theorem c_Within:Contract Tryz.prog 17 (sp3 Within) :=
 contract_of_runs mixed tbl_nil Tryz.func17 m17 (sp3_runs runs_Within)
def Pick (l:List Int) (i:Int):Option Int:=if 0≤i then some (pick l i.toNat) else none
theorem runs_pick (l:List Int) (i c:Int) (h:Pick l i=some c):Runs (tbl []) a27 [Arg.enc l,Arg.enc i] (Arg.enc c):=by
 unfold Pick at h
 split at h
 ·rename_i hi
  cases h
  obtain⟨k,rfl⟩:∃ k:Nat,i=k:=⟨i.toNat,by omega⟩
  refine⟨rfl,fun g=>run_def ?_⟩
  unfold a27
  simp[pick]
  intro hl
  refine⟨fun h=>by simp[h],fun hne _=>?_⟩
  have hpos:0<l.length:=List.length_pos_iff.2 hne
  have hlt:=Nat.mod_lt k hpos
  have e:((k:Int).tmod (l.length:Int))=(k:Int)%(l.length:Int):=Int.tmod_eq_emod_of_nonneg (by omega)
  have e2:(k:Int)%(l.length:Int)<(l.length:Int):=Int.emod_lt_of_pos _ (by omega)
  have e3:(0:Int)≤(k:Int)%(l.length:Int):=Int.emod_nonneg _ (by omega)
  have e4:((k:Int)%(l.length:Int)).toNat=k % l.length:=by
   omega
  simp[hne,e,e2,e3,e4,rd_ints,hlt]
 ·cases h
theorem c_pick:Contract Tryz.prog 27 (sp2 Pick) :=
 contract_of_runs mixed tbl_nil Tryz.func27 m27 (sp2_runs runs_pick)
end Go.Co
/- CO: words and their bits, as sums of powers of two. -/
namespace Go.Co
open Go.Am
@[simp] theorem wrapU {x:Int} (h:0≤x) (h':x<18446744073709551616):IntKind.u64.wrap x=x:=by
 unfold IntKind.wrap
 simp[IntKind.bits,IntKind.signed]
 omega
theorem bv_toNat {a:Int} (h:0≤a) (h':a<18446744073709551616):(BitVec.ofInt 64 a).toNat=a.toNat:=by
 rw[BitVec.toNat_ofInt]
 omega
theorem and_mask (x at_ w:Nat):x &&& ((2^w-1)*2^at_)=(x/2^at_%2^w)*2^at_:=by
 apply Nat.eq_of_testBit_eq
 intro i
 rw[Nat.testBit_and,Nat.mul_comm,Nat.testBit_two_pow_mul,Nat.mul_comm (x/2^at_%2^w),Nat.testBit_two_pow_mul,Nat.testBit_two_pow_sub_one,Nat.testBit_mod_two_pow,Nat.testBit_div_two_pow]
 by_cases h:at_≤i
 ·simp[h,Bool.and_comm]
 ·simp[h]
theorem or_apart (a b k:Nat) (h:b<2^k):a*2^k ||| b=a*2^k+b:=by
 rw[Nat.mul_comm]
 exact (Nat.two_pow_add_eq_or_of_lt h a).symm
def okW (a:Int):Prop:=0≤a∧a<18446744073709551616
instance (a:Int):Decidable (okW a):=by unfold okW;exact inferInstance
theorem u_and (a b:Int) (ha:okW a) (hb:okW b):iand .u64 a b=((a.toNat &&& b.toNat:Nat):Int):=by
 show IntKind.u64.wrap ((BitVec.ofInt 64 a &&& BitVec.ofInt 64 b).toNat:Int)=_
 rw[BitVec.toNat_and,bv_toNat ha.1 ha.2,bv_toNat hb.1 hb.2]
 refine wrapU (by omega) ?_
 have:a.toNat &&& b.toNat≤a.toNat:=Nat.and_le_left
 have:=ha.2
 omega
theorem u_or (a b:Int) (ha:okW a) (hb:okW b):ior .u64 a b=((a.toNat ||| b.toNat:Nat):Int):=by
 show IntKind.u64.wrap ((BitVec.ofInt 64 a ||| BitVec.ofInt 64 b).toNat:Int)=_
 rw[BitVec.toNat_or,bv_toNat ha.1 ha.2,bv_toNat hb.1 hb.2]
 refine wrapU (by omega) ?_
 have:a.toNat ||| b.toNat<2^64:=Nat.or_lt_two_pow (by have:=ha.2;have:=ha.1;omega) (by have:=hb.2;have:=hb.1;omega)
 omega
theorem u_conv (n:Int):IntKind.u64.wrap n=n % 18446744073709551616:=by
 unfold IntKind.wrap
 simp[IntKind.bits,IntKind.signed]
theorem okW_mod (n:Int):okW (n % 18446744073709551616):=⟨by omega,by omega⟩
theorem bv_clear (x m:BitVec 64) (h:x &&& m=0#64):x &&& ~~~ m=x:=by
 apply BitVec.eq_of_getLsbD_eq
 intro i hi
 have h1:=congrArg (fun b=>b.getLsbD i) h
 simp[hi] at h1 ⊢
 exact h1
theorem put_bits (x a m:Int) (p w:Nat) (hx:okW x) (ha:okW a) (hm:m=((2^w-1)*2^p:Nat)) (hm2:okW m) (hc:x.toNat/2^p % 2^w=0) :
  ior .u64 (iandNot .u64 x m) (iand .u64 a m)=x+((a.toNat/2^p % 2^w*2^p:Nat):Int):=by
 have hmn:m.toNat=(2^w-1)*2^p:=by omega
 have hxm:BitVec.ofInt 64 x &&& BitVec.ofInt 64 m=0#64:=by
  apply BitVec.eq_of_toNat_eq
  rw[BitVec.toNat_and,bv_toNat hx.1 hx.2,bv_toNat hm2.1 hm2.2,hmn,and_mask,hc]
  simp
 have hnot:iandNot .u64 x m=x:=by
  show IntKind.u64.wrap ((BitVec.ofInt 64 x &&& ~~~ BitVec.ofInt 64 m).toNat:Int)=x
  rw[bv_clear _ _ hxm,bv_toNat hx.1 hx.2]
  have:=hx.1
  have:=hx.2
  rw[wrapU (by omega) (by omega)]
  omega
 have hand:iand .u64 a m=((a.toNat/2^p % 2^w*2^p:Nat):Int):=by
  rw[u_and _ _ ha hm2,hmn,and_mask]
 have hf:okW ((a.toNat/2^p % 2^w*2^p:Nat):Int):=by
  rw[← and_mask,← hmn]
  have:a.toNat &&& m.toNat≤m.toNat:=Nat.and_le_right
  have:=hm2.1
  have:=hm2.2
  exact⟨by omega,by omega⟩
 rw[hnot,hand]
 show IntKind.u64.wrap ((BitVec.ofInt 64 x ||| BitVec.ofInt 64 _).toNat:Int)=_
 have h0:BitVec.ofInt 64 x &&& BitVec.ofInt 64 ((a.toNat/2^p % 2^w*2^p:Nat):Int)=0#64:=by
  have hfm:BitVec.ofInt 64 ((a.toNat/2^p % 2^w*2^p:Nat):Int) &&& BitVec.ofInt 64 m=BitVec.ofInt 64 ((a.toNat/2^p % 2^w*2^p:Nat):Int):=by
   apply BitVec.eq_of_toNat_eq
   rw[BitVec.toNat_and,bv_toNat hf.1 hf.2,bv_toNat hm2.1 hm2.2,hmn]
   have e:(((a.toNat/2^p % 2^w*2^p:Nat):Int)).toNat=a.toNat/2^p % 2^w*2^p:=by omega
   rw[e,and_mask,Nat.mul_div_cancel _ (Nat.two_pow_pos p),Nat.mod_mod]
  rw[← hfm,BitVec.and_comm _ (BitVec.ofInt 64 m),← BitVec.and_assoc,hxm,BitVec.zero_and]
 rw[← BitVec.add_eq_or_of_and_eq_zero _ _ h0,BitVec.toNat_add_of_and_eq_zero h0,bv_toNat hx.1 hx.2,bv_toNat hf.1 hf.2]
 have hsum:((BitVec.ofInt 64 x)+BitVec.ofInt 64 ((a.toNat/2^p % 2^w*2^p:Nat):Int)).toNat<2^64:=BitVec.isLt _
 rw[BitVec.toNat_add_of_and_eq_zero h0,bv_toNat hx.1 hx.2,bv_toNat hf.1 hf.2] at hsum
 have:=hx.1
 have:=hf.1
 rw[wrapU (by omega) (by omega)]
 omega
end Go.Co
