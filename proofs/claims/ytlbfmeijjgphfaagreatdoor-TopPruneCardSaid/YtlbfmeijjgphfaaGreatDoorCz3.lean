/- CO: texts of this claim, one behind the other. -/
import Derived.Test.YtlbfmeijjgphfaaGreatDoorCz2
set_option linter.unusedVariables false
set_option linter.unusedSimpArgs false
/- CO: walks through right trees; the pieces of a tree within a box. -/
namespace Go.Co
def Point.get (p:Point) (i:Int):Int:=if i=0 then p.p0 else if i=1 then p.p1 else if i=2 then p.p2 else p.p3
def Point.set (p:Point) (i n:Int):Point:=if i=0 then { p with p0:=n } else if i=1 then { p with p1:=n } else if i=2 then { p with p2:=n } else { p with p3:=n }
def InS (s:Span) (n:Int):Prop:=s.lo≤n∧n≤s.hi
def InB (b:Box) (p:Point) (t:Int):Prop:=InS b.s0 p.p0∧InS b.s1 p.p1∧InS b.s2 p.p2∧InS b.s3 p.p3∧InS b.s4 t
theorem cutS_1 (s:Span) (c n:Int):InS (cutS s c).1 n↔InS s n∧n≤c:=by
 unfold cutS
 split
 ·unfold ofS InS
  split
  ·simp only[noneS];omega
  ·simp only;omega
 ·unfold ofS InS
  split
  ·simp only[noneS];omega
  ·simp only;omega
theorem cutS_2 (s:Span) (c n:Int):InS (cutS s c).2 n↔InS s n∧c<n:=by
 unfold cutS
 split
 ·unfold InS
  simp only[noneS]
  omega
 ·unfold ofS InS
  simp only
  split<;>split<;>simp only[noneS]<;>omega
theorem empty_false {b:Box}:b.empty=false↔∃ p t,InB b p t:=by
 constructor
 ·intro h
  unfold Box.empty Span.empty at h
  simp only[Bool.or_eq_false_iff,decide_eq_false_iff_not] at h
  exact⟨⟨b.s0.lo,b.s1.lo,b.s2.lo,b.s3.lo⟩,b.s4.lo,by unfold InB InS;simp only;omega⟩
 ·rintro⟨p,t,h⟩
  unfold Box.empty Span.empty
  simp only[Bool.or_eq_false_iff,decide_eq_false_iff_not]
  unfold InB InS at h
  omega
theorem empty_true {b:Box}:b.empty=true↔∀ p t,¬ InB b p t:=by
 constructor
 ·intro h p t hp
  have:=empty_false.2 ⟨p,t,hp⟩
  rw[h] at this
  cases this
 ·intro h
  cases he:b.empty
  ·obtain⟨p,t,hp⟩:=empty_false.1 he
   exact (h p t hp).elim
  ·rfl
theorem get_set {b:Box} {i:Int} {s:Span} (h:0≤i∧i<4) (p:Point) (t:Int):InB (b.set i s) p t↔InS s (p.get i)∧∀ j,0≤j→j<4→j≠i→InS (b.get j) (p.get j)∧InS b.s4 t:=by
 have hp:i=0∨i=1∨i=2∨i=3:=by omega
 constructor
 ·intro hi
  rcases hp with rfl|rfl|rfl|rfl<;>simp[Box.set,InB,Point.get] at hi ⊢<;>refine⟨by simp[hi], ?_⟩<;>intro j h1 h2 h3 <;>
   (have hj:j=0∨j=1∨j=2∨j=3:=by omega)<;>rcases hj with rfl|rfl|rfl|rfl<;>simp_all [Box.get,Point.get]
 ·rintro⟨h1,h2⟩
  have k0:=h2 0 (by omega) (by omega)
  have k1:=h2 1 (by omega) (by omega)
  have k2:=h2 2 (by omega) (by omega)
  have k3:=h2 3 (by omega) (by omega)
  rcases hp with rfl|rfl|rfl|rfl<;>simp[Box.set,InB,Point.get,Box.get] at * <;> simp_all
theorem inB_get {b:Box} {p:Point} {t:Int}:InB b p t↔∀ j,0≤j→j<4→InS (b.get j) (p.get j)∧InS b.s4 t:=by
 constructor
 ·intro h j h1 h2
  have hj:j=0∨j=1∨j=2∨j=3:=by omega
  rcases hj with rfl|rfl|rfl|rfl<;>simp_all [InB,Box.get,Point.get]
 ·intro h2
  have k0:=h2 0 (by omega) (by omega)
  have k1:=h2 1 (by omega) (by omega)
  have k2:=h2 2 (by omega) (by omega)
  have k3:=h2 3 (by omega) (by omega)
  simp[InB,Point.get,Box.get] at *
  simp_all
theorem cutB_1 (b:Box) {i:Int} (h:0≤i∧i<4) (c:Int) (p:Point) (t:Int):InB (cutB b i c).1 p t↔InB b p t∧p.get i≤c:=by
 unfold cutB
 rw[if_pos (by omega)]
 simp only
 rw[get_set h,cutS_1,inB_get]
 constructor
 ·rintro⟨⟨h1,h2⟩,h3⟩
  refine⟨fun j hj hj2=>?_,h2⟩
  by_cases e:j=i
  ·subst e
   by_cases e0:j=0
   ·exact⟨h1,(h3 1 (by omega) (by omega) (by omega)).2⟩
   ·exact⟨h1,(h3 0 (by omega) (by omega) (by omega)).2⟩
  ·exact h3 j hj hj2 e
 ·rintro⟨h1,h2⟩
  exact⟨⟨(h1 i h.1 h.2).1,h2⟩,fun j hj hj2 _=>h1 j hj hj2⟩
theorem cutB_2 (b:Box) {i:Int} (h:0≤i∧i<4) (c:Int) (p:Point) (t:Int):InB (cutB b i c).2 p t↔InB b p t∧c<p.get i:=by
 unfold cutB
 rw[if_pos (by omega)]
 simp only
 rw[get_set h,cutS_2,inB_get]
 constructor
 ·rintro⟨⟨h1,h2⟩,h3⟩
  refine⟨fun j hj hj2=>?_,h2⟩
  by_cases e:j=i
  ·subst e
   by_cases e0:j=0
   ·exact⟨h1,(h3 1 (by omega) (by omega) (by omega)).2⟩
   ·exact⟨h1,(h3 0 (by omega) (by omega) (by omega)).2⟩
  ·exact h3 j hj hj2 e
 ·rintro⟨h1,h2⟩
  exact⟨⟨(h1 i h.1 h.2).1,h2⟩,fun j hj hj2 _=>h1 j hj hj2⟩
def ndAt (l:List Word) (i:Nat):Node:=nd (l.getD i default)
theorem ndAt_lt {l:List Word} {i:Nat} (h:i<l.length):ndAt l i=nd l[i]:=by unfold ndAt;simp[h]
def nxt (n:Node) (p:Point):Nat:=if p.get n.feature≤n.cut then n.left.toNat else n.right.toNat
def walk (l:List Word) (p:Point):Nat→Nat→Nat
 | 0,i=>i
 | f+1,i=>if (ndAt l i).leaf then i else walk l p f (nxt (ndAt l i) p)
def leafOf (l:List Word) (p:Point):Nat:=walk l p 31 0
def valueAt (l:List Word) (p:Point):Int:=(ndAt l (leafOf l p)).value
theorem RT.at {l:List Word} {dim:Int} (h:RT l dim) {i:Nat} (hi:i<l.length) (hl:(ndAt l i).leaf=false) :
  (ndAt l i).feature<dim∧(ndAt l i).left≠(ndAt l i).right∧(i:Int)<(ndAt l i).left∧(ndAt l i).left<l.length∧(i:Int)<(ndAt l i).right∧(ndAt l i).right<l.length:=by
 rw[ndAt_lt hi] at *
 exact h.inner i hi hl
theorem RT.node {l:List Word} {dim:Int} (h:RT l dim) {i:Nat} (hi:i<l.length):rightNode (ndAt l i)=true:=by
 rw[ndAt_lt hi]
 exact (unpack_true (h.ok i hi).2).1
theorem RT.feature {l:List Word} {dim:Int} (h:RT l dim) {i:Nat} (hi:i<l.length) (hl:(ndAt l i).leaf=false):0≤(ndAt l i).feature∧(ndAt l i).feature<4:=by
 have:=h.node hi
 unfold rightNode at this
 rw[hl] at this
 simp only[Bool.false_eq_true,if_false,Bool.and_eq_true,decide_eq_true_eq] at this
 omega
theorem RT.value {l:List Word} {dim:Int} (h:RT l dim) {i:Nat} (hi:i<l.length):fits (ndAt l i).value=true:=by
 have:=h.node hi
 unfold rightNode at this
 cases hl:(ndAt l i).leaf
 ·rw[hl] at this
  simp only[Bool.false_eq_true,if_false,Bool.and_eq_true,decide_eq_true_eq] at this
  rw[this.1.1.1.1.1.1.1]
  rfl
 ·rw[hl] at this
  simp only[if_true,Bool.and_eq_true,decide_eq_true_eq] at this
  exact this.1.1.1.1
theorem RT.cutOk {l:List Word} {dim:Int} (h:RT l dim) {i:Nat} (hi:i<l.length):fits (ndAt l i).cut=true:=by
 have:=h.node hi
 unfold rightNode at this
 cases hl:(ndAt l i).leaf
 ·rw[hl] at this
  simp only[Bool.false_eq_true,if_false,Bool.and_eq_true,decide_eq_true_eq] at this
  exact this.1.1.1.1.2
 ·rw[hl] at this
  simp only[if_true,Bool.and_eq_true,decide_eq_true_eq] at this
  rw[this.1.1.2]
  rfl
theorem nxt_lt {l:List Word} {dim:Int} (h:RT l dim) {i:Nat} (hi:i<l.length) (hl:(ndAt l i).leaf=false) (p:Point):i<nxt (ndAt l i) p∧nxt (ndAt l i) p<l.length:=by
 have:=h.at hi hl
 unfold nxt
 split<;>omega
theorem walk_leaf {l:List Word} {dim:Int} (h:RT l dim) (p:Point):∀(f i:Nat),i<l.length→l.length≤f+i→walk l p f i<l.length∧(ndAt l (walk l p f i)).leaf=true
 | 0,i,h1,h2=>by omega
 | f+1,i,h1,h2=>by
  unfold walk
  cases hl:(ndAt l i).leaf
  ·simp only[Bool.false_eq_true,if_false]
   have:=nxt_lt h h1 hl p
   exact walk_leaf h p f _ this.2 (by omega)
  ·simp only[if_true]
   exact⟨h1,hl⟩
theorem leafOf_lt {l:List Word} {dim:Int} (h:RT l dim) (p:Point):leafOf l p<l.length∧(ndAt l (leafOf l p)).leaf=true :=
 walk_leaf h p 31 0 (by have:=h.pos;omega) (by have:=h.le;omega)
theorem valueAt_fits {l:List Word} {dim:Int} (h:RT l dim) (p:Point):fits (valueAt l p)=true:=h.value (leafOf_lt h p).1
inductive Reach (l:List Word) (p:Point):Nat→Prop
 | root:Reach l p 0
 | step {i:Nat}:Reach l p i→(ndAt l i).leaf=false→Reach l p (nxt (ndAt l i) p)
theorem Reach.lt {l:List Word} {dim:Int} (h:RT l dim) {p:Point} {j:Nat} (hr:Reach l p j):j<l.length:=by
 induction hr with
 | root=>have:=h.pos;omega
 | step hr hl ih=>exact (nxt_lt h ih hl p).2
theorem Reach.walk {l:List Word} {dim:Int} (h:RT l dim) {p:Point} {j:Nat} (hr:Reach l p j):∃ f,31≤f+j∧leafOf l p=walk l p f j:=by
 induction hr with
 | root=>exact⟨31,by omega,rfl⟩
 | @step i hr hl ih =>
  obtain⟨f,hf,hw⟩:=ih
  have hi:=hr.lt h
  have hle:=h.le
  cases f with
  | zero=>omega
  | succ f =>
   refine⟨f, ?_, ?_⟩
   ·have:=(nxt_lt h hi hl p).1
    omega
   ·rw[hw,Co.walk,hl]
    rfl
theorem Reach.leaf {l:List Word} {dim:Int} (h:RT l dim) {p:Point} {j:Nat} (hr:Reach l p j) (hl:(ndAt l j).leaf=true):leafOf l p=j:=by
 obtain⟨f,hf,hw⟩:=hr.walk h
 rw[hw]
 cases f with
 | zero=>rfl
 | succ f=>rw[Co.walk,hl];rfl
theorem reach_walk {l:List Word} {p:Point}:∀(f i:Nat),Reach l p i→Reach l p (walk l p f i)
 | 0,_,h=>h
 | f+1,i,h=>by
  unfold walk
  cases hl:(ndAt l i).leaf
  ·simp only[Bool.false_eq_true,if_false]
   exact reach_walk f _ (h.step hl)
  ·simp only[if_true]
   exact h
theorem reach_leaf (l:List Word) (p:Point):Reach l p (leafOf l p):=reach_walk 31 0 .root
theorem countP_one {α:Type} (f:α→Bool):∀(l:List α) (i k:Nat) (hi:i<l.length) (hk:k<l.length),f l[i]=true→f l[k]=true→l.countP f=1→i=k
 | [],i,_,hi,_,_,_,_=>by simp at hi
 | a::l,i,k,hi,hk,h1,h2,h=>by
  rw[List.countP_cons] at h
  by_cases ha:f a=true
  ·have h0:l.countP f=0:=by simp[ha] at h;simpa using h
   rw[List.countP_eq_zero] at h0
   cases i with
   | zero=>cases k with
    | zero=>rfl
    | succ k=>exact (h0 _ (List.getElem_mem _) h2).elim
   | succ i=>exact (h0 _ (List.getElem_mem _) h1).elim
  ·cases i with
   | zero=>exact (ha h1).elim
   | succ i=>cases k with
    | zero=>exact (ha h2).elim
    | succ k =>
     have:l.countP f=1:=by simp[ha] at h;exact h
     rw[countP_one f l i k (by simpa using hi) (by simpa using hk) h1 h2 this]
theorem RT.unique {l:List Word} {dim:Int} (h:RT l dim) {i k j:Nat} (hi:i<l.length) (hk:k<l.length) (hj:1≤j) (hj2:j<l.length) (h1:names (ndAt l i) j=true) (h2:names (ndAt l k) j=true):i=k:=by
 rw[ndAt_lt hi] at h1
 rw[ndAt_lt hk] at h2
 exact countP_one (fun w=>names (nd w) j) l i k hi hk h1 h2 (h.once j hj hj2)
theorem RT.parent {l:List Word} {dim:Int} (h:RT l dim) {j:Nat} (hj:1≤j) (hj2:j<l.length):∃ i,i<j∧(ndAt l i).leaf=false∧((ndAt l i).left=j∨(ndAt l i).right=j):=by
 have h1:=h.once j hj hj2
 have h2:0<l.countP (fun w=>names (nd w) j):=by omega
 rw[List.countP_pos_iff] at h2
 obtain⟨w,hw,hn⟩:=h2
 obtain⟨i,hi,rfl⟩:=List.getElem_of_mem hw
 rw[← ndAt_lt hi] at hn
 unfold names at hn
 simp only[Bool.and_eq_true,Bool.not_eq_true',Bool.or_eq_true,decide_eq_true_eq] at hn
 have:=h.at hi hn.1
 exact⟨i,by omega,hn.1,hn.2⟩
def up (f:Nat→Box) (i:Nat) (b:Box):Nat→Box:=fun j=>if j=i then b else f j
def zeroB:Box:=⟨⟨0,0⟩,⟨0,0⟩,⟨0,0⟩,⟨0,0⟩,⟨0,0⟩⟩
def ownF (l:List Word) (b:Box):Nat→Nat→Box
 | 0=>up (fun _=>zeroB) 0 b
 | i+1=>if (ndAt l i).leaf then ownF l b i else
   up (up (ownF l b i) (ndAt l i).left.toNat (cutB (ownF l b i i) (ndAt l i).feature (ndAt l i).cut).1) (ndAt l i).right.toNat (cutB (ownF l b i i) (ndAt l i).feature (ndAt l i).cut).2
def own (l:List Word) (b:Box) (j:Nat):Box:=ownF l b j j
theorem own_root {l:List Word} (b:Box):own l b 0=b:=rfl
theorem own_child {l:List Word} {dim:Int} (h:RT l dim) (b:Box) {i:Nat} (hi:i<l.length) (hl:(ndAt l i).leaf=false) :
  own l b (ndAt l i).left.toNat=(cutB (own l b i) (ndAt l i).feature (ndAt l i).cut).1∧own l b (ndAt l i).right.toNat=(cutB (own l b i) (ndAt l i).feature (ndAt l i).cut).2:=by
 have ha:=h.at hi hl
 have key:∀(j:Nat),names (ndAt l i) j=true→i<j→j<l.length→∀ m,i+1+m≤l.length→ownF l b (i+1+m) j=ownF l b (i+1) j:=by
  intro j hn hj hj2 m hm
  induction m with
  | zero=>rfl
  | succ m ih =>
   have h0:=ih (by omega)
   rw[← h0]
   have h1:names (ndAt l (i+1+m)) j=false:=by
    cases hc:names (ndAt l (i+1+m)) j
    ·rfl
    ·have:=h.unique hi (show i+1+m<l.length by omega) (show 1≤j by omega) hj2 hn hc
     omega
   show ownF l b (i+1+m+1) j=_
   rw[ownF]
   cases hl2:(ndAt l (i+1+m)).leaf
   ·have h2:=h.at (show i+1+m<l.length by omega) hl2
    simp only[names,hl2,Bool.not_false,Bool.true_and,Bool.or_eq_false_iff,decide_eq_false_iff_not] at h1
    simp only[Bool.false_eq_true,if_false,up]
    rw[if_neg (by omega),if_neg (by omega)]
   ·simp only[if_true]
 have k1:=key (ndAt l i).left.toNat (by simp[names,hl];omega) (by omega) (by omega) ((ndAt l i).left.toNat-(i+1)) (by omega)
 have k2:=key (ndAt l i).right.toNat (by simp[names,hl];omega) (by omega) (by omega) ((ndAt l i).right.toNat-(i+1)) (by omega)
 rw[show i+1+((ndAt l i).left.toNat-(i+1))=(ndAt l i).left.toNat by omega] at k1
 rw[show i+1+((ndAt l i).right.toNat-(i+1))=(ndAt l i).right.toNat by omega] at k2
 unfold own
 rw[k1,k2,ownF,hl]
 simp only[Bool.false_eq_true,if_false,up]
 rw[if_neg (by omega)]
 simp
theorem own_iff {l:List Word} {dim:Int} (h:RT l dim) (b:Box) (p:Point) (t:Int):∀ j,j<l.length→(InB (own l b j) p t↔InB b p t∧Reach l p j):=by
 intro j
 induction j using Nat.strongRecOn with
 | _ j ih =>
  intro hj
  by_cases h0:j=0
  ·subst h0
   rw[own_root]
   exact⟨fun hb=>⟨hb,.root⟩,fun hb=>hb.1⟩
  ·obtain⟨i,hi,hl,hn⟩:=h.parent (show 1≤j by omega) hj
   have hi2:i<l.length:=by omega
   have hc:=own_child h b hi2 hl
   have hf:=h.feature hi2 hl
   have ha:=h.at hi2 hl
   have hnm:names (ndAt l i) j=true:=by
    unfold names
    simp only[hl,Bool.not_false,Bool.true_and,Bool.or_eq_true,decide_eq_true_eq]
    exact hn
   have back:Reach l p j→Reach l p i∧nxt (ndAt l i) p=j:=by
    intro hr
    cases hr with
    | root=>exact (h0 rfl).elim
    | @step i' hr hl' =>
     have hi':=hr.lt h
     have ha':=h.at hi' hl'
     have h3:names (ndAt l i') (nxt (ndAt l i') p)=true:=by
      unfold names nxt
      simp only[hl',Bool.not_false,Bool.true_and,Bool.or_eq_true,decide_eq_true_eq]
      split
      ·exact Or.inl (by omega)
      ·exact Or.inr (by omega)
     have:=h.unique hi2 hi' (by omega) hj hnm h3
     subst this
     exact⟨hr,rfl⟩
   rcases hn with hn|hn
   ·have e:j=(ndAt l i).left.toNat:=by omega
    have h4:own l b j=(cutB (own l b i) (ndAt l i).feature (ndAt l i).cut).1:=by rw[e];exact hc.1
    rw[h4,cutB_1 _ hf,ih i hi hi2]
    constructor
    ·rintro⟨⟨h5,h6⟩,h7⟩
     refine⟨h5, ?_⟩
     have:=h6.step hl
     unfold nxt at this
     rw[if_pos h7] at this
     rw[e]
     exact this
    ·rintro⟨h5,h6⟩
     obtain⟨h7,h8⟩:=back h6
     refine⟨⟨h5,h7⟩, ?_⟩
     unfold nxt at h8
     split at h8
     ·assumption
     ·omega
   ·have e:j=(ndAt l i).right.toNat:=by omega
    have h4:own l b j=(cutB (own l b i) (ndAt l i).feature (ndAt l i).cut).2:=by rw[e];exact hc.2
    rw[h4,cutB_2 _ hf,ih i hi hi2]
    constructor
    ·rintro⟨⟨h5,h6⟩,h7⟩
     refine⟨h5, ?_⟩
     have:=h6.step hl
     unfold nxt at this
     rw[if_neg (by omega)] at this
     rw[e]
     exact this
    ·rintro⟨h5,h6⟩
     obtain⟨h7,h8⟩:=back h6
     refine⟨⟨h5,h7⟩, ?_⟩
     unfold nxt at h8
     split at h8
     ·omega
     ·omega
def pieceAt (l:List Word) (b:Box) (i:Nat):Option Piece:=if (ndAt l i).leaf && !(own l b i).empty then some ⟨own l b i,(ndAt l i).value⟩ else none
def pieces (l:List Word) (b:Box):List Piece:=(List.range l.length).filterMap (pieceAt l b)
theorem mem_pieces {l:List Word} {b:Box} {x:Piece}:x∈pieces l b↔∃ i,i<l.length∧(ndAt l i).leaf=true∧(own l b i).empty=false∧x=⟨own l b i,(ndAt l i).value⟩:=by
 unfold pieces
 rw[List.mem_filterMap]
 constructor
 ·rintro⟨i,hi,h⟩
  rw[List.mem_range] at hi
  unfold pieceAt at h
  split at h
  ·rename_i hc
   simp only[Bool.and_eq_true,Bool.not_eq_true'] at hc
   cases h
   exact⟨i,hi,hc.1,hc.2,rfl⟩
  ·cases h
 ·rintro⟨i,hi,h1,h2,rfl⟩
  refine⟨i,List.mem_range.2 hi, ?_⟩
  unfold pieceAt
  rw[h1,h2]
  rfl
theorem piece_of {l:List Word} {dim:Int} (h:RT l dim) {b:Box} {p:Point} {t:Int} (hp:InB b p t):∃ x∈pieces l b,InB x.box p t∧x.value=valueAt l p:=by
 have h1:=leafOf_lt h p
 have h2:=(own_iff h b p t _ h1.1).2 ⟨hp,reach_leaf l p⟩
 exact⟨⟨own l b (leafOf l p),valueAt l p⟩,mem_pieces.2 ⟨_,h1.1,h1.2,empty_false.2 ⟨p,t,h2⟩,rfl⟩,h2,rfl⟩
theorem piece_in {l:List Word} {dim:Int} (h:RT l dim) {b:Box} {x:Piece} (hx:x∈pieces l b) {p:Point} {t:Int} (hp:InB x.box p t):InB b p t∧valueAt l p=x.value:=by
 obtain⟨i,hi,hl,he,rfl⟩:=mem_pieces.1 hx
 have:=(own_iff h b p t i hi).1 hp
 refine⟨this.1, ?_⟩
 unfold valueAt
 rw[this.2.leaf h hl]
theorem piece_some {l:List Word} {b:Box} {x:Piece} (hx:x∈pieces l b):x.box.empty=false:=by
 obtain⟨i,hi,hl,he,rfl⟩:=mem_pieces.1 hx
 exact he
theorem pieces_ne {l:List Word} {dim:Int} (h:RT l dim) {b:Box} (hb:b.empty=false):pieces l b≠[]:=by
 obtain⟨p,t,hp⟩:=empty_false.1 hb
 obtain⟨x,hx,_⟩:=piece_of h hp
 intro e
 rw[e] at hx
 cases hx
end Go.Co
/- CO: sums, bounds. -/
namespace Go.Co
theorem max2_le {a b:Int}:a≤max2 a b∧b≤max2 a b∧(max2 a b=a∨max2 a b=b):=by unfold max2;split<;>omega
theorem min2_le {a b:Int}:min2 a b≤a∧min2 a b≤b∧(min2 a b=a∨min2 a b=b):=by unfold min2;split<;>omega
def evalF (c:Int) (p:Point) (s:Int) (t:Tree):Int:=if t.cls=c then s+valueAt t.nodes p else s
def evalM (m:Model) (c:Int) (p:Point):Int:=m.trees.foldl (evalF c p) (m.bias.get c)
theorem Bias.get_fits {m:Model} (h:RM m) (c:Int):fits (m.bias.get c)=true:=by
 unfold Bias.get
 have:=h.bias
 split
 ·exact this.1
 ·split
  ·exact this.2.1
  ·exact this.2.2
theorem evalF_le {c:Int} {p:Point}:∀(l:List Tree) (s:Int),(∀ t∈l,∃ d,RT t.nodes d) →
  s-2147483648*l.length≤l.foldl (evalF c p) s∧l.foldl (evalF c p) s≤s+2147483647*l.length
 | [],s,_=>by simp
 | t::l,s,h=>by
  obtain⟨d,hd⟩:=h t (by simp)
  have h1:=of_fits (valueAt_fits hd p)
  have h2:=evalF_le (c:=c) (p:=p) l (evalF c p s t) (fun t ht=>h t (by simp[ht]))
  have h3:evalF c p s t=s∨evalF c p s t=s+valueAt t.nodes p:=by unfold evalF;split<;>simp
  rw[List.foldl_cons,List.length_cons]
  rcases h3 with h3|h3<;>rw[h3] at h2 ⊢<;>omega
theorem RM.rt {m:Model} (h:RM m) {t:Tree} (ht:t∈m.trees):RT t.nodes m.dim:=(h.tree t ht).2.2
def endF (a:Int×Int) (x:Piece):Int×Int:=(min2 a.1 x.value,max2 a.2 x.value)
def ends (ps:List Piece):Tri Int Int Bool:=match ps with
 | []=>⟨0,0,false⟩
 | x::_=>⟨(ps.foldl endF (x.value,x.value)).1,(ps.foldl endF (x.value,x.value)).2,true⟩
theorem endF_le:∀(l:List Piece) (a:Int×Int),(l.foldl endF a).1≤a.1∧a.2≤(l.foldl endF a).2∧(∀ x∈l,(l.foldl endF a).1≤x.value∧x.value≤(l.foldl endF a).2)
  ∧ ((l.foldl endF a).1=a.1∨∃ x∈l,x.value=(l.foldl endF a).1)∧((l.foldl endF a).2=a.2∨∃ x∈l,x.value=(l.foldl endF a).2)
 | [],a=>by simp
 | x::l,a=>by
  obtain⟨h1,h2,h3,h4,h5⟩:=endF_le l (endF a x)
  have k1:=min2_le (a:=a.1) (b:=x.value)
  have k2:=max2_le (a:=a.2) (b:=x.value)
  rw[List.foldl_cons]
  unfold endF at h1 h2 h4 h5
  simp only at h1 h2 h4 h5
  refine⟨by unfold endF;omega,by unfold endF;omega, ?_, ?_, ?_⟩
  ·intro y hy
   rcases List.mem_cons.1 hy with rfl|hy
   ·unfold endF;omega
   ·exact h3 y hy
  ·rcases h4 with h4|⟨y,hy,h4⟩
   ·rcases k1.2.2 with e|e
    ·exact Or.inl (by unfold endF;omega)
    ·exact Or.inr ⟨x,by simp,by unfold endF;omega⟩
   ·exact Or.inr ⟨y,by simp[hy],by unfold endF;exact h4⟩
  ·rcases h5 with h5|⟨y,hy,h5⟩
   ·rcases k2.2.2 with e|e
    ·exact Or.inl (by unfold endF;omega)
    ·exact Or.inr ⟨x,by simp,by unfold endF;omega⟩
   ·exact Or.inr ⟨y,by simp[hy],by unfold endF;exact h5⟩
theorem ends_spec {ps:List Piece} (h:ps≠[]):(ends ps).c=true∧(∀ x∈ps,(ends ps).a≤x.value∧x.value≤(ends ps).b)∧(∃ x∈ps,x.value=(ends ps).a)∧∃ x∈ps,x.value=(ends ps).b:=by
 cases ps with
 | nil=>exact (h rfl).elim
 | cons x l =>
  obtain⟨h1,h2,h3,h4,h5⟩:=endF_le (x::l) (x.value,x.value)
  refine⟨rfl,h3, ?_, ?_⟩
  ·rcases h4 with h4|h4
   ·exact⟨x,by simp,h4.symm⟩
   ·exact h4
  ·rcases h5 with h5|h5
   ·exact⟨x,by simp,h5.symm⟩
   ·exact h5
def boundT (l:List Word) (b:Box):Tri Int Int Bool:=if b.empty then ⟨0,0,false⟩ else ends (pieces l b)
theorem boundT_spec {l:List Word} {dim:Int} (h:RT l dim) {b:Box} (hb:b.empty=false):(boundT l b).c=true∧(∀ p t,InB b p t→(boundT l b).a≤valueAt l p∧valueAt l p≤(boundT l b).b)
  ∧ (∃ p t,InB b p t∧valueAt l p=(boundT l b).a)∧∃ p t,InB b p t∧valueAt l p=(boundT l b).b:=by
 obtain⟨h1,h2,⟨x,hx,h3⟩,⟨y,hy,h4⟩⟩:=ends_spec (pieces_ne h hb)
 unfold boundT
 rw[hb]
 simp only[Bool.false_eq_true,if_false]
 refine⟨h1, ?_, ?_, ?_⟩
 ·intro p t hp
  obtain⟨z,hz,_,hv⟩:=piece_of h hp
  rw[← hv]
  exact h2 z hz
 ·obtain⟨p,t,hp⟩:=empty_false.1 (piece_some hx)
  have:=piece_in h hx hp
  exact⟨p,t,this.1,by rw[this.2,h3]⟩
 ·obtain⟨p,t,hp⟩:=empty_false.1 (piece_some hy)
  have:=piece_in h hy hp
  exact⟨p,t,this.1,by rw[this.2,h4]⟩
theorem boundT_fits {l:List Word} {dim:Int} (h:RT l dim) {b:Box} (hb:b.empty=false):fits (boundT l b).a=true∧fits (boundT l b).b=true∧(boundT l b).a≤(boundT l b).b:=by
 obtain⟨h1,h2,⟨p,t,hp,h3⟩,⟨q,u,hq,h4⟩⟩:=boundT_spec h hb
 refine⟨by rw[← h3];exact valueAt_fits h p,by rw[← h4];exact valueAt_fits h q, ?_⟩
 have:=h2 p t hp
 omega
def boundF (c:Int) (b:Box) (a:Int×Int) (t:Tree):Int×Int:=if t.cls=c then (a.1+(boundT t.nodes b).a,a.2+(boundT t.nodes b).b) else a
def boundP (m:Model) (c:Int) (b:Box):Int×Int:=m.trees.foldl (boundF c b) (m.bias.get c,m.bias.get c)
def boundM (m:Model) (c:Int) (b:Box):Tri Int Int Bool :=
 if c<0∨m.classes≤c∨b.empty=true then ⟨0,0,false⟩ else ⟨(boundP m c b).1,(boundP m c b).2,true⟩
theorem boundF_le {c:Int} {b:Box} (hb:b.empty=false):∀(l:List Tree) (a:Int×Int),(∀ t∈l,∃ d,RT t.nodes d) →
  a.1-2147483648*l.length≤(l.foldl (boundF c b) a).1∧(l.foldl (boundF c b) a).2≤a.2+2147483647*l.length∧(l.foldl (boundF c b) a).2-(l.foldl (boundF c b) a).1≥a.2-a.1
 | [],s,_=>by simp
 | t::l,s,h=>by
  obtain⟨d,hd⟩:=h t (by simp)
  have h0:=boundT_fits hd hb
  have h1:=of_fits h0.1
  have h1':=of_fits h0.2.1
  have h2:=boundF_le (c:=c) hb l (boundF c b s t) (fun t ht=>h t (by simp[ht]))
  rw[List.foldl_cons,List.length_cons]
  have h3:boundF c b s t=s∨boundF c b s t=(s.1+(boundT t.nodes b).a,s.2+(boundT t.nodes b).b):=by unfold boundF;split<;>simp
  rcases h3 with h3|h3<;>rw[h3] at h2 ⊢<;>(try simp only at h2)<;>omega
theorem boundP_le {m:Model} (h:RM m) (c:Int) {b:Box} (hb:b.empty=false):-19327352832≤(boundP m c b).1∧(boundP m c b).1≤(boundP m c b).2∧(boundP m c b).2≤19327352823:=by
 have h1:=of_fits (Bias.get_fits h c)
 have h2:=boundF_le (c:=c) hb m.trees (m.bias.get c,m.bias.get c) (fun t ht=>⟨_,h.rt ht⟩)
 have h3:=h.trees
 unfold boundP
 simp only at h2
 omega
theorem bound_fold {c:Int} {b:Box} {p:Point} {t0:Int} (hp:InB b p t0):∀(l:List Tree) (a:Int×Int) (s:Int),(∀ t∈l,∃ d,RT t.nodes d)→a.1≤s→s≤a.2 →
  (l.foldl (boundF c b) a).1≤l.foldl (evalF c p) s∧l.foldl (evalF c p) s≤(l.foldl (boundF c b) a).2
 | [],a,s,_,h1,h2=>⟨h1,h2⟩
 | t::l,a,s,h,h1,h2=>by
  obtain⟨d,hd⟩:=h t (by simp)
  have hb:=boundT_spec hd (empty_false.2 ⟨p,t0,hp⟩)
  have h3:=hb.2.1 p t0 hp
  rw[List.foldl_cons,List.foldl_cons]
  refine bound_fold hp l _ _ (fun t ht=>h t (by simp[ht])) ?_ ?_
  ·unfold boundF evalF;split<;>(try simp only)<;>omega
  ·unfold boundF evalF;split<;>(try simp only)<;>omega
theorem bound_sound {m:Model} (h:RM m) (c:Int) {b:Box} {p:Point} {t:Int} (hp:InB b p t):(boundP m c b).1≤evalM m c p∧evalM m c p≤(boundP m c b).2 :=
 bound_fold hp m.trees _ _ (fun t ht=>⟨_,h.rt ht⟩) (Int.le_refl _) (Int.le_refl _)
def paired (q:Query):Bool:=decide (q.kind=3)&&decide (0≤q.feature)&&decide (q.feature<4)
def startOf (q:Query):Box:={ q.region with s4:=if paired q then q.region.get q.feature else ⟨0,0⟩ }
def secondOf (q:Query) (p:Point) (t:Int):Point:=if paired q then p.set q.feature t else p
def Span.has (s:Span) (n:Int):Bool:=decide (s.lo≤n)&&decide (n≤s.hi)
def beaten (m:Model) (q:Query) (p:Point):Bool:=(List.range m.classes.toNat).any fun c=>decide ((c:Int)≠q.cls)&&decide (evalM m q.cls p≤evalM m c p)
def breaks (m:Model) (q:Query) (p:Point) (t:Int):Bool :=
 if okQuery m q then
  if q.kind=1 then !(Span.has ⟨q.lo,q.hi⟩ (evalM m q.cls p))
  else if q.kind=2 then beaten m q p
  else if p.get q.feature<t then (if q.falls then decide (evalM m q.cls p<evalM m q.cls (secondOf q p t)) else decide (evalM m q.cls (secondOf q p t)<evalM m q.cls p)) else false
 else false
end Go.Co
/- CO: trees of words. -/
namespace Go.Co
open Go.Am Go.Proofs
def c73_37:ACode:=.seq (.ops [⟨some 26,.bin .lss (.t 25) (.t 24),none,[]⟩] [0,1,5,23,24,25,26]) (.seq (.cond (.t 26) .skip (.exit 0)) (.seq (.block 1 (.seq (.ops [⟨some 27,.mv (.t 25),none,[]⟩,⟨some 28,.ias (.t 23) (.t 25) 1,none,[]⟩,⟨some 29,.load 1 false (.t 28),none,[]⟩,⟨some 6,.mv (.t 27),none,[]⟩,⟨some 7,.mv (.t 29),none,[]⟩] [0,1,5,6,7,23,24,25]) (.seq (.ops [⟨some 31,.mv (.t 7),none,[]⟩,⟨some 32,.call 64 [.t 31],none,[]⟩,⟨some 30,.mv (.t 32),none,[]⟩,⟨some 33,.ext (.t 30) 0,none,[]⟩,⟨some 34,.ext (.t 30) 1,none,[]⟩,⟨some 8,.alloc [.bool false,.int .i64 0,.int .i64 0,.int .i64 0,.int .i64 0,.int .i64 0],none,[]⟩,⟨none,.store (.t 8) 6 (.t 33),none,[8]⟩,⟨some 9,.mv (.t 34),none,[]⟩] [0,1,5,6,8,9,23,24,25]) (.seq (.seq (.ops [⟨some 35,.mv (.t 9),none,[]⟩,⟨some 36,.un .not (.t 35),none,[]⟩] [0,1,5,6,8,23,24,25,36]) (.cond (.t 36) (.seq (.ops [⟨some 4,.mv (.c (.bool false)),none,[]⟩] [4]) .ret) .skip)) (.seq (.seq (.ops [⟨some 37,.fad (.t 8) 0,none,[8]⟩,⟨some 38,.load 1 false (.t 37),none,[8]⟩] [0,1,5,6,8,23,24,25,38]) (.cond (.t 38) (.exit 1) .skip)) (.seq (.seq (.ops [⟨some 39,.fad (.t 8) 2,none,[8]⟩,⟨some 40,.load 1 false (.t 39),none,[8]⟩,⟨some 41,.mv (.t 1),none,[]⟩,⟨some 42,.bin .geq (.t 40) (.t 41),none,[]⟩,⟨some 43,.mv (.t 42),none,[]⟩,⟨some 44,.fad (.t 8) 4,some (43,false),[8]⟩,⟨some 45,.load 1 false (.t 44),some (43,false),[8]⟩,⟨some 46,.fad (.t 8) 5,some (43,false),[8]⟩,⟨some 47,.load 1 false (.t 46),some (43,false),[8]⟩,⟨some 48,.bin .eql (.t 45) (.t 47),some (43,false),[]⟩,⟨some 49,.pick (.t 43) (.c (.bool true)) (.t 48),none,[]⟩,⟨some 50,.mv (.t 49),none,[]⟩,⟨some 51,.fad (.t 8) 4,some (50,false),[8]⟩,⟨some 52,.load 1 false (.t 51),some (50,false),[8]⟩,⟨some 53,.fad (.t 8) 5,some (50,false),[8]⟩,⟨some 54,.load 1 false (.t 53),some (50,false),[8]⟩,⟨some 55,.mnmx false (.t 52) (.t 54),some (50,false),[]⟩,⟨some 56,.mv (.t 6),some (50,false),[]⟩,⟨some 57,.bin .leq (.t 55) (.t 56),some (50,false),[]⟩,⟨some 58,.pick (.t 50) (.c (.bool true)) (.t 57),none,[]⟩,⟨some 59,.mv (.t 58),none,[]⟩,⟨some 60,.fad (.t 8) 4,some (59,false),[8]⟩,⟨some 61,.load 1 false (.t 60),some (59,false),[8]⟩,⟨some 62,.fad (.t 8) 5,some (59,false),[8]⟩,⟨some 63,.load 1 false (.t 62),some (59,false),[8]⟩,⟨some 64,.mnmx true (.t 61) (.t 63),some (59,false),[]⟩,⟨some 65,.mv (.t 0),some (59,false),[]⟩,⟨some 66,.len (.t 65),some (59,false),[]⟩,⟨some 67,.bin .geq (.t 64) (.t 66),some (59,false),[]⟩,⟨some 68,.pick (.t 59) (.c (.bool true)) (.t 67),none,[]⟩] [0,1,5,8,23,24,25,68]) (.cond (.t 68) (.seq (.ops [⟨some 4,.mv (.c (.bool false)),none,[]⟩] [4]) .ret) .skip)) (.seq (.ops [⟨some 69,.mv (.t 5),none,[]⟩,⟨some 70,.fad (.t 8) 4,none,[8]⟩,⟨some 71,.load 1 false (.t 70),none,[8]⟩,⟨some 72,.ias (.t 69) (.t 71) 1,none,[5]⟩,⟨some 73,.load 1 false (.t 72),none,[5]⟩,⟨some 74,.bin .add (.t 73) (.c (.int .i64 1)),none,[]⟩,⟨some 75,.ias (.t 69) (.t 71) 1,none,[5]⟩,⟨none,.store (.t 75) 1 (.t 74),none,[5]⟩] [0,1,5,8,23,24,25]) (.ops [⟨some 76,.mv (.t 5),none,[]⟩,⟨some 77,.fad (.t 8) 5,none,[8]⟩,⟨some 78,.load 1 false (.t 77),none,[8]⟩,⟨some 79,.ias (.t 76) (.t 78) 1,none,[5]⟩,⟨some 80,.load 1 false (.t 79),none,[5]⟩,⟨some 81,.bin .add (.t 80) (.c (.int .i64 1)),none,[]⟩,⟨some 82,.ias (.t 76) (.t 78) 1,none,[5]⟩,⟨none,.store (.t 82) 1 (.t 81),none,[5]⟩] [0,1,5,23,24,25])))))))) (.ops [⟨some 83,.bin .add (.t 25) (.c (.int .i64 1)),none,[]⟩,⟨some 25,.mv (.t 83),none,[]⟩] [0,1,5,23,24,25])))
theorem r73_37:type_of% (rr c73_37.eq_1):=rr rfl
def c73_56:ACode:=.seq (.ops [⟨some 88,.bin .lss (.t 87) (.t 86),none,[]⟩] [85,86,87,88]) (.seq (.cond (.t 88) .skip (.exit 2)) (.seq (.block 3 (.seq (.ops [⟨some 89,.ias (.t 85) (.t 87) 1,none,[5]⟩,⟨some 90,.load 1 false (.t 89),none,[5]⟩,⟨some 11,.mv (.t 90),none,[]⟩] [11,85,86,87]) (.seq (.ops [⟨some 91,.mv (.t 11),none,[]⟩,⟨some 92,.bin .neq (.t 91) (.c (.int .i64 1)),none,[]⟩] [85,86,87,92]) (.cond (.t 92) (.seq (.ops [⟨some 4,.mv (.c (.bool false)),none,[]⟩] [4]) .ret) .skip)))) (.ops [⟨some 93,.bin .add (.t 87) (.c (.int .i64 1)),none,[]⟩,⟨some 87,.mv (.t 93),none,[]⟩] [85,86,87])))
theorem r73_56:type_of% (rr c73_56.eq_1):=rr rfl
def c73_67:ACode:=.seq (.ops [⟨some 4,.mv (.c (.bool false)),none,[]⟩] [0,1]) (.seq (.seq (.ops [⟨some 12,.mv (.t 0),none,[]⟩,⟨some 13,.len (.t 12),none,[]⟩,⟨some 14,.bin .lss (.t 13) (.c (.int .i64 1)),none,[]⟩,⟨some 15,.mv (.t 14),none,[]⟩,⟨some 16,.mv (.t 0),some (15,false),[]⟩,⟨some 17,.len (.t 16),some (15,false),[]⟩,⟨some 18,.bin .gtr (.t 17) (.c (.int .i64 31)),some (15,false),[]⟩,⟨some 19,.pick (.t 15) (.c (.bool true)) (.t 18),none,[]⟩] [0,1,19]) (.cond (.t 19) (.seq (.ops [⟨some 4,.mv (.c (.bool false)),none,[]⟩] [4]) .ret) .skip)) (.seq (.ops [⟨some 20,.mv (.t 0),none,[]⟩,⟨some 21,.len (.t 20),none,[]⟩,⟨some 22,.mks 5 (.t 21) 1 [.int .i64 0],none,[]⟩,⟨some 5,.mv (.t 22),none,[]⟩] [0,1,5]) (.seq (.seq (.ops [⟨some 23,.mv (.t 0),none,[]⟩,⟨some 24,.len (.t 23),none,[]⟩,⟨some 25,.mv (.c (.int .i64 0)),none,[]⟩] [0,1,5,23,24,25]) (.block 0 (.loop (.keep [0,1,5,23,24,25] [5] c73_37)))) (.seq (.seq (.ops [⟨some 84,.mv (.t 5),none,[]⟩,⟨some 85,.sl (.t 84) (some (.c (.int .i64 1))) none 1,none,[5]⟩,⟨some 86,.len (.t 85),none,[5]⟩,⟨some 87,.mv (.c (.int .i64 0)),none,[]⟩] [85,86,87]) (.block 2 (.loop (.keep [85,86,87] [5] c73_56)))) (.seq (.ops [⟨some 4,.mv (.c (.bool true)),none,[]⟩] [4]) .ret)))))
theorem r73_67:type_of% (rr c73_67.eq_1):=rr rfl
def a73:AFun:=⟨2,94,c73_67,[.t 4]⟩
attribute [simp] r73_37 r73_56 r73_67
theorem m73:mFun Tryz.prog Tryz.f73 a73=true:=by decide +kernel
noncomputable def TreeRight (l:List Word) (dim:Int):Option Bool:=Part (RT l dim) true
def cnt (l:List Word) (i j:Nat):Int:=((l.take i).countP (fun w=>names (nd w) j):Nat)
def cnts (l:List Word) (i:Nat):List Int:=(List.range l.length).map (cnt l i)
theorem cnts_len (l:List Word) (i:Nat):(cnts l i).length=l.length:=by simp[cnts]
theorem cnts_get (l:List Word) (i j:Nat) (h:j<(cnts l i).length):(cnts l i)[j]=cnt l i j:=by simp[cnts]
theorem cnt_succ {l:List Word} {i:Nat} (h:i<l.length) (j:Nat):cnt l (i+1) j=cnt l i j+(if names (ndAt l i) j then 1 else 0):=by
 unfold cnt
 rw[List.take_succ_eq_append_getElem h,List.countP_append,ndAt_lt h]
 simp only[List.countP_cons,List.countP_nil]
 split<;>simp
theorem cnt_le (l:List Word) (i j:Nat):0≤cnt l i j∧cnt l i j≤l.length:=by
 unfold cnt
 have:=List.countP_le_length (p:=fun w=>names (nd w) j) (l:=l.take i)
 simp at this
 omega
theorem cnts_zero (l:List Word):cnts l 0=List.replicate l.length 0:=by
 apply List.ext_getElem
 ·simp[cnts]
 ·intro j h1 h2
  rw[cnts_get]
  simp[cnt]
theorem cnts_leaf {l:List Word} {i:Nat} (h:i<l.length) (hl:(ndAt l i).leaf=true):cnts l (i+1)=cnts l i:=by
 apply List.ext_getElem
 ·simp[cnts]
 ·intro j h1 h2
  rw[cnts_get,cnts_get,cnt_succ h]
  simp[names,hl]
theorem cnts_inner {l:List Word} {dim:Int} (hr:RT l dim) {i:Nat} (h:i<l.length) (hl:(ndAt l i).leaf=false) :
  cnts l (i+1)=((cnts l i).set (ndAt l i).left.toNat (cnt l i (ndAt l i).left.toNat+1)).set (ndAt l i).right.toNat (cnt l i (ndAt l i).right.toNat+1):=by
 have ha:=hr.at h hl
 apply List.ext_getElem
 ·simp[cnts]
 ·intro j h1 h2
  rw[cnts_get,cnt_succ h,List.getElem_set,List.getElem_set]
  simp only[cnts_get,names,hl,Bool.not_false,Bool.true_and,Bool.or_eq_true,decide_eq_true_eq]
  by_cases e1:(ndAt l i).right.toNat=j
  ·rw[if_pos e1,if_pos (by omega),e1]
  ·rw[if_neg e1]
   by_cases e2:(ndAt l i).left.toNat=j
   ·rw[if_pos e2,if_pos (by omega),e2]
   ·rw[if_neg e2,if_neg (by omega)]
    omega
theorem unpack_at {l:List Word} {dim:Int} (h:RT l dim) {i:Nat} (hi:i<l.length):Unpack ⟨l[i].v⟩=some (ndAt l i,true):=by
 have:=h.ok i hi
 unfold Unpack
 have h1:0≤(⟨l[i].v⟩:Word).v∧(⟨l[i].v⟩:Word).v<18446744073709551616:=this.1
 rw[if_pos h1]
 have e:(⟨l[i].v⟩:Word)=l[i]:=rfl
 rw[e]
 congr 1
 rw[ndAt_lt hi]
 exact Prod.ext rfl this.2
theorem runs_tRight (l:List Word) (dim:Int) (c:Bool) (h:TreeRight l dim=some c):Runs (tbl [(64,sp1 Unpack)]) a73 [Arg.enc l,Arg.enc dim] (Arg.enc c):=by
 obtain⟨hr,rfl⟩:=part_some h
 refine⟨rfl,fun g=>run_def ?_⟩
 unfold a73
 have hp:=hr.pos
 have hle:=hr.le
 have b1:¬ (l.length:Int)<1:=by omega
 have b2:¬ (l.length:Int)>31:=by omega
 have b3:l.length≤maxN:=by unfold maxN;omega
 have b4:(l.length:Int)≤1099511627776:=by omega
 simp -implicitDefEqProofs [b1,b2,b3,b4,rep_ints]
 rw[rep_cells]
 refine run_while (c:=c73_37) (fun m s=>∃(i:Nat) (g:Nat→Nat),i+m=l.length∧s=⟨[(0,.lst l.length (encL l)),(1,.int .i64 dim),(5,.own 5 (g 5) 0 l.length),(23,.lst l.length (encL l)),(24,.int .i64 l.length),(25,.int .i64 i)],[(5,⟨encL (cnts l i),false,1⟩)],g⟩) l.length ⟨0,bump 5 g,by omega,by simp[cnts_zero]⟩ ?_
 rintro m s ⟨i,g,hi,rfl⟩
 by_cases h1:i<l.length
 case pos =>
  have hU:=unpack_at hr h1
  have w1:IntKind.i64.wrap ((i:Int)+1)=(i:Int)+1:=wrap64 (by omega) (by omega)
  cases hl:(ndAt l i).leaf
  case true =>
   simp -implicitDefEqProofs [h1,rd_words,hU,hl,w1]
   exact⟨m-1,by omega,i+1,by omega,by omega,by rw[cnts_leaf h1 hl]⟩
  case false =>
   have ha:=hr.at h1 hl
   have e1:¬ dim≤(ndAt l i).feature:=by omega
   have e2:¬ (ndAt l i).left=(ndAt l i).right:=ha.2.1
   have e3:¬ (if (ndAt l i).right<(ndAt l i).left then (ndAt l i).right else (ndAt l i).left)≤(i:Int):=by split<;>omega
   have e4:¬ (l.length:Int)≤(if (ndAt l i).left<(ndAt l i).right then (ndAt l i).right else (ndAt l i).left):=by split<;>omega
   have e5:¬ (ndAt l i).left.toNat=(ndAt l i).right.toNat:=by omega
   have f1:0≤(ndAt l i).left:=by omega
   have f2:(ndAt l i).left<l.length:=by omega
   have f3:0≤(ndAt l i).right:=by omega
   have f4:(ndAt l i).right<l.length:=by omega
   have f5:(ndAt l i).left.toNat<l.length:=by omega
   have f6:(ndAt l i).right.toNat<l.length:=by omega
   have n1:=cnt_le l i (ndAt l i).left.toNat
   have n2:=cnt_le l i (ndAt l i).right.toNat
   have w2:IntKind.i64.wrap (cnt l i (ndAt l i).left.toNat+1)=cnt l i (ndAt l i).left.toNat+1:=wrap64 (by omega) (by omega)
   have w3:IntKind.i64.wrap (cnt l i (ndAt l i).right.toNat+1)=cnt l i (ndAt l i).right.toNat+1:=wrap64 (by omega) (by omega)
   simp -implicitDefEqProofs [h1,rd_words,hU,hl,w1,b3,e1,e2,e3,e4,e5,f1,f2,f3,f4,f5,f6,cnts_len,cnts_get,rd_ints,wr_ints,encL_length,w2,w3]
   exact⟨fun _=>⟨fun _=>⟨m-1,by omega,i+1,by omega,by omega,by rw[cnts_inner hr h1 hl]⟩,by omega⟩,by omega⟩
 case neg =>
  have hil:i=l.length:=by omega
  subst hil
  have p1:(1:Int)≤l.length:=by omega
  have p2:l.length-1≤maxN:=by omega
  simp -implicitDefEqProofs [p1,p2]
  refine run_while (c:=c73_56) (fun m s=>∃(i:Nat),i+m=l.length-1∧s=⟨[(85,.own 5 (g 5) 1 (l.length-1)),(86,.int .i64 (l.length-1:Nat)),(87,.int .i64 i)],[(5,⟨encL (cnts l l.length),false,1⟩)],g⟩) (l.length-1) ⟨0,by omega,by simp⟩ ?_
  rintro m s ⟨i,hi,rfl⟩
  by_cases h1:(i:Int)<(l.length-1:Nat)
  case pos =>
   have w1:IntKind.i64.wrap ((i:Int)+1)=(i:Int)+1:=wrap64 (by omega) (by omega)
   have q1:1+i<l.length:=by omega
   have hc:cnt l l.length (1+i)=1:=by
    unfold cnt
    rw[List.take_length,hr.once (1+i) (by omega) q1]
    rfl
   simp -implicitDefEqProofs [h1,rd_ints,cnts_len,cnts_get,w1,q1,hc]
   exact⟨m-1,by omega,i+1,by omega,by omega⟩
  case neg =>
   simp -implicitDefEqProofs [h1]
theorem c_tRight:Contract Tryz.prog 73 (sp2 TreeRight) :=
 contract_of_runs mixed (tbl_cons c_Unpack tbl_nil) Tryz.func73 m73 (sp2_runs runs_tRight)
end Go.Co
/- CO: values, sums. -/
set_option maxHeartbeats 16000000
set_option maxRecDepth 100000
namespace Go.Co
open Go.Am Go.Proofs
def c115_31:ACode:=.seq (.ops [⟨some 10,.bin .lss (.t 9) (.c (.int .i64 31)),none,[]⟩] [0,3,5,6,9,10]) (.seq (.cond (.t 10) .skip (.exit 0)) (.seq (.block 1 (.seq (.seq (.ops [⟨some 11,.mv (.t 6),none,[]⟩,⟨some 12,.mv (.t 0),none,[]⟩,⟨some 13,.len (.t 12),none,[]⟩,⟨some 14,.bin .geq (.t 11) (.t 13),none,[]⟩] [0,3,5,6,9,14]) (.cond (.t 14) (.exit 0) .skip)) (.seq (.ops [⟨some 16,.mv (.t 0),none,[]⟩,⟨some 17,.mv (.t 6),none,[]⟩,⟨some 18,.ias (.t 16) (.t 17) 1,none,[]⟩,⟨some 19,.load 1 false (.t 18),none,[]⟩,⟨some 20,.call 64 [.t 19],none,[]⟩,⟨some 15,.mv (.t 20),none,[]⟩,⟨some 21,.ext (.t 15) 0,none,[]⟩,⟨some 22,.ext (.t 15) 1,none,[]⟩,⟨some 7,.alloc [.bool false,.int .i64 0,.int .i64 0,.int .i64 0,.int .i64 0,.int .i64 0],none,[]⟩,⟨none,.store (.t 7) 6 (.t 21),none,[7]⟩,⟨some 8,.mv (.t 22),none,[]⟩] [0,3,5,6,7,8,9]) (.block 2 (.seq (.ops [⟨some 26,.mv (.t 8),none,[]⟩,⟨some 27,.un .not (.t 26),none,[]⟩,⟨some 25,.mv (.t 27),none,[]⟩] [0,3,5,6,7,9,25]) (.cond (.t 25) (.seq (.ops [⟨some 28,.build [.bool false,.int .i64 0,.int .i64 0,.int .i64 0,.int .i64 0,.int .i64 0] [],none,[]⟩,⟨some 4,.mv (.c (.int .i64 (-1))),none,[]⟩,⟨none,.store (.t 5) 6 (.t 28),none,[5]⟩] [4,5]) .ret) (.seq (.ops [⟨some 30,.fad (.t 7) 0,none,[7]⟩,⟨some 31,.load 1 false (.t 30),none,[7]⟩,⟨some 29,.mv (.t 31),none,[]⟩] [0,3,5,6,7,9,29]) (.cond (.t 29) (.seq (.ops [⟨some 32,.mv (.t 6),none,[]⟩,⟨some 33,.load 6 true (.t 7),none,[7]⟩,⟨some 4,.mv (.t 32),none,[]⟩,⟨none,.store (.t 5) 6 (.t 33),none,[5]⟩] [4,5]) .ret) (.seq (.ops [⟨some 35,.fad (.t 7) 2,none,[7]⟩,⟨some 36,.load 1 false (.t 35),none,[7]⟩,⟨some 37,.iad (.t 3) (.t 36) 1 4,none,[3]⟩,⟨some 38,.load 1 false (.t 37),none,[3]⟩,⟨some 39,.fad (.t 7) 3,none,[7]⟩,⟨some 40,.load 1 false (.t 39),none,[7]⟩,⟨some 41,.bin .leq (.t 38) (.t 40),none,[]⟩,⟨some 34,.mv (.t 41),none,[]⟩] [0,3,5,7,9,34]) (.cond (.t 34) (.ops [⟨some 42,.fad (.t 7) 4,none,[7]⟩,⟨some 43,.load 1 false (.t 42),none,[7]⟩,⟨some 6,.mv (.t 43),none,[]⟩] [0,3,5,6,9]) (.ops [⟨some 23,.fad (.t 7) 5,none,[7]⟩,⟨some 24,.load 1 false (.t 23),none,[7]⟩,⟨some 6,.mv (.t 24),none,[]⟩] [0,3,5,6,9]))))))))))) (.ops [⟨some 44,.bin .add (.t 9) (.c (.int .i64 1)),none,[]⟩,⟨some 9,.mv (.t 44),none,[]⟩] [0,3,5,6,9])))
theorem r115_31:type_of% (rr c115_31.eq_1):=rr rfl
def c115_40:ACode:=.seq (.ops [⟨some 3,.box (.t 1) 4,none,[]⟩,⟨some 4,.mv (.c (.int .i64 0)),none,[]⟩,⟨some 5,.alloc [.bool false,.int .i64 0,.int .i64 0,.int .i64 0,.int .i64 0,.int .i64 0],none,[]⟩] [0,3,5]) (.seq (.ops [⟨some 6,.mv (.c (.int .i64 0)),none,[]⟩] [0,3,5,6]) (.seq (.seq (.ops [⟨some 9,.mv (.c (.int .i64 0)),none,[]⟩] [0,3,5,6,9]) (.block 0 (.loop (.keep [0,3,5,6,9] [3,5] c115_31)))) (.seq (.ops [⟨some 45,.build [.bool false,.int .i64 0,.int .i64 0,.int .i64 0,.int .i64 0,.int .i64 0] [],none,[]⟩,⟨some 4,.mv (.c (.int .i64 (-1))),none,[]⟩,⟨none,.store (.t 5) 6 (.t 45),none,[5]⟩] [4,5]) .ret)))
theorem r115_40:type_of% (rr c115_40.eq_1):=rr rfl
def a115:AFun:=⟨2,46,c115_40,[.t 4,.cell 5 6 true]⟩
attribute [simp] r115_31 r115_40
theorem m115:mFun Tryz.prog Tryz.f115 a115=true:=by decide +kernel
def c74_5:ACode:=.seq (.ops [⟨some 3,.box (.t 1) 4,none,[]⟩,⟨some 4,.mv (.c (.int .i64 0)),none,[]⟩] [0,3]) (.seq (.ops [⟨some 8,.mv (.t 0),none,[]⟩,⟨some 9,.load 4 true (.t 3),none,[3]⟩,⟨some 10,.call 115 [.t 8,.t 9],none,[]⟩,⟨some 7,.mv (.t 10),none,[]⟩,⟨some 11,.ext (.t 7) 0,none,[]⟩,⟨some 12,.ext (.t 7) 1,none,[]⟩,⟨some 6,.alloc [.bool false,.int .i64 0,.int .i64 0,.int .i64 0,.int .i64 0,.int .i64 0],none,[]⟩,⟨some 5,.mv (.t 11),none,[]⟩,⟨none,.store (.t 6) 6 (.t 12),none,[6]⟩] [6]) (.seq (.ops [⟨some 13,.fad (.t 6) 1,none,[6]⟩,⟨some 14,.load 1 false (.t 13),none,[6]⟩,⟨some 4,.mv (.t 14),none,[]⟩] [4]) .ret))
theorem r74_5:type_of% (rr c74_5.eq_1):=rr rfl
def a74:AFun:=⟨2,15,c74_5,[.t 4]⟩
attribute [simp] r74_5
theorem m74:mFun Tryz.prog Tryz.f74 a74=true:=by decide +kernel
def c39_15:ACode:=.seq (.ops [⟨some 18,.bin .lss (.t 17) (.t 16),none,[]⟩] [1,5,7,15,16,17,18]) (.seq (.cond (.t 18) .skip (.exit 0)) (.seq (.block 1 (.seq (.ops [⟨some 19,.ias (.t 15) (.t 17) 2,none,[]⟩,⟨some 20,.load 2 true (.t 19),none,[]⟩,⟨some 9,.alloc [.int .i64 0,.nils],none,[]⟩,⟨none,.store (.t 9) 2 (.t 20),none,[9]⟩] [1,5,7,9,15,16,17]) (.seq (.ops [⟨some 21,.fad (.t 9) 0,none,[9]⟩,⟨some 22,.load 1 false (.t 21),none,[9]⟩,⟨some 23,.mv (.t 1),none,[]⟩,⟨some 24,.bin .eql (.t 22) (.t 23),none,[]⟩] [1,5,7,9,15,16,17,24]) (.cond (.t 24) (.ops [⟨some 25,.mv (.t 7),none,[]⟩,⟨some 26,.fad (.t 9) 1,none,[9]⟩,⟨some 27,.load 1 false (.t 26),none,[9]⟩,⟨some 28,.load 4 true (.t 5),none,[5]⟩,⟨some 29,.call 74 [.t 27,.t 28],none,[]⟩,⟨some 30,.bin .add (.t 25) (.t 29),none,[]⟩,⟨some 7,.mv (.t 30),none,[]⟩] [1,5,7,15,16,17]) .skip)))) (.ops [⟨some 31,.bin .add (.t 17) (.c (.int .i64 1)),none,[]⟩,⟨some 17,.mv (.t 31),none,[]⟩] [1,5,7,15,16,17])))
theorem r39_15:type_of% (rr c39_15.eq_1):=rr rfl
def c39_24:ACode:=.seq (.ops [⟨some 3,.box (.t 0) 6,none,[]⟩,⟨some 5,.box (.t 2) 4,none,[]⟩,⟨some 6,.mv (.c (.int .i64 0)),none,[]⟩] [1,3,5]) (.seq (.ops [⟨some 10,.mv (.t 1),none,[]⟩,⟨some 11,.fad (.t 3) 2,none,[3]⟩,⟨some 12,.iad (.t 11) (.t 10) 1 3,none,[3]⟩,⟨some 13,.load 1 false (.t 12),none,[3]⟩,⟨some 7,.mv (.t 13),none,[]⟩] [1,3,5,7]) (.seq (.seq (.ops [⟨some 14,.fad (.t 3) 5,none,[3]⟩,⟨some 15,.load 1 false (.t 14),none,[3]⟩,⟨some 16,.len (.t 15),none,[]⟩,⟨some 17,.mv (.c (.int .i64 0)),none,[]⟩] [1,5,7,15,16,17]) (.block 0 (.loop (.keep [1,5,7,15,16,17] [5] c39_15)))) (.seq (.ops [⟨some 32,.mv (.t 7),none,[]⟩,⟨some 6,.mv (.t 32),none,[]⟩] [6]) .ret)))
theorem r39_24:type_of% (rr c39_24.eq_1):=rr rfl
def a39:AFun:=⟨3,33,c39_24,[.t 6]⟩
attribute [simp] r39_15 r39_24
theorem m39:mFun Tryz.prog Tryz.f39 a39=true:=by decide +kernel
def c18_9:ACode:=.seq (.ops [⟨some 3,.box (.t 0) 6,none,[]⟩,⟨some 5,.box (.t 2) 4,none,[]⟩,⟨some 6,.mv (.c (.int .i64 0)),none,[]⟩] [1,3,5]) (.seq (.seq (.ops [⟨some 7,.load 6 true (.t 3),none,[3]⟩,⟨some 8,.call 38 [.t 7],none,[]⟩,⟨some 9,.un .not (.t 8),none,[]⟩,⟨some 10,.mv (.t 9),none,[]⟩,⟨some 11,.mv (.t 1),some (10,false),[]⟩,⟨some 12,.bin .lss (.t 11) (.c (.int .i64 0)),some (10,false),[]⟩,⟨some 13,.pick (.t 10) (.c (.bool true)) (.t 12),none,[]⟩,⟨some 14,.mv (.t 13),none,[]⟩,⟨some 15,.mv (.t 1),some (14,false),[]⟩,⟨some 16,.fad (.t 3) 1,some (14,false),[3]⟩,⟨some 17,.load 1 false (.t 16),some (14,false),[3]⟩,⟨some 18,.bin .geq (.t 15) (.t 17),some (14,false),[]⟩,⟨some 19,.pick (.t 14) (.c (.bool true)) (.t 18),none,[]⟩] [1,3,5,19]) (.cond (.t 19) (.seq (.ops [⟨some 6,.mv (.c (.int .i64 0)),none,[]⟩] [6]) .ret) .skip)) (.seq (.ops [⟨some 20,.load 6 true (.t 3),none,[3]⟩,⟨some 21,.mv (.t 1),none,[]⟩,⟨some 22,.load 4 true (.t 5),none,[5]⟩,⟨some 23,.call 39 [.t 20,.t 21,.t 22],none,[]⟩,⟨some 6,.mv (.t 23),none,[]⟩] [6]) .ret))
theorem r18_9:type_of% (rr c18_9.eq_1):=rr rfl
def a18:AFun:=⟨3,24,c18_9,[.t 6]⟩
attribute [simp] r18_9
theorem m18:mFun Tryz.prog Tryz.f18 a18=true:=by decide +kernel
def c72_3:ACode:=.seq (.ops [⟨some 2,.box (.t 0) 2,none,[]⟩,⟨some 3,.mv (.c (.bool false)),none,[]⟩] [1,2]) (.seq (.ops [⟨some 4,.fad (.t 2) 0,none,[2]⟩,⟨some 5,.load 1 false (.t 4),none,[2]⟩,⟨some 6,.bin .lss (.t 5) (.c (.int .i64 0)),none,[]⟩,⟨some 7,.mv (.t 6),none,[]⟩,⟨some 8,.fad (.t 2) 0,some (7,false),[2]⟩,⟨some 9,.load 1 false (.t 8),some (7,false),[2]⟩,⟨some 10,.fad (.t 1) 1,some (7,false),[]⟩,⟨some 11,.load 1 false (.t 10),some (7,false),[]⟩,⟨some 12,.bin .geq (.t 9) (.t 11),some (7,false),[]⟩,⟨some 13,.pick (.t 7) (.c (.bool true)) (.t 12),none,[]⟩,⟨some 14,.mv (.t 13),none,[]⟩,⟨some 15,.fad (.t 2) 1,some (14,false),[2]⟩,⟨some 16,.load 1 false (.t 15),some (14,false),[2]⟩,⟨some 17,.fad (.t 1) 0,some (14,false),[]⟩,⟨some 18,.load 1 false (.t 17),some (14,false),[]⟩,⟨some 19,.call 73 [.t 16,.t 18],some (14,false),[]⟩,⟨some 20,.un .not (.t 19),some (14,false),[]⟩,⟨some 21,.pick (.t 14) (.c (.bool true)) (.t 20),none,[]⟩,⟨some 3,.mv (.t 21),none,[]⟩] [3]) .ret)
theorem r72_3:type_of% (rr c72_3.eq_1):=rr rfl
def a72:AFun:=⟨2,22,c72_3,[.t 3]⟩
attribute [simp] r72_3
theorem m72:mFun Tryz.prog Tryz.f72 a72=true:=by decide +kernel
def c114_15:ACode:=.seq (.ops [⟨some 9,.bin .lss (.t 8) (.t 7),none,[]⟩] [0,1,7,8,9]) (.seq (.cond (.t 9) .skip (.exit 0)) (.seq (.block 1 (.seq (.ops [⟨some 10,.mv (.t 8),none,[]⟩,⟨some 5,.mv (.t 10),none,[]⟩] [0,1,5,7,8]) (.seq (.ops [⟨some 11,.mv (.t 1),none,[]⟩,⟨some 12,.mv (.t 0),none,[]⟩,⟨some 13,.mv (.t 5),none,[]⟩,⟨some 14,.ias (.t 12) (.t 13) 2,none,[]⟩,⟨some 15,.load 2 true (.t 14),none,[]⟩,⟨some 16,.dyn (.t 11) [.t 15],none,[]⟩] [0,1,5,7,8,16]) (.cond (.t 16) (.seq (.ops [⟨some 17,.mv (.t 5),none,[]⟩,⟨some 4,.mv (.t 17),none,[]⟩] [4]) .ret) .skip)))) (.ops [⟨some 18,.bin .add (.t 8) (.c (.int .i64 1)),none,[]⟩,⟨some 8,.mv (.t 18),none,[]⟩] [0,1,7,8])))
theorem r114_15:type_of% (rr c114_15.eq_1):=rr rfl
def c114_23:ACode:=.seq (.ops [⟨some 4,.mv (.c (.int .i64 0)),none,[]⟩] [0,1]) (.seq (.seq (.ops [⟨some 6,.mv (.t 0),none,[]⟩,⟨some 7,.len (.t 6),none,[]⟩,⟨some 8,.mv (.c (.int .i64 0)),none,[]⟩] [0,1,7,8]) (.block 0 (.loop (.keep [0,1,7,8] [] c114_15)))) (.seq (.ops [⟨some 4,.mv (.c (.int .i64 (-1))),none,[]⟩] [4]) .ret))
theorem r114_23:type_of% (rr c114_23.eq_1):=rr rfl
def a114:AFun:=⟨2,19,c114_23,[.t 4]⟩
attribute [simp] r114_15 r114_23
theorem m114:mFun Tryz.prog Tryz.f114 a114=true:=by decide +kernel
def c71_3:ACode:=.seq (.ops [⟨some 4,.mv (.c (.bool false)),none,[]⟩] [0,1]) (.seq (.ops [⟨some 5,.mv (.t 0),none,[]⟩,⟨some 6,.mv (.t 1),none,[]⟩,⟨some 7,.call 114 [.t 5,.t 6],none,[]⟩,⟨some 8,.bin .geq (.t 7) (.c (.int .i64 0)),none,[]⟩,⟨some 4,.mv (.t 8),none,[]⟩] [4]) .ret)
theorem r71_3:type_of% (rr c71_3.eq_1):=rr rfl
def a71:AFun:=⟨2,9,c71_3,[.t 4]⟩
attribute [simp] r71_3
theorem m71:mFun Tryz.prog Tryz.f71 a71=true:=by decide +kernel
def c38_29:ACode:=.seq (.ops [⟨some 1,.box (.t 0) 6,none,[]⟩,⟨some 2,.mv (.c (.bool false)),none,[]⟩] [1]) (.seq (.seq (.ops [⟨some 5,.fad (.t 1) 0,none,[1]⟩,⟨some 6,.load 1 false (.t 5),none,[1]⟩,⟨some 7,.bin .lss (.t 6) (.c (.int .i64 1)),none,[]⟩,⟨some 8,.mv (.t 7),none,[]⟩,⟨some 9,.fad (.t 1) 0,some (8,false),[1]⟩,⟨some 10,.load 1 false (.t 9),some (8,false),[1]⟩,⟨some 11,.bin .gtr (.t 10) (.c (.int .i64 4)),some (8,false),[]⟩,⟨some 12,.pick (.t 8) (.c (.bool true)) (.t 11),none,[]⟩,⟨some 13,.mv (.t 12),none,[]⟩,⟨some 14,.fad (.t 1) 1,some (13,false),[1]⟩,⟨some 15,.load 1 false (.t 14),some (13,false),[1]⟩,⟨some 16,.bin .lss (.t 15) (.c (.int .i64 1)),some (13,false),[]⟩,⟨some 17,.pick (.t 13) (.c (.bool true)) (.t 16),none,[]⟩,⟨some 18,.mv (.t 17),none,[]⟩,⟨some 19,.fad (.t 1) 1,some (18,false),[1]⟩,⟨some 20,.load 1 false (.t 19),some (18,false),[1]⟩,⟨some 21,.bin .gtr (.t 20) (.c (.int .i64 3)),some (18,false),[]⟩,⟨some 22,.pick (.t 18) (.c (.bool true)) (.t 21),none,[]⟩,⟨some 23,.mv (.t 22),none,[]⟩,⟨some 24,.fad (.t 1) 5,some (23,false),[1]⟩,⟨some 25,.load 1 false (.t 24),some (23,false),[1]⟩,⟨some 26,.len (.t 25),some (23,false),[]⟩,⟨some 27,.bin .gtr (.t 26) (.c (.int .i64 8)),some (23,false),[]⟩,⟨some 28,.pick (.t 23) (.c (.bool true)) (.t 27),none,[]⟩] [1,28]) (.cond (.t 28) (.seq (.ops [⟨some 2,.mv (.c (.bool false)),none,[]⟩] [2]) .ret) .skip)) (.seq (.seq (.ops [⟨some 29,.fad (.t 1) 2,none,[1]⟩,⟨some 30,.load 3 true (.t 29),none,[1]⟩,⟨some 31,.mv (.c (.int .i64 0)),none,[]⟩] [1,30,31]) (.block 0 (.loop (.keep [1,30,31] [1] (.seq (.ops [⟨some 32,.bin .lss (.t 31) (.c (.int .i64 3)),none,[]⟩] [1,30,31,32]) (.seq (.cond (.t 32) .skip (.exit 0)) (.seq (.block 1 (.seq (.ops [⟨some 33,.mv (.t 31),none,[]⟩,⟨some 34,.idx (.t 30) (.t 31) 1 3 false,none,[]⟩,⟨some 3,.mv (.t 33),none,[]⟩,⟨some 4,.mv (.t 34),none,[]⟩] [1,3,4,30,31]) (.seq (.ops [⟨some 35,.mv (.t 4),none,[]⟩,⟨some 36,.call 70 [.t 35,.c (.int .i64 32)],none,[]⟩,⟨some 37,.un .not (.t 36),none,[]⟩,⟨some 38,.mv (.t 37),none,[]⟩,⟨some 39,.mv (.t 3),some (38,false),[]⟩,⟨some 40,.fad (.t 1) 1,some (38,false),[1]⟩,⟨some 41,.load 1 false (.t 40),some (38,false),[1]⟩,⟨some 42,.bin .geq (.t 39) (.t 41),some (38,false),[]⟩,⟨some 43,.mv (.t 42),some (38,false),[]⟩,⟨some 44,.mv (.t 4),some (43,true),[]⟩,⟨some 45,.bin .neq (.t 44) (.c (.int .i64 0)),some (43,true),[]⟩,⟨some 46,.pick (.t 43) (.t 45) (.c (.bool false)),some (38,false),[]⟩,⟨some 47,.pick (.t 38) (.c (.bool true)) (.t 46),none,[]⟩] [1,30,31,47]) (.cond (.t 47) (.seq (.ops [⟨some 2,.mv (.c (.bool false)),none,[]⟩] [2]) .ret) .skip)))) (.ops [⟨some 48,.bin .add (.t 31) (.c (.int .i64 1)),none,[]⟩,⟨some 31,.mv (.t 48),none,[]⟩] [1,30,31])))))))) (.seq (.ops [⟨some 49,.fad (.t 1) 5,none,[1]⟩,⟨some 50,.load 1 false (.t 49),none,[1]⟩,⟨some 51,.clo 72 [.t 1],none,[1]⟩,⟨some 52,.call 71 [.t 50,.t 51],none,[]⟩,⟨some 53,.un .not (.t 52),none,[]⟩,⟨some 2,.mv (.t 53),none,[]⟩] [2]) .ret)))
theorem r38_29:type_of% (rr c38_29.eq_1):=rr rfl
def a38:AFun:=⟨1,54,c38_29,[.t 2]⟩
attribute [simp] r38_29
theorem m38:mFun Tryz.prog Tryz.f38 a38=true:=by decide +kernel
@[simp high] theorem rd_point (p:Point) (f:Int) (h0:0≤f) (h:f<4):rd [.int .i64 p.p0,.int .i64 p.p1,.int .i64 p.p2,.int .i64 p.p3] f.toNat 1 false=some (.int .i64 (p.get f)):=by
 have hf:f=0∨f=1∨f=2∨f=3:=by omega
 rcases hf with rfl|rfl|rfl|rfl<;>rfl
@[simp high] theorem rd_bias (a b:Int) (x:Bias) (y:AV) (c:Int) (h0:0≤c) (h:c<3):rd [.int .i64 a,.int .i64 b,.int .i64 x.b0,.int .i64 x.b1,.int .i64 x.b2,y] (2+c.toNat) 1 false=some (.int .i64 (x.get c)):=by
 have hc:c=0∨c=1∨c=2:=by omega
 rcases hc with rfl|rfl|rfl<;>rfl
theorem rd_tree (l:List Tree) (i:Nat) (h:i<l.length):rd (encL l) (i*2) 2 true=some (.agg [.int .i64 l[i].cls,.lst l[i].nodes.length (encL l[i].nodes)]):=rd_row l i h
noncomputable def End (l:List Word) (p:Point):Option (Int×Node):=Part (∃ d,RT l d) ((leafOf l p:Int),ndAt l (leafOf l p))
noncomputable def ValueC (l:List Word) (p:Point):Option Int:=Part (∃ d,RT l d) (valueAt l p)
theorem runs_end (l:List Word) (p:Point) (c:Int×Node) (h:End l p=some c):Runs (tbl [(64,sp1 Unpack)]) a115 [Arg.enc l,Arg.enc p] (Arg.enc c):=by
 obtain⟨⟨d,hr⟩,rfl⟩:=part_some h
 refine⟨rfl,fun g=>run_def ?_⟩
 unfold a115
 have hp:=hr.pos
 have hle:=hr.le
 have b3:l.length≤maxN:=by unfold maxN;omega
 simp -implicitDefEqProofs [b3]
 refine run_while (c:=c115_31) (fun m s=>∃(i j:Nat) (g:Nat→Nat),i<l.length∧l.length≤m+i∧j+m=31∧walk l p m i=leafOf l p∧s=⟨[(0,.lst l.length (encL l)),(3,.ptr 3 (g 3) 0),(5,.ptr 5 (g 5) 0),(6,.int .i64 i),(9,.int .i64 j)],
  [(3,⟨[.int .i64 p.p0,.int .i64 p.p1,.int .i64 p.p2,.int .i64 p.p3],false,0⟩),(5,⟨[.bool false,.int .i64 0,.int .i64 0,.int .i64 0,.int .i64 0,.int .i64 0],false,0⟩)],g⟩) 31 ⟨0,0,bump 5 (bump 3 g),by omega,by omega,by omega,rfl,by simp⟩ ?_
 rintro m s ⟨i,j,g,h1,h2,h3,h4,rfl⟩
 have hU:=unpack_at hr h1
 have e1:(j:Int)<31:=by omega
 have e2:¬ (l.length:Int)≤i:=by omega
 have w1:IntKind.i64.wrap ((j:Int)+1)=(j:Int)+1:=wrap64 (by omega) (by omega)
 obtain⟨m,rfl⟩:∃ n,m=n+1:=⟨m-1,by omega⟩
 rw[walk] at h4
 cases hl:(ndAt l i).leaf
 case true =>
  rw[hl] at h4
  simp only[if_true] at h4
  simp -implicitDefEqProofs [h1,e1,e2,b3,rd_words,hU,hl,w1]
  rw[← h4,hl]
  simp
 case false =>
  rw[hl] at h4
  simp only[Bool.false_eq_true,if_false] at h4
  have ha:=hr.at h1 hl
  have hn:=nxt_lt hr h1 hl p
  have hf:=hr.feature h1 hl
  have f1:=hf.1
  have f2:=hf.2
  by_cases hc:p.get (ndAt l i).feature≤(ndAt l i).cut
  case pos =>
   simp -implicitDefEqProofs [h1,e1,e2,b3,rd_words,hU,hl,w1,f1,f2,hc]
   have he:(nxt (ndAt l i) p:Int)=(ndAt l i).left:=by unfold nxt;rw[if_pos hc];omega
   exact⟨m,by omega,_,hn.2,by omega,j+1,by omega,h4,he.symm,by omega⟩
  case neg =>
   simp -implicitDefEqProofs [h1,e1,e2,b3,rd_words,hU,hl,w1,f1,f2,hc]
   have he:(nxt (ndAt l i) p:Int)=(ndAt l i).right:=by unfold nxt;rw[if_neg hc];omega
   exact⟨m,by omega,_,hn.2,by omega,j+1,by omega,h4,he.symm,by omega⟩
theorem c_end:Contract Tryz.prog 115 (sp2 End) :=
 contract_of_runs mixed (tbl_cons c_Unpack tbl_nil) Tryz.func115 m115 (sp2_runs runs_end)
theorem runs_Value (l:List Word) (p:Point) (c:Int) (h:ValueC l p=some c):Runs (tbl [(115,sp2 End)]) a74 [Arg.enc l,Arg.enc p] (Arg.enc c):=by
 obtain⟨hr,rfl⟩:=part_some h
 refine⟨rfl,fun g=>run_def ?_⟩
 unfold a74
 simp -implicitDefEqProofs [End,part_of hr,valueAt]
theorem c_Value:Contract Tryz.prog 74 (sp2 ValueC) :=
 contract_of_runs mixed (tbl_cons c_end tbl_nil) Tryz.func74 m74 (sp2_runs runs_Value)
noncomputable def EvalC (m:Model) (c:Int) (p:Point):Option Int:=Part (RM m∧0≤c∧c<3) (evalM m c p)
theorem runs_eval (m:Model) (c:Int) (p:Point) (r:Int) (h:EvalC m c p=some r):Runs (tbl [(74,sp2 ValueC)]) a39 [Arg.enc m,Arg.enc c,Arg.enc p] (Arg.enc r):=by
 obtain⟨⟨hr,h0,h3⟩,rfl⟩:=part_some h
 refine⟨rfl,fun g=>run_def ?_⟩
 unfold a39
 have hle:=hr.trees
 have b3:m.trees.length≤maxN:=by unfold maxN;omega
 simp -implicitDefEqProofs [b3,h0,h3]
 refine run_while (c:=c39_15) (fun n s=>∃(i:Nat) (g:Nat→Nat),i+n=m.trees.length∧s=⟨[(1,.int .i64 c),(5,.ptr 5 (g 5) 0),(7,.int .i64 ((m.trees.take i).foldl (evalF c p) (m.bias.get c))),(15,.lst m.trees.length (encL m.trees)),(16,.int .i64 m.trees.length),(17,.int .i64 i)],
  [(5,⟨[.int .i64 p.p0,.int .i64 p.p1,.int .i64 p.p2,.int .i64 p.p3],false,0⟩)],g⟩) m.trees.length ⟨0,bump 5 (bump 3 g),by omega,by simp⟩ ?_
 rintro n s ⟨i,g,hi,rfl⟩
 by_cases h1:i<m.trees.length
 case pos =>
  have w1:IntKind.i64.wrap ((i:Int)+1)=(i:Int)+1:=wrap64 (by omega) (by omega)
  have hrow:=rd_tree m.trees i h1
  have hrt:=hr.rt (List.getElem_mem h1)
  have hV:ValueC m.trees[i].nodes p=some (valueAt m.trees[i].nodes p):=part_of ⟨_,hrt⟩ _
  have hb:=evalF_le (c:=c) (p:=p) (m.trees.take (i+1)) (m.bias.get c) (fun t ht=>⟨_,hr.rt (List.mem_of_mem_take ht)⟩)
  have hb2:=of_fits (Bias.get_fits hr c)
  have hs:(m.trees.take (i+1)).foldl (evalF c p) (m.bias.get c)=evalF c p ((m.trees.take i).foldl (evalF c p) (m.bias.get c)) m.trees[i]:=by
   rw[List.take_succ_eq_append_getElem h1,List.foldl_append]
   rfl
  have hl:(m.trees.take (i+1)).length≤8:=by simp;omega
  rw[hs] at hb
  rw[← hs] at hb
  by_cases hc:m.trees[i].cls=c
  case pos =>
   have hs2:(m.trees.take (i+1)).foldl (evalF c p) (m.bias.get c)=(m.trees.take i).foldl (evalF c p) (m.bias.get c)+valueAt m.trees[i].nodes p:=by rw[hs,evalF,if_pos hc]
   have w2:IntKind.i64.wrap ((m.trees.take i).foldl (evalF c p) (m.bias.get c)+valueAt m.trees[i].nodes p)=(m.trees.take (i+1)).foldl (evalF c p) (m.bias.get c):=by rw[← hs2];exact wrap64 (by omega) (by omega)
   simp -implicitDefEqProofs [h1,hrow,hc,hV,w1,w2]
   exact⟨n-1,by omega,i+1,by omega,rfl,by omega⟩
  case neg =>
   have hs2:(m.trees.take (i+1)).foldl (evalF c p) (m.bias.get c)=(m.trees.take i).foldl (evalF c p) (m.bias.get c):=by rw[hs,evalF,if_neg hc]
   simp -implicitDefEqProofs [h1,hrow,hc,hV,w1]
   exact⟨n-1,by omega,i+1,by omega,hs2.symm,by omega⟩
 case neg =>
  have hil:i=m.trees.length:=by omega
  subst hil
  simp -implicitDefEqProofs [h1,evalM]
theorem c_eval:Contract Tryz.prog 39 (sp3 EvalC) :=
 contract_of_runs mixed (tbl_cons c_Value tbl_nil) Tryz.func39 m39 (sp3_runs runs_eval)
def okTree (m:Model) (t:Tree):Prop:=0≤t.cls∧t.cls<m.classes∧RT t.nodes m.dim
@[simp] theorem dec_ref_model (m:Model):(Arg.dec (.ipt 0 [.int .i64 m.dim,.int .i64 m.classes,.int .i64 m.bias.b0,.int .i64 m.bias.b1,.int .i64 m.bias.b2,.lst m.trees.length (encL m.trees)]):Option (Ref Model))=some ⟨m⟩:=Arg.dec_enc (⟨m⟩:Ref Model)
noncomputable def Right1 (t:Tree) (m:Ref Model):Option Bool:=Part (okTree m.v t) false
theorem runs_Right1 (t:Tree) (m:Ref Model) (c:Bool) (h:Right1 t m=some c):Runs (tbl [(73,sp2 TreeRight)]) a72 [Arg.enc t,Arg.enc m] (Arg.enc c):=by
 obtain⟨⟨h0,h1,hr⟩,rfl⟩:=part_some h
 obtain⟨m⟩:=m
 simp only at h0 h1 hr
 refine⟨rfl,fun g=>run_def ?_⟩
 unfold a72
 have e0:¬ t.cls<0:=by omega
 have e1:¬ m.classes≤t.cls:=by omega
 have hT:TreeRight t.nodes m.dim=some true:=part_of hr _
 simp -implicitDefEqProofs [e0,e1,hT]
theorem c_Right1:Contract Tryz.prog 72 (sp2 Right1) :=
 contract_of_runs mixed (tbl_cons c_tRight tbl_nil) Tryz.func72 m72 (sp2_runs runs_Right1)
structure CloR where
 m:Model
instance:Arg CloR where
 enc r:=.clo 72 [.ipt 0 (Row.enc r.m)]
 dec x:=match x with
  | .clo f [.ipt 0 xs]=>if f=72 then (Row.dec xs).map CloR.mk else none
  | _=>none
 dec_enc r:=by simp only[if_true,Row.dec_enc];rfl
 enc_dec x r h:=by
  split at h
  ·split at h
   ·rename_i he
    rw[Option.map_eq_some_iff] at h
    obtain⟨a,ha,rfl⟩:=h
    rw[Row.enc_dec _ _ ha,he]
   ·cases h
  ·cases h
@[simp] theorem enc_clor (r:CloR):Arg.enc r=.clo 72 [.ipt 0 (Row.enc r.m)]:=rfl
@[simp] theorem dec_clor (m:Model):(Arg.dec (.clo 72 [.ipt 0 [.int .i64 m.dim,.int .i64 m.classes,.int .i64 m.bias.b0,.int .i64 m.bias.b1,.int .i64 m.bias.b2,.lst m.trees.length (encL m.trees)]]):Option CloR)=some ⟨m⟩:=Arg.dec_enc (⟨m⟩:CloR)
noncomputable def IndexTrees (l:List Tree) (r:CloR):Option Int:=Part (l.length≤8∧∀ t∈l,okTree r.m t) (-1)
theorem runs_IndexTrees (l:List Tree) (r:CloR) (c:Int) (h:IndexTrees l r=some c):Runs (tbl [(72,sp2 Right1)]) a114 [Arg.enc l,Arg.enc r] (Arg.enc c):=by
 obtain⟨⟨hle,hr⟩,rfl⟩:=part_some h
 obtain⟨m⟩:=r
 simp only at hr
 refine⟨rfl,fun g=>run_def ?_⟩
 unfold a114
 have b3:l.length≤maxN:=by unfold maxN;omega
 simp -implicitDefEqProofs [b3]
 refine run_while (c:=c114_15) (fun n s=>∃(i:Nat),i+n=l.length∧s=⟨[(0,.lst l.length (encL l)),(1,Arg.enc (⟨m⟩:CloR)),(7,.int .i64 l.length),(8,.int .i64 i)],[],g⟩) l.length ⟨0,by omega,by simp⟩ ?_
 rintro n s ⟨i,hi,rfl⟩
 by_cases h1:i<l.length
 case pos =>
  have w1:IntKind.i64.wrap ((i:Int)+1)=(i:Int)+1:=wrap64 (by omega) (by omega)
  have hrow:=rd_tree l i h1
  have hR:Right1 ⟨l[i].cls,l[i].nodes⟩ ⟨m⟩=some false:=part_of (hr _ (List.getElem_mem h1)) _
  simp -implicitDefEqProofs [h1,hrow,hR,w1]
  exact⟨n-1,by omega,i+1,by omega,by omega⟩
 case neg =>
  simp -implicitDefEqProofs [h1]
theorem c_IndexTrees:Contract Tryz.prog 114 (sp2 IndexTrees) :=
 contract_of_runs mixed (tbl_cons c_Right1 tbl_nil) Tryz.func114 m114 (sp2_runs runs_IndexTrees)
noncomputable def ContainsTrees (l:List Tree) (r:CloR):Option Bool:=Part (l.length≤8∧∀ t∈l,okTree r.m t) false
theorem runs_ContainsTrees (l:List Tree) (r:CloR) (c:Bool) (h:ContainsTrees l r=some c):Runs (tbl [(114,sp2 IndexTrees)]) a71 [Arg.enc l,Arg.enc r] (Arg.enc c):=by
 obtain⟨hr,rfl⟩:=part_some h
 obtain⟨m⟩:=r
 refine⟨rfl,fun g=>run_def ?_⟩
 unfold a71
 have hI:IndexTrees l ⟨m⟩=some (-1):=part_of hr _
 simp -implicitDefEqProofs [hI]
theorem c_ContainsTrees:Contract Tryz.prog 71 (sp2 ContainsTrees) :=
 contract_of_runs mixed (tbl_cons c_IndexTrees tbl_nil) Tryz.func71 m71 (sp2_runs runs_ContainsTrees)
noncomputable def MRight (m:Model):Option Bool:=if m.dim<1 then some false else Part (RM m) true
theorem runs_mRight (m:Model) (c:Bool) (h:MRight m=some c):Runs (tbl [(70,sp2 Fits),(71,sp2 ContainsTrees)]) a38 [Arg.enc m] (Arg.enc c):=by
 unfold MRight at h
 split at h
 ·rename_i hd
  cases h
  refine⟨rfl,fun g=>run_def ?_⟩
  unfold a38
  simp -implicitDefEqProofs [hd]
 ·obtain⟨hr,rfl⟩:=part_some h
  refine⟨rfl,fun g=>run_def ?_⟩
  unfold a38
  have b3:m.trees.length≤maxN:=by have:=hr.trees;unfold maxN;omega
  have e0:¬ m.dim<1:=by have:=hr.dim;omega
  have e1:¬ 4<m.dim:=by have:=hr.dim;omega
  have e2:¬ m.classes<1:=by have:=hr.classes;omega
  have e3:¬ 3<m.classes:=by have:=hr.classes;omega
  have e4:¬ (8:Int)<m.trees.length:=by have:=hr.trees;omega
  have e5:¬ m.classes≤0:=by omega
  have hb:=hr.bias
  have f0:=hb.1
  have f1:=hb.2.1
  have f2:=hb.2.2
  have hC:ContainsTrees m.trees ⟨m⟩=some false:=part_of ⟨hr.trees,hr.tree⟩ _
  have n1:=hr.none1
  have n2:=hr.none2
  have fz:fits 0=true:=rfl
  by_cases k1:m.classes≤1<;>by_cases k2:m.classes≤2
  ·have z1:decide (m.bias.b1=0)=true:=by simp[n1 k1]
   have z2:decide (m.bias.b2=0)=true:=by simp[n2 k2]
   simp -implicitDefEqProofs [run_round,b3,e0,e1,e2,e3,e4,e5,Fits,fz,f0,f1,f2,k1,k2,z1,z2,hC]
  ·omega
  ·have z2:decide (m.bias.b2=0)=true:=by simp[n2 k2]
   simp -implicitDefEqProofs [run_round,b3,e0,e1,e2,e3,e4,e5,Fits,fz,f0,f1,f2,k1,k2,z2,hC]
  ·simp -implicitDefEqProofs [run_round,b3,e0,e1,e2,e3,e4,e5,Fits,fz,f0,f1,f2,k1,k2,hC]
theorem c_mRight:Contract Tryz.prog 38 (sp1 MRight) :=
 contract_of_runs mixed (tbl_cons c_Fits (tbl_cons c_ContainsTrees tbl_nil)) Tryz.func38 m38 (sp1_runs runs_mRight)
def evalX (m:Model) (c:Int) (p:Point):Int:=if 0≤c∧c<m.classes then evalM m c p else 0
noncomputable def Eval (m:Model) (c:Int) (p:Point):Option Int:=Part (RM m) (evalX m c p)
theorem runs_Eval (m:Model) (c:Int) (p:Point) (r:Int) (h:Eval m c p=some r):Runs (tbl [(38,sp1 MRight),(39,sp3 EvalC)]) a18 [Arg.enc m,Arg.enc c,Arg.enc p] (Arg.enc r):=by
 obtain⟨hr,rfl⟩:=part_some h
 refine⟨rfl,fun g=>run_def ?_⟩
 unfold a18
 have hM:MRight m=some true:=by unfold MRight;rw[if_neg (by have:=hr.dim;omega)];exact part_of hr _
 by_cases h0:c<0
 ·have:¬ 0≤c:=by omega
  simp -implicitDefEqProofs [hM,h0,evalX,this]
 ·by_cases h1:m.classes≤c
  ·have:¬ c<m.classes:=by omega
   simp -implicitDefEqProofs [hM,h0,h1,evalX,this]
  ·have e1:c<m.classes:=by omega
   have e0:0≤c:=by omega
   have hE:EvalC m c p=some (evalM m c p):=part_of ⟨hr,e0,by have:=hr.classes;omega⟩ _
   simp -implicitDefEqProofs [hM,h0,h1,evalX,e0,e1,hE]
theorem c_Eval:Contract Tryz.prog 18 (sp3 Eval) :=
 contract_of_runs mixed (tbl_cons c_mRight (tbl_cons c_eval tbl_nil)) Tryz.func18 m18 (sp3_runs runs_Eval)
theorem eval_of {m:Model} (h:RM m) {c:Int} (h0:0≤c) (h1:c<m.classes) (p:Point):Eval m c p=some (evalM m c p):=by
 unfold Eval
 rw[part_of h,evalX,if_pos ⟨h0,h1⟩]
end Go.Co
