/- CO: texts of this claim, one behind the other. -/
import Derived.Test.YtlbfmeijjgphfaaGreatDoorCz7
import Derived.Test.YtlbfmeijjgphfaaGreatDoorCz4
import Derived.Test.YtlbfmeijjgphfaaGreatDoorCz5
import Derived.Test.YtlbfmeijjgphfaaGreatDoorCz1
import Derived.Test.YtlbfmeijjgphfaaGreatDoorAm4
import Derived.Test.YtlbfmeijjgphfaaGreatDoorCz3
set_option linter.unusedVariables false
set_option linter.unusedSimpArgs false
/- CO: a pruned tree's nodes stand in the order in which they are gone through. -/
namespace Go.Co
open Go.Am Go.Proofs
inductive PT
 | leaf (n:Node)
 | node (f c:Int) (l r:PT)
def PT.size:PT→Nat
 | .leaf _=>1
 | .node _ _ l r=>1+l.size+r.size
def PT.ser:PT→Nat→List Node
 | .leaf n,_=>[n]
 | .node f c l r,o=>⟨false,0,f,c,((o+1:Nat):Int),((o+1+l.size:Nat):Int)⟩::(l.ser (o+1)++r.ser (o+1+l.size))
def PT.ok (dim:Int):PT→Prop
 | .leaf n=>n.leaf=true∧rightNode n=true
 | .node f c l r=>0≤f∧f<dim∧f<4∧fits c=true∧l.ok dim∧r.ok dim
theorem PT.pos:∀ p:PT,1≤p.size
 | .leaf _=>by simp[PT.size]
 | .node _ _ l r=>by simp only[PT.size];omega
theorem ser_len:∀(p:PT) (o:Nat),(p.ser o).length=p.size
 | .leaf _,_=>rfl
 | .node _ _ l r,o=>by
  simp only[PT.ser,PT.size,List.length_cons,List.length_append,ser_len l,ser_len r]
  omega
theorem ser_right {dim:Int}:∀(p:PT) (o:Nat),p.ok dim→o+p.size≤31→∀ n∈p.ser o,rightNode n=true
 | .leaf n,o,h,_,x,hx=>by
  simp only[PT.ser,List.mem_singleton] at hx
  subst hx
  exact h.2
 | .node f c l r,o,h,hs,x,hx=>by
  obtain⟨h1,h2,h3,h4,h5,h6⟩:=h
  have pl:=l.pos
  have pr:=r.pos
  simp only[PT.size] at hs
  simp only[PT.ser,List.mem_cons,List.mem_append] at hx
  rcases hx with rfl|hx|hx
  ·unfold rightNode
   simp only[Bool.false_eq_true,if_false,Bool.and_eq_true,decide_eq_true_eq]
   refine⟨⟨⟨⟨⟨⟨⟨trivial,h1⟩,h3⟩,h4⟩, ?_⟩, ?_⟩, ?_⟩, ?_⟩<;>omega
  ·exact ser_right l (o+1) h5 (by omega) x hx
  ·exact ser_right r (o+1+l.size) h6 (by omega) x hx
theorem ser_inner {dim:Int}:∀(p:PT) (o:Nat),p.ok dim→∀(i:Nat) (hi:i<(p.ser o).length),(p.ser o)[i].leaf=false →
  (p.ser o)[i].feature<dim∧(p.ser o)[i].left=((o+i+1:Nat):Int)∧(p.ser o)[i].left<(p.ser o)[i].right∧(p.ser o)[i].right<((o+p.size:Nat):Int)
 | .leaf n,o,h,i,hi,hl=>by
  simp only[PT.ser,List.length_singleton] at hi
  have:i=0:=by omega
  subst this
  simp only[PT.ser,List.getElem_cons_zero] at hl
  rw[h.1] at hl
  cases hl
 | .node f c l r,o,h,i,hi,hl=>by
  obtain⟨h1,h2,h3,h4,h5,h6⟩:=h
  have pl:=l.pos
  have pr:=r.pos
  have ll:=ser_len l (o+1)
  have lr:=ser_len r (o+1+l.size)
  simp only[PT.ser] at hi hl ⊢
  simp only[PT.size]
  cases i with
  | zero =>
   simp only[List.getElem_cons_zero]
   refine⟨h2, ?_, ?_, ?_⟩<;>(try dsimp only)<;>omega
  | succ i =>
   simp only[List.length_cons,List.length_append] at hi
   simp only[List.getElem_cons_succ] at hl ⊢
   by_cases hi2:i<(l.ser (o+1)).length
   ·rw[List.getElem_append_left hi2] at hl ⊢
    have:=ser_inner l (o+1) h5 i hi2 hl
    refine⟨this.1,by omega,this.2.2.1,by omega⟩
   ·rw[List.getElem_append_right (by omega)] at hl ⊢
    have hi3:i-(l.ser (o+1)).length<(r.ser (o+1+l.size)).length:=by omega
    have:=ser_inner r (o+1+l.size) h6 (i-(l.ser (o+1)).length) hi3 hl
    refine⟨this.1,by omega,this.2.2.1,by omega⟩
theorem ser_once {dim:Int}:∀(p:PT) (o:Nat),p.ok dim→∀ j:Nat,(p.ser o).countP (fun n=>names n j)=if o<j∧j<o+p.size then 1 else 0
 | .leaf n,o,h,j=>by
  have hz:(PT.leaf n).size=1:=rfl
  have hs:(PT.leaf n).ser o=[n]:=rfl
  rw[hz,hs,if_neg (by omega)]
  simp[names,h.1]
 | .node f c l r,o,h,j=>by
  obtain⟨h1,h2,h3,h4,h5,h6⟩:=h
  have pl:=l.pos
  have pr:=r.pos
  have hz:(PT.node f c l r).size=1+l.size+r.size:=rfl
  have hs:(PT.node f c l r).ser o=⟨false,0,f,c,((o+1:Nat):Int),((o+1+l.size:Nat):Int)⟩::(l.ser (o+1)++r.ser (o+1+l.size)):=rfl
  have e:names ⟨false,0,f,c,((o+1:Nat):Int),((o+1+l.size:Nat):Int)⟩ j=(decide (j=o+1)||decide (j=o+1+l.size)):=by
   unfold names
   simp only[Bool.not_false,Bool.true_and]
   congr 1<;>(apply decide_eq_decide.2;omega)
  rw[hz,hs,List.countP_cons,List.countP_append,ser_once l (o+1) h5 j,ser_once r (o+1+l.size) h6 j,e]
  simp only[Bool.or_eq_true,decide_eq_true_eq]
  repeat' split
  all_goals omega
theorem ser_nt {dim:Int} {p:PT} (h:p.ok dim) (hs:p.size≤31):NT (p.ser 0) dim where
 ok:=ser_right p 0 h (by omega)
 pos:=by rw[ser_len];exact p.pos
 le:=by rw[ser_len];exact hs
 inner i hi hl:=by
  have:=ser_inner p 0 h i hi hl
  rw[ser_len]
  refine⟨this.1,by omega,by omega,by omega,by omega,by omega⟩
 once j h1 h2:=by
  rw[ser_len] at h2
  rw[ser_once p 0 h j,if_pos (by omega)]
def prPT (old:List Word):Nat→Nat→Box→PT
 | 0,i,_=>.leaf (ndAt old i)
 | n+1,i,b =>
  if (ndAt old i).leaf then .leaf (ndAt old i) else
  if (cutB b (ndAt old i).feature (ndAt old i).cut).1.empty then prPT old n (ndAt old i).right.toNat (cutB b (ndAt old i).feature (ndAt old i).cut).2 else
  if (cutB b (ndAt old i).feature (ndAt old i).cut).2.empty then prPT old n (ndAt old i).left.toNat (cutB b (ndAt old i).feature (ndAt old i).cut).1 else
  .node (ndAt old i).feature (ndAt old i).cut (prPT old n (ndAt old i).left.toNat (cutB b (ndAt old i).feature (ndAt old i).cut).1) (prPT old n (ndAt old i).right.toNat (cutB b (ndAt old i).feature (ndAt old i).cut).2)
theorem pack_ndAt {l:List Word} {d:Int} (h:RT l d) {i:Nat} (hi:i<l.length):pack (ndAt l i)=l[i]:=by
 have h1:=(h.ok i hi).2
 rw[ndAt_lt hi]
 unfold nd
 unfold unpack at h1 ⊢
 split at h1
 ·rename_i hc
  rw[if_pos hc]
  simp only[Bool.and_eq_true,decide_eq_true_eq] at hc
  exact hc.2
 ·cases h1
theorem set_midW (a:List Word) (x y:Word) (l:List Word):(a++x::l).set a.length y=a++y::l:=by
 rw[List.set_append_right _ _ (Nat.le_refl _),Nat.sub_self]
 rfl
theorem stay_ser {old:List Word} {d:Int} (hr:RT old d):∀(n i:Nat) (b:Box) (out:List Word) (k:Int) (out':List Word),i<old.length→stayN old n i b out=some (k,out')→out'=out++((prPT old n i b).ser out.length).map pack
 | 0,i,b,out,k,out',hi,h=>by cases h
 | n+1,i,b,out,k,out',hi,h=>by
  unfold stayN at h
  have ei:((i:Nat):Int).toNat=i:=by omega
  rw[if_pos ⟨by omega,by omega⟩,ei] at h
  unfold prPT
  cases hl:(ndAt old i).leaf
  case true =>
   rw[hl,if_pos rfl] at h
   rw[if_pos rfl]
   cases h
   rw[wdAt_lt hi,← pack_ndAt hr hi]
   rfl
  case false =>
   rw[hl,if_neg Bool.false_ne_true] at h
   rw[if_neg Bool.false_ne_true]
   have hin:=hr.at hi hl
   obtain⟨_,_,l1,l2,r1,r2⟩:=hin
   have hv:(ndAt old i).value=0:=by
    have:=hr.node hi
    unfold rightNode at this
    rw[hl] at this
    simp only[Bool.false_eq_true,if_false,Bool.and_eq_true,decide_eq_true_eq] at this
    exact this.1.1.1.1.1.1.1
   generalize ndAt old i=nn at *
   obtain⟨lf,val,ft,ct,lt,rt⟩:=nn
   simp only at hl hv l1 l2 r1 r2 h ⊢
   subst hl
   subst hv
   obtain⟨ltn,rfl⟩:∃ t:Nat,lt=t:=⟨lt.toNat,by omega⟩
   obtain⟨rtn,rfl⟩:∃ t:Nat,rt=t:=⟨rt.toNat,by omega⟩
   have e1:((ltn:Nat):Int).toNat=ltn:=by omega
   have e2:((rtn:Nat):Int).toNat=rtn:=by omega
   rw[e1,e2]
   generalize cutB b ft ct=xy at *
   obtain⟨x,y⟩:=xy
   simp only at h ⊢
   split at h
   ·rename_i hx
    rw[if_pos hx]
    exact stay_ser hr n rtn y out k out' (by omega) h
   ·rename_i hx
    rw[if_neg hx]
    split at h
    ·rename_i hy
     rw[if_pos hy]
     exact stay_ser hr n ltn x out k out' (by omega) h
    ·rename_i hy
     rw[if_neg hy]
     rw[Option.bind_eq_some_iff] at h
     obtain⟨⟨k1,o1⟩,h1,h⟩:=h
     rw[Option.bind_eq_some_iff] at h
     obtain⟨⟨k2,o2⟩,h2,h⟩:=h
     have g1:=stayN_len _ _ _ _ _ _ h1
     have g2:=stayN_len _ _ _ _ _ _ h2
     have s1:=stay_ser hr n ltn x _ _ _ (by omega) h1
     have s2:=stay_ser hr n rtn y _ _ _ (by omega) h2
     simp only[Option.some.injEq,Prod.mk.injEq] at h
     obtain⟨-,rfl⟩:=h
     have hz:(out++[(⟨0⟩:Word)]).length=out.length+1:=by simp
     rw[hz] at s1 g1
     have hlo:o1.length=out.length+1+(prPT old n ltn x).size:=by
      rw[s1]
      simp[ser_len]
      omega
     simp only at s2 g2
     rw[hlo] at s2
     rw[s2,s1,List.append_assoc,List.append_assoc,List.singleton_append,set_midW]
     rw[g1.1,g2.1,hlo]
     simp[PT.ser]
def visN (old:List Word):Nat→Nat→List Nat
 | 0,_=>[]
 | n+1,i=>if (ndAt old i).leaf then [i] else i::(visN old n (ndAt old i).left.toNat++visN old n (ndAt old i).right.toNat)
def nmN (old:List Word) (j p:Nat):Nat:=if names (ndAt old p) j then 1 else 0
theorem child_nat {old:List Word} {d:Int} (hr:RT old d) {i:Nat} (hi:i<old.length) (hl:(ndAt old i).leaf=false) :
  ∃ a b:Nat,(ndAt old i).left=a∧(ndAt old i).right=b∧i<a∧a<old.length∧i<b∧b<old.length∧a≠b:=by
 have:=hr.at hi hl
 exact⟨(ndAt old i).left.toNat,(ndAt old i).right.toNat,by omega,by omega,by omega,by omega,by omega,by omega,by omega⟩
theorem vis_lt {old:List Word} {d:Int} (hr:RT old d):∀(n i:Nat),i<old.length→∀ x∈visN old n i,x<old.length
 | 0,i,hi,x,hx=>by cases hx
 | n+1,i,hi,x,hx=>by
  unfold visN at hx
  cases hl:(ndAt old i).leaf
  ·rw[hl,if_neg Bool.false_ne_true] at hx
   obtain⟨a,b,ha,hb,g1,g2,g3,g4,g5⟩:=child_nat hr hi hl
   rw[ha,hb] at hx
   simp only[List.mem_cons,List.mem_append] at hx
   rcases hx with rfl|hx|hx
   ·exact hi
   ·exact vis_lt hr n _ (by omega) x hx
   ·exact vis_lt hr n _ (by omega) x hx
  ·rw[hl,if_pos rfl] at hx
   simp at hx
   omega
theorem vis_count {old:List Word} {d:Int} (hr:RT old d) (j:Nat):∀(n i:Nat),i<old.length→old.length≤i+n→(visN old n i).count j=(if i=j then 1 else 0)+((visN old n i).map (nmN old j)).sum
 | 0,i,hi,hn=>by omega
 | n+1,i,hi,hn=>by
  unfold visN
  cases hl:(ndAt old i).leaf
  ·rw[if_neg Bool.false_ne_true]
   obtain⟨a,b,ha,hb,g1,g2,g3,g4,g5⟩:=child_nat hr hi hl
   rw[ha,hb]
   have ea:((a:Nat):Int).toNat=a:=by omega
   have eb:((b:Nat):Int).toNat=b:=by omega
   rw[ea,eb]
   have h1:=vis_count hr j n a (by omega) (by omega)
   have h2:=vis_count hr j n b (by omega) (by omega)
   have hnm:nmN old j i=(if a=j then 1 else 0)+(if b=j then 1 else 0):=by
    unfold nmN names
    rw[hl,ha,hb]
    by_cases x:a=j
    ·subst x
     rw[if_pos rfl,if_neg (Ne.symm g5)]
     simp
    ·by_cases y:b=j
     ·subst y
      rw[if_neg x,if_pos rfl]
      simp
     ·rw[if_neg x,if_neg y]
      have x':¬ (a:Int)=j:=by omega
      have y':¬ (b:Int)=j:=by omega
      simp[x',y']
   rw[List.count_cons,List.count_append,h1,h2,List.map_cons,List.map_append,List.sum_cons,List.sum_append,hnm]
   have e:(if (i==j)=true then 1 else 0)=if i=j then 1 else 0:=by simp
   rw[e]
   omega
  ·rw[if_pos rfl]
   have h0:nmN old j i=0:=by unfold nmN names;rw[hl];rfl
   simp[h0,List.count_cons]
theorem sum_one {p0:Nat}:∀(l:List Nat) (f:Nat→Nat),(∀ p∈l,f p=if p=p0 then 1 else 0)→(l.map f).sum=l.count p0
 | [],f,_=>rfl
 | a::l,f,h=>by
  rw[List.map_cons,List.sum_cons,List.count_cons,sum_one l f (fun p hp=>h p (by simp[hp])),h a (by simp)]
  by_cases e:a=p0
  ·subst e;simp;omega
  ·simp[e]
theorem sum_none:∀(l:List Nat),(∀ x∈l,x=0)→l.sum=0
 | [],_=>rfl
 | a::l,h=>by rw[List.sum_cons,h a (by simp),sum_none l (fun x hx=>h x (by simp[hx]))]
theorem nodup_len:∀(N:Nat) (l:List Nat),l.Nodup→(∀ x∈l,x<N)→l.length≤N
 | 0,l,_,h=>by
  have:l=[]:=List.eq_nil_iff_forall_not_mem.2 fun x hx=>by have:=h x hx;omega
  simp[this]
 | N+1,l,hn,h=>by
  by_cases hm:N∈l
  ·have h1:=nodup_len N (l.erase N) (hn.erase N) fun x hx=>by
    have h2:=hn.mem_erase_iff.1 hx
    have:=h x h2.2
    omega
   rw[List.length_erase_of_mem hm] at h1
   omega
  ·have:=nodup_len N l hn fun x hx=>by
    have h2:=h x hx
    have:x≠N:=fun e=>hm (e▸hx)
    omega
   omega
theorem vis_once {old:List Word} {d:Int} (hr:RT old d) {n:Nat} (hn:old.length≤n):∀(m j:Nat),j≤m→j<old.length→(visN old n 0).count j≤1:=by
 intro m
 induction m with
 | zero =>
  intro j h0 hj
  have:j=0:=by omega
  subst this
  rw[vis_count hr 0 n 0 hr.pos (by omega)]
  have hz:((visN old n 0).map (nmN old 0)).sum=0:=by
   have:∀ x∈(visN old n 0).map (nmN old 0),x=0:=by
    intro x hx
    obtain⟨p,hp,rfl⟩:=List.mem_map.1 hx
    have hpl:=vis_lt hr n 0 hr.pos p hp
    unfold nmN names
    cases hl:(ndAt old p).leaf
    ·obtain⟨a,b,ha,hb,g1,g2,g3,g4,g5⟩:=child_nat hr hpl hl
     rw[ha,hb]
     have x':¬ (a:Int)=(0:Nat):=by omega
     have y':¬ (b:Int)=(0:Nat):=by omega
     simp[x',y']
     omega
    ·rfl
   exact sum_none _ this
  rw[hz]
  simp
 | succ m ih =>
  intro j hm hj
  by_cases e:j≤m
  ·exact ih j e hj
  ·have hj1:1≤j:=by omega
   obtain⟨p0,hp0,hl0,hc0⟩:=hr.parent hj1 hj
   have hn0:names (ndAt old p0) j=true:=by
    unfold names
    rw[hl0]
    simpa using hc0
   rw[vis_count hr j n 0 hr.pos (by omega),if_neg (by omega),Nat.zero_add,sum_one (p0:=p0) _ _ (fun p hp=>?_)]
   ·exact ih p0 (by omega) (by omega)
   ·have hpl:=vis_lt hr n 0 hr.pos p hp
    unfold nmN
    by_cases e2:p=p0
    ·subst e2
     rw[hn0]
     simp
    ·rw[if_neg e2,if_neg (fun h=>e2 (hr.unique hpl (by omega) hj1 hj h hn0))]
theorem vis_len {old:List Word} {d:Int} (hr:RT old d) {n:Nat} (hn:old.length≤n):(visN old n 0).length≤old.length:=by
 have hnd:(visN old n 0).Nodup:=List.nodup_iff_count.2 fun a=>by
  by_cases ha:a<old.length
  ·exact vis_once hr hn a a (Nat.le_refl _) ha
  ·rw[List.count_eq_zero_of_not_mem (fun h=>ha (vis_lt hr n 0 hr.pos a h))]
   omega
 exact nodup_len _ _ hnd (vis_lt hr n 0 hr.pos)
theorem prPT_size {old:List Word} {d:Int} (hr:RT old d):∀(n i:Nat) (b:Box),i<old.length→old.length≤i+n→(prPT old n i b).size≤(visN old n i).length
 | 0,i,b,hi,hn=>by omega
 | n+1,i,b,hi,hn=>by
  unfold prPT visN
  cases hl:(ndAt old i).leaf
  ·rw[if_neg Bool.false_ne_true,if_neg Bool.false_ne_true]
   obtain⟨x,y,ha,hb,g1,g2,g3,g4,g5⟩:=child_nat hr hi hl
   rw[ha,hb]
   have ea:((x:Nat):Int).toNat=x:=by omega
   have eb:((y:Nat):Int).toNat=y:=by omega
   rw[ea,eb]
   have h1:=fun b=>prPT_size hr n x b (by omega) (by omega)
   have h2:=fun b=>prPT_size hr n y b (by omega) (by omega)
   rw[List.length_cons,List.length_append]
   split
   ·have:=h2 (cutB b (ndAt old i).feature (ndAt old i).cut).2;omega
   ·split
    ·have:=h1 (cutB b (ndAt old i).feature (ndAt old i).cut).1;omega
    ·have:=h2 (cutB b (ndAt old i).feature (ndAt old i).cut).2
     have:=h1 (cutB b (ndAt old i).feature (ndAt old i).cut).1
     simp only[PT.size]
     omega
  ·rw[if_pos rfl,if_pos rfl]
   simp[PT.size]
theorem prPT_ok {old:List Word} {d:Int} (hr:RT old d):∀(n i:Nat) (b:Box),i<old.length→old.length≤i+n→(prPT old n i b).ok d
 | 0,i,b,hi,hn=>by omega
 | n+1,i,b,hi,hn=>by
  unfold prPT
  cases hl:(ndAt old i).leaf
  ·rw[if_neg Bool.false_ne_true]
   obtain⟨x,y,ha,hb,g1,g2,g3,g4,g5⟩:=child_nat hr hi hl
   have hat:=hr.at hi hl
   have hf:=hr.feature hi hl
   have hc:=hr.cutOk hi
   rw[ha,hb]
   have ea:((x:Nat):Int).toNat=x:=by omega
   have eb:((y:Nat):Int).toNat=y:=by omega
   rw[ea,eb]
   split
   ·exact prPT_ok hr n y _ (by omega) (by omega)
   ·split
    ·exact prPT_ok hr n x _ (by omega) (by omega)
    ·exact⟨hf.1,hat.1,hf.2,hc,prPT_ok hr n x _ (by omega) (by omega),prPT_ok hr n y _ (by omega) (by omega)⟩
  ·rw[if_pos rfl]
   exact⟨hl,hr.node hi⟩
def prT' (l:List Word) (b:Box):PT:=prPT l 31 0 b
theorem pruneT_eq {l:List Word} {d:Int} (hr:RT l d) (b:Box):pruneT l b=((prT' l b).ser 0).map pack:=by
 obtain⟨k,out,h1,h2⟩:=stayN_some hr 31 0 b [] hr.pos (by have:=hr.le;omega)
 have h3:=stay_ser hr 31 0 b [] k out hr.pos h1
 have h1:stayN l 31 0 b []=some (k,out):=h1
 unfold pruneT
 rw[h1,h3]
 rfl
theorem prT_size {l:List Word} {d:Int} (hr:RT l d) (b:Box):(prT' l b).size≤l.length:=by
 have h1:=prPT_size hr 31 0 b hr.pos (by have:=hr.le;omega)
 have h2:=vis_len hr (n:=31) hr.le
 exact Nat.le_trans h1 h2
theorem pruneT_right {l:List Word} {d:Int} (hr:RT l d) (b:Box):RT (pruneT l b) d:=by
 rw[pruneT_eq hr b]
 exact (ser_nt (prPT_ok hr 31 0 b hr.pos (by have:=hr.le;omega)) (Nat.le_trans (prT_size hr b) hr.le)).words
end Go.Co
/- CO: models held against each other: told of the same model twice. -/
namespace Go.Co
open Go.Am Go.Proofs
attribute [-simp] Go.Am.eff_gcall
end Go.Co
/- CO: pruning again, within a smaller box. -/
namespace Go.Co
open Go.Am Go.Proofs
def PT.prune:PT→Box→PT
 | .leaf n,_=>.leaf n
 | .node f c l r,b=>if (cutB b f c).1.empty then r.prune (cutB b f c).2 else if (cutB b f c).2.empty then l.prune (cutB b f c).1 else .node f c (l.prune (cutB b f c).1) (r.prune (cutB b f c).2)
def fullPT (old:List Word):Nat→Nat→PT
 | 0,i=>.leaf (ndAt old i)
 | n+1,i=>if (ndAt old i).leaf then .leaf (ndAt old i) else .node (ndAt old i).feature (ndAt old i).cut (fullPT old n (ndAt old i).left.toNat) (fullPT old n (ndAt old i).right.toNat)
theorem prPT_full (old:List Word):∀(n i:Nat) (b:Box),prPT old n i b=(fullPT old n i).prune b
 | 0,i,b=>rfl
 | n+1,i,b=>by
  unfold prPT fullPT
  split
  ·rfl
  ·simp only[PT.prune,prPT_full old n]
theorem ndAt_mid (A:List Word) (w:Word) (C:List Word):ndAt (A++w::C) A.length=nd w:=by
 rw[ndAt_lt (by simp)]
 rw[List.getElem_append_right (Nat.le_refl _)]
 simp
theorem full_ser {dim:Int}:∀(p:PT) (A B:List Word) (n:Nat),p.ok dim→A.length+p.size≤31→p.size≤n→fullPT (A++(p.ser A.length).map pack++B) n A.length=p
 | .leaf x,A,B,n,h,hs,hn=>by
  have hd:ndAt (A++((PT.leaf x).ser A.length).map pack++B) A.length=x:=by
   rw[show A++((PT.leaf x).ser A.length).map pack++B=A++pack x::B by simp[PT.ser],ndAt_mid,nd_pack x h.2]
  cases n with
  | zero=>simp only[fullPT,hd]
  | succ n =>
   rw[fullPT,hd,h.1,if_pos rfl]
 | .node f c l r,A,B,n,h,hs,hn=>by
  have hok:=h
  obtain⟨h1,h2,h3,h4,h5,h6⟩:=h
  have pl:=l.pos
  have pr:=r.pos
  have hz:(PT.node f c l r).size=1+l.size+r.size:=rfl
  rw[hz] at hs hn
  obtain⟨n,rfl⟩:∃ m,n=m+1:=⟨n-1,by omega⟩
  have hx:=ser_right (.node f c l r) A.length hok (by rw[hz];omega) ⟨false,0,f,c,((A.length+1:Nat):Int),((A.length+1+l.size:Nat):Int)⟩ (by simp[PT.ser])
  have e1:A++((PT.node f c l r).ser A.length).map pack++B=(A++[pack ⟨false,0,f,c,((A.length+1:Nat):Int),((A.length+1+l.size:Nat):Int)⟩])++(l.ser (A.length+1)).map pack++((r.ser (A.length+1+l.size)).map pack++B):=by
   simp[PT.ser]
  have e2:A++((PT.node f c l r).ser A.length).map pack++B=(A++[pack ⟨false,0,f,c,((A.length+1:Nat):Int),((A.length+1+l.size:Nat):Int)⟩]++(l.ser (A.length+1)).map pack)++(r.ser (A.length+1+l.size)).map pack++B:=by
   simp[PT.ser]
  have hd:ndAt (A++((PT.node f c l r).ser A.length).map pack++B) A.length=⟨false,0,f,c,((A.length+1:Nat):Int),((A.length+1+l.size:Nat):Int)⟩:=by
   have e3:A++((PT.node f c l r).ser A.length).map pack++B=A++pack ⟨false,0,f,c,((A.length+1:Nat):Int),((A.length+1+l.size:Nat):Int)⟩::((l.ser (A.length+1)).map pack++(r.ser (A.length+1+l.size)).map pack++B):=by
    simp only[PT.ser,List.map_cons,List.map_append,List.append_assoc,List.cons_append]
   rw[e3,ndAt_mid,nd_pack _ hx]
  have a1:(A++[pack ⟨false,0,f,c,((A.length+1:Nat):Int),((A.length+1+l.size:Nat):Int)⟩]).length=A.length+1:=by simp
  have a2:(A++[pack ⟨false,0,f,c,((A.length+1:Nat):Int),((A.length+1+l.size:Nat):Int)⟩]++(l.ser (A.length+1)).map pack).length=A.length+1+l.size:=by simp[ser_len];omega
  have g1:=full_ser l (A++[pack ⟨false,0,f,c,((A.length+1:Nat):Int),((A.length+1+l.size:Nat):Int)⟩]) ((r.ser (A.length+1+l.size)).map pack++B) n h5 (by rw[a1];omega) (by omega)
  have g2:=full_ser r (A++[pack ⟨false,0,f,c,((A.length+1:Nat):Int),((A.length+1+l.size:Nat):Int)⟩]++(l.ser (A.length+1)).map pack) B n h6 (by rw[a2];omega) (by omega)
  rw[a1,← e1] at g1
  rw[a2,← e2] at g2
  rw[fullPT,hd]
  simp only[Bool.false_eq_true,if_false,Int.toNat_natCast]
  rw[g1,g2]
theorem full_prune {l:List Word} {d:Int} (hr:RT l d) (b:Box):fullPT (pruneT l b) 31 0=(fullPT l 31 0).prune b:=by
 have hok:=prPT_ok hr 31 0 b hr.pos (by have:=hr.le;omega)
 have hs:=Nat.le_trans (prT_size hr b) hr.le
 have:=full_ser (prT' l b) [] [] 31 hok (by simpa using hs) hs
 have e:prPT l 31 0 b=prT' l b:=rfl
 rw[pruneT_eq hr b,← prPT_full,e]
 simpa using this
def SubB (c b:Box):Prop:=∀ i:Int,0≤i→i<5→(b.get i).lo≤(c.get i).lo∧(c.get i).hi≤(b.get i).hi
theorem set_self (b:Box) {k:Int} (h0:0≤k) (h5:k<5):b.set k (b.get k)=b:=by
 have hk:k=0∨k=1∨k=2∨k=3∨k=4:=by omega
 rcases hk with rfl|rfl|rfl|rfl|rfl<;>rfl
theorem set_none (b:Box) {k:Int} (h0:0≤k) (h5:k<5):(b.set k noneS).empty=true:=by
 cases h:(b.set k noneS).empty
 ·have:=empty_get.1 h k h0 h5
  rw[set_get_ite _ _ h0 h5 h0 h5,if_pos rfl] at this
  exact absurd this (by decide)
 ·rfl
theorem cut_cases {b:Box} (hb:b.empty=false) {k:Int} (h0:0≤k) (h5:k<5) (n:Int) :
  ((b.get k).hi≤n∧(cutB b k n).1=b∧(cutB b k n).2.empty=true)∨(n<(b.get k).lo∧(cutB b k n).1.empty=true∧(cutB b k n).2=b) ∨
  ((b.get k).lo≤n∧n<(b.get k).hi∧(cutB b k n).1.empty=false∧(cutB b k n).2.empty=false∧(cutB b k n).1=b.set k ⟨(b.get k).lo,n⟩∧(cutB b k n).2=b.set k ⟨n+1,(b.get k).hi⟩):=by
 have hk:=empty_get.1 hb k h0 h5
 have hs:ofS (b.get k).lo (b.get k).hi=b.get k:=by unfold ofS;rw[if_neg (by omega)]
 by_cases h1:(b.get k).hi≤n
 ·left
  have e:cutB b k n=(b.set k (b.get k),b.set k noneS):=by
   unfold cutB cutS
   rw[if_pos ⟨h0,h5⟩,if_pos h1,hs]
  rw[e]
  exact⟨h1,set_self b h0 h5,set_none b h0 h5⟩
 ·by_cases h2:n<(b.get k).lo
  ·right;left
   have e:cutB b k n=(b.set k noneS,b.set k (b.get k)):=by
    unfold cutB cutS
    rw[if_pos ⟨h0,h5⟩,if_neg h1,if_neg (show ¬ n+1>(b.get k).lo by omega),hs]
    have:ofS (b.get k).lo n=noneS:=by unfold ofS;rw[if_pos h2]
    rw[this]
   rw[e]
   exact⟨h2,set_none b h0 h5,set_self b h0 h5⟩
  ·right;right
   have o1:ofS (b.get k).lo n=⟨(b.get k).lo,n⟩:=by unfold ofS;rw[if_neg h2]
   have o2:ofS (n+1) (b.get k).hi=⟨n+1,(b.get k).hi⟩:=by unfold ofS;rw[if_neg (by omega)]
   have e:cutB b k n=(b.set k ⟨(b.get k).lo,n⟩,b.set k ⟨n+1,(b.get k).hi⟩):=by
    unfold cutB cutS
    rw[if_pos ⟨h0,h5⟩,if_neg h1,if_pos (show n+1>(b.get k).lo by omega),o1,o2]
   have hc:∀ lo hi:Int,lo≤hi→(b.set k ⟨lo,hi⟩).empty=false:=fun lo hi hl=>empty_get.2 fun i i0 i5=>by
    rw[set_get_ite b _ h0 h5 i0 i5]
    split
    ·exact hl
    ·exact empty_get.1 hb i i0 i5
   rw[e]
   exact⟨by omega,by omega,hc _ _ (by omega),hc _ _ (by omega),rfl,rfl⟩
theorem full_ok {old:List Word} {d:Int} (hr:RT old d):∀(n i:Nat),i<old.length→old.length≤i+n→(fullPT old n i).ok d
 | 0,i,hi,hn=>by omega
 | n+1,i,hi,hn=>by
  unfold fullPT
  cases hl:(ndAt old i).leaf
  ·rw[if_neg Bool.false_ne_true]
   obtain⟨x,y,ha,hb,g1,g2,g3,g4,g5⟩:=child_nat hr hi hl
   have hat:=hr.at hi hl
   have hf:=hr.feature hi hl
   have hc:=hr.cutOk hi
   rw[ha,hb,Int.toNat_natCast,Int.toNat_natCast]
   exact⟨hf.1,hat.1,hf.2,hc,full_ok hr n x (by omega) (by omega),full_ok hr n y (by omega) (by omega)⟩
  ·rw[if_pos rfl]
   exact⟨hl,hr.node hi⟩
theorem pruneT_len {l:List Word} {d:Int} (hr:RT l d) (b:Box):(pruneT l b).length≤l.length:=by
 rw[pruneT_eq hr b,List.length_map,ser_len]
 exact prT_size hr b
theorem rm_prune {m:Model} (hm:RM m) (b:Box):RM (pruneM m b) where
 dim:=hm.dim
 classes:=hm.classes
 bias:=hm.bias
 none1:=hm.none1
 none2:=hm.none2
 trees:=by
  show (m.trees.map (prF b)).length≤8
  rw[List.length_map]
  exact hm.trees
 tree t ht:=by
  obtain⟨x,hx,rfl⟩:=List.mem_map.1 ht
  have:=hm.tree x hx
  exact⟨this.1,this.2.1,pruneT_right this.2.2 b⟩
theorem nodes_prune {d:Int} {b:Box}:∀(l:List Tree) (x y:Int),(∀ t∈l,RT t.nodes d)→x≤y→(l.map (prF b)).foldl lenF x≤l.foldl lenF y
 | [],x,y,_,h=>h
 | t::l,x,y,h,hxy=>by
  rw[List.map_cons,List.foldl_cons,List.foldl_cons]
  refine nodes_prune l _ _ (fun z hz=>h z (by simp[hz])) ?_
  have h1:=pruneT_len (h t (by simp)) b
  unfold lenF prF
  show x+((pruneT t.nodes b).length:Int)≤y+(t.nodes.length:Int)
  omega
theorem size_prune {m:Model} (hm:RM m) (b:Box):sizeM (pruneM m b)≤sizeM m :=
 nodes_prune m.trees 0 0 (fun t ht=>hm.rt ht) (Int.le_refl 0)
end Go.Co
/- CO: a pruned tree has the same pieces, and comes to the same. -/
namespace Go.Co
open Go.Am Go.Proofs
def PT.pcs:PT→Box→List Piece
 | .leaf n,b=>if b.empty then [] else [⟨b,n.value⟩]
 | .node f c l r,b=>l.pcs (cutB b f c).1++r.pcs (cutB b f c).2
def PT.lvs:PT→Nat
 | .leaf _=>1
 | .node _ _ l r=>l.lvs+r.lvs
theorem cut_empty {b:Box} (h:b.empty=true) {f:Int} (h0:0≤f) (h4:f<4) (c:Int):(cutB b f c).1.empty=true∧(cutB b f c).2.empty=true :=
 ⟨empty_true.2 fun p t hp=>empty_true.1 h p t ((cutB_1 b ⟨h0,h4⟩ c p t).1 hp).1,empty_true.2 fun p t hp=>empty_true.1 h p t ((cutB_2 b ⟨h0,h4⟩ c p t).1 hp).1⟩
theorem pcs_empty {dim:Int}:∀(p:PT),p.ok dim→∀(b:Box),b.empty=true→p.pcs b=[]
 | .leaf n,_,b,h=>by simp[PT.pcs,h]
 | .node f c l r,h,b,he=>by
  obtain⟨h1,_,h3,_,h5,h6⟩:=h
  have:=cut_empty he h1 h3 c
  rw[PT.pcs,pcs_empty l h5 _ this.1,pcs_empty r h6 _ this.2]
  rfl
theorem pcs_prune {dim:Int}:∀(p:PT),p.ok dim→∀(b:Box),b.empty=false→(p.prune b).pcs b=p.pcs b∧(p.prune b).lvs=(p.pcs b).length
 | .leaf n,_,b,h=>by simp[PT.prune,PT.pcs,PT.lvs,h]
 | .node f n l r,h,b,hb=>by
  obtain⟨h1,_,h3,_,h5,h6⟩:=h
  have f5:f<5:=by omega
  rcases cut_cases hb h1 f5 n with⟨a1,a2,a3⟩|⟨a1,a2,a3⟩|⟨a0,a1,a2,a3,a4,a5⟩
  ·have e1:(PT.node f n l r).prune b=l.prune b:=by rw[PT.prune,a2,hb,a3];rfl
   have ih:=pcs_prune l h5 b hb
   have e2:(PT.node f n l r).pcs b=l.pcs b:=by rw[PT.pcs,a2,pcs_empty r h6 _ a3,List.append_nil]
   rw[e1,e2]
   exact ih
  ·have e1:(PT.node f n l r).prune b=r.prune b:=by rw[PT.prune,a2,a3];rfl
   have ih:=pcs_prune r h6 b hb
   have e2:(PT.node f n l r).pcs b=r.pcs b:=by rw[PT.pcs,a3,pcs_empty l h5 _ a2,List.nil_append]
   rw[e1,e2]
   exact ih
  ·have e1:(PT.node f n l r).prune b=.node f n (l.prune (cutB b f n).1) (r.prune (cutB b f n).2):=by rw[PT.prune,a2,a3];rfl
   have i1:=pcs_prune l h5 _ a2
   have i2:=pcs_prune r h6 _ a3
   rw[e1,PT.pcs,PT.pcs,PT.lvs,i1.1,i2.1,i1.2,i2.2,List.length_append]
   exact⟨rfl,rfl⟩
theorem sum_ge {f:Nat→Nat} {p:Nat}:∀ {l:List Nat},p∈l→f p≤(l.map f).sum
 | [],h=>by cases h
 | a::l,h=>by
  rw[List.map_cons,List.sum_cons]
  rcases List.mem_cons.1 h with rfl|h
  ·omega
  ·have:=sum_ge (f:=f) h
   omega
theorem vis_all {old:List Word} {d:Int} (hr:RT old d) {n:Nat} (hn:old.length≤n):∀(m j:Nat),j≤m→j<old.length→j∈visN old n 0:=by
 intro m
 induction m with
 | zero =>
  intro j h0 hj
  have:j=0:=by omega
  subst this
  rw[← List.count_pos_iff,vis_count hr 0 n 0 hr.pos (by omega),if_pos rfl]
  omega
 | succ m ih =>
  intro j hm hj
  by_cases e:j≤m
  ·exact ih j e hj
  ·obtain⟨p0,hp0,hl0,hc0⟩:=hr.parent (show 1≤j by omega) hj
   have hn0:names (ndAt old p0) j=true:=by
    unfold names
    rw[hl0]
    simpa using hc0
   have h1:=ih p0 (by omega) (by omega)
   have h2:=sum_ge (f:=nmN old j) h1
   have h3:nmN old j p0=1:=by unfold nmN;rw[hn0];rfl
   rw[← List.count_pos_iff,vis_count hr j n 0 hr.pos (by omega)]
   omega
theorem vis_perm {old:List Word} {d:Int} (hr:RT old d) {n:Nat} (hn:old.length≤n):(visN old n 0).Perm (List.range old.length):=by
 have hnd:(visN old n 0).Nodup:=List.nodup_iff_count.2 fun a=>by
  by_cases ha:a<old.length
  ·exact vis_once hr hn a a (Nat.le_refl _) ha
  ·rw[List.count_eq_zero_of_not_mem (fun h=>ha (vis_lt hr n 0 hr.pos a h))]
   omega
 refine (List.perm_ext_iff_of_nodup hnd List.nodup_range).2 fun a=>?_
 rw[List.mem_range]
 exact⟨vis_lt hr n 0 hr.pos a,vis_all hr hn a a (Nat.le_refl _)⟩
theorem pcs_vis {l:List Word} {d:Int} (hr:RT l d) (b:Box):∀(n i:Nat),i<l.length→l.length≤i+n →
  (visN l n i).filterMap (pieceAt l b)=(fullPT l n i).pcs (own l b i)∧((visN l n i).filter fun j=>(ndAt l j).leaf).length=(fullPT l n i).lvs
 | 0,i,hi,hn=>by omega
 | n+1,i,hi,hn=>by
  unfold visN fullPT
  cases hl:(ndAt l i).leaf
  ·rw[if_neg Bool.false_ne_true,if_neg Bool.false_ne_true]
   obtain⟨x,y,ha,hb,g1,g2,g3,g4,g5⟩:=child_nat hr hi hl
   have hc:=own_child hr b hi hl
   rw[ha,hb] at hc
   simp only[Int.toNat_natCast] at hc
   rw[ha,hb,Int.toNat_natCast,Int.toNat_natCast]
   have hp:pieceAt l b i=none:=by unfold pieceAt;rw[hl];rfl
   have i1:=pcs_vis hr b n x (by omega) (by omega)
   have i2:=pcs_vis hr b n y (by omega) (by omega)
   rw[List.filterMap_cons_none hp,List.filterMap_append,i1.1,i2.1,PT.pcs,hc.1,hc.2,List.filter_cons_of_neg (by rw[hl];simp),List.filter_append,List.length_append,i1.2,i2.2]
   exact⟨rfl,rfl⟩
  ·rw[if_pos rfl,if_pos rfl]
   constructor
   ·cases he:(own l b i).empty
    ·simp[pieceAt,hl,he,PT.pcs]
    ·simp[pieceAt,hl,he,PT.pcs]
   ·simp[hl,PT.lvs]
theorem pieces_pcs {l:List Word} {d:Int} (hr:RT l d) (b:Box):((fullPT l 31 0).pcs b).Perm (pieces l b):=by
 have:=(pcs_vis hr b 31 0 hr.pos (by have:=hr.le;omega)).1
 rw[own_root] at this
 rw[← this]
 exact (vis_perm hr hr.le).filterMap _
theorem full_ok0 {l:List Word} {d:Int} (hr:RT l d):(fullPT l 31 0).ok d:=full_ok hr 31 0 hr.pos (by have:=hr.le;omega)
theorem pieces_prune {l:List Word} {d:Int} (hr:RT l d) {b:Box} (hb:b.empty=false):(pieces (pruneT l b) b).Perm (pieces l b):=by
 have h1:=pieces_pcs (pruneT_right hr b) b
 rw[full_prune hr b,(pcs_prune _ (full_ok0 hr) b hb).1] at h1
 exact h1.symm.trans (pieces_pcs hr b)
theorem value_prune {l:List Word} {d:Int} (hr:RT l d) {b:Box} {p:Point} {t:Int} (hp:InB b p t):valueAt (pruneT l b) p=valueAt l p:=by
 obtain⟨x,hx,h1,h2⟩:=piece_of hr hp
 have hx2:=(pieces_prune hr (empty_false.2 ⟨p,t,hp⟩)).mem_iff.2 hx
 have:=piece_in (pruneT_right hr b) hx2 h1
 rw[this.2,h2]
theorem evalM_prune' {m:Model} (hm:RM m) {b:Box} {p:Point} {t:Int} (hp:InB b p t) (c:Int):evalM (pruneM m b) c p=evalM m c p:=by
 have key:∀(l:List Tree) (n:Int),(∀ t∈l,RT t.nodes m.dim)→(l.map (prF b)).foldl (evalF c p) n=l.foldl (evalF c p) n:=by
  intro l
  induction l with
  | nil=>intro n _;rfl
  | cons x l ih =>
   intro n h
   rw[List.map_cons,List.foldl_cons,List.foldl_cons,ih _ (fun t ht=>h t (by simp[ht]))]
   congr 1
   unfold evalF prF
   simp only[value_prune (h x (by simp)) hp]
 exact key m.trees _ (fun t ht=>hm.rt ht)
end Go.Co
/- CO: what breaks a query. -/
set_option maxHeartbeats 16000000
set_option maxRecDepth 100000
namespace Go.Co
open Go.Am Go.Proofs
def c19_59:ACode:=.seq (.ops [⟨some 4,.box (.t 0) 6,none,[]⟩,⟨some 5,.box (.t 1) 17,none,[]⟩,⟨some 6,.box (.t 2) 4,none,[]⟩,⟨some 8,.mv (.c (.bool false)),none,[]⟩] [3,4,5,6]) (.seq (.seq (.ops [⟨some 12,.load 6 true (.t 4),none,[4]⟩,⟨some 13,.load 17 true (.t 5),none,[5]⟩,⟨some 14,.call 40 [.t 12,.t 13],none,[]⟩,⟨some 15,.un .not (.t 14),none,[]⟩] [3,4,5,6,15]) (.cond (.t 15) (.seq (.ops [⟨some 8,.mv (.c (.bool false)),none,[]⟩] [8]) .ret) .skip)) (.seq (.ops [⟨some 16,.load 6 true (.t 4),none,[4]⟩,⟨some 17,.fad (.t 5) 1,none,[5]⟩,⟨some 18,.load 1 false (.t 17),none,[5]⟩,⟨some 19,.load 4 true (.t 6),none,[6]⟩,⟨some 20,.call 18 [.t 16,.t 18,.t 19],none,[]⟩,⟨some 9,.mv (.t 20),none,[]⟩] [3,4,5,6,9]) (.seq (.seq (.ops [⟨some 21,.fad (.t 5) 0,none,[5]⟩,⟨some 22,.load 1 false (.t 21),none,[5]⟩] [3,4,5,6,9,22]) (.block 0 (.seq (.ops [⟨some 24,.bin .eql (.t 22) (.c (.int .i64 1)),none,[]⟩,⟨some 23,.mv (.t 24),none,[]⟩] [3,4,5,6,9,22,23]) (.cond (.t 23) (.seq (.ops [⟨some 25,.fad (.t 5) 12,none,[5]⟩,⟨some 26,.load 1 false (.t 25),none,[5]⟩,⟨some 27,.fad (.t 5) 13,none,[5]⟩,⟨some 28,.load 1 false (.t 27),none,[5]⟩,⟨some 29,.build [.int .i64 0,.int .i64 0] [(0,1,.t 26),(1,1,.t 28)],none,[]⟩,⟨some 30,.mv (.t 9),none,[]⟩,⟨some 31,.call 41 [.t 29,.t 30],none,[]⟩,⟨some 32,.un .not (.t 31),none,[]⟩,⟨some 8,.mv (.t 32),none,[]⟩] [8]) .ret) (.seq (.ops [⟨some 34,.bin .eql (.t 22) (.c (.int .i64 2)),none,[]⟩,⟨some 33,.mv (.t 34),none,[]⟩] [3,4,5,6,9,33]) (.cond (.t 33) (.seq (.seq (.ops [⟨some 35,.fad (.t 4) 1,none,[4]⟩,⟨some 36,.load 1 false (.t 35),none,[4]⟩,⟨some 37,.mv (.c (.int .i64 0)),none,[]⟩] [4,5,6,9,36,37]) (.block 1 (.loop (.keep [4,5,6,9,36,37] [4,5,6] (.seq (.ops [⟨some 38,.bin .lss (.t 37) (.t 36),none,[]⟩] [4,5,6,9,36,37,38]) (.seq (.cond (.t 38) .skip (.exit 1)) (.seq (.block 2 (.seq (.ops [⟨some 39,.mv (.t 37),none,[]⟩,⟨some 10,.mv (.t 39),none,[]⟩] [4,5,6,9,10,36,37]) (.seq (.ops [⟨some 40,.mv (.t 10),none,[]⟩,⟨some 41,.fad (.t 5) 1,none,[5]⟩,⟨some 42,.load 1 false (.t 41),none,[5]⟩,⟨some 43,.bin .neq (.t 40) (.t 42),none,[]⟩,⟨some 44,.mv (.t 43),none,[]⟩,⟨some 45,.load 6 true (.t 4),some (44,true),[4]⟩,⟨some 46,.mv (.t 10),some (44,true),[]⟩,⟨some 47,.load 4 true (.t 6),some (44,true),[6]⟩,⟨some 48,.call 18 [.t 45,.t 46,.t 47],some (44,true),[]⟩,⟨some 49,.mv (.t 9),some (44,true),[]⟩,⟨some 50,.bin .geq (.t 48) (.t 49),some (44,true),[]⟩,⟨some 51,.pick (.t 44) (.t 50) (.c (.bool false)),none,[]⟩] [4,5,6,9,36,37,51]) (.cond (.t 51) (.seq (.ops [⟨some 8,.mv (.c (.bool true)),none,[]⟩] [8]) .ret) .skip)))) (.ops [⟨some 52,.bin .add (.t 37) (.c (.int .i64 1)),none,[]⟩,⟨some 37,.mv (.t 52),none,[]⟩] [4,5,6,9,36,37])))))))) (.seq (.ops [⟨some 8,.mv (.c (.bool false)),none,[]⟩] [8]) .ret)) .skip)))))) (.seq (.seq (.ops [⟨some 53,.fad (.t 5) 14,none,[5]⟩,⟨some 54,.load 1 false (.t 53),none,[5]⟩,⟨some 55,.iad (.t 6) (.t 54) 1 4,none,[6]⟩,⟨some 56,.load 1 false (.t 55),none,[6]⟩,⟨some 57,.mv (.t 3),none,[]⟩,⟨some 58,.bin .geq (.t 56) (.t 57),none,[]⟩] [3,4,5,6,9,58]) (.cond (.t 58) (.seq (.ops [⟨some 8,.mv (.c (.bool false)),none,[]⟩] [8]) .ret) .skip)) (.seq (.ops [⟨some 59,.load 6 true (.t 4),none,[4]⟩,⟨some 60,.fad (.t 5) 1,none,[5]⟩,⟨some 61,.load 1 false (.t 60),none,[5]⟩,⟨some 62,.load 17 true (.t 5),none,[5]⟩,⟨some 63,.load 4 true (.t 6),none,[6]⟩,⟨some 64,.mv (.t 3),none,[]⟩,⟨some 65,.call 42 [.t 62,.t 63,.t 64],none,[]⟩,⟨some 66,.call 18 [.t 59,.t 61,.t 65],none,[]⟩,⟨some 11,.mv (.t 66),none,[]⟩] [5,9,11]) (.seq (.seq (.ops [⟨some 67,.fad (.t 5) 15,none,[5]⟩,⟨some 68,.load 1 false (.t 67),none,[5]⟩] [9,11,68]) (.cond (.t 68) (.seq (.ops [⟨some 69,.mv (.t 11),none,[]⟩,⟨some 70,.mv (.t 9),none,[]⟩,⟨some 71,.bin .gtr (.t 69) (.t 70),none,[]⟩,⟨some 8,.mv (.t 71),none,[]⟩] [8]) .ret) .skip)) (.seq (.ops [⟨some 72,.mv (.t 11),none,[]⟩,⟨some 73,.mv (.t 9),none,[]⟩,⟨some 74,.bin .lss (.t 72) (.t 73),none,[]⟩,⟨some 8,.mv (.t 74),none,[]⟩] [8]) .ret)))))))
theorem r19_59:type_of% (rr c19_59.eq_1):=rr rfl
def a19:AFun:=⟨4,75,c19_59,[.t 8]⟩
attribute [simp] r19_59
theorem m19:mFun Tryz.prog Tryz.f19 a19=true:=by decide +kernel
theorem okQuery_spec {m:Model} {q:Query} (h:okQuery m q=true):0≤q.cls∧q.cls<m.classes∧0≤q.budget∧q.budget≤65536∧okRegion q.region m.dim=true∧okKind m q=true:=by
 unfold okQuery at h
 simp only[Bool.and_eq_true,decide_eq_true_eq] at h
 exact⟨h.1.1.1.1.1,h.1.1.1.1.2,h.1.1.1.2,h.1.1.2,h.1.2,h.2⟩
theorem okKind_spec {m:Model} {q:Query} (h:okKind m q=true) :
  (q.kind=1∧q.lo≤q.hi∧q.feature=0∧q.falls=false)∨(q.kind=2∧2≤m.classes∧q.lo=0∧q.hi=0∧q.feature=0∧q.falls=false)∨(q.kind=3∧0≤q.feature∧q.feature<m.dim∧q.lo=0∧q.hi=0):=by
 unfold okKind at h
 split at h
 ·simp only[Bool.and_eq_true,decide_eq_true_eq,Bool.not_eq_true'] at h
  exact .inl ⟨‹_›,h.1.1,h.1.2,h.2⟩
 ·split at h
  ·simp only[Bool.and_eq_true,decide_eq_true_eq,Bool.not_eq_true'] at h
   exact .inr (.inl ⟨‹_›,h.1.1.1.1,h.1.1.1.2,h.1.1.2,h.1.2,h.2⟩)
  ·split at h
   ·simp only[Bool.and_eq_true,decide_eq_true_eq] at h
    exact .inr (.inr ⟨‹_›,h.1.1.1,h.1.1.2,h.1.2,h.2⟩)
   ·cases h
noncomputable def BreaksC (m:Model) (q:Query) (p:Point) (t:Int):Option Bool:=Part (RM m) (breaks m q p t)
theorem runs_Breaks (m:Model) (q:Query) (p:Point) (t:Int) (c:Bool) (h:BreaksC m q p t=some c) :
  Runs (tbl [(40,sp2 QRight),(18,sp3 Eval),(41,sp2 fun (s:Span) n=>some (s.has n)),(42,sp3 fun q p t=>some (secondOf q p t))]) a19 [Arg.enc m,Arg.enc q,Arg.enc p,Arg.enc t] (Arg.enc c):=by
 obtain⟨hr,rfl⟩:=part_some h
 refine⟨rfl,fun g=>run_def ?_⟩
 unfold a19
 have hM:QRight m q=some (okQuery m q):=by unfold QRight;rw[if_neg (by have:=hr.dim;omega)];exact part_of hr _
 cases hq:okQuery m q
 case false=>simp -implicitDefEqProofs [hM,hq,breaks]
 have hs:=okQuery_spec hq
 have hE:=eval_of hr hs.1 hs.2.1 p
 have hc3:=hr.classes
 have hks:=okKind_spec hs.2.2.2.2.2
 obtain⟨kind,cls,region,lo,hi,feature,falls,budget⟩:=q
 simp only at hE hks hs
 rcases hks with⟨k,_⟩|⟨k,k2,_⟩|⟨k,f0,f1,_⟩
 ·subst k
  simp -implicitDefEqProofs [hM,hq,breaks,hE]
 ·subst k
  have e0:=eval_of hr (c:=0) (by omega) (by omega) p
  have e1:=eval_of hr (c:=1) (by omega) (by omega) p
  obtain⟨dim,classes,bias,trees⟩:=m
  simp only at hE hc3 k2 hs
  have hcl:classes=2∨classes=3:=by omega
  have hcs:cls=0∨cls=1∨cls=2:=by omega
  have rg2:List.range 2=[0,1]:=rfl
  have rg3:List.range 3=[0,1,2]:=rfl
  rcases hcl with rfl|rfl
  ·have hcs:cls=0∨cls=1:=by omega
   rcases hcs with rfl|rfl
   ·by_cases g0:evalM (⟨dim,2,bias,trees⟩:Model) 0 p≤evalM (⟨dim,2,bias,trees⟩:Model) 1 p<;>simp -implicitDefEqProofs [hM,hq,breaks,e0,e1,g0,run_round,beaten,rg2]
   ·by_cases g0:evalM (⟨dim,2,bias,trees⟩:Model) 1 p≤evalM (⟨dim,2,bias,trees⟩:Model) 0 p<;>simp -implicitDefEqProofs [hM,hq,breaks,e0,e1,g0,run_round,beaten,rg2]
  ·have e2:=eval_of hr (c:=2) (by omega) (by simp) p
   rcases hcs with rfl|rfl|rfl
   ·by_cases g0:evalM (⟨dim,3,bias,trees⟩:Model) 0 p≤evalM (⟨dim,3,bias,trees⟩:Model) 1 p<;>by_cases g1:evalM (⟨dim,3,bias,trees⟩:Model) 0 p≤evalM (⟨dim,3,bias,trees⟩:Model) 2 p<;>simp -implicitDefEqProofs [hM,hq,breaks,e0,e1,e2,g0,g1,run_round,beaten,rg3]
   ·by_cases g0:evalM (⟨dim,3,bias,trees⟩:Model) 1 p≤evalM (⟨dim,3,bias,trees⟩:Model) 0 p<;>by_cases g1:evalM (⟨dim,3,bias,trees⟩:Model) 1 p≤evalM (⟨dim,3,bias,trees⟩:Model) 2 p<;>simp -implicitDefEqProofs [hM,hq,breaks,e0,e1,e2,g0,g1,run_round,beaten,rg3]
   ·by_cases g0:evalM (⟨dim,3,bias,trees⟩:Model) 2 p≤evalM (⟨dim,3,bias,trees⟩:Model) 0 p<;>by_cases g1:evalM (⟨dim,3,bias,trees⟩:Model) 2 p≤evalM (⟨dim,3,bias,trees⟩:Model) 1 p<;>simp -implicitDefEqProofs [hM,hq,breaks,e0,e1,e2,g0,g1,run_round,beaten,rg3]
 ·subst k
  have f2:feature<4:=by have:=hr.dim;omega
  have hE2:=eval_of hr hs.1 hs.2.1 (secondOf ⟨3,cls,region,lo,hi,feature,falls,budget⟩ p t)
  by_cases g1:t≤p.get feature
  ·have g2:¬ p.get feature<t:=by omega
   simp -implicitDefEqProofs [hM,hq,breaks,hE,f0,f2,g1,g2]
  ·have g2:p.get feature<t:=by omega
   cases falls
   ·simp -implicitDefEqProofs [hM,hq,breaks,hE,hE2,f0,f2,g1,g2]
   ·simp -implicitDefEqProofs [hM,hq,breaks,hE,hE2,f0,f2,g1,g2]
theorem c_Breaks:Contract Tryz.prog 19 (sp4 BreaksC) :=
 contract_of_runs mixed (tbl_cons c_qRight (tbl_cons c_Eval (tbl_cons c_sHas (tbl_cons c_Second tbl_nil)))) Tryz.func19 m19 (sp4_runs runs_Breaks)
end Go.Co
/- CO: the cells of a box; does a query hold? -/
set_option maxHeartbeats 16000000
set_option maxRecDepth 100000
namespace Go.Co
open Go.Am Go.Proofs
attribute [-simp] Go.Am.eff_gcall
def c48_21:ACode:=.seq (.ops [⟨some 1,.box (.t 0) 10,none,[]⟩,⟨some 2,.alloc [.int .i64 0,.int .i64 0,.int .i64 0,.int .i64 0],none,[]⟩] [1,2]) (.seq (.ops [⟨some 3,.alloc [.int .i64 0,.int .i64 0,.int .i64 0,.int .i64 0],none,[]⟩] [1,2,3]) (.seq (.seq (.ops [⟨some 5,.mv (.c (.int .i64 0)),none,[]⟩] [1,2,3,5]) (.block 0 (.loop (.keep [1,2,3,5] [1,2,3] (.seq (.ops [⟨some 6,.bin .lss (.t 5) (.c (.int .i64 4)),none,[]⟩] [1,2,3,5,6]) (.seq (.cond (.t 6) .skip (.exit 0)) (.seq (.block 1 (.seq (.ops [⟨some 7,.mv (.t 5),none,[]⟩,⟨some 4,.mv (.t 7),none,[]⟩] [1,2,3,4,5]) (.ops [⟨some 8,.mv (.t 4),none,[]⟩,⟨some 9,.mv (.t 4),none,[]⟩,⟨some 10,.iad (.t 1) (.t 9) 2 5,none,[1]⟩,⟨some 11,.fad (.t 10) 0,none,[1]⟩,⟨some 12,.load 1 false (.t 11),none,[1]⟩,⟨some 13,.iad (.t 3) (.t 8) 1 4,none,[3]⟩,⟨none,.store (.t 13) 1 (.t 12),none,[3]⟩] [1,2,3,5]))) (.ops [⟨some 14,.bin .add (.t 5) (.c (.int .i64 1)),none,[]⟩,⟨some 5,.mv (.t 14),none,[]⟩] [1,2,3,5])))))))) (.seq (.ops [⟨some 15,.load 4 true (.t 3),none,[3]⟩,⟨none,.store (.t 2) 4 (.t 15),none,[2]⟩] [2]) .ret)))
theorem r48_21:type_of% (rr c48_21.eq_1):=rr rfl
def a48:AFun:=⟨1,16,c48_21,[.cell 2 4 true]⟩
attribute [simp] r48_21
theorem m48:mFun Tryz.prog Tryz.f48 a48=true:=by decide +kernel
def c46_3:ACode:=.seq (.ops [⟨some 4,.mv (.c (.bool false)),none,[]⟩] [0,1]) (.seq (.ops [⟨some 5,.mv (.t 0),none,[]⟩,⟨some 6,.mv (.t 1),none,[]⟩,⟨some 7,.call 78 [.t 5,.t 6],none,[]⟩,⟨some 8,.bin .geq (.t 7) (.c (.int .i64 0)),none,[]⟩,⟨some 4,.mv (.t 8),none,[]⟩] [4]) .ret)
def a46:AFun:=⟨2,9,c46_3,[.t 4]⟩
theorem lenB (l:List Box):l.length*10≤(encL l).length:=by rw[encL_length];exact Nat.le_refl _
theorem takeB (l:List Box):List.take (l.length*10) (encL l)=encL l:=by rw[List.take_of_length_le];rw[encL_length];exact Nat.le_refl _
theorem encL_snocB (X:List Box) (c:Box):encL (X++[c])=encL X++[.int .i64 c.s0.lo,.int .i64 c.s0.hi,.int .i64 c.s1.lo,.int .i64 c.s1.hi,.int .i64 c.s2.lo,.int .i64 c.s2.hi,.int .i64 c.s3.lo,.int .i64 c.s3.hi,.int .i64 c.s4.lo,.int .i64 c.s4.hi]:=by rw[encL_append];rfl
theorem runs_Low (b:Box) (r:Point) (h:some (lowB b)=some r):Runs (tbl []) a48 [Arg.enc b] (Arg.enc r):=by
 cases h
 refine⟨rfl,fun g=>run_def ?_⟩
 unfold a48 lowB
 simp -implicitDefEqProofs [run_round]
theorem c_Low:Contract Tryz.prog 48 (sp1 fun b=>some (lowB b)) :=
 contract_of_runs mixed tbl_nil Tryz.func48 m48 (sp1_runs runs_Low)
def corner (m:Model) (q:Query) (b:Box):Bool:=breaks m q (lowB b) b.s4.hi
@[simp] theorem dec_ref_query (q:Query):(Arg.dec (.ipt 0 [.int .i64 q.kind,.int .i64 q.cls,.int .i64 q.region.s0.lo,.int .i64 q.region.s0.hi,.int .i64 q.region.s1.lo,.int .i64 q.region.s1.hi,.int .i64 q.region.s2.lo,.int .i64 q.region.s2.hi,.int .i64 q.region.s3.lo,.int .i64 q.region.s3.hi,.int .i64 q.region.s4.lo,.int .i64 q.region.s4.hi,.int .i64 q.lo,.int .i64 q.hi,.int .i64 q.feature,.bool q.falls,.int .i64 q.budget]):Option (Ref Query))=some ⟨q⟩:=Arg.dec_enc (⟨q⟩:Ref Query)
structure CloH where
 m:Model
 q:Query
instance:Arg CloH where
 enc r:=.clo 47 [.ipt 0 (Row.enc r.m),.ipt 0 (Row.enc r.q)]
 dec x:=match x with
  | .clo f [.ipt 0 xs,.ipt 0 ys]=>if f=47 then (Row.dec xs).bind fun m=>(Row.dec ys).map fun q=>CloH.mk m q else none
  | _=>none
 dec_enc r:=by simp only[if_true,Row.dec_enc];rfl
 enc_dec x r h:=by
  split at h
  ·split at h
   ·rename_i he
    rw[Option.bind_eq_some_iff] at h
    obtain⟨a,ha,h⟩:=h
    rw[Option.map_eq_some_iff] at h
    obtain⟨c,hc,rfl⟩:=h
    rw[Row.enc_dec _ _ ha,Row.enc_dec _ _ hc,he]
   ·cases h
  ·cases h
@[simp] theorem enc_cloh (r:CloH):Arg.enc r=.clo 47 [.ipt 0 (Row.enc r.m),.ipt 0 (Row.enc r.q)]:=rfl
@[simp] theorem dec_cloh (m:Model) (q:Query):(Arg.dec (.clo 47 [.ipt 0 [.int .i64 m.dim,.int .i64 m.classes,.int .i64 m.bias.b0,.int .i64 m.bias.b1,.int .i64 m.bias.b2,.lst m.trees.length (encL m.trees)],.ipt 0 [.int .i64 q.kind,.int .i64 q.cls,.int .i64 q.region.s0.lo,.int .i64 q.region.s0.hi,.int .i64 q.region.s1.lo,.int .i64 q.region.s1.hi,.int .i64 q.region.s2.lo,.int .i64 q.region.s2.hi,.int .i64 q.region.s3.lo,.int .i64 q.region.s3.hi,.int .i64 q.region.s4.lo,.int .i64 q.region.s4.hi,.int .i64 q.lo,.int .i64 q.hi,.int .i64 q.feature,.bool q.falls,.int .i64 q.budget]]):Option CloH)=some ⟨m,q⟩:=Arg.dec_enc (⟨m,q⟩:CloH)
end Go.Co
/- CO: what a statement's reading of an argument says, type by type (written by mkCoSh.py). -/
namespace Go.Co
open Go.Am Go.RowKit
theorem okR_nil {xs:List AV} (h:okR [] xs):xs=[]:=by
 cases xs with
 | nil=>rfl
 | cons x xs=>simp[okR] at h
theorem okR_cons {s:Shp} {ss:List Shp} {xs:List AV} (h:okR (s::ss) xs):∃ x ys,xs=x::ys∧okS s x∧okR ss ys:=by
 cases xs with
 | nil=>simp[okR] at h
 | cons x xs=>simp only[okR] at h;exact⟨x,xs,rfl,h.1,h.2⟩
theorem okS_int {x:AV} (h:okS (.int .i64) x):∃ n,x=.int .i64 n∧ok64 n:=by
 cases x<;>simp only[okS] at h
 obtain⟨rfl,h1,h2⟩:=h
 exact⟨_,rfl,h1,h2⟩
theorem okS_word {x:AV} (h:okS (.int .u64) x):∃ n,x=.int .u64 n∧okW n:=by
 cases x<;>simp only[okS] at h
 obtain⟨rfl,h1,h2⟩:=h
 exact⟨_,rfl,h1,Int.lt_of_le_of_lt h2 (by decide)⟩
theorem okS_bool {x:AV} (h:okS .bool x):∃ b,x=.bool b:=by
 cases x<;>simp only[okS] at h
 exact⟨_,rfl⟩
class Sh (α:Type) [Row α] where
 ss:List Shp
 good:α→Prop
 len:ss.length=Row.sz α
 read:∀ xs,okR ss xs→∃ a,xs=Row.enc a∧good a
theorem rows_read {α:Type} [Row α] [Sh α]:∀(n:Nat) (xs:List AV),xs.length=n*Row.sz α→(∀ i,i<n→okR (Sh.ss α) ((xs.drop (i*Row.sz α)).take (Row.sz α)))→∃ l:List α,l.length=n∧xs=encL l∧∀ a∈l,Sh.good a
 | 0,xs,h,_=>⟨[],rfl,by rw[encL_nil];exact List.eq_nil_of_length_eq_zero (by simpa using h),by simp⟩
 | n+1,xs,h,hr=>by
  have hp:=Row.pos (α:=α)
  obtain⟨a,ha,hg⟩:=Sh.read _ (hr 0 (by omega))
  rw[Nat.succ_mul] at h
  obtain⟨l,hl,hx,hgl⟩:=rows_read (α:=α) n (xs.drop (Row.sz α)) (by rw[List.length_drop];omega) (fun i hi=>by
   have:=hr (i+1) (by omega)
   rw[Nat.succ_mul,Nat.add_comm,← List.drop_drop] at this
   exact this)
  refine⟨a::l,by simp[hl], ?_, ?_⟩
  ·rw[encL_cons,← hx]
   simp only[Nat.zero_mul,List.drop_zero] at ha
   rw[← ha,List.take_append_drop]
  ·intro b hb
   rcases List.mem_cons.1 hb with rfl|hb
   ·exact hg
   ·exact hgl b hb
theorem okS_list {α:Type} [Row α] [Sh α] {x:AV} (h:okS (.sl (Sh.ss α)) x):∃ l:List α,x=.lst l.length (encL l)∧(∀ a∈l,Sh.good a)∧l.length≤maxLen:=by
 cases x<;>simp only[okS] at h
 rename_i n xs
 rw[Sh.len] at h
 obtain⟨l,rfl,rfl,hg⟩:=rows_read (α:=α) n xs h.2.1 h.2.2
 exact⟨l,rfl,hg,h.1⟩
instance:Sh Int where
 ss:=[.int .i64]
 good n:=ok64 n
 len:=rfl
 read xs h:=by
  obtain⟨x,xs,rfl,h0,h⟩:=okR_cons h
  obtain rfl:=okR_nil h
  obtain⟨n,rfl,b⟩:=okS_int h0
  exact⟨n,rfl,b⟩
instance:Sh Word where
 ss:=[.int .u64]
 good n:=okW n.v
 len:=rfl
 read xs h:=by
  obtain⟨x,xs,rfl,h0,h⟩:=okR_cons h
  obtain rfl:=okR_nil h
  obtain⟨n,rfl,b⟩:=okS_word h0
  exact⟨⟨n⟩,rfl,b⟩
instance:Sh Span where
 ss:=[.int .i64,.int .i64]
 good a:=ok64 a.lo∧ok64 a.hi
 len:=rfl
 read xs h:=by
  obtain⟨x0,xs,rfl,h0,h⟩:=okR_cons h
  obtain⟨x1,xs,rfl,h1,h⟩:=okR_cons h
  obtain rfl:=okR_nil h
  obtain⟨v0,rfl,b0⟩:=okS_int h0
  obtain⟨v1,rfl,b1⟩:=okS_int h1
  exact⟨⟨v0,v1⟩,rfl,b0,b1⟩
instance:Sh Box where
 ss:=[.int .i64,.int .i64,.int .i64,.int .i64,.int .i64,.int .i64,.int .i64,.int .i64,.int .i64,.int .i64]
 good a:=ok64 a.s0.lo∧ok64 a.s0.hi∧ok64 a.s1.lo∧ok64 a.s1.hi∧ok64 a.s2.lo∧ok64 a.s2.hi∧ok64 a.s3.lo∧ok64 a.s3.hi∧ok64 a.s4.lo∧ok64 a.s4.hi
 len:=rfl
 read xs h:=by
  obtain⟨x0,xs,rfl,h0,h⟩:=okR_cons h
  obtain⟨x1,xs,rfl,h1,h⟩:=okR_cons h
  obtain⟨x2,xs,rfl,h2,h⟩:=okR_cons h
  obtain⟨x3,xs,rfl,h3,h⟩:=okR_cons h
  obtain⟨x4,xs,rfl,h4,h⟩:=okR_cons h
  obtain⟨x5,xs,rfl,h5,h⟩:=okR_cons h
  obtain⟨x6,xs,rfl,h6,h⟩:=okR_cons h
  obtain⟨x7,xs,rfl,h7,h⟩:=okR_cons h
  obtain⟨x8,xs,rfl,h8,h⟩:=okR_cons h
  obtain⟨x9,xs,rfl,h9,h⟩:=okR_cons h
  obtain rfl:=okR_nil h
  obtain⟨v0,rfl,b0⟩:=okS_int h0
  obtain⟨v1,rfl,b1⟩:=okS_int h1
  obtain⟨v2,rfl,b2⟩:=okS_int h2
  obtain⟨v3,rfl,b3⟩:=okS_int h3
  obtain⟨v4,rfl,b4⟩:=okS_int h4
  obtain⟨v5,rfl,b5⟩:=okS_int h5
  obtain⟨v6,rfl,b6⟩:=okS_int h6
  obtain⟨v7,rfl,b7⟩:=okS_int h7
  obtain⟨v8,rfl,b8⟩:=okS_int h8
  obtain⟨v9,rfl,b9⟩:=okS_int h9
  exact⟨⟨⟨v0,v1⟩,⟨v2,v3⟩,⟨v4,v5⟩,⟨v6,v7⟩,⟨v8,v9⟩⟩,rfl,b0,b1,b2,b3,b4,b5,b6,b7,b8,b9⟩
instance:Sh Point where
 ss:=[.int .i64,.int .i64,.int .i64,.int .i64]
 good a:=ok64 a.p0∧ok64 a.p1∧ok64 a.p2∧ok64 a.p3
 len:=rfl
 read xs h:=by
  obtain⟨x0,xs,rfl,h0,h⟩:=okR_cons h
  obtain⟨x1,xs,rfl,h1,h⟩:=okR_cons h
  obtain⟨x2,xs,rfl,h2,h⟩:=okR_cons h
  obtain⟨x3,xs,rfl,h3,h⟩:=okR_cons h
  obtain rfl:=okR_nil h
  obtain⟨v0,rfl,b0⟩:=okS_int h0
  obtain⟨v1,rfl,b1⟩:=okS_int h1
  obtain⟨v2,rfl,b2⟩:=okS_int h2
  obtain⟨v3,rfl,b3⟩:=okS_int h3
  exact⟨⟨v0,v1,v2,v3⟩,rfl,b0,b1,b2,b3⟩
instance:Sh Bias where
 ss:=[.int .i64,.int .i64,.int .i64]
 good a:=ok64 a.b0∧ok64 a.b1∧ok64 a.b2
 len:=rfl
 read xs h:=by
  obtain⟨x0,xs,rfl,h0,h⟩:=okR_cons h
  obtain⟨x1,xs,rfl,h1,h⟩:=okR_cons h
  obtain⟨x2,xs,rfl,h2,h⟩:=okR_cons h
  obtain rfl:=okR_nil h
  obtain⟨v0,rfl,b0⟩:=okS_int h0
  obtain⟨v1,rfl,b1⟩:=okS_int h1
  obtain⟨v2,rfl,b2⟩:=okS_int h2
  exact⟨⟨v0,v1,v2⟩,rfl,b0,b1,b2⟩
instance:Sh Node where
 ss:=[.bool,.int .i64,.int .i64,.int .i64,.int .i64,.int .i64]
 good a:=True∧ok64 a.value∧ok64 a.feature∧ok64 a.cut∧ok64 a.left∧ok64 a.right
 len:=rfl
 read xs h:=by
  obtain⟨x0,xs,rfl,h0,h⟩:=okR_cons h
  obtain⟨x1,xs,rfl,h1,h⟩:=okR_cons h
  obtain⟨x2,xs,rfl,h2,h⟩:=okR_cons h
  obtain⟨x3,xs,rfl,h3,h⟩:=okR_cons h
  obtain⟨x4,xs,rfl,h4,h⟩:=okR_cons h
  obtain⟨x5,xs,rfl,h5,h⟩:=okR_cons h
  obtain rfl:=okR_nil h
  obtain⟨v0,rfl⟩:=okS_bool h0
  obtain⟨v1,rfl,b1⟩:=okS_int h1
  obtain⟨v2,rfl,b2⟩:=okS_int h2
  obtain⟨v3,rfl,b3⟩:=okS_int h3
  obtain⟨v4,rfl,b4⟩:=okS_int h4
  obtain⟨v5,rfl,b5⟩:=okS_int h5
  exact⟨⟨v0,v1,v2,v3,v4,v5⟩,rfl,trivial,b1,b2,b3,b4,b5⟩
instance:Sh Tree where
 ss:=[.int .i64,.sl (Sh.ss Word)]
 good a:=ok64 a.cls∧((∀ x∈a.nodes,Sh.good x)∧a.nodes.length≤maxLen)
 len:=rfl
 read xs h:=by
  obtain⟨x0,xs,rfl,h0,h⟩:=okR_cons h
  obtain⟨x1,xs,rfl,h1,h⟩:=okR_cons h
  obtain rfl:=okR_nil h
  obtain⟨v0,rfl,b0⟩:=okS_int h0
  obtain⟨v1,rfl,b1⟩:=okS_list (α:=Word) h1
  exact⟨⟨v0,v1⟩,rfl,b0,b1⟩
instance:Sh Model where
 ss:=[.int .i64,.int .i64,.int .i64,.int .i64,.int .i64,.sl (Sh.ss Tree)]
 good a:=ok64 a.dim∧ok64 a.classes∧ok64 a.bias.b0∧ok64 a.bias.b1∧ok64 a.bias.b2∧((∀ x∈a.trees,Sh.good x)∧a.trees.length≤maxLen)
 len:=rfl
 read xs h:=by
  obtain⟨x0,xs,rfl,h0,h⟩:=okR_cons h
  obtain⟨x1,xs,rfl,h1,h⟩:=okR_cons h
  obtain⟨x2,xs,rfl,h2,h⟩:=okR_cons h
  obtain⟨x3,xs,rfl,h3,h⟩:=okR_cons h
  obtain⟨x4,xs,rfl,h4,h⟩:=okR_cons h
  obtain⟨x5,xs,rfl,h5,h⟩:=okR_cons h
  obtain rfl:=okR_nil h
  obtain⟨v0,rfl,b0⟩:=okS_int h0
  obtain⟨v1,rfl,b1⟩:=okS_int h1
  obtain⟨v2,rfl,b2⟩:=okS_int h2
  obtain⟨v3,rfl,b3⟩:=okS_int h3
  obtain⟨v4,rfl,b4⟩:=okS_int h4
  obtain⟨v5,rfl,b5⟩:=okS_list (α:=Tree) h5
  exact⟨⟨v0,v1,⟨v2,v3,v4⟩,v5⟩,rfl,b0,b1,b2,b3,b4,b5⟩
instance:Sh Piece where
 ss:=[.int .i64,.int .i64,.int .i64,.int .i64,.int .i64,.int .i64,.int .i64,.int .i64,.int .i64,.int .i64,.int .i64]
 good a:=ok64 a.box.s0.lo∧ok64 a.box.s0.hi∧ok64 a.box.s1.lo∧ok64 a.box.s1.hi∧ok64 a.box.s2.lo∧ok64 a.box.s2.hi∧ok64 a.box.s3.lo∧ok64 a.box.s3.hi∧ok64 a.box.s4.lo∧ok64 a.box.s4.hi∧ok64 a.value
 len:=rfl
 read xs h:=by
  obtain⟨x0,xs,rfl,h0,h⟩:=okR_cons h
  obtain⟨x1,xs,rfl,h1,h⟩:=okR_cons h
  obtain⟨x2,xs,rfl,h2,h⟩:=okR_cons h
  obtain⟨x3,xs,rfl,h3,h⟩:=okR_cons h
  obtain⟨x4,xs,rfl,h4,h⟩:=okR_cons h
  obtain⟨x5,xs,rfl,h5,h⟩:=okR_cons h
  obtain⟨x6,xs,rfl,h6,h⟩:=okR_cons h
  obtain⟨x7,xs,rfl,h7,h⟩:=okR_cons h
  obtain⟨x8,xs,rfl,h8,h⟩:=okR_cons h
  obtain⟨x9,xs,rfl,h9,h⟩:=okR_cons h
  obtain⟨x10,xs,rfl,h10,h⟩:=okR_cons h
  obtain rfl:=okR_nil h
  obtain⟨v0,rfl,b0⟩:=okS_int h0
  obtain⟨v1,rfl,b1⟩:=okS_int h1
  obtain⟨v2,rfl,b2⟩:=okS_int h2
  obtain⟨v3,rfl,b3⟩:=okS_int h3
  obtain⟨v4,rfl,b4⟩:=okS_int h4
  obtain⟨v5,rfl,b5⟩:=okS_int h5
  obtain⟨v6,rfl,b6⟩:=okS_int h6
  obtain⟨v7,rfl,b7⟩:=okS_int h7
  obtain⟨v8,rfl,b8⟩:=okS_int h8
  obtain⟨v9,rfl,b9⟩:=okS_int h9
  obtain⟨v10,rfl,b10⟩:=okS_int h10
  exact⟨⟨⟨⟨v0,v1⟩,⟨v2,v3⟩,⟨v4,v5⟩,⟨v6,v7⟩,⟨v8,v9⟩⟩,v10⟩,rfl,b0,b1,b2,b3,b4,b5,b6,b7,b8,b9,b10⟩
instance:Sh Step where
 ss:=[.bool,.int .i64,.int .i64]
 good a:=True∧ok64 a.place∧ok64 a.cut
 len:=rfl
 read xs h:=by
  obtain⟨x0,xs,rfl,h0,h⟩:=okR_cons h
  obtain⟨x1,xs,rfl,h1,h⟩:=okR_cons h
  obtain⟨x2,xs,rfl,h2,h⟩:=okR_cons h
  obtain rfl:=okR_nil h
  obtain⟨v0,rfl⟩:=okS_bool h0
  obtain⟨v1,rfl,b1⟩:=okS_int h1
  obtain⟨v2,rfl,b2⟩:=okS_int h2
  exact⟨⟨v0,v1,v2⟩,rfl,trivial,b1,b2⟩
instance:Sh Query where
 ss:=[.int .i64,.int .i64,.int .i64,.int .i64,.int .i64,.int .i64,.int .i64,.int .i64,.int .i64,.int .i64,.int .i64,.int .i64,.int .i64,.int .i64,.int .i64,.bool,.int .i64]
 good a:=ok64 a.kind∧ok64 a.cls∧ok64 a.region.s0.lo∧ok64 a.region.s0.hi∧ok64 a.region.s1.lo∧ok64 a.region.s1.hi∧ok64 a.region.s2.lo∧ok64 a.region.s2.hi∧ok64 a.region.s3.lo∧ok64 a.region.s3.hi∧ok64 a.region.s4.lo∧ok64 a.region.s4.hi∧ok64 a.lo∧ok64 a.hi∧ok64 a.feature∧True∧ok64 a.budget
 len:=rfl
 read xs h:=by
  obtain⟨x0,xs,rfl,h0,h⟩:=okR_cons h
  obtain⟨x1,xs,rfl,h1,h⟩:=okR_cons h
  obtain⟨x2,xs,rfl,h2,h⟩:=okR_cons h
  obtain⟨x3,xs,rfl,h3,h⟩:=okR_cons h
  obtain⟨x4,xs,rfl,h4,h⟩:=okR_cons h
  obtain⟨x5,xs,rfl,h5,h⟩:=okR_cons h
  obtain⟨x6,xs,rfl,h6,h⟩:=okR_cons h
  obtain⟨x7,xs,rfl,h7,h⟩:=okR_cons h
  obtain⟨x8,xs,rfl,h8,h⟩:=okR_cons h
  obtain⟨x9,xs,rfl,h9,h⟩:=okR_cons h
  obtain⟨x10,xs,rfl,h10,h⟩:=okR_cons h
  obtain⟨x11,xs,rfl,h11,h⟩:=okR_cons h
  obtain⟨x12,xs,rfl,h12,h⟩:=okR_cons h
  obtain⟨x13,xs,rfl,h13,h⟩:=okR_cons h
  obtain⟨x14,xs,rfl,h14,h⟩:=okR_cons h
  obtain⟨x15,xs,rfl,h15,h⟩:=okR_cons h
  obtain⟨x16,xs,rfl,h16,h⟩:=okR_cons h
  obtain rfl:=okR_nil h
  obtain⟨v0,rfl,b0⟩:=okS_int h0
  obtain⟨v1,rfl,b1⟩:=okS_int h1
  obtain⟨v2,rfl,b2⟩:=okS_int h2
  obtain⟨v3,rfl,b3⟩:=okS_int h3
  obtain⟨v4,rfl,b4⟩:=okS_int h4
  obtain⟨v5,rfl,b5⟩:=okS_int h5
  obtain⟨v6,rfl,b6⟩:=okS_int h6
  obtain⟨v7,rfl,b7⟩:=okS_int h7
  obtain⟨v8,rfl,b8⟩:=okS_int h8
  obtain⟨v9,rfl,b9⟩:=okS_int h9
  obtain⟨v10,rfl,b10⟩:=okS_int h10
  obtain⟨v11,rfl,b11⟩:=okS_int h11
  obtain⟨v12,rfl,b12⟩:=okS_int h12
  obtain⟨v13,rfl,b13⟩:=okS_int h13
  obtain⟨v14,rfl,b14⟩:=okS_int h14
  obtain⟨v15,rfl⟩:=okS_bool h15
  obtain⟨v16,rfl,b16⟩:=okS_int h16
  exact⟨⟨v0,v1,⟨⟨v2,v3⟩,⟨v4,v5⟩,⟨v6,v7⟩,⟨v8,v9⟩,⟨v10,v11⟩⟩,v12,v13,v14,v15,v16⟩,rfl,b0,b1,b2,b3,b4,b5,b6,b7,b8,b9,b10,b11,b12,b13,b14,trivial,b16⟩
instance:Sh Verdict where
 ss:=[.int .i64,.sl (Sh.ss Step),.int .i64,.int .i64,.int .i64,.int .i64,.int .i64,.int .i64]
 good a:=ok64 a.kind∧((∀ x∈a.proof,Sh.good x)∧a.proof.length≤maxLen)∧ok64 a.witness.p0∧ok64 a.witness.p1∧ok64 a.witness.p2∧ok64 a.witness.p3∧ok64 a.twin∧ok64 a.spent
 len:=rfl
 read xs h:=by
  obtain⟨x0,xs,rfl,h0,h⟩:=okR_cons h
  obtain⟨x1,xs,rfl,h1,h⟩:=okR_cons h
  obtain⟨x2,xs,rfl,h2,h⟩:=okR_cons h
  obtain⟨x3,xs,rfl,h3,h⟩:=okR_cons h
  obtain⟨x4,xs,rfl,h4,h⟩:=okR_cons h
  obtain⟨x5,xs,rfl,h5,h⟩:=okR_cons h
  obtain⟨x6,xs,rfl,h6,h⟩:=okR_cons h
  obtain⟨x7,xs,rfl,h7,h⟩:=okR_cons h
  obtain rfl:=okR_nil h
  obtain⟨v0,rfl,b0⟩:=okS_int h0
  obtain⟨v1,rfl,b1⟩:=okS_list (α:=Step) h1
  obtain⟨v2,rfl,b2⟩:=okS_int h2
  obtain⟨v3,rfl,b3⟩:=okS_int h3
  obtain⟨v4,rfl,b4⟩:=okS_int h4
  obtain⟨v5,rfl,b5⟩:=okS_int h5
  obtain⟨v6,rfl,b6⟩:=okS_int h6
  obtain⟨v7,rfl,b7⟩:=okS_int h7
  exact⟨⟨v0,v1,⟨v2,v3,v4,v5⟩,v6,v7⟩,rfl,b0,b1,b2,b3,b4,b5,b6,b7⟩
instance:Sh KTree where
 ss:=[.int .i64,.sl (Sh.ss Int),.sl (Sh.ss Int),.sl (Sh.ss Int),.sl (Sh.ss Int)]
 good a:=ok64 a.cls∧((∀ x∈a.part,Sh.good x)∧a.part.length≤maxLen)∧((∀ x∈a.dir,Sh.good x)∧a.dir.length≤maxLen)∧((∀ x∈a.cut,Sh.good x)∧a.cut.length≤maxLen)∧((∀ x∈a.val,Sh.good x)∧a.val.length≤maxLen)
 len:=rfl
 read xs h:=by
  obtain⟨x0,xs,rfl,h0,h⟩:=okR_cons h
  obtain⟨x1,xs,rfl,h1,h⟩:=okR_cons h
  obtain⟨x2,xs,rfl,h2,h⟩:=okR_cons h
  obtain⟨x3,xs,rfl,h3,h⟩:=okR_cons h
  obtain⟨x4,xs,rfl,h4,h⟩:=okR_cons h
  obtain rfl:=okR_nil h
  obtain⟨v0,rfl,b0⟩:=okS_int h0
  obtain⟨v1,rfl,b1⟩:=okS_list (α:=Int) h1
  obtain⟨v2,rfl,b2⟩:=okS_list (α:=Int) h2
  obtain⟨v3,rfl,b3⟩:=okS_list (α:=Int) h3
  obtain⟨v4,rfl,b4⟩:=okS_list (α:=Int) h4
  exact⟨⟨v0,v1,v2,v3,v4⟩,rfl,b0,b1,b2,b3,b4⟩
instance:Sh Forest where
 ss:=[.int .i64,.int .i64,.sl (Sh.ss Int),.sl (Sh.ss KTree)]
 good a:=ok64 a.dim∧ok64 a.classes∧((∀ x∈a.bias,Sh.good x)∧a.bias.length≤maxLen)∧((∀ x∈a.trees,Sh.good x)∧a.trees.length≤maxLen)
 len:=rfl
 read xs h:=by
  obtain⟨x0,xs,rfl,h0,h⟩:=okR_cons h
  obtain⟨x1,xs,rfl,h1,h⟩:=okR_cons h
  obtain⟨x2,xs,rfl,h2,h⟩:=okR_cons h
  obtain⟨x3,xs,rfl,h3,h⟩:=okR_cons h
  obtain rfl:=okR_nil h
  obtain⟨v0,rfl,b0⟩:=okS_int h0
  obtain⟨v1,rfl,b1⟩:=okS_int h1
  obtain⟨v2,rfl,b2⟩:=okS_list (α:=Int) h2
  obtain⟨v3,rfl,b3⟩:=okS_list (α:=KTree) h3
  exact⟨⟨v0,v1,v2,v3⟩,rfl,b0,b1,b2,b3⟩
instance:Sh Ask where
 ss:=[.int .i64,.int .i64,.int .i64,.int .i64,.int .i64,.int .i64,.bool,.sl (Sh.ss Int)]
 good a:=ok64 a.kind∧ok64 a.cls∧ok64 a.lo∧ok64 a.size∧ok64 a.feature∧ok64 a.budget∧True∧((∀ x∈a.spans,Sh.good x)∧a.spans.length≤maxLen)
 len:=rfl
 read xs h:=by
  obtain⟨x0,xs,rfl,h0,h⟩:=okR_cons h
  obtain⟨x1,xs,rfl,h1,h⟩:=okR_cons h
  obtain⟨x2,xs,rfl,h2,h⟩:=okR_cons h
  obtain⟨x3,xs,rfl,h3,h⟩:=okR_cons h
  obtain⟨x4,xs,rfl,h4,h⟩:=okR_cons h
  obtain⟨x5,xs,rfl,h5,h⟩:=okR_cons h
  obtain⟨x6,xs,rfl,h6,h⟩:=okR_cons h
  obtain⟨x7,xs,rfl,h7,h⟩:=okR_cons h
  obtain rfl:=okR_nil h
  obtain⟨v0,rfl,b0⟩:=okS_int h0
  obtain⟨v1,rfl,b1⟩:=okS_int h1
  obtain⟨v2,rfl,b2⟩:=okS_int h2
  obtain⟨v3,rfl,b3⟩:=okS_int h3
  obtain⟨v4,rfl,b4⟩:=okS_int h4
  obtain⟨v5,rfl,b5⟩:=okS_int h5
  obtain⟨v6,rfl⟩:=okS_bool h6
  obtain⟨v7,rfl,b7⟩:=okS_list (α:=Int) h7
  exact⟨⟨v0,v1,v2,v3,v4,v5,v6,v7⟩,rfl,b0,b1,b2,b3,b4,b5,trivial,b7⟩
instance:Sh Cutting where
 ss:=[.sl (Sh.ss Int),.sl (Sh.ss Int)]
 good a:=((∀ x∈a.place,Sh.good x)∧a.place.length≤maxLen)∧((∀ x∈a.cut,Sh.good x)∧a.cut.length≤maxLen)
 len:=rfl
 read xs h:=by
  obtain⟨x0,xs,rfl,h0,h⟩:=okR_cons h
  obtain⟨x1,xs,rfl,h1,h⟩:=okR_cons h
  obtain rfl:=okR_nil h
  obtain⟨v0,rfl,b0⟩:=okS_list (α:=Int) h0
  obtain⟨v1,rfl,b1⟩:=okS_list (α:=Int) h1
  exact⟨⟨v0,v1⟩,rfl,b0,b1⟩
variable {P:Program} {t:TypeId} {x:AV}
theorem arg_agg {α:Type} [Row α] [Sh α] (h1:isAggT P t=true) (h2:shp P 20 t=some (Sh.ss α)) (h:argOk P t x):∃ a:α,x=.agg (Row.enc a)∧Sh.good a:=by
 unfold argOk at h
 rw[h1] at h
 obtain⟨xs,ss,rfl,hs,hr⟩:=h
 rw[h2] at hs
 cases hs
 obtain⟨a,rfl,hg⟩:=Sh.read _ hr
 exact⟨a,rfl,hg⟩
theorem argsOk_cons {t:TypeId} {ts:List TypeId} {xs:List AV} (h:argsOk P (t::ts) xs):∃ x ys,xs=x::ys∧argOk P t x∧argsOk P ts ys:=by
 cases xs with
 | nil=>simp[argsOk] at h
 | cons x xs=>simp only[argsOk] at h;exact⟨x,xs,rfl,h.1,h.2⟩
theorem argsOk_nil {xs:List AV} (h:argsOk P [] xs):xs=[]:=by
 cases xs with
 | nil=>rfl
 | cons x xs=>simp[argsOk] at h
end Go.Co
/- CO: pieces that meet, groups, levels. -/
namespace Go.Co
open Go.Am
instance rowList {α:Type} [Row α]:Row (List α) where
 sz:=1
 enc l:=[.lst l.length (encL l)]
 dec xs:=match xs with
  | [.lst n ys]=>decL α n ys
  | _=>none
 pos:=by decide
 len _:=rfl
 dec_enc l:=decL_encL l
 enc_dec xs a h:=by
  split at h
  ·obtain⟨h1,h2⟩:=decL_some _ _ _ h
   rw[h1,h2]
  ·cases h
@[simp] theorem enc_rowList {α:Type} [Row α] (l:List α):Row.enc l=[.lst l.length (encL l)]:=rfl
@[simp] theorem sz_rowList {α:Type} [Row α]:Row.sz (List α)=1:=rfl
instance {α:Type} [Row α]:Cells (List α):=⟨fun _=>rfl⟩
def meetB (a b:Box):Box:=⟨meetS a.s0 b.s0,meetS a.s1 b.s1,meetS a.s2 b.s2,meetS a.s3 b.s3,meetS a.s4 b.s4⟩
def meetF (x y:Piece):Option Piece:=if (meetB x.box y.box).empty then none else some ⟨meetB x.box y.box,x.value+y.value⟩
def row (x:Piece) (b:List Piece):List Piece:=b.filterMap (meetF x)
def smallG (k:Nat) (gs:List (List Piece)):Prop:=∀ g∈gs,(∀ x∈g,-(2:Int)^k≤x.value∧x.value≤(2:Int)^k)∧g.length≤1073741824
theorem pow_up {j k:Nat} (h:j≤k):(2:Int)^j≤2^k:=by
 have:(2:Nat)^j≤2^k:=Nat.pow_le_pow_right (by omega) h
 exact_mod_cast this
theorem smallG.up {j k:Nat} (h:j≤k) {gs:List (List Piece)} (hs:smallG j gs):smallG k gs:=by
 intro g hg
 refine⟨fun x hx=>?_,(hs g hg).2⟩
 have h1:=(hs g hg).1 x hx
 have h2:=pow_up h
 omega
end Go.Co
/- CO: what breaks in a cell breaks at its corner; parts of a region. -/
set_option maxHeartbeats 16000000
set_option maxRecDepth 100000
namespace Go.Co
open Go.Am Go.Proofs
attribute [-simp] Go.Am.eff_gcall
instance {α:Type} [Row α] [Sh α]:Sh (List α) where
 ss:=[.sl (Sh.ss α)]
 good l:=(∀ a∈l,Sh.good a)∧l.length≤maxLen
 len:=rfl
 read xs h:=by
  obtain⟨x0,xs,rfl,h0,h⟩:=okR_cons h
  obtain rfl:=okR_nil h
  obtain⟨l,rfl,hg,hl⟩:=okS_list h0
  exact⟨l,rfl,hg,hl⟩
def c51_23:ACode:=.seq (.ops [⟨some 3,.box (.t 0) 10,none,[]⟩,⟨some 4,.box (.t 1) 4,none,[]⟩,⟨some 6,.mv (.c (.bool false)),none,[]⟩] [2,3,4]) (.seq (.seq (.ops [⟨some 9,.load 4 true (.t 4),none,[4]⟩,⟨some 10,.mv (.c (.int .i64 0)),none,[]⟩] [2,3,9,10]) (.block 0 (.loop (.keep [2,3,9,10] [3] (.seq (.ops [⟨some 11,.bin .lss (.t 10) (.c (.int .i64 4)),none,[]⟩] [2,3,9,10,11]) (.seq (.cond (.t 11) .skip (.exit 0)) (.seq (.block 1 (.seq (.ops [⟨some 12,.mv (.t 10),none,[]⟩,⟨some 13,.idx (.t 9) (.t 10) 1 4 false,none,[]⟩,⟨some 7,.mv (.t 12),none,[]⟩,⟨some 8,.mv (.t 13),none,[]⟩] [2,3,7,8,9,10]) (.seq (.ops [⟨some 14,.mv (.t 7),none,[]⟩,⟨some 15,.iad (.t 3) (.t 14) 2 5,none,[3]⟩,⟨some 16,.load 2 true (.t 15),none,[3]⟩,⟨some 17,.mv (.t 8),none,[]⟩,⟨some 18,.call 41 [.t 16,.t 17],none,[]⟩,⟨some 19,.un .not (.t 18),none,[]⟩] [2,3,9,10,19]) (.cond (.t 19) (.seq (.ops [⟨some 6,.mv (.c (.bool false)),none,[]⟩] [6]) .ret) .skip)))) (.ops [⟨some 20,.bin .add (.t 10) (.c (.int .i64 1)),none,[]⟩,⟨some 10,.mv (.t 20),none,[]⟩] [2,3,9,10])))))))) (.seq (.ops [⟨some 21,.iad (.t 3) (.c (.int .i64 4)) 2 5,none,[3]⟩,⟨some 22,.load 2 true (.t 21),none,[3]⟩,⟨some 23,.mv (.t 2),none,[]⟩,⟨some 24,.call 41 [.t 22,.t 23],none,[]⟩,⟨some 6,.mv (.t 24),none,[]⟩] [6]) .ret))
theorem r51_23:type_of% (rr c51_23.eq_1):=rr rfl
def a51:AFun:=⟨3,25,c51_23,[.t 6]⟩
attribute [simp] r51_23
theorem m51:mFun Tryz.prog Tryz.f51 a51=true:=by decide +kernel
theorem point_set_get (p:Point) {k i:Int} (n:Int) (h0:0≤k) (h4:k<4) (i0:0≤i) (i4:i<4):(p.set k n).get i=if i=k then n else p.get i:=by
 have h1:k=0∨k=1∨k=2∨k=3:=by omega
 have h2:i=0∨i=1∨i=2∨i=3:=by omega
 rcases h1 with rfl|rfl|rfl|rfl<;>rcases h2 with rfl|rfl|rfl|rfl<;>rfl
def hasB (b:Box) (p:Point) (t:Int):Bool:=b.s0.has p.p0&&b.s1.has p.p1&&b.s2.has p.p2&&b.s3.has p.p3&&b.s4.has t
theorem hasB_iff {b:Box} {p:Point} {t:Int}:hasB b p t=true↔InB b p t:=by
 unfold hasB Span.has InB InS
 simp only[Bool.and_eq_true,decide_eq_true_eq]
 constructor
 ·rintro⟨⟨⟨⟨h0,h1⟩,h2⟩,h3⟩,h4⟩;exact⟨h0,h1,h2,h3,h4⟩
 ·rintro⟨h0,h1,h2,h3,h4⟩;exact⟨⟨⟨⟨h0,h1⟩,h2⟩,h3⟩,h4⟩
theorem runs_Has (b:Box) (p:Point) (t:Int) (c:Bool) (h:some (hasB b p t)=some c):Runs (tbl [(41,sp2 fun (s:Span) n=>some (s.has n))]) a51 [Arg.enc b,Arg.enc p,Arg.enc t] (Arg.enc c):=by
 cases h
 refine⟨rfl,fun g=>run_def ?_⟩
 unfold a51
 cases h0:b.s0.has p.p0
 case false=>simp -implicitDefEqProofs [hasB,run_round,h0]
 cases h1:b.s1.has p.p1
 case false=>simp -implicitDefEqProofs [hasB,run_round,h0,h1]
 cases h2:b.s2.has p.p2
 case false=>simp -implicitDefEqProofs [hasB,run_round,h0,h1,h2]
 cases h3:b.s3.has p.p3
 case false=>simp -implicitDefEqProofs [hasB,run_round,h0,h1,h2,h3]
 simp -implicitDefEqProofs [hasB,run_round,h0,h1,h2,h3]
theorem c_Has:Contract Tryz.prog 51 (sp3 fun b p t=>some (hasB b p t)) :=
 contract_of_runs mixed (tbl_cons c_sHas tbl_nil) Tryz.func51 m51 (sp3_runs runs_Has)
end Go.Co
