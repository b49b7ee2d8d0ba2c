/- CO: texts of this claim, one behind the other. -/
import Derived.Test.YtlbfmeijjgphfaaGreatDoorCz5
import Derived.Test.YtlbfmeijjgphfaaGreatDoorCz4
import Derived.Test.YtlbfmeijjgphfaaGreatDoorCz3
set_option linter.unusedVariables false
set_option linter.unusedSimpArgs false
/- CO: right trees and right models: told of any. -/
set_option maxHeartbeats 16000000
set_option maxRecDepth 100000
namespace Go.Co
open Go.Am Go.Proofs
open Classical in
noncomputable def rightT (l:List Word) (dim:Int):Bool:=decide (RT l dim)
theorem rightT_true {l:List Word} {dim:Int}:rightT l dim=true↔RT l dim:=by unfold rightT;simp
theorem rightT_false {l:List Word} {dim:Int}:rightT l dim=false↔¬ RT l dim:=by unfold rightT;simp
def okL (l:List Word):Prop:=∀ w∈l,okW w.v
noncomputable def TreeRightT (l:List Word) (dim:Int):Option Bool:=Part (okL l∧l.length≤maxN) (rightT l dim)
def Pre (l:List Word) (dim:Int) (n:Nat):Prop:=∀(i:Nat) (h:i<l.length),i<n→(unpack l[i]).2=true∧((nd l[i]).leaf=false→(nd l[i]).feature<dim∧(nd l[i]).left≠(nd l[i]).right∧(i:Int)<(nd l[i]).left∧(nd l[i]).left<l.length∧(i:Int)<(nd l[i]).right∧(nd l[i]).right<l.length)
theorem Pre.zero {l:List Word} {dim:Int}:Pre l dim 0:=fun i h hi=>by omega
theorem Pre.leaf {l:List Word} {dim:Int} {i:Nat} (h:Pre l dim i) (hi:i<l.length) (hok:(unpack l[i]).2=true) (hl:(ndAt l i).leaf=true):Pre l dim (i+1):=by
 intro j hj hji
 by_cases e:j=i
 ·subst e
  rw[ndAt_lt hi] at hl
  exact⟨hok,fun h=>by rw[hl] at h;cases h⟩
 ·exact h j hj (by omega)
theorem Pre.inner {l:List Word} {dim:Int} {i:Nat} (h:Pre l dim i) (hi:i<l.length) (hok:(unpack l[i]).2=true) (ha:(ndAt l i).feature<dim∧(ndAt l i).left≠(ndAt l i).right∧(i:Int)<(ndAt l i).left∧(ndAt l i).left<l.length∧(i:Int)<(ndAt l i).right∧(ndAt l i).right<l.length):Pre l dim (i+1):=by
 intro j hj hji
 by_cases e:j=i
 ·subst e
  rw[ndAt_lt hi] at ha
  exact⟨hok,fun _=>ha⟩
 ·exact h j hj (by omega)
theorem cnts_innerT {l:List Word} {i:Nat} (h:i<l.length) (hl:(ndAt l i).leaf=false) (ha:(ndAt l i).left≠(ndAt l i).right∧(i:Int)<(ndAt l i).left∧(ndAt l i).left<l.length∧(i:Int)<(ndAt l i).right∧(ndAt l i).right<l.length) :
  cnts l (i+1)=((cnts l i).set (ndAt l i).left.toNat (cnt l i (ndAt l i).left.toNat+1)).set (ndAt l i).right.toNat (cnt l i (ndAt l i).right.toNat+1):=by
 apply List.ext_getElem
 ·simp[cnts]
 ·intro j h1 h2
  rw[cnts_get,cnt_succ h,List.getElem_set,List.getElem_set]
  simp only[cnts_get,names,hl,Bool.not_false,Bool.true_and,Bool.or_eq_true,decide_eq_true_eq]
  by_cases e1:(ndAt l i).right.toNat=j
  ·rw[if_pos e1,if_pos (by omega),e1]
  ·rw[if_neg e1]
   by_cases e2:(ndAt l i).left.toNat=j
   ·rw[if_pos e2,if_pos (by omega),e2]
   ·rw[if_neg e2,if_neg (by omega)]
    omega
theorem unpackT {l:List Word} (h:okL l) {i:Nat} (hi:i<l.length):Unpack ⟨l[i].v⟩=some (ndAt l i,(unpack l[i]).2):=by
 have h1:=h l[i] (List.getElem_mem hi)
 unfold Unpack
 have h1':0≤(⟨l[i].v⟩:Word).v∧(⟨l[i].v⟩:Word).v<18446744073709551616:=h1
 rw[if_pos h1']
 have e:(⟨l[i].v⟩:Word)=l[i]:=rfl
 rw[e,ndAt_lt hi]
 rfl
theorem rt_of {l:List Word} {dim:Int} (hw:okL l) (h1:1≤l.length) (h2:l.length≤31) (hp:Pre l dim l.length) (ho:∀ j:Nat,1≤j→j<l.length→cnt l l.length j=1):RT l dim where
 ok:=fun i h=>⟨hw _ (List.getElem_mem h),(hp i h h).1⟩
 pos:=h1
 le:=h2
 inner:=fun i h hl=>(hp i h h).2 hl
 once:=fun j hj hj2=>by
  have:=ho j hj hj2
  unfold cnt at this
  rw[List.take_length] at this
  omega
theorem runs_tRightT (l:List Word) (dim:Int) (c:Bool) (h:TreeRightT l dim=some c):Runs (tbl [(64,sp1 Unpack)]) a73 [Arg.enc l,Arg.enc dim] (Arg.enc c):=by
 obtain⟨⟨hw,hmx⟩,rfl⟩:=part_some h
 clear h
 cases hc:rightT l dim
 case true=>exact runs_tRight l dim true (part_of (rightT_true.1 hc) _)
 have hn:=rightT_false.1 hc
 refine⟨rfl,fun g=>run_def ?_⟩
 unfold a73
 by_cases b1:(l.length:Int)<1
 case pos=>simp -implicitDefEqProofs [b1,hmx]
 by_cases b2:(l.length:Int)>31
 case pos =>
  have b2':(31:Int)<l.length:=b2
  simp -implicitDefEqProofs [b1,b2',hmx]
 have b3:l.length≤maxN:=by unfold maxN;omega
 have b4:(l.length:Int)≤1099511627776:=by omega
 simp -implicitDefEqProofs [b1,b2,b3,b4,rep_ints]
 rw[rep_cells]
 refine run_while (c:=c73_37) (fun m s=>∃(i:Nat) (g:Nat→Nat),i+m=l.length∧Pre l dim i∧s=⟨[(0,.lst l.length (encL l)),(1,.int .i64 dim),(5,.own 5 (g 5) 0 l.length),(23,.lst l.length (encL l)),(24,.int .i64 l.length),(25,.int .i64 i)],[(5,⟨encL (cnts l i),false,1⟩)],g⟩) l.length ⟨0,bump 5 g,by omega,Pre.zero,by simp[cnts_zero]⟩ ?_
 rintro m s ⟨i,g,hi,hpre,rfl⟩
 by_cases h1:i<l.length
 case pos =>
  have hU:=unpackT hw h1
  have w1:IntKind.i64.wrap ((i:Int)+1)=(i:Int)+1:=wrap64 (by omega) (by omega)
  cases hok:(unpack l[i]).2
  case false =>
   rw[hok] at hU
   simp -implicitDefEqProofs [h1,rd_words,hU,w1]
  rw[hok] at hU
  cases hl:(ndAt l i).leaf
  case true =>
   simp -implicitDefEqProofs [h1,rd_words,hU,hl,w1]
   exact⟨m-1,by omega,i+1,by omega,hpre.leaf h1 hok hl,by omega,by rw[cnts_leaf h1 hl]⟩
  case false =>
   by_cases e1:dim≤(ndAt l i).feature
   case pos=>simp -implicitDefEqProofs [h1,rd_words,hU,hl,w1,e1]
   by_cases e2:(ndAt l i).left=(ndAt l i).right
   case pos=>simp -implicitDefEqProofs [h1,rd_words,hU,hl,w1,e1,e2]
   by_cases e3:(if (ndAt l i).right<(ndAt l i).left then (ndAt l i).right else (ndAt l i).left)≤(i:Int)
   case pos=>simp -implicitDefEqProofs [h1,rd_words,hU,hl,w1,e1,e2,e3]
   by_cases e4:(l.length:Int)≤(if (ndAt l i).left<(ndAt l i).right then (ndAt l i).right else (ndAt l i).left)
   case pos=>simp -implicitDefEqProofs [h1,rd_words,hU,hl,w1,b3,e1,e2,e3,e4]
   have f0:(i:Int)<(ndAt l i).left∧(i:Int)<(ndAt l i).right:=by split at e3<;>omega
   have f0':(ndAt l i).left<l.length∧(ndAt l i).right<l.length:=by split at e4<;>omega
   have e5:¬ (ndAt l i).left.toNat=(ndAt l i).right.toNat:=by omega
   have f1:0≤(ndAt l i).left:=by omega
   have f2:(ndAt l i).left<l.length:=by omega
   have f3:0≤(ndAt l i).right:=by omega
   have f4:(ndAt l i).right<l.length:=by omega
   have f5:(ndAt l i).left.toNat<l.length:=by omega
   have f6:(ndAt l i).right.toNat<l.length:=by omega
   have n1:=cnt_le l i (ndAt l i).left.toNat
   have n2:=cnt_le l i (ndAt l i).right.toNat
   have w2:IntKind.i64.wrap (cnt l i (ndAt l i).left.toNat+1)=cnt l i (ndAt l i).left.toNat+1:=wrap64 (by omega) (by omega)
   have w3:IntKind.i64.wrap (cnt l i (ndAt l i).right.toNat+1)=cnt l i (ndAt l i).right.toNat+1:=wrap64 (by omega) (by omega)
   simp -implicitDefEqProofs [h1,rd_words,hU,hl,w1,b3,e1,e2,e3,e4,e5,f1,f2,f3,f4,f5,f6,cnts_len,cnts_get,rd_ints,wr_ints,encL_length,w2,w3]
   exact⟨fun _=>⟨fun _=>⟨m-1,by omega,i+1,by omega,hpre.inner h1 hok ⟨by omega,e2,f0.1,f0'.1,f0.2,f0'.2⟩,by omega,by rw[cnts_innerT h1 hl ⟨e2,f0.1,f0'.1,f0.2,f0'.2⟩]⟩,by omega⟩,by omega⟩
 case neg =>
  have hil:i=l.length:=by omega
  subst hil
  have p1:(1:Int)≤l.length:=by omega
  have p2:l.length-1≤maxN:=by omega
  simp -implicitDefEqProofs [p1,p2]
  refine run_while (c:=c73_56) (fun m s=>∃(i:Nat),i+m=l.length-1∧(∀ j:Nat,1≤j→j≤i→cnt l l.length j=1)∧s=⟨[(85,.own 5 (g 5) 1 (l.length-1)),(86,.int .i64 (l.length-1:Nat)),(87,.int .i64 i)],[(5,⟨encL (cnts l l.length),false,1⟩)],g⟩) (l.length-1) ⟨0,by omega,fun j _ _=>by omega,by simp⟩ ?_
  rintro m s ⟨i,hi,hon,rfl⟩
  by_cases h1:(i:Int)<(l.length-1:Nat)
  case pos =>
   have w1:IntKind.i64.wrap ((i:Int)+1)=(i:Int)+1:=wrap64 (by omega) (by omega)
   have q1:1+i<l.length:=by omega
   by_cases hc:cnt l l.length (1+i)=1
   case pos =>
    simp -implicitDefEqProofs [h1,rd_ints,cnts_len,cnts_get,w1,q1,hc]
    refine⟨m-1,by omega,i+1,by omega,fun j hj1 hj2=>?_,by omega⟩
    by_cases e:j=1+i
    ·rw[e];exact hc
    ·exact hon j hj1 (by omega)
   case neg=>simp -implicitDefEqProofs [h1,rd_ints,cnts_len,cnts_get,w1,q1,hc]
  case neg =>
   exact absurd (rt_of hw (by omega) (by omega) hpre (fun j hj1 hj2=>hon j hj1 (by omega))) hn
theorem c_tRightT:Contract Tryz.prog 73 (sp2 TreeRightT) :=
 contract_of_runs mixed (tbl_cons c_Unpack tbl_nil) Tryz.func73 m73 (sp2_runs runs_tRightT)
noncomputable def badT (m:Model) (t:Tree):Bool:=decide (t.cls<0)||decide (m.classes≤t.cls) || !rightT t.nodes m.dim
def okTW (t:Tree):Prop:=okL t.nodes∧t.nodes.length≤maxN
theorem badT_false {m:Model} {t:Tree}:badT m t=false↔0≤t.cls∧t.cls<m.classes∧RT t.nodes m.dim:=by
 unfold badT
 rw[← rightT_true]
 simp only[Bool.or_eq_false_iff,decide_eq_false_iff_not,Bool.not_eq_false']
 constructor
 ·rintro⟨⟨h1,h2⟩,h3⟩;exact⟨by omega,by omega,h3⟩
 ·rintro⟨h1,h2,h3⟩;exact⟨⟨by omega,by omega⟩,h3⟩
noncomputable def Right1T (t:Tree) (m:Ref Model):Option Bool:=Part (okTW t) (badT m.v t)
theorem runs_Right1T (t:Tree) (m:Ref Model) (c:Bool) (h:Right1T t m=some c):Runs (tbl [(73,sp2 TreeRightT)]) a72 [Arg.enc t,Arg.enc m] (Arg.enc c):=by
 obtain⟨hw,rfl⟩:=part_some h
 obtain⟨m⟩:=m
 refine⟨rfl,fun g=>run_def ?_⟩
 unfold a72
 have hT:TreeRightT t.nodes m.dim=some (rightT t.nodes m.dim):=part_of hw _
 unfold badT
 by_cases e0:t.cls<0
 ·simp -implicitDefEqProofs [e0,hT]
 by_cases e1:m.classes≤t.cls
 ·simp -implicitDefEqProofs [e0,e1,hT]
 ·simp -implicitDefEqProofs [e0,e1,hT]
theorem c_Right1T:Contract Tryz.prog 72 (sp2 Right1T) :=
 contract_of_runs mixed (tbl_cons c_tRightT tbl_nil) Tryz.func72 m72 (sp2_runs runs_Right1T)
def idxF {α:Type} (p:α→Bool) (l:List α):Int:=if l.findIdx p<l.length then (l.findIdx p:Int) else -1
noncomputable def IndexTreesT (l:List Tree) (r:CloR):Option Int:=Part (l.length≤8∧∀ t∈l,okTW t) (idxF (badT r.m) l)
theorem runs_IndexTreesT (l:List Tree) (r:CloR) (c:Int) (h:IndexTreesT l r=some c):Runs (tbl [(72,sp2 Right1T)]) a114 [Arg.enc l,Arg.enc r] (Arg.enc c):=by
 obtain⟨⟨hle,hr⟩,rfl⟩:=part_some h
 obtain⟨m⟩:=r
 refine⟨rfl,fun g=>run_def ?_⟩
 unfold a114
 have b3:l.length≤maxN:=by unfold maxN;omega
 simp -implicitDefEqProofs [b3]
 refine run_while (c:=c114_15) (fun n s=>∃(i:Nat),i+n=l.length∧(∀(j:Nat) (hj:j<l.length),j<i→badT m l[j]=false)∧s=⟨[(0,.lst l.length (encL l)),(1,Arg.enc (⟨m⟩:CloR)),(7,.int .i64 l.length),(8,.int .i64 i)],[],g⟩) l.length ⟨0,by omega,fun j _ h=>by omega,by simp⟩ ?_
 rintro n s ⟨i,hi,hno,rfl⟩
 by_cases h1:i<l.length
 case pos =>
  have w1:IntKind.i64.wrap ((i:Int)+1)=(i:Int)+1:=wrap64 (by omega) (by omega)
  have hrow:=rd_tree l i h1
  have hR:Right1T ⟨l[i].cls,l[i].nodes⟩ ⟨m⟩=some (badT m l[i]):=part_of (hr _ (List.getElem_mem h1)) _
  cases hb:badT m l[i]
  case false =>
   rw[hb] at hR
   simp -implicitDefEqProofs [h1,hrow,hR,w1]
   refine⟨n-1,by omega,i+1,by omega,fun j hj hji=>?_,by omega⟩
   by_cases e:j=i
   ·subst e;exact hb
   ·exact hno j hj (by omega)
  case true =>
   rw[hb] at hR
   have hidx:idxF (badT m) l=i:=by
    have:l.findIdx (badT m)=i:=(List.findIdx_eq h1).2 ⟨hb,fun j hj=>hno j (by omega) hj⟩
    unfold idxF
    rw[this,if_pos h1]
   simp -implicitDefEqProofs [h1,hrow,hR,w1,hidx]
 case neg =>
  have hidx:idxF (badT m) l=-1:=by
   have:l.findIdx (badT m)=l.length:=List.findIdx_eq_length.2 fun x hx=>by
    obtain⟨j,hj,rfl⟩:=List.mem_iff_getElem.1 hx
    exact hno j hj (by omega)
   unfold idxF
   rw[this,if_neg (by omega)]
  simp -implicitDefEqProofs [h1,hidx]
theorem c_IndexTreesT:Contract Tryz.prog 114 (sp2 IndexTreesT) :=
 contract_of_runs mixed (tbl_cons c_Right1T tbl_nil) Tryz.func114 m114 (sp2_runs runs_IndexTreesT)
noncomputable def ContainsTreesT (l:List Tree) (r:CloR):Option Bool:=Part (l.length≤8∧∀ t∈l,okTW t) (l.any (badT r.m))
theorem idxF_any {α:Type} (p:α→Bool) (l:List α):decide (0≤idxF p l)=l.any p:=by
 unfold idxF
 split
 ·rename_i h
  have:l.any p=true:=List.any_eq_true.2 ⟨l[l.findIdx p],List.getElem_mem h,List.findIdx_getElem⟩
  rw[this]
  simp
 ·rename_i h
  have h2:l.findIdx p=l.length:=by have:=List.findIdx_le_length (p:=p) (xs:=l);omega
  have:l.any p=false:=by
   rw[List.any_eq_false]
   intro x hx
   simp[List.findIdx_eq_length.1 h2 x hx]
  rw[this]
  decide
theorem runs_ContainsTreesT (l:List Tree) (r:CloR) (c:Bool) (h:ContainsTreesT l r=some c):Runs (tbl [(114,sp2 IndexTreesT)]) a71 [Arg.enc l,Arg.enc r] (Arg.enc c):=by
 obtain⟨hr,rfl⟩:=part_some h
 obtain⟨m⟩:=r
 refine⟨rfl,fun g=>run_def ?_⟩
 unfold a71
 have hI:IndexTreesT l ⟨m⟩=some (idxF (badT m) l):=part_of hr _
 have:=idxF_any (badT m) l
 simp -implicitDefEqProofs [hI,this]
theorem c_ContainsTreesT:Contract Tryz.prog 71 (sp2 ContainsTreesT) :=
 contract_of_runs mixed (tbl_cons c_IndexTreesT tbl_nil) Tryz.func71 m71 (sp2_runs runs_ContainsTreesT)
open Classical in
noncomputable def rightM (m:Model):Bool:=decide (RM m)
theorem rightM_true {m:Model}:rightM m=true↔RM m:=by unfold rightM;simp
theorem rightM_false {m:Model}:rightM m=false↔¬ RM m:=by unfold rightM;simp
def okMW (m:Model):Prop:=m.trees.length≤maxN∧∀ t∈m.trees,okTW t
noncomputable def MRightT (m:Model):Option Bool:=Part (okMW m) (rightM m)
theorem rm_of {m:Model} (d:1≤m.dim∧m.dim≤4) (k:1≤m.classes∧m.classes≤3) (b:fits m.bias.b0=true∧fits m.bias.b1=true∧fits m.bias.b2=true) (n1:m.classes≤1→m.bias.b1=0) (n2:m.classes≤2→m.bias.b2=0) (hl:m.trees.length≤8) (ht:m.trees.any (badT m)=false):RM m where
 dim:=d
 classes:=k
 bias:=b
 none1:=n1
 none2:=n2
 trees:=hl
 tree:=fun t h=>by
  rw[List.any_eq_false] at ht
  exact badT_false.1 (by simpa using ht t h)
theorem runs_mRightT (m:Model) (c:Bool) (h:MRightT m=some c):Runs (tbl [(70,sp2 Fits),(71,sp2 ContainsTreesT)]) a38 [Arg.enc m] (Arg.enc c):=by
 obtain⟨⟨b3,hw⟩,rfl⟩:=part_some h
 clear h
 refine⟨rfl,fun g=>run_def ?_⟩
 unfold a38
 by_cases e0:m.dim<1
 ·have hF:rightM m=false:=rightM_false.2 fun h=>by have:=h.dim;omega
  simp -implicitDefEqProofs [hF,e0]
 by_cases e1:4<m.dim
 ·have hF:rightM m=false:=rightM_false.2 fun h=>by have:=h.dim;omega
  simp -implicitDefEqProofs [hF,e0,e1]
 by_cases e2:m.classes<1
 ·have hF:rightM m=false:=rightM_false.2 fun h=>by have:=h.classes;omega
  simp -implicitDefEqProofs [hF,e0,e1,e2]
 by_cases e3:3<m.classes
 ·have hF:rightM m=false:=rightM_false.2 fun h=>by have:=h.classes;omega
  simp -implicitDefEqProofs [hF,e0,e1,e2,e3]
 by_cases e4:(8:Int)<m.trees.length
 ·have hF:rightM m=false:=rightM_false.2 fun h=>by have:=h.trees;omega
  simp -implicitDefEqProofs [hF,e0,e1,e2,e3,e4,b3]
 have e5:¬ m.classes≤0:=by omega
 cases f0:fits m.bias.b0
 ·have hF:rightM m=false:=rightM_false.2 fun h=>by have:=h.bias.1;rw[f0] at this;cases this
  simp -implicitDefEqProofs [hF,run_round,b3,e0,e1,e2,e3,e4,e5,Fits,f0]
 cases f1:fits m.bias.b1
 ·have hF:rightM m=false:=rightM_false.2 fun h=>by have:=h.bias.2.1;rw[f1] at this;cases this
  simp -implicitDefEqProofs [hF,run_round,b3,e0,e1,e2,e3,e4,e5,Fits,f0,f1]
 have hC:ContainsTreesT m.trees ⟨m⟩=some (m.trees.any (badT m)):=part_of ⟨by omega,hw⟩ _
 have last:(n1:m.classes≤1→m.bias.b1=0)→(n2:m.classes≤2→m.bias.b2=0)→fits m.bias.b2=true→rightM m = !m.trees.any (badT m):=by
  intro n1 n2 f2
  cases ha:m.trees.any (badT m)
  ·exact rightM_true.2 (rm_of ⟨by omega,by omega⟩ ⟨by omega,by omega⟩ ⟨f0,f1,f2⟩ n1 n2 (by omega) ha)
  ·refine rightM_false.2 fun h=>?_
   rw[List.any_eq_true] at ha
   obtain⟨t,ht,hb⟩:=ha
   rw[badT_false.2 (h.tree t ht)] at hb
   cases hb
 have fz:fits 0=true:=rfl
 by_cases k1:m.classes≤1
 ·have k2:m.classes≤2:=by omega
  by_cases z1:m.bias.b1=0
  ·have d1:decide (m.bias.b1=0)=true:=by simp[z1]
   cases f2:fits m.bias.b2
   ·have hF:rightM m=false:=rightM_false.2 fun h=>by have:=h.bias.2.2;rw[f2] at this;cases this
    simp -implicitDefEqProofs [hF,run_round,b3,e0,e1,e2,e3,e4,e5,Fits,fz,f0,f1,f2,k1,k2,d1]
   by_cases z2:m.bias.b2=0
   ·have d2:decide (m.bias.b2=0)=true:=by simp[z2]
    have hF:=last (fun _=>z1) (fun _=>z2) f2
    simp -implicitDefEqProofs [hF,run_round,b3,e0,e1,e2,e3,e4,e5,Fits,fz,f0,f1,f2,k1,k2,d1,d2,hC]
   ·have d2:decide (m.bias.b2=0)=false:=by simp[z2]
    have hF:rightM m=false:=rightM_false.2 fun h=>z2 (h.none2 k2)
    simp -implicitDefEqProofs [hF,run_round,b3,e0,e1,e2,e3,e4,e5,Fits,fz,f0,f1,f2,k1,k2,d1,d2]
  ·have d1:decide (m.bias.b1=0)=false:=by simp[z1]
   have hF:rightM m=false:=rightM_false.2 fun h=>z1 (h.none1 k1)
   simp -implicitDefEqProofs [hF,run_round,b3,e0,e1,e2,e3,e4,e5,Fits,fz,f0,f1,k1,k2,d1]
 ·cases f2:fits m.bias.b2
  ·have hF:rightM m=false:=rightM_false.2 fun h=>by have:=h.bias.2.2;rw[f2] at this;cases this
   simp -implicitDefEqProofs [hF,run_round,b3,e0,e1,e2,e3,e4,e5,Fits,fz,f0,f1,f2,k1]
  by_cases k2:m.classes≤2
  ·by_cases z2:m.bias.b2=0
   ·have d2:decide (m.bias.b2=0)=true:=by simp[z2]
    have hF:=last (fun h=>absurd h k1) (fun _=>z2) f2
    simp -implicitDefEqProofs [hF,run_round,b3,e0,e1,e2,e3,e4,e5,Fits,fz,f0,f1,f2,k1,k2,d2,hC]
   ·have d2:decide (m.bias.b2=0)=false:=by simp[z2]
    have hF:rightM m=false:=rightM_false.2 fun h=>z2 (h.none2 k2)
    simp -implicitDefEqProofs [hF,run_round,b3,e0,e1,e2,e3,e4,e5,Fits,fz,f0,f1,f2,k1,k2,d2]
  ·have hF:=last (fun h=>absurd h k1) (fun h=>absurd h k2) f2
   simp -implicitDefEqProofs [hF,run_round,b3,e0,e1,e2,e3,e4,e5,Fits,fz,f0,f1,f2,k1,k2,hC]
theorem c_mRightT:Contract Tryz.prog 38 (sp1 MRightT) :=
 contract_of_runs mixed (tbl_cons c_Fits (tbl_cons c_ContainsTreesT tbl_nil)) Tryz.func38 m38 (sp1_runs runs_mRightT)
theorem RT.okTW {l:List Word} {dim:Int} (h:RT l dim):okL l∧l.length≤maxN:=by
 refine⟨fun w hw=>?_,by have:=h.le;unfold maxN;omega⟩
 obtain⟨i,hi,rfl⟩:=List.mem_iff_getElem.1 hw
 exact (h.ok i hi).1
theorem RM.okMW {m:Model} (h:RM m):okMW m:=⟨by have:=h.trees;unfold maxN;omega,fun t ht=>(h.tree t ht).2.2.okTW⟩
def c26_12:ACode:=.seq (.ops [⟨some 10,.bin .lss (.t 9) (.t 8),none,[]⟩] [3,7,8,9,10]) (.seq (.cond (.t 10) .skip (.exit 0)) (.seq (.block 1 (.seq (.ops [⟨some 11,.ias (.t 7) (.t 9) 2,none,[]⟩,⟨some 12,.load 2 true (.t 11),none,[]⟩,⟨some 5,.alloc [.int .i64 0,.nils],none,[]⟩,⟨none,.store (.t 5) 2 (.t 12),none,[5]⟩] [3,5,7,8,9]) (.ops [⟨some 13,.mv (.t 3),none,[]⟩,⟨some 14,.fad (.t 5) 1,none,[5]⟩,⟨some 15,.load 1 false (.t 14),none,[5]⟩,⟨some 16,.len (.t 15),none,[]⟩,⟨some 17,.bin .add (.t 13) (.t 16),none,[]⟩,⟨some 3,.mv (.t 17),none,[]⟩] [3,7,8,9]))) (.ops [⟨some 18,.bin .add (.t 9) (.c (.int .i64 1)),none,[]⟩,⟨some 9,.mv (.t 18),none,[]⟩] [3,7,8,9])))
theorem r26_12:type_of% (rr c26_12.eq_1):=rr rfl
def c26_21:ACode:=.seq (.ops [⟨some 1,.box (.t 0) 6,none,[]⟩,⟨some 2,.mv (.c (.int .i64 0)),none,[]⟩] [1]) (.seq (.ops [⟨some 3,.mv (.c (.int .i64 0)),none,[]⟩] [1,3]) (.seq (.seq (.ops [⟨some 6,.fad (.t 1) 5,none,[1]⟩,⟨some 7,.load 1 false (.t 6),none,[1]⟩,⟨some 8,.len (.t 7),none,[]⟩,⟨some 9,.mv (.c (.int .i64 0)),none,[]⟩] [3,7,8,9]) (.block 0 (.loop (.keep [3,7,8,9] [] c26_12)))) (.seq (.ops [⟨some 19,.mv (.t 3),none,[]⟩,⟨some 2,.mv (.t 19),none,[]⟩] [2]) .ret)))
theorem r26_21:type_of% (rr c26_21.eq_1):=rr rfl
def a26:AFun:=⟨1,20,c26_21,[.t 2]⟩
attribute [simp] r26_12 r26_21
theorem m26:mFun Tryz.prog Tryz.f26 a26=true:=by decide +kernel
def lenF (n:Int) (t:Tree):Int:=n+(t.nodes.length:Int)
def sizeM (m:Model):Int:=m.trees.foldl lenF 0
theorem size_le (l:List Tree):∀(n:Int),(∀ t∈l,t.nodes.length≤1099511627776)→n≤l.foldl lenF n∧l.foldl lenF n≤n+(l.length:Int)*1099511627776:=by
 induction l with
 | nil=>intro n _;simp
 | cons t l ih =>
  intro n h
  have h1:=h t (by simp)
  have h2:=ih (lenF n t) fun x hx=>h x (by simp[hx])
  simp only[List.foldl_cons,List.length_cons]
  unfold lenF at h2 ⊢
  omega
noncomputable def SizeC (m:Model):Option Int:=Part (m.trees.length≤100∧∀ t∈m.trees,t.nodes.length≤1099511627776) (sizeM m)
theorem runs_Size (m:Model) (r:Int) (h:SizeC m=some r):Runs (tbl []) a26 [Arg.enc m] (Arg.enc r):=by
 obtain⟨⟨hl,ht⟩,rfl⟩:=part_some h
 clear h
 refine⟨rfl,fun g=>run_def ?_⟩
 unfold a26
 have b3:m.trees.length≤maxN:=by unfold maxN;omega
 simp -implicitDefEqProofs [b3]
 refine run_while (c:=c26_12) (fun n s=>∃(i:Nat) (g:Nat→Nat),i+n=m.trees.length∧s=⟨[(3,.int .i64 ((m.trees.take i).foldl lenF 0)),(7,.lst m.trees.length (encL m.trees)),(8,.int .i64 m.trees.length),(9,.int .i64 i)],[],g⟩) m.trees.length ⟨0,bump 1 g,by omega,by simp⟩ ?_
 rintro n s ⟨i,g,hi,rfl⟩
 by_cases h1:i<m.trees.length
 case pos =>
  have w1:IntKind.i64.wrap ((i:Int)+1)=(i:Int)+1:=wrap64 (by omega) (by omega)
  have hrow:=rd_tree m.trees i h1
  have hb:=size_le (m.trees.take (i+1)) 0 (fun t h=>ht t (List.mem_of_mem_take h))
  have hn:m.trees[i].nodes.length≤maxN:=by have:=ht _ (List.getElem_mem h1);unfold maxN;omega
  have hs:(m.trees.take (i+1)).foldl lenF 0=(m.trees.take i).foldl lenF 0+(m.trees[i].nodes.length:Int):=by
   rw[List.take_succ_eq_append_getElem h1,List.foldl_append]
   rfl
  have hll:(m.trees.take (i+1)).length≤100:=by simp;omega
  have w2:IntKind.i64.wrap ((m.trees.take i).foldl lenF 0+(m.trees[i].nodes.length:Int))=(m.trees.take (i+1)).foldl lenF 0:=by rw[← hs];exact wrap64 (by omega) (by omega)
  simp -implicitDefEqProofs [h1,hrow,hn,w1,w2]
  exact⟨n-1,by omega,i+1,by omega,rfl,by omega⟩
 case neg =>
  have hil:i=m.trees.length:=by omega
  subst hil
  simp -implicitDefEqProofs [h1,sizeM]
theorem c_Size:Contract Tryz.prog 26 (sp1 SizeC) :=
 contract_of_runs mixed tbl_nil Tryz.func26 m26 (sp1_runs runs_Size)
theorem RM.size {m:Model} (h:RM m):SizeC m=some (sizeM m):=part_of ⟨by have:=h.trees;omega,fun t ht=>by have:=(h.tree t ht).2.2.le;omega⟩ _
end Go.Co
/- CO: thresholds of a feature. -/
set_option maxHeartbeats 16000000
set_option maxRecDepth 100000
namespace Go.Co
open Go.Am Go.Proofs
attribute [-simp] Go.Am.eff_gcall
def c85_26:ACode:=.seq (.ops [⟨some 26,.bin .lss (.t 25) (.t 24),none,[]⟩] [1,5,16,17,18,23,24,25,26]) (.seq (.cond (.t 26) .skip (.exit 2)) (.seq (.block 3 (.seq (.ops [⟨some 27,.ias (.t 23) (.t 25) 1,none,[]⟩,⟨some 28,.load 1 false (.t 27),none,[]⟩,⟨some 9,.mv (.t 28),none,[]⟩] [1,5,9,16,17,18,23,24,25]) (.seq (.ops [⟨some 30,.mv (.t 9),none,[]⟩,⟨some 31,.call 64 [.t 30],none,[]⟩,⟨some 29,.mv (.t 31),none,[]⟩,⟨some 32,.ext (.t 29) 0,none,[]⟩,⟨some 33,.ext (.t 29) 1,none,[]⟩,⟨some 10,.alloc [.bool false,.int .i64 0,.int .i64 0,.int .i64 0,.int .i64 0,.int .i64 0],none,[]⟩,⟨none,.store (.t 10) 6 (.t 32),none,[10]⟩,⟨some 11,.mv (.t 33),none,[]⟩] [1,5,10,16,17,18,23,24,25]) (.seq (.ops [⟨some 34,.fad (.t 10) 0,none,[10]⟩,⟨some 35,.load 1 false (.t 34),none,[10]⟩,⟨some 36,.un .not (.t 35),none,[]⟩,⟨some 37,.mv (.t 36),none,[]⟩,⟨some 38,.fad (.t 10) 2,some (37,true),[10]⟩,⟨some 39,.load 1 false (.t 38),some (37,true),[10]⟩,⟨some 40,.mv (.t 1),some (37,true),[]⟩,⟨some 41,.bin .eql (.t 39) (.t 40),some (37,true),[]⟩,⟨some 42,.pick (.t 37) (.t 41) (.c (.bool false)),none,[]⟩] [1,5,10,16,17,18,23,24,25,42]) (.cond (.t 42) (.ops [⟨some 43,.mv (.t 5),none,[]⟩,⟨some 44,.fad (.t 10) 3,none,[10]⟩,⟨some 45,.load 1 false (.t 44),none,[10]⟩,⟨some 46,.mkrow 46 1 1 [.int .i64 0] [(0,1,.t 45)],none,[]⟩,⟨some 47,.app 5 [5] (.t 43) (.t 46) 1,none,[5,46]⟩,⟨some 5,.mv (.t 47),none,[]⟩] [1,5,16,17,18,23,24,25]) .skip))))) (.ops [⟨some 48,.bin .add (.t 25) (.c (.int .i64 1)),none,[]⟩,⟨some 25,.mv (.t 48),none,[]⟩] [1,5,16,17,18,23,24,25])))
theorem r85_26:type_of% (rr c85_26.eq_1):=rr rfl
def c85_36:ACode:=.seq (.ops [⟨some 19,.bin .lss (.t 18) (.t 17),none,[]⟩] [1,5,16,17,18,19]) (.seq (.cond (.t 19) .skip (.exit 0)) (.seq (.block 1 (.seq (.ops [⟨some 20,.ias (.t 16) (.t 18) 2,none,[]⟩,⟨some 21,.load 2 true (.t 20),none,[]⟩,⟨some 7,.alloc [.int .i64 0,.nils],none,[]⟩,⟨none,.store (.t 7) 2 (.t 21),none,[7]⟩] [1,5,7,16,17,18]) (.seq (.ops [⟨some 22,.fad (.t 7) 1,none,[7]⟩,⟨some 23,.load 1 false (.t 22),none,[7]⟩,⟨some 24,.len (.t 23),none,[]⟩,⟨some 25,.mv (.c (.int .i64 0)),none,[]⟩] [1,5,16,17,18,23,24,25]) (.block 2 (.loop (.keep [1,5,16,17,18,23,24,25] [5] c85_26)))))) (.ops [⟨some 49,.bin .add (.t 18) (.c (.int .i64 1)),none,[]⟩,⟨some 18,.mv (.t 49),none,[]⟩] [1,5,16,17,18])))
theorem r85_36:type_of% (rr c85_36.eq_1):=rr rfl
def c85_48:ACode:=.seq (.ops [⟨some 2,.box (.t 0) 6,none,[]⟩,⟨some 4,.mv (.c (.nils)),none,[]⟩] [1,2]) (.seq (.seq (.ops [⟨some 12,.load 6 true (.t 2),none,[2]⟩,⟨some 13,.call 38 [.t 12],none,[]⟩,⟨some 14,.un .not (.t 13),none,[]⟩] [1,2,14]) (.cond (.t 14) (.seq (.ops [⟨some 4,.mv (.c (.nils)),none,[]⟩] [4]) .ret) .skip)) (.seq (.ops [⟨some 5,.nil0 5 1,none,[]⟩] [1,2,5]) (.seq (.seq (.ops [⟨some 15,.fad (.t 2) 5,none,[2]⟩,⟨some 16,.load 1 false (.t 15),none,[2]⟩,⟨some 17,.len (.t 16),none,[]⟩,⟨some 18,.mv (.c (.int .i64 0)),none,[]⟩] [1,5,16,17,18]) (.block 0 (.loop (.keep [1,5,16,17,18] [5] c85_36)))) (.seq (.ops [⟨some 50,.mv (.t 5),none,[]⟩,⟨some 51,.gcall 120 [.t 50] [5] 5,none,[5]⟩] [5]) (.seq (.ops [⟨some 52,.mv (.t 5),none,[]⟩,⟨some 53,.gcall 121 [.t 52] [5] 5,none,[5]⟩,⟨some 4,.mv (.t 53),none,[]⟩] [4]) .ret)))))
theorem r85_48:type_of% (rr c85_48.eq_1):=rr rfl
def a85:AFun:=⟨2,54,c85_48,[.t 4]⟩
attribute [simp] r85_26 r85_36 r85_48
theorem m85:mFun Tryz.prog Tryz.f85 a85=true:=by decide +kernel
def cutF (j:Int) (w:Word):Option Int:=if (nd w).leaf=false∧(nd w).feature=j then some (nd w).cut else none
def rawW (j:Int) (l:List Word):List Int:=l.filterMap (cutF j)
def rawM (l:List Tree) (j:Int):List Int:=l.flatMap fun t=>rawW j t.nodes
def thrL (m:Model) (j:Int):List Int:=Go.Lib.compact (isort (rawM m.trees j))
def rawTo (m:Model) (j:Int) (i k:Nat) (l:List Word):List Int:=rawM (m.trees.take i) j++rawW j (l.take k)
theorem rawTo_zero (m:Model) (j:Int) (i:Nat) (l:List Word):rawTo m j i 0 l=rawM (m.trees.take i) j:=by simp[rawTo,rawW]
theorem rawTo_some {m:Model} {j:Int} {i k:Nat} {l:List Word} (h:k<l.length) (hl:(nd l[k]).leaf=false) (hf:(nd l[k]).feature=j):rawTo m j i (k+1) l=rawTo m j i k l++[(nd l[k]).cut]:=by
 unfold rawTo rawW
 rw[List.take_succ_eq_append_getElem h,List.filterMap_append,List.append_assoc]
 simp[cutF,hl,hf]
theorem rawTo_none {m:Model} {j:Int} {i k:Nat} {l:List Word} (h:k<l.length) (hn:¬ ((nd l[k]).leaf=false∧(nd l[k]).feature=j)):rawTo m j i (k+1) l=rawTo m j i k l:=by
 unfold rawTo rawW
 rw[List.take_succ_eq_append_getElem h,List.filterMap_append]
 simp[cutF,hn]
theorem rawTo_all {m:Model} {j:Int} {i:Nat} (h:i<m.trees.length):rawTo m j i m.trees[i].nodes.length m.trees[i].nodes=rawM (m.trees.take (i+1)) j:=by
 unfold rawTo rawM
 rw[List.take_length,List.take_succ_eq_append_getElem h,List.flatMap_append]
 simp
theorem rawW_len (j:Int) (l:List Word):(rawW j l).length≤l.length:=List.length_filterMap_le _ _
theorem rawM_len {j:Int}:∀ {l:List Tree},(∀ t∈l,t.nodes.length≤31)→(rawM l j).length≤31*l.length
 | [],_=>by simp[rawM]
 | t::l,h=>by
  have h1:=h t (by simp)
  have h2:=rawM_len (j:=j) (l:=l) fun x hx=>h x (by simp[hx])
  have h3:=rawW_len j t.nodes
  unfold rawM at h2 ⊢
  simp only[List.flatMap_cons,List.length_append,List.length_cons]
  omega
theorem iv_append (a b:List Int):iv (a++b)=iv a++iv b:=by simp[iv]
theorem iv_take (a:List Int):List.take a.length (iv a)=iv a:=List.take_of_length_le (by simp[iv])
@[simp] theorem iv_plain (a:List Int):(iv a).all AV.plain=true:=by simp[iv]
@[simp] theorem iv_cell (a:List Int):(iv a).all AV.isCell=true:=by simp[iv]
theorem iv_enc (a:List Int):iv a=encL a:=by
 induction a with
 | nil=>rfl
 | cons x xs ih =>
  have:encL (x::xs)=.int .i64 x::encL xs:=rfl
  rw[this,← ih]
  rfl
@[simp] theorem len_iv (a:List Int):(iv a).length=a.length:=iv_len a
def thrRow (m:Model) (j:Int):List Int:=thrL m j++List.replicate ((isort (rawM m.trees j)).length-(thrL m j).length) 0
theorem run_Thr (m:Model) (j:Int) (hr:RM m) (g:Nat→Nat) (Q:Post) (hQ:∀ g':Nat→Nat,g' 0=g 0→Q .ret ⟨[(4,.own 5 (g' 5) 0 (thrL m j).length)],[(5,⟨iv (thrRow m j),false,1⟩)],g'⟩) :
  run (tbl [(38,sp1 MRightT),(64,sp1 Unpack),(1000000+120,gspec sortF),(1000000+121,gspec compF)]) a85.code [] ⟨argEnv 0 [Arg.enc m,Arg.enc j],[],g⟩ Q:=by
 unfold a85
 have hM:MRightT m=some true:=by unfold MRightT;rw[part_of hr.okMW,rightM_true.2 hr]
 have hle:=hr.trees
 have b3:m.trees.length≤maxN:=by unfold maxN;omega
 simp -implicitDefEqProofs [hM,b3]
 generalize hg0:g 0=g00 at *
 refine run_while (c:=c85_36) (fun n s=>∃(i:Nat) (g:Nat→Nat),i+n=m.trees.length∧g 0=g00∧s=⟨[(1,.int .i64 j),(5,.own 5 (g 5) 0 (rawM (m.trees.take i) j).length),(16,.lst m.trees.length (encL m.trees)),(17,.int .i64 m.trees.length),(18,.int .i64 i)],[(5,⟨iv (rawM (m.trees.take i) j),false,1⟩)],g⟩) m.trees.length ⟨0,bump 5 (bump 2 g),by omega,by simp[hg0],by simp[rawM,iv]⟩ ?_
 rintro n s ⟨i,g,hi,hg1,rfl⟩
 have hlen:∀ q,(rawM (m.trees.take q) j).length≤31*8:=fun q=>by
  have h1:=rawM_len (j:=j) (l:=m.trees.take q) fun t ht=>(hr.tree t (List.mem_of_mem_take ht)).2.2.le
  have h2:(m.trees.take q).length≤8:=by simp;omega
  omega
 by_cases h1:i<m.trees.length
 case pos =>
  have w1:IntKind.i64.wrap ((i:Int)+1)=(i:Int)+1:=wrap64 (by omega) (by omega)
  have hrow:=rd_tree m.trees i h1
  have hrt:=hr.rt (List.getElem_mem h1)
  have hnl:=hrt.le
  have b4:m.trees[i].nodes.length≤maxN:=by unfold maxN;omega
  simp -implicitDefEqProofs [h1,hrow,b4]
  refine run_while (c:=c85_26) (fun n s=>∃(k:Nat) (g:Nat→Nat),k+n=m.trees[i].nodes.length∧g 0=g00∧s=⟨[(1,.int .i64 j),(5,.own 5 (g 5) 0 (rawTo m j i k m.trees[i].nodes).length),(16,.lst m.trees.length (encL m.trees)),(17,.int .i64 m.trees.length),(18,.int .i64 i),(23,.lst m.trees[i].nodes.length (encL m.trees[i].nodes)),(24,.int .i64 m.trees[i].nodes.length),(25,.int .i64 k)],[(5,⟨iv (rawTo m j i k m.trees[i].nodes),false,1⟩)],g⟩) m.trees[i].nodes.length ⟨0,bump 7 g,by omega,by simp[hg1],by simp[rawTo_zero]⟩ ?_
  rintro n2 s ⟨k,g,hk,hg2,rfl⟩
  by_cases h2:k<m.trees[i].nodes.length
  case pos =>
   have w2:IntKind.i64.wrap ((k:Int)+1)=(k:Int)+1:=wrap64 (by omega) (by omega)
   have hU:=unpack_at hrt h2
   have hnd:ndAt m.trees[i].nodes k=nd m.trees[i].nodes[k]:=ndAt_lt h2
   have hl2:(rawTo m j i k m.trees[i].nodes).length≤31*8+31:=by
    unfold rawTo
    rw[List.length_append]
    have e1:=hlen i
    have e2:=rawW_len j (m.trees[i].nodes.take k)
    have e3:(m.trees[i].nodes.take k).length≤31:=by simp;omega
    omega
   have n1:(rawTo m j i k m.trees[i].nodes).length≤1099511627775:=by omega
   rw[hnd] at hU
   by_cases hin:(nd m.trees[i].nodes[k]).leaf=false∧(nd m.trees[i].nodes[k]).feature=j
   case pos =>
    have hs:=rawTo_some (m:=m) (i:=i) h2 hin.1 hin.2
    have hs2:(rawTo m j i (k+1) m.trees[i].nodes).length=(rawTo m j i k m.trees[i].nodes).length+1:=by rw[hs];simp
    have hE:iv (rawTo m j i (k+1) m.trees[i].nodes)=iv (rawTo m j i k m.trees[i].nodes)++[.int .i64 (nd m.trees[i].nodes[k]).cut]:=by rw[hs,iv_append];rfl
    have q1:=hin.1
    have q2:=hin.2
    simp -implicitDefEqProofs [h2,rd_words,hU,w2,q1,q2,n1,iv_take]
    exact⟨n2-1,by omega,k+1,by omega,_,by simp[hg2],⟨⟨by simp,by omega⟩,by omega⟩,by rw[hE],rfl⟩
   case neg =>
    have hs:=rawTo_none (m:=m) (i:=i) h2 hin
    cases q1:(nd m.trees[i].nodes[k]).leaf
    case true =>
     simp -implicitDefEqProofs [h2,rd_words,hU,w2,q1]
     exact⟨n2-1,by omega,k+1,by omega,_,by simp[hg2],⟨⟨by simp,by rw[hs]⟩,by omega⟩,by rw[hs],rfl⟩
    case false =>
     have q2:¬ (nd m.trees[i].nodes[k]).feature=j:=fun e=>hin ⟨q1,e⟩
     simp -implicitDefEqProofs [h2,rd_words,hU,w2,q1,q2]
     exact⟨n2-1,by omega,k+1,by omega,_,by simp[hg2],⟨⟨by simp,by rw[hs]⟩,by omega⟩,by rw[hs],rfl⟩
  case neg =>
   have hkl:k=m.trees[i].nodes.length:=by omega
   subst hkl
   rw[rawTo_all h1]
   simp -implicitDefEqProofs [h2,w1]
   exact⟨n-1,by omega,i+1,by omega,g,hg2,⟨⟨rfl,rfl⟩,by omega⟩,rfl,rfl⟩
 case neg =>
  have hil:i=m.trees.length:=by omega
  subst hil
  have hl:=hlen m.trees.length
  rw[List.take_length] at hl ⊢
  have k1:(rawM m.trees j).length≤1152921504606846976:=by omega
  have hq:=hQ g hg1
  simp only[thrRow,thrL,isort_len] at hq
  simp -implicitDefEqProofs [h1,k1,sortF,compF,ints_iv,isort_len,mapM1_nrm,mapM1_up]
  exact hq
theorem thr_len (m:Model) (j:Int):(thrL m j).length≤(rawM m.trees j).length:=by
 unfold thrL
 have:=compact_le (isort (rawM m.trees j))
 rw[isort_len] at this
 exact this
theorem thrRow_len (m:Model) (j:Int):(thrRow m j).length=(rawM m.trees j).length:=by
 unfold thrRow
 have:=thr_len m j
 rw[List.length_append,List.length_replicate,isort_len]
 omega
open Classical in
noncomputable def thrG:GSp:=fun args h=>match args,h with
 | [x,y],[]=>(Arg.dec x:Option Model).bind fun m=>(Arg.dec y:Option Int).bind fun j=>if RM m then some (.own 2 0 0 (thrL m j).length,[(2,⟨iv (thrRow m j),false,1⟩)]) else none
 | _,_=>none
theorem c_ThrG:Contract Tryz.prog (gBase+85) (gspec thrG) :=
 gcontractN (C:=tbl [(38,sp1 MRightT),(64,sp1 Unpack),(1000000+120,gspec sortF),(1000000+121,gspec compF)]) mixed (tbl_cons c_mRightT (tbl_cons c_Unpack (tbl_cons c_Sort (tbl_cons c_Compact tbl_nil)))) Tryz.func85 m85 fun args h r h' hs=>by
  unfold thrG at hs
  split at hs
  ·rename_i x y
   rw[Option.bind_eq_some_iff] at hs
   obtain⟨m,hm,hs⟩:=hs
   rw[Option.bind_eq_some_iff] at hs
   obtain⟨j,hj,hs⟩:=hs
   split at hs
   ·rename_i hr
    simp only[Option.some.injEq,Prod.mk.injEq] at hs
    obtain⟨rfl,rfl⟩:=hs
    obtain rfl:=Arg.enc_dec _ _ hm
    obtain rfl:=Arg.enc_dec _ _ hj
    refine⟨rfl,false,some 5,run_Thr m j hr _ _ fun g' hg'=>?_⟩
    unfold a85
    simp -implicitDefEqProofs [mapM1_nrm,hg']
   ·cases hs
  ·cases hs
end Go.Co
/- CO: cuts of a box, how many cells. -/
set_option maxHeartbeats 16000000
set_option maxRecDepth 100000
namespace Go.Co
open Go.Am Go.Proofs
attribute [-simp] Go.Am.eff_gcall
def c83_15:ACode:=.seq (.ops [⟨some 2,.box (.t 0) 17,none,[]⟩,⟨some 4,.mv (.c (.int .i64 0)),none,[]⟩] [1,2]) (.seq (.block 0 (.seq (.ops [⟨some 6,.mv (.t 1),none,[]⟩,⟨some 7,.bin .geq (.t 6) (.c (.int .i64 0)),none,[]⟩,⟨some 8,.mv (.t 7),none,[]⟩,⟨some 9,.mv (.t 1),some (8,true),[]⟩,⟨some 10,.bin .lss (.t 9) (.c (.int .i64 4)),some (8,true),[]⟩,⟨some 11,.pick (.t 8) (.t 10) (.c (.bool false)),none,[]⟩,⟨some 5,.mv (.t 11),none,[]⟩] [1,2,5]) (.cond (.t 5) (.seq (.ops [⟨some 12,.mv (.t 1),none,[]⟩,⟨some 4,.mv (.t 12),none,[]⟩] [4]) .ret) (.seq (.ops [⟨some 14,.mv (.t 1),none,[]⟩,⟨some 15,.bin .eql (.t 14) (.c (.int .i64 4)),none,[]⟩,⟨some 16,.mv (.t 15),none,[]⟩,⟨some 17,.fad (.t 2) 0,some (16,true),[2]⟩,⟨some 18,.load 1 false (.t 17),some (16,true),[2]⟩,⟨some 19,.bin .eql (.t 18) (.c (.int .i64 3)),some (16,true),[]⟩,⟨some 20,.pick (.t 16) (.t 19) (.c (.bool false)),none,[]⟩,⟨some 13,.mv (.t 20),none,[]⟩] [2,13]) (.cond (.t 13) (.seq (.ops [⟨some 21,.fad (.t 2) 14,none,[2]⟩,⟨some 22,.load 1 false (.t 21),none,[2]⟩,⟨some 4,.mv (.t 22),none,[]⟩] [4]) .ret) .skip))))) (.seq (.ops [⟨some 4,.mv (.c (.int .i64 (-1))),none,[]⟩] [4]) .ret))
theorem r83_15:type_of% (rr c83_15.eq_1):=rr rfl
def a83:AFun:=⟨2,23,c83_15,[.t 4]⟩
attribute [simp] r83_15
theorem m83:mFun Tryz.prog Tryz.f83 a83=true:=by decide +kernel
def c86_3:ACode:=.seq (.ops [⟨some 3,.mv (.c (.bool false)),none,[]⟩] [0,1]) (.seq (.ops [⟨some 4,.mv (.t 0),none,[]⟩,⟨some 5,.fad (.t 1) 0,none,[]⟩,⟨some 6,.load 1 false (.t 5),none,[]⟩,⟨some 7,.bin .lss (.t 4) (.t 6),none,[]⟩,⟨some 8,.mv (.t 7),none,[]⟩,⟨some 9,.mv (.t 0),some (8,false),[]⟩,⟨some 10,.fad (.t 1) 1,some (8,false),[]⟩,⟨some 11,.load 1 false (.t 10),some (8,false),[]⟩,⟨some 12,.bin .geq (.t 9) (.t 11),some (8,false),[]⟩,⟨some 13,.pick (.t 8) (.c (.bool true)) (.t 12),none,[]⟩,⟨some 3,.mv (.t 13),none,[]⟩] [3]) .ret)
theorem r86_3:type_of% (rr c86_3.eq_1):=rr rfl
def a86:AFun:=⟨2,14,c86_3,[.t 3]⟩
attribute [simp] r86_3
theorem m86:mFun Tryz.prog Tryz.f86 a86=true:=by decide +kernel
def c119_15:ACode:=.seq (.ops [⟨some 9,.bin .lss (.t 8) (.t 7),none,[]⟩] [0,1,7,8,9]) (.seq (.cond (.t 9) .skip (.exit 0)) (.seq (.block 1 (.seq (.ops [⟨some 10,.mv (.t 8),none,[]⟩,⟨some 5,.mv (.t 10),none,[]⟩] [0,1,5,7,8]) (.seq (.ops [⟨some 11,.mv (.t 1),none,[]⟩,⟨some 12,.mv (.t 0),none,[]⟩,⟨some 13,.mv (.t 5),none,[]⟩,⟨some 14,.ias (.t 12) (.t 13) 1,none,[0]⟩,⟨some 15,.load 1 false (.t 14),none,[0]⟩,⟨some 16,.dyn (.t 11) [.t 15],none,[]⟩] [0,1,5,7,8,16]) (.cond (.t 16) (.seq (.ops [⟨some 17,.mv (.t 5),none,[]⟩,⟨some 4,.mv (.t 17),none,[]⟩] [4]) .ret) .skip)))) (.ops [⟨some 18,.bin .add (.t 8) (.c (.int .i64 1)),none,[]⟩,⟨some 8,.mv (.t 18),none,[]⟩] [0,1,7,8])))
theorem r119_15:type_of% (rr c119_15.eq_1):=rr rfl
def c119_23:ACode:=.seq (.ops [⟨some 4,.mv (.c (.int .i64 0)),none,[]⟩] [0,1]) (.seq (.seq (.ops [⟨some 6,.mv (.t 0),none,[]⟩,⟨some 7,.len (.t 6),none,[0]⟩,⟨some 8,.mv (.c (.int .i64 0)),none,[]⟩] [0,1,7,8]) (.block 0 (.loop (.keep [0,1,7,8] [0] c119_15)))) (.seq (.ops [⟨some 4,.mv (.c (.int .i64 (-1))),none,[]⟩] [4]) .ret))
theorem r119_23:type_of% (rr c119_23.eq_1):=rr rfl
def a119:AFun:=⟨2,19,c119_23,[.t 4]⟩
attribute [simp] r119_15 r119_23
theorem m119:mFun Tryz.prog Tryz.f119 a119=true:=by decide +kernel
def c84_22:ACode:=.seq (.seq (.ops [⟨some 16,.mv (.t 6),none,[]⟩,⟨some 17,.mv (.t 0),none,[]⟩,⟨some 18,.len (.t 17),none,[0]⟩,⟨some 19,.bin .lss (.t 16) (.t 18),none,[]⟩] [0,1,5,6,19]) (.cond (.t 19) .skip (.exit 0))) (.seq (.block 1 (.seq (.ops [⟨some 22,.mv (.t 0),none,[]⟩,⟨some 23,.mv (.t 6),none,[]⟩,⟨some 24,.ias (.t 22) (.t 23) 1,none,[0]⟩,⟨some 25,.load 1 false (.t 24),none,[0]⟩,⟨some 7,.mv (.t 25),none,[]⟩] [0,1,5,6,7]) (.seq (.ops [⟨some 26,.mv (.t 1),none,[]⟩,⟨some 27,.mv (.t 7),none,[]⟩,⟨some 28,.dyn (.t 26) [.t 27],none,[]⟩,⟨some 29,.un .not (.t 28),none,[]⟩] [0,1,5,6,7,29]) (.cond (.t 29) (.seq (.ops [⟨some 30,.mv (.t 0),none,[]⟩,⟨some 31,.mv (.t 5),none,[]⟩,⟨some 32,.mv (.t 7),none,[]⟩,⟨some 33,.ias (.t 30) (.t 31) 1,none,[0]⟩,⟨none,.store (.t 33) 1 (.t 32),none,[0]⟩] [0,1,5,6]) (.ops [⟨some 34,.mv (.t 5),none,[]⟩,⟨some 35,.bin .add (.t 34) (.c (.int .i64 1)),none,[]⟩,⟨some 5,.mv (.t 35),none,[]⟩] [0,1,5,6])) .skip)))) (.ops [⟨some 20,.mv (.t 6),none,[]⟩,⟨some 21,.bin .add (.t 20) (.c (.int .i64 1)),none,[]⟩,⟨some 6,.mv (.t 21),none,[]⟩] [0,1,5,6]))
theorem r84_22:type_of% (rr c84_22.eq_1):=rr rfl
def c84_34:ACode:=.seq (.ops [⟨some 4,.mv (.c (.nils)),none,[]⟩] [0,1]) (.seq (.ops [⟨some 8,.mv (.t 0),none,[]⟩,⟨some 9,.mv (.t 1),none,[]⟩,⟨some 10,.gcall 119 [.t 8,.t 9] [0] 0,none,[0]⟩,⟨some 5,.mv (.t 10),none,[]⟩] [0,1,5]) (.seq (.seq (.ops [⟨some 11,.mv (.t 5),none,[]⟩,⟨some 12,.bin .eql (.t 11) (.c (.int .i64 (-1))),none,[]⟩] [0,1,5,12]) (.cond (.t 12) (.seq (.ops [⟨some 13,.mv (.t 0),none,[]⟩,⟨some 4,.mv (.t 13),none,[]⟩] [4]) .ret) .skip)) (.seq (.seq (.ops [⟨some 14,.mv (.t 5),none,[]⟩,⟨some 15,.bin .add (.t 14) (.c (.int .i64 1)),none,[]⟩,⟨some 6,.mv (.t 15),none,[]⟩] [0,1,5,6]) (.block 0 (.loop (.keep [0,1,5,6] [0] c84_22)))) (.seq (.ops [⟨some 36,.mv (.t 0),none,[]⟩,⟨some 37,.mv (.t 5),none,[]⟩,⟨some 38,.sl (.t 36) (some (.t 37)) none 1,none,[0]⟩,⟨none,.clear (.t 38) 1 [.int .i64 0],none,[0]⟩] [0,5]) (.seq (.ops [⟨some 39,.mv (.t 0),none,[]⟩,⟨some 40,.mv (.t 5),none,[]⟩,⟨some 41,.sl (.t 39) none (some (.t 40)) 1,none,[0]⟩,⟨some 4,.mv (.t 41),none,[]⟩] [4]) .ret)))))
theorem r84_34:type_of% (rr c84_34.eq_1):=rr rfl
def a84:AFun:=⟨2,42,c84_34,[.t 4]⟩
attribute [simp] r84_22 r84_34
theorem m84:mFun Tryz.prog Tryz.f84 a84=true:=by decide +kernel
def c54_13:ACode:=.seq (.ops [⟨some 4,.box (.t 0) 6,none,[]⟩,⟨some 5,.box (.t 1) 17,none,[]⟩,⟨some 6,.box (.t 2) 10,none,[]⟩,⟨some 8,.mv (.c (.nils)),none,[]⟩] [3,4,5,6]) (.seq (.ops [⟨some 11,.load 17 true (.t 5),none,[5]⟩,⟨some 12,.mv (.t 3),none,[]⟩,⟨some 13,.call 83 [.t 11,.t 12],none,[]⟩,⟨some 9,.mv (.t 13),none,[]⟩] [3,4,6,9]) (.seq (.seq (.ops [⟨some 14,.mv (.t 9),none,[]⟩,⟨some 15,.bin .lss (.t 14) (.c (.int .i64 0)),none,[]⟩] [3,4,6,9,15]) (.cond (.t 15) (.seq (.ops [⟨some 8,.mv (.c (.nils)),none,[]⟩] [8]) .ret) .skip)) (.seq (.ops [⟨some 16,.mv (.t 3),none,[]⟩,⟨some 17,.iad (.t 6) (.t 16) 2 5,none,[6]⟩,⟨some 18,.load 2 true (.t 17),none,[6]⟩,⟨some 10,.alloc [.int .i64 0,.int .i64 0],none,[]⟩,⟨none,.store (.t 10) 2 (.t 18),none,[10]⟩] [4,9,10]) (.seq (.ops [⟨some 19,.load 6 true (.t 4),none,[4]⟩,⟨some 20,.mv (.t 9),none,[]⟩,⟨some 21,.gcall 85 [.t 19,.t 20] [] 21,none,[]⟩,⟨some 22,.clo 86 [.t 10],none,[10]⟩,⟨some 23,.gcall 84 [.t 21,.t 22] [21] 21,none,[21]⟩,⟨some 8,.mv (.t 23),none,[]⟩] [8]) .ret))))
theorem r54_13:type_of% (rr c54_13.eq_1):=rr rfl
def a54:AFun:=⟨4,24,c54_13,[.t 8]⟩
attribute [simp] r54_13
theorem m54:mFun Tryz.prog Tryz.f54 a54=true:=by decide +kernel
def featOf (q:Query) (place:Int):Int:=if 0≤place∧place<4 then place else if place=4∧q.kind=3 then q.feature else -1
noncomputable def FeatC (q:Query) (place:Int):Option Int:=Part True (featOf q place)
theorem runs_feature (q:Query) (place:Int) (r:Int) (h:FeatC q place=some r):Runs (tbl []) a83 [Arg.enc q,Arg.enc place] (Arg.enc r):=by
 obtain⟨_,rfl⟩:=part_some h
 clear h
 refine⟨rfl,fun g=>run_def ?_⟩
 unfold a83 featOf
 by_cases h1:0≤place
 ·by_cases h2:place<4
  ·simp -implicitDefEqProofs [h1,h2]
  ·by_cases h3:place=4
   ·subst h3
    by_cases h4:q.kind=3
    ·simp -implicitDefEqProofs [h4]
    ·simp -implicitDefEqProofs [h4]
   ·simp -implicitDefEqProofs [h1,h2,h3]
 ·by_cases h3:place=4
  ·omega
  ·simp -implicitDefEqProofs [h1,h3]
theorem c_feature:Contract Tryz.prog 83 (sp2 FeatC) :=
 contract_of_runs mixed tbl_nil Tryz.func83 m83 (sp2_runs runs_feature)
def outS (s:Span) (t:Int):Bool:=decide (t<s.lo)||decide (s.hi≤t)
@[simp] theorem dec_ref_span (lo hi:Int):(Arg.dec (.ipt 0 [.int .i64 lo,.int .i64 hi]):Option (Ref Span))=some ⟨⟨lo,hi⟩⟩:=Arg.dec_enc (⟨⟨lo,hi⟩⟩:Ref Span)
noncomputable def outR (t:Int) (s:Ref Span):Option Bool:=Part True (outS s.v t)
theorem runs_Cuts1 (t:Int) (s:Ref Span) (r:Bool) (h:outR t s=some r):Runs (tbl []) a86 [Arg.enc t,Arg.enc s] (Arg.enc r):=by
 obtain⟨_,rfl⟩:=part_some h
 clear h
 obtain⟨s⟩:=s
 refine⟨rfl,fun g=>run_def ?_⟩
 unfold a86 outS
 by_cases h1:t<s.lo
 ·simp -implicitDefEqProofs [h1]
 ·simp -implicitDefEqProofs [h1]
theorem c_Cuts1:Contract Tryz.prog 86 (sp2 outR) :=
 contract_of_runs mixed tbl_nil Tryz.func86 m86 (sp2_runs runs_Cuts1)
theorem rd_iv (zs:List Int) (i:Nat) (h:i<zs.length):rd (iv zs) i 1 false=some (.int .i64 zs[i]):=by rw[iv_enc];exact rd_ints zs i h
theorem wr_iv (zs:List Int) (i:Nat) (h:i<zs.length) (x:Int):wr (iv zs) i [.int .i64 x]=iv (zs.set i x):=by rw[iv_enc,iv_enc];exact wr_ints zs i h x
def idxG:GSp:=fun args h=>match args,h with
 | [.own 0 0 0 n,.clo 86 [.ipt 0 [.int .i64 lo,.int .i64 hi]]],[(0,k)]=>if k.esz=1∧k.frz=false∧n≤1099511627776 then (ints k.cs).bind fun zs=>if n≤zs.length then some (.int .i64 (idxF (outS ⟨lo,hi⟩) (zs.take n)),[(0,k)]) else none else none
 | _,_=>none
theorem run_idx (n:Nat) (lo hi:Int) (zs:List Int) (hn:n≤zs.length) (hb:n≤1099511627776) (g:Nat→Nat) (hg:g 0=0) :
  run (tbl [(86,sp2 outR)]) a119.code [] ⟨argEnv 0 [.own 0 0 0 n,.clo 86 [.ipt 0 [.int .i64 lo,.int .i64 hi]]],[(0,⟨iv zs,false,1⟩)],g⟩
   (gfinN a119.res true none (.int .i64 (idxF (outS ⟨lo,hi⟩) (zs.take n))) [(0,⟨iv zs,false,1⟩)]):=by
 unfold a119
 have b3:n≤maxN:=by unfold maxN;omega
 simp -implicitDefEqProofs [hg,b3]
 refine run_while (c:=c119_15) (fun m s=>∃(i:Nat) (g:Nat→Nat),i+m=n∧g 0=0∧(∀(j:Nat) (hj:j<zs.length),j<i→outS ⟨lo,hi⟩ zs[j]=false)∧s=⟨[(0,.own 0 0 0 n),(1,.clo 86 [.ipt 0 [.int .i64 lo,.int .i64 hi]]),(7,.int .i64 n),(8,.int .i64 i)],[(0,⟨iv zs,false,1⟩)],g⟩) n ⟨0,g,by omega,hg,fun j _ h=>by omega,by simp⟩ ?_
 rintro m s ⟨i,g,hi2,hg,hno,rfl⟩
 have htl:(zs.take n).length=n:=by simp;omega
 by_cases h1:i<n
 case pos =>
  have w1:IntKind.i64.wrap ((i:Int)+1)=(i:Int)+1:=wrap64 (by omega) (by omega)
  have hlt:i<zs.length:=by omega
  have hrow:=rd_iv zs i hlt
  have hR:outR zs[i] ⟨⟨lo,hi⟩⟩=some (outS ⟨lo,hi⟩ zs[i]):=part_of trivial _
  cases hb2:outS ⟨lo,hi⟩ zs[i]
  case false =>
   rw[hb2] at hR
   simp -implicitDefEqProofs [h1,hg,hrow,hR,w1]
   have hno2:∀(j:Nat) (hj:j<zs.length),j<i+1→outS ⟨lo,hi⟩ zs[j]=false:=fun j hj hji=>by
    by_cases e:j=i
    ·subst e;exact hb2
    ·exact hno j hj (by omega)
   exact⟨m-1,by omega,i+1,by omega,g,hg,hno2,by simp⟩
  case true =>
   rw[hb2] at hR
   have hidx:idxF (outS ⟨lo,hi⟩) (zs.take n)=i:=by
    have hlt2:i<(zs.take n).length:=by rw[htl];exact h1
    have:(zs.take n).findIdx (outS ⟨lo,hi⟩)=i:=(List.findIdx_eq hlt2).2 ⟨by rw[List.getElem_take];exact hb2,fun j hj=>by rw[List.getElem_take];exact hno j (by omega) hj⟩
    unfold idxF
    rw[this,if_pos hlt2]
   simp -implicitDefEqProofs [h1,hg,hrow,hR,w1,hidx,mapM1_nrm]
 case neg =>
  have hidx:idxF (outS ⟨lo,hi⟩) (zs.take n)=-1:=by
   have:(zs.take n).findIdx (outS ⟨lo,hi⟩)=(zs.take n).length:=List.findIdx_eq_length.2 fun x hx=>by
    obtain⟨j,hj,rfl⟩:=List.mem_iff_getElem.1 hx
    rw[List.getElem_take]
    exact hno j (by omega) (by omega)
   unfold idxF
   rw[this,if_neg (by omega)]
  simp -implicitDefEqProofs [h1,hg,hidx,mapM1_nrm]
theorem c_idxG:Contract Tryz.prog (gBase+119) (gspec idxG) :=
 gcontractN (C:=tbl [(86,sp2 outR)]) mixed (tbl_cons c_Cuts1 tbl_nil) Tryz.func119 m119 fun args h r h' hs=>by
  unfold idxG at hs
  split at hs
  ·rename_i n lo hi k
   split at hs
   ·rename_i hc
    obtain⟨he,hf,hb⟩:=hc
    rw[Option.bind_eq_some_iff] at hs
    obtain⟨zs,hz,hs⟩:=hs
    split at hs
    ·rename_i hn
     simp only[Option.some.injEq,Prod.mk.injEq] at hs
     obtain⟨rfl,rfl⟩:=hs
     obtain⟨cs,fz,e⟩:=k
     simp only at he hf hz
     subst he hf
     rw[iv_of_ints hz]
     exact⟨rfl,true,none,run_idx n lo hi zs hn hb _ rfl⟩
    ·cases hs
   ·cases hs
  ·cases hs
def delG:GSp:=fun args h=>match args,h with
 | [.own 0 0 0 n,.clo 86 [.ipt 0 [.int .i64 lo,.int .i64 hi]]],[(0,k)]=>if k.esz=1∧k.frz=false∧n≤1099511627776 then (ints k.cs).bind fun zs=>if n≤zs.length then
   some (.own 0 0 0 ((zs.take n).filter fun t => !outS ⟨lo,hi⟩ t).length,[(0,⟨iv (((zs.take n).filter fun t => !outS ⟨lo,hi⟩ t)++List.replicate (n-((zs.take n).filter fun t => !outS ⟨lo,hi⟩ t).length) 0++zs.drop n),false,1⟩)]) else none else none
 | _,_=>none
def keepF (s:Span) (zs:List Int) (j:Nat):List Int:=(zs.take j).filter fun t => !outS s t
theorem keepF_le (s:Span) (zs:List Int) (j:Nat):(keepF s zs j).length≤j:=by
 unfold keepF
 exact Nat.le_trans (List.length_filter_le _ _) (List.length_take_le j zs)
theorem keepF_out {s:Span} {zs:List Int} {j:Nat} (h:j<zs.length) (ho:outS s zs[j]=true):keepF s zs (j+1)=keepF s zs j:=by
 unfold keepF
 rw[List.take_succ_eq_append_getElem h,List.filter_append]
 simp[ho]
theorem keepF_in {s:Span} {zs:List Int} {j:Nat} (h:j<zs.length) (ho:outS s zs[j]=false):keepF s zs (j+1)=keepF s zs j++[zs[j]]:=by
 unfold keepF
 rw[List.take_succ_eq_append_getElem h,List.filter_append]
 simp[ho]
def delRow (s:Span) (zs:List Int) (j:Nat):List Int:=keepF s zs j++zs.drop (keepF s zs j).length
theorem delRow_len (s:Span) (zs:List Int) {j:Nat} (h:j≤zs.length):(delRow s zs j).length=zs.length:=by
 unfold delRow
 have:=keepF_le s zs j
 rw[List.length_append,List.length_drop]
 omega
theorem delRow_get (s:Span) (zs:List Int) {j:Nat} (h:j<zs.length):(delRow s zs j)[j]? = some zs[j]:=by
 unfold delRow
 have:=keepF_le s zs j
 rw[List.getElem?_append_right (by omega),List.getElem?_drop]
 rw[show (keepF s zs j).length+(j-(keepF s zs j).length)=j by omega]
 simp[h]
theorem delRow_in {s:Span} {zs:List Int} {j:Nat} (h:j<zs.length) (ho:outS s zs[j]=false):delRow s zs (j+1)=(delRow s zs j).set (keepF s zs j).length zs[j]:=by
 have hk:=keepF_le s zs j
 unfold delRow
 rw[keepF_in h ho]
 rw[List.set_append_right _ _ (by omega),Nat.sub_self,List.append_assoc]
 congr 1
 have hd:zs.drop (keepF s zs j).length=zs[(keepF s zs j).length]'(by omega)::zs.drop ((keepF s zs j).length+1):=List.drop_eq_getElem_cons (by omega)
 rw[hd]
 simp only[List.length_append,List.length_cons,List.length_nil,List.set_cons_zero,List.singleton_append,Nat.zero_add]
theorem keepF_none {s:Span} {zs:List Int}:∀ {j:Nat},j≤zs.length→(∀(i:Nat) (h:i<zs.length),i<j→outS s zs[i]=false)→keepF s zs j=zs.take j
 | 0,_,_=>by simp[keepF]
 | j+1,hj,h=>by
  rw[keepF_in (by omega) (h j (by omega) (by omega)),keepF_none (by omega) (fun i hi hij=>h i hi (by omega)),List.take_succ_eq_append_getElem (by omega)]
theorem delRow_none {s:Span} {zs:List Int} {j:Nat} (hj:j≤zs.length) (h:∀(i:Nat) (h:i<zs.length),i<j→outS s zs[i]=false):delRow s zs j=zs:=by
 unfold delRow
 rw[keepF_none hj h,List.length_take,Nat.min_eq_left hj,List.take_append_drop]
theorem idxF_spec {α:Type} {p:α→Bool} {l:List α}:(idxF p l=-1∧∀ x∈l,p x=false)∨∃(i:Nat) (h:i<l.length),idxF p l=i∧p l[i]=true∧∀(j:Nat) (hj:j<l.length),j<i→p l[j]=false:=by
 unfold idxF
 by_cases h:l.findIdx p<l.length
 ·rw[if_pos h]
  obtain⟨h1,h2⟩:=(List.findIdx_eq h).1 rfl
  exact .inr ⟨_,h,rfl,h1,fun j hj hji=>h2 j hji⟩
 ·rw[if_neg h]
  exact .inl ⟨rfl,List.findIdx_eq_length.1 (by have:=List.findIdx_le_length (p:=p) (xs:=l);omega)⟩
theorem run_del (n:Nat) (lo hi:Int) (zs:List Int) (hn:n≤zs.length) (hb:n≤1099511627776) (g:Nat→Nat) (hg:g 0=0) :
  run (tbl [(86,sp2 outR),(1000000+119,gspec idxG)]) a84.code [] ⟨argEnv 0 [.own 0 0 0 n,.clo 86 [.ipt 0 [.int .i64 lo,.int .i64 hi]]],[(0,⟨iv zs,false,1⟩)],g⟩
   (gfinN a84.res true none (.own 0 0 0 (keepF ⟨lo,hi⟩ zs n).length) [(0,⟨iv (keepF ⟨lo,hi⟩ zs n++List.replicate (n-(keepF ⟨lo,hi⟩ zs n).length) 0++zs.drop n),false,1⟩)]):=by
 unfold a84
 have b3:n≤maxN:=by unfold maxN;omega
 have htl:(zs.take n).length=n:=by simp;omega
 rcases idxF_spec (p:=outS ⟨lo,hi⟩) (l:=zs.take n) with⟨e,hno⟩|⟨i,hi2,e,hb2,hno⟩
 ·have hk:keepF ⟨lo,hi⟩ zs n=zs.take n:=keepF_none hn fun i h hin=>by
   have:=hno zs[i] (List.mem_take_iff_getElem.2 ⟨i,by omega,rfl⟩)
   exact this
  have hrow:zs.take n++List.replicate (n-(zs.take n).length) 0++zs.drop n=zs:=by rw[htl];simp
  rw[hk,hrow,htl]
  simp -implicitDefEqProofs [hg,b3,idxG,ints_iv,e,mapM1_nrm,mapM1_up,hn,hb]
 ·have hin:i<n:=by omega
  have hiz:i<zs.length:=by omega
  rw[List.getElem_take] at hb2
  have hno':∀(j:Nat) (h:j<zs.length),j<i→outS ⟨lo,hi⟩ zs[j]=false:=fun j h hji=>by
   have:=hno j (by omega) hji
   rwa [List.getElem_take] at this
  have hrow0:delRow ⟨lo,hi⟩ zs (i+1)=zs:=by
   have h1:=delRow_none (s:=⟨lo,hi⟩) (zs:=zs) (j:=i) (by omega) hno'
   unfold delRow at h1 ⊢
   rw[keepF_out hiz hb2]
   exact h1
  have hlen0:(keepF ⟨lo,hi⟩ zs (i+1)).length=i:=by rw[keepF_out hiz hb2,keepF_none (by omega) hno'];simp;omega
  have w0:IntKind.i64.wrap ((i:Int)+1)=(i:Int)+1:=wrap64 (by omega) (by omega)
  have e2:¬ ((i:Int)=-1):=by omega
  simp -implicitDefEqProofs [hg,b3,idxG,ints_iv,e,e2,w0,mapM1_nrm,mapM1_up,hn,hb]
  refine run_while (c:=c84_22) (fun m s=>∃(j:Nat) (g:Nat→Nat),j+m=n∧g 0=0∧s=⟨[(0,.own 0 0 0 n),(1,.clo 86 [.ipt 0 [.int .i64 lo,.int .i64 hi]]),(5,.int .i64 (keepF ⟨lo,hi⟩ zs j).length),(6,.int .i64 j)],[(0,⟨iv (delRow ⟨lo,hi⟩ zs j),false,1⟩)],g⟩) (n-(i+1)) ⟨i+1,g,by omega,hg,by simp[hrow0,hlen0]⟩ ?_
  rintro m s ⟨j,g,hj,hg,rfl⟩
  have hkl:=keepF_le ⟨lo,hi⟩ zs j
  have hdl:=delRow_len ⟨lo,hi⟩ zs (j:=j) (by omega)
  by_cases h1:j<n
  case pos =>
   have hjz:j<zs.length:=by omega
   have w1:IntKind.i64.wrap ((j:Int)+1)=(j:Int)+1:=wrap64 (by omega) (by omega)
   have w2:IntKind.i64.wrap (((keepF ⟨lo,hi⟩ zs j).length:Int)+1)=((keepF ⟨lo,hi⟩ zs j).length:Int)+1:=wrap64 (by omega) (by omega)
   have hget:(delRow ⟨lo,hi⟩ zs j)[j]'(by omega)=zs[j]:=by
    have:=delRow_get ⟨lo,hi⟩ zs hjz
    rw[List.getElem?_eq_getElem (by omega)] at this
    exact Option.some.inj this
   have hrow:=rd_iv (delRow ⟨lo,hi⟩ zs j) j (by omega)
   rw[hget] at hrow
   have hR:outR zs[j] ⟨⟨lo,hi⟩⟩=some (outS ⟨lo,hi⟩ zs[j]):=part_of trivial _
   cases hb3:outS ⟨lo,hi⟩ zs[j]
   case true =>
    rw[hb3] at hR
    have hs:delRow ⟨lo,hi⟩ zs (j+1)=delRow ⟨lo,hi⟩ zs j:=by unfold delRow;rw[keepF_out hjz hb3]
    have hs2:=keepF_out hjz hb3
    simp -implicitDefEqProofs [h1,hg,b3,hrow,hR,w1]
    exact⟨m-1,by omega,j+1,by omega,g,hg,⟨by rw[hs2],by omega⟩,by rw[hs],rfl⟩
   case false =>
    rw[hb3] at hR
    have hwr:=wr_iv (delRow ⟨lo,hi⟩ zs j) (keepF ⟨lo,hi⟩ zs j).length (by omega) zs[j]
    rw[← delRow_in hjz hb3] at hwr
    have hs2:(keepF ⟨lo,hi⟩ zs (j+1)).length=(keepF ⟨lo,hi⟩ zs j).length+1:=by rw[keepF_in hjz hb3];simp
    have k1:(keepF ⟨lo,hi⟩ zs j).length<n:=by omega
    have k2:(keepF ⟨lo,hi⟩ zs j).length+1≤zs.length:=by omega
    simp -implicitDefEqProofs [h1,hg,b3,hrow,hR,w1,w2,hwr,hdl,k1,k2]
    exact⟨m-1,by omega,j+1,by omega,g,hg,⟨by omega,by omega⟩,rfl,rfl⟩
  case neg =>
   have hjn:j=n:=by omega
   subst hjn
   have k1:(keepF ⟨lo,hi⟩ zs j).length≤j:=hkl
   have hcl:wr (iv (delRow ⟨lo,hi⟩ zs j)) (keepF ⟨lo,hi⟩ zs j).length (List.replicate (j-(keepF ⟨lo,hi⟩ zs j).length) (AV.int .i64 0))=iv (keepF ⟨lo,hi⟩ zs j++(List.replicate (j-(keepF ⟨lo,hi⟩ zs j).length) 0++zs.drop j)):=by
    unfold delRow wr
    rw[iv_append,iv_append,iv_append,List.take_append_of_le_length (by simp),iv_take,List.append_assoc,List.drop_append]
    have e1:iv (List.replicate (j-(keepF ⟨lo,hi⟩ zs j).length) 0)=List.replicate (j-(keepF ⟨lo,hi⟩ zs j).length) (AV.int .i64 0):=by simp[iv]
    have e2:List.drop ((keepF ⟨lo,hi⟩ zs j).length+(List.replicate (j-(keepF ⟨lo,hi⟩ zs j).length) (AV.int IntKind.i64 0)).length) (iv (keepF ⟨lo,hi⟩ zs j))=[]:=List.drop_of_length_le (by simp)
    rw[e1,e2]
    simp only[List.nil_append,List.length_replicate,iv_len]
    congr 2
    unfold iv
    rw[← List.map_drop,List.drop_drop]
    congr 2
    omega
   simp -implicitDefEqProofs [h1,hg,b3,k1,hdl,hcl,hn,mapM1_nrm]
theorem c_delG:Contract Tryz.prog (gBase+84) (gspec delG) :=
 gcontractN (C:=tbl [(86,sp2 outR),(1000000+119,gspec idxG)]) mixed (tbl_cons c_Cuts1 (tbl_cons c_idxG tbl_nil)) Tryz.func84 m84 fun args h r h' hs=>by
  unfold delG at hs
  split at hs
  ·rename_i n lo hi k
   split at hs
   ·rename_i hc
    obtain⟨he,hf,hb⟩:=hc
    rw[Option.bind_eq_some_iff] at hs
    obtain⟨zs,hz,hs⟩:=hs
    split at hs
    ·rename_i hn
     simp only[Option.some.injEq,Prod.mk.injEq] at hs
     obtain⟨rfl,rfl⟩:=hs
     obtain⟨cs,fz,e⟩:=k
     simp only at he hf hz
     subst he hf
     rw[iv_of_ints hz]
     exact⟨rfl,true,none,run_del n lo hi zs hn hb _ rfl⟩
    ·cases hs
   ·cases hs
  ·cases hs
def cutsL (m:Model) (q:Query) (b:Box) (place:Int):List Int:=if featOf q place<0 then [] else (thrL m (featOf q place)).filter fun t => !outS (b.get place) t
noncomputable def CutsC (m:Model) (q:Query) (b:Box) (place:Int):Option (List Int):=Part (RM m∧(featOf q place<0∨0≤place∧place≤4)) (cutsL m q b place)
theorem runs_Cuts (m:Model) (q:Query) (b:Box) (place:Int) (r:List Int) (h:CutsC m q b place=some r):Runs (tbl [(83,sp2 FeatC),(1000000+85,gspec thrG),(1000000+84,gspec delG)]) a54 [Arg.enc m,Arg.enc q,Arg.enc b,Arg.enc place] (Arg.enc r):=by
 obtain⟨⟨hm,hp⟩,rfl⟩:=part_some h
 clear h
 refine⟨rfl,fun g=>run_def ?_⟩
 unfold a54 cutsL
 have hF:FeatC q place=some (featOf q place):=part_of trivial _
 generalize featOf q place=ft at *
 by_cases hf:ft<0
 ·rw[if_pos hf]
  simp -implicitDefEqProofs [hF,hf,encL_nil]
 rw[if_neg hf]
 have hp':0≤place∧place≤4:=by rcases hp with h|h;exact absurd h hf;exact h
 have hl:=thr_len m ft
 have hlr:=thrRow_len m ft
 have hrl:(rawM m.trees ft).length≤31*8:=by
  have h1:=rawM_len (j:=ft) (l:=m.trees) fun t ht=>(hm.tree t ht).2.2.le
  have h2:=hm.trees
  omega
 have k1:(thrL m ft).length≤(thrRow m ft).length:=by omega
 have k2:(thrL m ft).length≤1099511627776:=by omega
 have htk:List.take (thrL m ft).length (thrRow m ft)=thrL m ft:=by unfold thrRow;simp
 have hp5:place=0∨place=1∨place=2∨place=3∨place=4:=by omega
 have hfin:∀(s:Span) (X:List Int),List.take ((thrL m ft).filter fun t => !outS s t).length (iv (((thrL m ft).filter fun t => !outS s t)++X))=encL ((thrL m ft).filter fun t => !outS s t):=fun s X=>by
  rw[iv_append,List.take_append_of_le_length (by simp),iv_take,iv_enc]
 rcases hp5 with rfl|rfl|rfl|rfl|rfl<;>simp -implicitDefEqProofs [hF,hf,thrG,hm,delG,ints_iv,mapM1_nrm,mapM1_up,k1,k2,htk,hfin,Box.get]
theorem c_Cuts:Contract Tryz.prog 54 (sp4 CutsC) :=
 contract_of_runs (C:=tbl [(83,sp2 FeatC),(1000000+85,gspec thrG),(1000000+84,gspec delG)]) mixed (tbl_cons c_feature (tbl_cons c_ThrG (tbl_cons c_delG tbl_nil))) Tryz.func54 m54 (sp4_runs runs_Cuts)
end Go.Co
/- CO: thresholds rise; cuts of parts. -/
set_option maxHeartbeats 16000000
set_option maxRecDepth 100000
namespace Go.Co
open Go.Am Go.Proofs
theorem compact_upto {zs:List Int} (hs:zs.Pairwise (·≤·)):∀(m:Nat),m≤zs.length→(∀ x,x∈Go.Lib.compactUpTo zs.toArray m↔x∈zs.take m)∧(Go.Lib.compactUpTo zs.toArray m).Pairwise (·<·)
 | 0,_=>⟨fun x=>by simp[Go.Lib.compactUpTo],by simp[Go.Lib.compactUpTo]⟩
 | m+1,hm=>by
  obtain⟨h1,h2⟩:=compact_upto hs m (by omega)
  have hg:∀(j:Nat) (h:j<zs.length),zs.toArray[j]! = zs[j]:=fun j h=>by simp[getElem!_pos,h]
  have hle:∀(i j:Nat) (hi:i<j) (hj:j<zs.length),zs[i]≤zs[j]:=fun i j hi hj=>List.pairwise_iff_getElem.1 hs i j (by omega) hj hi
  rw[Go.Lib.compactUpTo_succ,hg m (by omega)]
  by_cases hk:Go.Lib.keeps zs.toArray m=true
  ·rw[if_pos hk]
   refine⟨fun x=>?_, ?_⟩
   ·rw[List.take_succ_eq_append_getElem (by omega),List.mem_append,List.mem_append,h1 x]
   ·rw[List.pairwise_append]
    refine⟨h2,by simp,fun a ha b hb=>?_⟩
    simp only[List.mem_singleton] at hb
    subst hb
    have ha':=(h1 a).1 ha
    obtain⟨i,hi,rfl⟩:=List.mem_take_iff_getElem.1 ha'
    have hi':i<m:=by omega
    unfold Go.Lib.keeps at hk
    simp only[decide_eq_true_eq] at hk
    rcases hk with hk|hk
    ·omega
    ·rw[hg m (by omega),hg (m-1) (by omega)] at hk
     have q1:zs[i]≤zs[m-1]:=by
      by_cases e:i=m-1
      ·subst e;exact Int.le_refl _
      ·exact hle i (m-1) (by omega) (by omega)
     have q2:=hle (m-1) m (by omega) (by omega)
     omega
  ·rw[if_neg hk,List.append_nil]
   refine⟨fun x=>?_,h2⟩
   rw[h1 x,List.take_succ_eq_append_getElem (by omega)]
   simp only[List.mem_append,List.mem_singleton]
   constructor
   ·exact .inl
   ·rintro (h|rfl)
    ·exact h
    ·unfold Go.Lib.keeps at hk
     simp only[decide_eq_true_eq,not_or] at hk
     obtain⟨hk0,hk⟩:=hk
     rw[hg m (by omega),hg (m-1) (by omega)] at hk
     have e:zs[m]=zs[m-1]:=by
      apply Classical.byContradiction
      exact hk
     rw[e]
     exact List.mem_take_iff_getElem.2 ⟨m-1,by omega,rfl⟩
theorem compact_sorted {zs:List Int} (hs:zs.Pairwise (·≤·)):(Go.Lib.compact zs).Pairwise (·<·):=by
 have:=(compact_upto hs zs.length (Nat.le_refl _)).2
 unfold Go.Lib.compact
 simpa using this
theorem mem_compact {zs:List Int} (hs:zs.Pairwise (·≤·)) (x:Int):x∈Go.Lib.compact zs↔x∈zs:=by
 have:=(compact_upto hs zs.length (Nat.le_refl _)).1 x
 unfold Go.Lib.compact
 rw[List.take_length] at this
 simpa using this
theorem thr_sorted (m:Model) (j:Int):(thrL m j).Pairwise (·<·):=compact_sorted (isort_sorted _)
theorem mem_thr {m:Model} {j x:Int}:x∈thrL m j↔∃ t∈m.trees,∃ w∈t.nodes,(nd w).leaf=false∧(nd w).feature=j∧(nd w).cut=x:=by
 unfold thrL
 rw[mem_compact (isort_sorted _),(isort_perm _).mem_iff]
 unfold rawM rawW cutF
 simp only[List.mem_flatMap,List.mem_filterMap]
 constructor
 ·rintro⟨t,ht,w,hw,h⟩
  split at h
  ·rename_i hc
   cases h
   exact⟨t,ht,w,hw,hc.1,hc.2,rfl⟩
  ·cases h
 ·rintro⟨t,ht,w,hw,h1,h2,h3⟩
  exact⟨t,ht,w,hw,by rw[if_pos ⟨h1,h2⟩,h3]⟩
def inN (T:List Int) (lo hi:Int):Nat:=(T.filter fun t => !outS ⟨lo,hi⟩ t).length
def cutN (m:Model) (q:Query) (b:Box) (i:Int):Nat:=if featOf q i<0 then 0 else inN (thrL m (featOf q i)) (b.get i).lo (b.get i).hi
theorem cutsL_len (m:Model) (q:Query) (b:Box) (i:Int):(cutsL m q b i).length=cutN m q b i:=by
 unfold cutsL cutN inN
 split<;>rfl
def c29_27:ACode:=.seq (.ops [⟨some 4,.box (.t 0) 6,none,[]⟩,⟨some 5,.box (.t 1) 17,none,[]⟩,⟨some 6,.box (.t 2) 10,none,[]⟩,⟨some 8,.mv (.c (.int .i64 0)),none,[]⟩,⟨some 9,.mv (.c (.bool false)),none,[]⟩] [3,4,5,6]) (.seq (.ops [⟨some 10,.mv (.c (.int .i64 1)),none,[]⟩] [3,4,5,6,10]) (.seq (.seq (.ops [⟨some 12,.mv (.c (.int .i64 0)),none,[]⟩] [3,4,5,6,10,12]) (.block 0 (.loop (.keep [3,4,5,6,10,12] [4,5,6] (.seq (.ops [⟨some 13,.bin .lss (.t 12) (.c (.int .i64 5)),none,[]⟩] [3,4,5,6,10,12,13]) (.seq (.cond (.t 13) .skip (.exit 0)) (.seq (.block 1 (.seq (.ops [⟨some 14,.mv (.t 12),none,[]⟩,⟨some 11,.mv (.t 14),none,[]⟩] [3,4,5,6,10,11,12]) (.ops [⟨some 15,.mv (.t 10),none,[]⟩,⟨some 16,.load 6 true (.t 4),none,[4]⟩,⟨some 17,.load 17 true (.t 5),none,[5]⟩,⟨some 18,.load 10 true (.t 6),none,[6]⟩,⟨some 19,.mv (.t 11),none,[]⟩,⟨some 20,.call 54 [.t 16,.t 17,.t 18,.t 19],none,[]⟩,⟨some 21,.len (.t 20),none,[]⟩,⟨some 22,.bin .add (.c (.int .i64 1)) (.t 21),none,[]⟩,⟨some 23,.bin .mul (.t 15) (.t 22),none,[]⟩,⟨some 10,.mv (.t 23),none,[]⟩] [3,4,5,6,10,12]))) (.ops [⟨some 24,.bin .add (.t 12) (.c (.int .i64 1)),none,[]⟩,⟨some 12,.mv (.t 24),none,[]⟩] [3,4,5,6,10,12])))))))) (.seq (.seq (.ops [⟨some 25,.mv (.t 10),none,[]⟩,⟨some 26,.mv (.t 3),none,[]⟩,⟨some 27,.bin .gtr (.t 25) (.t 26),none,[]⟩] [10,27]) (.cond (.t 27) (.seq (.ops [⟨some 8,.mv (.c (.int .i64 0)),none,[]⟩,⟨some 9,.mv (.c (.bool false)),none,[]⟩] [8,9]) .ret) .skip)) (.seq (.ops [⟨some 28,.mv (.t 10),none,[]⟩,⟨some 8,.mv (.t 28),none,[]⟩,⟨some 9,.mv (.c (.bool true)),none,[]⟩] [8,9]) .ret))))
theorem r29_27:type_of% (rr c29_27.eq_1):=rr rfl
def a29:AFun:=⟨4,29,c29_27,[.t 8,.t 9]⟩
attribute [simp] r29_27
theorem m29:mFun Tryz.prog Tryz.f29 a29=true:=by decide +kernel
def kN (m:Model) (q:Query) (b:Box) (i:Int):Int:=1+(cutN m q b i:Int)
theorem cutN_le {m:Model} (hm:RM m) (q:Query) (b:Box) (i:Int):cutN m q b i≤248:=by
 unfold cutN
 split
 ·omega
 ·unfold inN
  have h1:=List.length_filter_le (fun t => !outS ⟨(b.get i).lo,(b.get i).hi⟩ t) (thrL m (featOf q i))
  have h2:=thr_len m (featOf q i)
  have h3:=rawM_len (j:=featOf q i) (l:=m.trees) fun t ht=>(hm.tree t ht).2.2.le
  have h4:=hm.trees
  omega
theorem kN_le {m:Model} (hm:RM m) (q:Query) (b:Box) (i:Int):1≤kN m q b i∧kN m q b i≤249:=by
 have:=cutN_le hm q b i
 unfold kN
 omega
def countM (m:Model) (q:Query) (b:Box):Int:=kN m q b 0*kN m q b 1*kN m q b 2*kN m q b 3*kN m q b 4
theorem mul_le {a b A B:Int} (h1:1≤a) (h2:a≤A) (h3:1≤b) (h4:b≤B):1≤a*b∧a*b≤A*B:=by
 constructor
 ·have:=Int.mul_le_mul h1 h3 (by omega) (by omega)
  omega
 ·exact Int.mul_le_mul h2 h4 (by omega) (by omega)
noncomputable def CountC (m:Model) (q:Query) (b:Box) (most:Int):Option (Int×Bool):=Part (RM m) (if countM m q b≤most then (countM m q b,true) else (0,false))
theorem runs_Count (m:Model) (q:Query) (b:Box) (most:Int) (r:Int×Bool) (h:CountC m q b most=some r):Runs (tbl [(54,sp4 CutsC)]) a29 [Arg.enc m,Arg.enc q,Arg.enc b,Arg.enc most] (Arg.enc r):=by
 obtain⟨hm,rfl⟩:=part_some h
 clear h
 refine⟨rfl,fun g=>run_def ?_⟩
 unfold a29
 have hC:∀ i:Int,0≤i→i≤4→CutsC m q b i=some (cutsL m q b i):=fun i h1 h2=>part_of ⟨hm,.inr ⟨h1,h2⟩⟩ _
 have e0:=hC 0 (by omega) (by omega)
 have e1:=hC 1 (by omega) (by omega)
 have e2:=hC 2 (by omega) (by omega)
 have e3:=hC 3 (by omega) (by omega)
 have e4:=hC 4 (by omega) (by omega)
 have hL:∀ i:Int,(cutsL m q b i).length≤maxN:=fun i=>by rw[cutsL_len];have:=cutN_le hm q b i;unfold maxN;omega
 have hw:∀ i:Int,IntKind.i64.wrap (1+((cutsL m q b i).length:Int))=kN m q b i:=fun i=>by
  rw[cutsL_len]
  have:=cutN_le hm q b i
  exact wrap64 (by omega) (by omega)
 have k0:=kN_le hm q b 0
 have k1:=kN_le hm q b 1
 have k2:=kN_le hm q b 2
 have k3:=kN_le hm q b 3
 have k4:=kN_le hm q b 4
 unfold countM
 have w0:IntKind.i64.wrap (kN m q b 0)=kN m q b 0:=wrap64 (by omega) (by omega)
 have p1:=mul_le k0.1 k0.2 k1.1 k1.2
 have p2:=mul_le p1.1 p1.2 k2.1 k2.2
 have p3:=mul_le p2.1 p2.2 k3.1 k3.2
 have p4:=mul_le p3.1 p3.2 k4.1 k4.2
 have w1:IntKind.i64.wrap (kN m q b 0*kN m q b 1)=kN m q b 0*kN m q b 1:=wrap64 (by omega) (by omega)
 have w2:IntKind.i64.wrap (kN m q b 0*kN m q b 1*kN m q b 2)=kN m q b 0*kN m q b 1*kN m q b 2:=wrap64 (by omega) (by omega)
 have w3:IntKind.i64.wrap (kN m q b 0*kN m q b 1*kN m q b 2*kN m q b 3)=kN m q b 0*kN m q b 1*kN m q b 2*kN m q b 3:=wrap64 (by omega) (by omega)
 have w4:IntKind.i64.wrap (kN m q b 0*kN m q b 1*kN m q b 2*kN m q b 3*kN m q b 4)=kN m q b 0*kN m q b 1*kN m q b 2*kN m q b 3*kN m q b 4:=wrap64 (by omega) (by omega)
 by_cases hmost:kN m q b 0*kN m q b 1*kN m q b 2*kN m q b 3*kN m q b 4≤most
 ·have hn:¬ most<kN m q b 0*kN m q b 1*kN m q b 2*kN m q b 3*kN m q b 4:=by omega
  simp -implicitDefEqProofs [run_round,e0,e1,e2,e3,e4,hL,hw,w0,w1,w2,w3,w4,hmost,hn]
 ·have hn:most<kN m q b 0*kN m q b 1*kN m q b 2*kN m q b 3*kN m q b 4:=by omega
  simp -implicitDefEqProofs [run_round,e0,e1,e2,e3,e4,hL,hw,w0,w1,w2,w3,w4,hmost,hn]
theorem c_Count:Contract Tryz.prog 29 (sp4 CountC) :=
 contract_of_runs mixed (tbl_cons c_Cuts tbl_nil) Tryz.func29 m29 (sp4_runs runs_Count)
end Go.Co
