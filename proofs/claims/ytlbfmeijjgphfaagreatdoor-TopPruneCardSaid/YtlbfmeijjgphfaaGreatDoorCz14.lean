/- CO: texts of this claim, one behind the other. -/
import Derived.Test.YtlbfmeijjgphfaaGreatDoorCz11
import Derived.Test.YtlbfmeijjgphfaaGreatDoorCz8
set_option linter.unusedVariables false
set_option linter.unusedSimpArgs false
/- CO: with budget enough each query is decided. -/
namespace Go.Co
open Go.Am Go.Proofs
theorem inN_cut {T:List Int} (hs:T.Pairwise (·<·)) {lo n hi:Int} (h1:lo≤n) (h2:n<hi) (hn:n∈T):inN T lo n+inN T (n+1) hi+1=inN T lo hi:=by
 unfold inN
 have key:∀(T:List Int),(T.filter fun t => !outS ⟨lo,hi⟩ t).length=(T.filter fun t => !outS ⟨lo,n⟩ t).length+(T.filter fun t => !outS ⟨n+1,hi⟩ t).length+(T.filter fun t=>decide (t=n)).length:=by
  intro T
  induction T with
  | nil=>rfl
  | cons t T ih =>
   simp only[List.filter_cons]
   have e1:outS ⟨lo,hi⟩ t=(decide (t<lo)||decide (hi≤t)):=rfl
   have e2:outS ⟨lo,n⟩ t=(decide (t<lo)||decide (n≤t)):=rfl
   have e3:outS ⟨n+1,hi⟩ t=(decide (t<n+1)||decide (hi≤t)):=rfl
   rw[e1,e2,e3]
   have n0:(decide (t=n))=(decide (t=n)):=rfl
   by_cases c1:t<lo
   ·have a1:¬ t=n:=by omega
    simp only[c1,a1,show t<n+1 by omega,decide_true,decide_false,Bool.true_or,Bool.not_true,Bool.false_eq_true,if_false]
    exact ih
   ·by_cases c2:t<n
    ·have a1:¬ hi≤t:=by omega
     have a2:¬ n≤t:=by omega
     have a4:¬ t=n:=by omega
     simp only[c1,a1,a2,a4,show t<n+1 by omega,decide_true,decide_false,Bool.true_or,Bool.false_or,Bool.or_false,Bool.not_true,Bool.not_false,Bool.false_eq_true,if_false,if_true,List.length_cons]
     omega
    ·by_cases c3:t=n
     ·have a1:¬ hi≤t:=by omega
      have a2:n≤t:=by omega
      simp only[c1,a1,a2,show decide (t=n)=true by simpa using c3,show t<n+1 by omega,decide_true,decide_false,Bool.true_or,Bool.false_or,Bool.or_true,Bool.or_false,Bool.not_true,Bool.not_false,Bool.false_eq_true,if_false,if_true,List.length_cons]
      omega
     ·have a2:n≤t:=by omega
      have a3:¬ t<n+1:=by omega
      by_cases c4:hi≤t
      ·simp only[c1,a2,a3,c3,c4,decide_true,decide_false,Bool.true_or,Bool.false_or,Bool.or_true,Bool.not_true,Bool.false_eq_true,if_false]
       exact ih
      ·simp only[c1,a2,a3,c3,c4,decide_true,decide_false,Bool.true_or,Bool.false_or,Bool.or_true,Bool.or_false,Bool.not_true,Bool.not_false,Bool.false_eq_true,if_false,if_true,List.length_cons]
       omega
 have one:(T.filter fun t=>decide (t=n)).length=1:=by
  have hnd:T.Nodup:=hs.imp fun h=>by omega
  clear key hs
  induction T with
  | nil=>simp at hn
  | cons t T ih =>
   rw[List.nodup_cons] at hnd
   rw[List.filter_cons]
   by_cases e:t=n
   ·subst e
    rw[if_pos (by simp)]
    have:T.filter (fun x=>decide (x=t))=[]:=by
     rw[List.filter_eq_nil_iff]
     intro x hx
     simp only[decide_eq_true_eq]
     rintro rfl
     exact hnd.1 hx
    rw[this]
    rfl
   ·rw[if_neg (by simpa using e)]
    exact ih (by rcases List.mem_cons.1 hn with rfl|h;exact absurd rfl e;exact h) hnd.2
 have:=key T
 omega
theorem kN_set_ne (m:Model) (q:Query) (b:Box) {k i:Int} (s:Span) (h:(b.set k s).get i=b.get i):kN m q (b.set k s) i=kN m q b i:=by
 unfold kN cutN
 rw[h]
theorem kN_cut {m:Model} {q:Query} {b:Box} {k n:Int} (hl:((b.set k ⟨(b.get k).lo,n⟩).get k)=⟨(b.get k).lo,n⟩) (hr:((b.set k ⟨n+1,(b.get k).hi⟩).get k)=⟨n+1,(b.get k).hi⟩) (hn:n∈cutsL m q b k) :
  kN m q (b.set k ⟨(b.get k).lo,n⟩) k+kN m q (b.set k ⟨n+1,(b.get k).hi⟩) k=kN m q b k:=by
 unfold cutsL at hn
 split at hn
 ·simp at hn
 ·rename_i hf
  rw[List.mem_filter] at hn
  obtain⟨hn1,hn2⟩:=hn
  have ho:¬ n<(b.get k).lo∧¬ (b.get k).hi≤n:=by
   unfold outS at hn2
   simpa using hn2
  have:=inN_cut (thr_sorted m (featOf q k)) (lo:=(b.get k).lo) (n:=n) (hi:=(b.get k).hi) (by omega) (by omega) hn1
  unfold kN cutN
  rw[hl,hr,if_neg hf,if_neg hf,if_neg hf]
  simp only[]
  omega
theorem count_halves {m:Model} {q:Query} {b:Box} {k n:Int} (h0:0≤k) (h5:k<5) (hn:n∈cutsL m q b k):countM m q (cutB b k n).1+countM m q (cutB b k n).2=countM m q b:=by
 obtain⟨hlo,hhi⟩:=cuts_in _ hn
 rw[cutB_halves h0 h5 hlo hhi]
 simp only[]
 have hk:k=0∨k=1∨k=2∨k=3∨k=4:=by omega
 have hK:=fun a b'=>kN_cut (m:=m) (q:=q) (b:=b) (k:=k) (n:=n) a b' hn
 unfold countM
 rcases hk with rfl|rfl|rfl|rfl|rfl
 ·have e:=hK rfl rfl
  rw[kN_set_ne m q b (i:=1) _ rfl,kN_set_ne m q b (i:=2) _ rfl,kN_set_ne m q b (i:=3) _ rfl,kN_set_ne m q b (i:=4) _ rfl,kN_set_ne m q b (i:=1) _ rfl,kN_set_ne m q b (i:=2) _ rfl,kN_set_ne m q b (i:=3) _ rfl,kN_set_ne m q b (i:=4) _ rfl,← e]
  simp only[Int.add_mul]
 ·have e:=hK rfl rfl
  rw[kN_set_ne m q b (i:=0) _ rfl,kN_set_ne m q b (i:=2) _ rfl,kN_set_ne m q b (i:=3) _ rfl,kN_set_ne m q b (i:=4) _ rfl,kN_set_ne m q b (i:=0) _ rfl,kN_set_ne m q b (i:=2) _ rfl,kN_set_ne m q b (i:=3) _ rfl,kN_set_ne m q b (i:=4) _ rfl,← e]
  simp only[Int.add_mul,Int.mul_add]
 ·have e:=hK rfl rfl
  rw[kN_set_ne m q b (i:=0) _ rfl,kN_set_ne m q b (i:=1) _ rfl,kN_set_ne m q b (i:=3) _ rfl,kN_set_ne m q b (i:=4) _ rfl,kN_set_ne m q b (i:=0) _ rfl,kN_set_ne m q b (i:=1) _ rfl,kN_set_ne m q b (i:=3) _ rfl,kN_set_ne m q b (i:=4) _ rfl,← e]
  simp only[Int.add_mul,Int.mul_add]
 ·have e:=hK rfl rfl
  rw[kN_set_ne m q b (i:=0) _ rfl,kN_set_ne m q b (i:=1) _ rfl,kN_set_ne m q b (i:=2) _ rfl,kN_set_ne m q b (i:=4) _ rfl,kN_set_ne m q b (i:=0) _ rfl,kN_set_ne m q b (i:=1) _ rfl,kN_set_ne m q b (i:=2) _ rfl,kN_set_ne m q b (i:=4) _ rfl,← e]
  simp only[Int.add_mul,Int.mul_add]
 ·have e:=hK rfl rfl
  rw[kN_set_ne m q b (i:=0) _ rfl,kN_set_ne m q b (i:=1) _ rfl,kN_set_ne m q b (i:=2) _ rfl,kN_set_ne m q b (i:=3) _ rfl,kN_set_ne m q b (i:=0) _ rfl,kN_set_ne m q b (i:=1) _ rfl,kN_set_ne m q b (i:=2) _ rfl,kN_set_ne m q b (i:=3) _ rfl,← e]
  simp only[Int.mul_add]
def left (m:Model) (q:Query):List Box→Int
 | []=>0
 | b::bs=>2*countM m q b-1+left m q bs
theorem searchN_enough {m:Model} (hm:RM m) {q:Query} (hq:okQuery m q=true):∀(n:Nat) (sp:Int) (bs:List Box) (pf:List Step),(∀ b∈bs,b.empty=false)→left m q bs≤n→(searchN m q n sp bs pf).kind≠3
 | n,sp,[],pf,_,_=>by
  cases n<;>(unfold searchN;show (1:Int)≠3;decide)
 | 0,sp,b::bs,pf,hb,h=>by
  have h1:=count_pos hm q b
  have h2:0≤left m q bs:=by
   clear h hb
   induction bs with
   | nil=>exact Int.le_refl _
   | cons c cs ih =>
    have:=count_pos hm q c
    unfold left
    omega
  unfold left at h
  omega
 | n+1,sp,b::bs,pf,hb,h=>by
  have h1:=count_pos hm q b
  have hbb:=hb b (by simp)
  have hbs:∀ x∈bs,x.empty=false:=fun x hx=>hb x (by simp[hx])
  unfold left at h
  rw[searchN_cons]
  by_cases c1:closedM m q b=true
  ·rw[if_pos c1]
   exact searchN_enough hm hq n _ bs _ hbs (by omega)
  ·rw[if_neg c1]
   by_cases c2:corner m q b=true
   ·rw[if_pos c2]
    show (2:Int)≠3
    decide
   ·rw[if_neg c2]
    by_cases c3:(splitM m q b).c=true
    ·rw[if_pos c3]
     obtain⟨k0,k5,kn⟩:=split_in c3
     obtain⟨l1,l2⟩:=cuts_in _ kn
     have hc:=count_halves k0 k5 kn
     have hf:=cut_some hbb k0 k5 l1 l2
     refine searchN_enough hm hq n _ _ _ (fun x hx=>?_) ?_
     ·rcases List.mem_cons.1 hx with rfl|hx
      ·exact hf.1
      ·rcases List.mem_cons.1 hx with rfl|hx
       ·exact hf.2
       ·exact hbs x hx
     ·unfold left
      unfold left
      omega
    ·exfalso
     have hno:∀ i:Int,0≤i→i<5→cutsL m q b i=[]:=by
      intro i i0 i5
      unfold splitM at c3
      rcases splitFrom_spec m q b [0,1,2,3,4] with⟨_,_,h3⟩|⟨l,r,k,_,_,_,h4⟩
      ·exact h3 i (by
        have:i=0∨i=1∨i=2∨i=3∨i=4:=by omega
        rcases this with rfl|rfl|rfl|rfl|rfl<;>simp)
      ·rw[h4] at c3
       exact absurd rfl c3
     have:=closed_uncut hm hq hbb hno
     rw[this] at c1
     simp at c1
     exact c2 c1
theorem search_enough {m:Model} (hm:RM m) {q:Query} (hq:okQuery m q=true) (hb:2*countM m q (startOf q)-1≤q.budget):(searchM m q).kind≠3:=by
 have h1:=count_pos hm q (startOf q)
 unfold searchM
 rw[if_pos hq]
 refine searchN_enough hm hq _ _ _ _ (fun x hx=>?_) ?_
 ·simp only[List.mem_singleton] at hx
  subst hx
  exact (okQuery_start hq).2.2
 ·unfold left
  unfold left
  omega
end Go.Co
/- CO: copsetop.enough. -/
set_option maxHeartbeats 16000000
set_option maxRecDepth 100000
namespace Go.Co
open Go.Am Go.Proofs
def c11_7:ACode:=.seq (.ops [⟨some 2,.box (.t 0) 6,none,[]⟩,⟨some 3,.box (.t 1) 17,none,[]⟩,⟨some 4,.alloc [.int .i64 0,.int .i64 0,.int .i64 0,.int .i64 0,.int .i64 0,.int .i64 0,.int .i64 0,.int .i64 0,.int .i64 0,.int .i64 0,.int .i64 0,.int .i64 0,.int .i64 0,.int .i64 0,.int .i64 0,.bool false,.int .i64 0],none,[]⟩,⟨some 5,.mv (.c (.bool false)),none,[]⟩] [2,3,4]) (.seq (.ops [⟨some 9,.load 6 true (.t 2),none,[2]⟩,⟨some 10,.load 17 true (.t 3),none,[3]⟩,⟨some 11,.load 17 true (.t 3),none,[3]⟩,⟨some 12,.call 15 [.t 11],none,[]⟩,⟨some 13,.call 29 [.t 9,.t 10,.t 12,.c (.int .i64 1500)],none,[]⟩,⟨some 8,.mv (.t 13),none,[]⟩,⟨some 14,.ext (.t 8) 0,none,[]⟩,⟨some 15,.ext (.t 8) 1,none,[]⟩,⟨some 6,.mv (.t 14),none,[]⟩,⟨some 7,.mv (.t 15),none,[]⟩] [3,4,6,7]) (.seq (.ops [⟨some 16,.mv (.t 6),none,[]⟩,⟨some 17,.bin .mul (.c (.int .i64 2)) (.t 16),none,[]⟩,⟨some 18,.fad (.t 3) 16,none,[3]⟩,⟨none,.store (.t 18) 1 (.t 17),none,[3]⟩] [3,4,7]) (.seq (.ops [⟨some 19,.load 17 true (.t 3),none,[3]⟩,⟨some 20,.mv (.t 7),none,[]⟩,⟨none,.store (.t 4) 17 (.t 19),none,[4]⟩,⟨some 5,.mv (.t 20),none,[]⟩] [4,5]) .ret)))
theorem r11_7:type_of% (rr c11_7.eq_1):=rr rfl
def a11:AFun:=⟨2,21,c11_7,[.cell 4 17 true,.t 5]⟩
attribute [simp] r11_7
theorem m11:mFun Tryz.prog Tryz.f11 a11=true:=by decide +kernel
noncomputable def EnoughC (m:Model) (q:Query):Option (Query×Bool):=Part (RM m) (if countM m q (startOf q)≤1500 then (withBudget q (2*countM m q (startOf q)),true) else (withBudget q 0,false))
theorem runs_enough (m:Model) (q:Query) (r:Query×Bool) (h:EnoughC m q=some r):Runs (tbl [(29,sp4 CountC),(15,sp1 fun q=>some (startOf q))]) a11 [Arg.enc m,Arg.enc q] (Arg.enc r):=by
 obtain⟨hm,rfl⟩:=part_some h
 clear h
 refine⟨rfl,fun g=>run_def ?_⟩
 have hC:CountC m q (startOf q) 1500=some (if countM m q (startOf q)≤1500 then (countM m q (startOf q),true) else (0,false)):=part_of hm _
 have hp:=count_pos hm q (startOf q)
 generalize countM m q (startOf q)=c at *
 unfold a11 withBudget
 by_cases h1:c≤1500
 ·rw[if_pos h1] at hC
  have w1:IntKind.i64.wrap (2*c)=2*c:=wrap64 (by omega) (by omega)
  simp -implicitDefEqProofs [hC,h1,w1]
 ·rw[if_neg h1] at hC
  have w1:IntKind.i64.wrap (2*0)=0:=wrap64 (by omega) (by omega)
  simp -implicitDefEqProofs [hC,h1,w1]
theorem c_enough:Contract Tryz.prog 11 (sp2 EnoughC) :=
 contract_of_runs mixed (tbl_cons c_Count (tbl_cons c_Start tbl_nil)) Tryz.func11 m11 (sp2_runs runs_enough)
end Go.Co
/- CO: what a decided search says; searches that go alike. -/
namespace Go.Co
open Go.Am Go.Proofs
end Go.Co
/- CO: a pruned model has no more cells. -/
namespace Go.Co
open Go.Am Go.Proofs
theorem ser_old {old:List Word} {d:Int} (hr:RT old d):∀(k i:Nat) (b:Box) (o:Nat),i<old.length→∀ n∈(prPT old k i b).ser o,n.leaf=false→∃ j,j<old.length∧(ndAt old j).leaf=false∧(ndAt old j).feature=n.feature∧(ndAt old j).cut=n.cut
 | 0,i,b,o,hi,n,hn,hl=>by
  simp only[prPT,PT.ser,List.mem_singleton] at hn
  subst hn
  exact⟨i,hi,hl,rfl,rfl⟩
 | k+1,i,b,o,hi,n,hn,hl=>by
  unfold prPT at hn
  cases hlf:(ndAt old i).leaf
  case true =>
   rw[hlf,if_pos rfl] at hn
   simp only[PT.ser,List.mem_singleton] at hn
   subst hn
   rw[hlf] at hl
   cases hl
  case false =>
   rw[hlf,if_neg Bool.false_ne_true] at hn
   obtain⟨_,_,l1,l2,r1,r2⟩:=hr.at hi hlf
   split at hn
   ·exact ser_old hr k _ _ _ (by omega) n hn hl
   ·split at hn
    ·exact ser_old hr k _ _ _ (by omega) n hn hl
    ·simp only[PT.ser,List.mem_cons,List.mem_append] at hn
     rcases hn with rfl|hn|hn
     ·exact⟨i,hi,hlf,rfl,rfl⟩
     ·exact ser_old hr k _ _ _ (by omega) n hn hl
     ·exact ser_old hr k _ _ _ (by omega) n hn hl
theorem thr_prune {m:Model} (hm:RM m) (r:Box) {j x:Int} (h:x∈thrL (pruneM m r) j):x∈thrL m j:=by
 rw[mem_thr] at h ⊢
 obtain⟨t',ht',w,hw,h1,h2,h3⟩:=h
 have ht':t'∈m.trees.map (prF r):=ht'
 rw[List.mem_map] at ht'
 obtain⟨t,ht,rfl⟩:=ht'
 have hr:=hm.rt ht
 have hw:w∈pruneT t.nodes r:=hw
 rw[pruneT_eq hr,List.mem_map] at hw
 obtain⟨n,hn,rfl⟩:=hw
 have hok:=prPT_ok hr 31 0 r hr.pos (by have:=hr.le;omega)
 have hrn:=ser_right (prT' t.nodes r) 0 hok (by have:=prT_size hr r;have:=hr.le;omega) n hn
 rw[nd_pack n hrn] at h1 h2 h3
 obtain⟨i,hi,g1,g2,g3⟩:=ser_old hr 31 0 r 0 hr.pos n hn h1
 rw[ndAt_lt hi] at g1 g2 g3
 exact⟨t,ht,t.nodes[i],List.getElem_mem hi,g1,by rw[g2,h2],by rw[g3,h3]⟩
theorem len_sub:∀ {A B:List Int},A.Nodup→(∀ x∈A,x∈B)→A.length≤B.length
 | [],_,_,_=>Nat.zero_le _
 | a::A,B,hA,h=>by
  rw[List.nodup_cons] at hA
  have ha:=h a (by simp)
  have:=len_sub (A:=A) (B:=B.erase a) hA.2 fun x hx=>(List.mem_erase_of_ne (fun e=>hA.1 (by rw[← e];exact hx))).2 (h x (by simp[hx]))
  rw[List.length_erase_of_mem ha] at this
  have hp:=List.length_pos_of_mem ha
  rw[List.length_cons]
  omega
theorem count_prune {m:Model} (hm:RM m) (r:Box) (q:Query) (b:Box):countM (pruneM m r) q b≤countM m q b:=by
 have hr:=rm_prune hm r
 have key:∀ i:Int,1≤kN (pruneM m r) q b i∧kN (pruneM m r) q b i≤kN m q b i:=fun i=>by
  refine⟨(kN_le hr q b i).1, ?_⟩
  unfold kN cutN
  split
  ·omega
  ·have:inN (thrL (pruneM m r) (featOf q i)) (b.get i).lo (b.get i).hi≤inN (thrL m (featOf q i)) (b.get i).lo (b.get i).hi:=by
    unfold inN
    refine len_sub (((thr_sorted _ _).imp fun h=>by omega).filter _) fun x hx=>?_
    rw[List.mem_filter] at hx ⊢
    exact⟨thr_prune hm r hx.1,hx.2⟩
   omega
 have p1:=mul_le (key 0).1 (key 0).2 (key 1).1 (key 1).2
 have p2:=mul_le p1.1 p1.2 (key 2).1 (key 2).2
 have p3:=mul_le p2.1 p2.2 (key 3).1 (key 3).2
 exact (mul_le p3.1 p3.2 (key 4).1 (key 4).2).2
end Go.Co
