/- CO: texts of this claim, one behind the other. -/
import Derived.Test.YtlbfmeijjgphfaaGreatDoorCz9
import Derived.Test.YtlbfmeijjgphfaaGreatDoorCz7
import Derived.Test.YtlbfmeijjgphfaaGreatDoorCz4
set_option linter.unusedVariables false
set_option linter.unusedSimpArgs false
/- CO: with budget enough each query is decided. -/
namespace Go.Co
open Go.Am Go.Proofs
def left (m:Model) (q:Query):List Box→Int
 | []=>0
 | b::bs=>2*countM m q b-1+left m q bs
end Go.Co
/- CO: copsetop.enough. -/
set_option maxHeartbeats 16000000
set_option maxRecDepth 100000
namespace Go.Co
open Go.Am Go.Proofs
def c11_7:ACode:=.seq (.ops [⟨some 2,.box (.t 0) 6,none,[]⟩,⟨some 3,.box (.t 1) 17,none,[]⟩,⟨some 4,.alloc [.int .i64 0,.int .i64 0,.int .i64 0,.int .i64 0,.int .i64 0,.int .i64 0,.int .i64 0,.int .i64 0,.int .i64 0,.int .i64 0,.int .i64 0,.int .i64 0,.int .i64 0,.int .i64 0,.int .i64 0,.bool false,.int .i64 0],none,[]⟩,⟨some 5,.mv (.c (.bool false)),none,[]⟩] [2,3,4]) (.seq (.ops [⟨some 9,.load 6 true (.t 2),none,[2]⟩,⟨some 10,.load 17 true (.t 3),none,[3]⟩,⟨some 11,.load 17 true (.t 3),none,[3]⟩,⟨some 12,.call 15 [.t 11],none,[]⟩,⟨some 13,.call 29 [.t 9,.t 10,.t 12,.c (.int .i64 1500)],none,[]⟩,⟨some 8,.mv (.t 13),none,[]⟩,⟨some 14,.ext (.t 8) 0,none,[]⟩,⟨some 15,.ext (.t 8) 1,none,[]⟩,⟨some 6,.mv (.t 14),none,[]⟩,⟨some 7,.mv (.t 15),none,[]⟩] [3,4,6,7]) (.seq (.ops [⟨some 16,.mv (.t 6),none,[]⟩,⟨some 17,.bin .mul (.c (.int .i64 2)) (.t 16),none,[]⟩,⟨some 18,.fad (.t 3) 16,none,[3]⟩,⟨none,.store (.t 18) 1 (.t 17),none,[3]⟩] [3,4,7]) (.seq (.ops [⟨some 19,.load 17 true (.t 3),none,[3]⟩,⟨some 20,.mv (.t 7),none,[]⟩,⟨none,.store (.t 4) 17 (.t 19),none,[4]⟩,⟨some 5,.mv (.t 20),none,[]⟩] [4,5]) .ret)))
theorem r11_7:type_of% (rr c11_7.eq_1):=rr rfl
def a11:AFun:=⟨2,21,c11_7,[.cell 4 17 true,.t 5]⟩
attribute [simp] r11_7
theorem m11:mFun Tryz.prog Tryz.f11 a11=true:=by decide +kernel
noncomputable def EnoughC (m:Model) (q:Query):Option (Query×Bool):=Part (RM m) (if countM m q (startOf q)≤1500 then (withBudget q (2*countM m q (startOf q)),true) else (withBudget q 0,false))
theorem runs_enough (m:Model) (q:Query) (r:Query×Bool) (h:EnoughC m q=some r):Runs (tbl [(29,sp4 CountC),(15,sp1 fun q=>some (startOf q))]) a11 [Arg.enc m,Arg.enc q] (Arg.enc r):=by
 obtain⟨hm,rfl⟩:=part_some h
 clear h
 refine⟨rfl,fun g=>run_def ?_⟩
 have hC:CountC m q (startOf q) 1500=some (if countM m q (startOf q)≤1500 then (countM m q (startOf q),true) else (0,false)):=part_of hm _
 have hp:=count_pos hm q (startOf q)
 generalize countM m q (startOf q)=c at *
 unfold a11 withBudget
 by_cases h1:c≤1500
 ·rw[if_pos h1] at hC
  have w1:IntKind.i64.wrap (2*c)=2*c:=wrap64 (by omega) (by omega)
  simp -implicitDefEqProofs [hC,h1,w1]
 ·rw[if_neg h1] at hC
  have w1:IntKind.i64.wrap (2*0)=0:=wrap64 (by omega) (by omega)
  simp -implicitDefEqProofs [hC,h1,w1]
theorem c_enough:Contract Tryz.prog 11 (sp2 EnoughC) :=
 contract_of_runs mixed (tbl_cons c_Count (tbl_cons c_Start tbl_nil)) Tryz.func11 m11 (sp2_runs runs_enough)
end Go.Co
/- CO: what a decided search says; searches that go alike. -/
namespace Go.Co
open Go.Am Go.Proofs
theorem searchN_alike {m n:Model} {q r:Query} (h1:∀ b,closedM n r b=closedM m q b) (h2:∀ b,corner n r b=corner m q b) (h3:∀ b,splitM n r b=splitM m q b) :
  ∀(k:Nat) (sp:Int) (bs:List Box) (pf:List Step),searchN n r k sp bs pf=searchN m q k sp bs pf
 | k,sp,[],pf=>by cases k<;>rfl
 | 0,sp,b::bs,pf=>rfl
 | k+1,sp,b::bs,pf=>by
  rw[searchN_cons,searchN_cons,h1,h2,h3]
  split
  ·exact searchN_alike h1 h2 h3 k _ _ _
  ·split
   ·rfl
   ·split
    ·exact searchN_alike h1 h2 h3 k _ _ _
    ·rfl
theorem searchM_alike {m n:Model} {q r:Query} (h0:okQuery n r=okQuery m q) (hb:r.budget=q.budget) (hs:startOf r=startOf q) (h1:∀ b,closedM n r b=closedM m q b) (h2:∀ b,corner n r b=corner m q b) (h3:∀ b,splitM n r b=splitM m q b) :
  searchM n r=searchM m q:=by
 unfold searchM
 rw[h0,hb,hs,searchN_alike h1 h2 h3]
theorem split_alike {m n:Model} {q r:Query} (ht:∀ j,thrL n j=thrL m j) (hf:∀ i,featOf r i=featOf q i) (b:Box):splitM n r b=splitM m q b:=by
 have key:∀ ks,splitFrom n r b ks=splitFrom m q b ks:=by
  intro ks
  induction ks with
  | nil=>rfl
  | cons k ks ih =>
   have e:cutsL n r b k=cutsL m q b k:=by
    unfold cutsL
    rw[hf,ht]
   unfold splitFrom
   rw[e,ih]
 exact key _
end Go.Co
/- CO: a bias that is more by some number, and a range that is. -/
namespace Go.Co
open Go.Am Go.Proofs
def shiftM (m:Model) (d:Int):Model:={ m with bias:=⟨m.bias.b0+d,if m.classes<2 then m.bias.b1 else m.bias.b1+d,if m.classes<3 then m.bias.b2 else m.bias.b2+d⟩ }
def shiftQ (q:Query) (d:Int):Query:={ q with lo:=if q.kind=1 then q.lo+d else q.lo,hi:=if q.kind=1 then q.hi+d else q.hi }
theorem bias_shift (m:Model) (d:Int) {c:Int} (h0:0≤c) (h1:c<m.classes) (h3:m.classes≤3):(shiftM m d).bias.get c=m.bias.get c+d:=by
 have hc:c=0∨c=1∨c=2:=by omega
 unfold shiftM
 rcases hc with rfl|rfl|rfl
 ·rfl
 ·show (if m.classes<2 then m.bias.b1 else m.bias.b1+d)=m.bias.b1+d
  rw[if_neg (by omega)]
 ·show (if m.classes<3 then m.bias.b2 else m.bias.b2+d)=m.bias.b2+d
  rw[if_neg (by omega)]
theorem foldB_shift (c d:Int) (b:Box):∀(l:List Tree) (x y:Int),l.foldl (boundF c b) (x+d,y+d)=((l.foldl (boundF c b) (x,y)).1+d,(l.foldl (boundF c b) (x,y)).2+d)
 | [],x,y=>rfl
 | t::l,x,y=>by
  rw[List.foldl_cons,List.foldl_cons]
  unfold boundF
  by_cases h:t.cls=c
  ·rw[if_pos h,if_pos h]
   simp only[]
   rw[show x+d+(boundT t.nodes b).a=(x+(boundT t.nodes b).a)+d by omega,show y+d+(boundT t.nodes b).b=(y+(boundT t.nodes b).b)+d by omega]
   exact foldB_shift c d b l _ _
  ·rw[if_neg h,if_neg h]
   exact foldB_shift c d b l _ _
theorem foldE_shift (c d:Int) (p:Point):∀(l:List Tree) (x:Int),l.foldl (evalF c p) (x+d)=l.foldl (evalF c p) x+d
 | [],x=>rfl
 | t::l,x=>by
  rw[List.foldl_cons,List.foldl_cons]
  unfold evalF
  by_cases h:t.cls=c
  ·rw[if_pos h,if_pos h,show x+d+valueAt t.nodes p=(x+valueAt t.nodes p)+d by omega]
   exact foldE_shift c d p l _
  ·rw[if_neg h,if_neg h]
   exact foldE_shift c d p l _
theorem boundP_shift (m:Model) (d:Int) {c:Int} (h0:0≤c) (h1:c<m.classes) (h3:m.classes≤3) (b:Box):boundP (shiftM m d) c b=((boundP m c b).1+d,(boundP m c b).2+d):=by
 unfold boundP
 rw[bias_shift m d h0 h1 h3]
 exact foldB_shift c d b m.trees _ _
theorem evalM_shift (m:Model) (d:Int) {c:Int} (h0:0≤c) (h1:c<m.classes) (h3:m.classes≤3) (p:Point):evalM (shiftM m d) c p=evalM m c p+d:=by
 unfold evalM
 rw[bias_shift m d h0 h1 h3]
 exact foldE_shift c d p m.trees _
theorem ok_shift (m:Model) (q:Query) (d:Int):okQuery (shiftM m d) (shiftQ q d)=okQuery m q:=by
 unfold okQuery okKind shiftQ shiftM
 by_cases h:q.kind=1
 ·simp only[h,if_true]
  have:decide (q.lo+d≤q.hi+d)=decide (q.lo≤q.hi):=decide_eq_decide.2 (by omega)
  rw[this]
 ·simp only[h,if_false]
theorem rm_shift {m:Model} (hm:RM m) {d:Int} (h:fits (m.bias.b0+d)=true∧fits (m.bias.b1+d)=true∧fits (m.bias.b2+d)=true):RM (shiftM m d):=by
 refine⟨hm.dim,hm.classes,⟨h.1, ?_, ?_⟩,fun h=>?_,fun h=>?_,hm.trees,hm.tree⟩
 ·show fits (if m.classes<2 then m.bias.b1 else m.bias.b1+d)=true
  split
  ·exact hm.bias.2.1
  ·exact h.2.1
 ·show fits (if m.classes<3 then m.bias.b2 else m.bias.b2+d)=true
  split
  ·exact hm.bias.2.2
  ·exact h.2.2
 ·have h:m.classes≤1:=h
  show (if m.classes<2 then m.bias.b1 else m.bias.b1+d)=0
  rw[if_pos (by omega)]
  exact hm.none1 h
 ·have h:m.classes≤2:=h
  show (if m.classes<3 then m.bias.b2 else m.bias.b2+d)=0
  rw[if_pos (by omega)]
  exact hm.none2 h
theorem any_congr' {α:Type} {p q:α→Bool}:∀ {l:List α},(∀ x∈l,p x=q x)→l.any p=l.any q
 | [],_=>rfl
 | x::l,h=>by
  rw[List.any_cons,List.any_cons,h x (by simp),any_congr' fun y hy=>h y (by simp[hy])]
theorem closedM_ne {m:Model} {q:Query} {b:Box} (hq:okQuery m q=true) (he:b.empty=false):closedM m q b =
  if q.kind=1 then (boundM m q.cls b).c&&decide (q.lo≤(boundM m q.cls b).a)&&decide ((boundM m q.cls b).b≤q.hi) else
  if q.kind=2 then decide (0<margin m q.cls b) else
  if orderedB q b then (changeM m q b).c&&(if q.falls then decide ((changeM m q b).b≤0) else decide (0≤(changeM m q b).a)) else true:=by
 unfold closedM
 rw[if_neg (by rw[hq];exact fun e=>Bool.noConfusion e),if_neg (by rw[he];exact fun e=>Bool.noConfusion e)]
theorem closedM_e {m:Model} {q:Query} {b:Box} (hq:okQuery m q=true) (he:b.empty=true):closedM m q b=true:=by
 unfold closedM
 rw[if_neg (by rw[hq];exact fun e=>Bool.noConfusion e),if_pos he]
theorem boundM_ne {m:Model} {c:Int} (c0:0≤c) (c1:c<m.classes) {b:Box} (he:b.empty=false):boundM m c b=⟨(boundP m c b).1,(boundP m c b).2,true⟩:=by
 unfold boundM
 rw[if_neg (by rw[he];simp;omega)]
theorem boundM_e (m:Model) (c:Int) {b:Box} (he:b.empty=true):boundM m c b=⟨0,0,false⟩:=by
 unfold boundM
 rw[if_pos (by simp[he])]
theorem search_shift {m:Model} (hm:RM m) (q:Query) (d:Int):searchM (shiftM m d) (shiftQ q d)=searchM m q:=by
 have h0:=ok_shift m q d
 cases hq:okQuery m q
 ·unfold searchM
  rw[h0,hq]
  rfl
 have hs:=okQuery_spec hq
 have hc3:=hm.classes.2
 have hB:=fun b=>boundP_shift m d hs.1 hs.2.1 hc3 b
 have hB2:∀ b:Box,b.empty=false→boundM (shiftM m d) q.cls b=⟨(boundP m q.cls b).1+d,(boundP m q.cls b).2+d,true⟩:=fun b he=>by
  rw[boundM_ne (m:=shiftM m d) hs.1 hs.2.1 he,hB]
 have hB1:∀ b:Box,b.empty=false→boundM m q.cls b=⟨(boundP m q.cls b).1,(boundP m q.cls b).2,true⟩:=fun b he=>boundM_ne hs.1 hs.2.1 he
 have h0q:okQuery (shiftM m d) (shiftQ q d)=true:=by rw[h0,hq]
 refine searchM_alike h0 rfl rfl (fun b=>?_) (fun b=>?_) (split_alike (fun _=>rfl) fun _=>rfl)
 ·cases he:b.empty
  case true=>rw[closedM_e h0q he,closedM_e hq he]
  rw[closedM_ne h0q he,closedM_ne hq he]
  show (if q.kind=1 then (boundM (shiftM m d) q.cls b).c&&decide ((if q.kind=1 then q.lo+d else q.lo)≤(boundM (shiftM m d) q.cls b).a)&&decide ((boundM (shiftM m d) q.cls b).b≤(if q.kind=1 then q.hi+d else q.hi)) else
   if q.kind=2 then decide (0<margin (shiftM m d) q.cls b) else if orderedB q b then (changeM (shiftM m d) q b).c&&(if q.falls then decide ((changeM (shiftM m d) q b).b≤0) else decide (0≤(changeM (shiftM m d) q b).a)) else true)=_
  by_cases k1:q.kind=1
  ·simp only[k1,if_true]
   rw[hB2 b he,hB1 b he]
   simp only[Bool.true_and]
   have e1:decide (q.lo+d≤(boundP m q.cls b).1+d)=decide (q.lo≤(boundP m q.cls b).1):=decide_eq_decide.2 (by omega)
   have e2:decide ((boundP m q.cls b).2+d≤q.hi+d)=decide ((boundP m q.cls b).2≤q.hi):=decide_eq_decide.2 (by omega)
   rw[e1,e2]
  ·rw[if_neg k1,if_neg k1]
   by_cases k2:q.kind=2
   ·rw[if_pos k2,if_pos k2]
    have hcl:2≤m.classes:=by
     have:=hs.2.2.2.2.2
     unfold okKind at this
     rw[if_neg k1,if_pos k2] at this
     simp only[Bool.and_eq_true,decide_eq_true_eq] at this
     exact this.1.1.1.1
    have hD:∀ o:Int,0≤o→o<m.classes→marD (shiftM m d) q.cls b o=marD m q.cls b o:=fun o o0 o1=>by
     unfold marD
     rw[hB,boundP_shift m d o0 o1 hc3]
     show (boundP m q.cls b).1+d-((boundP m o b).2+d)=_
     omega
    have hM:margin (shiftM m d) q.cls b=margin m q.cls b:=by
     unfold margin
     show (if m.classes=2 then _ else _)=_
     have o1:0≤other1 q.cls∧other1 q.cls<2:=by unfold other1;split<;>omega
     have o2:0≤other2 q.cls∧other2 q.cls<3:=by unfold other2;split<;>omega
     by_cases h2:m.classes=2
     ·rw[if_pos h2,if_pos h2,hD _ o1.1 (by omega)]
     ·rw[if_neg h2,if_neg h2,hD _ o1.1 (by omega),hD _ o2.1 (by omega)]
    rw[hM]
   ·rw[if_neg k2,if_neg k2]
    have hC:changeM (shiftM m d) q b=changeM m q b:=by
     unfold changeM
     cases h1:(firstB q b).empty
     ·cases h2:(secondB q b).empty
      ·rw[hB2 _ h1,hB2 _ h2,hB1 _ h1,hB1 _ h2]
       cases paired q
       ·rfl
       ·simp only[Bool.and_true,if_true,Tri.mk.injEq,and_true]
        omega
      ·rw[hB2 _ h1,hB1 _ h1,boundM_e _ _ h2,boundM_e _ _ h2]
       simp
     ·rw[boundM_e _ _ h1,boundM_e _ _ h1]
      simp
    rw[hC]
 ·unfold corner
  show breaks (shiftM m d) (shiftQ q d) (lowB b) b.s4.hi=_
  have hE:=fun p=>evalM_shift m d hs.1 hs.2.1 hc3 p
  unfold breaks
  rw[h0,hq,if_pos rfl,if_pos rfl]
  show (if q.kind=1 then !(Span.has ⟨if q.kind=1 then q.lo+d else q.lo,if q.kind=1 then q.hi+d else q.hi⟩ (evalM (shiftM m d) q.cls (lowB b))) else if q.kind=2 then beaten (shiftM m d) (shiftQ q d) (lowB b) else
   if (lowB b).get q.feature<b.s4.hi then (if q.falls then decide (evalM (shiftM m d) q.cls (lowB b)<evalM (shiftM m d) q.cls (secondOf q (lowB b) b.s4.hi)) else decide (evalM (shiftM m d) q.cls (secondOf q (lowB b) b.s4.hi)<evalM (shiftM m d) q.cls (lowB b))) else false)=_
  rw[hE,hE]
  by_cases k1:q.kind=1
  ·simp only[k1,if_true]
   unfold Span.has
   have e1:decide (q.lo+d≤evalM m q.cls (lowB b)+d)=decide (q.lo≤evalM m q.cls (lowB b)):=decide_eq_decide.2 (by omega)
   have e2:decide (evalM m q.cls (lowB b)+d≤q.hi+d)=decide (evalM m q.cls (lowB b)≤q.hi):=decide_eq_decide.2 (by omega)
   simp only[e1,e2]
  ·rw[if_neg k1,if_neg k1]
   by_cases k2:q.kind=2
   ·rw[if_pos k2,if_pos k2]
    unfold beaten
    show (List.range m.classes.toNat).any _=(List.range m.classes.toNat).any _
    refine any_congr' fun c hc=>?_
    rw[List.mem_range] at hc
    have hcc:(c:Int)<m.classes:=by
     have:(shiftM m d).classes=m.classes:=rfl
     omega
    show (decide ((c:Int)≠q.cls)&&decide (evalM (shiftM m d) q.cls (lowB b)≤evalM (shiftM m d) c (lowB b)))=_
    rw[hE,evalM_shift m d (by omega) hcc hc3]
    have e1:decide (evalM m q.cls (lowB b)+d≤evalM m c (lowB b)+d)=decide (evalM m q.cls (lowB b)≤evalM m c (lowB b)):=decide_eq_decide.2 (by omega)
    rw[e1]
   ·rw[if_neg k2,if_neg k2]
    have e1:decide (evalM m q.cls (lowB b)+d<evalM m q.cls (secondOf q (lowB b) b.s4.hi)+d)=decide (evalM m q.cls (lowB b)<evalM m q.cls (secondOf q (lowB b) b.s4.hi)):=decide_eq_decide.2 (by omega)
    have e2:decide (evalM m q.cls (secondOf q (lowB b) b.s4.hi)+d<evalM m q.cls (lowB b)+d)=decide (evalM m q.cls (secondOf q (lowB b) b.s4.hi)<evalM m q.cls (lowB b)):=decide_eq_decide.2 (by omega)
    rw[e1,e2]
end Go.Co
/- CO: lists held against each other: told of the same list twice. (written by mkCoSm.py) -/
namespace Go.Co
open Go.Am Go.Proofs
attribute [-simp] Go.Am.eff_gcall
def c44_18:ACode:=.seq (.seq (.ops [⟨some 11,.mv (.t 5),none,[]⟩,⟨some 12,.mv (.t 0),none,[]⟩,⟨some 13,.len (.t 12),none,[]⟩,⟨some 14,.bin .lss (.t 11) (.t 13),none,[]⟩] [0,1,5,14]) (.cond (.t 14) .skip (.exit 0))) (.seq (.block 1 (.seq (.ops [⟨some 17,.mv (.t 0),none,[]⟩,⟨some 18,.mv (.t 5),none,[]⟩,⟨some 19,.ias (.t 17) (.t 18) 3,none,[]⟩,⟨some 20,.load 3 true (.t 19),none,[]⟩,⟨some 21,.mv (.t 1),none,[]⟩,⟨some 22,.mv (.t 5),none,[]⟩,⟨some 23,.ias (.t 21) (.t 22) 3,none,[]⟩,⟨some 24,.load 3 true (.t 23),none,[]⟩,⟨some 25,.eqa true [true,false,false] (.t 20) (.t 24),none,[]⟩] [0,1,5,25]) (.cond (.t 25) (.seq (.ops [⟨some 4,.mv (.c (.bool false)),none,[]⟩] [4]) .ret) .skip))) (.ops [⟨some 15,.mv (.t 5),none,[]⟩,⟨some 16,.bin .add (.t 15) (.c (.int .i64 1)),none,[]⟩,⟨some 5,.mv (.t 16),none,[]⟩] [0,1,5]))
theorem r44_18:type_of% (rr c44_18.eq_1):=rr rfl
def c44_27:ACode:=.seq (.ops [⟨some 4,.mv (.c (.bool false)),none,[]⟩] [0,1]) (.seq (.seq (.ops [⟨some 6,.mv (.t 0),none,[]⟩,⟨some 7,.len (.t 6),none,[]⟩,⟨some 8,.mv (.t 1),none,[]⟩,⟨some 9,.len (.t 8),none,[]⟩,⟨some 10,.bin .neq (.t 7) (.t 9),none,[]⟩] [0,1,10]) (.cond (.t 10) (.seq (.ops [⟨some 4,.mv (.c (.bool false)),none,[]⟩] [4]) .ret) .skip)) (.seq (.seq (.ops [⟨some 5,.mv (.c (.int .i64 0)),none,[]⟩] [0,1,5]) (.block 0 (.loop (.keep [0,1,5] [] c44_18)))) (.seq (.ops [⟨some 4,.mv (.c (.bool true)),none,[]⟩] [4]) .ret)))
theorem r44_27:type_of% (rr c44_27.eq_1):=rr rfl
def a44:AFun:=⟨2,26,c44_27,[.t 4]⟩
attribute [simp] r44_18 r44_27
theorem m44:mFun Tryz.prog Tryz.f44 a44=true:=by decide +kernel
noncomputable def SameS (a b:List Step):Option Bool:=Part (a=b) true
theorem runs_SameS (a b:List Step) (r:Bool) (h:SameS a b=some r):Runs (tbl []) a44 [Arg.enc a,Arg.enc b] (Arg.enc r):=by
 obtain⟨rfl,rfl⟩:=part_some h
 clear h
 refine⟨rfl,fun g=>run_def ?_⟩
 unfold a44
 by_cases b1:a.length≤maxN
 case neg=>simp -implicitDefEqProofs [b1]
 have hmx:a.length≤9223372036854775807:=b1
 simp -implicitDefEqProofs [b1]
 refine run_while (c:=c44_18) (fun n s=>∃(i:Nat) (g:Nat→Nat),i+n=a.length∧s=⟨[(0,.lst a.length (encL a)),(1,.lst a.length (encL a)),(5,.int .i64 i)],[],g⟩) a.length ⟨0,g,by omega,by simp⟩ ?_
 rintro n s ⟨i,g,hi,rfl⟩
 by_cases h1:i<a.length
 case pos =>
  have w1:IntKind.i64.wrap ((i:Int)+1)=(i:Int)+1:=wrap64 (by omega) (by omega)
  have hrow:=rd_step a i h1
  simp -implicitDefEqProofs [b1,h1,hrow,w1]
  exact⟨n-1,by omega,i+1,by omega,by omega⟩
 case neg =>
  have hil:i=a.length:=by omega
  subst hil
  simp -implicitDefEqProofs [b1,h1]
theorem c_SameS:Contract Tryz.prog 44 (sp2 SameS) :=
 contract_of_runs mixed tbl_nil Tryz.func44 m44 (sp2_runs runs_SameS)
end Go.Co
/- CO: copsekeep.Verdicts: told of the same verdict twice. -/
set_option maxHeartbeats 16000000
set_option maxRecDepth 100000
namespace Go.Co
open Go.Am Go.Proofs
attribute [-simp] Go.Am.eff_gcall
def c21_3:ACode:=.seq (.ops [⟨some 2,.box (.t 0) 8,none,[]⟩,⟨some 3,.box (.t 1) 8,none,[]⟩,⟨some 4,.mv (.c (.bool false)),none,[]⟩] [2,3]) (.seq (.ops [⟨some 5,.fad (.t 2) 0,none,[2]⟩,⟨some 6,.load 1 false (.t 5),none,[2]⟩,⟨some 7,.fad (.t 3) 0,none,[3]⟩,⟨some 8,.load 1 false (.t 7),none,[3]⟩,⟨some 9,.bin .eql (.t 6) (.t 8),none,[]⟩,⟨some 10,.mv (.t 9),none,[]⟩,⟨some 11,.fad (.t 2) 1,some (10,true),[2]⟩,⟨some 12,.load 1 false (.t 11),some (10,true),[2]⟩,⟨some 13,.fad (.t 3) 1,some (10,true),[3]⟩,⟨some 14,.load 1 false (.t 13),some (10,true),[3]⟩,⟨some 15,.call 44 [.t 12,.t 14],some (10,true),[]⟩,⟨some 16,.pick (.t 10) (.t 15) (.c (.bool false)),none,[]⟩,⟨some 17,.mv (.t 16),none,[]⟩,⟨some 18,.fad (.t 2) 2,some (17,true),[2]⟩,⟨some 19,.load 4 true (.t 18),some (17,true),[2]⟩,⟨some 20,.fad (.t 3) 2,some (17,true),[3]⟩,⟨some 21,.load 4 true (.t 20),some (17,true),[3]⟩,⟨some 22,.eqa false [false,false,false,false] (.t 19) (.t 21),some (17,true),[]⟩,⟨some 23,.pick (.t 17) (.t 22) (.c (.bool false)),none,[]⟩,⟨some 24,.mv (.t 23),none,[]⟩,⟨some 25,.fad (.t 2) 6,some (24,true),[2]⟩,⟨some 26,.load 1 false (.t 25),some (24,true),[2]⟩,⟨some 27,.fad (.t 3) 6,some (24,true),[3]⟩,⟨some 28,.load 1 false (.t 27),some (24,true),[3]⟩,⟨some 29,.bin .eql (.t 26) (.t 28),some (24,true),[]⟩,⟨some 30,.pick (.t 24) (.t 29) (.c (.bool false)),none,[]⟩,⟨some 31,.mv (.t 30),none,[]⟩,⟨some 32,.fad (.t 2) 7,some (31,true),[2]⟩,⟨some 33,.load 1 false (.t 32),some (31,true),[2]⟩,⟨some 34,.fad (.t 3) 7,some (31,true),[3]⟩,⟨some 35,.load 1 false (.t 34),some (31,true),[3]⟩,⟨some 36,.bin .eql (.t 33) (.t 35),some (31,true),[]⟩,⟨some 37,.pick (.t 31) (.t 36) (.c (.bool false)),none,[]⟩,⟨some 4,.mv (.t 37),none,[]⟩] [4]) .ret)
theorem r21_3:type_of% (rr c21_3.eq_1):=rr rfl
def a21:AFun:=⟨2,38,c21_3,[.t 4]⟩
attribute [simp] r21_3
theorem m21:mFun Tryz.prog Tryz.f21 a21=true:=by decide +kernel
noncomputable def VerdictsC (a b:Verdict):Option Bool:=Part (a=b) true
theorem runs_Verdicts (a b:Verdict) (r:Bool) (h:VerdictsC a b=some r):Runs (tbl [(44,sp2 SameS)]) a21 [Arg.enc a,Arg.enc b] (Arg.enc r):=by
 obtain⟨rfl,rfl⟩:=part_some h
 clear h
 refine⟨rfl,fun g=>run_def ?_⟩
 obtain⟨k,p,w,t,s⟩:=a
 have hS:SameS p p=some true:=part_of rfl _
 unfold a21
 simp -implicitDefEqProofs [hS]
theorem c_Verdicts:Contract Tryz.prog 21 (sp2 VerdictsC) :=
 contract_of_runs mixed (tbl_cons c_SameS tbl_nil) Tryz.func21 m21 (sp2_runs runs_Verdicts)
end Go.Co
