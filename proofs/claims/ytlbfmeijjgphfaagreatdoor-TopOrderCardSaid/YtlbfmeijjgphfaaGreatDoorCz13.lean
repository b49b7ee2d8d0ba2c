/- CO: texts of this claim, one behind the other. -/
import Derived.Test.YtlbfmeijjgphfaaGreatDoorCz9
import Derived.Test.YtlbfmeijjgphfaaGreatDoorCz7
import Derived.Test.YtlbfmeijjgphfaaGreatDoorCz4
set_option linter.unusedVariables false
set_option linter.unusedSimpArgs false
/- CO: with budget enough each query is decided. -/
namespace Go.Co
open Go.Am Go.Proofs
def left (m:Model) (q:Query):List Box→Int
 | []=>0
 | b::bs=>2*countM m q b-1+left m q bs
end Go.Co
/- CO: copsetop.enough. -/
set_option maxHeartbeats 16000000
set_option maxRecDepth 100000
namespace Go.Co
open Go.Am Go.Proofs
def c11_7:ACode:=.seq (.ops [⟨some 2,.box (.t 0) 6,none,[]⟩,⟨some 3,.box (.t 1) 17,none,[]⟩,⟨some 4,.alloc [.int .i64 0,.int .i64 0,.int .i64 0,.int .i64 0,.int .i64 0,.int .i64 0,.int .i64 0,.int .i64 0,.int .i64 0,.int .i64 0,.int .i64 0,.int .i64 0,.int .i64 0,.int .i64 0,.int .i64 0,.bool false,.int .i64 0],none,[]⟩,⟨some 5,.mv (.c (.bool false)),none,[]⟩] [2,3,4]) (.seq (.ops [⟨some 9,.load 6 true (.t 2),none,[2]⟩,⟨some 10,.load 17 true (.t 3),none,[3]⟩,⟨some 11,.load 17 true (.t 3),none,[3]⟩,⟨some 12,.call 15 [.t 11],none,[]⟩,⟨some 13,.call 29 [.t 9,.t 10,.t 12,.c (.int .i64 1500)],none,[]⟩,⟨some 8,.mv (.t 13),none,[]⟩,⟨some 14,.ext (.t 8) 0,none,[]⟩,⟨some 15,.ext (.t 8) 1,none,[]⟩,⟨some 6,.mv (.t 14),none,[]⟩,⟨some 7,.mv (.t 15),none,[]⟩] [3,4,6,7]) (.seq (.ops [⟨some 16,.mv (.t 6),none,[]⟩,⟨some 17,.bin .mul (.c (.int .i64 2)) (.t 16),none,[]⟩,⟨some 18,.fad (.t 3) 16,none,[3]⟩,⟨none,.store (.t 18) 1 (.t 17),none,[3]⟩] [3,4,7]) (.seq (.ops [⟨some 19,.load 17 true (.t 3),none,[3]⟩,⟨some 20,.mv (.t 7),none,[]⟩,⟨none,.store (.t 4) 17 (.t 19),none,[4]⟩,⟨some 5,.mv (.t 20),none,[]⟩] [4,5]) .ret)))
theorem r11_7:type_of% (rr c11_7.eq_1):=rr rfl
def a11:AFun:=⟨2,21,c11_7,[.cell 4 17 true,.t 5]⟩
attribute [simp] r11_7
theorem m11:mFun Tryz.prog Tryz.f11 a11=true:=by decide +kernel
noncomputable def EnoughC (m:Model) (q:Query):Option (Query×Bool):=Part (RM m) (if countM m q (startOf q)≤1500 then (withBudget q (2*countM m q (startOf q)),true) else (withBudget q 0,false))
theorem runs_enough (m:Model) (q:Query) (r:Query×Bool) (h:EnoughC m q=some r):Runs (tbl [(29,sp4 CountC),(15,sp1 fun q=>some (startOf q))]) a11 [Arg.enc m,Arg.enc q] (Arg.enc r):=by
 obtain⟨hm,rfl⟩:=part_some h
 clear h
 refine⟨rfl,fun g=>run_def ?_⟩
 have hC:CountC m q (startOf q) 1500=some (if countM m q (startOf q)≤1500 then (countM m q (startOf q),true) else (0,false)):=part_of hm _
 have hp:=count_pos hm q (startOf q)
 generalize countM m q (startOf q)=c at *
 unfold a11 withBudget
 by_cases h1:c≤1500
 ·rw[if_pos h1] at hC
  have w1:IntKind.i64.wrap (2*c)=2*c:=wrap64 (by omega) (by omega)
  simp -implicitDefEqProofs [hC,h1,w1]
 ·rw[if_neg h1] at hC
  have w1:IntKind.i64.wrap (2*0)=0:=wrap64 (by omega) (by omega)
  simp -implicitDefEqProofs [hC,h1,w1]
theorem c_enough:Contract Tryz.prog 11 (sp2 EnoughC) :=
 contract_of_runs mixed (tbl_cons c_Count (tbl_cons c_Start tbl_nil)) Tryz.func11 m11 (sp2_runs runs_enough)
end Go.Co
/- CO: what a decided search says; searches that go alike. -/
namespace Go.Co
open Go.Am Go.Proofs
theorem searchN_alike {m n:Model} {q r:Query} (h1:∀ b,closedM n r b=closedM m q b) (h2:∀ b,corner n r b=corner m q b) (h3:∀ b,splitM n r b=splitM m q b) :
  ∀(k:Nat) (sp:Int) (bs:List Box) (pf:List Step),searchN n r k sp bs pf=searchN m q k sp bs pf
 | k,sp,[],pf=>by cases k<;>rfl
 | 0,sp,b::bs,pf=>rfl
 | k+1,sp,b::bs,pf=>by
  rw[searchN_cons,searchN_cons,h1,h2,h3]
  split
  ·exact searchN_alike h1 h2 h3 k _ _ _
  ·split
   ·rfl
   ·split
    ·exact searchN_alike h1 h2 h3 k _ _ _
    ·rfl
theorem searchM_alike {m n:Model} {q r:Query} (h0:okQuery n r=okQuery m q) (hb:r.budget=q.budget) (hs:startOf r=startOf q) (h1:∀ b,closedM n r b=closedM m q b) (h2:∀ b,corner n r b=corner m q b) (h3:∀ b,splitM n r b=splitM m q b) :
  searchM n r=searchM m q:=by
 unfold searchM
 rw[h0,hb,hs,searchN_alike h1 h2 h3]
theorem split_alike {m n:Model} {q r:Query} (ht:∀ j,thrL n j=thrL m j) (hf:∀ i,featOf r i=featOf q i) (b:Box):splitM n r b=splitM m q b:=by
 have key:∀ ks,splitFrom n r b ks=splitFrom m q b ks:=by
  intro ks
  induction ks with
  | nil=>rfl
  | cons k ks ih =>
   have e:cutsL n r b k=cutsL m q b k:=by
    unfold cutsL
    rw[hf,ht]
   unfold splitFrom
   rw[e,ih]
 exact key _
end Go.Co
/- CO: a model whose trees add up alike is searched alike. -/
namespace Go.Co
open Go.Am Go.Proofs
theorem search_same {m n:Model} (hd:n.dim=m.dim) (hc:n.classes=m.classes) (hb:∀ c b,boundP n c b=boundP m c b) (he:∀ c p,evalM n c p=evalM m c p) (ht:∀ j,thrL n j=thrL m j) (q:Query):searchM n q=searchM m q:=by
 have h0:okQuery n q=okQuery m q:=by
  unfold okQuery okKind
  rw[hd,hc]
 have hB:∀ c b,boundM n c b=boundM m c b:=fun c b=>by
  unfold boundM
  rw[hc,hb]
 refine searchM_alike h0 rfl rfl (fun b=>?_) (fun b=>?_) (split_alike ht fun _=>rfl)
 ·unfold closedM margin marD changeM
  simp only[h0,hB,hb,hc]
 ·unfold corner breaks beaten
  simp only[h0,he,hc]
theorem boundP_perm {c:Int} {b:Box} {l l':List Tree} (h:l.Perm l') (a:Int×Int):l.foldl (boundF c b) a=l'.foldl (boundF c b) a :=
 h.foldl_eq' (fun x _ y _ z=>by
  unfold boundF
  split<;>split<;>simp only[Prod.mk.injEq]<;>(try constructor)<;>omega) a
theorem evalM_perm {c:Int} {p:Point} {l l':List Tree} (h:l.Perm l') (a:Int):l.foldl (evalF c p) a=l'.foldl (evalF c p) a :=
 h.foldl_eq' (fun x _ y _ z=>by
  unfold evalF
  split<;>split<;>omega) a
theorem isort_of_perm {l l':List Int} (h:l.Perm l'):isort l=isort l' :=
 List.Perm.eq_of_pairwise (le:=(·≤·)) (fun a b _ _ h1 h2=>Int.le_antisymm h1 h2) (isort_sorted l) (isort_sorted l') ((isort_perm l).trans (h.trans (isort_perm l').symm))
theorem search_perm {m:Model} {l:List Tree} (h:l.Perm m.trees) (q:Query):searchM { m with trees:=l } q=searchM m q :=
 search_same (m:=m) (n:={ m with trees:=l }) rfl rfl (fun c b=>boundP_perm h _) (fun c p=>evalM_perm h _) (fun j=>by
  unfold thrL rawM
  rw[isort_of_perm (h.flatMap_right _)]) q
def leafT (c v:Int):Tree:=⟨c,[pack ⟨true,v,0,0,0,0⟩]⟩
theorem rt_leaf {v:Int} (h:fits v=true) (dim:Int):RT (leafT 0 v).nodes dim:=by
 have hr:rightNode (leafN v)=true:=by
  unfold rightNode leafN
  simp[h]
 refine NT.words (l:=[leafN v]) ⟨?_,by simp,by simp, ?_, ?_⟩
 ·intro n hn
  rw[List.mem_singleton] at hn
  subst hn
  exact hr
 ·intro i hi hl
  have:i=0:=by simpa using hi
  subst this
  cases hl
 ·intro j h1 h2
  have:j<1:=by simpa using h2
  omega
theorem leaf_nd {v:Int} (h:fits v=true):nd (pack ⟨true,v,0,0,0,0⟩)=⟨true,v,0,0,0,0⟩:=nd_pack _ (by
  unfold rightNode
  simp[h])
theorem value_leaf {v:Int} (h:fits v=true) (c:Int) (p:Point):valueAt (leafT c v).nodes p=v:=by
 have e:∀ k:Nat,ndAt (leafT c v).nodes 0=⟨true,v,0,0,0,0⟩:=fun _=>leaf_nd h
 have hl:leafOf (leafT c v).nodes p=0:=by
  unfold leafOf walk
  rw[e 0]
  rfl
 unfold valueAt
 rw[hl,e 0]
theorem bound_leaf {v:Int} (h:fits v=true) (c:Int) {b:Box}:((boundT (leafT c v).nodes b).a=if b.empty then 0 else v)∧((boundT (leafT c v).nodes b).b=if b.empty then 0 else v):=by
 cases hb:b.empty
 ·obtain⟨_,_,⟨p,t,hp,h3⟩,⟨q,u,hq,h4⟩⟩:=boundT_spec (rt_leaf h 4) hb
  rw[value_leaf h] at h3 h4
  simp only[Bool.false_eq_true,if_false]
  exact⟨h3.symm,h4.symm⟩
 ·unfold boundT
  rw[hb]
  exact⟨rfl,rfl⟩
theorem raw_leaf {v:Int} (h:fits v=true) (c j:Int):rawW j (leafT c v).nodes=[]:=by
 unfold rawW leafT cutF
 simp[leaf_nd h]
theorem boundF_leaves {v:Int} (h1:fits v=true) (h2:fits (-v)=true) (c:Int) (b:Box) (a:Int×Int):boundF c b (boundF c b a (leafT 0 v)) (leafT 0 (-v))=a:=by
 by_cases hc:(0:Int)=c
 ·have e:∀(a:Int×Int) w,boundF c b a (leafT 0 w)=(a.1+(boundT (leafT 0 w).nodes b).a,a.2+(boundT (leafT 0 w).nodes b).b):=fun a w=>if_pos hc
  obtain⟨a1,a2⟩:=bound_leaf h1 0 (b:=b)
  obtain⟨b1,b2⟩:=bound_leaf h2 0 (b:=b)
  rw[e,e,a1,a2,b1,b2]
  obtain⟨x,y⟩:=a
  cases b.empty<;>simp only[Bool.false_eq_true,if_false,if_true,Prod.mk.injEq]<;>constructor<;>omega
 ·have e:∀(a:Int×Int) w,boundF c b a (leafT 0 w)=a:=fun a w=>if_neg hc
  rw[e,e]
theorem evalF_leaves {v:Int} (h1:fits v=true) (h2:fits (-v)=true) (c:Int) (p:Point) (a:Int):evalF c p (evalF c p a (leafT 0 v)) (leafT 0 (-v))=a:=by
 by_cases hc:(0:Int)=c
 ·have e:∀(a:Int) w,evalF c p a (leafT 0 w)=a+valueAt (leafT 0 w).nodes p:=fun a w=>if_pos hc
  rw[e,e,value_leaf h1,value_leaf h2]
  omega
 ·have e:∀(a:Int) w,evalF c p a (leafT 0 w)=a:=fun a w=>if_neg hc
  rw[e,e]
theorem search_leaves {m:Model} {v:Int} (h1:fits v=true) (h2:fits (-v)=true) (q:Query):searchM { m with trees:=m.trees++[leafT 0 v,leafT 0 (-v)] } q=searchM m q:=by
 refine search_same (m:=m) (n:={ m with trees:=m.trees++[leafT 0 v,leafT 0 (-v)] }) rfl rfl (fun c b=>?_) (fun c p=>?_) (fun j=>?_) q
 ·show (m.trees++[leafT 0 v,leafT 0 (-v)]).foldl (boundF c b) (m.bias.get c,m.bias.get c)=m.trees.foldl (boundF c b) (m.bias.get c,m.bias.get c)
  rw[List.foldl_append,List.foldl_cons,List.foldl_cons,List.foldl_nil,boundF_leaves h1 h2]
 ·show (m.trees++[leafT 0 v,leafT 0 (-v)]).foldl (evalF c p) (m.bias.get c)=m.trees.foldl (evalF c p) (m.bias.get c)
  rw[List.foldl_append,List.foldl_cons,List.foldl_cons,List.foldl_nil,evalF_leaves h1 h2]
 ·unfold thrL rawM
  rw[List.flatMap_append]
  simp[raw_leaf h1,raw_leaf h2]
theorem rm_perm {m:Model} (hm:RM m) {l:List Tree} (h:l.Perm m.trees):RM { m with trees:=l } :=
 ⟨hm.dim,hm.classes,hm.bias,hm.none1,hm.none2,by rw[show ({ m with trees:=l }:Model).trees.length=l.length from rfl,h.length_eq];exact hm.trees,fun t ht=>hm.tree t (h.mem_iff.1 ht)⟩
theorem rm_leaves {m:Model} (hm:RM m) (hl:m.trees.length≤4) {v:Int} (h1:fits v=true) (h2:fits (-v)=true):RM { m with trees:=m.trees++[leafT 0 v,leafT 0 (-v)] }:=by
 refine⟨hm.dim,hm.classes,hm.bias,hm.none1,hm.none2, ?_,fun t ht=>?_⟩
 ·show (m.trees++[leafT 0 v,leafT 0 (-v)]).length≤8
  rw[List.length_append]
  show m.trees.length+2≤8
  omega
 ·have hc:=hm.classes
  have ht:t∈m.trees++[leafT 0 v,leafT 0 (-v)]:=ht
  rcases List.mem_append.1 ht with ht|ht
  ·exact hm.tree t ht
  ·simp only[List.mem_cons,List.not_mem_nil,or_false] at ht
   rcases ht with rfl|rfl
   ·exact⟨Int.le_refl _,by show (0:Int)<m.classes;omega,rt_leaf h1 m.dim⟩
   ·exact⟨Int.le_refl _,by show (0:Int)<m.classes;omega,rt_leaf h2 m.dim⟩
end Go.Co
/- CO: lists held against each other: told of the same list twice. (written by mkCoSm.py) -/
namespace Go.Co
open Go.Am Go.Proofs
attribute [-simp] Go.Am.eff_gcall
def c44_18:ACode:=.seq (.seq (.ops [⟨some 11,.mv (.t 5),none,[]⟩,⟨some 12,.mv (.t 0),none,[]⟩,⟨some 13,.len (.t 12),none,[]⟩,⟨some 14,.bin .lss (.t 11) (.t 13),none,[]⟩] [0,1,5,14]) (.cond (.t 14) .skip (.exit 0))) (.seq (.block 1 (.seq (.ops [⟨some 17,.mv (.t 0),none,[]⟩,⟨some 18,.mv (.t 5),none,[]⟩,⟨some 19,.ias (.t 17) (.t 18) 3,none,[]⟩,⟨some 20,.load 3 true (.t 19),none,[]⟩,⟨some 21,.mv (.t 1),none,[]⟩,⟨some 22,.mv (.t 5),none,[]⟩,⟨some 23,.ias (.t 21) (.t 22) 3,none,[]⟩,⟨some 24,.load 3 true (.t 23),none,[]⟩,⟨some 25,.eqa true [true,false,false] (.t 20) (.t 24),none,[]⟩] [0,1,5,25]) (.cond (.t 25) (.seq (.ops [⟨some 4,.mv (.c (.bool false)),none,[]⟩] [4]) .ret) .skip))) (.ops [⟨some 15,.mv (.t 5),none,[]⟩,⟨some 16,.bin .add (.t 15) (.c (.int .i64 1)),none,[]⟩,⟨some 5,.mv (.t 16),none,[]⟩] [0,1,5]))
theorem r44_18:type_of% (rr c44_18.eq_1):=rr rfl
def c44_27:ACode:=.seq (.ops [⟨some 4,.mv (.c (.bool false)),none,[]⟩] [0,1]) (.seq (.seq (.ops [⟨some 6,.mv (.t 0),none,[]⟩,⟨some 7,.len (.t 6),none,[]⟩,⟨some 8,.mv (.t 1),none,[]⟩,⟨some 9,.len (.t 8),none,[]⟩,⟨some 10,.bin .neq (.t 7) (.t 9),none,[]⟩] [0,1,10]) (.cond (.t 10) (.seq (.ops [⟨some 4,.mv (.c (.bool false)),none,[]⟩] [4]) .ret) .skip)) (.seq (.seq (.ops [⟨some 5,.mv (.c (.int .i64 0)),none,[]⟩] [0,1,5]) (.block 0 (.loop (.keep [0,1,5] [] c44_18)))) (.seq (.ops [⟨some 4,.mv (.c (.bool true)),none,[]⟩] [4]) .ret)))
theorem r44_27:type_of% (rr c44_27.eq_1):=rr rfl
def a44:AFun:=⟨2,26,c44_27,[.t 4]⟩
attribute [simp] r44_18 r44_27
theorem m44:mFun Tryz.prog Tryz.f44 a44=true:=by decide +kernel
noncomputable def SameS (a b:List Step):Option Bool:=Part (a=b) true
theorem runs_SameS (a b:List Step) (r:Bool) (h:SameS a b=some r):Runs (tbl []) a44 [Arg.enc a,Arg.enc b] (Arg.enc r):=by
 obtain⟨rfl,rfl⟩:=part_some h
 clear h
 refine⟨rfl,fun g=>run_def ?_⟩
 unfold a44
 by_cases b1:a.length≤maxN
 case neg=>simp -implicitDefEqProofs [b1]
 have hmx:a.length≤9223372036854775807:=b1
 simp -implicitDefEqProofs [b1]
 refine run_while (c:=c44_18) (fun n s=>∃(i:Nat) (g:Nat→Nat),i+n=a.length∧s=⟨[(0,.lst a.length (encL a)),(1,.lst a.length (encL a)),(5,.int .i64 i)],[],g⟩) a.length ⟨0,g,by omega,by simp⟩ ?_
 rintro n s ⟨i,g,hi,rfl⟩
 by_cases h1:i<a.length
 case pos =>
  have w1:IntKind.i64.wrap ((i:Int)+1)=(i:Int)+1:=wrap64 (by omega) (by omega)
  have hrow:=rd_step a i h1
  simp -implicitDefEqProofs [b1,h1,hrow,w1]
  exact⟨n-1,by omega,i+1,by omega,by omega⟩
 case neg =>
  have hil:i=a.length:=by omega
  subst hil
  simp -implicitDefEqProofs [b1,h1]
theorem c_SameS:Contract Tryz.prog 44 (sp2 SameS) :=
 contract_of_runs mixed tbl_nil Tryz.func44 m44 (sp2_runs runs_SameS)
end Go.Co
/- CO: copsekeep.Verdicts: told of the same verdict twice. -/
set_option maxHeartbeats 16000000
set_option maxRecDepth 100000
namespace Go.Co
open Go.Am Go.Proofs
attribute [-simp] Go.Am.eff_gcall
def c21_3:ACode:=.seq (.ops [⟨some 2,.box (.t 0) 8,none,[]⟩,⟨some 3,.box (.t 1) 8,none,[]⟩,⟨some 4,.mv (.c (.bool false)),none,[]⟩] [2,3]) (.seq (.ops [⟨some 5,.fad (.t 2) 0,none,[2]⟩,⟨some 6,.load 1 false (.t 5),none,[2]⟩,⟨some 7,.fad (.t 3) 0,none,[3]⟩,⟨some 8,.load 1 false (.t 7),none,[3]⟩,⟨some 9,.bin .eql (.t 6) (.t 8),none,[]⟩,⟨some 10,.mv (.t 9),none,[]⟩,⟨some 11,.fad (.t 2) 1,some (10,true),[2]⟩,⟨some 12,.load 1 false (.t 11),some (10,true),[2]⟩,⟨some 13,.fad (.t 3) 1,some (10,true),[3]⟩,⟨some 14,.load 1 false (.t 13),some (10,true),[3]⟩,⟨some 15,.call 44 [.t 12,.t 14],some (10,true),[]⟩,⟨some 16,.pick (.t 10) (.t 15) (.c (.bool false)),none,[]⟩,⟨some 17,.mv (.t 16),none,[]⟩,⟨some 18,.fad (.t 2) 2,some (17,true),[2]⟩,⟨some 19,.load 4 true (.t 18),some (17,true),[2]⟩,⟨some 20,.fad (.t 3) 2,some (17,true),[3]⟩,⟨some 21,.load 4 true (.t 20),some (17,true),[3]⟩,⟨some 22,.eqa false [false,false,false,false] (.t 19) (.t 21),some (17,true),[]⟩,⟨some 23,.pick (.t 17) (.t 22) (.c (.bool false)),none,[]⟩,⟨some 24,.mv (.t 23),none,[]⟩,⟨some 25,.fad (.t 2) 6,some (24,true),[2]⟩,⟨some 26,.load 1 false (.t 25),some (24,true),[2]⟩,⟨some 27,.fad (.t 3) 6,some (24,true),[3]⟩,⟨some 28,.load 1 false (.t 27),some (24,true),[3]⟩,⟨some 29,.bin .eql (.t 26) (.t 28),some (24,true),[]⟩,⟨some 30,.pick (.t 24) (.t 29) (.c (.bool false)),none,[]⟩,⟨some 31,.mv (.t 30),none,[]⟩,⟨some 32,.fad (.t 2) 7,some (31,true),[2]⟩,⟨some 33,.load 1 false (.t 32),some (31,true),[2]⟩,⟨some 34,.fad (.t 3) 7,some (31,true),[3]⟩,⟨some 35,.load 1 false (.t 34),some (31,true),[3]⟩,⟨some 36,.bin .eql (.t 33) (.t 35),some (31,true),[]⟩,⟨some 37,.pick (.t 31) (.t 36) (.c (.bool false)),none,[]⟩,⟨some 4,.mv (.t 37),none,[]⟩] [4]) .ret)
theorem r21_3:type_of% (rr c21_3.eq_1):=rr rfl
def a21:AFun:=⟨2,38,c21_3,[.t 4]⟩
attribute [simp] r21_3
theorem m21:mFun Tryz.prog Tryz.f21 a21=true:=by decide +kernel
noncomputable def VerdictsC (a b:Verdict):Option Bool:=Part (a=b) true
theorem runs_Verdicts (a b:Verdict) (r:Bool) (h:VerdictsC a b=some r):Runs (tbl [(44,sp2 SameS)]) a21 [Arg.enc a,Arg.enc b] (Arg.enc r):=by
 obtain⟨rfl,rfl⟩:=part_some h
 clear h
 refine⟨rfl,fun g=>run_def ?_⟩
 obtain⟨k,p,w,t,s⟩:=a
 have hS:SameS p p=some true:=part_of rfl _
 unfold a21
 simp -implicitDefEqProofs [hS]
theorem c_Verdicts:Contract Tryz.prog 21 (sp2 VerdictsC) :=
 contract_of_runs mixed (tbl_cons c_SameS tbl_nil) Tryz.func21 m21 (sp2_runs runs_Verdicts)
end Go.Co
