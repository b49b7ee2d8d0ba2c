/- The law TopBest: what its text computes. -/
import Derived.Test.YtlbfmeijjgphfaaGreatDoorCz12
import Derived.Test.YtlbfmeijjgphfaaGreatDoorCz13
set_option maxHeartbeats 16000000
set_option maxRecDepth 100000
namespace Go.Co
open Go.Am Go.Proofs
set_option linter.unusedSimpArgs false
set_option linter.unusedVariables false
attribute [-simp] Go.Am.eff_gcall Go.Am.eff_gcal2
def c7_36:ACode:=.seq (.seq (.ops [⟨some 19,.mv (.t 10),none,[]⟩,⟨some 20,.fad (.t 7) 1,none,[7]⟩,⟨some 21,.load 1 false (.t 20),none,[7]⟩,⟨some 22,.bin .lss (.t 19) (.t 21),none,[]⟩,⟨some 23,.mv (.t 22),none,[]⟩,⟨some 24,.fad (.t 7) 1,some (23,true),[7]⟩,⟨some 25,.load 1 false (.t 24),some (23,true),[7]⟩,⟨some 26,.bin .gtr (.t 25) (.c (.int .i64 1)),some (23,true),[]⟩,⟨some 27,.pick (.t 23) (.t 26) (.c (.bool false)),none,[]⟩] [2,7,8,9,10,27]) (.cond (.t 27) .skip (.exit 0))) (.seq (.block 1 (.seq (.ops [⟨some 31,.load 6 true (.t 7),none,[7]⟩,⟨some 32,.mv (.t 10),none,[]⟩,⟨some 33,.fad (.t 8) 2,none,[8]⟩,⟨some 34,.load 10 true (.t 33),none,[8]⟩,⟨some 35,.build [.int .i64 0,.int .i64 0,.int .i64 0,.int .i64 0,.int .i64 0,.int .i64 0,.int .i64 0,.int .i64 0,.int .i64 0,.int .i64 0,.int .i64 0,.int .i64 0,.int .i64 0,.int .i64 0,.int .i64 0,.bool false,.int .i64 0] [(0,1,.c (.int .i64 2)),(1,1,.t 32),(2,10,.t 34)],none,[]⟩,⟨some 36,.call 11 [.t 31,.t 35],none,[]⟩,⟨some 30,.mv (.t 36),none,[]⟩,⟨some 37,.ext (.t 30) 0,none,[]⟩,⟨some 38,.ext (.t 30) 1,none,[]⟩,⟨some 11,.alloc [.int .i64 0,.int .i64 0,.int .i64 0,.int .i64 0,.int .i64 0,.int .i64 0,.int .i64 0,.int .i64 0,.int .i64 0,.int .i64 0,.int .i64 0,.int .i64 0,.int .i64 0,.int .i64 0,.int .i64 0,.bool false,.int .i64 0],none,[]⟩,⟨none,.store (.t 11) 17 (.t 37),none,[11]⟩,⟨some 12,.mv (.t 38),none,[]⟩] [2,7,8,9,10,11,12]) (.seq (.seq (.ops [⟨some 39,.mv (.t 12),none,[]⟩,⟨some 40,.un .not (.t 39),none,[]⟩] [2,7,8,9,10,11,40]) (.cond (.t 40) (.seq (.ops [⟨some 41,.call 13 [],none,[]⟩,⟨some 6,.mv (.t 41),none,[]⟩] [6]) .ret) .skip)) (.seq (.ops [⟨some 42,.load 6 true (.t 7),none,[7]⟩,⟨some 43,.load 17 true (.t 11),none,[11]⟩,⟨some 44,.call 14 [.t 42,.t 43],none,[]⟩,⟨some 13,.alloc [.int .i64 0,.nils,.int .i64 0,.int .i64 0,.int .i64 0,.int .i64 0,.int .i64 0,.int .i64 0],none,[]⟩,⟨none,.store (.t 13) 8 (.t 44),none,[13]⟩] [2,7,8,9,10,11,13]) (.seq (.ops [⟨some 45,.fad (.t 13) 0,none,[13]⟩,⟨some 46,.load 1 false (.t 45),none,[13]⟩,⟨some 47,.bin .eql (.t 46) (.c (.int .i64 1)),none,[]⟩] [2,7,8,9,10,11,13,47]) (.cond (.t 47) (.seq (.ops [⟨some 48,.mv (.t 9),none,[]⟩,⟨some 49,.bin .add (.t 48) (.c (.int .i64 1)),none,[]⟩,⟨some 9,.mv (.t 49),none,[]⟩] [2,7,8,9,10]) (.seq (.ops [⟨some 50,.load 6 true (.t 7),none,[7]⟩,⟨some 51,.fad (.t 8) 2,none,[8]⟩,⟨some 52,.load 10 true (.t 51),none,[8]⟩,⟨some 53,.mv (.t 2),none,[]⟩,⟨some 54,.call 16 [.t 52,.t 53],none,[]⟩,⟨some 55,.call 22 [.t 50,.t 54],none,[]⟩,⟨some 56,.mv (.t 10),none,[]⟩,⟨some 57,.bin .neq (.t 55) (.t 56),none,[]⟩] [2,7,8,9,10,57]) (.cond (.t 57) (.seq (.ops [⟨some 6,.mv (.c (.bool false)),none,[]⟩] [6]) .ret) .skip))) (.seq (.ops [⟨some 58,.fad (.t 13) 0,none,[13]⟩,⟨some 59,.load 1 false (.t 58),none,[13]⟩,⟨some 60,.bin .neq (.t 59) (.c (.int .i64 2)),none,[]⟩,⟨some 61,.mv (.t 60),none,[]⟩,⟨some 62,.load 6 true (.t 7),some (61,false),[7]⟩,⟨some 63,.load 17 true (.t 11),some (61,false),[11]⟩,⟨some 64,.fad (.t 13) 2,some (61,false),[13]⟩,⟨some 65,.load 4 true (.t 64),some (61,false),[13]⟩,⟨some 66,.call 19 [.t 62,.t 63,.t 65,.c (.int .i64 0)],some (61,false),[]⟩,⟨some 67,.un .not (.t 66),some (61,false),[]⟩,⟨some 68,.pick (.t 61) (.c (.bool true)) (.t 67),none,[]⟩] [2,7,8,9,10,68]) (.cond (.t 68) (.seq (.ops [⟨some 6,.mv (.c (.bool false)),none,[]⟩] [6]) .ret) .skip)))))))) (.ops [⟨some 28,.mv (.t 10),none,[]⟩,⟨some 29,.bin .add (.t 28) (.c (.int .i64 1)),none,[]⟩,⟨some 10,.mv (.t 29),none,[]⟩] [2,7,8,9,10]))
theorem r7_36:type_of% (rr c7_36.eq_1):=rr rfl
def c7_47:ACode:=.seq (.ops [⟨some 3,.box (.t 0) 4,none,[]⟩,⟨some 4,.box (.t 1) 8,none,[]⟩,⟨some 6,.mv (.c (.bool false)),none,[]⟩] [2,3,4]) (.seq (.ops [⟨some 14,.load 4 true (.t 3),none,[3]⟩,⟨some 15,.call 10 [.t 14],none,[]⟩,⟨some 7,.alloc [.int .i64 0,.int .i64 0,.int .i64 0,.int .i64 0,.int .i64 0,.nils],none,[]⟩,⟨none,.store (.t 7) 6 (.t 15),none,[7]⟩] [2,4,7]) (.seq (.ops [⟨some 16,.load 8 true (.t 4),none,[4]⟩,⟨some 17,.load 6 true (.t 7),none,[7]⟩,⟨some 18,.call 12 [.t 16,.t 17],none,[]⟩,⟨some 8,.alloc [.int .i64 0,.int .i64 0,.int .i64 0,.int .i64 0,.int .i64 0,.int .i64 0,.int .i64 0,.int .i64 0,.int .i64 0,.int .i64 0,.int .i64 0,.int .i64 0,.int .i64 0,.int .i64 0,.int .i64 0,.bool false,.int .i64 0],none,[]⟩,⟨none,.store (.t 8) 17 (.t 18),none,[8]⟩] [2,7,8]) (.seq (.ops [⟨some 9,.mv (.c (.int .i64 0)),none,[]⟩] [2,7,8,9]) (.seq (.seq (.ops [⟨some 10,.mv (.c (.int .i64 0)),none,[]⟩] [2,7,8,9,10]) (.block 0 (.loop (.keep [2,7,8,9,10] [7,8] c7_36)))) (.seq (.ops [⟨some 69,.mv (.t 9),none,[]⟩,⟨some 70,.bin .leq (.t 69) (.c (.int .i64 1)),none,[]⟩,⟨some 71,.mv (.t 70),none,[]⟩,⟨some 72,.call 13 [],some (71,true),[]⟩,⟨some 73,.pick (.t 71) (.t 72) (.c (.bool false)),none,[]⟩,⟨some 6,.mv (.t 73),none,[]⟩] [6]) .ret)))))
theorem r7_47:type_of% (rr c7_47.eq_1):=rr rfl
def a7:AFun:=⟨3,74,c7_47,[.t 6]⟩
attribute [simp] r7_36 r7_47
theorem m7:mFun Tryz.prog Tryz.f7 a7=true:=by decide +kernel
def bestQ (q:Query) (i u:Int):Query:=⟨2,i,q.region,0,0,0,false,u⟩
theorem bestQ_ok {m:Model} {q:Query} (hq:okQuery m q=true) {i u:Int} (i0:0≤i) (i1:i<m.classes) (h2:2≤m.classes) (u0:0≤u) (u1:u≤65536):okQuery m (bestQ q i u)=true:=by
 have hr:=(okQuery_spec hq).2.2.2.2.1
 unfold okQuery okKind bestQ
 simp[hr,i0,i1,h2,u0,u1]
theorem bestQ_wide {q:Query} (hw:wide (startOf q)≤199) (i u:Int):wide (startOf (bestQ q i u))≤199:=by
 have e:wide (startOf (bestQ q i u))=wS q.region.s0+wS q.region.s1+wS q.region.s2+wS q.region.s3+0:=rfl
 have e2:wide (startOf q)=wS q.region.s0+wS q.region.s1+wS q.region.s2+wS q.region.s3+wS (startOf q).s4:=rfl
 omega
theorem best_of {m:Model} (hm:RM m) {p:Point} {c:Int} (c0:0≤c) (c1:c<m.classes) (h:∀ o:Int,0≤o→o<m.classes→o≠c→evalM m o p<evalM m c p):bestM m p=c:=by
 have hk:=hm.classes
 unfold bestM
 by_cases k1:m.classes=1
 ·rw[if_pos k1]
  omega
 rw[if_neg k1]
 have key:∀ o:Int,0≤o→o<m.classes→o=c∨evalM m o p<evalM m c p:=fun o o0 o1=>by
  by_cases e:o=c
  ·exact .inl e
  ·exact .inr (h o o0 o1 e)
 have e0:=key 0 (by omega) (by omega)
 have e1:=key 1 (by omega) (by omega)
 have hcs:c=0∨c=1∨c=2:=by omega
 by_cases k2:m.classes=2
 ·rw[if_pos k2]
  rcases hcs with rfl|rfl|rfl
  ·rw[if_neg (by omega)]
  ·rw[if_pos (by omega)]
  ·omega
 ·rw[if_neg k2]
  have e2:=key 2 (by omega) (by omega)
  rcases hcs with rfl|rfl|rfl
  ·rw[if_neg (by omega),if_neg (by omega)]
  ·rw[if_pos (by omega),if_neg (by omega)]
  ·by_cases g:evalM m 0 p<evalM m 1 p
   ·rw[if_pos g,if_pos (by omega)]
   ·rw[if_neg g,if_pos (by omega)]
theorem bestQ_kinds {m:Model} (hm:RM m) {q:Query} (hq:okQuery m q=true) (hw:wide (startOf q)≤199) (hr:q.region.empty=false) (l:List Int) {i u:Int} (i0:0≤i) (i1:i<m.classes) (h2:2≤m.classes) (u0:0≤u) (u1:u≤65536) (hk:(searchM m (bestQ q i u)).kind≠3) :
  ((searchM m (bestQ q i u)).kind=1∧bestM m (insideOf q.region l)=i)∨((searchM m (bestQ q i u)).kind=2∧breaks m (bestQ q i u) (searchM m (bestQ q i u)).witness 0=true):=by
 have hok:=bestQ_ok hq i0 i1 h2 u0 u1
 rcases search_kind hok hk with h|h
 ·refine .inl ⟨h,best_of hm i0 i1 ?_⟩
  have hin:=inside_in hr l
  have:=search_sound hm hok (bestQ_wide hw i u) h (insideOf q.region l) 0 ⟨hin.1,hin.2.1,hin.2.2.1,hin.2.2.2.1,⟨Int.le_refl _,Int.le_refl _⟩⟩
  unfold breaks at this
  rw[hok] at this
  exact unbeaten_iff.1 this
 ·obtain⟨_,h3,h4⟩:=fails_proven hok h
  refine .inr ⟨h, ?_⟩
  have ht:(searchM m (bestQ q i u)).twin=0:=by
   have:=h3.2.2.2.2
   have:InS ⟨0,0⟩ (searchM m (bestQ q i u)).twin:=this
   unfold InS at this
   simp only at this
   omega
  rw[ht] at h4
  exact h4
def okHs (bst i hs:Int):Prop:=hs=0∨(hs=1∧bst<i)
noncomputable abbrev tbeT:Cs:=tbl [(10,sp1 ModelC),(12,sp2 QueryC),(11,sp2 EnoughC),(14,sp2 RunC),(16,sp2 InsideC),(22,sp2 BestC),(19,sp4 BreaksC),(13,sp0 (some true))]
theorem runs_law (f:Forest) (a:Ask) (l:List Int) (c:Bool) (h:some true=some c):Runs tbeT a7 [Arg.enc f,Arg.enc a,Arg.enc l] (Arg.enc c):=by
 cases h
 refine⟨rfl,fun g=>run_def ?_⟩
 have hm:=rm_modelOf f
 have hM:ModelC f=some (modelOf f):=rfl
 generalize modelOf f=m at *
 have hQ:QueryC a m=some (queryOf m a):=part_of ⟨hm.dim.1,hm.dim.2,hm.classes.1,hm.classes.2⟩ _
 have hok0:okQuery m (queryOf m a)=true:=ok_queryOf m a hm
 have hwd0:=wide_start m a
 have hrg:okB (queryOf m a).region∧(queryOf m a).region.empty=false∧small (queryOf m a).region.s0∧small (queryOf m a).region.s1∧small (queryOf m a).region.s2∧small (queryOf m a).region.s3:=okB_region m.dim a.spans
 generalize queryOf m a=q at *
 obtain⟨hrb,hre,hrs⟩:=hrg
 have hE:∀ r,EnoughC m r=some (if countM m r (startOf r)≤1500 then (withBudget r (2*countM m r (startOf r)),true) else (withBudget r 0,false)):=fun r=>part_of hm _
 have hR:∀ r,RunC m r=some (searchM m r):=fun r=>part_of hm _
 have hI:InsideC q.region l=some (insideOf q.region l):=part_of hrs _
 have hB:∀ p,BestC m p=some (bestM m p):=fun p=>part_of hm _
 have hBr:∀ r p t,BreaksC m r p t=some (breaks m r p t):=fun r p t=>part_of hm _
 have hcl:=hm.classes
 have main:=fun i u=>bestQ_kinds hm hok0 hwd0 hre l (i:=i) (u:=u)
 have hen:∀ i u,0≤i→i<m.classes→2≤m.classes→0≤u→u≤65536→2*countM m (bestQ q i 0) (startOf (bestQ q i 0))≤u→(searchM m (bestQ q i u)).kind≠3:=fun i u i0 i1 h2 u0 u1 hc =>
  search_enough hm (bestQ_ok hok0 i0 i1 h2 u0 u1) (by
   have:countM m (bestQ q i u) (startOf (bestQ q i u))=countM m (bestQ q i 0) (startOf (bestQ q i 0)):=rfl
   rw[this]
   show _≤u
   omega)
 have hp:=fun i=>count_pos hm (bestQ q i 0) (startOf (bestQ q i 0))
 have hbp:=hB (insideOf q.region l)
 generalize insideOf q.region l=p at *
 generalize bestM m p=bst at *
 unfold a7
 simp -implicitDefEqProofs [hM,hQ]
 refine run_while (c:=c7_36) (fun n s=>∃(i hs:Int) (g:Nat→Nat),0≤i∧i≤m.classes∧(n:Int)=m.classes-i∧okHs bst i hs∧s=⟨[(2,.lst l.length (encL l)),(7,.ptr 7 (g 7) 0),(8,.ptr 8 (g 8) 0),(9,.int .i64 hs),(10,.int .i64 i)],[(7,⟨Row.enc m,false,0⟩),(8,⟨Row.enc q,false,0⟩)],g⟩) m.classes.toNat
  ⟨0,0,bump 8 (bump 7 (bump 4 (bump 3 g))),by omega,by omega,by omega,.inl rfl,by simp⟩ ?_
 rintro n s ⟨i,hs,g,i0,i1,hn,hhs,rfl⟩
 have w1:IntKind.i64.wrap (i+1)=i+1:=wrap64 (by omega) (by omega)
 have hs1:hs≤1:=by unfold okHs at hhs;omega
 by_cases c2:1<m.classes
 case neg =>
  by_cases c1:i<m.classes<;>simp -implicitDefEqProofs [c1,c2,hs1]
 by_cases c1:i<m.classes
 case neg=>simp -implicitDefEqProofs [c1,c2,hs1]
 have hEi:=hE (bestQ q i 0)
 have hpi:=hp i
 have hu:=hen i (2*countM m (bestQ q i 0) (startOf (bestQ q i 0))) i0 c1 (by omega)
 have hRi:=hR (withBudget (bestQ q i 0) (2*countM m (bestQ q i 0) (startOf (bestQ q i 0))))
 have hmi:=main i (2*countM m (bestQ q i 0) (startOf (bestQ q i 0))) i0 c1 (by omega)
 have hBri:=hBr (bestQ q i (2*countM m (bestQ q i 0) (startOf (bestQ q i 0))))
 have hwb:∀ u,withBudget (bestQ q i 0) u=bestQ q i u:=fun _=>rfl
 rw[hwb,hwb] at hEi
 rw[hwb] at hRi
 generalize countM m (bestQ q i 0) (startOf (bestQ q i 0))=cc at *
 by_cases h1:cc≤1500
 ·rw[if_pos h1] at hEi
  have hk:=hu (by omega) (by omega) (Int.le_refl _)
  have hmk:=hmi (by omega) (by omega) hk
  have hBw:=hBri (searchM m (bestQ q i (2*cc))).witness 0
  clear main hen hE hR hBr hmi hu hB hp hBri
  generalize breaks m (bestQ q i (2*cc)) (searchM m (bestQ q i (2*cc))).witness 0=br at *
  generalize searchM m (bestQ q i (2*cc))=v at *
  unfold bestQ at *
  obtain⟨vk,vp,⟨w0,w1',w2',w3⟩,vt,vs⟩:=v
  simp only at hmk hk hBw
  rcases hmk with⟨rfl,hbi⟩|⟨rfl,rfl⟩
  ·have hs0:hs=0:=by unfold okHs at hhs;omega
   subst hs0
   have hne:¬ ¬ bst=i:=fun h=>h hbi
   have hk2:okHs i (i+1) 1:=.inr ⟨rfl,by omega⟩
   simp -implicitDefEqProofs [c1,c2,hEi,hRi,hI,hbp,hbi,w1]
   exact⟨n-1,by omega,i+1,by omega,by omega,by omega,1,hk2,rfl,rfl⟩
  ·have hk2:okHs bst (i+1) hs:=by unfold okHs at hhs ⊢;omega
   simp -implicitDefEqProofs [c1,c2,hEi,hRi,hBw,w1]
   exact⟨n-1,by omega,i+1,by omega,by omega,by omega,hs,hk2,rfl,rfl⟩
 ·rw[if_neg h1] at hEi
  clear main hen hE hR hBr hmi hu hB hp hBri
  unfold bestQ at *
  simp -implicitDefEqProofs [c1,c2,hEi]
noncomputable def law_sp:List AV→Option AV:=sp3 fun (_:Forest) (_:Ask) (_:List Int)=>some true
theorem law_holds:Contract Tryz.prog 7 law_sp :=
 contract_of_runs mixed (tbl_cons c_Model (tbl_cons c_Query (tbl_cons c_enough (tbl_cons c_Run (tbl_cons c_Inside (tbl_cons c_Best (tbl_cons c_Breaks (tbl_cons c_awake tbl_nil)))))))) Tryz.func7 m7 (sp3_runs runs_law)
theorem law_says (f:Forest) (a:Ask) (l:List Int):law_sp [Arg.enc f,Arg.enc a,Arg.enc l]=some (.bool true):=by
 simp only[law_sp,sp3,Arg.dec_enc,Option.bind_some]
 rfl
end Go.Co
