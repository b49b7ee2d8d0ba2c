/- CO: texts of this claim, one behind the other. -/
import Derived.Test.YtlbfmeijjgphfaaGreatDoorCz11
import Derived.Shelf.Strings.Builder1
import Derived.Shelf.Strings.OnBuilder
import Derived.Shelf.Strings.Repeat
import Derived.Shelf.Strings.Count
import Derived.Shelf.Strings.Search2
import Derived.Shelf.Strconv.Atoi
import Derived.Shelf.Strconv.ParseUint10b64
import Derived.Ground.NamesProg
import Derived.Lib.AtoiErrMem
import Derived.Test.YtlbfmeijjgphfaaGreatDoorCz4
set_option linter.unusedVariables false
set_option linter.unusedSimpArgs false
/- CO: a search run to its end. -/
set_option maxHeartbeats 16000000
set_option maxRecDepth 100000
namespace Go.Co
open Go.Am Go.Proofs
attribute [-simp] Go.Am.eff_gcall Go.Am.eff_gcal2
theorem run_step (x:SS) (hx:x.Ok):∃ n1 n2,stepRun x n1 n2 (.bool (stepS x).1) ((stepS x).2.hp 0 3 4 0 0):=by
 by_cases hA:x.kind≠0∨x.q.budget≤x.sp
 ·have e:stepS x=(false,x):=by unfold stepS;rw[if_pos hA]
  rw[e]
  exact⟨_,_,run_stepA x hx hA⟩
 ·obtain⟨m,q,lf,L,G,pf,kind,w,tw,sp⟩:=x
  simp only[not_or,ne_eq,Decidable.not_not] at hA
  obtain⟨rfl,hb⟩:=hA
  have hn:=hx.n
  have hl:=hx.l rfl
  have hz:=hx.z (show (0:Int)≠2 by decide)
  simp only at hn hl hb hz
  cases lf
  ·exact absurd (hn rfl).1 (by decide)
  ·rcases List.eq_nil_or_concat L with rfl|⟨R,b,rfl⟩
   ·exact absurd rfl hl
   ·rw[List.concat_eq_append] at *
    exact run_stepB m q R b G pf w tw sp hx hz hb
theorem c_Step:Contract Tryz.prog (gBase+35) (gspec stepG) :=
 gcontractN2 (C:=ssT) mixed (tbl_cons c_Closed (tbl_cons c_gCorner (tbl_cons c_Breaks (tbl_cons c_Split (tbl_cons c_bCut tbl_nil))))) Tryz.func35 m35 fun args h r h' hs=>by
  unfold stepG at hs
  split at hs
  ·rename_i hx
   have hc:=Classical.choose_spec hx
   generalize Classical.choose hx=x at *
   obtain⟨hok,rfl,rfl⟩:=hc
   simp only[Option.some.injEq,Prod.mk.injEq] at hs
   obtain⟨rfl,rfl⟩:=hs
   exact⟨rfl,true,run_step x hok⟩
  ·cases hs
def newS (m:Model) (q:Query):SS:=if okQuery m q then ⟨m,q,true,[startOf q],[],[],0,zeroP,0,0⟩ else ⟨m,q,false,[],[],[],4,zeroP,0,0⟩
open Classical in
noncomputable def newG:GSp:=fun args h=>match args,h with
 | [x,y],[]=>(Arg.dec x:Option Model).bind fun m=>(Arg.dec y:Option Query).bind fun q=>if RM m then some (.ptr 3 0 0,(newS m q).hp 3 4 99 0 0) else none
 | _,_=>none
noncomputable abbrev nwT:Cs:=tbl [(40,sp2 QRight),(15,sp1 fun q=>some (startOf q))]
theorem run_New (m:Model) (q:Query) (hm:RM m):run nwT a34.code [] ⟨argEnv 0 [Arg.enc m,Arg.enc q],[],fun _=>0⟩ (gfinN2 a34.res false (some 9) (if okQuery m q then some 10523 else none) (.ptr 3 0 0) ((newS m q).hp 3 4 99 0 0)):=by
 unfold a34 newS
 have hM:QRight m q=some (okQuery m q):=by unfold QRight;rw[if_neg (by have:=hm.dim;omega)];exact part_of hm _
 cases hq:okQuery m q
 case false =>
  rw[hq] at hM
  simp -implicitDefEqProofs [hM,SS.hp,SS.cellsV,SS.lv,SS.pv,SS.lh,SS.ph,zeroP]
 case true =>
  rw[hq] at hM
  simp -implicitDefEqProofs [hM,SS.hp,SS.cellsV,SS.lv,SS.pv,SS.lh,SS.ph,zeroP,encL_cons,encL_nil]
theorem c_New:Contract Tryz.prog (gBase+34) (gspec newG) :=
 gcontractN2 (C:=nwT) mixed (tbl_cons c_qRight (tbl_cons c_Start tbl_nil)) Tryz.func34 m34 fun args h r h' hs=>by
  unfold newG at hs
  split at hs
  ·rename_i x y
   rw[Option.bind_eq_some_iff] at hs
   obtain⟨m,hm,hs⟩:=hs
   rw[Option.bind_eq_some_iff] at hs
   obtain⟨q,hq,hs⟩:=hs
   split at hs
   ·rename_i hr
    simp only[Option.some.injEq,Prod.mk.injEq] at hs
    obtain⟨rfl,rfl⟩:=hs
    obtain rfl:=Arg.enc_dec _ _ hm
    obtain rfl:=Arg.enc_dec _ _ hq
    exact⟨rfl,false,_,_,run_New m q hr⟩
   ·cases hs
  ·cases hs
theorem newG_of {m:Model} (hm:RM m) (q:Query):newG [Arg.enc m,Arg.enc q] []=some (.ptr 3 0 0,(newS m q).hp 3 4 99 0 0):=by
 unfold newG
 simp only[Arg.dec_enc,Option.bind_some]
 rw[if_pos hm]
def verOf (s:Srch):Verdict:=⟨if s.v.kind=0 then 3 else s.v.kind,s.v.proof,s.v.witness,s.v.twin,s.spent⟩
noncomputable def VerC (r:Ref Srch):Option Verdict:=Part (r.v.v.proof.length≤1099511627776) (verOf r.v)
theorem runs_Verdict (x:Ref Srch) (r:Verdict) (h:VerC x=some r):Runs (tbl [(69,sp1 CloneC)]) a36 [Arg.enc x] (Arg.enc r):=by
 obtain⟨x⟩:=x
 obtain⟨hl,rfl⟩:=part_some h
 simp only at hl
 have hC:CloneC x.v.proof=some x.v.proof:=part_of hl _
 refine⟨rfl,fun g=>run_def ?_⟩
 rw[enc_ref_Srch]
 unfold a36 Srch.cells verOf
 by_cases hk:x.v.kind=0
 ·simp -implicitDefEqProofs [hC,hk]
 ·simp -implicitDefEqProofs [hC,hk]
theorem c_Verdict:Contract Tryz.prog 36 (sp1 VerC) :=
 contract_of_runs mixed (tbl_cons c_Clone tbl_nil) Tryz.func36 m36 (sp1_runs runs_Verdict)
def verS (x:SS):Verdict:=⟨if x.kind=0 then 3 else x.kind,if x.kind=1 then x.pf else [],x.w,x.tw,x.sp⟩
def fuelS (x:SS):Nat:=(x.q.budget-x.sp).toNat
def resS (x:SS):Verdict:=if x.kind=0 then searchN x.m x.q (fuelS x) x.sp x.L.reverse x.pf else verS x
theorem new_ok {m:Model} (hm:RM m) (q:Query):(newS m q).Ok∧resS (newS m q)=searchM m q:=by
 unfold newS searchM
 cases hq:okQuery m q
 ·rw[if_neg Bool.false_ne_true,if_neg Bool.false_ne_true]
  refine⟨⟨hm,by simp,by simp,by simp,by simp,by simp,by simp,by simp,by simp,by simp,by simp,by simp⟩, ?_⟩
  unfold resS verS
  simp
 ·rw[if_pos rfl,if_pos rfl]
  have hst:=okQuery_start hq
  refine⟨⟨hm,fun _=>hq,by simp,by simp,by simp,by simpa using hst.2.1,by simp,by simp,by simp,by simp,by simp,by simp⟩, ?_⟩
  unfold resS fuelS
  simp
theorem step_ok {x:SS} (hx:x.Ok):(stepS x).2.Ok∧resS (stepS x).2=resS x∧((stepS x).1=false→(stepS x).2=x∧resS x=verS x) ∧
  ((stepS x).1=true→x.kind=0∧x.sp<x.q.budget∧(stepS x).2.sp=x.sp+1∧(stepS x).2.q=x.q):=by
 by_cases hA:x.kind≠0∨x.q.budget≤x.sp
 ·have e:stepS x=(false,x):=by unfold stepS;rw[if_pos hA]
  rw[e]
  refine⟨hx,rfl,fun _=>⟨rfl, ?_⟩,fun h=>by cases h⟩
  unfold resS
  split
  ·rename_i hk
   have hb:x.q.budget≤x.sp:=by omega
   have hf:fuelS x=0:=by unfold fuelS;omega
   have hz:=hx.z (by omega)
   have hl:=hx.l hk
   rw[hf]
   unfold verS
   rw[if_pos hk,if_neg (by omega),hz.1,hz.2]
   cases hr:x.L.reverse with
   | nil=>exact absurd (List.reverse_eq_nil_iff.1 hr) hl
   | cons b bs=>rfl
  ·rfl
 ·obtain⟨m,q,lf,L,G,pf,kind,w,tw,sp⟩:=x
  simp only[not_or,ne_eq,Decidable.not_not] at hA
  obtain⟨rfl,hb⟩:=hA
  have hn:=hx.n
  have hl:=hx.l rfl
  have hz:=hx.z (show (0:Int)≠2 by decide)
  have hq:=hx.q
  simp only at hn hl hb hz hq
  obtain⟨rfl,rfl⟩:=hz
  cases lf
  ·exact absurd (hn rfl).1 (by decide)
  ·rcases List.eq_nil_or_concat L with rfl|⟨R,b,rfl⟩
   ·exact absurd rfl hl
   ·rw[List.concat_eq_append] at *
    have hq:=hq rfl
    have hm:RM m:=hx.m
    have hbu:=(okQuery_spec hq).2.2.2.1
    have hbok:okB b:=hx.b b (by simp)
    have hRok:∀ y∈R,okB y:=fun y hy=>hx.b y (by simp[hy])
    have hg:G.all AV.plain=true:=hx.g
    have hg2:(Row.enc b++G).all AV.plain=true:=by rw[List.all_append,hg];rfl
    have hRl:=hx.ll
    have hpl:=hx.pl
    have hs0:=hx.s0
    simp only[List.length_append,List.length_singleton] at hRl hpl hs0
    have hb':sp<q.budget:=by omega
    have e3:(R++[b]).getLastD default=b:=by simp
    have e4:(R++[b]).dropLast=R:=by simp
    have hfu:fuelS ⟨m,q,true,R++[b],G,pf,0,zeroP,0,sp⟩=(q.budget-(sp+1)).toNat+1:=by unfold fuelS;simp only;omega
    have hres:resS ⟨m,q,true,R++[b],G,pf,0,zeroP,0,sp⟩=searchN m q ((q.budget-(sp+1)).toNat+1) sp (b::R.reverse) pf:=by
     unfold resS
     rw[if_pos rfl,hfu]
     simp
    rw[hres,searchN_cons]
    unfold stepS
    rw[if_neg (by simp only[not_or];exact⟨fun h=>h rfl,hb⟩)]
    simp only[e3,e4]
    cases hcl:closedM m q b
    case true =>
     rw[if_pos rfl,if_pos rfl]
     refine⟨⟨hm,fun _=>hq,by simp, ?_,by simp,hRok,hg2,by simp only;omega,by simp only;omega,by simp only;omega,by simp;omega,fun _=>⟨rfl,rfl⟩⟩, ?_,fun h=>(by cases h),fun _=>⟨trivial,hb',rfl,rfl⟩⟩
     ·intro h
      simp only at h ⊢
      intro hR
      rw[if_pos hR] at h
      cases h
     ·unfold resS
      by_cases hR:R=[]
      ·subst hR
       simp[verS,searchN_nil]
      ·simp only[if_neg hR,if_true]
       unfold fuelS
       rfl
    case false =>
     rw[if_neg Bool.false_ne_true,if_neg Bool.false_ne_true]
     cases hco:corner m q b
     case true =>
      rw[if_pos rfl,if_pos rfl]
      exact⟨⟨hm,fun _=>hq,by simp,by simp,by simp,hRok,hg2,by simp only;omega,by simp only;omega,by simp only;omega,by simp only;omega,fun h=>absurd rfl h⟩,by simp[resS,verS],fun h=>(by cases h),fun _=>⟨trivial,hb',rfl,rfl⟩⟩
     case false =>
      rw[if_neg Bool.false_ne_true,if_neg Bool.false_ne_true]
      have hin:=split_in (m:=m) (q:=q) (b:=b)
      have hkok:=fun i:Int=>cuts_ok hm (q:=q) (b:=b) (i:=i)
      generalize splitM m q b=z at *
      obtain⟨k,at_,ok⟩:=z
      simp only at hin
      cases ok
      case false =>
       rw[if_neg Bool.false_ne_true,if_neg Bool.false_ne_true]
       exact⟨⟨hm,fun _=>hq,by simp,by simp,by simp,hRok,hg2,by simp only;omega,by simp only;omega,by simp only;omega,by simp only;omega,fun _=>⟨rfl,rfl⟩⟩,by simp[resS,verS],fun h=>(by cases h),fun _=>⟨trivial,hb',rfl,rfl⟩⟩
      case true =>
       rw[if_pos rfl,if_pos rfl]
       obtain⟨k0,k5,kin⟩:=hin rfl
       have hok2:=okB_cut hbok k (hkok _ _ kin)
       refine⟨⟨hm,fun _=>hq,by simp,by simp,by simp, ?_,by simp,by simp only;omega,by simp only;omega,by simp;omega,by simp;omega,fun _=>⟨rfl,rfl⟩⟩, ?_,fun h=>(by cases h),fun _=>⟨trivial,hb',rfl,rfl⟩⟩
       ·intro y hy
        simp only[List.mem_append,List.mem_cons,List.not_mem_nil,or_false] at hy
        rcases hy with hy|rfl|rfl
        ·exact hRok y hy
        ·exact hok2.2
        ·exact hok2.1
       ·unfold resS fuelS
        simp
end Go.Co
/- CO: a search run to its end: what comes of it. -/
set_option maxHeartbeats 16000000
set_option maxRecDepth 100000
namespace Go.Co
open Go.Am Go.Proofs
attribute [-simp] Go.Am.eff_gcall Go.Am.eff_gcal2
noncomputable abbrev rnT:Cs:=tbl [(1000000+34,gspec newG),(1000000+35,gspec stepG),(36,sp1 VerC)]
def runE (g:Nat→Nat) (t:List (Nat×AV)):Env:=(4,.ptr 4 (g 4) 0)::(5,.ptr 20001 (g 20001) 0)::t
def runH (x:SS) (g:Nat→Nat):Hp:=(4,⟨[.int .i64 0,.nils,.int .i64 0,.int .i64 0,.int .i64 0,.int .i64 0,.int .i64 0,.int .i64 0],false,0⟩)::x.hp 20001 20002 20003 (g 20002) (g 20003)
theorem step_lf (x:SS):(stepS x).2.lf=x.lf:=by
 unfold stepS
 split
 ·rfl
 ·split
  ·rfl
  ·split
   ·rfl
   ·split<;>rfl
theorem step_pf (x:SS):x.pf≠[]→(stepS x).2.pf≠[]:=by
 intro h
 unfold stepS
 split
 ·exact h
 ·split
  ·simp
  ·split
   ·exact h
   ·split
    ·simp
    ·exact h
theorem run_on (x:SS) (hx:x.Ok) (ht:(stepS x).1=true) (g:Nat→Nat) (fs:List Fr) (Q:Post) (hQ:∀ g',kont rnT fs Q .normal ⟨runE g' [(10,.bool true)],runH (stepS x).2 g',g'⟩) :
  run rnT c14_6 fs ⟨runE g [],runH x g,g⟩ Q:=by
 have hG:=stepG_of hx
 have hso:=step_ok hx
 have hk:=hso.2.2.2 ht
 have hy:=hso.1
 have hlf:=step_lf x
 have hpp:=step_pf x
 rw[ht] at hG
 generalize stepS x=ty at *
 obtain⟨t,y⟩:=ty
 simp only at ht hlf hpp hy hG hQ
 subst ht
 obtain⟨m,q,lf,L,G,pf,kind,w,tw,sp⟩:=x
 obtain⟨m',q',lf',L',G',pf',kind',w',tw',sp'⟩:=y
 have hn:=hx.n
 have hk1':=hy.p
 have hk0:=hk.1
 simp only at hlf hpp hn hk1' hk0
 subst hlf hk0
 have hlt:lf'=true:=by
  cases lf'
  ·exact absurd (hn rfl).1 (by decide)
  ·rfl
 subst hlt
 have hX:(encL L++G).all AV.plain=true:=by rw[List.all_append,encL_plain];exact hx.g
 have hX':(encL L'++G').all AV.plain=true:=by rw[List.all_append,encL_plain];exact hy.g
 have hp:(encL pf).all AV.plain=true:=encL_plain pf
 have hp':(encL pf').all AV.plain=true:=encL_plain pf'
 simp only[SS.hp,SS.cellsV,SS.lv,SS.pv,SS.lh,SS.ph,if_true] at hG
 have hQ1:=hQ (bump 20002 g)
 have hQ2:=hQ (bump 20003 (bump 20002 g))
 simp only[runE,runH,SS.hp,SS.cellsV,SS.lv,SS.pv,SS.lh,SS.ph,if_true] at hQ1 hQ2
 have h01:¬ (0:Int)=1:=by decide
 by_cases hpf:pf=[]
 ·subst hpf
  by_cases hpf':pf'=[]
  ·subst hpf'
   have h1:¬ kind'=1:=fun e=>hk1' e rfl
   simp[h01,h1,bump] at hG hQ1
   simp -implicitDefEqProofs [runE,runH,SS.hp,SS.cellsV,SS.lv,SS.pv,SS.lh,SS.ph,hG,mapM1_nrm hX,mapM1_up hX']
   exact hQ1
  ·by_cases h1:kind'=1
   ·simp[h01,h1,hpf',bump] at hG hQ2
    simp -implicitDefEqProofs [runE,runH,SS.hp,SS.cellsV,SS.lv,SS.pv,SS.lh,SS.ph,hG,mapM1_nrm hX,mapM1_up hX',mapM1_up hp']
    exact hQ2
   ·simp[h01,h1,hpf',bump] at hG hQ2
    simp -implicitDefEqProofs [runE,runH,SS.hp,SS.cellsV,SS.lv,SS.pv,SS.lh,SS.ph,hG,mapM1_nrm hX,mapM1_up hX',mapM1_up hp']
    exact hQ2
 ·by_cases hpf':pf'=[]
  ·exact absurd hpf' (hpp hpf)
  ·by_cases h1:kind'=1
   ·simp[h01,h1,hpf,hpf',bump] at hG hQ2
    simp -implicitDefEqProofs [runE,runH,SS.hp,SS.cellsV,SS.lv,SS.pv,SS.lh,SS.ph,hG,hpf,mapM1_nrm hX,mapM1_nrm hp,mapM1_up hX',mapM1_up hp']
    exact hQ2
   ·simp[h01,h1,hpf,hpf',bump] at hG hQ2
    simp -implicitDefEqProofs [runE,runH,SS.hp,SS.cellsV,SS.lv,SS.pv,SS.lh,SS.ph,hG,hpf,mapM1_nrm hX,mapM1_nrm hp,mapM1_up hX',mapM1_up hp']
    exact hQ2
theorem run_off (x:SS) (hx:x.Ok) (ht:(stepS x).1=false) (g:Nat→Nat) (fs:List Fr) (Q:Post) (hQ:∀ g',kont rnT fs Q (.exit 0) ⟨runE g' [(10,.bool false)],runH x g',g'⟩) :
  run rnT c14_6 fs ⟨runE g [],runH x g,g⟩ Q:=by
 have hG:=stepG_of hx
 have hso:=(step_ok hx).2.2.1 ht
 rw[ht,hso.1] at hG
 clear hso ht
 obtain⟨m,q,lf,L,G,pf,kind,w,tw,sp⟩:=x
 have hn:=hx.n
 have hk1:=hx.p
 simp only at hn hk1
 have hX:(encL L++G).all AV.plain=true:=by rw[List.all_append,encL_plain];exact hx.g
 have hp:(encL pf).all AV.plain=true:=encL_plain pf
 simp only[SS.hp,SS.cellsV,SS.lv,SS.pv,SS.lh,SS.ph] at hG
 have hQ1:=hQ (bump 20002 g)
 have hQ2:=hQ (bump 20003 (bump 20002 g))
 have hQ0:=hQ g
 simp only[runE,runH,SS.hp,SS.cellsV,SS.lv,SS.pv,SS.lh,SS.ph] at hQ0 hQ1 hQ2
 cases lf
 ·obtain⟨rfl,rfl,rfl,rfl⟩:=hn rfl
  simp[bump] at hG hQ0
  simp -implicitDefEqProofs [runE,runH,SS.hp,SS.cellsV,SS.lv,SS.pv,SS.lh,SS.ph,hG]
  exact hQ0
 ·by_cases hpf:pf=[]
  ·subst hpf
   have h1:¬ kind=1:=fun e=>hk1 e rfl
   simp[h1,bump] at hG hQ1
   simp -implicitDefEqProofs [runE,runH,SS.hp,SS.cellsV,SS.lv,SS.pv,SS.lh,SS.ph,h1,hG,mapM1_nrm hX,mapM1_up hX]
   exact hQ1
  ·by_cases h1:kind=1
   ·subst h1
    simp[hpf,bump] at hG hQ2
    simp -implicitDefEqProofs [runE,runH,SS.hp,SS.cellsV,SS.lv,SS.pv,SS.lh,SS.ph,hG,hpf,mapM1_nrm hX,mapM1_nrm hp,mapM1_up hX,mapM1_up hp]
    exact hQ2
   ·simp[h1,hpf,bump] at hG hQ2
    simp -implicitDefEqProofs [runE,runH,SS.hp,SS.cellsV,SS.lv,SS.pv,SS.lh,SS.ph,h1,hG,hpf,mapM1_nrm hX,mapM1_nrm hp,mapM1_up hX,mapM1_up hp]
    exact hQ2
def SS.srch (x:SS):Srch:=⟨x.m,x.q,x.L,x.pf,⟨x.kind,if x.kind=1 then x.pf else [],x.w,x.tw,0⟩,x.sp⟩
theorem run_end (x:SS) (hx:x.Ok) (g:Nat→Nat):run rnT c14_11 [] ⟨runE g [(10,.bool false)],runH x g,g⟩ (fin [.cell 4 8 true] (Arg.enc (verS x))):=by
 have hV:VerC ⟨x.srch⟩=some (verS x):=by
  unfold VerC
  rw[part_of]
  ·rfl
  ·have h1:=hx.pl
   have h2:=hx.s1
   unfold SS.srch
   simp only
   split
   ·omega
   ·simp
 have hD:=dec_ref_Srch x.srch
 have hk1:=hx.p
 have hn:=hx.n
 obtain⟨m,q,lf,L,G,pf,kind,w,tw,sp⟩:=x
 simp only at hn hk1
 have hX:(encL L++G).all AV.plain=true:=by rw[List.all_append,encL_plain];exact hx.g
 have hp:(encL pf).all AV.plain=true:=encL_plain pf
 have htk:=take_boxG L G
 have hlen:=len_boxG L G
 have hLp:(encL L).all AV.plain=true:=encL_plain L
 have htkp:=take_stepsE pf
 have hlnp:=len_steps pf
 simp only[SS.srch,Srch.cells,row_Model,row_Query,row_Verdict,List.cons_append,List.nil_append] at hV hD
 have hlen2:L.length*10≤(encL L).length+G.length:=by simpa using hlen
 cases lf
 ·obtain⟨rfl,rfl,rfl,rfl⟩:=hn rfl
  simp[verS,encL_nil] at hV hD
  simp -implicitDefEqProofs [runE,runH,SS.hp,SS.cellsV,SS.lv,SS.pv,SS.lh,SS.ph,hV,hD,verS]
 ·by_cases hpf:pf=[]
  ·subst hpf
   have h1:¬ kind=1:=fun e=>hk1 e rfl
   simp[h1,verS,encL_nil] at hV hD
   simp -implicitDefEqProofs [runE,runH,SS.hp,SS.cellsV,SS.lv,SS.pv,SS.lh,SS.ph,hV,hD,h1,htk,hlen2,hLp,verS]
  ·by_cases h1:kind=1
   ·subst h1
    simp[verS,encL_nil] at hV hD
    simp -implicitDefEqProofs [runE,runH,SS.hp,SS.cellsV,SS.lv,SS.pv,SS.lh,SS.ph,hV,hD,hpf,htk,hlen2,hLp,htkp,hlnp,hp,verS]
   ·simp[h1,verS,encL_nil] at hV hD
    simp -implicitDefEqProofs [runE,runH,SS.hp,SS.cellsV,SS.lv,SS.pv,SS.lh,SS.ph,hV,hD,h1,hpf,htk,hlen2,hLp,htkp,hlnp,hp,verS]
theorem keep_runH (x:SS) (g:Nat→Nat):keepH (runH x g) [4,20001,20002,20003]=runH x g:=by
 unfold runH SS.hp SS.lh SS.ph
 cases x.lf<;>by_cases hp:x.pf=[]<;>simp[hp,keepH,hlook]
noncomputable def RunC (m:Model) (q:Query):Option Verdict:=Part (RM m) (searchM m q)
theorem runs_Run (m:Model) (q:Query) (r:Verdict) (h:RunC m q=some r):Runs rnT a14 [Arg.enc m,Arg.enc q] (Arg.enc r):=by
 obtain⟨hm,rfl⟩:=part_some h
 clear h
 refine⟨rfl,fun g=>run_def ?_⟩
 have hN:=newG_of hm q
 obtain⟨hok,hres⟩:=new_ok hm q
 rw[← hres]
 have hkE:∀(g:Nat→Nat) (t:List (Nat×AV)),keepT (runE g t) [4,5]=runE g []:=fun g t=>by simp[runE,keepT,Go.Am.look]
 have hstep:∀(R:Verdict) (n:Nat) (s:St),(∃(x:SS) (g:Nat→Nat),x.Ok∧resS x=R∧fuelS x≤n∧s=⟨runE g [],runH x g,g⟩)→run rnT c14_6 [] s fun e s'=>match e with
   | .normal=>∃ m',m'<n∧∃(x:SS) (g:Nat→Nat),x.Ok∧resS x=R∧fuelS x≤m'∧(⟨keepT s'.t [4,5],keepH s'.h [4,20001,20002,20003],s'.g⟩:St)=⟨runE g [],runH x g,g⟩
   | e=>kont rnT [.blk 0,.c c14_11] (fin [.cell 4 8 true] (Arg.enc R)) e s':=by
  rintro R n s ⟨x,g,hx,hxr,hf,rfl⟩
  have hso:=step_ok hx
  cases ht:(stepS x).1
  ·refine run_off x hx ht g _ _ fun g'=>?_
   have hv:=(hso.2.2.1 ht).2
   rw[hxr] at hv
   rw[kont_nil]
   show kont rnT [.blk 0,.c c14_11] _ (.exit 0) _
   rw[kont_blk_exit,if_pos rfl,kont_c,hv]
   exact run_end x hx g'
  ·refine run_on x hx ht g _ _ fun g'=>?_
   obtain⟨_,h1,h2,h3⟩:=hso.2.2.2 ht
   rw[kont_nil]
   refine⟨fuelS (stepS x).2, ?_,(stepS x).2,g',hso.1,by rw[hso.2.1,hxr],Nat.le_refl _, ?_⟩
   ·unfold fuelS at *
    rw[h2,h3]
    omega
   ·simp only[hkE,keep_runH]
 obtain⟨hN1,hN2⟩:(newS m q).lf=okQuery m q∧(newS m q).pf=[]:=by unfold newS;split<;>simp[*]
 have hk0:(newS m q).kind≠1:=by unfold newS;split<;>simp
 generalize hx0:newS m q=x0 at *
 obtain⟨m0,q0,lf,L,G,pf,kind,w,tw,sp⟩:=x0
 simp only at hN1 hN2 hk0
 subst hN2
 have hX:(encL L++G).all AV.plain=true:=by rw[List.all_append,encL_plain];exact hok.g
 have h99:([]:List Step)=[]:=rfl
 simp only[SS.hp,SS.cellsV,SS.lv,SS.pv,SS.lh,SS.ph,if_true,enc_Model,enc_Query] at hN
 unfold a14
 cases lf
 ·simp[hk0] at hN
  simp -implicitDefEqProofs [hN,hk0]
  refine run_while (c:=c14_6) (fun n s=>∃(x:SS) (g:Nat→Nat),x.Ok∧resS x=resS ⟨m0,q0,false,L,G,[],kind,w,tw,sp⟩∧fuelS x≤n∧s=⟨runE g [],runH x g,g⟩) (fuelS ⟨m0,q0,false,L,G,[],kind,w,tw,sp⟩) ⟨⟨m0,q0,false,L,G,[],kind,w,tw,sp⟩,bump 20001 (bump 4 (bump 3 (bump 2 g))),hok,rfl,Nat.le_refl _, ?_⟩ (hstep _)
  simp[runE,runH,SS.hp,SS.cellsV,SS.lv,SS.pv,SS.lh,SS.ph,hk0]
 ·simp[hk0] at hN
  simp -implicitDefEqProofs [hN,hk0,mapM1_up hX]
  refine run_while (c:=c14_6) (fun n s=>∃(x:SS) (g:Nat→Nat),x.Ok∧resS x=resS ⟨m0,q0,true,L,G,[],kind,w,tw,sp⟩∧fuelS x≤n∧s=⟨runE g [],runH x g,g⟩) (fuelS ⟨m0,q0,true,L,G,[],kind,w,tw,sp⟩) ⟨⟨m0,q0,true,L,G,[],kind,w,tw,sp⟩,bump 20002 (bump 20001 (bump 4 (bump 3 (bump 2 g)))),hok,rfl,Nat.le_refl _, ?_⟩ (hstep _)
  simp[runE,runH,SS.hp,SS.cellsV,SS.lv,SS.pv,SS.lh,SS.ph,hk0]
theorem c_Run:Contract Tryz.prog 14 (sp2 RunC) :=
 contract_of_runs mixed (tbl_cons c_New (tbl_cons c_Step (tbl_cons c_Verdict tbl_nil))) Tryz.func14 m14 (sp2_runs runs_Run)
end Go.Co
/- CO: what the library does with strings, by the kit's contracts. -/
set_option maxRecDepth 1000000
namespace Go.Proofs
open Go.Shelf
def Tryz.layS_ren:Go.Shelf.Ren:=⟨fun|99=>142|105=>104|138=>159|143=>160|156=>99|165=>135|166=>57|169=>61|170=>143|195=>194|206=>180|212=>141|217=>219|218=>196|219=>197|224=>221|225=>220|240=>94|241=>174|244=>162|247=>198|263=>178|264=>179|266=>231|267=>222|276=>126|277=>209|287=>223|314=>232|321=>233|322=>234|n=>n,fun|0=>0|2=>2|3=>3|4=>4|5=>5|9=>9|20=>20|21=>21|31=>112|37=>109|46=>141|51=>242|53=>87|70=>108|72=>111|75=>115|76=>116|80=>121|85=>261|109=>207|127=>168|146=>243|148=>245|164=>191|167=>260|175=>266|n=>n,fun n=>n⟩
theorem Tryz.layS169:Go.Proofs.Lays.n169 Tryz.prog Tryz.layS_ren:={
 mixed:=by kernel_rfl
 f169:=Tryz.func61.trans (congrArg some (by kernel_rfl))
 t0:=Tryz.underlying0
 a0:=Tryz.isAgg0
 z0:=Tryz.sizeOf0
 v0:=Tryz.zeroValue0
 t3:=Tryz.underlying3
 a3:=Tryz.isAgg3
 z3:=Tryz.sizeOf3
 v3:=Tryz.zeroValue3
 t9:=Tryz.underlying9
 a9:=Tryz.isAgg9
 z9:=Tryz.sizeOf9
 v9:=Tryz.zeroValue9
 t37:=Tryz.underlying109
 a37:=Tryz.isAgg109
 z37:=Tryz.sizeOf109
 v37:=Tryz.zeroValue109
 t70:=Tryz.underlying108
 a70:=Tryz.isAgg108
 z70:=Tryz.sizeOf108
 v70:=Tryz.zeroValue108
 t72:=Tryz.underlying111
 a72:=Tryz.isAgg111
 z72:=Tryz.sizeOf111
 v72:=Tryz.zeroValue111
 t127:=Tryz.underlying168
 a127:=Tryz.isAgg168
 z127:=Tryz.sizeOf168
 v127:=Tryz.zeroValue168 }
theorem Tryz.layS156:Go.Proofs.Lays.n156 Tryz.prog Tryz.layS_ren:={
 mixed:=by kernel_rfl
 f156:=Tryz.func99.trans (congrArg some (by kernel_rfl))
 f165:=Tryz.func135.trans (congrArg some (by kernel_rfl))
 f166:=Tryz.func57.trans (congrArg some (by kernel_rfl))
 f169:=Tryz.func61.trans (congrArg some (by kernel_rfl))
 f240:=Tryz.func94.trans (congrArg some (by kernel_rfl))
 f241:=Tryz.func174.trans (congrArg some (by kernel_rfl))
 f276:=Tryz.func126.trans (congrArg some (by kernel_rfl))
 f277:=Tryz.func209.trans (congrArg some (by kernel_rfl))
 t0:=Tryz.underlying0
 a0:=Tryz.isAgg0
 z0:=Tryz.sizeOf0
 v0:=Tryz.zeroValue0
 t3:=Tryz.underlying3
 a3:=Tryz.isAgg3
 z3:=Tryz.sizeOf3
 v3:=Tryz.zeroValue3
 t4:=Tryz.underlying4
 a4:=Tryz.isAgg4
 z4:=Tryz.sizeOf4
 v4:=Tryz.zeroValue4
 t9:=Tryz.underlying9
 a9:=Tryz.isAgg9
 z9:=Tryz.sizeOf9
 v9:=Tryz.zeroValue9
 t20:=Tryz.underlying20
 a20:=Tryz.isAgg20
 z20:=Tryz.sizeOf20
 v20:=Tryz.zeroValue20
 t31:=Tryz.underlying112
 a31:=Tryz.isAgg112
 z31:=Tryz.sizeOf112
 v31:=Tryz.zeroValue112
 t37:=Tryz.underlying109
 a37:=Tryz.isAgg109
 z37:=Tryz.sizeOf109
 v37:=Tryz.zeroValue109
 t70:=Tryz.underlying108
 a70:=Tryz.isAgg108
 z70:=Tryz.sizeOf108
 v70:=Tryz.zeroValue108
 t72:=Tryz.underlying111
 a72:=Tryz.isAgg111
 z72:=Tryz.sizeOf111
 v72:=Tryz.zeroValue111
 t75:=Tryz.underlying115
 a75:=Tryz.isAgg115
 z75:=Tryz.sizeOf115
 v75:=Tryz.zeroValue115
 t76:=Tryz.underlying116
 a76:=Tryz.isAgg116
 z76:=Tryz.sizeOf116
 v76:=Tryz.zeroValue116
 t127:=Tryz.underlying168
 a127:=Tryz.isAgg168
 z127:=Tryz.sizeOf168
 v127:=Tryz.zeroValue168
 t164:=Tryz.underlying191
 a164:=Tryz.isAgg191
 z164:=Tryz.sizeOf191
 v164:=Tryz.zeroValue191 }
theorem Tryz.layS105:Go.Proofs.Lays.n105 Tryz.prog Tryz.layS_ren:={
 mixed:=by kernel_rfl
 f99:=Tryz.func142.trans (congrArg some (by kernel_rfl))
 f105:=Tryz.func104.trans (congrArg some (by kernel_rfl))
 f165:=Tryz.func135.trans (congrArg some (by kernel_rfl))
 f166:=Tryz.func57.trans (congrArg some (by kernel_rfl))
 f169:=Tryz.func61.trans (congrArg some (by kernel_rfl))
 f170:=Tryz.func143.trans (congrArg some (by kernel_rfl))
 f206:=Tryz.func180.trans (congrArg some (by kernel_rfl))
 f212:=Tryz.func141.trans (congrArg some (by kernel_rfl))
 f240:=Tryz.func94.trans (congrArg some (by kernel_rfl))
 f241:=Tryz.func174.trans (congrArg some (by kernel_rfl))
 f263:=Tryz.func178.trans (congrArg some (by kernel_rfl))
 f264:=Tryz.func179.trans (congrArg some (by kernel_rfl))
 f276:=Tryz.func126.trans (congrArg some (by kernel_rfl))
 f277:=Tryz.func209.trans (congrArg some (by kernel_rfl))
 t0:=Tryz.underlying0
 a0:=Tryz.isAgg0
 z0:=Tryz.sizeOf0
 v0:=Tryz.zeroValue0
 t3:=Tryz.underlying3
 a3:=Tryz.isAgg3
 z3:=Tryz.sizeOf3
 v3:=Tryz.zeroValue3
 t4:=Tryz.underlying4
 a4:=Tryz.isAgg4
 z4:=Tryz.sizeOf4
 v4:=Tryz.zeroValue4
 t5:=Tryz.underlying5
 a5:=Tryz.isAgg5
 z5:=Tryz.sizeOf5
 v5:=Tryz.zeroValue5
 t9:=Tryz.underlying9
 a9:=Tryz.isAgg9
 z9:=Tryz.sizeOf9
 v9:=Tryz.zeroValue9
 t20:=Tryz.underlying20
 a20:=Tryz.isAgg20
 z20:=Tryz.sizeOf20
 v20:=Tryz.zeroValue20
 t37:=Tryz.underlying109
 a37:=Tryz.isAgg109
 z37:=Tryz.sizeOf109
 v37:=Tryz.zeroValue109
 t46:=Tryz.underlying141
 a46:=Tryz.isAgg141
 z46:=Tryz.sizeOf141
 v46:=Tryz.zeroValue141
 t51:=Tryz.underlying242
 a51:=Tryz.isAgg242
 z51:=Tryz.sizeOf242
 v51:=Tryz.zeroValue242
 t53:=Tryz.underlying87
 a53:=Tryz.isAgg87
 z53:=Tryz.sizeOf87
 v53:=Tryz.zeroValue87
 t70:=Tryz.underlying108
 a70:=Tryz.isAgg108
 z70:=Tryz.sizeOf108
 v70:=Tryz.zeroValue108
 t72:=Tryz.underlying111
 a72:=Tryz.isAgg111
 z72:=Tryz.sizeOf111
 v72:=Tryz.zeroValue111
 t75:=Tryz.underlying115
 a75:=Tryz.isAgg115
 z75:=Tryz.sizeOf115
 v75:=Tryz.zeroValue115
 t76:=Tryz.underlying116
 a76:=Tryz.isAgg116
 z76:=Tryz.sizeOf116
 v76:=Tryz.zeroValue116
 t109:=Tryz.underlying207
 a109:=Tryz.isAgg207
 z109:=Tryz.sizeOf207
 v109:=Tryz.zeroValue207
 t127:=Tryz.underlying168
 a127:=Tryz.isAgg168
 z127:=Tryz.sizeOf168
 v127:=Tryz.zeroValue168
 t146:=Tryz.underlying243
 a146:=Tryz.isAgg243
 z146:=Tryz.sizeOf243
 v146:=Tryz.zeroValue243
 t148:=Tryz.underlying245
 a148:=Tryz.isAgg245
 z148:=Tryz.sizeOf245
 v148:=Tryz.zeroValue245
 t164:=Tryz.underlying191
 a164:=Tryz.isAgg191
 z164:=Tryz.sizeOf191
 v164:=Tryz.zeroValue191 }
theorem Tryz.layS138:Go.Proofs.Lays.n138 Tryz.prog Tryz.layS_ren:={
 mixed:=by kernel_rfl
 f138:=Tryz.func159.trans (congrArg some (by kernel_rfl))
 f143:=Tryz.func160.trans (congrArg some (by kernel_rfl))
 f195:=Tryz.func194.trans (congrArg some (by kernel_rfl))
 f217:=Tryz.func219.trans (congrArg some (by kernel_rfl))
 f218:=Tryz.func196.trans (congrArg some (by kernel_rfl))
 f219:=Tryz.func197.trans (congrArg some (by kernel_rfl))
 f224:=Tryz.func221.trans (congrArg some (by kernel_rfl))
 f225:=Tryz.func220.trans (congrArg some (by kernel_rfl))
 f266:=Tryz.func231.trans (congrArg some (by kernel_rfl))
 f267:=Tryz.func222.trans (congrArg some (by kernel_rfl))
 f314:=Tryz.func232.trans (congrArg some (by kernel_rfl))
 t0:=Tryz.underlying0
 a0:=Tryz.isAgg0
 z0:=Tryz.sizeOf0
 v0:=Tryz.zeroValue0
 t3:=Tryz.underlying3
 a3:=Tryz.isAgg3
 z3:=Tryz.sizeOf3
 v3:=Tryz.zeroValue3
 t4:=Tryz.underlying4
 a4:=Tryz.isAgg4
 z4:=Tryz.sizeOf4
 v4:=Tryz.zeroValue4
 t5:=Tryz.underlying5
 a5:=Tryz.isAgg5
 z5:=Tryz.sizeOf5
 v5:=Tryz.zeroValue5
 t9:=Tryz.underlying9
 a9:=Tryz.isAgg9
 z9:=Tryz.sizeOf9
 v9:=Tryz.zeroValue9
 t46:=Tryz.underlying141
 a46:=Tryz.isAgg141
 z46:=Tryz.sizeOf141
 v46:=Tryz.zeroValue141
 t51:=Tryz.underlying242
 a51:=Tryz.isAgg242
 z51:=Tryz.sizeOf242
 v51:=Tryz.zeroValue242
 t146:=Tryz.underlying243
 a146:=Tryz.isAgg243
 z146:=Tryz.sizeOf243
 v146:=Tryz.zeroValue243
 g1:=by kernel_rfl }
theorem Tryz.layS219:Go.Proofs.Lays.n219 Tryz.prog Tryz.layS_ren:={
 mixed:=by kernel_rfl
 f217:=Tryz.func219.trans (congrArg some (by kernel_rfl))
 f219:=Tryz.func197.trans (congrArg some (by kernel_rfl))
 f224:=Tryz.func221.trans (congrArg some (by kernel_rfl))
 f225:=Tryz.func220.trans (congrArg some (by kernel_rfl))
 f266:=Tryz.func231.trans (congrArg some (by kernel_rfl))
 f267:=Tryz.func222.trans (congrArg some (by kernel_rfl))
 f314:=Tryz.func232.trans (congrArg some (by kernel_rfl))
 t3:=Tryz.underlying3
 a3:=Tryz.isAgg3
 z3:=Tryz.sizeOf3
 v3:=Tryz.zeroValue3
 t4:=Tryz.underlying4
 a4:=Tryz.isAgg4
 z4:=Tryz.sizeOf4
 v4:=Tryz.zeroValue4
 t5:=Tryz.underlying5
 a5:=Tryz.isAgg5
 z5:=Tryz.sizeOf5
 v5:=Tryz.zeroValue5
 t9:=Tryz.underlying9
 a9:=Tryz.isAgg9
 z9:=Tryz.sizeOf9
 v9:=Tryz.zeroValue9
 t46:=Tryz.underlying141
 a46:=Tryz.isAgg141
 z46:=Tryz.sizeOf141
 v46:=Tryz.zeroValue141
 t51:=Tryz.underlying242
 a51:=Tryz.isAgg242
 z51:=Tryz.sizeOf242
 v51:=Tryz.zeroValue242
 t146:=Tryz.underlying243
 a146:=Tryz.isAgg243
 z146:=Tryz.sizeOf243
 v146:=Tryz.zeroValue243
 g1:=by kernel_rfl }
theorem Tryz.layS244:Go.Proofs.Lays.n244 Tryz.prog Tryz.layS_ren:={
 mixed:=by kernel_rfl
 f244:=Tryz.func162.trans (congrArg some (by kernel_rfl))
 f247:=Tryz.func198.trans (congrArg some (by kernel_rfl))
 f287:=Tryz.func223.trans (congrArg some (by kernel_rfl))
 f321:=Tryz.func233.trans (congrArg some (by kernel_rfl))
 f322:=Tryz.func234.trans (congrArg some (by kernel_rfl))
 t0:=Tryz.underlying0
 a0:=Tryz.isAgg0
 z0:=Tryz.sizeOf0
 v0:=Tryz.zeroValue0
 t2:=Tryz.underlying2
 a2:=Tryz.isAgg2
 z2:=Tryz.sizeOf2
 v2:=Tryz.zeroValue2
 t3:=Tryz.underlying3
 a3:=Tryz.isAgg3
 z3:=Tryz.sizeOf3
 v3:=Tryz.zeroValue3
 t4:=Tryz.underlying4
 a4:=Tryz.isAgg4
 z4:=Tryz.sizeOf4
 v4:=Tryz.zeroValue4
 t5:=Tryz.underlying5
 a5:=Tryz.isAgg5
 z5:=Tryz.sizeOf5
 v5:=Tryz.zeroValue5
 t9:=Tryz.underlying9
 a9:=Tryz.isAgg9
 z9:=Tryz.sizeOf9
 v9:=Tryz.zeroValue9
 t21:=Tryz.underlying21
 a21:=Tryz.isAgg21
 z21:=Tryz.sizeOf21
 v21:=Tryz.zeroValue21
 t37:=Tryz.underlying109
 a37:=Tryz.isAgg109
 z37:=Tryz.sizeOf109
 v37:=Tryz.zeroValue109
 t46:=Tryz.underlying141
 a46:=Tryz.isAgg141
 z46:=Tryz.sizeOf141
 v46:=Tryz.zeroValue141
 t53:=Tryz.underlying87
 a53:=Tryz.isAgg87
 z53:=Tryz.sizeOf87
 v53:=Tryz.zeroValue87
 t75:=Tryz.underlying115
 a75:=Tryz.isAgg115
 z75:=Tryz.sizeOf115
 v75:=Tryz.zeroValue115
 t85:=Tryz.underlying261
 a85:=Tryz.isAgg261
 z85:=Tryz.sizeOf261
 v85:=Tryz.zeroValue261
 t167:=Tryz.underlying260
 a167:=Tryz.isAgg260
 z167:=Tryz.sizeOf260
 v167:=Tryz.zeroValue260
 t175:=Tryz.underlying266
 a175:=Tryz.isAgg266
 z175:=Tryz.sizeOf266
 v175:=Tryz.zeroValue266 }
theorem Tryz.layS287:Go.Proofs.Lays.n287 Tryz.prog Tryz.layS_ren:={
 mixed:=by kernel_rfl
 f287:=Tryz.func223.trans (congrArg some (by kernel_rfl))
 f321:=Tryz.func233.trans (congrArg some (by kernel_rfl))
 f322:=Tryz.func234.trans (congrArg some (by kernel_rfl))
 t0:=Tryz.underlying0
 a0:=Tryz.isAgg0
 z0:=Tryz.sizeOf0
 v0:=Tryz.zeroValue0
 t3:=Tryz.underlying3
 a3:=Tryz.isAgg3
 z3:=Tryz.sizeOf3
 v3:=Tryz.zeroValue3
 t4:=Tryz.underlying4
 a4:=Tryz.isAgg4
 z4:=Tryz.sizeOf4
 v4:=Tryz.zeroValue4
 t5:=Tryz.underlying5
 a5:=Tryz.isAgg5
 z5:=Tryz.sizeOf5
 v5:=Tryz.zeroValue5
 t9:=Tryz.underlying9
 a9:=Tryz.isAgg9
 z9:=Tryz.sizeOf9
 v9:=Tryz.zeroValue9
 t21:=Tryz.underlying21
 a21:=Tryz.isAgg21
 z21:=Tryz.sizeOf21
 v21:=Tryz.zeroValue21
 t37:=Tryz.underlying109
 a37:=Tryz.isAgg109
 z37:=Tryz.sizeOf109
 v37:=Tryz.zeroValue109
 t46:=Tryz.underlying141
 a46:=Tryz.isAgg141
 z46:=Tryz.sizeOf141
 v46:=Tryz.zeroValue141
 t53:=Tryz.underlying87
 a53:=Tryz.isAgg87
 z53:=Tryz.sizeOf87
 v53:=Tryz.zeroValue87
 t75:=Tryz.underlying115
 a75:=Tryz.isAgg115
 z75:=Tryz.sizeOf115
 v75:=Tryz.zeroValue115
 t167:=Tryz.underlying260
 a167:=Tryz.isAgg260
 z167:=Tryz.sizeOf260
 v167:=Tryz.zeroValue260 }
theorem Tryz.layS240:Go.Proofs.Lays.n240 Tryz.prog Tryz.layS_ren:={
 mixed:=by kernel_rfl
 f240:=Tryz.func94.trans (congrArg some (by kernel_rfl))
 f276:=Tryz.func126.trans (congrArg some (by kernel_rfl))
 t0:=Tryz.underlying0
 a0:=Tryz.isAgg0
 z0:=Tryz.sizeOf0
 v0:=Tryz.zeroValue0
 t4:=Tryz.underlying4
 a4:=Tryz.isAgg4
 z4:=Tryz.sizeOf4
 v4:=Tryz.zeroValue4
 t9:=Tryz.underlying9
 a9:=Tryz.isAgg9
 z9:=Tryz.sizeOf9
 v9:=Tryz.zeroValue9
 t20:=Tryz.underlying20
 a20:=Tryz.isAgg20
 z20:=Tryz.sizeOf20
 v20:=Tryz.zeroValue20
 t70:=Tryz.underlying108
 a70:=Tryz.isAgg108
 z70:=Tryz.sizeOf108
 v70:=Tryz.zeroValue108
 t72:=Tryz.underlying111
 a72:=Tryz.isAgg111
 z72:=Tryz.sizeOf111
 v72:=Tryz.zeroValue111
 t164:=Tryz.underlying191
 a164:=Tryz.isAgg191
 z164:=Tryz.sizeOf191
 v164:=Tryz.zeroValue191 }
theorem Tryz.layX:Builder.Extra Tryz.prog Tryz.layS_ren where
 sizeBuilder:=by kernel_rfl
 liesBuilder:=by kernel_rfl
 t5:=Tryz.underlying5
 a5:=Tryz.isAgg5
 z5:=Tryz.sizeOf5
 v5:=Tryz.zeroValue5
 infoByte:=by kernel_rfl
 cellsByte:=by kernel_rfl
 sizeByte:=by kernel_rfl
 neB5:=by decide
end Go.Proofs
namespace Go.Co
open Go.Am Go.Proofs Go.RowKit
theorem lib_done {I:Nat→Prop} {w w':World} {r:AV} {v:Value} (hI:∀ b,I b→b<w.heap.size) (hb:Below w.heap.size w w') (hv:VR I w' none r v):Done I w r (.returned v) w' :=
 ⟨v,rfl,hb,I,fun _ h=>h,fun _ h=>.inl h,fun b h=>Nat.lt_of_lt_of_le (hI b h) hb.size,hv⟩
theorem str_eq {t:ByteArray} {l:List UInt8} (h:t.data.toList=l):t=⟨l.toArray⟩:=by
 subst h
 rfl
theorem str_VR {I:Nat→Prop} {w:World} {M:Option Am.Mode} {l:List UInt8} (h:l.length≤281474976710656):VR I w M (.str l) (.string ⟨l.toArray⟩):=by
 simp only[VR]
 refine⟨_,rfl,by simp, ?_⟩
 show l.toArray.size≤maxLen
 unfold maxLen
 simp
 omega
theorem VRs_two {I:Nat→Prop} {w:World} {M:Option Am.Mode} {x y:AV} {vs:List Value} (h:VRs I w M [x,y] vs):∃ v u,vs=[v,u]∧VR I w M x v∧VR I w M y u:=by
 match vs,h with
 | [v,u],h=>simp only[VRs] at h;exact⟨v,u,rfl,h.1,h.2.1⟩
 | [],h=>simp[VRs] at h
 | [_],h=>simp[VRs] at h
 | _::_::_::_,h=>simp[VRs] at h
theorem VRs_one {I:Nat→Prop} {w:World} {M:Option Am.Mode} {x:AV} {vs:List Value} (h:VRs I w M [x] vs):∃ v,vs=[v]∧VR I w M x v:=by
 match vs,h with
 | [v],h=>simp only[VRs] at h;exact⟨v,rfl,h.1⟩
 | [],h=>simp[VRs] at h
 | _::_::_,h=>simp[VRs] at h
theorem VRs_three {I:Nat→Prop} {w:World} {M:Option Am.Mode} {x y z:AV} {vs:List Value} (h:VRs I w M [x,y,z] vs):∃ v u q,vs=[v,u,q]∧VR I w M x v∧VR I w M y u∧VR I w M z q:=by
 match vs,h with
 | [v,u,q],h=>simp only[VRs] at h;exact⟨v,u,q,rfl,h.1,h.2.1,h.2.2.1⟩
 | [],h=>simp[VRs] at h
 | [_],h=>simp[VRs] at h
 | [_,_],h=>simp[VRs] at h
 | _::_::_::_::_,h=>simp[VRs] at h
def ixB:List UInt8→UInt8→Nat→Int
 | [],_,_=>-1
 | x::xs,c,i=>if x==c then (i:Int) else ixB xs c (i+1)
theorem ixB_eq:∀(l:List UInt8) (c:UInt8) (i:Nat),ixB l c i=if Lib.indexByte l c=-1 then -1 else Lib.indexByte l c+i
 | [],c,i=>by simp[ixB,Lib.indexByte]
 | x::xs,c,i=>by
  have ih:=ixB_eq xs c (i+1)
  have hg:=Lib.indexByte_ge xs c
  unfold ixB Lib.indexByte
  split
  ·simp
  ·rw[ih]
   by_cases h:Lib.indexByte xs c=-1
   ·simp[h]
   ·have h2:(Lib.indexByte xs c==-1)=false:=by simpa using h
    rw[if_neg h,h2]
    simp only[Bool.false_eq_true,if_false]
    rw[if_neg (by omega)]
    push_cast
    omega
def indexS (args:List AV):Option AV:=match args with
 | [.str s,.str [c]]=>some (.int .i64 (ixB s c 0))
 | _=>none
theorem c_Index1:Contract Tryz.prog 197 indexS:=by
 refine Contract.of_plain (by decide) ?_
 intro I w args vs r hsp hv hI hT
 unfold indexS at hsp
 split at hsp
 ·rename_i s c
  cases hsp
  obtain⟨v,u,rfl,h1,h2⟩:=VRs_two hv
  obtain⟨t1,rfl,e1,_,_⟩:=VR_str h1
  obtain⟨t2,rfl,e2,_,_⟩:=VR_str h2
  have:=str_eq e2
  subst this
  refine⟨fun w=>enters_of Tryz.layS219.f219 (by kernel_rfl) rfl _ w, ?_⟩
  refine Calls.mono (Any.stringslite_Index_one Tryz.layS219 t1 c w) ?_
  rintro e w' ⟨rfl,rfl⟩
  refine lib_done hI (Below.refl _ _) ?_
  rw[e1,ixB_eq]
  simp only[VR]
  split
  ·rename_i h;rw[h]
  ·simp
 ·cases hsp
def countS (args:List AV):Option AV:=match args with
 | [.str s,.str [c]]=>some (.int .i64 (s.count c))
 | _=>none
theorem c_Count1:Contract Tryz.prog 159 countS:=by
 refine Contract.of_plain (by decide) ?_
 intro I w args vs r hsp hv hI hT
 unfold countS at hsp
 split at hsp
 ·rename_i s c
  cases hsp
  obtain⟨v,u,rfl,h1,h2⟩:=VRs_two hv
  obtain⟨t1,rfl,e1,_,_⟩:=VR_str h1
  obtain⟨t2,rfl,e2,_,_⟩:=VR_str h2
  have:=str_eq e2
  subst this
  refine⟨fun w=>enters_of Tryz.layS138.f138 (by kernel_rfl) rfl _ w, ?_⟩
  refine Calls.mono (Any.strings_Count_one Tryz.layS138 t1 c w) ?_
  rintro e w' ⟨rfl,rfl⟩
  refine lib_done hI (Below.refl _ _) ?_
  rw[e1]
  simp only[VR,Lib.countByte]
 ·cases hsp
def repeatS (args:List AV):Option AV:=match args with
 | [.str s,.int .i64 (.ofNat c)]=>if s.length*c≤1048576∧c≤1048576 then some (.str (Lib.repeatL s c)) else none
 | _=>none
theorem c_Repeat:Contract Tryz.prog 104 repeatS:=by
 refine Contract.of_plain (by decide) ?_
 intro I w args vs r hsp hv hI hT
 unfold repeatS at hsp
 split at hsp
 ·rename_i s c
  split at hsp
  ·rename_i hc
   cases hsp
   obtain⟨v,u,rfl,h1,h2⟩:=VRs_two hv
   obtain⟨t1,rfl,e1,e3,_⟩:=VR_str h1
   have:=VR_int h2
   subst this
   refine⟨fun w=>enters_of Tryz.layS105.f105 (by kernel_rfl) rfl _ w, ?_⟩
   refine Calls.mono (Any.strings_Repeat Tryz.layS105 Tryz.layX t1 c w (by omega) (by rw[e3];omega)) ?_
   rintro e w' ⟨rfl,hb⟩
   refine lib_done hI hb ?_
   rw[e1]
   refine str_VR ?_
   rw[Lib.repeatL_length,Nat.mul_comm]
   omega
  ·cases hsp
 ·cases hsp
def atoiS (args:List AV):Option AV:=match args with
 | [.str s]=>if s.length≤18 then (match Lib.atoi s with
  | some n=>some (.tup [.int .i64 n,.nilv true])
  | none=>none) else none
 | _=>none
theorem c_Atoi:Contract Tryz.prog 162 atoiS:=by
 refine Contract.of_plain (by decide) ?_
 intro I w args vs r hsp hv hI hT
 unfold atoiS at hsp
 split at hsp
 ·rename_i s
  split at hsp
  ·rename_i hl
   split at hsp
   ·rename_i n hn
    cases hsp
    obtain⟨v,rfl,h1⟩:=VRs_one hv
    obtain⟨t1,rfl,e1,e3,_⟩:=VR_str h1
    refine⟨fun w=>enters_of Tryz.layS244.f244 (by kernel_rfl) rfl _ w, ?_⟩
    refine Calls.mono (Any.internal_strconv_Atoi Tryz.layS244 t1 n (by omega) (by rw[e1];exact hn) w) ?_
    rintro e w' ⟨rfl,t,rfl⟩
    refine lib_done hI (Lib.bytesWorld_below _ _ _) ?_
    simp only[VR]
    exact⟨[.int .i64 n,.nilIface],rfl,by simp[VRs,VR]⟩
   ·cases hsp
  ·cases hsp
 ·cases hsp
def puS (args:List AV):Option AV:=match args with
 | [.str s,.int .i64 10,.int .i64 64]=>if s.length≠0∧s.length≤1048576 then (match Lib.parseUint10 0 s with
  | .ok n=>some (.tup [.int .u64 n,.nilv true])
  | _=>none) else none
 | _=>none
theorem c_ParseUint:Contract Tryz.prog 223 puS:=by
 refine Contract.of_plain (by decide) ?_
 intro I w args vs r hsp hv hI hT
 unfold puS at hsp
 split at hsp
 ·rename_i s
  split at hsp
  ·rename_i hl
   split at hsp
   ·rename_i n hn
    cases hsp
    obtain⟨v,u,q,rfl,h1,h2,h3⟩:=VRs_three hv
    obtain⟨t1,rfl,e1,e3,_⟩:=VR_str h1
    have:=VR_int h2
    subst this
    have:=VR_int h3
    subst this
    refine⟨fun w=>enters_of Tryz.layS287.f287 (by kernel_rfl) rfl _ w, ?_⟩
    refine Calls.mono (Any.internal_strconv_ParseUint_10_b64 Tryz.layS287 t1 (by omega) (by omega) w) ?_
    rintro e w' ⟨rfl,rfl⟩
    rw[e1,hn]
    refine lib_done hI (Lib.bytesWorld_below _ _ _) ?_
    simp only[VR]
    exact⟨[.int .u64 n,.nilIface],rfl,by simp[VRs,VR]⟩
   ·cases hsp
  ·cases hsp
 ·cases hsp
def strsOf:List AV→Option (List (List UInt8))
 | []=>some []
 | .str a::l=>match strsOf l with
  | some r=>some (a::r)
  | none=>none
 | _=>none
theorem strsOf_VRs {I:Nat→Prop} {w:World} {M:Option Am.Mode}:∀ {xs:List AV} {l:List (List UInt8)} {cs:List Value},strsOf xs=some l→VRs I w M xs cs→∃ bs:List ByteArray,cs=bs.map Value.string∧bs.map (·.data.toList)=l
 | [],l,cs,h,hv=>by
  simp[strsOf] at h
  subst h
  cases cs with
  | nil=>exact⟨[],rfl,rfl⟩
  | cons c cs=>simp[VRs] at hv
 | x::xs,l,cs,h,hv=>by
  cases cs with
  | nil=>simp[VRs] at hv
  | cons c cs =>
   simp only[VRs] at hv
   cases x<;>try (simp[strsOf] at h;done)
   rename_i a
   simp only[strsOf] at h
   split at h
   ·rename_i r hr
    cases h
    obtain⟨t,rfl,e,_,_⟩:=VR_str hv.1
    obtain⟨bs,rfl,e2⟩:=strsOf_VRs hr hv.2
    exact⟨t::bs,rfl,by simp[e,e2]⟩
   ·cases h
def joinS (args:List AV):Option AV:=match args with
 | [.lst n xs,.str sep]=>match strsOf xs with
  | some l=>if n=xs.length∧n≠0∧n≤1048576∧(Lib.join l sep).length≤1048576 then some (.str (Lib.join l sep)) else none
  | none=>none
 | _=>none
theorem c_Join:Contract Tryz.prog 99 joinS:=by
 refine Contract.of_plain (by decide) ?_
 intro I w args vs r hsp hv hI hT
 unfold joinS at hsp
 split at hsp
 ·rename_i n xs sep
  split at hsp
  ·rename_i l hl
   split at hsp
   ·rename_i hc
    cases hsp
    obtain⟨hn,hn0,hn1,hc⟩:=hc
    obtain⟨v,u,rfl,h1,h2⟩:=VRs_two hv
    obtain⟨t2,rfl,e2,_,_⟩:=VR_str h2
    simp only[VR] at h1
    rcases h1 with⟨h0,_⟩|⟨b,off,cap,cs,rfl,h3,h4,hb,hrow,hvs⟩
    ·exact absurd h0 hn0
    ·obtain⟨bs,rfl,ebs⟩:=strsOf_VRs hl hvs
     have hlen:bs.length=n:=by
      have:=hvs.length
      simp at this
      omega
     refine⟨fun w=>enters_of Tryz.layS156.f156 (by kernel_rfl) rfl _ w, ?_⟩
     rw[← hlen] at h3 hn0 hn1 ⊢
     refine Calls.mono (Any.strings_Join Tryz.layS156 Tryz.layX b off cap bs t2 w (fun j x hx=>hrow j (.string x) (by simp[hx])) (hI b hb) (by omega) h3 (by rw[ebs,e2];omega)) ?_
     rintro e w' ⟨rfl,hb⟩
     refine lib_done hI hb ?_
     rw[ebs,e2]
     exact str_VR (by omega)
   ·cases hsp
  ·cases hsp
 ·cases hsp
def cckS (args:List AV):Option AV:=match args with
 | []=>some (.int .i64 (111:Nat))
 | _=>none
theorem c_cck:Contract Tryz.prog (sBase+94) cckS:=by
 refine Contract.of_cck (by decide) fun t ht=>?_
 have e:t=111:=by
  simp only[cckS,Option.some.injEq,AV.int.injEq,true_and] at ht
  omega
 subst e
 intro w r
 refine⟨fun w=>enters_of Tryz.layS240.f240 (by kernel_rfl) rfl _ w,fun c hh=>?_,fun h0=>?_⟩
 ·exact Any.Builder_copyCheck_fresh Tryz.layS240 Tryz.layX.toX72 r w (by simp[World.cell?,hh]) (by simp[World.shape?,hh];rfl) (by simp[World.frozen?,hh])
 ·exact Any.Builder_copyCheck_used Tryz.layS240 Tryz.layX.toX72 r w h0
end Go.Co
/- CO: strings.Builder's String, with what it leaves alone. -/
set_option maxHeartbeats 16000000
set_option maxRecDepth 100000
set_option maxRecDepth 1000000
namespace Go.Proofs
open Go.Shelf Go.RowKit
theorem freeze_frame (w:World) (q n:Nat):(w.freeze ⟨q,0,none⟩ n).os=w.os∧(w.freeze ⟨q,0,none⟩ n).tape=w.tape∧(w.freeze ⟨q,0,none⟩ n).output=w.output∧(w.freeze ⟨q,0,none⟩ n).heap.size=w.heap.size∧∀ j,j≠q→(w.freeze ⟨q,0,none⟩ n).heap[j]? = w.heap[j]? := by
 unfold World.freeze
 split
 ·exact⟨rfl,rfl,rfl,rfl,fun _ _=>rfl⟩
 ·refine⟨rfl,rfl,rfl,by simp,fun j hj=>?_⟩
  simp[Array.getElem?_modify,Ne.symm hj]
section
variable {P:Program} {ρ:Ren}
theorem String_exact (L:Lays.n169 P ρ) (X:Builder.Extra P ρ) (b g n cap:Nat) (p:Value) (cur:Array Value) (l:List UInt8) (w:World) (h0:l≠[]) (hl:l.length=n)
  (hbk:w.heap[b]? = some (.cells #[p,.slice (some ⟨g,0,none⟩) n cap] (ρ.t 72) (0,0))) (hg:w.heap[g]? = some (.cells cur (ρ.t 5) (0,0))) (hnc:n≤cap) (hcm:cap≤maxLen) (hcs:cur.size=cap)
  (htake:cur.toList.take n=l.map fun c=>.int .u8 (c.toNat:Int)) :
  Calls P (ρ.f 169) #[.pointer (some ⟨b,0,none⟩)] w fun e w'=>e=.returned (.string ⟨l.toArray⟩)∧w'=w.drew.freeze ⟨g,0,none⟩ l.length:=by
 subst hl
 have hl0:l.length≠0:=by simpa using h0
 have c1:w.drew.cell? ⟨b,1,none⟩=some (.slice (some ⟨g,0,none⟩) l.length cap):=by
  have:w.drew.heap[b]? = some (.cells #[p,.slice (some ⟨g,0,none⟩) l.length cap] (ρ.t 72) (0,0)):=hbk
  rw[Lib.cell_of_heap this];rfl
 have hSD:(Builtin.unsafeSliceData_ #[(ρ.t 37)] (ρ.t 127) #[.slice (some ⟨g,0,none⟩) l.length cap]).run P w.drew=.ok (.pointer (some ⟨g,0,none⟩)) w.drew :=
  Lib.run_unsafeSliceData_row _ _ _ _ _ _ (by omega)
 have hUS:(Builtin.unsafeString_ #[(ρ.t 127),(ρ.t 3)] (ρ.t 9) #[.pointer (some ⟨g,0,none⟩),.int .i64 l.length]).run P w.drew=.ok (.string ⟨l.toArray⟩) (w.drew.freeze ⟨g,0,none⟩ l.length):=by
  refine Lib.run_unsafeString_row w.drew (ρ.t 127) (ρ.t 3) (ρ.t 9) (ρ.t 5) L.t127 X.cellsByte g cur.size (by have hg':w.drew.heap[g]? = some (.cells cur (ρ.t 5) (0,0)):=hg;simp[World.shape?,hg']) l h0 (by omega) (by unfold maxLen at hcm;omega) ?_
  intro j x hx
  have hg':w.drew.heap[g]? = some (.cells cur (ρ.t 5) (0,0)):=hg
  have hj:(cur.toList.take l.length)[j]? = some (.int .u8 x.toNat):=by rw[htake];simp[hx]
  rw[List.getElem?_take] at hj
  split at hj
  ·rw[Go.Am.Addr_add,Lib.cell_of_heap hg']
   simpa using hj
  ·cases hj
 have mixed:=L.mixed
 have t72:=L.t72;have a72:=L.a72;have z72:=L.z72;have v72:=L.v72;have u72:=run_underlying L.t72
 have t70:=L.t70;have a70:=L.a70;have z70:=L.z70;have v70:=L.v70;have u70:=run_underlying L.t70
 have t37:=L.t37;have a37:=L.a37;have z37:=L.z37;have v37:=L.v37;have u37:=run_underlying L.t37
 have t127:=L.t127;have a127:=L.a127;have z127:=L.z127;have v127:=L.v127;have u127:=run_underlying L.t127
 have t3:=L.t3;have a3:=L.a3;have z3:=L.z3;have v3:=L.v3;have u3:=run_underlying L.t3
 have t9:=L.t9;have a9:=L.a9;have z9:=L.z9;have v9:=L.v9;have u9:=run_underlying L.t9
 have t5:=X.t5;have a5:=X.a5;have z5:=X.z5;have v5:=X.v5;have u5:=run_underlying X.t5
 go_enter L.f169,Body.n169_ntmps ρ
 go_wp2
 go_region_o
 all_goals (go_wp2;go_ret;exact⟨rfl,rfl⟩)
end
end Go.Proofs
namespace Go.Co
open Go.Am Go.Proofs Go.RowKit
def bstS (args:List AV):Option AV:=match args with
 | []=>some (.tup [.int .i64 (111:Nat),.int .i64 (5:Nat)])
 | _=>none
theorem c_bst:Contract Tryz.prog (tBase+61) bstS:=by
 refine Contract.of_bst (by decide) fun t u ht=>?_
 have e:t=111∧u=5:=by
  simp only[bstS,Option.some.injEq,AV.tup.injEq,List.cons.injEq,AV.int.injEq,true_and,and_true] at ht
  omega
 obtain⟨rfl,rfl⟩:=e
 intro w r q n cap p cur l
 refine⟨fun w=>enters_of Tryz.layS169.f169 (by kernel_rfl) rfl _ w,fun h0 hl hr hq hne hnc hcm hcs htake=>?_⟩
 refine Calls.mono (String_exact Tryz.layS169 Tryz.layX r q n cap p cur l w h0 hl hr hq hnc hcm hcs htake) ?_
 rintro e w' ⟨rfl,rfl⟩
 exact⟨rfl,freeze_frame w.drew q l.length⟩
end Go.Co
