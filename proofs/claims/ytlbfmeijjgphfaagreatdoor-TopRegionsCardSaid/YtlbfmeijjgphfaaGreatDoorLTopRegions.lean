/- The law TopRegions: what its text computes. -/
import Derived.Test.YtlbfmeijjgphfaaGreatDoorCz12
import Derived.Test.YtlbfmeijjgphfaaGreatDoorCz13
set_option maxHeartbeats 16000000
set_option maxRecDepth 100000
namespace Go.Co
open Go.Am Go.Proofs
set_option linter.unusedSimpArgs false
set_option linter.unusedVariables false
attribute [-simp] Go.Am.eff_gcall Go.Am.eff_gcal2
def c4_37:ACode:=.seq (.ops [⟨some 4,.box (.t 0) 4,none,[]⟩,⟨some 5,.box (.t 1) 8,none,[]⟩,⟨some 8,.mv (.c (.bool false)),none,[]⟩] [2,3,4,5]) (.seq (.ops [⟨some 19,.load 4 true (.t 4),none,[4]⟩,⟨some 20,.call 10 [.t 19],none,[]⟩,⟨some 9,.alloc [.int .i64 0,.int .i64 0,.int .i64 0,.int .i64 0,.int .i64 0,.nils],none,[]⟩,⟨none,.store (.t 9) 6 (.t 20),none,[9]⟩] [2,3,5,9]) (.seq (.ops [⟨some 22,.load 6 true (.t 9),none,[9]⟩,⟨some 23,.load 8 true (.t 5),none,[5]⟩,⟨some 24,.load 6 true (.t 9),none,[9]⟩,⟨some 25,.call 12 [.t 23,.t 24],none,[]⟩,⟨some 26,.call 11 [.t 22,.t 25],none,[]⟩,⟨some 21,.mv (.t 26),none,[]⟩,⟨some 27,.ext (.t 21) 0,none,[]⟩,⟨some 28,.ext (.t 21) 1,none,[]⟩,⟨some 10,.alloc [.int .i64 0,.int .i64 0,.int .i64 0,.int .i64 0,.int .i64 0,.int .i64 0,.int .i64 0,.int .i64 0,.int .i64 0,.int .i64 0,.int .i64 0,.int .i64 0,.int .i64 0,.int .i64 0,.int .i64 0,.bool false,.int .i64 0],none,[]⟩,⟨none,.store (.t 10) 17 (.t 27),none,[10]⟩,⟨some 11,.mv (.t 28),none,[]⟩] [2,3,9,10,11]) (.seq (.seq (.ops [⟨some 29,.mv (.t 11),none,[]⟩,⟨some 30,.un .not (.t 29),none,[]⟩] [2,3,9,10,30]) (.cond (.t 30) (.seq (.ops [⟨some 31,.call 13 [],none,[]⟩,⟨some 8,.mv (.t 31),none,[]⟩] [8]) .ret) .skip)) (.seq (.ops [⟨some 32,.mv (.t 2),none,[]⟩,⟨some 33,.fad (.t 9) 0,none,[9]⟩,⟨some 34,.load 1 false (.t 33),none,[9]⟩,⟨some 35,.bin .sub (.t 34) (.c (.int .i64 1)),none,[]⟩,⟨some 36,.call 17 [.t 32,.c (.int .i64 0),.t 35],none,[]⟩,⟨some 12,.mv (.t 36),none,[]⟩] [3,9,10,12]) (.seq (.ops [⟨some 37,.mv (.t 12),none,[]⟩,⟨some 38,.fad (.t 10) 2,none,[10]⟩,⟨some 39,.iad (.t 38) (.t 37) 2 5,none,[10]⟩,⟨some 40,.load 2 true (.t 39),none,[10]⟩,⟨some 13,.alloc [.int .i64 0,.int .i64 0],none,[]⟩,⟨none,.store (.t 13) 2 (.t 40),none,[13]⟩] [3,9,10,12,13]) (.seq (.ops [⟨some 41,.load 17 true (.t 10),none,[10]⟩,⟨some 42,.load 17 true (.t 10),none,[10]⟩,⟨some 14,.alloc [.int .i64 0,.int .i64 0,.int .i64 0,.int .i64 0,.int .i64 0,.int .i64 0,.int .i64 0,.int .i64 0,.int .i64 0,.int .i64 0,.int .i64 0,.int .i64 0,.int .i64 0,.int .i64 0,.int .i64 0,.bool false,.int .i64 0],none,[]⟩,⟨some 15,.alloc [.int .i64 0,.int .i64 0,.int .i64 0,.int .i64 0,.int .i64 0,.int .i64 0,.int .i64 0,.int .i64 0,.int .i64 0,.int .i64 0,.int .i64 0,.int .i64 0,.int .i64 0,.int .i64 0,.int .i64 0,.bool false,.int .i64 0],none,[]⟩,⟨none,.store (.t 14) 17 (.t 41),none,[14]⟩,⟨none,.store (.t 15) 17 (.t 42),none,[15]⟩] [3,9,10,12,13,14,15]) (.seq (.ops [⟨some 43,.mv (.t 12),none,[]⟩,⟨some 44,.mv (.t 3),none,[]⟩,⟨some 45,.fad (.t 13) 0,none,[13]⟩,⟨some 46,.load 1 false (.t 45),none,[13]⟩,⟨some 47,.fad (.t 13) 1,none,[13]⟩,⟨some 48,.load 1 false (.t 47),none,[13]⟩,⟨some 49,.call 17 [.t 44,.t 46,.t 48],none,[]⟩,⟨some 50,.fad (.t 14) 2,none,[14]⟩,⟨some 51,.iad (.t 50) (.t 43) 2 5,none,[14]⟩,⟨some 52,.fad (.t 51) 1,none,[14]⟩,⟨none,.store (.t 52) 1 (.t 49),none,[14]⟩] [9,10,12,13,14,15]) (.seq (.ops [⟨some 53,.mv (.t 12),none,[]⟩,⟨some 54,.mv (.t 12),none,[]⟩,⟨some 55,.fad (.t 14) 2,none,[14]⟩,⟨some 56,.iad (.t 55) (.t 54) 2 5,none,[14]⟩,⟨some 57,.fad (.t 56) 1,none,[14]⟩,⟨some 58,.load 1 false (.t 57),none,[14]⟩,⟨some 59,.bin .add (.t 58) (.c (.int .i64 1)),none,[]⟩,⟨some 60,.fad (.t 13) 1,none,[13]⟩,⟨some 61,.load 1 false (.t 60),none,[13]⟩,⟨some 62,.mnmx false (.t 59) (.t 61),none,[]⟩,⟨some 63,.fad (.t 15) 2,none,[15]⟩,⟨some 64,.iad (.t 63) (.t 53) 2 5,none,[15]⟩,⟨some 65,.fad (.t 64) 0,none,[15]⟩,⟨none,.store (.t 65) 1 (.t 62),none,[15]⟩] [9,10,14,15]) (.seq (.ops [⟨some 66,.load 6 true (.t 9),none,[9]⟩,⟨some 67,.load 17 true (.t 10),none,[10]⟩,⟨some 68,.call 14 [.t 66,.t 67],none,[]⟩,⟨some 69,.fld (.t 68) 0 1 false,none,[]⟩,⟨some 70,.load 6 true (.t 9),none,[9]⟩,⟨some 71,.load 17 true (.t 14),none,[14]⟩,⟨some 72,.call 14 [.t 70,.t 71],none,[]⟩,⟨some 73,.fld (.t 72) 0 1 false,none,[]⟩,⟨some 74,.load 6 true (.t 9),none,[9]⟩,⟨some 75,.load 17 true (.t 15),none,[15]⟩,⟨some 76,.call 14 [.t 74,.t 75],none,[]⟩,⟨some 77,.fld (.t 76) 0 1 false,none,[]⟩,⟨some 16,.mv (.t 69),none,[]⟩,⟨some 17,.mv (.t 73),none,[]⟩,⟨some 18,.mv (.t 77),none,[]⟩] [10,16,17,18]) (.seq (.seq (.ops [⟨some 78,.mv (.t 16),none,[]⟩,⟨some 79,.bin .eql (.t 78) (.c (.int .i64 1)),none,[]⟩,⟨some 80,.mv (.t 79),none,[]⟩,⟨some 81,.mv (.t 17),some (80,true),[]⟩,⟨some 82,.bin .neq (.t 81) (.c (.int .i64 1)),some (80,true),[]⟩,⟨some 83,.mv (.t 82),some (80,true),[]⟩,⟨some 84,.mv (.t 18),some (83,false),[]⟩,⟨some 85,.bin .neq (.t 84) (.c (.int .i64 1)),some (83,false),[]⟩,⟨some 86,.pick (.t 83) (.c (.bool true)) (.t 85),some (80,true),[]⟩,⟨some 87,.pick (.t 80) (.t 86) (.c (.bool false)),none,[]⟩] [10,16,17,18,87]) (.cond (.t 87) (.seq (.ops [⟨some 8,.mv (.c (.bool false)),none,[]⟩] [8]) .ret) .skip)) (.seq (.seq (.ops [⟨some 88,.fad (.t 10) 0,none,[10]⟩,⟨some 89,.load 1 false (.t 88),none,[10]⟩,⟨some 90,.bin .neq (.t 89) (.c (.int .i64 3)),none,[]⟩,⟨some 91,.mv (.t 90),none,[]⟩,⟨some 92,.mv (.t 17),some (91,true),[]⟩,⟨some 93,.bin .eql (.t 92) (.c (.int .i64 1)),some (91,true),[]⟩,⟨some 94,.pick (.t 91) (.t 93) (.c (.bool false)),none,[]⟩,⟨some 95,.mv (.t 94),none,[]⟩,⟨some 96,.mv (.t 18),some (95,true),[]⟩,⟨some 97,.bin .eql (.t 96) (.c (.int .i64 1)),some (95,true),[]⟩,⟨some 98,.pick (.t 95) (.t 97) (.c (.bool false)),none,[]⟩,⟨some 99,.mv (.t 98),none,[]⟩,⟨some 100,.mv (.t 16),some (99,true),[]⟩,⟨some 101,.bin .neq (.t 100) (.c (.int .i64 1)),some (99,true),[]⟩,⟨some 102,.pick (.t 99) (.t 101) (.c (.bool false)),none,[]⟩] [16,102]) (.cond (.t 102) (.seq (.ops [⟨some 8,.mv (.c (.bool false)),none,[]⟩] [8]) .ret) .skip)) (.seq (.ops [⟨some 103,.mv (.t 16),none,[]⟩,⟨some 104,.bin .eql (.t 103) (.c (.int .i64 1)),none,[]⟩,⟨some 105,.mv (.t 104),none,[]⟩,⟨some 106,.mv (.t 16),some (105,false),[]⟩,⟨some 107,.bin .eql (.t 106) (.c (.int .i64 2)),some (105,false),[]⟩,⟨some 108,.pick (.t 105) (.c (.bool true)) (.t 107),none,[]⟩,⟨some 109,.mv (.t 108),none,[]⟩,⟨some 110,.call 13 [],some (109,true),[]⟩,⟨some 111,.pick (.t 109) (.t 110) (.c (.bool false)),none,[]⟩,⟨some 8,.mv (.t 111),none,[]⟩] [8]) .ret))))))))))))
theorem r4_37:type_of% (rr c4_37.eq_1):=rr rfl
def a4:AFun:=⟨4,112,c4_37,[.t 8]⟩
attribute [simp] r4_37
theorem m4:mFun Tryz.prog Tryz.f4 a4=true:=by decide +kernel
noncomputable abbrev trT:Cs:=tbl [(10,sp1 ModelC),(12,sp2 QueryC),(11,sp2 EnoughC),(17,sp3 Within),(14,sp2 RunC),(13,sp0 (some true))]
theorem parts_kinds {m:Model} (hm:RM m) {q:Query} (hq:okQuery m q=true) (hw:wide (startOf q)≤199) (hb:2*countM m q (startOf q)-1≤q.budget) {k c d:Int} (hx:PartIn q k ⟨(q.region.get k).lo,c⟩) (hy:PartIn q k ⟨d,(q.region.get k).hi⟩) (hk:k<m.dim) (hd:d≤c+1) :
  ∃ v u w,(searchM m q).kind=v∧(searchM m (partQ q k ⟨(q.region.get k).lo,c⟩)).kind=u∧(searchM m (partQ q k ⟨d,(q.region.get k).hi⟩)).kind=w ∧
   ((v=1∧u=1∧w=1)∨(v=2∧(q.kind=3∨u=2∨w=2)∧(u=1∨u=2)∧(w=1∨w=2))):=by
 refine⟨_,_,_,rfl,rfl,rfl, ?_⟩
 have hu:=part_search hm hq hw hb hx hk
 have hwv:=part_search hm hq hw hb hy hk
 rcases kind_iff hm hq hw (search_enough hm hq hb) with⟨v1,v2⟩|⟨v1,p,t,hp,hbr⟩
 ·have no:¬ ∃ p t,InB (startOf q) p t∧breaks m q p t=true:=by
   rintro⟨p,t,hp,hbr⟩
   rw[v2 p t hp] at hbr
   cases hbr
  refine .inl ⟨v1, ?_, ?_⟩
  ·rcases hu with h|h
   ·exact h.1
   ·exact absurd h.2 no
  ·rcases hwv with h|h
   ·exact h.1
   ·exact absurd h.2 no
 ·refine .inr ⟨v1, ?_, ?_, ?_⟩
  ·by_cases k3:q.kind=3
   ·exact .inl k3
   ·have hpr:paired q=false:=by
     unfold paired
     simp[k3]
    rcases part_cover hpr hx hy hd hp with hin|hin
    ·rcases hu with h|h
     ·rw[h.2 p t hin] at hbr
      cases hbr
     ·exact .inr (.inl h.1)
    ·rcases hwv with h|h
     ·rw[h.2 p t hin] at hbr
      cases hbr
     ·exact .inr (.inr h.1)
  ·rcases hu with h|h
   ·exact .inl h.1
   ·exact .inr h.1
  ·rcases hwv with h|h
   ·exact .inl h.1
   ·exact .inr h.1
theorem runs_law (f:Forest) (a:Ask) (place at_:Int) (c:Bool) (h:some true=some c):Runs trT a4 [Arg.enc f,Arg.enc a,Arg.enc place,Arg.enc at_] (Arg.enc c):=by
 cases h
 refine⟨rfl,fun g=>run_def ?_⟩
 have hm:=rm_modelOf f
 have hM:ModelC f=some (modelOf f):=rfl
 have hd3:(modelOf f).dim≤3:=(mDim_le f).2
 generalize modelOf f=m at *
 have hQ:QueryC a m=some (queryOf m a):=part_of ⟨hm.dim.1,hm.dim.2,hm.classes.1,hm.classes.2⟩ _
 have hok0:okQuery m (queryOf m a)=true:=ok_queryOf m a hm
 have hwd0:=wide_start m a
 have r0:=rSpan_le m.dim a.spans 0
 have r1:=rSpan_le m.dim a.spans 1
 have r2:=rSpan_le m.dim a.spans 2
 have z0:(queryOf m a).region.s0=rSpan m.dim a.spans 0:=rfl
 have z1:(queryOf m a).region.s1=rSpan m.dim a.spans 1:=rfl
 have z2:(queryOf m a).region.s2=rSpan m.dim a.spans 2:=rfl
 rw[← z0] at r0
 rw[← z1] at r1
 rw[← z2] at r2
 clear z0 z1 z2
 generalize queryOf m a=q at *
 have hE:EnoughC m q=some (if countM m q (startOf q)≤1500 then (withBudget q (2*countM m q (startOf q)),true) else (withBudget q 0,false)):=part_of hm _
 have hp:=count_pos hm q (startOf q)
 have hcb:∀ u,countM m (withBudget q u) (startOf (withBudget q u))=countM m q (startOf q):=fun _=>rfl
 generalize hcc:countM m q (startOf q)=cc at *
 by_cases h1:cc≤1500
 ·rw[if_pos h1] at hE
  have hdm:=hm.dim
  have hok:=okQuery_budget hok0 (show 0≤2*cc by omega) (show 2*cc≤65536 by omega)
  have hwd:wide (startOf (withBudget q (2*cc)))≤199:=hwd0
  have hbu:2*countM m (withBudget q (2*cc)) (startOf (withBudget q (2*cc)))-1≤(withBudget q (2*cc)).budget:=by
   rw[hcb]
   show 2*cc-1≤2*cc
   omega
  have hWk:=within_of place 0 (m.dim-1) (by omega)
  have hwk:=within_le place 0 (m.dim-1) (by omega)
  have wd:IntKind.i64.wrap (m.dim-1)=m.dim-1:=wrap64 (by omega) (by omega)
  generalize within place 0 (m.dim-1)=k at *
  have hreg:(withBudget q (2*cc)).region=q.region:=rfl
  have main:=fun n e hx hy=>parts_kinds hm hok hwd hbu (k:=k) (c:=n) (d:=e) hx hy (by omega)
  rw[hreg] at main
  have hR:∀ q,RunC m q=some (searchM m q):=fun q=>part_of hm _
  have hkind:(withBudget q (2*cc)).kind=q.kind:=rfl
  rw[hkind] at main
  have hks:k=0∨k=1∨k=2:=by omega
  have goal:∀(s:Span),q.region.get k=s→s.lo≤s.hi→-1000≤s.lo→s.hi≤1000→∃ n e v u w,Within at_ s.lo s.hi=some n∧(IntKind.i64.wrap (n+1)=n+1)∧min2 (n+1) s.hi=e ∧
    (RunC m (withBudget q (2*cc)))=some v∧RunC m (partQ (withBudget q (2*cc)) k ⟨s.lo,n⟩)=some u∧RunC m (partQ (withBudget q (2*cc)) k ⟨e,s.hi⟩)=some w ∧
    ((v.kind=1∧u.kind=1∧w.kind=1)∨(v.kind=2∧(q.kind=3∨u.kind=2∨w.kind=2)∧(u.kind=1∨u.kind=2)∧(w.kind=1∨w.kind=2))):=by
   intro s hs s1 s2 s3
   have hWn:=within_of at_ s.lo s.hi (by omega)
   have hwn:=within_le at_ s.lo s.hi s1
   have he:min2 (within at_ s.lo s.hi+1) s.hi≤within at_ s.lo s.hi+1∧min2 (within at_ s.lo s.hi+1) s.hi≤s.hi∧s.lo≤min2 (within at_ s.lo s.hi+1) s.hi:=by
    unfold min2
    split<;>omega
   have:=main (within at_ s.lo s.hi) (min2 (within at_ s.lo s.hi+1) s.hi) ⟨by omega,by omega,by rw[hreg];exact Int.le_refl _,by rw[hs];exact hwn.1,by rw[hreg,hs];exact hwn.2⟩ ⟨by omega,by omega,by rw[hreg,hs];exact he.2.2,by rw[hs];exact he.2.1,by rw[hreg];exact Int.le_refl _⟩ he.1
   rw[hs] at this
   obtain⟨v,u,w,e1,e2,e3,e4⟩:=this
   subst e1
   subst e2
   subst e3
   exact⟨_,_,_,_,_,hWn,wrap64 (by omega) (by omega),rfl,hR _,hR _,hR _,e4⟩
  clear main hR hbu hok hok0 hwd hwd0 hp hcb
  unfold withBudget partQ at *
  obtain⟨kind,cls,region,lo,hi,feature,falls,budget⟩:=q
  simp only at goal hE r0 r1 r2
  unfold a4
  rcases hks with rfl|rfl|rfl
  ·obtain⟨n,e,⟨vk,vp,vw,vt,vs⟩,⟨uk,up,uw,ut,us⟩,⟨wk,wp,ww,wt,ws⟩,g1,g2,g3,g4,g5,g6,g7⟩:=goal region.s0 rfl (by omega) (by omega) (by omega)
   simp only[Box.set,reduceIte,Int.reduceEq] at g5 g6
   simp only at g7
   unfold min2 at g3
   by_cases k3:kind=3
   ·subst k3
    rcases g7 with⟨rfl,rfl,rfl⟩|⟨rfl,-,rfl|rfl,rfl|rfl⟩<;>simp -implicitDefEqProofs [hM,hQ,hE,hWk,wd,g1,g2,g3,g4,g5,g6]
   ·rcases g7 with⟨rfl,rfl,rfl⟩|⟨rfl,kk,rfl|rfl,rfl|rfl⟩
    ·simp -implicitDefEqProofs [hM,hQ,hE,hWk,wd,g1,g2,g3,g4,g5,g6,k3]
    ·rcases kk with kk|kk|kk
     ·exact absurd kk k3
     ·exact absurd kk (by omega)
     ·exact absurd kk (by omega)
    all_goals simp -implicitDefEqProofs [hM,hQ,hE,hWk,wd,g1,g2,g3,g4,g5,g6,k3]
  ·obtain⟨n,e,⟨vk,vp,vw,vt,vs⟩,⟨uk,up,uw,ut,us⟩,⟨wk,wp,ww,wt,ws⟩,g1,g2,g3,g4,g5,g6,g7⟩:=goal region.s1 rfl (by omega) (by omega) (by omega)
   simp only[Box.set,reduceIte,Int.reduceEq] at g5 g6
   simp only at g7
   unfold min2 at g3
   by_cases k3:kind=3
   ·subst k3
    rcases g7 with⟨rfl,rfl,rfl⟩|⟨rfl,-,rfl|rfl,rfl|rfl⟩<;>simp -implicitDefEqProofs [hM,hQ,hE,hWk,wd,g1,g2,g3,g4,g5,g6]
   ·rcases g7 with⟨rfl,rfl,rfl⟩|⟨rfl,kk,rfl|rfl,rfl|rfl⟩
    ·simp -implicitDefEqProofs [hM,hQ,hE,hWk,wd,g1,g2,g3,g4,g5,g6,k3]
    ·rcases kk with kk|kk|kk
     ·exact absurd kk k3
     ·exact absurd kk (by omega)
     ·exact absurd kk (by omega)
    all_goals simp -implicitDefEqProofs [hM,hQ,hE,hWk,wd,g1,g2,g3,g4,g5,g6,k3]
  ·obtain⟨n,e,⟨vk,vp,vw,vt,vs⟩,⟨uk,up,uw,ut,us⟩,⟨wk,wp,ww,wt,ws⟩,g1,g2,g3,g4,g5,g6,g7⟩:=goal region.s2 rfl (by omega) (by omega) (by omega)
   simp only[Box.set,reduceIte,Int.reduceEq] at g5 g6
   simp only at g7
   unfold min2 at g3
   by_cases k3:kind=3
   ·subst k3
    rcases g7 with⟨rfl,rfl,rfl⟩|⟨rfl,-,rfl|rfl,rfl|rfl⟩<;>simp -implicitDefEqProofs [hM,hQ,hE,hWk,wd,g1,g2,g3,g4,g5,g6]
   ·rcases g7 with⟨rfl,rfl,rfl⟩|⟨rfl,kk,rfl|rfl,rfl|rfl⟩
    ·simp -implicitDefEqProofs [hM,hQ,hE,hWk,wd,g1,g2,g3,g4,g5,g6,k3]
    ·rcases kk with kk|kk|kk
     ·exact absurd kk k3
     ·exact absurd kk (by omega)
     ·exact absurd kk (by omega)
    all_goals simp -implicitDefEqProofs [hM,hQ,hE,hWk,wd,g1,g2,g3,g4,g5,g6,k3]
 ·rw[if_neg h1] at hE
  unfold withBudget at *
  unfold a4
  simp -implicitDefEqProofs [hM,hQ,hE]
noncomputable def law_sp:List AV→Option AV:=sp4 fun (_:Forest) (_:Ask) (_ _:Int)=>some true
theorem law_holds:Contract Tryz.prog 4 law_sp :=
 contract_of_runs mixed (tbl_cons c_Model (tbl_cons c_Query (tbl_cons c_enough (tbl_cons c_Within (tbl_cons c_Run (tbl_cons c_awake tbl_nil)))))) Tryz.func4 m4 (sp4_runs runs_law)
theorem law_says (f:Forest) (a:Ask) (place at_:Int):law_sp [Arg.enc f,Arg.enc a,Arg.enc place,Arg.enc at_]=some (.bool true):=by
 simp only[law_sp,sp4,Arg.dec_enc,Option.bind_some]
 rfl
end Go.Co
