/- The law TopPrune: what its text computes. -/
import Derived.Test.YtlbfmeijjgphfaaGreatDoorCz13
import Derived.Test.YtlbfmeijjgphfaaGreatDoorCz14
set_option maxHeartbeats 16000000
set_option maxRecDepth 100000
namespace Go.Co
open Go.Am Go.Proofs
set_option linter.unusedSimpArgs false
set_option linter.unusedVariables false
attribute [-simp] Go.Am.eff_gcall Go.Am.eff_gcal2
def c9_17:ACode:=.seq (.ops [⟨some 2,.box (.t 0) 4,none,[]⟩,⟨some 3,.box (.t 1) 8,none,[]⟩,⟨some 4,.mv (.c (.bool false)),none,[]⟩] [2,3]) (.seq (.ops [⟨some 11,.load 4 true (.t 2),none,[2]⟩,⟨some 12,.call 10 [.t 11],none,[]⟩,⟨some 5,.alloc [.int .i64 0,.int .i64 0,.int .i64 0,.int .i64 0,.int .i64 0,.nils],none,[]⟩,⟨none,.store (.t 5) 6 (.t 12),none,[5]⟩] [3,5]) (.seq (.ops [⟨some 14,.load 6 true (.t 5),none,[5]⟩,⟨some 15,.load 8 true (.t 3),none,[3]⟩,⟨some 16,.load 6 true (.t 5),none,[5]⟩,⟨some 17,.call 12 [.t 15,.t 16],none,[]⟩,⟨some 18,.call 11 [.t 14,.t 17],none,[]⟩,⟨some 13,.mv (.t 18),none,[]⟩,⟨some 19,.ext (.t 13) 0,none,[]⟩,⟨some 20,.ext (.t 13) 1,none,[]⟩,⟨some 6,.alloc [.int .i64 0,.int .i64 0,.int .i64 0,.int .i64 0,.int .i64 0,.int .i64 0,.int .i64 0,.int .i64 0,.int .i64 0,.int .i64 0,.int .i64 0,.int .i64 0,.int .i64 0,.int .i64 0,.int .i64 0,.bool false,.int .i64 0],none,[]⟩,⟨none,.store (.t 6) 17 (.t 19),none,[6]⟩,⟨some 7,.mv (.t 20),none,[]⟩] [5,6,7]) (.seq (.seq (.ops [⟨some 21,.mv (.t 7),none,[]⟩,⟨some 22,.un .not (.t 21),none,[]⟩] [5,6,22]) (.cond (.t 22) (.seq (.ops [⟨some 23,.call 13 [],none,[]⟩,⟨some 4,.mv (.t 23),none,[]⟩] [4]) .ret) .skip)) (.seq (.ops [⟨some 24,.load 6 true (.t 5),none,[5]⟩,⟨some 25,.fad (.t 6) 2,none,[6]⟩,⟨some 26,.load 10 true (.t 25),none,[6]⟩,⟨some 27,.call 25 [.t 24,.t 26],none,[]⟩,⟨some 8,.alloc [.int .i64 0,.int .i64 0,.int .i64 0,.int .i64 0,.int .i64 0,.nils],none,[]⟩,⟨none,.store (.t 8) 6 (.t 27),none,[8]⟩] [5,6,8]) (.seq (.ops [⟨some 28,.load 6 true (.t 5),none,[5]⟩,⟨some 29,.load 17 true (.t 6),none,[6]⟩,⟨some 30,.call 14 [.t 28,.t 29],none,[]⟩,⟨some 31,.load 6 true (.t 8),none,[8]⟩,⟨some 32,.load 17 true (.t 6),none,[6]⟩,⟨some 33,.call 14 [.t 31,.t 32],none,[]⟩,⟨some 9,.alloc [.int .i64 0,.nils,.int .i64 0,.int .i64 0,.int .i64 0,.int .i64 0,.int .i64 0,.int .i64 0],none,[]⟩,⟨some 10,.alloc [.int .i64 0,.nils,.int .i64 0,.int .i64 0,.int .i64 0,.int .i64 0,.int .i64 0,.int .i64 0],none,[]⟩,⟨none,.store (.t 9) 8 (.t 30),none,[9]⟩,⟨none,.store (.t 10) 8 (.t 33),none,[10]⟩] [5,6,8,9,10]) (.seq (.ops [⟨some 34,.load 6 true (.t 8),none,[8]⟩,⟨some 35,.call 26 [.t 34],none,[]⟩,⟨some 36,.load 6 true (.t 5),none,[5]⟩,⟨some 37,.call 26 [.t 36],none,[]⟩,⟨some 38,.bin .leq (.t 35) (.t 37),none,[]⟩,⟨some 39,.mv (.t 38),none,[]⟩,⟨some 40,.fad (.t 9) 0,some (39,true),[9]⟩,⟨some 41,.load 1 false (.t 40),some (39,true),[9]⟩,⟨some 42,.fad (.t 10) 0,some (39,true),[10]⟩,⟨some 43,.load 1 false (.t 42),some (39,true),[10]⟩,⟨some 44,.bin .eql (.t 41) (.t 43),some (39,true),[]⟩,⟨some 45,.pick (.t 39) (.t 44) (.c (.bool false)),none,[]⟩,⟨some 46,.mv (.t 45),none,[]⟩,⟨some 47,.load 6 true (.t 5),some (46,true),[5]⟩,⟨some 48,.load 17 true (.t 6),some (46,true),[6]⟩,⟨some 49,.load 8 true (.t 10),some (46,true),[10]⟩,⟨some 50,.call 24 [.t 47,.t 48,.t 49],some (46,true),[]⟩,⟨some 51,.pick (.t 46) (.t 50) (.c (.bool false)),none,[]⟩,⟨some 52,.mv (.t 51),none,[]⟩,⟨some 53,.load 6 true (.t 8),some (52,true),[8]⟩,⟨some 54,.load 17 true (.t 6),some (52,true),[6]⟩,⟨some 55,.load 8 true (.t 9),some (52,true),[9]⟩,⟨some 56,.call 24 [.t 53,.t 54,.t 55],some (52,true),[]⟩,⟨some 57,.pick (.t 52) (.t 56) (.c (.bool false)),none,[]⟩,⟨some 58,.mv (.t 57),none,[]⟩,⟨some 59,.call 13 [],some (58,true),[]⟩,⟨some 60,.pick (.t 58) (.t 59) (.c (.bool false)),none,[]⟩,⟨some 4,.mv (.t 60),none,[]⟩] [4]) .ret))))))
theorem r9_17:type_of% (rr c9_17.eq_1):=rr rfl
def a9:AFun:=⟨2,61,c9_17,[.t 4]⟩
attribute [simp] r9_17
theorem m9:mFun Tryz.prog Tryz.f9 a9=true:=by decide +kernel
theorem region_ok {m:Model} {q:Query} (h:okQuery m q=true):okB q.region∧q.region.empty=false:=by
 have hs:=(okQuery_spec h).2.2.2.2.1
 unfold okRegion okSpan at hs
 simp only[Bool.and_eq_true,Bool.not_eq_true'] at hs
 obtain⟨⟨⟨⟨a0,a1⟩,a2⟩,a3⟩,a4⟩:=hs
 refine⟨⟨⟨ok64_fits a0.1.2,ok64_fits a0.2⟩,⟨ok64_fits a1.1.2,ok64_fits a1.2⟩,⟨ok64_fits a2.1.2,ok64_fits a2.2⟩,⟨ok64_fits a3.1.2,ok64_fits a3.2⟩,⟨ok64_fits a4.1.2,ok64_fits a4.2⟩⟩, ?_⟩
 unfold Box.empty
 rw[a0.1.1.2,a1.1.1.2,a2.1.1.2,a3.1.1.2,a4.1.1.2]
 rfl
noncomputable abbrev tprT:Cs:=tbl [(10,sp1 ModelC),(12,sp2 QueryC),(11,sp2 EnoughC),(25,sp2 PrModelC),(14,sp2 RunC),(26,sp1 SizeC),(24,sp3 ProvesC),(13,sp0 (some true))]
theorem runs_law (f:Forest) (a:Ask) (c:Bool) (h:some true=some c):Runs tprT a9 [Arg.enc f,Arg.enc a] (Arg.enc c):=by
 cases h
 refine⟨rfl,fun g=>run_def ?_⟩
 have hm:=rm_modelOf f
 have hM:ModelC f=some (modelOf f):=rfl
 generalize modelOf f=m at *
 have hQ:QueryC a m=some (queryOf m a):=part_of ⟨hm.dim.1,hm.dim.2,hm.classes.1,hm.classes.2⟩ _
 have hok0:okQuery m (queryOf m a)=true:=ok_queryOf m a hm
 have hwd0:=wide_start m a
 generalize queryOf m a=q at *
 have hE:EnoughC m q=some (if countM m q (startOf q)≤1500 then (withBudget q (2*countM m q (startOf q)),true) else (withBudget q 0,false)):=part_of hm _
 have hp:=count_pos hm q (startOf q)
 have hcb:∀ n u,countM n (withBudget q u) (startOf (withBudget q u))=countM n q (startOf q):=fun _ _=>rfl
 have hle:=count_prune hm q.region q (startOf q)
 generalize hcc:countM m q (startOf q)=cc at *
 by_cases h1:cc≤1500
 ·rw[if_pos h1] at hE
  have hok:=okQuery_budget hok0 (show 0≤2*cc by omega) (show 2*cc≤65536 by omega)
  have hwd:wide (startOf (withBudget q (2*cc)))≤199:=hwd0
  have hk:=search_enough hm hok (by rw[hcb,hcc];show 2*cc-1≤2*cc;omega)
  have hrg:=region_ok hok0
  have hr:=rm_prune hm q.region
  have hk2:=search_enough hr (q:=withBudget q (2*cc)) hok (by rw[hcb];show _≤2*cc;omega)
  obtain⟨k1,k2,k3⟩:=search_prune hm hok hwd hk hk2
  have hP:PrModelC m q.region=some (pruneM m q.region):=by unfold PrModelC;rw[part_of ⟨hm,hrg.1⟩,hrg.2];rfl
  have hR1:RunC m (withBudget q (2*cc))=some (searchM m (withBudget q (2*cc))):=part_of hm _
  have hR2:RunC (pruneM m q.region) (withBudget q (2*cc))=some (searchM (pruneM m q.region) (withBudget q (2*cc))):=part_of hr _
  have hS1:=hm.size
  have hS2:=hr.size
  have hsz:=size_prune hm q.region
  have hreg:(withBudget q (2*cc)).region=q.region:=rfl
  rw[hreg] at k1 k2 k3
  have hPv1:ProvesC m (withBudget q (2*cc)) (searchM (pruneM m q.region) (withBudget q (2*cc)))=some true:=by
   unfold ProvesC
   rw[if_neg (by have:=hm.dim;omega),k2]
   exact part_of hm _
  have hPv2:ProvesC (pruneM m q.region) (withBudget q (2*cc)) (searchM m (withBudget q (2*cc)))=some true:=by
   unfold ProvesC
   rw[if_neg (by have:=hr.dim;omega),k3]
   exact part_of hr _
  unfold withBudget at *
  generalize pruneM m q.region=n at *
  generalize searchM m { q with budget:=2*cc }=v at *
  generalize searchM n { q with budget:=2*cc }=w at *
  obtain⟨vk,vp,vw,vt,vs⟩:=v
  obtain⟨wk,wp,ww,wt,ws⟩:=w
  simp only at k1
  subst k1
  unfold a9
  simp -implicitDefEqProofs [hM,hQ,hE,hP,hR1,hR2,hS1,hS2,hsz,hPv1,hPv2]
 ·rw[if_neg h1] at hE
  unfold withBudget at *
  unfold a9
  simp -implicitDefEqProofs [hM,hQ,hE]
noncomputable def law_sp:List AV→Option AV:=sp2 fun (_:Forest) (_:Ask)=>some true
theorem law_holds:Contract Tryz.prog 9 law_sp :=
 contract_of_runs mixed (tbl_cons c_Model (tbl_cons c_Query (tbl_cons c_enough (tbl_cons c_prModel (tbl_cons c_Run (tbl_cons c_Size (tbl_cons c_Proves (tbl_cons c_awake tbl_nil)))))))) Tryz.func9 m9 (sp2_runs runs_law)
theorem law_says (f:Forest) (a:Ask):law_sp [Arg.enc f,Arg.enc a]=some (.bool true):=by
 simp only[law_sp,sp2,Arg.dec_enc,Option.bind_some]
 rfl
end Go.Co
