/- The law TopTruth: what its text computes. -/
import Derived.Test.YtlbfmeijjgphfaaGreatDoorCz13
import Derived.Test.YtlbfmeijjgphfaaGreatDoorCz14
import Derived.Test.YtlbfmeijjgphfaaGreatDoorCz8
import Derived.Test.YtlbfmeijjgphfaaGreatDoorCz10
set_option maxHeartbeats 16000000
set_option maxRecDepth 100000
namespace Go.Co
open Go.Am Go.Proofs
set_option linter.unusedSimpArgs false
set_option linter.unusedVariables false
attribute [-simp] Go.Am.eff_gcall Go.Am.eff_gcal2
def c8_27:ACode:=.seq (.ops [⟨some 3,.box (.t 0) 4,none,[]⟩,⟨some 4,.box (.t 1) 8,none,[]⟩,⟨some 6,.mv (.c (.bool false)),none,[]⟩] [2,3,4]) (.seq (.ops [⟨some 14,.load 4 true (.t 3),none,[3]⟩,⟨some 15,.call 10 [.t 14],none,[]⟩,⟨some 7,.alloc [.int .i64 0,.int .i64 0,.int .i64 0,.int .i64 0,.int .i64 0,.nils],none,[]⟩,⟨none,.store (.t 7) 6 (.t 15),none,[7]⟩] [2,4,7]) (.seq (.ops [⟨some 17,.load 6 true (.t 7),none,[7]⟩,⟨some 18,.load 8 true (.t 4),none,[4]⟩,⟨some 19,.load 6 true (.t 7),none,[7]⟩,⟨some 20,.call 12 [.t 18,.t 19],none,[]⟩,⟨some 21,.call 11 [.t 17,.t 20],none,[]⟩,⟨some 16,.mv (.t 21),none,[]⟩,⟨some 22,.ext (.t 16) 0,none,[]⟩,⟨some 23,.ext (.t 16) 1,none,[]⟩,⟨some 8,.alloc [.int .i64 0,.int .i64 0,.int .i64 0,.int .i64 0,.int .i64 0,.int .i64 0,.int .i64 0,.int .i64 0,.int .i64 0,.int .i64 0,.int .i64 0,.int .i64 0,.int .i64 0,.int .i64 0,.int .i64 0,.bool false,.int .i64 0],none,[]⟩,⟨none,.store (.t 8) 17 (.t 22),none,[8]⟩,⟨some 9,.mv (.t 23),none,[]⟩] [2,7,8,9]) (.seq (.seq (.ops [⟨some 24,.mv (.t 9),none,[]⟩,⟨some 25,.un .not (.t 24),none,[]⟩] [2,7,8,25]) (.cond (.t 25) (.seq (.ops [⟨some 26,.call 13 [],none,[]⟩,⟨some 6,.mv (.t 26),none,[]⟩] [6]) .ret) .skip)) (.seq (.ops [⟨some 28,.load 6 true (.t 7),none,[7]⟩,⟨some 29,.load 17 true (.t 8),none,[8]⟩,⟨some 30,.call 23 [.t 28,.t 29,.c (.int .i64 1500)],none,[]⟩,⟨some 27,.mv (.t 30),none,[]⟩,⟨some 31,.ext (.t 27) 0,none,[]⟩,⟨some 32,.ext (.t 27) 1,none,[]⟩,⟨some 10,.mv (.t 31),none,[]⟩,⟨some 11,.mv (.t 32),none,[]⟩] [2,7,8,10,11]) (.seq (.ops [⟨some 33,.load 6 true (.t 7),none,[7]⟩,⟨some 34,.load 17 true (.t 8),none,[8]⟩,⟨some 35,.call 14 [.t 33,.t 34],none,[]⟩,⟨some 12,.alloc [.int .i64 0,.nils,.int .i64 0,.int .i64 0,.int .i64 0,.int .i64 0,.int .i64 0,.int .i64 0],none,[]⟩,⟨none,.store (.t 12) 8 (.t 35),none,[12]⟩] [2,7,8,10,11,12]) (.seq (.seq (.ops [⟨some 36,.mv (.t 11),none,[]⟩,⟨some 37,.un .not (.t 36),none,[]⟩,⟨some 38,.mv (.t 37),none,[]⟩,⟨some 39,.mv (.t 10),some (38,false),[]⟩,⟨some 40,.mv (.t 39),some (38,false),[]⟩,⟨some 41,.fad (.t 12) 0,some (40,true),[12]⟩,⟨some 42,.load 1 false (.t 41),some (40,true),[12]⟩,⟨some 43,.bin .neq (.t 42) (.c (.int .i64 1)),some (40,true),[]⟩,⟨some 44,.pick (.t 40) (.t 43) (.c (.bool false)),some (38,false),[]⟩,⟨some 45,.pick (.t 38) (.c (.bool true)) (.t 44),none,[]⟩,⟨some 46,.mv (.t 45),none,[]⟩,⟨some 47,.mv (.t 10),some (46,false),[]⟩,⟨some 48,.un .not (.t 47),some (46,false),[]⟩,⟨some 49,.mv (.t 48),some (46,false),[]⟩,⟨some 50,.fad (.t 12) 0,some (49,true),[12]⟩,⟨some 51,.load 1 false (.t 50),some (49,true),[12]⟩,⟨some 52,.bin .neq (.t 51) (.c (.int .i64 2)),some (49,true),[]⟩,⟨some 53,.pick (.t 49) (.t 52) (.c (.bool false)),some (46,false),[]⟩,⟨some 54,.pick (.t 46) (.c (.bool true)) (.t 53),none,[]⟩,⟨some 55,.mv (.t 54),none,[]⟩,⟨some 56,.load 6 true (.t 7),some (55,false),[7]⟩,⟨some 57,.load 17 true (.t 8),some (55,false),[8]⟩,⟨some 58,.load 8 true (.t 12),some (55,false),[12]⟩,⟨some 59,.call 24 [.t 56,.t 57,.t 58],some (55,false),[]⟩,⟨some 60,.un .not (.t 59),some (55,false),[]⟩,⟨some 61,.pick (.t 55) (.c (.bool true)) (.t 60),none,[]⟩] [2,7,8,12,61]) (.cond (.t 61) (.seq (.ops [⟨some 6,.mv (.c (.bool false)),none,[]⟩] [6]) .ret) .skip)) (.seq (.ops [⟨some 62,.mv (.t 2),none,[]⟩,⟨some 63,.fad (.t 8) 16,none,[8]⟩,⟨some 64,.load 1 false (.t 63),none,[8]⟩,⟨some 65,.call 17 [.t 62,.c (.int .i64 0),.t 64],none,[]⟩,⟨some 66,.fad (.t 8) 16,none,[8]⟩,⟨none,.store (.t 66) 1 (.t 65),none,[8]⟩] [7,8,12]) (.seq (.ops [⟨some 67,.load 6 true (.t 7),none,[7]⟩,⟨some 68,.load 17 true (.t 8),none,[8]⟩,⟨some 69,.call 14 [.t 67,.t 68],none,[]⟩,⟨some 13,.alloc [.int .i64 0,.nils,.int .i64 0,.int .i64 0,.int .i64 0,.int .i64 0,.int .i64 0,.int .i64 0],none,[]⟩,⟨none,.store (.t 13) 8 (.t 69),none,[13]⟩] [8,12,13]) (.seq (.ops [⟨some 70,.fad (.t 13) 0,none,[13]⟩,⟨some 71,.load 1 false (.t 70),none,[13]⟩,⟨some 72,.bin .eql (.t 71) (.c (.int .i64 3)),none,[]⟩,⟨some 73,.mv (.t 72),none,[]⟩,⟨some 74,.fad (.t 8) 16,some (73,true),[8]⟩,⟨some 75,.load 1 false (.t 74),some (73,true),[8]⟩,⟨some 76,.fad (.t 12) 7,some (73,true),[12]⟩,⟨some 77,.load 1 false (.t 76),some (73,true),[12]⟩,⟨some 78,.bin .lss (.t 75) (.t 77),some (73,true),[]⟩,⟨some 79,.pick (.t 73) (.t 78) (.c (.bool false)),none,[]⟩,⟨some 80,.mv (.t 79),none,[]⟩,⟨some 81,.load 8 true (.t 13),some (80,false),[13]⟩,⟨some 82,.load 8 true (.t 12),some (80,false),[12]⟩,⟨some 83,.call 21 [.t 81,.t 82],some (80,false),[]⟩,⟨some 84,.mv (.t 83),some (80,false),[]⟩,⟨some 85,.fad (.t 8) 16,some (84,true),[8]⟩,⟨some 86,.load 1 false (.t 85),some (84,true),[8]⟩,⟨some 87,.fad (.t 12) 7,some (84,true),[12]⟩,⟨some 88,.load 1 false (.t 87),some (84,true),[12]⟩,⟨some 89,.bin .geq (.t 86) (.t 88),some (84,true),[]⟩,⟨some 90,.pick (.t 84) (.t 89) (.c (.bool false)),some (80,false),[]⟩,⟨some 91,.pick (.t 80) (.c (.bool true)) (.t 90),none,[]⟩,⟨some 92,.mv (.t 91),none,[]⟩,⟨some 93,.call 13 [],some (92,true),[]⟩,⟨some 94,.pick (.t 92) (.t 93) (.c (.bool false)),none,[]⟩,⟨some 6,.mv (.t 94),none,[]⟩] [6]) .ret)))))))))
theorem r8_27:type_of% (rr c8_27.eq_1):=rr rfl
def a8:AFun:=⟨3,95,c8_27,[.t 6]⟩
attribute [simp] r8_27
theorem m8:mFun Tryz.prog Tryz.f8 a8=true:=by decide +kernel
noncomputable abbrev ttT:Cs:=tbl [(10,sp1 ModelC),(12,sp2 QueryC),(11,sp2 EnoughC),(23,sp3 HoldsC),(14,sp2 RunC),(24,sp3 ProvesC),(17,sp3 Within),(21,sp2 VerdictsC),(13,sp0 (some true))]
theorem kind_holds {m:Model} (hm:RM m) {q:Query} (hq:okQuery m q=true) (hw:wide (startOf q)≤199) (hk:(searchM m q).kind≠3):((searchM m q).kind=1∧holdsM m q=true)∨((searchM m q).kind=2∧holdsM m q=false):=by
 have hi:=holds_iff hm (okQuery_start hq).2.2
 rcases search_kind hq hk with h|h
 ·exact .inl ⟨h,hi.2 (search_sound hm hq hw h)⟩
 ·refine .inr ⟨h, ?_⟩
  obtain⟨_,h1,h2⟩:=fails_proven hq h
  cases hh:holdsM m q with
  | false=>rfl
  | true =>
   have:=hi.1 hh _ _ h1
   rw[h2] at this
   cases this
theorem runs_law (f:Forest) (a:Ask) (less:Int) (c:Bool) (h:some true=some c):Runs ttT a8 [Arg.enc f,Arg.enc a,Arg.enc less] (Arg.enc c):=by
 cases h
 refine⟨rfl,fun g=>run_def ?_⟩
 have hm:=rm_modelOf f
 have hM:ModelC f=some (modelOf f):=rfl
 generalize modelOf f=m at *
 have hQ:QueryC a m=some (queryOf m a):=part_of ⟨hm.dim.1,hm.dim.2,hm.classes.1,hm.classes.2⟩ _
 have hok0:okQuery m (queryOf m a)=true:=ok_queryOf m a hm
 have hwd0:=wide_start m a
 generalize queryOf m a=q at *
 have hE:EnoughC m q=some (if countM m q (startOf q)≤1500 then (withBudget q (2*countM m q (startOf q)),true) else (withBudget q 0,false)):=part_of hm _
 have hp:=count_pos hm q (startOf q)
 have hcb:∀ u,countM m (withBudget q u) (startOf (withBudget q u))=countM m q (startOf q):=fun _=>rfl
 generalize hcc:countM m q (startOf q)=cc at *
 by_cases h1:cc≤1500
 ·rw[if_pos h1] at hE
  have hok:=okQuery_budget hok0 (show 0≤2*cc by omega) (show 2*cc≤65536 by omega)
  have hwd:wide (startOf (withBudget q (2*cc)))≤199:=hwd0
  have hk:=search_enough hm hok (by rw[hcb];show 2*cc-1≤2*cc;omega)
  have hkh:=kind_holds hm hok hwd hk
  have hR:RunC m (withBudget q (2*cc))=some (searchM m (withBudget q (2*cc))):=part_of hm _
  have hH:HoldsC m (withBudget q (2*cc)) 1500=some (holdsM m (withBudget q (2*cc)),true):=by
   unfold HoldsC
   rw[hcb,if_pos h1]
   exact part_of ⟨hm,(okQuery_start hok).2.1,by omega⟩ _
  have hP:ProvesC m (withBudget q (2*cc)) (searchM m (withBudget q (2*cc)))=some true:=by
   unfold ProvesC
   rw[if_neg (by have:=hm.dim;omega),search_proven hm hok hwd (search_kind hok hk)]
   exact part_of hm _
  have hW:=within_of less 0 (2*cc) (by omega)
  have hw:=within_le less 0 (2*cc) (by omega)
  generalize within less 0 (2*cc)=u at *
  have hok2:=okQuery_budget hok0 hw.1 (show u≤65536 by omega)
  have hR2:RunC m (withBudget q u)=some (searchM m (withBudget q u)):=part_of hm _
  have hl:=search_less hok hok2 hw.1 hk
  generalize holdsM m (withBudget q (2*cc))=hd at *
  unfold withBudget at *
  generalize searchM m { q with budget:=2*cc }=v at *
  generalize searchM m { q with budget:=u }=w at *
  obtain⟨vk,vp,vw,vt,vs⟩:=v
  obtain⟨wk,wp,ww,wt,ws⟩:=w
  simp only at hl hk hkh
  by_cases h2:u<vs
  ·have h3:wk=3:=hl.2 h2
   subst h3
   rcases hkh with⟨rfl,rfl⟩|⟨rfl,rfl⟩
   ·unfold a8
    simp -implicitDefEqProofs [hM,hQ,hE,hH,hR,hP,hW,hR2,h2]
   ·unfold a8
    simp -implicitDefEqProofs [hM,hQ,hE,hH,hR,hP,hW,hR2,h2]
  ·have h3:=hl.1 (by omega)
   simp only[Verdict.mk.injEq] at h3
   obtain⟨rfl,rfl,rfl,rfl,rfl⟩:=h3
   have hV:VerdictsC ⟨wk,wp,ww,wt,ws⟩ ⟨wk,wp,ww,wt,ws⟩=some true:=part_of rfl _
   have h4:ws≤u:=by omega
   rcases hkh with⟨rfl,rfl⟩|⟨rfl,rfl⟩
   ·unfold a8
    simp -implicitDefEqProofs [hM,hQ,hE,hH,hR,hP,hW,hR2,h2,hV,h4]
   ·unfold a8
    simp -implicitDefEqProofs [hM,hQ,hE,hH,hR,hP,hW,hR2,h2,hV,h4]
 ·rw[if_neg h1] at hE
  unfold withBudget at *
  unfold a8
  simp -implicitDefEqProofs [hM,hQ,hE]
noncomputable def law_sp:List AV→Option AV:=sp3 fun (_:Forest) (_:Ask) (_:Int)=>some true
theorem law_holds:Contract Tryz.prog 8 law_sp :=
 contract_of_runs mixed (tbl_cons c_Model (tbl_cons c_Query (tbl_cons c_enough (tbl_cons c_Holds (tbl_cons c_Run (tbl_cons c_Proves (tbl_cons c_Within (tbl_cons c_Verdicts (tbl_cons c_awake tbl_nil))))))))) Tryz.func8 m8 (sp3_runs runs_law)
theorem law_says (f:Forest) (a:Ask) (less:Int):law_sp [Arg.enc f,Arg.enc a,Arg.enc less]=some (.bool true):=by
 simp only[law_sp,sp3,Arg.dec_enc,Option.bind_some]
 rfl
end Go.Co
