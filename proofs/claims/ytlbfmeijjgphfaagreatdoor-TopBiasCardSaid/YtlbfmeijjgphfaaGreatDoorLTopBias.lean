/- The law TopBias: what its text computes. -/
import Derived.Test.YtlbfmeijjgphfaaGreatDoorCz12
import Derived.Test.YtlbfmeijjgphfaaGreatDoorCz13
set_option maxHeartbeats 16000000
set_option maxRecDepth 100000
namespace Go.Co
open Go.Am Go.Proofs
set_option linter.unusedSimpArgs false
set_option linter.unusedVariables false
attribute [-simp] Go.Am.eff_gcall Go.Am.eff_gcal2
def c6_38:ACode:=.seq (.ops [⟨some 3,.box (.t 0) 4,none,[]⟩,⟨some 4,.box (.t 1) 8,none,[]⟩,⟨some 6,.mv (.c (.bool false)),none,[]⟩] [2,3,4]) (.seq (.ops [⟨some 14,.load 4 true (.t 3),none,[3]⟩,⟨some 15,.call 10 [.t 14],none,[]⟩,⟨some 7,.alloc [.int .i64 0,.int .i64 0,.int .i64 0,.int .i64 0,.int .i64 0,.nils],none,[]⟩,⟨none,.store (.t 7) 6 (.t 15),none,[7]⟩] [2,4,7]) (.seq (.ops [⟨some 17,.load 6 true (.t 7),none,[7]⟩,⟨some 18,.load 8 true (.t 4),none,[4]⟩,⟨some 19,.load 6 true (.t 7),none,[7]⟩,⟨some 20,.call 12 [.t 18,.t 19],none,[]⟩,⟨some 21,.call 11 [.t 17,.t 20],none,[]⟩,⟨some 16,.mv (.t 21),none,[]⟩,⟨some 22,.ext (.t 16) 0,none,[]⟩,⟨some 23,.ext (.t 16) 1,none,[]⟩,⟨some 8,.alloc [.int .i64 0,.int .i64 0,.int .i64 0,.int .i64 0,.int .i64 0,.int .i64 0,.int .i64 0,.int .i64 0,.int .i64 0,.int .i64 0,.int .i64 0,.int .i64 0,.int .i64 0,.int .i64 0,.int .i64 0,.bool false,.int .i64 0],none,[]⟩,⟨none,.store (.t 8) 17 (.t 22),none,[8]⟩,⟨some 9,.mv (.t 23),none,[]⟩] [2,7,8,9]) (.seq (.seq (.ops [⟨some 24,.mv (.t 9),none,[]⟩,⟨some 25,.un .not (.t 24),none,[]⟩] [2,7,8,25]) (.cond (.t 25) (.seq (.ops [⟨some 26,.call 13 [],none,[]⟩,⟨some 6,.mv (.t 26),none,[]⟩] [6]) .ret) .skip)) (.seq (.ops [⟨some 27,.mv (.t 2),none,[]⟩,⟨some 28,.call 17 [.t 27,.c (.int .i64 (-1000)),.c (.int .i64 1000)],none,[]⟩,⟨some 10,.mv (.t 28),none,[]⟩] [7,8,10]) (.seq (.ops [⟨some 29,.load 6 true (.t 7),none,[7]⟩,⟨some 11,.alloc [.int .i64 0,.int .i64 0,.int .i64 0,.int .i64 0,.int .i64 0,.nils],none,[]⟩,⟨none,.store (.t 11) 6 (.t 29),none,[11]⟩] [7,8,10,11]) (.seq (.seq (.ops [⟨some 12,.mv (.c (.int .i64 0)),none,[]⟩] [7,8,10,11,12]) (.block 0 (.loop (.keep [7,8,10,11,12] [7,8,11] (.seq (.seq (.ops [⟨some 30,.mv (.t 12),none,[]⟩,⟨some 31,.fad (.t 7) 1,none,[7]⟩,⟨some 32,.load 1 false (.t 31),none,[7]⟩,⟨some 33,.bin .lss (.t 30) (.t 32),none,[]⟩] [7,8,10,11,12,33]) (.cond (.t 33) .skip (.exit 0))) (.seq (.block 1 (.ops [⟨some 36,.mv (.t 12),none,[]⟩,⟨some 37,.mv (.t 12),none,[]⟩,⟨some 38,.fad (.t 11) 2,none,[11]⟩,⟨some 39,.iad (.t 38) (.t 37) 1 3,none,[11]⟩,⟨some 40,.load 1 false (.t 39),none,[11]⟩,⟨some 41,.mv (.t 10),none,[]⟩,⟨some 42,.bin .add (.t 40) (.t 41),none,[]⟩,⟨some 43,.fad (.t 11) 2,none,[11]⟩,⟨some 44,.iad (.t 43) (.t 36) 1 3,none,[11]⟩,⟨none,.store (.t 44) 1 (.t 42),none,[11]⟩] [7,8,10,11,12])) (.ops [⟨some 34,.mv (.t 12),none,[]⟩,⟨some 35,.bin .add (.t 34) (.c (.int .i64 1)),none,[]⟩,⟨some 12,.mv (.t 35),none,[]⟩] [7,8,10,11,12]))))))) (.seq (.ops [⟨some 45,.load 17 true (.t 8),none,[8]⟩,⟨some 13,.alloc [.int .i64 0,.int .i64 0,.int .i64 0,.int .i64 0,.int .i64 0,.int .i64 0,.int .i64 0,.int .i64 0,.int .i64 0,.int .i64 0,.int .i64 0,.int .i64 0,.int .i64 0,.int .i64 0,.int .i64 0,.bool false,.int .i64 0],none,[]⟩,⟨none,.store (.t 13) 17 (.t 45),none,[13]⟩] [7,8,10,11,13]) (.seq (.seq (.ops [⟨some 46,.fad (.t 8) 0,none,[8]⟩,⟨some 47,.load 1 false (.t 46),none,[8]⟩,⟨some 48,.bin .eql (.t 47) (.c (.int .i64 1)),none,[]⟩] [7,8,10,11,13,48]) (.cond (.t 48) (.ops [⟨some 49,.fad (.t 8) 12,none,[8]⟩,⟨some 50,.load 1 false (.t 49),none,[8]⟩,⟨some 51,.mv (.t 10),none,[]⟩,⟨some 52,.bin .add (.t 50) (.t 51),none,[]⟩,⟨some 53,.fad (.t 8) 13,none,[8]⟩,⟨some 54,.load 1 false (.t 53),none,[8]⟩,⟨some 55,.mv (.t 10),none,[]⟩,⟨some 56,.bin .add (.t 54) (.t 55),none,[]⟩,⟨some 57,.fad (.t 13) 12,none,[13]⟩,⟨none,.store (.t 57) 1 (.t 52),none,[13]⟩,⟨some 58,.fad (.t 13) 13,none,[13]⟩,⟨none,.store (.t 58) 1 (.t 56),none,[13]⟩] [7,8,11,13]) .skip)) (.seq (.ops [⟨some 59,.load 6 true (.t 7),none,[7]⟩,⟨some 60,.load 17 true (.t 8),none,[8]⟩,⟨some 61,.call 14 [.t 59,.t 60],none,[]⟩,⟨some 62,.load 6 true (.t 11),none,[11]⟩,⟨some 63,.load 17 true (.t 13),none,[13]⟩,⟨some 64,.call 14 [.t 62,.t 63],none,[]⟩,⟨some 65,.call 21 [.t 61,.t 64],none,[]⟩,⟨some 66,.mv (.t 65),none,[]⟩,⟨some 67,.call 13 [],some (66,true),[]⟩,⟨some 68,.pick (.t 66) (.t 67) (.c (.bool false)),none,[]⟩,⟨some 6,.mv (.t 68),none,[]⟩] [6]) .ret)))))))))
theorem r6_38:type_of% (rr c6_38.eq_1):=rr rfl
def a6:AFun:=⟨3,69,c6_38,[.t 6]⟩
attribute [simp] r6_38
theorem m6:mFun Tryz.prog Tryz.f6 a6=true:=by decide +kernel
noncomputable abbrev tbT:Cs:=tbl [(10,sp1 ModelC),(12,sp2 QueryC),(11,sp2 EnoughC),(17,sp3 Within),(14,sp2 RunC),(21,sp2 VerdictsC),(13,sp0 (some true))]
theorem query_range (m:Model) (a:Ask):-9000≤(queryOf m a).lo∧(queryOf m a).lo≤9000∧-9000≤(queryOf m a).hi∧(queryOf m a).hi≤27000:=by
 have h1:=within_le a.lo (-9000) 9000 (by omega)
 have h2:=within_le a.size 0 18000 (by omega)
 unfold queryOf
 simp only[]
 split<;>omega
theorem runs_law (f:Forest) (a:Ask) (by_:Int) (c:Bool) (h:some true=some c):Runs tbT a6 [Arg.enc f,Arg.enc a,Arg.enc by_] (Arg.enc c):=by
 cases h
 refine⟨rfl,fun g=>run_def ?_⟩
 have hm:=rm_modelOf f
 have hM:ModelC f=some (modelOf f):=rfl
 have c0:-500≤(modelOf f).bias.b0∧(modelOf f).bias.b0≤500:=mBias_le f 0
 have c1:-500≤(modelOf f).bias.b1∧(modelOf f).bias.b1≤500:=mBias_le f 1
 have c2:-500≤(modelOf f).bias.b2∧(modelOf f).bias.b2≤500:=mBias_le f 2
 generalize modelOf f=m at *
 have hQ:QueryC a m=some (queryOf m a):=part_of ⟨hm.dim.1,hm.dim.2,hm.classes.1,hm.classes.2⟩ _
 have hrg:=query_range m a
 generalize queryOf m a=q at *
 have hE:EnoughC m q=some (if countM m q (startOf q)≤1500 then (withBudget q (2*countM m q (startOf q)),true) else (withBudget q 0,false)):=part_of hm _
 generalize hcc:countM m q (startOf q)=cc at *
 have hW:=within_of by_ (-1000) 1000 (by omega)
 have hw:=within_le by_ (-1000) 1000 (by omega)
 generalize within by_ (-1000) 1000=d at *
 by_cases h1:cc≤1500
 ·rw[if_pos h1] at hE
  have hr:=rm_shift hm (d:=d) ⟨fits_of (by omega),fits_of (by omega),fits_of (by omega)⟩
  have hR1:RunC m (withBudget q (2*cc))=some (searchM m (withBudget q (2*cc))):=part_of hm _
  have hR2:RunC (shiftM m d) (shiftQ (withBudget q (2*cc)) d)=some (searchM m (withBudget q (2*cc))):=by
   rw[← search_shift hm (withBudget q (2*cc)) d]
   exact part_of hr _
  generalize searchM m (withBudget q (2*cc))=v at *
  have hV:VerdictsC v v=some true:=part_of rfl _
  have hcl:=hm.classes
  clear hcc hr hm
  unfold withBudget at *
  unfold shiftM shiftQ at hR2
  obtain⟨kind,cls,region,lo,hi,feature,falls,budget⟩:=q
  obtain⟨dim,classes,⟨b0,b1,b2⟩,trees⟩:=m
  simp only at c0 c1 c2 hrg hcl hR1 hR2 hE
  have w0:IntKind.i64.wrap (b0+d)=b0+d:=wrap64 (by omega) (by omega)
  have w1:IntKind.i64.wrap (b1+d)=b1+d:=wrap64 (by omega) (by omega)
  have w2:IntKind.i64.wrap (b2+d)=b2+d:=wrap64 (by omega) (by omega)
  have w3:IntKind.i64.wrap (lo+d)=lo+d:=wrap64 (by omega) (by omega)
  have w4:IntKind.i64.wrap (hi+d)=hi+d:=wrap64 (by omega) (by omega)
  have hcs:classes=1∨classes=2∨classes=3:=by omega
  unfold a6
  by_cases k1:kind=1
  ·subst k1
   simp only[if_true] at hR2
   rcases hcs with rfl|rfl|rfl
   ·rw[if_pos (by omega),if_pos (by omega)] at hR2
    simp -implicitDefEqProofs [hM,hQ,hE,hW,hR1,hR2,hV,w0,w1,w2,w3,w4,run_round]
   ·rw[if_neg (by omega),if_pos (by omega)] at hR2
    simp -implicitDefEqProofs [hM,hQ,hE,hW,hR1,hR2,hV,w0,w1,w2,w3,w4,run_round]
   ·rw[if_neg (by omega),if_neg (by omega)] at hR2
    simp -implicitDefEqProofs [hM,hQ,hE,hW,hR1,hR2,hV,w0,w1,w2,w3,w4,run_round]
  ·simp only[if_neg k1] at hR2
   rcases hcs with rfl|rfl|rfl
   ·rw[if_pos (by omega),if_pos (by omega)] at hR2
    simp -implicitDefEqProofs [hM,hQ,hE,hW,hR1,hR2,hV,k1,w0,w1,w2,run_round]
   ·rw[if_neg (by omega),if_pos (by omega)] at hR2
    simp -implicitDefEqProofs [hM,hQ,hE,hW,hR1,hR2,hV,k1,w0,w1,w2,run_round]
   ·rw[if_neg (by omega),if_neg (by omega)] at hR2
    simp -implicitDefEqProofs [hM,hQ,hE,hW,hR1,hR2,hV,k1,w0,w1,w2,run_round]
 ·rw[if_neg h1] at hE
  unfold withBudget at *
  unfold a6
  simp -implicitDefEqProofs [hM,hQ,hE]
noncomputable def law_sp:List AV→Option AV:=sp3 fun (_:Forest) (_:Ask) (_:Int)=>some true
theorem law_holds:Contract Tryz.prog 6 law_sp :=
 contract_of_runs mixed (tbl_cons c_Model (tbl_cons c_Query (tbl_cons c_enough (tbl_cons c_Within (tbl_cons c_Run (tbl_cons c_Verdicts (tbl_cons c_awake tbl_nil))))))) Tryz.func6 m6 (sp3_runs runs_law)
theorem law_says (f:Forest) (a:Ask) (by_:Int):law_sp [Arg.enc f,Arg.enc a,Arg.enc by_]=some (.bool true):=by
 simp only[law_sp,sp3,Arg.dec_enc,Option.bind_some]
 rfl
end Go.Co
