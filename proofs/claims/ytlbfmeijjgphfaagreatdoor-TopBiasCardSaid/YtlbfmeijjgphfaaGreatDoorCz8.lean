/- CO: texts of this claim, one behind the other. -/
import Derived.Test.YtlbfmeijjgphfaaGreatDoorCz5
import Derived.Test.YtlbfmeijjgphfaaGreatDoorCz7
set_option linter.unusedVariables false
set_option linter.unusedSimpArgs false
/- CO: pairs. -/
set_option maxHeartbeats 16000000
set_option maxRecDepth 100000
namespace Go.Co
open Go.Am Go.Proofs
def c150_3:ACode:=.seq (.ops [⟨some 1,.box (.t 0) 17,none,[]⟩,⟨some 2,.mv (.c (.bool false)),none,[]⟩] [1]) (.seq (.ops [⟨some 3,.fad (.t 1) 0,none,[1]⟩,⟨some 4,.load 1 false (.t 3),none,[1]⟩,⟨some 5,.bin .eql (.t 4) (.c (.int .i64 3)),none,[]⟩,⟨some 6,.mv (.t 5),none,[]⟩,⟨some 7,.fad (.t 1) 14,some (6,true),[1]⟩,⟨some 8,.load 1 false (.t 7),some (6,true),[1]⟩,⟨some 9,.bin .geq (.t 8) (.c (.int .i64 0)),some (6,true),[]⟩,⟨some 10,.pick (.t 6) (.t 9) (.c (.bool false)),none,[]⟩,⟨some 11,.mv (.t 10),none,[]⟩,⟨some 12,.fad (.t 1) 14,some (11,true),[1]⟩,⟨some 13,.load 1 false (.t 12),some (11,true),[1]⟩,⟨some 14,.bin .lss (.t 13) (.c (.int .i64 4)),some (11,true),[]⟩,⟨some 15,.pick (.t 11) (.t 14) (.c (.bool false)),none,[]⟩,⟨some 2,.mv (.t 15),none,[]⟩] [2]) .ret)
theorem r150_3:type_of% (rr c150_3.eq_1):=rr rfl
def a150:AFun:=⟨1,16,c150_3,[.t 2]⟩
attribute [simp] r150_3
theorem m150:mFun Tryz.prog Tryz.f150 a150=true:=by decide +kernel
def c151_8:ACode:=.seq (.ops [⟨some 2,.box (.t 0) 17,none,[]⟩,⟨some 3,.box (.t 1) 10,none,[]⟩,⟨some 4,.alloc [.int .i64 0,.int .i64 0,.int .i64 0,.int .i64 0,.int .i64 0,.int .i64 0,.int .i64 0,.int .i64 0,.int .i64 0,.int .i64 0],none,[]⟩] [2,3,4]) (.seq (.seq (.ops [⟨some 5,.load 17 true (.t 2),none,[2]⟩,⟨some 6,.call 150 [.t 5],none,[]⟩] [3,4,6]) (.cond (.t 6) (.ops [⟨some 7,.build [.int .i64 0,.int .i64 0] [],none,[]⟩,⟨some 8,.iad (.t 3) (.c (.int .i64 4)) 2 5,none,[3]⟩,⟨none,.store (.t 8) 2 (.t 7),none,[3]⟩] [3,4]) .skip)) (.seq (.ops [⟨some 9,.load 10 true (.t 3),none,[3]⟩,⟨none,.store (.t 4) 10 (.t 9),none,[4]⟩] [4]) .ret))
theorem r151_8:type_of% (rr c151_8.eq_1):=rr rfl
def a151:AFun:=⟨2,10,c151_8,[.cell 4 10 true]⟩
attribute [simp] r151_8
theorem m151:mFun Tryz.prog Tryz.f151 a151=true:=by decide +kernel
def c152_8:ACode:=.seq (.ops [⟨some 2,.box (.t 0) 17,none,[]⟩,⟨some 3,.box (.t 1) 10,none,[]⟩,⟨some 4,.alloc [.int .i64 0,.int .i64 0,.int .i64 0,.int .i64 0,.int .i64 0,.int .i64 0,.int .i64 0,.int .i64 0,.int .i64 0,.int .i64 0],none,[]⟩] [2,3,4]) (.seq (.seq (.ops [⟨some 5,.load 17 true (.t 2),none,[2]⟩,⟨some 6,.call 150 [.t 5],none,[]⟩] [2,3,4,6]) (.cond (.t 6) (.ops [⟨some 7,.fad (.t 2) 14,none,[2]⟩,⟨some 8,.load 1 false (.t 7),none,[2]⟩,⟨some 9,.iad (.t 3) (.c (.int .i64 4)) 2 5,none,[3]⟩,⟨some 10,.load 2 true (.t 9),none,[3]⟩,⟨some 11,.build [.int .i64 0,.int .i64 0] [],none,[]⟩,⟨some 12,.iad (.t 3) (.t 8) 2 5,none,[3]⟩,⟨none,.store (.t 12) 2 (.t 10),none,[3]⟩,⟨some 13,.iad (.t 3) (.c (.int .i64 4)) 2 5,none,[3]⟩,⟨none,.store (.t 13) 2 (.t 11),none,[3]⟩] [3,4]) .skip)) (.seq (.ops [⟨some 14,.load 10 true (.t 3),none,[3]⟩,⟨none,.store (.t 4) 10 (.t 14),none,[4]⟩] [4]) .ret))
theorem r152_8:type_of% (rr c152_8.eq_1):=rr rfl
def a152:AFun:=⟨2,15,c152_8,[.cell 4 10 true]⟩
attribute [simp] r152_8
theorem m152:mFun Tryz.prog Tryz.f152 a152=true:=by decide +kernel
def c111_3:ACode:=.seq (.ops [⟨some 2,.box (.t 0) 17,none,[]⟩,⟨some 3,.box (.t 1) 10,none,[]⟩,⟨some 4,.mv (.c (.bool false)),none,[]⟩] [2,3]) (.seq (.ops [⟨some 5,.load 17 true (.t 2),none,[2]⟩,⟨some 6,.call 150 [.t 5],none,[]⟩,⟨some 7,.mv (.t 6),none,[]⟩,⟨some 8,.load 10 true (.t 3),some (7,true),[3]⟩,⟨some 9,.call 52 [.t 8],some (7,true),[]⟩,⟨some 10,.un .not (.t 9),some (7,true),[]⟩,⟨some 11,.pick (.t 7) (.t 10) (.c (.bool false)),none,[]⟩,⟨some 12,.mv (.t 11),none,[]⟩,⟨some 13,.fad (.t 2) 14,some (12,true),[2]⟩,⟨some 14,.load 1 false (.t 13),some (12,true),[2]⟩,⟨some 15,.iad (.t 3) (.t 14) 2 5,some (12,true),[3]⟩,⟨some 16,.fad (.t 15) 0,some (12,true),[3]⟩,⟨some 17,.load 1 false (.t 16),some (12,true),[3]⟩,⟨some 18,.iad (.t 3) (.c (.int .i64 4)) 2 5,some (12,true),[3]⟩,⟨some 19,.fad (.t 18) 1,some (12,true),[3]⟩,⟨some 20,.load 1 false (.t 19),some (12,true),[3]⟩,⟨some 21,.bin .lss (.t 17) (.t 20),some (12,true),[]⟩,⟨some 22,.pick (.t 12) (.t 21) (.c (.bool false)),none,[]⟩,⟨some 4,.mv (.t 22),none,[]⟩] [4]) .ret)
theorem r111_3:type_of% (rr c111_3.eq_1):=rr rfl
def a111:AFun:=⟨2,23,c111_3,[.t 4]⟩
attribute [simp] r111_3
theorem m111:mFun Tryz.prog Tryz.f111 a111=true:=by decide +kernel
def c112_13:ACode:=.seq (.ops [⟨some 3,.box (.t 0) 6,none,[]⟩,⟨some 4,.box (.t 1) 17,none,[]⟩,⟨some 5,.box (.t 2) 10,none,[]⟩,⟨some 6,.mv (.c (.int .i64 0)),none,[]⟩,⟨some 7,.mv (.c (.int .i64 0)),none,[]⟩,⟨some 8,.mv (.c (.bool false)),none,[]⟩] [3,4,5]) (.seq (.ops [⟨some 16,.load 6 true (.t 3),none,[3]⟩,⟨some 17,.fad (.t 4) 1,none,[4]⟩,⟨some 18,.load 1 false (.t 17),none,[4]⟩,⟨some 19,.load 17 true (.t 4),none,[4]⟩,⟨some 20,.load 10 true (.t 5),none,[5]⟩,⟨some 21,.call 151 [.t 19,.t 20],none,[]⟩,⟨some 22,.call 109 [.t 16,.t 18,.t 21],none,[]⟩,⟨some 15,.mv (.t 22),none,[]⟩,⟨some 23,.ext (.t 15) 0,none,[]⟩,⟨some 24,.ext (.t 15) 1,none,[]⟩,⟨some 25,.ext (.t 15) 2,none,[]⟩,⟨some 9,.mv (.t 23),none,[]⟩,⟨some 10,.mv (.t 24),none,[]⟩,⟨some 11,.mv (.t 25),none,[]⟩] [3,4,5,9,10,11]) (.seq (.ops [⟨some 27,.load 6 true (.t 3),none,[3]⟩,⟨some 28,.fad (.t 4) 1,none,[4]⟩,⟨some 29,.load 1 false (.t 28),none,[4]⟩,⟨some 30,.load 17 true (.t 4),none,[4]⟩,⟨some 31,.load 10 true (.t 5),none,[5]⟩,⟨some 32,.call 152 [.t 30,.t 31],none,[]⟩,⟨some 33,.call 109 [.t 27,.t 29,.t 32],none,[]⟩,⟨some 26,.mv (.t 33),none,[]⟩,⟨some 34,.ext (.t 26) 0,none,[]⟩,⟨some 35,.ext (.t 26) 1,none,[]⟩,⟨some 36,.ext (.t 26) 2,none,[]⟩,⟨some 12,.mv (.t 34),none,[]⟩,⟨some 13,.mv (.t 35),none,[]⟩,⟨some 14,.mv (.t 36),none,[]⟩] [4,9,10,11,12,13,14]) (.seq (.seq (.ops [⟨some 37,.load 17 true (.t 4),none,[4]⟩,⟨some 38,.call 150 [.t 37],none,[]⟩,⟨some 39,.un .not (.t 38),none,[]⟩,⟨some 40,.mv (.t 39),none,[]⟩,⟨some 41,.mv (.t 11),some (40,false),[]⟩,⟨some 42,.un .not (.t 41),some (40,false),[]⟩,⟨some 43,.pick (.t 40) (.c (.bool true)) (.t 42),none,[]⟩,⟨some 44,.mv (.t 43),none,[]⟩,⟨some 45,.mv (.t 14),some (44,false),[]⟩,⟨some 46,.un .not (.t 45),some (44,false),[]⟩,⟨some 47,.pick (.t 44) (.c (.bool true)) (.t 46),none,[]⟩] [9,10,12,13,47]) (.cond (.t 47) (.seq (.ops [⟨some 6,.mv (.c (.int .i64 0)),none,[]⟩,⟨some 7,.mv (.c (.int .i64 0)),none,[]⟩,⟨some 8,.mv (.c (.bool false)),none,[]⟩] [6,7,8]) .ret) .skip)) (.seq (.ops [⟨some 48,.mv (.t 12),none,[]⟩,⟨some 49,.mv (.t 10),none,[]⟩,⟨some 50,.bin .sub (.t 48) (.t 49),none,[]⟩,⟨some 51,.mv (.t 13),none,[]⟩,⟨some 52,.mv (.t 9),none,[]⟩,⟨some 53,.bin .sub (.t 51) (.t 52),none,[]⟩,⟨some 6,.mv (.t 50),none,[]⟩,⟨some 7,.mv (.t 53),none,[]⟩,⟨some 8,.mv (.c (.bool true)),none,[]⟩] [6,7,8]) .ret))))
theorem r112_13:type_of% (rr c112_13.eq_1):=rr rfl
def a112:AFun:=⟨3,54,c112_13,[.t 6,.t 7,.t 8]⟩
attribute [simp] r112_13
theorem m112:mFun Tryz.prog Tryz.f112 a112=true:=by decide +kernel
theorem runs_pairs (q:Query) (c:Bool) (h:some (paired q)=some c):Runs (tbl []) a150 [Arg.enc q] (Arg.enc c):=by
 cases h
 refine⟨rfl,fun g=>run_def ?_⟩
 unfold a150
 by_cases k1:q.kind=3
 case neg=>simp -implicitDefEqProofs [paired,k1]
 by_cases k2:0≤q.feature
 case neg=>simp -implicitDefEqProofs [paired,k1,k2]
 simp -implicitDefEqProofs [paired,k1,k2]
theorem c_pairs:Contract Tryz.prog 150 (sp1 fun q=>some (paired q)) :=
 contract_of_runs mixed tbl_nil Tryz.func150 m150 (sp1_runs runs_pairs)
def firstB (q:Query) (b:Box):Box:=if paired q then { b with s4:=⟨0,0⟩ } else b
def secondB (q:Query) (b:Box):Box:=if paired q then { b.set q.feature b.s4 with s4:=⟨0,0⟩ } else b
def orderedB (q:Query) (b:Box):Bool:=paired q && !b.empty&&decide ((b.get q.feature).lo<b.s4.hi)
theorem runs_First (q:Query) (b:Box) (c:Box) (h:some (firstB q b)=some c):Runs (tbl [(150,sp1 fun q=>some (paired q))]) a151 [Arg.enc q,Arg.enc b] (Arg.enc c):=by
 cases h
 refine⟨rfl,fun g=>run_def ?_⟩
 unfold a151
 cases hp:paired q<;>simp -implicitDefEqProofs [firstB,hp]
theorem c_First:Contract Tryz.prog 151 (sp2 fun q b=>some (firstB q b)) :=
 contract_of_runs mixed (tbl_cons c_pairs tbl_nil) Tryz.func151 m151 (sp2_runs runs_First)
theorem runs_cSecond (q:Query) (b:Box) (c:Box) (h:some (secondB q b)=some c):Runs (tbl [(150,sp1 fun q=>some (paired q))]) a152 [Arg.enc q,Arg.enc b] (Arg.enc c):=by
 cases h
 refine⟨rfl,fun g=>run_def ?_⟩
 unfold a152
 cases hp:paired q
 ·simp -implicitDefEqProofs [secondB,hp]
 ·have hf:=paired_feature hp
  obtain⟨kind,cls,region,lo,hi,feature,falls,budget⟩:=q
  simp only at hf
  rcases hf with rfl|rfl|rfl|rfl<;>simp -implicitDefEqProofs [secondB,hp,Box.set]
theorem c_cSecond:Contract Tryz.prog 152 (sp2 fun q b=>some (secondB q b)) :=
 contract_of_runs mixed (tbl_cons c_pairs tbl_nil) Tryz.func152 m152 (sp2_runs runs_cSecond)
theorem runs_Ordered (q:Query) (b:Box) (c:Bool) (h:some (orderedB q b)=some c):Runs (tbl [(150,sp1 fun q=>some (paired q)),(52,sp1 fun (b:Box)=>some b.empty)]) a111 [Arg.enc q,Arg.enc b] (Arg.enc c):=by
 cases h
 refine⟨rfl,fun g=>run_def ?_⟩
 unfold a111
 cases hp:paired q
 ·simp -implicitDefEqProofs [orderedB,hp]
 ·have hf:=paired_feature hp
  cases he:b.empty
  case true=>simp -implicitDefEqProofs [orderedB,hp,he]
  obtain⟨kind,cls,region,lo,hi,feature,falls,budget⟩:=q
  simp only at hf
  rcases hf with rfl|rfl|rfl|rfl<;>simp -implicitDefEqProofs [orderedB,hp,he,Box.get]
theorem c_Ordered:Contract Tryz.prog 111 (sp2 fun q b=>some (orderedB q b)) :=
 contract_of_runs mixed (tbl_cons c_pairs (tbl_cons c_bEmpty tbl_nil)) Tryz.func111 m111 (sp2_runs runs_Ordered)
def changeM (m:Model) (q:Query) (b:Box):Tri Int Int Bool :=
 if paired q&&(boundM m q.cls (firstB q b)).c&&(boundM m q.cls (secondB q b)).c then
  ⟨(boundM m q.cls (secondB q b)).a-(boundM m q.cls (firstB q b)).b,(boundM m q.cls (secondB q b)).b-(boundM m q.cls (firstB q b)).a,true⟩ else ⟨0,0,false⟩
theorem boundM_le {m:Model} (hm:RM m) (c:Int) (b:Box):-19327352832≤(boundM m c b).a∧(boundM m c b).a≤19327352823∧-19327352832≤(boundM m c b).b∧(boundM m c b).b≤19327352823:=by
 unfold boundM
 split
 ·simp
 ·rename_i h
  have he:b.empty=false:=by cases he:b.empty<;>simp[he] at h ⊢
  have:=boundP_le hm c he
  simp only
  omega
theorem okB_first {b:Box} (h:okB b) (q:Query):okB (firstB q b)∧okB (secondB q b):=by
 have z:okS64 ⟨0,0⟩:=by unfold okS64 ok64;simp only;omega
 unfold firstB secondB
 cases paired q
 ·exact⟨h,h⟩
 ·have h2:=okB_set h q.feature h.2.2.2.2
  exact⟨⟨h.1,h.2.1,h.2.2.1,h.2.2.2.1,z⟩,h2.1,h2.2.1,h2.2.2.1,h2.2.2.2.1,z⟩
noncomputable def ChangeC (m:Model) (q:Query) (b:Box):Option (Tri Int Int Bool):=Part (RM m∧okB b) (changeM m q b)
theorem runs_Change (m:Model) (q:Query) (b:Box) (c:Tri Int Int Bool) (h:ChangeC m q b=some c):Runs (tbl [(151,sp2 fun q b=>some (firstB q b)),(152,sp2 fun q b=>some (secondB q b)),(109,sp3 BoundS),(150,sp1 fun q=>some (paired q))]) a112 [Arg.enc m,Arg.enc q,Arg.enc b] (Arg.enc c):=by
 obtain⟨⟨hm,hb⟩,rfl⟩:=part_some h
 clear h
 refine⟨rfl,fun g=>run_def ?_⟩
 unfold a112
 have hk:=okB_first hb q
 have s1:BoundS m q.cls (firstB q b)=some (boundM m q.cls (firstB q b)):=part_of ⟨hm,hk.1⟩ _
 have s2:BoundS m q.cls (secondB q b)=some (boundM m q.cls (secondB q b)):=part_of ⟨hm,hk.2⟩ _
 have l1:=boundM_le hm q.cls (firstB q b)
 have l2:=boundM_le hm q.cls (secondB q b)
 have w1:IntKind.i64.wrap ((boundM m q.cls (secondB q b)).a-(boundM m q.cls (firstB q b)).b)=(boundM m q.cls (secondB q b)).a-(boundM m q.cls (firstB q b)).b:=wrap64 (by omega) (by omega)
 have w2:IntKind.i64.wrap ((boundM m q.cls (secondB q b)).b-(boundM m q.cls (firstB q b)).a)=(boundM m q.cls (secondB q b)).b-(boundM m q.cls (firstB q b)).a:=wrap64 (by omega) (by omega)
 cases hp:paired q
 case false=>simp -implicitDefEqProofs [changeM,hp,s1,s2]
 cases h1:(boundM m q.cls (firstB q b)).c
 case false=>simp -implicitDefEqProofs [changeM,hp,s1,s2,h1]
 cases h2:(boundM m q.cls (secondB q b)).c<;>simp -implicitDefEqProofs [changeM,hp,s1,s2,h1,h2,w1,w2]
theorem c_Change:Contract Tryz.prog 112 (sp3 ChangeC) :=
 contract_of_runs mixed (tbl_cons c_First (tbl_cons c_cSecond (tbl_cons c_bSum (tbl_cons c_pairs tbl_nil)))) Tryz.func112 m112 (sp3_runs runs_Change)
end Go.Co
/- CO: what changes of pairs are. -/
namespace Go.Co
open Go.Am Go.Proofs
end Go.Co
/- CO: do sums show what is asked within a box? where is it cut? -/
set_option maxHeartbeats 16000000
set_option maxRecDepth 100000
namespace Go.Co
open Go.Am Go.Proofs
attribute [-simp] Go.Am.eff_gcall
def c65_47:ACode:=.seq (.ops [⟨some 3,.box (.t 0) 6,none,[]⟩,⟨some 4,.box (.t 1) 17,none,[]⟩,⟨some 5,.box (.t 2) 10,none,[]⟩,⟨some 6,.mv (.c (.bool false)),none,[]⟩] [3,4,5]) (.seq (.seq (.ops [⟨some 15,.load 6 true (.t 3),none,[3]⟩,⟨some 16,.load 17 true (.t 4),none,[4]⟩,⟨some 17,.call 40 [.t 15,.t 16],none,[]⟩,⟨some 18,.un .not (.t 17),none,[]⟩] [3,4,5,18]) (.cond (.t 18) (.seq (.ops [⟨some 6,.mv (.c (.bool false)),none,[]⟩] [6]) .ret) .skip)) (.seq (.seq (.ops [⟨some 19,.load 10 true (.t 5),none,[5]⟩,⟨some 20,.call 52 [.t 19],none,[]⟩] [3,4,5,20]) (.cond (.t 20) (.seq (.ops [⟨some 6,.mv (.c (.bool true)),none,[]⟩] [6]) .ret) .skip)) (.seq (.seq (.ops [⟨some 21,.fad (.t 4) 0,none,[4]⟩,⟨some 22,.load 1 false (.t 21),none,[4]⟩] [3,4,5,22]) (.block 0 (.seq (.ops [⟨some 24,.bin .eql (.t 22) (.c (.int .i64 1)),none,[]⟩,⟨some 23,.mv (.t 24),none,[]⟩] [3,4,5,22,23]) (.cond (.t 23) (.seq (.ops [⟨some 26,.load 6 true (.t 3),none,[3]⟩,⟨some 27,.fad (.t 4) 1,none,[4]⟩,⟨some 28,.load 1 false (.t 27),none,[4]⟩,⟨some 29,.load 10 true (.t 5),none,[5]⟩,⟨some 30,.call 109 [.t 26,.t 28,.t 29],none,[]⟩,⟨some 25,.mv (.t 30),none,[]⟩,⟨some 31,.ext (.t 25) 0,none,[]⟩,⟨some 32,.ext (.t 25) 1,none,[]⟩,⟨some 33,.ext (.t 25) 2,none,[]⟩,⟨some 7,.mv (.t 31),none,[]⟩,⟨some 8,.mv (.t 32),none,[]⟩,⟨some 9,.mv (.t 33),none,[]⟩] [4,7,8,9]) (.seq (.ops [⟨some 34,.mv (.t 9),none,[]⟩,⟨some 35,.mv (.t 34),none,[]⟩,⟨some 36,.fad (.t 4) 12,some (35,true),[4]⟩,⟨some 37,.load 1 false (.t 36),some (35,true),[4]⟩,⟨some 38,.mv (.t 7),some (35,true),[]⟩,⟨some 39,.bin .leq (.t 37) (.t 38),some (35,true),[]⟩,⟨some 40,.pick (.t 35) (.t 39) (.c (.bool false)),none,[]⟩,⟨some 41,.mv (.t 40),none,[]⟩,⟨some 42,.mv (.t 8),some (41,true),[]⟩,⟨some 43,.fad (.t 4) 13,some (41,true),[4]⟩,⟨some 44,.load 1 false (.t 43),some (41,true),[4]⟩,⟨some 45,.bin .leq (.t 42) (.t 44),some (41,true),[]⟩,⟨some 46,.pick (.t 41) (.t 45) (.c (.bool false)),none,[]⟩,⟨some 6,.mv (.t 46),none,[]⟩] [6]) .ret)) (.seq (.ops [⟨some 48,.bin .eql (.t 22) (.c (.int .i64 2)),none,[]⟩,⟨some 47,.mv (.t 48),none,[]⟩] [3,4,5,47]) (.cond (.t 47) (.seq (.ops [⟨some 50,.load 6 true (.t 3),none,[3]⟩,⟨some 51,.fad (.t 4) 1,none,[4]⟩,⟨some 52,.load 1 false (.t 51),none,[4]⟩,⟨some 53,.load 10 true (.t 5),none,[5]⟩,⟨some 54,.call 110 [.t 50,.t 52,.t 53],none,[]⟩,⟨some 49,.mv (.t 54),none,[]⟩,⟨some 55,.ext (.t 49) 0,none,[]⟩,⟨some 56,.ext (.t 49) 1,none,[]⟩,⟨some 10,.mv (.t 55),none,[]⟩,⟨some 11,.mv (.t 56),none,[]⟩] [10,11]) (.seq (.ops [⟨some 57,.mv (.t 11),none,[]⟩,⟨some 58,.mv (.t 57),none,[]⟩,⟨some 59,.mv (.t 10),some (58,true),[]⟩,⟨some 60,.bin .gtr (.t 59) (.c (.int .i64 0)),some (58,true),[]⟩,⟨some 61,.pick (.t 58) (.t 60) (.c (.bool false)),none,[]⟩,⟨some 6,.mv (.t 61),none,[]⟩] [6]) .ret)) .skip)))))) (.seq (.seq (.ops [⟨some 62,.load 17 true (.t 4),none,[4]⟩,⟨some 63,.load 10 true (.t 5),none,[5]⟩,⟨some 64,.call 111 [.t 62,.t 63],none,[]⟩,⟨some 65,.un .not (.t 64),none,[]⟩] [3,4,5,65]) (.cond (.t 65) (.seq (.ops [⟨some 6,.mv (.c (.bool true)),none,[]⟩] [6]) .ret) .skip)) (.seq (.ops [⟨some 67,.load 6 true (.t 3),none,[3]⟩,⟨some 68,.load 17 true (.t 4),none,[4]⟩,⟨some 69,.load 10 true (.t 5),none,[5]⟩,⟨some 70,.call 112 [.t 67,.t 68,.t 69],none,[]⟩,⟨some 66,.mv (.t 70),none,[]⟩,⟨some 71,.ext (.t 66) 0,none,[]⟩,⟨some 72,.ext (.t 66) 1,none,[]⟩,⟨some 73,.ext (.t 66) 2,none,[]⟩,⟨some 12,.mv (.t 71),none,[]⟩,⟨some 13,.mv (.t 72),none,[]⟩,⟨some 14,.mv (.t 73),none,[]⟩] [4,12,13,14]) (.seq (.seq (.ops [⟨some 74,.fad (.t 4) 15,none,[4]⟩,⟨some 75,.load 1 false (.t 74),none,[4]⟩] [12,13,14,75]) (.cond (.t 75) (.seq (.ops [⟨some 76,.mv (.t 14),none,[]⟩,⟨some 77,.mv (.t 76),none,[]⟩,⟨some 78,.mv (.t 13),some (77,true),[]⟩,⟨some 79,.bin .leq (.t 78) (.c (.int .i64 0)),some (77,true),[]⟩,⟨some 80,.pick (.t 77) (.t 79) (.c (.bool false)),none,[]⟩,⟨some 6,.mv (.t 80),none,[]⟩] [6]) .ret) .skip)) (.seq (.ops [⟨some 81,.mv (.t 14),none,[]⟩,⟨some 82,.mv (.t 81),none,[]⟩,⟨some 83,.mv (.t 12),some (82,true),[]⟩,⟨some 84,.bin .geq (.t 83) (.c (.int .i64 0)),some (82,true),[]⟩,⟨some 85,.pick (.t 82) (.t 84) (.c (.bool false)),none,[]⟩,⟨some 6,.mv (.t 85),none,[]⟩] [6]) .ret)))))))
theorem r65_47:type_of% (rr c65_47.eq_1):=rr rfl
def a65:AFun:=⟨3,86,c65_47,[.t 6]⟩
attribute [simp] r65_47
theorem m65:mFun Tryz.prog Tryz.f65 a65=true:=by decide +kernel
def c67_25:ACode:=.seq (.ops [⟨some 3,.box (.t 0) 6,none,[]⟩,⟨some 4,.box (.t 1) 17,none,[]⟩,⟨some 5,.box (.t 2) 10,none,[]⟩,⟨some 6,.mv (.c (.int .i64 0)),none,[]⟩,⟨some 7,.mv (.c (.int .i64 0)),none,[]⟩,⟨some 8,.mv (.c (.bool false)),none,[]⟩] [3,4,5]) (.seq (.seq (.ops [⟨some 11,.mv (.c (.int .i64 0)),none,[]⟩] [3,4,5,11]) (.block 0 (.loop (.keep [3,4,5,11] [3,4,5] (.seq (.ops [⟨some 12,.bin .lss (.t 11) (.c (.int .i64 5)),none,[]⟩] [3,4,5,11,12]) (.seq (.cond (.t 12) .skip (.exit 0)) (.seq (.block 1 (.seq (.ops [⟨some 13,.mv (.t 11),none,[]⟩,⟨some 9,.mv (.t 13),none,[]⟩] [3,4,5,9,11]) (.seq (.ops [⟨some 14,.load 6 true (.t 3),none,[3]⟩,⟨some 15,.load 17 true (.t 4),none,[4]⟩,⟨some 16,.load 10 true (.t 5),none,[5]⟩,⟨some 17,.mv (.t 9),none,[]⟩,⟨some 18,.call 54 [.t 14,.t 15,.t 16,.t 17],none,[]⟩,⟨some 10,.mv (.t 18),none,[]⟩] [3,4,5,9,10,11]) (.seq (.ops [⟨some 19,.mv (.t 10),none,[]⟩,⟨some 20,.len (.t 19),none,[]⟩,⟨some 21,.bin .gtr (.t 20) (.c (.int .i64 0)),none,[]⟩] [3,4,5,9,10,11,21]) (.cond (.t 21) (.seq (.ops [⟨some 22,.mv (.t 9),none,[]⟩,⟨some 23,.mv (.t 10),none,[]⟩,⟨some 24,.mv (.t 10),none,[]⟩,⟨some 25,.len (.t 24),none,[]⟩,⟨some 26,.bin .sub (.t 25) (.c (.int .i64 1)),none,[]⟩,⟨some 27,.bin .quo (.t 26) (.c (.int .i64 2)),none,[]⟩,⟨some 28,.ias (.t 23) (.t 27) 1,none,[]⟩,⟨some 29,.load 1 false (.t 28),none,[]⟩,⟨some 6,.mv (.t 22),none,[]⟩,⟨some 7,.mv (.t 29),none,[]⟩,⟨some 8,.mv (.c (.bool true)),none,[]⟩] [6,7,8]) .ret) .skip))))) (.ops [⟨some 30,.bin .add (.t 11) (.c (.int .i64 1)),none,[]⟩,⟨some 11,.mv (.t 30),none,[]⟩] [3,4,5,11])))))))) (.seq (.ops [⟨some 6,.mv (.c (.int .i64 0)),none,[]⟩,⟨some 7,.mv (.c (.int .i64 0)),none,[]⟩,⟨some 8,.mv (.c (.bool false)),none,[]⟩] [6,7,8]) .ret))
theorem r67_25:type_of% (rr c67_25.eq_1):=rr rfl
def a67:AFun:=⟨3,31,c67_25,[.t 6,.t 7,.t 8]⟩
attribute [simp] r67_25
theorem m67:mFun Tryz.prog Tryz.f67 a67=true:=by decide +kernel
def c66_3:ACode:=.seq (.ops [⟨some 1,.box (.t 0) 10,none,[]⟩,⟨some 2,.alloc [.int .i64 0,.int .i64 0,.int .i64 0,.int .i64 0],none,[]⟩,⟨some 3,.mv (.c (.int .i64 0)),none,[]⟩] [1,2]) (.seq (.ops [⟨some 4,.load 10 true (.t 1),none,[1]⟩,⟨some 5,.call 48 [.t 4],none,[]⟩,⟨some 6,.iad (.t 1) (.c (.int .i64 4)) 2 5,none,[1]⟩,⟨some 7,.fad (.t 6) 1,none,[1]⟩,⟨some 8,.load 1 false (.t 7),none,[1]⟩,⟨none,.store (.t 2) 4 (.t 5),none,[2]⟩,⟨some 3,.mv (.t 8),none,[]⟩] [2,3]) .ret)
theorem r66_3:type_of% (rr c66_3.eq_1):=rr rfl
def a66:AFun:=⟨1,9,c66_3,[.cell 2 4 true,.t 3]⟩
attribute [simp] r66_3
theorem m66:mFun Tryz.prog Tryz.f66 a66=true:=by decide +kernel
def ahead (m:Model) (c:Int) (b:Box):Prop:=∀ o:Int,0≤o→o<m.classes→o≠c→0<marD m c b o
def closedM (m:Model) (q:Query) (b:Box):Bool :=
 if okQuery m q=false then false else if b.empty then true else
 if q.kind=1 then (boundM m q.cls b).c&&decide (q.lo≤(boundM m q.cls b).a)&&decide ((boundM m q.cls b).b≤q.hi) else
 if q.kind=2 then decide (0<margin m q.cls b) else
 if orderedB q b then (changeM m q b).c&&(if q.falls then decide ((changeM m q b).b≤0) else decide (0≤(changeM m q b).a)) else true
noncomputable def ClosedC (m:Model) (q:Query) (b:Box):Option Bool:=Part (RM m∧okB b) (closedM m q b)
theorem runs_Closed (m:Model) (q:Query) (b:Box) (r:Bool) (h:ClosedC m q b=some r):Runs (tbl [(40,sp2 QRight),(52,sp1 fun (b:Box)=>some b.empty),(109,sp3 BoundS),(110,sp3 MarginC),(111,sp2 fun q b=>some (orderedB q b)),(112,sp3 ChangeC)]) a65 [Arg.enc m,Arg.enc q,Arg.enc b] (Arg.enc r):=by
 obtain⟨⟨hm,hb⟩,rfl⟩:=part_some h
 clear h
 refine⟨rfl,fun g=>run_def ?_⟩
 unfold a65 closedM
 have hM:QRight m q=some (okQuery m q):=by unfold QRight;rw[if_neg (by have:=hm.dim;omega)];exact part_of hm _
 cases hq:okQuery m q
 case false=>simp -implicitDefEqProofs [hM,hq]
 cases he:b.empty
 case true=>simp -implicitDefEqProofs [hM,hq,he]
 have hs:=okQuery_spec hq
 have hk:=okKind_spec hs.2.2.2.2.2
 have hS:BoundS m q.cls b=some (boundM m q.cls b):=part_of ⟨hm,hb⟩ _
 have hC:ChangeC m q b=some (changeM m q b):=part_of ⟨hm,hb⟩ _
 have hG:2≤m.classes→MarginC m q.cls b=some (margin m q.cls b,true):=fun h=>by
  unfold MarginC
  rw[part_of ⟨hm,hb⟩,if_neg (by simp[he];omega)]
 generalize boundM m q.cls b=z at *
 generalize changeM m q b=y at *
 obtain⟨z1,z2,z3⟩:=z
 obtain⟨y1,y2,y3⟩:=y
 obtain⟨kind,cls,region,lo,hi,feature,falls,budget⟩:=q
 simp only at *
 by_cases k1:kind=1
 ·subst k1
  cases z3
  ·simp -implicitDefEqProofs [hM,hq,he,hS]
  ·by_cases c1:lo≤z1
   ·simp -implicitDefEqProofs [hM,hq,he,hS,c1]
   ·simp -implicitDefEqProofs [hM,hq,he,hS,c1]
 by_cases k2:kind=2
 ·subst k2
  have hG:=hG (by omega)
  simp -implicitDefEqProofs [hM,hq,he,hG]
 cases ho:orderedB ⟨kind,cls,region,lo,hi,feature,falls,budget⟩ b
 ·simp -implicitDefEqProofs [hM,hq,he,k1,k2,ho]
 cases falls<;>cases y3<;>simp -implicitDefEqProofs [hM,hq,he,k1,k2,ho,hC]
theorem c_Closed:Contract Tryz.prog 65 (sp3 ClosedC) :=
 contract_of_runs mixed (tbl_cons c_qRight (tbl_cons c_bEmpty (tbl_cons c_bSum (tbl_cons c_Margin (tbl_cons c_Ordered (tbl_cons c_Change tbl_nil)))))) Tryz.func65 m65 (sp3_runs runs_Closed)
theorem runs_gCorner (b:Box) (r:Point×Int) (h:some (lowB b,b.s4.hi)=some r):Runs (tbl [(48,sp1 fun b=>some (lowB b))]) a66 [Arg.enc b] (Arg.enc r):=by
 cases h
 refine⟨rfl,fun g=>run_def ?_⟩
 unfold a66
 simp -implicitDefEqProofs []
theorem c_gCorner:Contract Tryz.prog 66 (sp1 fun b=>some (lowB b,b.s4.hi)) :=
 contract_of_runs mixed (tbl_cons c_Low tbl_nil) Tryz.func66 m66 (sp1_runs runs_gCorner)
def midL (l:List Int):Int:=l.getD ((l.length-1)/2) 0
def splitFrom (m:Model) (q:Query) (b:Box):List Int→Tri Int Int Bool
 | []=>⟨0,0,false⟩
 | k::ks=>if cutsL m q b k=[] then splitFrom m q b ks else ⟨k,midL (cutsL m q b k),true⟩
def splitM (m:Model) (q:Query) (b:Box):Tri Int Int Bool:=splitFrom m q b [0,1,2,3,4]
theorem splitFrom_spec (m:Model) (q:Query) (b:Box):∀(ks:List Int),((splitFrom m q b ks).c=false∧splitFrom m q b ks=⟨0,0,false⟩∧∀ k∈ks,cutsL m q b k=[]) ∨
  ∃(l r:List Int) (k:Int),ks=l++k::r∧cutsL m q b k≠[]∧(∀ i∈l,cutsL m q b i=[])∧splitFrom m q b ks=⟨k,midL (cutsL m q b k),true⟩
 | []=>.inl ⟨rfl,rfl,fun k hk=>by simp at hk⟩
 | k::ks=>by
  unfold splitFrom
  by_cases h:cutsL m q b k=[]
  ·rw[if_pos h]
   rcases splitFrom_spec m q b ks with⟨h1,h2,h3⟩|⟨l,r,j,h1,h2,h3,h4⟩
   ·exact .inl ⟨h1,h2,fun i hi=>by
     rcases List.mem_cons.1 hi with rfl|hi
     ·exact h
     ·exact h3 i hi⟩
   ·exact .inr ⟨k::l,r,j,by rw[h1];rfl,h2,fun i hi=>by
     rcases List.mem_cons.1 hi with rfl|hi
     ·exact h
     ·exact h3 i hi,h4⟩
  ·rw[if_neg h]
   exact .inr ⟨[],ks,k,rfl,h,fun i hi=>by simp at hi,rfl⟩
noncomputable def SplitC (m:Model) (q:Query) (b:Box):Option (Tri Int Int Bool):=Part (RM m) (splitM m q b)
theorem runs_Split (m:Model) (q:Query) (b:Box) (r:Tri Int Int Bool) (h:SplitC m q b=some r):Runs (tbl [(54,sp4 CutsC)]) a67 [Arg.enc m,Arg.enc q,Arg.enc b] (Arg.enc r):=by
 obtain⟨hm,rfl⟩:=part_some h
 clear h
 refine⟨rfl,fun g=>run_def ?_⟩
 unfold a67 splitM
 have hK:∀ i:Int,0≤i→i≤4→CutsC m q b i=some (cutsL m q b i):=fun i i0 i5=>part_of ⟨hm,.inr ⟨i0,i5⟩⟩ _
 have hL:∀ i,(cutsL m q b i).length≤248:=fun i=>by rw[cutsL_len];exact cutN_le hm q b i
 have fin:∀(l:List Int),l.length≤248→l≠[]→0<l.length∧l.length≤maxN∧IntKind.i64.wrap ((l.length:Int)-1)=((l.length-1:Nat):Int)∧∃ x:Nat,IntKind.i64.wrap (((l.length-1:Nat):Int)/2)=(x:Int)∧x<l.length∧rd (encL l) x 1 false=some (.int .i64 (midL l)):=by
  intro l hl hne
  have hp:0<l.length:=List.length_pos_iff.2 hne
  have hlt:(l.length-1)/2<l.length:=by omega
  refine⟨by omega,by unfold maxN;omega, ?_,(l.length-1)/2, ?_,hlt, ?_⟩
  ·rw[show (l.length:Int)-1=((l.length-1:Nat):Int) by omega]
   exact wrap64 (by omega) (by omega)
  ·rw[show ((l.length-1:Nat):Int)/2=(((l.length-1)/2:Nat):Int) by omega]
   exact wrap64 (by omega) (by omega)
  ·rw[rd_ints l _ hlt]
   unfold midL
   simp[hlt]
 have K0:=hK 0 (by omega) (by omega)
 have K1:=hK 1 (by omega) (by omega)
 have K2:=hK 2 (by omega) (by omega)
 have K3:=hK 3 (by omega) (by omega)
 have K4:=hK 4 (by omega) (by omega)
 have L0:=fin _ (hL 0)
 have L1:=fin _ (hL 1)
 have L2:=fin _ (hL 2)
 have L3:=fin _ (hL 3)
 have L4:=fin _ (hL 4)
 clear hK hL fin
 unfold splitFrom splitFrom splitFrom splitFrom splitFrom splitFrom
 generalize cutsL m q b 0=l0 at *
 generalize cutsL m q b 1=l1 at *
 generalize cutsL m q b 2=l2 at *
 generalize cutsL m q b 3=l3 at *
 generalize cutsL m q b 4=l4 at *
 by_cases h0:l0=[]
 case neg =>
  obtain⟨a1,a2,a3,x,a4,a5,a6⟩:=L0 h0
  simp -implicitDefEqProofs [run_round,K0,h0,a1,a2,a3,a4,a5,a6,encL_nil]
 subst h0
 by_cases h1:l1=[]
 case neg =>
  obtain⟨a1,a2,a3,x,a4,a5,a6⟩:=L1 h1
  simp -implicitDefEqProofs [run_round,K0,K1,h1,a1,a2,a3,a4,a5,a6,encL_nil]
 subst h1
 by_cases h2:l2=[]
 case neg =>
  obtain⟨a1,a2,a3,x,a4,a5,a6⟩:=L2 h2
  simp -implicitDefEqProofs [run_round,K0,K1,K2,h2,a1,a2,a3,a4,a5,a6,encL_nil]
 subst h2
 by_cases h3:l3=[]
 case neg =>
  obtain⟨a1,a2,a3,x,a4,a5,a6⟩:=L3 h3
  simp -implicitDefEqProofs [run_round,K0,K1,K2,K3,h3,a1,a2,a3,a4,a5,a6,encL_nil]
 subst h3
 by_cases h4:l4=[]
 case neg =>
  obtain⟨a1,a2,a3,x,a4,a5,a6⟩:=L4 h4
  simp -implicitDefEqProofs [run_round,K0,K1,K2,K3,K4,h4,a1,a2,a3,a4,a5,a6,encL_nil]
 subst h4
 simp -implicitDefEqProofs [run_round,K0,K1,K2,K3,K4,encL_nil]
theorem c_Split:Contract Tryz.prog 67 (sp3 SplitC) :=
 contract_of_runs mixed (tbl_cons c_Cuts tbl_nil) Tryz.func67 m67 (sp3_runs runs_Split)
end Go.Co
/- CO: a part of a box, by numbers. -/
namespace Go.Co
open Go.Am Go.Proofs
attribute [-simp] Go.Am.eff_gcall
theorem rd_nlo (b:Box) (i:Nat) (h:i<5):rd [.int .i64 b.s0.lo,.int .i64 b.s0.hi,.int .i64 b.s1.lo,.int .i64 b.s1.hi,.int .i64 b.s2.lo,.int .i64 b.s2.hi,.int .i64 b.s3.lo,.int .i64 b.s3.hi,.int .i64 b.s4.lo,.int .i64 b.s4.hi] (i*2) 1 false=some (.int .i64 (b.get i).lo):=by
 have hf:i=0∨i=1∨i=2∨i=3∨i=4:=by omega
 rcases hf with rfl|rfl|rfl|rfl|rfl<;>rfl
theorem rd_nhi (b:Box) (i:Nat) (h:i<5):rd [.int .i64 b.s0.lo,.int .i64 b.s0.hi,.int .i64 b.s1.lo,.int .i64 b.s1.hi,.int .i64 b.s2.lo,.int .i64 b.s2.hi,.int .i64 b.s3.lo,.int .i64 b.s3.hi,.int .i64 b.s4.lo,.int .i64 b.s4.hi] (i*2+1) 1 false=some (.int .i64 (b.get i).hi):=by
 have hf:i=0∨i=1∨i=2∨i=3∨i=4:=by omega
 rcases hf with rfl|rfl|rfl|rfl|rfl<;>rfl
structure PartOk (b x:Box):Prop where
 some:x.empty=false
 sub:∀ i:Int,0≤i→i<5→(b.get i).lo≤(x.get i).lo∧(x.get i).hi≤(b.get i).hi
theorem PartOk.set {b x:Box} (h:PartOk b x) {i:Nat} (hi:i<5) {s:Span} (h1:s.lo≤s.hi) (h2:(x.get i).lo≤s.lo) (h3:s.hi≤(x.get i).hi):PartOk b (x.set i s):=by
 refine⟨empty_get.2 fun j j0 j5=>?_,fun j j0 j5=>?_⟩
 ·rw[set_get_ite x s (by omega) (by omega) j0 j5]
  split
  ·exact h1
  ·exact get_spans h.some j
 ·rw[set_get_ite x s (by omega) (by omega) j0 j5]
  have:=h.sub j j0 j5
  split
  ·rename_i e;subst e;omega
  ·exact this
theorem PartOk.small {b x:Box} (h:PartOk b x) (hb:smallB b):smallB x:=by
 have key:∀ i:Int,0≤i→i<5→Co.small (x.get i):=fun i i0 i5=>by
  have h1:=get_small hb i
  have h2:=h.sub i i0 i5
  have h3:=get_spans h.some i
  unfold Co.small at *
  omega
 exact⟨key 0 (by omega) (by omega),key 1 (by omega) (by omega),key 2 (by omega) (by omega),key 3 (by omega) (by omega),key 4 (by omega) (by omega)⟩
theorem small_ok {b:Box} (h:smallB b) (he:b.empty=false):okB b:=by
 have key:∀ i:Int,0≤i→i<5→okS64 (b.get i):=fun i i0 i5=>by
  have h1:=get_small h i
  have h2:=get_spans he i
  unfold Co.small at h1
  unfold okS64 ok64
  omega
 exact⟨key 0 (by omega) (by omega),key 1 (by omega) (by omega),key 2 (by omega) (by omega),key 3 (by omega) (by omega),key 4 (by omega) (by omega)⟩
end Go.Co
/- CO: the document's own cuts of a box, by a set that is gone through in whatever order. -/
namespace Go.Co
open Go.Am Go.Proofs
attribute [-simp] Go.Am.eff_gcall
def isCut (f:Int) (s:Span) (w:Word):Prop:=(nd w).leaf=false∧(nd w).feature=f∧s.lo≤(nd w).cut∧(nd w).cut<s.hi
instance (f:Int) (s:Span) (w:Word):Decidable (isCut f s w):=by unfold isCut;exact inferInstance
@[simp] theorem isIt_mp (b g:Nat) (l:List AV):isIt (.mp b g::l)=true:=rfl
end Go.Co
/- CO: the document's own answers: right queries, what breaks them (written by mkCoS.py). -/
namespace Go.Co
open Go.Am Go.Proofs
@[simp high] theorem rd_spanN (b:Box) (k:Nat) (h:k<5):rd [.int .i64 b.s0.lo,.int .i64 b.s0.hi,.int .i64 b.s1.lo,.int .i64 b.s1.hi,.int .i64 b.s2.lo,.int .i64 b.s2.hi,.int .i64 b.s3.lo,.int .i64 b.s3.hi,.int .i64 b.s4.lo,.int .i64 b.s4.hi] (k*2) 2 true=some (.agg [.int .i64 (b.get k).lo,.int .i64 (b.get k).hi]):=by
 have hf:k=0∨k=1∨k=2∨k=3∨k=4:=by omega
 rcases hf with rfl|rfl|rfl|rfl|rfl<;>rfl
end Go.Co
/- CO: the document's own answers: leaves and bounds. -/
namespace Go.Co
open Go.Am Go.Proofs
end Go.Co
/- CO: what breaks a query, by the document. -/
namespace Go.Co
open Go.Am Go.Proofs
end Go.Co
/- CO: what is shown, closed, where a box is cut: by the document. -/
namespace Go.Co
open Go.Am Go.Proofs
attribute [-simp] Go.Am.eff_gcall
def pairB (q:Query) (b:Box):Box:=if paired q then b.set q.feature b.s4 else b
theorem cutB_halves {b:Box} {k n:Int} (h0:0≤k) (h5:k<5) (h1:(b.get k).lo≤n) (h2:n<(b.get k).hi):cutB b k n=(b.set k ⟨(b.get k).lo,n⟩,b.set k ⟨n+1,(b.get k).hi⟩):=by
 unfold cutB cutS
 rw[if_pos ⟨h0,h5⟩,if_neg (by omega)]
 unfold ofS
 rw[show (if n+1>(b.get k).lo then n+1 else (b.get k).lo)=n+1 from if_pos (by omega),if_neg (by omega),if_neg (by omega)]
def shownM (m:Model) (q:Query) (b:Box):Bool :=
 if q.kind=1 then decide (q.lo≤(boundP m q.cls b).1)&&decide ((boundP m q.cls b).2≤q.hi) else
 if q.kind=2 then (decide (0=q.cls)||decide ((boundP m 0 b).2<(boundP m q.cls b).1))&&(decide (1=q.cls)||decide ((boundP m 1 b).2<(boundP m q.cls b).1))&&(decide (m.classes=2)||decide (2=q.cls)||decide ((boundP m 2 b).2<(boundP m q.cls b).1)) else
 if b.s4.hi≤(b.get q.feature).lo then true else if q.falls then decide ((boundP m q.cls (pairB q b)).2≤(boundP m q.cls b).1) else decide ((boundP m q.cls b).2≤(boundP m q.cls (pairB q b)).1)
theorem pair_some {q:Query} {b:Box} (he:b.empty=false):(pairB q b).empty=false:=by
 unfold pairB
 by_cases hp:paired q=true
 ·rw[if_pos hp]
  have hf:=paired_feature hp
  have h4:=(empty_spec he).2.2.2.2
  rw[set_empty he q.feature b.s4 (by omega) (by omega)]
  exact h4
 ·rw[if_neg hp];exact he
end Go.Co
/- CO: the checker's own bounds. -/
set_option maxHeartbeats 16000000
set_option maxRecDepth 100000
namespace Go.Co
open Go.Am Go.Proofs
def c118_31:ACode:=.seq (.seq (.ops [⟨some 18,.mv (.t 9),none,[]⟩,⟨some 19,.len (.t 18),none,[9]⟩,⟨some 20,.bin .gtr (.t 19) (.c (.int .i64 0)),none,[]⟩] [0,6,7,8,9,20]) (.cond (.t 20) .skip (.exit 0))) (.block 1 (.seq (.ops [⟨some 21,.mv (.t 9),none,[]⟩,⟨some 22,.mv (.t 9),none,[]⟩,⟨some 23,.len (.t 22),none,[9]⟩,⟨some 24,.bin .sub (.t 23) (.c (.int .i64 1)),none,[]⟩,⟨some 25,.ias (.t 21) (.t 24) 11,none,[9]⟩,⟨some 26,.load 11 true (.t 25),none,[9]⟩,⟨some 10,.alloc [.int .i64 0,.int .i64 0,.int .i64 0,.int .i64 0,.int .i64 0,.int .i64 0,.int .i64 0,.int .i64 0,.int .i64 0,.int .i64 0,.int .i64 0],none,[]⟩,⟨none,.store (.t 10) 11 (.t 26),none,[10]⟩] [0,6,7,8,9,10]) (.seq (.ops [⟨some 27,.mv (.t 9),none,[]⟩,⟨some 28,.mv (.t 9),none,[]⟩,⟨some 29,.len (.t 28),none,[9]⟩,⟨some 30,.bin .sub (.t 29) (.c (.int .i64 1)),none,[]⟩,⟨some 31,.sl (.t 27) none (some (.t 30)) 11,none,[9]⟩,⟨some 9,.mv (.t 31),none,[]⟩] [0,6,7,8,9,10]) (.seq (.ops [⟨some 33,.mv (.t 0),none,[]⟩,⟨some 34,.fad (.t 10) 0,none,[10]⟩,⟨some 35,.load 1 false (.t 34),none,[10]⟩,⟨some 36,.ias (.t 33) (.t 35) 1,none,[]⟩,⟨some 37,.load 1 false (.t 36),none,[]⟩,⟨some 38,.call 64 [.t 37],none,[]⟩,⟨some 32,.mv (.t 38),none,[]⟩,⟨some 39,.ext (.t 32) 0,none,[]⟩,⟨some 40,.ext (.t 32) 1,none,[]⟩,⟨some 11,.alloc [.bool false,.int .i64 0,.int .i64 0,.int .i64 0,.int .i64 0,.int .i64 0],none,[]⟩,⟨none,.store (.t 11) 6 (.t 39),none,[11]⟩,⟨some 12,.mv (.t 40),none,[]⟩] [0,6,7,8,9,10,11,12]) (.seq (.seq (.ops [⟨some 41,.mv (.t 12),none,[]⟩,⟨some 42,.un .not (.t 41),none,[]⟩,⟨some 43,.mv (.t 42),none,[]⟩,⟨some 44,.fad (.t 10) 1,some (43,false),[10]⟩,⟨some 45,.load 10 true (.t 44),some (43,false),[10]⟩,⟨some 46,.call 52 [.t 45],some (43,false),[]⟩,⟨some 47,.pick (.t 43) (.c (.bool true)) (.t 46),none,[]⟩] [0,6,7,8,9,10,11,47]) (.cond (.t 47) (.exit 1) .skip)) (.seq (.seq (.ops [⟨some 48,.fad (.t 11) 0,none,[11]⟩,⟨some 49,.load 1 false (.t 48),none,[11]⟩,⟨some 50,.un .not (.t 49),none,[]⟩] [0,6,7,8,9,10,11,50]) (.cond (.t 50) (.seq (.ops [⟨some 52,.fad (.t 10) 1,none,[10]⟩,⟨some 53,.load 10 true (.t 52),none,[10]⟩,⟨some 54,.fad (.t 11) 2,none,[11]⟩,⟨some 55,.load 1 false (.t 54),none,[11]⟩,⟨some 56,.fad (.t 11) 3,none,[11]⟩,⟨some 57,.load 1 false (.t 56),none,[11]⟩,⟨some 58,.call 68 [.t 53,.t 55,.t 57],none,[]⟩,⟨some 51,.mv (.t 58),none,[]⟩,⟨some 59,.ext (.t 51) 0,none,[]⟩,⟨some 60,.ext (.t 51) 1,none,[]⟩,⟨some 13,.alloc [.int .i64 0,.int .i64 0,.int .i64 0,.int .i64 0,.int .i64 0,.int .i64 0,.int .i64 0,.int .i64 0,.int .i64 0,.int .i64 0],none,[]⟩,⟨some 14,.alloc [.int .i64 0,.int .i64 0,.int .i64 0,.int .i64 0,.int .i64 0,.int .i64 0,.int .i64 0,.int .i64 0,.int .i64 0,.int .i64 0],none,[]⟩,⟨none,.store (.t 13) 10 (.t 59),none,[13]⟩,⟨none,.store (.t 14) 10 (.t 60),none,[14]⟩] [0,6,7,8,9,11,13,14]) (.seq (.ops [⟨some 61,.mv (.t 9),none,[]⟩,⟨some 62,.fad (.t 11) 4,none,[11]⟩,⟨some 63,.load 1 false (.t 62),none,[11]⟩,⟨some 64,.load 10 true (.t 13),none,[13]⟩,⟨some 65,.build [.int .i64 0,.int .i64 0,.int .i64 0,.int .i64 0,.int .i64 0,.int .i64 0,.int .i64 0,.int .i64 0,.int .i64 0,.int .i64 0,.int .i64 0] [(0,1,.t 63),(1,10,.t 64)],none,[]⟩,⟨some 66,.fad (.t 11) 5,none,[11]⟩,⟨some 67,.load 1 false (.t 66),none,[11]⟩,⟨some 68,.load 10 true (.t 14),none,[14]⟩,⟨some 69,.build [.int .i64 0,.int .i64 0,.int .i64 0,.int .i64 0,.int .i64 0,.int .i64 0,.int .i64 0,.int .i64 0,.int .i64 0,.int .i64 0,.int .i64 0] [(0,1,.t 67),(1,10,.t 68)],none,[]⟩,⟨some 70,.mkrow 70 2 11 [.int .i64 0,.int .i64 0,.int .i64 0,.int .i64 0,.int .i64 0,.int .i64 0,.int .i64 0,.int .i64 0,.int .i64 0,.int .i64 0,.int .i64 0] [(0,11,.t 65),(11,11,.t 69)],none,[]⟩,⟨some 71,.app 9 [9] (.t 61) (.t 70) 11,none,[9,70]⟩,⟨some 9,.mv (.t 71),none,[]⟩] [0,6,7,8,9]) (.exit 1))) .skip)) (.seq (.seq (.ops [⟨some 72,.mv (.t 8),none,[]⟩,⟨some 73,.un .not (.t 72),none,[]⟩] [0,6,7,8,9,11,73]) (.cond (.t 73) (.ops [⟨some 74,.fad (.t 11) 1,none,[11]⟩,⟨some 75,.load 1 false (.t 74),none,[11]⟩,⟨some 76,.fad (.t 11) 1,none,[11]⟩,⟨some 77,.load 1 false (.t 76),none,[11]⟩,⟨some 6,.mv (.t 75),none,[]⟩,⟨some 7,.mv (.t 77),none,[]⟩,⟨some 8,.mv (.c (.bool true)),none,[]⟩] [0,6,7,8,9,11]) .skip)) (.ops [⟨some 78,.mv (.t 6),none,[]⟩,⟨some 79,.fad (.t 11) 1,none,[11]⟩,⟨some 80,.load 1 false (.t 79),none,[11]⟩,⟨some 81,.mnmx false (.t 78) (.t 80),none,[]⟩,⟨some 82,.mv (.t 7),none,[]⟩,⟨some 83,.fad (.t 11) 1,none,[11]⟩,⟨some 84,.load 1 false (.t 83),none,[11]⟩,⟨some 85,.mnmx true (.t 82) (.t 84),none,[]⟩,⟨some 6,.mv (.t 81),none,[]⟩,⟨some 7,.mv (.t 85),none,[]⟩] [0,6,7,8,9]))))))))
theorem r118_31:type_of% (rr c118_31.eq_1):=rr rfl
def c118_40:ACode:=.seq (.ops [⟨some 3,.box (.t 1) 10,none,[]⟩,⟨some 4,.mv (.c (.int .i64 0)),none,[]⟩,⟨some 5,.mv (.c (.int .i64 0)),none,[]⟩] [0,3]) (.seq (.ops [⟨some 6,.mv (.c (.int .i64 0)),none,[]⟩,⟨some 7,.mv (.c (.int .i64 0)),none,[]⟩,⟨some 8,.mv (.c (.bool false)),none,[]⟩] [0,3,6,7,8]) (.seq (.ops [⟨some 15,.load 10 true (.t 3),none,[3]⟩,⟨some 16,.build [.int .i64 0,.int .i64 0,.int .i64 0,.int .i64 0,.int .i64 0,.int .i64 0,.int .i64 0,.int .i64 0,.int .i64 0,.int .i64 0,.int .i64 0] [(0,1,.c (.int .i64 0)),(1,10,.t 15)],none,[]⟩,⟨some 17,.mkrow 9 1 11 [.int .i64 0,.int .i64 0,.int .i64 0,.int .i64 0,.int .i64 0,.int .i64 0,.int .i64 0,.int .i64 0,.int .i64 0,.int .i64 0,.int .i64 0] [(0,11,.t 16)],none,[]⟩,⟨some 9,.mv (.t 17),none,[]⟩] [0,6,7,8,9]) (.seq (.block 0 (.loop (.keep [0,6,7,8,9] [9] c118_31))) (.seq (.ops [⟨some 86,.mv (.t 6),none,[]⟩,⟨some 87,.mv (.t 7),none,[]⟩,⟨some 4,.mv (.t 86),none,[]⟩,⟨some 5,.mv (.t 87),none,[]⟩] [4,5]) .ret))))
theorem r118_40:type_of% (rr c118_40.eq_1):=rr rfl
def a118:AFun:=⟨2,88,c118_40,[.t 4,.t 5]⟩
attribute [simp] r118_31 r118_40
theorem m118:mFun Tryz.prog Tryz.f118 a118=true:=by decide +kernel
def c80_22:ACode:=.seq (.ops [⟨some 43,.bin .lss (.t 42) (.t 41),none,[]⟩] [1,5,8,9,40,41,42,43]) (.seq (.cond (.t 43) .skip (.exit 0)) (.seq (.block 1 (.seq (.ops [⟨some 44,.ias (.t 40) (.t 42) 2,none,[]⟩,⟨some 45,.load 2 true (.t 44),none,[]⟩,⟨some 11,.alloc [.int .i64 0,.nils],none,[]⟩,⟨none,.store (.t 11) 2 (.t 45),none,[11]⟩] [1,5,8,9,11,40,41,42]) (.seq (.ops [⟨some 46,.fad (.t 11) 0,none,[11]⟩,⟨some 47,.load 1 false (.t 46),none,[11]⟩,⟨some 48,.mv (.t 1),none,[]⟩,⟨some 49,.bin .eql (.t 47) (.t 48),none,[]⟩] [1,5,8,9,11,40,41,42,49]) (.cond (.t 49) (.seq (.ops [⟨some 51,.fad (.t 11) 1,none,[11]⟩,⟨some 52,.load 1 false (.t 51),none,[11]⟩,⟨some 53,.load 10 true (.t 5),none,[5]⟩,⟨some 54,.call 118 [.t 52,.t 53],none,[]⟩,⟨some 50,.mv (.t 54),none,[]⟩,⟨some 55,.ext (.t 50) 0,none,[]⟩,⟨some 56,.ext (.t 50) 1,none,[]⟩,⟨some 12,.mv (.t 55),none,[]⟩,⟨some 13,.mv (.t 56),none,[]⟩] [1,5,8,9,12,13,40,41,42]) (.ops [⟨some 57,.mv (.t 8),none,[]⟩,⟨some 58,.mv (.t 12),none,[]⟩,⟨some 59,.bin .add (.t 57) (.t 58),none,[]⟩,⟨some 60,.mv (.t 9),none,[]⟩,⟨some 61,.mv (.t 13),none,[]⟩,⟨some 62,.bin .add (.t 60) (.t 61),none,[]⟩,⟨some 8,.mv (.t 59),none,[]⟩,⟨some 9,.mv (.t 62),none,[]⟩] [1,5,8,9,40,41,42])) .skip)))) (.ops [⟨some 63,.bin .add (.t 42) (.c (.int .i64 1)),none,[]⟩,⟨some 42,.mv (.t 63),none,[]⟩] [1,5,8,9,40,41,42])))
theorem r80_22:type_of% (rr c80_22.eq_1):=rr rfl
def c80_32:ACode:=.seq (.ops [⟨some 3,.box (.t 0) 6,none,[]⟩,⟨some 5,.box (.t 2) 10,none,[]⟩,⟨some 6,.mv (.c (.int .i64 0)),none,[]⟩,⟨some 7,.mv (.c (.int .i64 0)),none,[]⟩] [1,3,5]) (.seq (.seq (.ops [⟨some 14,.load 6 true (.t 3),none,[3]⟩,⟨some 15,.call 38 [.t 14],none,[]⟩,⟨some 16,.un .not (.t 15),none,[]⟩,⟨some 17,.mv (.t 16),none,[]⟩,⟨some 18,.mv (.t 1),some (17,false),[]⟩,⟨some 19,.bin .lss (.t 18) (.c (.int .i64 0)),some (17,false),[]⟩,⟨some 20,.pick (.t 17) (.c (.bool true)) (.t 19),none,[]⟩,⟨some 21,.mv (.t 20),none,[]⟩,⟨some 22,.mv (.t 1),some (21,false),[]⟩,⟨some 23,.fad (.t 3) 1,some (21,false),[3]⟩,⟨some 24,.load 1 false (.t 23),some (21,false),[3]⟩,⟨some 25,.bin .geq (.t 22) (.t 24),some (21,false),[]⟩,⟨some 26,.pick (.t 21) (.c (.bool true)) (.t 25),none,[]⟩,⟨some 27,.mv (.t 26),none,[]⟩,⟨some 28,.load 10 true (.t 5),some (27,false),[5]⟩,⟨some 29,.call 52 [.t 28],some (27,false),[]⟩,⟨some 30,.pick (.t 27) (.c (.bool true)) (.t 29),none,[]⟩] [1,3,5,30]) (.cond (.t 30) (.seq (.ops [⟨some 6,.mv (.c (.int .i64 0)),none,[]⟩,⟨some 7,.mv (.c (.int .i64 0)),none,[]⟩] [6,7]) .ret) .skip)) (.seq (.ops [⟨some 31,.mv (.t 1),none,[]⟩,⟨some 32,.fad (.t 3) 2,none,[3]⟩,⟨some 33,.iad (.t 32) (.t 31) 1 3,none,[3]⟩,⟨some 34,.load 1 false (.t 33),none,[3]⟩,⟨some 35,.mv (.t 1),none,[]⟩,⟨some 36,.fad (.t 3) 2,none,[3]⟩,⟨some 37,.iad (.t 36) (.t 35) 1 3,none,[3]⟩,⟨some 38,.load 1 false (.t 37),none,[3]⟩,⟨some 8,.mv (.t 34),none,[]⟩,⟨some 9,.mv (.t 38),none,[]⟩] [1,3,5,8,9]) (.seq (.seq (.ops [⟨some 39,.fad (.t 3) 5,none,[3]⟩,⟨some 40,.load 1 false (.t 39),none,[3]⟩,⟨some 41,.len (.t 40),none,[]⟩,⟨some 42,.mv (.c (.int .i64 0)),none,[]⟩] [1,5,8,9,40,41,42]) (.block 0 (.loop (.keep [1,5,8,9,40,41,42] [5] c80_22)))) (.seq (.ops [⟨some 64,.mv (.t 8),none,[]⟩,⟨some 65,.mv (.t 9),none,[]⟩,⟨some 6,.mv (.t 64),none,[]⟩,⟨some 7,.mv (.t 65),none,[]⟩] [6,7]) .ret))))
theorem r80_32:type_of% (rr c80_32.eq_1):=rr rfl
def a80:AFun:=⟨3,66,c80_32,[.t 6,.t 7]⟩
attribute [simp] r80_22 r80_32
theorem m80:mFun Tryz.prog Tryz.f80 a80=true:=by decide +kernel
structure Visit where
 at_:Int
 box:Box
instance:Row Visit where
 sz:=11
 enc x:=[.int .i64 x.at_,.int .i64 x.box.s0.lo,.int .i64 x.box.s0.hi,.int .i64 x.box.s1.lo,.int .i64 x.box.s1.hi,.int .i64 x.box.s2.lo,.int .i64 x.box.s2.hi,.int .i64 x.box.s3.lo,.int .i64 x.box.s3.hi,.int .i64 x.box.s4.lo,.int .i64 x.box.s4.hi]
 dec xs:=match xs with
  | [.int .i64 v0,.int .i64 v1,.int .i64 v2,.int .i64 v3,.int .i64 v4,.int .i64 v5,.int .i64 v6,.int .i64 v7,.int .i64 v8,.int .i64 v9,.int .i64 v10]=>some ⟨v0,⟨⟨v1,v2⟩,⟨v3,v4⟩,⟨v5,v6⟩,⟨v7,v8⟩,⟨v9,v10⟩⟩⟩
  | _=>none
 pos:=by decide
 len _:=rfl
 dec_enc _:=rfl
 enc_dec xs a h:=by
  split at h
  ·cases h;rfl
  ·cases h
@[simp] theorem sz_Visit:Row.sz Visit=11:=rfl
def vis (l:List Word) (b:Box) (s:Nat):Visit:=⟨s,own l b s⟩
theorem rd_top {α:Type} [Row α] (X:List α) (v:α) (G:List AV):rd (encL (X++[v])++G) (X.length*Row.sz α) (Row.sz α) true=some (.agg (Row.enc v)):=by
 have h1:=encL_length X
 have h2:=Row.len v
 rw[encL_append,List.append_assoc]
 unfold rd
 rw[if_pos (by simp[encL_cons,encL_nil,h1,h2])]
 simp only[if_true]
 rw[← h1,List.drop_left]
 simp only[encL_cons,encL_nil,List.append_nil]
 rw[← h2,List.take_left]
inductive Desc (l:List Word) (i:Nat):Nat→Prop
 | self:Desc l i i
 | left {j:Nat}:Desc l i j→(ndAt l j).leaf=false→Desc l i (ndAt l j).left.toNat
 | right {j:Nat}:Desc l i j→(ndAt l j).leaf=false→Desc l i (ndAt l j).right.toNat
theorem Desc.sub {l:List Word} {d:Int} (hr:RT l d) {b:Box} {i j:Nat} (h:Desc l i j) (hi:i<l.length):j<l.length∧∀ p t,InB (own l b j) p t→InB (own l b i) p t:=by
 induction h with
 | self=>exact⟨hi,fun p t h=>h⟩
 | @left j hd hl ih =>
  have ha:=hr.at ih.1 hl
  have hf:=hr.feature ih.1 hl
  have hc:=own_child hr b ih.1 hl
  refine⟨by omega,fun p t h=>ih.2 p t ?_⟩
  rw[hc.1] at h
  exact ((cutB_1 _ hf _ p t).1 h).1
 | @right j hd hl ih =>
  have ha:=hr.at ih.1 hl
  have hf:=hr.feature ih.1 hl
  have hc:=own_child hr b ih.1 hl
  refine⟨by omega,fun p t h=>ih.2 p t ?_⟩
  rw[hc.2] at h
  exact ((cutB_2 _ hf _ p t).1 h).1
theorem Desc.cases' {l:List Word} {i j:Nat} (h:Desc l i j):j=i∨((ndAt l i).leaf=false∧(Desc l (ndAt l i).left.toNat j∨Desc l (ndAt l i).right.toNat j)):=by
 induction h with
 | self=>exact .inl rfl
 | left hd hl ih =>
  rcases ih with rfl|⟨h1,h2|h2⟩
  ·exact .inr ⟨hl,.inl .self⟩
  ·exact .inr ⟨h1,.inl (h2.left hl)⟩
  ·exact .inr ⟨h1,.inr (h2.left hl)⟩
 | right hd hl ih =>
  rcases ih with rfl|⟨h1,h2|h2⟩
  ·exact .inr ⟨hl,.inr .self⟩
  ·exact .inr ⟨h1,.inl (h2.right hl)⟩
  ·exact .inr ⟨h1,.inr (h2.right hl)⟩
theorem desc_root {l:List Word} {d:Int} (hr:RT l d):∀ j,j<l.length→Desc l 0 j:=by
 intro j
 induction j using Nat.strongRecOn with
 | _ j ih =>
  intro hj
  by_cases h0:j=0
  ·subst h0;exact .self
  ·obtain⟨i,hi,hl,hn⟩:=hr.parent (show 1≤j by omega) hj
   have hd:=ih i hi (by omega)
   have ha:=hr.at (show i<l.length by omega) hl
   rcases hn with hn|hn
   ·have:=hd.left hl
    rw[show (ndAt l i).left.toNat=j by omega] at this
    exact this
   ·have:=hd.right hl
    rw[show (ndAt l i).right.toNat=j by omega] at this
    exact this
def wgt (s:Nat):Nat:=2^(32-s)-1
def wgts (S:List Nat):Nat:=(S.map wgt).sum
theorem wgts_app (S T:List Nat):wgts (S++T)=wgts S+wgts T:=by simp[wgts]
theorem wgt_pos {s:Nat} (h:s<31):1≤wgt s:=by
 unfold wgt
 have:2^1≤2^(32-s):=Nat.pow_le_pow_right (by omega) (by omega)
 omega
theorem wgt_two {s a b:Nat} (h1:s<a) (h2:s<b) (ha:a<31):wgt a+wgt b<wgt s:=by
 unfold wgt
 have e:32-s=(31-s)+1:=by omega
 have p1:2^(32-a)≤2^(31-s):=Nat.pow_le_pow_right (by omega) (by omega)
 have p2:2^(32-b)≤2^(31-s):=Nat.pow_le_pow_right (by omega) (by omega)
 have p3:1≤2^(31-s):=Nat.one_le_two_pow
 have p4:1≤2^(32-a):=Nat.one_le_two_pow
 have p5:1≤2^(32-b):=Nat.one_le_two_pow
 rw[e,Nat.pow_succ]
 omega
theorem len_wgts:∀(S:List Nat),(∀ s∈S,s<31)→S.length≤wgts S
 | [],_=>by simp[wgts]
 | s::S,h=>by
  have h1:=wgt_pos (h s (by simp))
  have h2:=len_wgts S (fun x hx=>h x (by simp[hx]))
  simp only[wgts,List.map_cons,List.sum_cons,List.length_cons] at *
  omega
structure EI (l:List Word) (b:Box) (S:List Nat) (lo hi:Int) (sm:Bool):Prop where
 lt:∀ s∈S,s<l.length
 cover:∀ j,j<l.length→(ndAt l j).leaf=true→(own l b j).empty=false→(sm=true∧lo≤(ndAt l j).value∧(ndAt l j).value≤hi)∨∃ s∈S,Desc l s j
 att:sm=true→(∃ x∈pieces l b,x.value=lo)∧∃ x∈pieces l b,x.value=hi
theorem EI.done {l:List Word} {d:Int} (hr:RT l d) {b:Box} (he:b.empty=false) {lo hi:Int} {sm:Bool} (h:EI l b [] lo hi sm):lo=(boundT l b).a∧hi=(boundT l b).b:=by
 have hb:boundT l b=ends (pieces l b):=by unfold boundT;rw[he];rfl
 obtain⟨h1,h2,⟨x,hx,h3⟩,⟨y,hy,h4⟩⟩:=ends_spec (pieces_ne hr he)
 rw[hb]
 have cov:∀ z∈pieces l b,sm=true∧lo≤z.value∧z.value≤hi:=by
  intro z hz
  obtain⟨i,hi',hl,hE,rfl⟩:=mem_pieces.1 hz
  rcases h.cover i hi' hl hE with hc|⟨s,hs,_⟩
  ·exact hc
  ·simp at hs
 have cx:=cov x hx
 have cy:=cov y hy
 obtain⟨⟨u,hu,hu2⟩,⟨v,hv,hv2⟩⟩:=h.att cx.1
 have k1:=h2 u hu
 have k2:=h2 v hv
 omega
noncomputable def EndsC (l:List Word) (b:Box):Option (Int×Int):=Part ((∃ d,RT l d)∧okB b∧b.empty=false) ((boundT l b).a,(boundT l b).b)
theorem take_vis (X:List Visit) (G:List AV) (n:Nat) (h:n=X.length*11):List.take n (encL X++G)=encL X:=by
 rw[h,← show (encL X).length=X.length*11 from encL_length X,List.take_left]
theorem runs_ends (l:List Word) (b:Box) (c:Int×Int) (h:EndsC l b=some c):Runs (tbl [(64,sp1 Unpack),(52,sp1 fun (b:Box)=>some b.empty),(68,sp3 CutB)]) a118 [Arg.enc l,Arg.enc b] (Arg.enc c):=by
 obtain⟨⟨⟨d,hr⟩,hb,he⟩,rfl⟩:=part_some h
 clear h
 refine⟨rfl,fun g=>run_def ?_⟩
 unfold a118
 have hle:=hr.le
 have b3:l.length≤maxN:=by unfold maxN;omega
 simp -implicitDefEqProofs [b3]
 refine run_while (c:=c118_31) (fun n s=>∃(S:List Nat) (lo hi:Int) (sm:Bool) (G:List AV) (g:Nat→Nat),n=wgts S∧n<2^33∧EI l b S lo hi sm∧s=⟨[(0,.lst l.length (encL l)),(6,.int .i64 lo),(7,.int .i64 hi),(8,.bool sm),(9,.own 9 (g 9) 0 S.length)],[(9,⟨encL (S.map (vis l b))++G,false,11⟩)],g⟩) (wgts [0]) ⟨[0],0,0,false,[],bump 9 (bump 3 g),rfl,by simp[wgts,wgt],⟨fun s hs=>by simp at hs;have:=hr.pos;omega,fun j hj _ _=>.inr ⟨0,by simp,desc_root hr j hj⟩,fun h=>by cases h⟩,by simp[encL_cons,encL_nil,vis,own_root];rfl⟩ ?_
 rintro n s ⟨S,lo,hi,sm,G,g,hn,hn2,hE,rfl⟩
 rcases List.eq_nil_or_concat S with rfl|⟨S,s,rfl⟩
 ·obtain⟨e1,e2⟩:=hE.done hr he
  simp -implicitDefEqProofs [e1,e2]
 rw[List.concat_eq_append] at *
 have hs:s<l.length:=hE.lt s (by simp)
 have hsl:=len_wgts S (fun x hx=>by have:=hE.lt x (by simp[hx]);omega)
 rw[wgts_app] at hn
 have hw1:=wgt_pos (show s<31 by omega)
 have hws:wgts [s]=wgt s:=by simp[wgts]
 have hL:S.length≤8589934592:=by have:(2:Nat)^33=8589934592:=(by decide);omega
 have wL:IntKind.i64.wrap ((S.length:Nat):Int)=S.length:=wrap64 (by omega) (by omega)
 have c0:S.length+1≤maxN:=by unfold maxN;omega
 have hU:=unpack_at hr hs
 have htop:rd (encL (S.map (vis l b))++(Row.enc (vis l b s)++G)) (S.length*11) 11 true=some (.agg (Row.enc (vis l b s))):=by
  have:=rd_top (S.map (vis l b)) (vis l b s) G
  rw[encL_append,List.append_assoc] at this
  simpa [encL_cons,encL_nil] using this
 have e1:encL ((S++[s]).map (vis l b))++G=encL (S.map (vis l b))++(Row.enc (vis l b s)++G):=by simp[encL_append,encL_cons,encL_nil]
 have e2:(S++[s]).length=S.length+1:=by simp
 rw[e1,e2]
 have htk:List.take (S.length*11) (encL (S.map (vis l b))++(Row.enc (vis l b s)++G))=encL (S.map (vis l b)):=take_vis _ _ _ (by simp)
 have hlen:S.length*11≤(encL (S.map (vis l b))++(Row.enc (vis l b s)++G)).length:=by
  have:=encL_length (S.map (vis l b))
  simp at this
  simp[this]
 generalize (Row.enc (vis l b s)++G)=G2 at *
 have hlen2:S.length*11≤(encL (S.map (vis l b))).length+G2.length:=by simpa using hlen
 have htop:rd (encL (S.map (vis l b))++G2) (S.length*11) 11 true=some (.agg [.int .i64 s,.int .i64 (own l b s).s0.lo,.int .i64 (own l b s).s0.hi,.int .i64 (own l b s).s1.lo,.int .i64 (own l b s).s1.hi,.int .i64 (own l b s).s2.lo,.int .i64 (own l b s).s2.hi,.int .i64 (own l b s).s3.lo,.int .i64 (own l b s).s3.hi,.int .i64 (own l b s).s4.lo,.int .i64 (own l b s).s4.hi]):=htop
 have hEc:∀ j,j<l.length→(ndAt l j).leaf=true→(own l b j).empty=false→(sm=true∧lo≤(ndAt l j).value∧(ndAt l j).value≤hi)∨(∃ x∈S,Desc l x j)∨Desc l s j:=by
  intro j h1 h2 h3
  rcases hE.cover j h1 h2 h3 with h|⟨x,hx,hd⟩
  ·exact .inl h
  ·rcases List.mem_append.1 hx with hx|hx
   ·exact .inr (.inl ⟨x,hx,hd⟩)
   ·simp at hx;subst hx;exact .inr (.inr hd)
 have hlt:∀ x∈S,x<l.length:=fun x hx=>hE.lt x (by simp[hx])
 have c9:(S.length:Int)<(S.length:Int)+1:=by omega
 have c10:(S.length:Int)≤(S.length:Int)+1:=by omega
 have hlw:wgts [s]=wgt s:=hws
 cases hoe:(own l b s).empty
 case true =>
  have hE2:EI l b S lo hi sm:=by
   refine⟨hlt, ?_,hE.att⟩
   intro j h1 h2 h3
   rcases hEc j h1 h2 h3 with h|h|h
   ·exact .inl h
   ·exact .inr h
   ·exfalso
    obtain⟨p,t,hp⟩:=empty_false.1 h3
    exact empty_true.1 hoe p t ((h.sub hr hs).2 p t hp)
  cases sm<;>simp -implicitDefEqProofs [c0,c9,c10,wL,htop,hU,hs,rd_words,hoe]
  all_goals exact⟨wgts S,by omega,S,rfl,by omega,lo,hi,hE2,⟨rfl,rfl,rfl⟩,G2,rfl⟩
 case false =>
  cases hl:(ndAt l s).leaf
  case false =>
   have ha:=hr.at hs hl
   have hf:=hr.feature hs hl
   have hC:CutB (own l b s) (ndAt l s).feature (ndAt l s).cut=some (cutB (own l b s) (ndAt l s).feature (ndAt l s).cut):=cutB_of (okB_own hr hb s s (by omega)) (ndAt l s).feature (ok64_fits (hr.cutOk hs))
   have hch:=own_child hr b hs hl
   have hpr:cutB (own l b s) (ndAt l s).feature (ndAt l s).cut=(own l b (ndAt l s).left.toNat,own l b (ndAt l s).right.toNat):=Prod.ext hch.1.symm hch.2.symm
   rw[hpr] at hC
   have c11:S.length≤1099511627774:=by omega
   have hw2:=wgt_two (s:=s) (a:=(ndAt l s).left.toNat) (b:=(ndAt l s).right.toNat) (by omega) (by omega) (by omega)
   have hw3:wgts (S++[(ndAt l s).left.toNat,(ndAt l s).right.toNat])=wgts S+(wgt (ndAt l s).left.toNat+wgt (ndAt l s).right.toNat):=by rw[wgts_app];simp[wgts]
   have hE2:EI l b (S++[(ndAt l s).left.toNat,(ndAt l s).right.toNat]) lo hi sm:=by
    refine⟨?_, ?_,hE.att⟩
    ·intro x hx
     rcases List.mem_append.1 hx with hx|hx
     ·exact hlt x hx
     ·simp at hx
      omega
    ·intro j h1 h2 h3
     rcases hEc j h1 h2 h3 with h|⟨x,hx,h⟩|h
     ·exact .inl h
     ·exact .inr ⟨x,by simp[hx],h⟩
     ·rcases Desc.cases' h with h|⟨_,h|h⟩
      ·subst h;rw[hl] at h2;cases h2
      ·exact .inr ⟨_,by simp,h⟩
      ·exact .inr ⟨_,by simp,h⟩
   have el:(((ndAt l s).left.toNat:Nat):Int)=(ndAt l s).left:=by omega
   have er:(((ndAt l s).right.toNat:Nat):Int)=(ndAt l s).right:=by omega
   have hcell:encL (S.map (vis l b))++(Row.enc (vis l b (ndAt l s).left.toNat)++Row.enc (vis l b (ndAt l s).right.toNat))=encL ((S++[(ndAt l s).left.toNat,(ndAt l s).right.toNat]).map (vis l b))++[]:=by simp[encL_append,encL_cons,encL_nil]
   cases sm<;>simp -implicitDefEqProofs [c0,c9,c10,c11,wL,htop,hU,hs,rd_words,hoe,hl,hC,htk,hlen2]
   all_goals refine⟨_, ?_,S++[(ndAt l s).left.toNat,(ndAt l s).right.toNat],rfl, ?_,lo,hi,hE2,⟨rfl,rfl, ?_⟩,[], ?_⟩
   all_goals first
    | omega
    | (simp;done)
    | (rw[← hcell,← el,← er];rfl)
  case true =>
   have hpc:(⟨own l b s,(ndAt l s).value⟩:Piece)∈pieces l b:=mem_pieces.2 ⟨s,hs,hl,hoe,rfl⟩
   cases sm
   case false =>
    have hE2:EI l b S (ndAt l s).value (ndAt l s).value true:=by
     refine⟨hlt, ?_,fun _=>⟨⟨_,hpc,rfl⟩,⟨_,hpc,rfl⟩⟩⟩
     intro j h1 h2 h3
     rcases hEc j h1 h2 h3 with⟨h,_⟩|h|h
     ·cases h
     ·exact .inr h
     ·rcases Desc.cases' h with h|⟨h,_⟩
      ·subst h;exact .inl ⟨rfl,Int.le_refl _,Int.le_refl _⟩
      ·rw[hl] at h;cases h
    simp -implicitDefEqProofs [c0,c9,c10,wL,htop,hU,hs,rd_words,hoe,hl]
    exact⟨wgts S,by omega,S,rfl,by omega,_,_,hE2,⟨rfl,rfl,rfl⟩,G2,rfl⟩
   case true =>
    obtain⟨⟨u,hu,hu2⟩,⟨v,hv,hv2⟩⟩:=hE.att rfl
    have hE2:EI l b S (if (ndAt l s).value<lo then (ndAt l s).value else lo) (if hi<(ndAt l s).value then (ndAt l s).value else hi) true:=by
     refine⟨hlt, ?_, ?_⟩
     ·intro j h1 h2 h3
      rcases hEc j h1 h2 h3 with⟨_,h,h'⟩|h|h
      ·refine .inl ⟨rfl, ?_, ?_⟩<;>split<;>omega
      ·exact .inr h
      ·rcases Desc.cases' h with h|⟨h,_⟩
       ·subst h;refine .inl ⟨rfl, ?_, ?_⟩<;>split<;>omega
       ·rw[hl] at h;cases h
     ·intro _
      constructor
      ·split
       ·exact⟨_,hpc,rfl⟩
       ·exact⟨u,hu,hu2⟩
      ·split
       ·exact⟨_,hpc,rfl⟩
       ·exact⟨v,hv,hv2⟩
    simp -implicitDefEqProofs [c0,c9,c10,wL,htop,hU,hs,rd_words,hoe,hl]
    exact⟨wgts S,by omega,S,rfl,by omega,_,_,hE2,⟨rfl,rfl,rfl⟩,G2,rfl⟩
theorem c_ends:Contract Tryz.prog 118 (sp2 EndsC) :=
 contract_of_runs mixed (tbl_cons c_Unpack (tbl_cons c_bEmpty (tbl_cons c_bCut tbl_nil))) Tryz.func118 m118 (sp2_runs runs_ends)
def sumsP (m:Model) (c:Int) (b:Box):Int×Int:=if c<0∨m.classes≤c∨b.empty=true then (0,0) else boundP m c b
noncomputable def SumsC (m:Model) (c:Int) (b:Box):Option (Int×Int):=Part (RM m∧okB b) (sumsP m c b)
theorem runs_sums (m:Model) (c:Int) (b:Box) (r:Int×Int) (h:SumsC m c b=some r):Runs (tbl [(38,sp1 MRight),(52,sp1 fun (b:Box)=>some b.empty),(118,sp2 EndsC)]) a80 [Arg.enc m,Arg.enc c,Arg.enc b] (Arg.enc r):=by
 obtain⟨⟨hr,hb⟩,rfl⟩:=part_some h
 refine⟨rfl,fun g=>run_def ?_⟩
 unfold a80
 have hM:MRight m=some true:=by unfold MRight;rw[if_neg (by have:=hr.dim;omega)];exact part_of hr _
 by_cases h0:c<0
 case pos=>simp -implicitDefEqProofs [hM,h0,sumsP]
 by_cases h1:m.classes≤c
 case pos=>simp -implicitDefEqProofs [hM,h0,h1,sumsP]
 cases he:b.empty
 case true=>simp -implicitDefEqProofs [hM,h0,h1,he,sumsP]
 have hle:=hr.trees
 have b3:m.trees.length≤maxN:=by unfold maxN;omega
 have c0:0≤c:=by omega
 have c3:c<3:=by have:=hr.classes;omega
 have hres:sumsP m c b=((boundP m c b).1,(boundP m c b).2):=by unfold sumsP;rw[if_neg (by simp[he];omega)]
 rw[hres]
 simp -implicitDefEqProofs [hM,h0,h1,he,b3,c0,c3]
 refine run_while (c:=c80_22) (fun n s=>∃(i:Nat) (g:Nat→Nat),i+n=m.trees.length∧s=⟨[(1,.int .i64 c),(5,.ptr 5 (g 5) 0),(8,.int .i64 ((m.trees.take i).foldl (boundF c b) (m.bias.get c,m.bias.get c)).1),(9,.int .i64 ((m.trees.take i).foldl (boundF c b) (m.bias.get c,m.bias.get c)).2),(40,.lst m.trees.length (encL m.trees)),(41,.int .i64 m.trees.length),(42,.int .i64 i)],
  [(5,⟨[.int .i64 b.s0.lo,.int .i64 b.s0.hi,.int .i64 b.s1.lo,.int .i64 b.s1.hi,.int .i64 b.s2.lo,.int .i64 b.s2.hi,.int .i64 b.s3.lo,.int .i64 b.s3.hi,.int .i64 b.s4.lo,.int .i64 b.s4.hi],false,0⟩)],g⟩) m.trees.length ⟨0,bump 5 (bump 3 g),by omega,by simp⟩ ?_
 rintro n s ⟨i,g,hi,rfl⟩
 by_cases h1:i<m.trees.length
 case pos =>
  have w1:IntKind.i64.wrap ((i:Int)+1)=(i:Int)+1:=wrap64 (by omega) (by omega)
  have hrow:=rd_tree m.trees i h1
  have hrt:=hr.rt (List.getElem_mem h1)
  have hV:EndsC m.trees[i].nodes b=some ((boundT m.trees[i].nodes b).a,(boundT m.trees[i].nodes b).b):=part_of ⟨⟨_,hrt⟩,hb,he⟩ _
  have hbd:=boundF_le (c:=c) he (m.trees.take (i+1)) (m.bias.get c,m.bias.get c) (fun t ht=>⟨_,hr.rt (List.mem_of_mem_take ht)⟩)
  have hb2:=of_fits (Bias.get_fits hr c)
  have hs:(m.trees.take (i+1)).foldl (boundF c b) (m.bias.get c,m.bias.get c)=boundF c b ((m.trees.take i).foldl (boundF c b) (m.bias.get c,m.bias.get c)) m.trees[i]:=by
   rw[List.take_succ_eq_append_getElem h1,List.foldl_append]
   rfl
  have hl:(m.trees.take (i+1)).length≤8:=by simp;omega
  simp only at hbd
  by_cases hc:m.trees[i].cls=c
  case pos =>
   have hs1:((m.trees.take (i+1)).foldl (boundF c b) (m.bias.get c,m.bias.get c)).1=((m.trees.take i).foldl (boundF c b) (m.bias.get c,m.bias.get c)).1+(boundT m.trees[i].nodes b).a:=by rw[hs,boundF,if_pos hc]
   have hs2:((m.trees.take (i+1)).foldl (boundF c b) (m.bias.get c,m.bias.get c)).2=((m.trees.take i).foldl (boundF c b) (m.bias.get c,m.bias.get c)).2+(boundT m.trees[i].nodes b).b:=by rw[hs,boundF,if_pos hc]
   have w2:IntKind.i64.wrap (((m.trees.take i).foldl (boundF c b) (m.bias.get c,m.bias.get c)).1+(boundT m.trees[i].nodes b).a)=((m.trees.take (i+1)).foldl (boundF c b) (m.bias.get c,m.bias.get c)).1:=by rw[← hs1];exact wrap64 (by omega) (by omega)
   have w3:IntKind.i64.wrap (((m.trees.take i).foldl (boundF c b) (m.bias.get c,m.bias.get c)).2+(boundT m.trees[i].nodes b).b)=((m.trees.take (i+1)).foldl (boundF c b) (m.bias.get c,m.bias.get c)).2:=by rw[← hs2];exact wrap64 (by omega) (by omega)
   simp -implicitDefEqProofs [h1,hrow,hc,hV,w1,w2,w3]
   exact⟨n-1,by omega,i+1,by omega,rfl,rfl,by omega⟩
  case neg =>
   have hs2:(m.trees.take (i+1)).foldl (boundF c b) (m.bias.get c,m.bias.get c)=(m.trees.take i).foldl (boundF c b) (m.bias.get c,m.bias.get c):=by rw[hs,boundF,if_neg hc]
   simp -implicitDefEqProofs [h1,hrow,hc,hV,w1]
   exact⟨n-1,by omega,i+1,by omega,by rw[hs2],by rw[hs2],by omega⟩
 case neg =>
  have hil:i=m.trees.length:=by omega
  subst hil
  simp -implicitDefEqProofs [h1,boundP]
theorem c_sums:Contract Tryz.prog 80 (sp3 SumsC) :=
 contract_of_runs mixed (tbl_cons c_mRight (tbl_cons c_bEmpty (tbl_cons c_ends tbl_nil))) Tryz.func80 m80 (sp3_runs runs_sums)
end Go.Co
/- CO: a search, as it goes; the document's own search. -/
namespace Go.Co
open Go.Am Go.Proofs
attribute [-simp] Go.Am.eff_gcall
def zeroP:Point:=⟨0,0,0,0⟩
def sumS:Step:=⟨true,0,0⟩
def searchN (m:Model) (q:Query):Nat→Int→List Box→List Step→Verdict
 | _,sp,[],pf=>⟨1,pf,zeroP,0,sp⟩
 | 0,sp,_::_,_=>⟨3,[],zeroP,0,sp⟩
 | n+1,sp,b::bs,pf =>
  if closedM m q b then searchN m q n (sp+1) bs (pf++[sumS]) else
  if corner m q b then ⟨2,[],lowB b,b.s4.hi,sp+1⟩ else
  if (splitM m q b).c then searchN m q n (sp+1) ((cutB b (splitM m q b).a (splitM m q b).b).1::(cutB b (splitM m q b).a (splitM m q b).b).2::bs) (pf++[⟨false,(splitM m q b).a,(splitM m q b).b⟩]) else ⟨3,[],zeroP,0,sp+1⟩
def searchM (m:Model) (q:Query):Verdict:=if okQuery m q then searchN m q q.budget.toNat 0 [startOf q] [] else ⟨4,[],zeroP,0,0⟩
theorem split_in {m:Model} {q:Query} {b:Box} (h:(splitM m q b).c=true):0≤(splitM m q b).a∧(splitM m q b).a<5∧(splitM m q b).b∈cutsL m q b (splitM m q b).a:=by
 unfold splitM at *
 rcases splitFrom_spec m q b [0,1,2,3,4] with⟨h1,_⟩|⟨l,r,k,h1,h2,h3,h4⟩
 ·rw[h1] at h;cases h
 ·rw[h4]
  simp only
  have hk:k∈([0,1,2,3,4]:List Int):=by rw[h1];simp
  simp at hk
  refine⟨by omega,by omega, ?_⟩
  unfold midL
  have hp:0<(cutsL m q b k).length:=List.length_pos_iff.2 (by first|exact h2|exact h3)
  have hlt:((cutsL m q b k).length-1)/2<(cutsL m q b k).length:=by omega
  rw[List.getD_eq_getElem?_getD,List.getElem?_eq_getElem hlt]
  exact List.getElem_mem hlt
theorem okQuery_start {m:Model} {q:Query} (h:okQuery m q=true):smallB (startOf q)∧okB (startOf q)∧(startOf q).empty=false:=by
 have hs:=(okQuery_spec h).2.2.2.2.1
 unfold okRegion okSpan at hs
 simp only[Bool.and_eq_true,Bool.not_eq_true'] at hs
 obtain⟨⟨⟨⟨a0,a1⟩,a2⟩,a3⟩,a4⟩:=hs
 have key:∀ s:Span,s.empty=false→fits s.lo=true→fits s.hi=true→small s∧s.lo≤s.hi:=fun s h1 h2 h3=>by
  have h2:=of_fits h2
  have h3:=of_fits h3
  unfold Span.empty at h1
  rw[decide_eq_false_iff_not] at h1
  unfold small
  omega
 have k0:=key _ a0.1.1.2 a0.1.2 a0.2
 have k1:=key _ a1.1.1.2 a1.1.2 a1.2
 have k2:=key _ a2.1.1.2 a2.1.2 a2.2
 have k3:=key _ a3.1.1.2 a3.1.2 a3.2
 have k4:small (startOf q).s4∧(startOf q).s4.lo≤(startOf q).s4.hi:=by
  unfold startOf
  simp only
  split
  ·rename_i hp
   have hf:=paired_feature hp
   rcases hf with hf|hf|hf|hf<;>rw[hf]<;>simp only[Box.get,reduceIte,Int.reduceEq]<;>assumption
  ·unfold small;simp
 have hsm:smallB (startOf q):=⟨k0.1,k1.1,k2.1,k3.1,k4.1⟩
 have hne:(startOf q).empty=false:=by
  refine empty_get.2 fun i i0 i5=>?_
  have hi:i=0∨i=1∨i=2∨i=3∨i=4:=by omega
  rcases hi with rfl|rfl|rfl|rfl|rfl
  ·exact k0.2
  ·exact k1.2
  ·exact k2.2
  ·exact k3.2
  ·exact k4.2
 exact⟨hsm,small_ok hsm hne,hne⟩
def vCells (v:Verdict) (V:AV):List AV:=[.int .i64 v.kind,V,.int .i64 v.witness.p0,.int .i64 v.witness.p1,.int .i64 v.witness.p2,.int .i64 v.witness.p3,.int .i64 v.twin,.int .i64 v.spent]
structure SEnd (v:Verdict) (g0:Nat) (h:Hp) (g:Nat→Nat):Prop where
 zero:g 0=g0
 val:(v.proof=[]∧hlook h 4=some ⟨vCells v .nils,false,0⟩)∨(v.proof≠[]∧hlook h 4=some ⟨vCells v (.own 10601 (g 10601) 0 v.proof.length),false,0⟩∧hlook h 10601=some ⟨encL v.proof,false,3⟩)
theorem take_stepsE (X:List Step):List.take (X.length*3) (encL X)=encL X:=take_rows _ _ (by simp)
theorem len_steps (X:List Step):X.length*3≤(encL X).length:=by rw[encL_length];exact Nat.le_refl _
theorem take_boxG (X:List Box) (G:List AV):List.take (X.length*10) (encL X++G)=encL X:=by
 have:(encL X).length=X.length*10:=encL_length X
 rw[← this,List.take_left]
theorem len_boxG (X:List Box) (G:List AV):X.length*10≤(encL X++G).length:=by rw[List.length_append,encL_length];exact Nat.le_add_right _ _
end Go.Co
