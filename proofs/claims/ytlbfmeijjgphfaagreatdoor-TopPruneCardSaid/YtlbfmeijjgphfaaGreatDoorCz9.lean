/- CO: texts of this claim, one behind the other. -/
import Derived.Test.YtlbfmeijjgphfaaGreatDoorCz5
import Derived.Test.YtlbfmeijjgphfaaGreatDoorCz7
import Derived.Test.YtlbfmeijjgphfaaGreatDoorCz8
set_option linter.unusedVariables false
set_option linter.unusedSimpArgs false
/- CO: pairs. -/
set_option maxHeartbeats 16000000
set_option maxRecDepth 100000
namespace Go.Co
open Go.Am Go.Proofs
def c150_3:ACode:=.seq (.ops [⟨some 1,.box (.t 0) 17,none,[]⟩,⟨some 2,.mv (.c (.bool false)),none,[]⟩] [1]) (.seq (.ops [⟨some 3,.fad (.t 1) 0,none,[1]⟩,⟨some 4,.load 1 false (.t 3),none,[1]⟩,⟨some 5,.bin .eql (.t 4) (.c (.int .i64 3)),none,[]⟩,⟨some 6,.mv (.t 5),none,[]⟩,⟨some 7,.fad (.t 1) 14,some (6,true),[1]⟩,⟨some 8,.load 1 false (.t 7),some (6,true),[1]⟩,⟨some 9,.bin .geq (.t 8) (.c (.int .i64 0)),some (6,true),[]⟩,⟨some 10,.pick (.t 6) (.t 9) (.c (.bool false)),none,[]⟩,⟨some 11,.mv (.t 10),none,[]⟩,⟨some 12,.fad (.t 1) 14,some (11,true),[1]⟩,⟨some 13,.load 1 false (.t 12),some (11,true),[1]⟩,⟨some 14,.bin .lss (.t 13) (.c (.int .i64 4)),some (11,true),[]⟩,⟨some 15,.pick (.t 11) (.t 14) (.c (.bool false)),none,[]⟩,⟨some 2,.mv (.t 15),none,[]⟩] [2]) .ret)
theorem r150_3:type_of% (rr c150_3.eq_1):=rr rfl
def a150:AFun:=⟨1,16,c150_3,[.t 2]⟩
attribute [simp] r150_3
theorem m150:mFun Tryz.prog Tryz.f150 a150=true:=by decide +kernel
def c151_8:ACode:=.seq (.ops [⟨some 2,.box (.t 0) 17,none,[]⟩,⟨some 3,.box (.t 1) 10,none,[]⟩,⟨some 4,.alloc [.int .i64 0,.int .i64 0,.int .i64 0,.int .i64 0,.int .i64 0,.int .i64 0,.int .i64 0,.int .i64 0,.int .i64 0,.int .i64 0],none,[]⟩] [2,3,4]) (.seq (.seq (.ops [⟨some 5,.load 17 true (.t 2),none,[2]⟩,⟨some 6,.call 150 [.t 5],none,[]⟩] [3,4,6]) (.cond (.t 6) (.ops [⟨some 7,.build [.int .i64 0,.int .i64 0] [],none,[]⟩,⟨some 8,.iad (.t 3) (.c (.int .i64 4)) 2 5,none,[3]⟩,⟨none,.store (.t 8) 2 (.t 7),none,[3]⟩] [3,4]) .skip)) (.seq (.ops [⟨some 9,.load 10 true (.t 3),none,[3]⟩,⟨none,.store (.t 4) 10 (.t 9),none,[4]⟩] [4]) .ret))
theorem r151_8:type_of% (rr c151_8.eq_1):=rr rfl
def a151:AFun:=⟨2,10,c151_8,[.cell 4 10 true]⟩
attribute [simp] r151_8
theorem m151:mFun Tryz.prog Tryz.f151 a151=true:=by decide +kernel
def c152_8:ACode:=.seq (.ops [⟨some 2,.box (.t 0) 17,none,[]⟩,⟨some 3,.box (.t 1) 10,none,[]⟩,⟨some 4,.alloc [.int .i64 0,.int .i64 0,.int .i64 0,.int .i64 0,.int .i64 0,.int .i64 0,.int .i64 0,.int .i64 0,.int .i64 0,.int .i64 0],none,[]⟩] [2,3,4]) (.seq (.seq (.ops [⟨some 5,.load 17 true (.t 2),none,[2]⟩,⟨some 6,.call 150 [.t 5],none,[]⟩] [2,3,4,6]) (.cond (.t 6) (.ops [⟨some 7,.fad (.t 2) 14,none,[2]⟩,⟨some 8,.load 1 false (.t 7),none,[2]⟩,⟨some 9,.iad (.t 3) (.c (.int .i64 4)) 2 5,none,[3]⟩,⟨some 10,.load 2 true (.t 9),none,[3]⟩,⟨some 11,.build [.int .i64 0,.int .i64 0] [],none,[]⟩,⟨some 12,.iad (.t 3) (.t 8) 2 5,none,[3]⟩,⟨none,.store (.t 12) 2 (.t 10),none,[3]⟩,⟨some 13,.iad (.t 3) (.c (.int .i64 4)) 2 5,none,[3]⟩,⟨none,.store (.t 13) 2 (.t 11),none,[3]⟩] [3,4]) .skip)) (.seq (.ops [⟨some 14,.load 10 true (.t 3),none,[3]⟩,⟨none,.store (.t 4) 10 (.t 14),none,[4]⟩] [4]) .ret))
theorem r152_8:type_of% (rr c152_8.eq_1):=rr rfl
def a152:AFun:=⟨2,15,c152_8,[.cell 4 10 true]⟩
attribute [simp] r152_8
theorem m152:mFun Tryz.prog Tryz.f152 a152=true:=by decide +kernel
def c111_3:ACode:=.seq (.ops [⟨some 2,.box (.t 0) 17,none,[]⟩,⟨some 3,.box (.t 1) 10,none,[]⟩,⟨some 4,.mv (.c (.bool false)),none,[]⟩] [2,3]) (.seq (.ops [⟨some 5,.load 17 true (.t 2),none,[2]⟩,⟨some 6,.call 150 [.t 5],none,[]⟩,⟨some 7,.mv (.t 6),none,[]⟩,⟨some 8,.load 10 true (.t 3),some (7,true),[3]⟩,⟨some 9,.call 52 [.t 8],some (7,true),[]⟩,⟨some 10,.un .not (.t 9),some (7,true),[]⟩,⟨some 11,.pick (.t 7) (.t 10) (.c (.bool false)),none,[]⟩,⟨some 12,.mv (.t 11),none,[]⟩,⟨some 13,.fad (.t 2) 14,some (12,true),[2]⟩,⟨some 14,.load 1 false (.t 13),some (12,true),[2]⟩,⟨some 15,.iad (.t 3) (.t 14) 2 5,some (12,true),[3]⟩,⟨some 16,.fad (.t 15) 0,some (12,true),[3]⟩,⟨some 17,.load 1 false (.t 16),some (12,true),[3]⟩,⟨some 18,.iad (.t 3) (.c (.int .i64 4)) 2 5,some (12,true),[3]⟩,⟨some 19,.fad (.t 18) 1,some (12,true),[3]⟩,⟨some 20,.load 1 false (.t 19),some (12,true),[3]⟩,⟨some 21,.bin .lss (.t 17) (.t 20),some (12,true),[]⟩,⟨some 22,.pick (.t 12) (.t 21) (.c (.bool false)),none,[]⟩,⟨some 4,.mv (.t 22),none,[]⟩] [4]) .ret)
theorem r111_3:type_of% (rr c111_3.eq_1):=rr rfl
def a111:AFun:=⟨2,23,c111_3,[.t 4]⟩
attribute [simp] r111_3
theorem m111:mFun Tryz.prog Tryz.f111 a111=true:=by decide +kernel
def c112_13:ACode:=.seq (.ops [⟨some 3,.box (.t 0) 6,none,[]⟩,⟨some 4,.box (.t 1) 17,none,[]⟩,⟨some 5,.box (.t 2) 10,none,[]⟩,⟨some 6,.mv (.c (.int .i64 0)),none,[]⟩,⟨some 7,.mv (.c (.int .i64 0)),none,[]⟩,⟨some 8,.mv (.c (.bool false)),none,[]⟩] [3,4,5]) (.seq (.ops [⟨some 16,.load 6 true (.t 3),none,[3]⟩,⟨some 17,.fad (.t 4) 1,none,[4]⟩,⟨some 18,.load 1 false (.t 17),none,[4]⟩,⟨some 19,.load 17 true (.t 4),none,[4]⟩,⟨some 20,.load 10 true (.t 5),none,[5]⟩,⟨some 21,.call 151 [.t 19,.t 20],none,[]⟩,⟨some 22,.call 109 [.t 16,.t 18,.t 21],none,[]⟩,⟨some 15,.mv (.t 22),none,[]⟩,⟨some 23,.ext (.t 15) 0,none,[]⟩,⟨some 24,.ext (.t 15) 1,none,[]⟩,⟨some 25,.ext (.t 15) 2,none,[]⟩,⟨some 9,.mv (.t 23),none,[]⟩,⟨some 10,.mv (.t 24),none,[]⟩,⟨some 11,.mv (.t 25),none,[]⟩] [3,4,5,9,10,11]) (.seq (.ops [⟨some 27,.load 6 true (.t 3),none,[3]⟩,⟨some 28,.fad (.t 4) 1,none,[4]⟩,⟨some 29,.load 1 false (.t 28),none,[4]⟩,⟨some 30,.load 17 true (.t 4),none,[4]⟩,⟨some 31,.load 10 true (.t 5),none,[5]⟩,⟨some 32,.call 152 [.t 30,.t 31],none,[]⟩,⟨some 33,.call 109 [.t 27,.t 29,.t 32],none,[]⟩,⟨some 26,.mv (.t 33),none,[]⟩,⟨some 34,.ext (.t 26) 0,none,[]⟩,⟨some 35,.ext (.t 26) 1,none,[]⟩,⟨some 36,.ext (.t 26) 2,none,[]⟩,⟨some 12,.mv (.t 34),none,[]⟩,⟨some 13,.mv (.t 35),none,[]⟩,⟨some 14,.mv (.t 36),none,[]⟩] [4,9,10,11,12,13,14]) (.seq (.seq (.ops [⟨some 37,.load 17 true (.t 4),none,[4]⟩,⟨some 38,.call 150 [.t 37],none,[]⟩,⟨some 39,.un .not (.t 38),none,[]⟩,⟨some 40,.mv (.t 39),none,[]⟩,⟨some 41,.mv (.t 11),some (40,false),[]⟩,⟨some 42,.un .not (.t 41),some (40,false),[]⟩,⟨some 43,.pick (.t 40) (.c (.bool true)) (.t 42),none,[]⟩,⟨some 44,.mv (.t 43),none,[]⟩,⟨some 45,.mv (.t 14),some (44,false),[]⟩,⟨some 46,.un .not (.t 45),some (44,false),[]⟩,⟨some 47,.pick (.t 44) (.c (.bool true)) (.t 46),none,[]⟩] [9,10,12,13,47]) (.cond (.t 47) (.seq (.ops [⟨some 6,.mv (.c (.int .i64 0)),none,[]⟩,⟨some 7,.mv (.c (.int .i64 0)),none,[]⟩,⟨some 8,.mv (.c (.bool false)),none,[]⟩] [6,7,8]) .ret) .skip)) (.seq (.ops [⟨some 48,.mv (.t 12),none,[]⟩,⟨some 49,.mv (.t 10),none,[]⟩,⟨some 50,.bin .sub (.t 48) (.t 49),none,[]⟩,⟨some 51,.mv (.t 13),none,[]⟩,⟨some 52,.mv (.t 9),none,[]⟩,⟨some 53,.bin .sub (.t 51) (.t 52),none,[]⟩,⟨some 6,.mv (.t 50),none,[]⟩,⟨some 7,.mv (.t 53),none,[]⟩,⟨some 8,.mv (.c (.bool true)),none,[]⟩] [6,7,8]) .ret))))
theorem r112_13:type_of% (rr c112_13.eq_1):=rr rfl
def a112:AFun:=⟨3,54,c112_13,[.t 6,.t 7,.t 8]⟩
attribute [simp] r112_13
theorem m112:mFun Tryz.prog Tryz.f112 a112=true:=by decide +kernel
theorem runs_pairs (q:Query) (c:Bool) (h:some (paired q)=some c):Runs (tbl []) a150 [Arg.enc q] (Arg.enc c):=by
 cases h
 refine⟨rfl,fun g=>run_def ?_⟩
 unfold a150
 by_cases k1:q.kind=3
 case neg=>simp -implicitDefEqProofs [paired,k1]
 by_cases k2:0≤q.feature
 case neg=>simp -implicitDefEqProofs [paired,k1,k2]
 simp -implicitDefEqProofs [paired,k1,k2]
theorem c_pairs:Contract Tryz.prog 150 (sp1 fun q=>some (paired q)) :=
 contract_of_runs mixed tbl_nil Tryz.func150 m150 (sp1_runs runs_pairs)
def firstB (q:Query) (b:Box):Box:=if paired q then { b with s4:=⟨0,0⟩ } else b
def secondB (q:Query) (b:Box):Box:=if paired q then { b.set q.feature b.s4 with s4:=⟨0,0⟩ } else b
def orderedB (q:Query) (b:Box):Bool:=paired q && !b.empty&&decide ((b.get q.feature).lo<b.s4.hi)
theorem runs_First (q:Query) (b:Box) (c:Box) (h:some (firstB q b)=some c):Runs (tbl [(150,sp1 fun q=>some (paired q))]) a151 [Arg.enc q,Arg.enc b] (Arg.enc c):=by
 cases h
 refine⟨rfl,fun g=>run_def ?_⟩
 unfold a151
 cases hp:paired q<;>simp -implicitDefEqProofs [firstB,hp]
theorem c_First:Contract Tryz.prog 151 (sp2 fun q b=>some (firstB q b)) :=
 contract_of_runs mixed (tbl_cons c_pairs tbl_nil) Tryz.func151 m151 (sp2_runs runs_First)
theorem runs_cSecond (q:Query) (b:Box) (c:Box) (h:some (secondB q b)=some c):Runs (tbl [(150,sp1 fun q=>some (paired q))]) a152 [Arg.enc q,Arg.enc b] (Arg.enc c):=by
 cases h
 refine⟨rfl,fun g=>run_def ?_⟩
 unfold a152
 cases hp:paired q
 ·simp -implicitDefEqProofs [secondB,hp]
 ·have hf:=paired_feature hp
  obtain⟨kind,cls,region,lo,hi,feature,falls,budget⟩:=q
  simp only at hf
  rcases hf with rfl|rfl|rfl|rfl<;>simp -implicitDefEqProofs [secondB,hp,Box.set]
theorem c_cSecond:Contract Tryz.prog 152 (sp2 fun q b=>some (secondB q b)) :=
 contract_of_runs mixed (tbl_cons c_pairs tbl_nil) Tryz.func152 m152 (sp2_runs runs_cSecond)
theorem runs_Ordered (q:Query) (b:Box) (c:Bool) (h:some (orderedB q b)=some c):Runs (tbl [(150,sp1 fun q=>some (paired q)),(52,sp1 fun (b:Box)=>some b.empty)]) a111 [Arg.enc q,Arg.enc b] (Arg.enc c):=by
 cases h
 refine⟨rfl,fun g=>run_def ?_⟩
 unfold a111
 cases hp:paired q
 ·simp -implicitDefEqProofs [orderedB,hp]
 ·have hf:=paired_feature hp
  cases he:b.empty
  case true=>simp -implicitDefEqProofs [orderedB,hp,he]
  obtain⟨kind,cls,region,lo,hi,feature,falls,budget⟩:=q
  simp only at hf
  rcases hf with rfl|rfl|rfl|rfl<;>simp -implicitDefEqProofs [orderedB,hp,he,Box.get]
theorem c_Ordered:Contract Tryz.prog 111 (sp2 fun q b=>some (orderedB q b)) :=
 contract_of_runs mixed (tbl_cons c_pairs (tbl_cons c_bEmpty tbl_nil)) Tryz.func111 m111 (sp2_runs runs_Ordered)
def changeM (m:Model) (q:Query) (b:Box):Tri Int Int Bool :=
 if paired q&&(boundM m q.cls (firstB q b)).c&&(boundM m q.cls (secondB q b)).c then
  ⟨(boundM m q.cls (secondB q b)).a-(boundM m q.cls (firstB q b)).b,(boundM m q.cls (secondB q b)).b-(boundM m q.cls (firstB q b)).a,true⟩ else ⟨0,0,false⟩
theorem boundM_le {m:Model} (hm:RM m) (c:Int) (b:Box):-19327352832≤(boundM m c b).a∧(boundM m c b).a≤19327352823∧-19327352832≤(boundM m c b).b∧(boundM m c b).b≤19327352823:=by
 unfold boundM
 split
 ·simp
 ·rename_i h
  have he:b.empty=false:=by cases he:b.empty<;>simp[he] at h ⊢
  have:=boundP_le hm c he
  simp only
  omega
theorem okB_first {b:Box} (h:okB b) (q:Query):okB (firstB q b)∧okB (secondB q b):=by
 have z:okS64 ⟨0,0⟩:=by unfold okS64 ok64;simp only;omega
 unfold firstB secondB
 cases paired q
 ·exact⟨h,h⟩
 ·have h2:=okB_set h q.feature h.2.2.2.2
  exact⟨⟨h.1,h.2.1,h.2.2.1,h.2.2.2.1,z⟩,h2.1,h2.2.1,h2.2.2.1,h2.2.2.2.1,z⟩
noncomputable def ChangeC (m:Model) (q:Query) (b:Box):Option (Tri Int Int Bool):=Part (RM m∧okB b) (changeM m q b)
theorem runs_Change (m:Model) (q:Query) (b:Box) (c:Tri Int Int Bool) (h:ChangeC m q b=some c):Runs (tbl [(151,sp2 fun q b=>some (firstB q b)),(152,sp2 fun q b=>some (secondB q b)),(109,sp3 BoundS),(150,sp1 fun q=>some (paired q))]) a112 [Arg.enc m,Arg.enc q,Arg.enc b] (Arg.enc c):=by
 obtain⟨⟨hm,hb⟩,rfl⟩:=part_some h
 clear h
 refine⟨rfl,fun g=>run_def ?_⟩
 unfold a112
 have hk:=okB_first hb q
 have s1:BoundS m q.cls (firstB q b)=some (boundM m q.cls (firstB q b)):=part_of ⟨hm,hk.1⟩ _
 have s2:BoundS m q.cls (secondB q b)=some (boundM m q.cls (secondB q b)):=part_of ⟨hm,hk.2⟩ _
 have l1:=boundM_le hm q.cls (firstB q b)
 have l2:=boundM_le hm q.cls (secondB q b)
 have w1:IntKind.i64.wrap ((boundM m q.cls (secondB q b)).a-(boundM m q.cls (firstB q b)).b)=(boundM m q.cls (secondB q b)).a-(boundM m q.cls (firstB q b)).b:=wrap64 (by omega) (by omega)
 have w2:IntKind.i64.wrap ((boundM m q.cls (secondB q b)).b-(boundM m q.cls (firstB q b)).a)=(boundM m q.cls (secondB q b)).b-(boundM m q.cls (firstB q b)).a:=wrap64 (by omega) (by omega)
 cases hp:paired q
 case false=>simp -implicitDefEqProofs [changeM,hp,s1,s2]
 cases h1:(boundM m q.cls (firstB q b)).c
 case false=>simp -implicitDefEqProofs [changeM,hp,s1,s2,h1]
 cases h2:(boundM m q.cls (secondB q b)).c<;>simp -implicitDefEqProofs [changeM,hp,s1,s2,h1,h2,w1,w2]
theorem c_Change:Contract Tryz.prog 112 (sp3 ChangeC) :=
 contract_of_runs mixed (tbl_cons c_First (tbl_cons c_cSecond (tbl_cons c_bSum (tbl_cons c_pairs tbl_nil)))) Tryz.func112 m112 (sp3_runs runs_Change)
end Go.Co
/- CO: what changes of pairs are. -/
namespace Go.Co
open Go.Am Go.Proofs
theorem first_in {q:Query} (hp:paired q=true) {b:Box} {p:Point} {t:Int}:InB (firstB q b) p t↔(t=0∧InS b.s0 p.p0∧InS b.s1 p.p1∧InS b.s2 p.p2∧InS b.s3 p.p3):=by
 unfold firstB InB
 rw[if_pos hp]
 simp only
 constructor
 ·rintro⟨h0,h1,h2,h3,h4⟩
  exact⟨by unfold InS at h4;simp only at h4;omega,h0,h1,h2,h3⟩
 ·rintro⟨rfl,h0,h1,h2,h3⟩
  exact⟨h0,h1,h2,h3,by unfold InS;simp⟩
theorem second_in {q:Query} (hp:paired q=true) {b:Box} {p:Point} {t:Int} (h:InB b p t):InB (secondB q b) (p.set q.feature t) 0:=by
 have hf:=paired_feature hp
 obtain⟨h0,h1,h2,h3,h4⟩:=h
 have z:InS ⟨0,0⟩ 0:=by unfold InS;simp
 unfold secondB
 rw[if_pos hp]
 rcases hf with hf|hf|hf|hf<;>rw[hf]<;>simp only[Box.set,Point.set,InB,if_true,Int.reduceEq,if_false,reduceIte]
 ·exact⟨h4,h1,h2,h3,z⟩
 ·exact⟨h0,h4,h2,h3,z⟩
 ·exact⟨h0,h1,h4,h3,z⟩
 ·exact⟨h0,h1,h2,h4,z⟩
theorem second_back {q:Query} (hp:paired q=true) {b:Box} (he:b.empty=false) {p:Point} {t:Int} (h:InB (secondB q b) p t):t=0∧∃ p' t',InB b p' t'∧p=p'.set q.feature t':=by
 have hf:=paired_feature hp
 obtain⟨p0,t0,h0,h1,h2,h3,h4⟩:=empty_false.1 he
 unfold secondB at h
 rw[if_pos hp] at h
 rcases hf with hf|hf|hf|hf<;>rw[hf] at h ⊢<;>simp only[Box.set,InB,if_true,Int.reduceEq,if_false,reduceIte] at h<;>obtain⟨k0,k1,k2,k3,k4⟩:=h <;>
  refine⟨by unfold InS at k4;simp only at k4;omega, ?_⟩
 ·exact⟨⟨p0.p0,p.p1,p.p2,p.p3⟩,p.p0,⟨h0,k1,k2,k3,k0⟩,rfl⟩
 ·exact⟨⟨p.p0,p0.p1,p.p2,p.p3⟩,p.p1,⟨k0,h1,k2,k3,k1⟩,rfl⟩
 ·exact⟨⟨p.p0,p.p1,p0.p2,p.p3⟩,p.p2,⟨k0,k1,h2,k3,k2⟩,rfl⟩
 ·exact⟨⟨p.p0,p.p1,p.p2,p0.p3⟩,p.p3,⟨k0,k1,k2,h3,k3⟩,rfl⟩
theorem first_some {q:Query} (hp:paired q=true) {b:Box} (he:b.empty=false):(firstB q b).empty=false:=by
 obtain⟨p,t,h0,h1,h2,h3,h4⟩:=empty_false.1 he
 exact empty_false.2 ⟨p,0,(first_in hp).2 ⟨rfl,h0,h1,h2,h3⟩⟩
theorem second_some {q:Query} (hp:paired q=true) {b:Box} (he:b.empty=false):(secondB q b).empty=false:=by
 obtain⟨p,t,h⟩:=empty_false.1 he
 exact empty_false.2 ⟨_,_,second_in hp h⟩
theorem change_some {m:Model} {q:Query} (hp:paired q=true) (h0:0≤q.cls) (h1:q.cls<m.classes) {b:Box} (he:b.empty=false) :
  changeM m q b=⟨(boundP m q.cls (secondB q b)).1-(boundP m q.cls (firstB q b)).2,(boundP m q.cls (secondB q b)).2-(boundP m q.cls (firstB q b)).1,true⟩:=by
 have e1:=first_some hp he
 have e2:=second_some hp he
 have a1:boundM m q.cls (firstB q b)=⟨(boundP m q.cls (firstB q b)).1,(boundP m q.cls (firstB q b)).2,true⟩:=by unfold boundM;rw[if_neg (by simp[e1];omega)]
 have a2:boundM m q.cls (secondB q b)=⟨(boundP m q.cls (secondB q b)).1,(boundP m q.cls (secondB q b)).2,true⟩:=by unfold boundM;rw[if_neg (by simp[e2];omega)]
 unfold changeM
 rw[a1,a2,hp]
 rfl
theorem change_sound {m:Model} (hm:RM m) {q:Query} (hp:paired q=true) (h0:0≤q.cls) (h1:q.cls<m.classes) {b:Box} {p:Point} {t:Int} (h:InB b p t) :
  (changeM m q b).a≤evalM m q.cls (p.set q.feature t)-evalM m q.cls p∧evalM m q.cls (p.set q.feature t)-evalM m q.cls p≤(changeM m q b).b:=by
 rw[change_some hp h0 h1 (empty_false.2 ⟨p,t,h⟩)]
 have k1:=bound_sound hm q.cls ((first_in hp (b:=b) (p:=p) (t:=0)).2 ⟨rfl,h.1,h.2.1,h.2.2.1,h.2.2.2.1⟩)
 have k2:=bound_sound hm q.cls (second_in hp h)
 simp only
 omega
end Go.Co
/- CO: do sums show what is asked within a box? where is it cut? -/
set_option maxHeartbeats 16000000
set_option maxRecDepth 100000
namespace Go.Co
open Go.Am Go.Proofs
attribute [-simp] Go.Am.eff_gcall
def c65_47:ACode:=.seq (.ops [⟨some 3,.box (.t 0) 6,none,[]⟩,⟨some 4,.box (.t 1) 17,none,[]⟩,⟨some 5,.box (.t 2) 10,none,[]⟩,⟨some 6,.mv (.c (.bool false)),none,[]⟩] [3,4,5]) (.seq (.seq (.ops [⟨some 15,.load 6 true (.t 3),none,[3]⟩,⟨some 16,.load 17 true (.t 4),none,[4]⟩,⟨some 17,.call 40 [.t 15,.t 16],none,[]⟩,⟨some 18,.un .not (.t 17),none,[]⟩] [3,4,5,18]) (.cond (.t 18) (.seq (.ops [⟨some 6,.mv (.c (.bool false)),none,[]⟩] [6]) .ret) .skip)) (.seq (.seq (.ops [⟨some 19,.load 10 true (.t 5),none,[5]⟩,⟨some 20,.call 52 [.t 19],none,[]⟩] [3,4,5,20]) (.cond (.t 20) (.seq (.ops [⟨some 6,.mv (.c (.bool true)),none,[]⟩] [6]) .ret) .skip)) (.seq (.seq (.ops [⟨some 21,.fad (.t 4) 0,none,[4]⟩,⟨some 22,.load 1 false (.t 21),none,[4]⟩] [3,4,5,22]) (.block 0 (.seq (.ops [⟨some 24,.bin .eql (.t 22) (.c (.int .i64 1)),none,[]⟩,⟨some 23,.mv (.t 24),none,[]⟩] [3,4,5,22,23]) (.cond (.t 23) (.seq (.ops [⟨some 26,.load 6 true (.t 3),none,[3]⟩,⟨some 27,.fad (.t 4) 1,none,[4]⟩,⟨some 28,.load 1 false (.t 27),none,[4]⟩,⟨some 29,.load 10 true (.t 5),none,[5]⟩,⟨some 30,.call 109 [.t 26,.t 28,.t 29],none,[]⟩,⟨some 25,.mv (.t 30),none,[]⟩,⟨some 31,.ext (.t 25) 0,none,[]⟩,⟨some 32,.ext (.t 25) 1,none,[]⟩,⟨some 33,.ext (.t 25) 2,none,[]⟩,⟨some 7,.mv (.t 31),none,[]⟩,⟨some 8,.mv (.t 32),none,[]⟩,⟨some 9,.mv (.t 33),none,[]⟩] [4,7,8,9]) (.seq (.ops [⟨some 34,.mv (.t 9),none,[]⟩,⟨some 35,.mv (.t 34),none,[]⟩,⟨some 36,.fad (.t 4) 12,some (35,true),[4]⟩,⟨some 37,.load 1 false (.t 36),some (35,true),[4]⟩,⟨some 38,.mv (.t 7),some (35,true),[]⟩,⟨some 39,.bin .leq (.t 37) (.t 38),some (35,true),[]⟩,⟨some 40,.pick (.t 35) (.t 39) (.c (.bool false)),none,[]⟩,⟨some 41,.mv (.t 40),none,[]⟩,⟨some 42,.mv (.t 8),some (41,true),[]⟩,⟨some 43,.fad (.t 4) 13,some (41,true),[4]⟩,⟨some 44,.load 1 false (.t 43),some (41,true),[4]⟩,⟨some 45,.bin .leq (.t 42) (.t 44),some (41,true),[]⟩,⟨some 46,.pick (.t 41) (.t 45) (.c (.bool false)),none,[]⟩,⟨some 6,.mv (.t 46),none,[]⟩] [6]) .ret)) (.seq (.ops [⟨some 48,.bin .eql (.t 22) (.c (.int .i64 2)),none,[]⟩,⟨some 47,.mv (.t 48),none,[]⟩] [3,4,5,47]) (.cond (.t 47) (.seq (.ops [⟨some 50,.load 6 true (.t 3),none,[3]⟩,⟨some 51,.fad (.t 4) 1,none,[4]⟩,⟨some 52,.load 1 false (.t 51),none,[4]⟩,⟨some 53,.load 10 true (.t 5),none,[5]⟩,⟨some 54,.call 110 [.t 50,.t 52,.t 53],none,[]⟩,⟨some 49,.mv (.t 54),none,[]⟩,⟨some 55,.ext (.t 49) 0,none,[]⟩,⟨some 56,.ext (.t 49) 1,none,[]⟩,⟨some 10,.mv (.t 55),none,[]⟩,⟨some 11,.mv (.t 56),none,[]⟩] [10,11]) (.seq (.ops [⟨some 57,.mv (.t 11),none,[]⟩,⟨some 58,.mv (.t 57),none,[]⟩,⟨some 59,.mv (.t 10),some (58,true),[]⟩,⟨some 60,.bin .gtr (.t 59) (.c (.int .i64 0)),some (58,true),[]⟩,⟨some 61,.pick (.t 58) (.t 60) (.c (.bool false)),none,[]⟩,⟨some 6,.mv (.t 61),none,[]⟩] [6]) .ret)) .skip)))))) (.seq (.seq (.ops [⟨some 62,.load 17 true (.t 4),none,[4]⟩,⟨some 63,.load 10 true (.t 5),none,[5]⟩,⟨some 64,.call 111 [.t 62,.t 63],none,[]⟩,⟨some 65,.un .not (.t 64),none,[]⟩] [3,4,5,65]) (.cond (.t 65) (.seq (.ops [⟨some 6,.mv (.c (.bool true)),none,[]⟩] [6]) .ret) .skip)) (.seq (.ops [⟨some 67,.load 6 true (.t 3),none,[3]⟩,⟨some 68,.load 17 true (.t 4),none,[4]⟩,⟨some 69,.load 10 true (.t 5),none,[5]⟩,⟨some 70,.call 112 [.t 67,.t 68,.t 69],none,[]⟩,⟨some 66,.mv (.t 70),none,[]⟩,⟨some 71,.ext (.t 66) 0,none,[]⟩,⟨some 72,.ext (.t 66) 1,none,[]⟩,⟨some 73,.ext (.t 66) 2,none,[]⟩,⟨some 12,.mv (.t 71),none,[]⟩,⟨some 13,.mv (.t 72),none,[]⟩,⟨some 14,.mv (.t 73),none,[]⟩] [4,12,13,14]) (.seq (.seq (.ops [⟨some 74,.fad (.t 4) 15,none,[4]⟩,⟨some 75,.load 1 false (.t 74),none,[4]⟩] [12,13,14,75]) (.cond (.t 75) (.seq (.ops [⟨some 76,.mv (.t 14),none,[]⟩,⟨some 77,.mv (.t 76),none,[]⟩,⟨some 78,.mv (.t 13),some (77,true),[]⟩,⟨some 79,.bin .leq (.t 78) (.c (.int .i64 0)),some (77,true),[]⟩,⟨some 80,.pick (.t 77) (.t 79) (.c (.bool false)),none,[]⟩,⟨some 6,.mv (.t 80),none,[]⟩] [6]) .ret) .skip)) (.seq (.ops [⟨some 81,.mv (.t 14),none,[]⟩,⟨some 82,.mv (.t 81),none,[]⟩,⟨some 83,.mv (.t 12),some (82,true),[]⟩,⟨some 84,.bin .geq (.t 83) (.c (.int .i64 0)),some (82,true),[]⟩,⟨some 85,.pick (.t 82) (.t 84) (.c (.bool false)),none,[]⟩,⟨some 6,.mv (.t 85),none,[]⟩] [6]) .ret)))))))
theorem r65_47:type_of% (rr c65_47.eq_1):=rr rfl
def a65:AFun:=⟨3,86,c65_47,[.t 6]⟩
attribute [simp] r65_47
theorem m65:mFun Tryz.prog Tryz.f65 a65=true:=by decide +kernel
def c67_25:ACode:=.seq (.ops [⟨some 3,.box (.t 0) 6,none,[]⟩,⟨some 4,.box (.t 1) 17,none,[]⟩,⟨some 5,.box (.t 2) 10,none,[]⟩,⟨some 6,.mv (.c (.int .i64 0)),none,[]⟩,⟨some 7,.mv (.c (.int .i64 0)),none,[]⟩,⟨some 8,.mv (.c (.bool false)),none,[]⟩] [3,4,5]) (.seq (.seq (.ops [⟨some 11,.mv (.c (.int .i64 0)),none,[]⟩] [3,4,5,11]) (.block 0 (.loop (.keep [3,4,5,11] [3,4,5] (.seq (.ops [⟨some 12,.bin .lss (.t 11) (.c (.int .i64 5)),none,[]⟩] [3,4,5,11,12]) (.seq (.cond (.t 12) .skip (.exit 0)) (.seq (.block 1 (.seq (.ops [⟨some 13,.mv (.t 11),none,[]⟩,⟨some 9,.mv (.t 13),none,[]⟩] [3,4,5,9,11]) (.seq (.ops [⟨some 14,.load 6 true (.t 3),none,[3]⟩,⟨some 15,.load 17 true (.t 4),none,[4]⟩,⟨some 16,.load 10 true (.t 5),none,[5]⟩,⟨some 17,.mv (.t 9),none,[]⟩,⟨some 18,.call 54 [.t 14,.t 15,.t 16,.t 17],none,[]⟩,⟨some 10,.mv (.t 18),none,[]⟩] [3,4,5,9,10,11]) (.seq (.ops [⟨some 19,.mv (.t 10),none,[]⟩,⟨some 20,.len (.t 19),none,[]⟩,⟨some 21,.bin .gtr (.t 20) (.c (.int .i64 0)),none,[]⟩] [3,4,5,9,10,11,21]) (.cond (.t 21) (.seq (.ops [⟨some 22,.mv (.t 9),none,[]⟩,⟨some 23,.mv (.t 10),none,[]⟩,⟨some 24,.mv (.t 10),none,[]⟩,⟨some 25,.len (.t 24),none,[]⟩,⟨some 26,.bin .sub (.t 25) (.c (.int .i64 1)),none,[]⟩,⟨some 27,.bin .quo (.t 26) (.c (.int .i64 2)),none,[]⟩,⟨some 28,.ias (.t 23) (.t 27) 1,none,[]⟩,⟨some 29,.load 1 false (.t 28),none,[]⟩,⟨some 6,.mv (.t 22),none,[]⟩,⟨some 7,.mv (.t 29),none,[]⟩,⟨some 8,.mv (.c (.bool true)),none,[]⟩] [6,7,8]) .ret) .skip))))) (.ops [⟨some 30,.bin .add (.t 11) (.c (.int .i64 1)),none,[]⟩,⟨some 11,.mv (.t 30),none,[]⟩] [3,4,5,11])))))))) (.seq (.ops [⟨some 6,.mv (.c (.int .i64 0)),none,[]⟩,⟨some 7,.mv (.c (.int .i64 0)),none,[]⟩,⟨some 8,.mv (.c (.bool false)),none,[]⟩] [6,7,8]) .ret))
theorem r67_25:type_of% (rr c67_25.eq_1):=rr rfl
def a67:AFun:=⟨3,31,c67_25,[.t 6,.t 7,.t 8]⟩
attribute [simp] r67_25
theorem m67:mFun Tryz.prog Tryz.f67 a67=true:=by decide +kernel
def c66_3:ACode:=.seq (.ops [⟨some 1,.box (.t 0) 10,none,[]⟩,⟨some 2,.alloc [.int .i64 0,.int .i64 0,.int .i64 0,.int .i64 0],none,[]⟩,⟨some 3,.mv (.c (.int .i64 0)),none,[]⟩] [1,2]) (.seq (.ops [⟨some 4,.load 10 true (.t 1),none,[1]⟩,⟨some 5,.call 48 [.t 4],none,[]⟩,⟨some 6,.iad (.t 1) (.c (.int .i64 4)) 2 5,none,[1]⟩,⟨some 7,.fad (.t 6) 1,none,[1]⟩,⟨some 8,.load 1 false (.t 7),none,[1]⟩,⟨none,.store (.t 2) 4 (.t 5),none,[2]⟩,⟨some 3,.mv (.t 8),none,[]⟩] [2,3]) .ret)
theorem r66_3:type_of% (rr c66_3.eq_1):=rr rfl
def a66:AFun:=⟨1,9,c66_3,[.cell 2 4 true,.t 3]⟩
attribute [simp] r66_3
theorem m66:mFun Tryz.prog Tryz.f66 a66=true:=by decide +kernel
def Same (m:Model) (p o:Point):Prop:=∀ j,0≤j→j<4→∀ t∈thrL m j,(p.get j≤t↔o.get j≤t)
theorem same_value {m:Model} (hm:RM m) {p o:Point} (h:Same m p o) {t:Tree} (ht:t∈m.trees):valueAt t.nodes p=valueAt t.nodes o:=by
 have hr:=hm.rt ht
 unfold valueAt leafOf
 rw[walk_same hr (fun i hi hl=>?_) 31 0 hr.pos]
 have hf:=hr.feature hi hl
 exact h _ hf.1 hf.2 _ (mem_thr.2 ⟨t,ht,t.nodes[i],List.getElem_mem hi,by rw[← ndAt_lt hi];exact hl,by rw[← ndAt_lt hi],by rw[← ndAt_lt hi]⟩)
theorem same_cell {m:Model} {q:Query} {x:Box} (hn:∀ i:Int,0≤i→i<5→cutsL m q x i=[]) {p o:Point} {t u:Int} (hp:InB x p t) (ho:InB x o u):Same m p o:=by
 intro j j0 j4
 have h1:=(inB_get.1 hp j j0 j4).1
 have h2:=(inB_get.1 ho j j0 j4).1
 have:=uncut (hn j j0 (by omega)) (by rw[featOf_lt q j0 j4];omega) h1 h2
 rwa [featOf_lt q j0 j4] at this
theorem same_second {m:Model} {q:Query} (hpr:paired q=true) {x:Box} (hn:∀ i:Int,0≤i→i<5→cutsL m q x i=[]) {p o:Point} {t u:Int} (hp:InB x p t) (ho:InB x o u):Same m (p.set q.feature t) (o.set q.feature u):=by
 have hf:0≤q.feature∧q.feature<4:=by have:=paired_feature hpr;omega
 have hk:q.kind=3:=by unfold paired at hpr;simp at hpr;omega
 intro j j0 j4
 rw[point_set_get p t hf.1 hf.2 j0 j4,point_set_get o u hf.1 hf.2 j0 j4]
 by_cases e:j=q.feature
 ·rw[if_pos e,if_pos e]
  have f4:featOf q 4=q.feature:=by unfold featOf;rw[if_neg (by omega),if_pos ⟨rfl,hk⟩]
  have:=uncut (hn 4 (by omega) (by omega)) (by rw[f4];omega) (n:=t) (o:=u) hp.2.2.2.2 ho.2.2.2.2
  rwa [f4,← e] at this
 ·rw[if_neg e,if_neg e]
  exact same_cell hn hp ho j j0 j4
theorem flat_fold {c:Int} {b:Box} {p:Point} {t0:Int} (hb:b.empty=false):∀(l:List Tree) (s:Int),(∀ t∈l,∃ d,RT t.nodes d)→(∀ t∈l,∀ q u,InB b q u→valueAt t.nodes q=valueAt t.nodes p) →
  l.foldl (boundF c b) (s,s)=(l.foldl (evalF c p) s,l.foldl (evalF c p) s)
 | [],s,_,_=>rfl
 | t::l,s,h,h1=>by
  obtain⟨d,hd⟩:=h t (by simp)
  obtain⟨_,_,⟨p',t',hp',h3⟩,⟨q,u,hq,h4⟩⟩:=boundT_spec hd hb
  rw[h1 t (by simp) p' t' hp'] at h3
  rw[h1 t (by simp) q u hq] at h4
  rw[List.foldl_cons,List.foldl_cons]
  have e:boundF c b (s,s) t=(evalF c p s t,evalF c p s t):=by
   unfold boundF evalF
   rw[← h3,← h4]
   split<;>rfl
  rw[e]
  exact flat_fold (t0:=t0) hb l _ (fun t ht=>h t (by simp[ht])) (fun t ht=>h1 t (by simp[ht]))
theorem bound_flat {m:Model} (hm:RM m) (c:Int) {b:Box} (hb:b.empty=false) {p:Point} (h:∀ q u,InB b q u→Same m q p):boundP m c b=(evalM m c p,evalM m c p) :=
 flat_fold (t0:=0) hb m.trees _ (fun t ht=>⟨_,hm.rt ht⟩) fun t ht q u hq=>same_value hm (h q u hq) ht
def ahead (m:Model) (c:Int) (b:Box):Prop:=∀ o:Int,0≤o→o<m.classes→o≠c→0<marD m c b o
theorem margin_pos {m:Model} {c:Int} {b:Box} (h0:0≤c) (h1:c<m.classes) (h2:m.classes=2∨m.classes=3):0<margin m c b↔ahead m c b:=by
 unfold margin ahead
 have hm2:=min2_le (a:=marD m c b (other1 c)) (b:=marD m c b (other2 c))
 rcases h2 with e|e
 ·rw[if_pos e]
  have hc:c=0∨c=1:=by omega
  constructor
  ·intro h o o0 o1 oc
   have:o=other1 c:=by unfold other1;split<;>omega
   rw[this];exact h
  ·intro h
   exact h _ (by unfold other1;split<;>omega) (by unfold other1;split<;>omega) (by unfold other1;split<;>omega)
 ·rw[if_neg (by omega)]
  have hc:c=0∨c=1∨c=2:=by omega
  constructor
  ·intro h o o0 o1 oc
   have:o=other1 c∨o=other2 c:=by unfold other1 other2;split<;>split<;>omega
   rcases this with e2|e2<;>rw[e2]<;>omega
  ·intro h
   have k1:=h (other1 c) (by unfold other1;split<;>omega) (by unfold other1;split<;>omega) (by unfold other1;split<;>omega)
   have k2:=h (other2 c) (by unfold other2;split<;>omega) (by unfold other2;split<;>omega) (by unfold other2;split<;>omega)
   omega
def closedM (m:Model) (q:Query) (b:Box):Bool :=
 if okQuery m q=false then false else if b.empty then true else
 if q.kind=1 then (boundM m q.cls b).c&&decide (q.lo≤(boundM m q.cls b).a)&&decide ((boundM m q.cls b).b≤q.hi) else
 if q.kind=2 then decide (0<margin m q.cls b) else
 if orderedB q b then (changeM m q b).c&&(if q.falls then decide ((changeM m q b).b≤0) else decide (0≤(changeM m q b).a)) else true
def Shown (m:Model) (q:Query) (b:Box):Prop :=
 (q.kind=1∧q.lo≤(boundP m q.cls b).1∧(boundP m q.cls b).2≤q.hi)∨(q.kind=2∧ahead m q.cls b) ∨
 (q.kind=3∧((b.get q.feature).lo<b.s4.hi→(if q.falls then (changeM m q b).b≤0 else 0≤(changeM m q b).a)))
theorem closed_iff {m:Model} (hm:RM m) {q:Query} (hq:okQuery m q=true) {b:Box} (hb:b.empty=false):closedM m q b=true↔Shown m q b:=by
 have hs:=okQuery_spec hq
 have hk:=okKind_spec hs.2.2.2.2.2
 have hcl:=hm.classes
 have hd:=hm.dim
 unfold closedM Shown
 rw[if_neg (by simp[hq]),if_neg (by simp[hb])]
 have hB:boundM m q.cls b=⟨(boundP m q.cls b).1,(boundP m q.cls b).2,true⟩:=by unfold boundM;rw[if_neg (by simp[hb];omega)]
 rcases hk with⟨k,_⟩|⟨k,k2,_⟩|⟨k,f0,f1,_⟩
 ·rw[if_pos k,hB]
  simp[k]
 ·rw[if_neg (by omega),if_pos k,decide_eq_true_eq,margin_pos hs.1 hs.2.1 (by omega)]
  simp[k]
 ·have hp:paired q=true:=by unfold paired;simp;omega
  have ho:orderedB q b=decide ((b.get q.feature).lo<b.s4.hi):=by unfold orderedB;rw[hp,hb];rfl
  have hc:(changeM m q b).c=true:=by rw[change_some hp hs.1 hs.2.1 hb]
  rw[if_neg (by omega),if_neg (by omega),ho,hc]
  by_cases h:(b.get q.feature).lo<b.s4.hi
  ·cases hf:q.falls<;>simp[k,h]
  ·simp[k,h]
theorem marD_sound {m:Model} (hm:RM m) {b:Box} {p:Point} {t:Int} (hp:InB b p t) (c o:Int):marD m c b o≤evalM m c p-evalM m o p:=by
 have h1:=bound_sound hm c hp
 have h2:=bound_sound hm o hp
 unfold marD
 omega
theorem unbeaten_iff {m:Model} {q:Query} {p:Point}:beaten m q p=false↔∀ o:Int,0≤o→o<m.classes→o≠q.cls→evalM m o p<evalM m q.cls p:=by
 unfold beaten
 rw[List.any_eq_false]
 constructor
 ·intro h o h0 h1 hc
  have:=h o.toNat (by rw[List.mem_range];omega)
  rw[show ((o.toNat:Nat):Int)=o by omega] at this
  simp[hc] at this
  exact this
 ·intro h x hx
  rw[List.mem_range] at hx
  by_cases e:(x:Int)=q.cls
  ·simp[e]
  ·have:=h x (by omega) (by omega) e
   simp[e]
   exact this
theorem closed_sound {m:Model} (hm:RM m) {q:Query} {b:Box} (h:closedM m q b=true) {p:Point} {t:Int} (hp:InB b p t):breaks m q p t=false:=by
 have hb:b.empty=false:=empty_false.2 ⟨p,t,hp⟩
 cases hq:okQuery m q
 ·unfold breaks;rw[hq];rfl
 rw[closed_iff hm hq hb] at h
 have hs:=okQuery_spec hq
 have hk:=okKind_spec hs.2.2.2.2.2
 have hd:=hm.dim
 unfold breaks
 rw[hq]
 simp only[if_true]
 rcases h with⟨k,h1,h2⟩|⟨k,h1⟩|⟨k,h1⟩
 ·rw[if_pos k]
  have:=bound_sound hm q.cls hp
  simp[Span.has]
  omega
 ·rw[if_neg (by omega),if_pos k,unbeaten_iff]
  intro o o0 o1 oc
  have k1:=h1 o o0 o1 oc
  have k2:=marD_sound hm hp q.cls o
  omega
 ·rw[if_neg (by omega),if_neg (by omega)]
  have hf:0≤q.feature∧q.feature<m.dim:=by omega
  have hpr:paired q=true:=by unfold paired;simp;omega
  by_cases hlt:p.get q.feature<t
  ·rw[if_pos hlt]
   have h2:=(inB_get.1 hp q.feature hf.1 (by omega)).1
   have h3:InS b.s4 t:=hp.2.2.2.2
   unfold InS at h2 h3
   have h1:=h1 (by omega)
   have hc:=change_sound hm hpr hs.1 hs.2.1 hp
   have hse:secondOf q p t=p.set q.feature t:=by unfold secondOf;rw[if_pos hpr]
   rw[hse]
   cases hfa:q.falls
   ·rw[hfa] at h1
    simp at h1 ⊢
    omega
   ·rw[hfa] at h1
    simp at h1 ⊢
    omega
  ·rw[if_neg hlt]
theorem low_get {x:Box} {k:Int} (h0:0≤k) (h4:k<4):(lowB x).get k=(x.get k).lo:=by
 have:k=0∨k=1∨k=2∨k=3:=by omega
 rcases this with rfl|rfl|rfl|rfl<;>rfl
theorem closed_uncut {m:Model} (hm:RM m) {q:Query} (hq:okQuery m q=true) {b:Box} (hb:b.empty=false) (hn:∀ i:Int,0≤i→i<5→cutsL m q b i=[]):closedM m q b = !(corner m q b):=by
 have hs:=okQuery_spec hq
 have hk:=okKind_spec hs.2.2.2.2.2
 have hd:=hm.dim
 have hl:=low_in hb
 have hF:∀ c,boundP m c b=(evalM m c (lowB b),evalM m c (lowB b)):=fun c=>bound_flat hm c hb fun p t hp=>same_cell hn hp hl
 have key:closedM m q b=true↔corner m q b=false:=by
  rw[closed_iff hm hq hb]
  unfold Shown corner breaks ahead marD
  rw[hq]
  simp only[hF,if_true]
  rcases hk with⟨k,_⟩|⟨k,k2,_⟩|⟨k,f0,f1,_⟩
  ·rw[if_pos k]
   simp[k,Span.has]
  ·rw[if_neg (show ¬ q.kind=1 by omega),if_pos k,unbeaten_iff]
   constructor
   ·rintro (⟨k',_⟩|⟨_,h⟩|⟨k',_⟩)
    ·omega
    ·intro o o0 o1 oc
     have:=h o o0 o1 oc
     omega
    ·omega
   ·intro h
    refine .inr (.inl ⟨k,fun o o0 o1 oc=>?_⟩)
    have:=h o o0 o1 oc
    omega
  ·have hpr:paired q=true:=by unfold paired;simp;omega
   have f1':q.feature<4:=by omega
   rw[if_neg (show ¬ q.kind=1 by omega),if_neg (show ¬ q.kind=2 by omega),low_get f0 f1']
   have e1:boundP m q.cls (firstB q b)=(evalM m q.cls (lowB b),evalM m q.cls (lowB b)):=bound_flat hm _ (first_some hpr hb) fun p t hp=>by
    obtain⟨_,k0,k1,k2,k3⟩:=(first_in hpr).1 hp
    exact same_cell hn (t:=b.s4.hi) ⟨k0,k1,k2,k3,hl.2.2.2.2⟩ hl
   have e2:boundP m q.cls (secondB q b)=(evalM m q.cls ((lowB b).set q.feature b.s4.hi),evalM m q.cls ((lowB b).set q.feature b.s4.hi)):=bound_flat hm _ (second_some hpr hb) fun p t hp=>by
    obtain⟨_,p',t',hp',rfl⟩:=second_back hpr hb hp
    exact same_second hpr hn hp' hl
   have hse:secondOf q (lowB b) b.s4.hi=(lowB b).set q.feature b.s4.hi:=by unfold secondOf;rw[if_pos hpr]
   rw[change_some hpr hs.1 hs.2.1 hb,e1,e2,hse]
   by_cases hlt:(b.get q.feature).lo<b.s4.hi
   ·cases hfa:q.falls
    ·simp[k,hlt]
    ·simp[k,hlt]
     omega
   ·simp[k,hlt]
 cases hc:corner m q b
 ·rw[key.2 hc];rfl
 ·cases hcl:closedM m q b
  ·rfl
  ·rw[key.1 hcl] at hc;cases hc
noncomputable def ClosedC (m:Model) (q:Query) (b:Box):Option Bool:=Part (RM m∧okB b) (closedM m q b)
theorem runs_Closed (m:Model) (q:Query) (b:Box) (r:Bool) (h:ClosedC m q b=some r):Runs (tbl [(40,sp2 QRight),(52,sp1 fun (b:Box)=>some b.empty),(109,sp3 BoundS),(110,sp3 MarginC),(111,sp2 fun q b=>some (orderedB q b)),(112,sp3 ChangeC)]) a65 [Arg.enc m,Arg.enc q,Arg.enc b] (Arg.enc r):=by
 obtain⟨⟨hm,hb⟩,rfl⟩:=part_some h
 clear h
 refine⟨rfl,fun g=>run_def ?_⟩
 unfold a65 closedM
 have hM:QRight m q=some (okQuery m q):=by unfold QRight;rw[if_neg (by have:=hm.dim;omega)];exact part_of hm _
 cases hq:okQuery m q
 case false=>simp -implicitDefEqProofs [hM,hq]
 cases he:b.empty
 case true=>simp -implicitDefEqProofs [hM,hq,he]
 have hs:=okQuery_spec hq
 have hk:=okKind_spec hs.2.2.2.2.2
 have hS:BoundS m q.cls b=some (boundM m q.cls b):=part_of ⟨hm,hb⟩ _
 have hC:ChangeC m q b=some (changeM m q b):=part_of ⟨hm,hb⟩ _
 have hG:2≤m.classes→MarginC m q.cls b=some (margin m q.cls b,true):=fun h=>by
  unfold MarginC
  rw[part_of ⟨hm,hb⟩,if_neg (by simp[he];omega)]
 generalize boundM m q.cls b=z at *
 generalize changeM m q b=y at *
 obtain⟨z1,z2,z3⟩:=z
 obtain⟨y1,y2,y3⟩:=y
 obtain⟨kind,cls,region,lo,hi,feature,falls,budget⟩:=q
 simp only at *
 by_cases k1:kind=1
 ·subst k1
  cases z3
  ·simp -implicitDefEqProofs [hM,hq,he,hS]
  ·by_cases c1:lo≤z1
   ·simp -implicitDefEqProofs [hM,hq,he,hS,c1]
   ·simp -implicitDefEqProofs [hM,hq,he,hS,c1]
 by_cases k2:kind=2
 ·subst k2
  have hG:=hG (by omega)
  simp -implicitDefEqProofs [hM,hq,he,hG]
 cases ho:orderedB ⟨kind,cls,region,lo,hi,feature,falls,budget⟩ b
 ·simp -implicitDefEqProofs [hM,hq,he,k1,k2,ho]
 cases falls<;>cases y3<;>simp -implicitDefEqProofs [hM,hq,he,k1,k2,ho,hC]
theorem c_Closed:Contract Tryz.prog 65 (sp3 ClosedC) :=
 contract_of_runs mixed (tbl_cons c_qRight (tbl_cons c_bEmpty (tbl_cons c_bSum (tbl_cons c_Margin (tbl_cons c_Ordered (tbl_cons c_Change tbl_nil)))))) Tryz.func65 m65 (sp3_runs runs_Closed)
theorem runs_gCorner (b:Box) (r:Point×Int) (h:some (lowB b,b.s4.hi)=some r):Runs (tbl [(48,sp1 fun b=>some (lowB b))]) a66 [Arg.enc b] (Arg.enc r):=by
 cases h
 refine⟨rfl,fun g=>run_def ?_⟩
 unfold a66
 simp -implicitDefEqProofs []
theorem c_gCorner:Contract Tryz.prog 66 (sp1 fun b=>some (lowB b,b.s4.hi)) :=
 contract_of_runs mixed (tbl_cons c_Low tbl_nil) Tryz.func66 m66 (sp1_runs runs_gCorner)
def midL (l:List Int):Int:=l.getD ((l.length-1)/2) 0
def splitFrom (m:Model) (q:Query) (b:Box):List Int→Tri Int Int Bool
 | []=>⟨0,0,false⟩
 | k::ks=>if cutsL m q b k=[] then splitFrom m q b ks else ⟨k,midL (cutsL m q b k),true⟩
def splitM (m:Model) (q:Query) (b:Box):Tri Int Int Bool:=splitFrom m q b [0,1,2,3,4]
theorem splitFrom_spec (m:Model) (q:Query) (b:Box):∀(ks:List Int),((splitFrom m q b ks).c=false∧splitFrom m q b ks=⟨0,0,false⟩∧∀ k∈ks,cutsL m q b k=[]) ∨
  ∃(l r:List Int) (k:Int),ks=l++k::r∧cutsL m q b k≠[]∧(∀ i∈l,cutsL m q b i=[])∧splitFrom m q b ks=⟨k,midL (cutsL m q b k),true⟩
 | []=>.inl ⟨rfl,rfl,fun k hk=>by simp at hk⟩
 | k::ks=>by
  unfold splitFrom
  by_cases h:cutsL m q b k=[]
  ·rw[if_pos h]
   rcases splitFrom_spec m q b ks with⟨h1,h2,h3⟩|⟨l,r,j,h1,h2,h3,h4⟩
   ·exact .inl ⟨h1,h2,fun i hi=>by
     rcases List.mem_cons.1 hi with rfl|hi
     ·exact h
     ·exact h3 i hi⟩
   ·exact .inr ⟨k::l,r,j,by rw[h1];rfl,h2,fun i hi=>by
     rcases List.mem_cons.1 hi with rfl|hi
     ·exact h
     ·exact h3 i hi,h4⟩
  ·rw[if_neg h]
   exact .inr ⟨[],ks,k,rfl,h,fun i hi=>by simp at hi,rfl⟩
noncomputable def SplitC (m:Model) (q:Query) (b:Box):Option (Tri Int Int Bool):=Part (RM m) (splitM m q b)
theorem runs_Split (m:Model) (q:Query) (b:Box) (r:Tri Int Int Bool) (h:SplitC m q b=some r):Runs (tbl [(54,sp4 CutsC)]) a67 [Arg.enc m,Arg.enc q,Arg.enc b] (Arg.enc r):=by
 obtain⟨hm,rfl⟩:=part_some h
 clear h
 refine⟨rfl,fun g=>run_def ?_⟩
 unfold a67 splitM
 have hK:∀ i:Int,0≤i→i≤4→CutsC m q b i=some (cutsL m q b i):=fun i i0 i5=>part_of ⟨hm,.inr ⟨i0,i5⟩⟩ _
 have hL:∀ i,(cutsL m q b i).length≤248:=fun i=>by rw[cutsL_len];exact cutN_le hm q b i
 have fin:∀(l:List Int),l.length≤248→l≠[]→0<l.length∧l.length≤maxN∧IntKind.i64.wrap ((l.length:Int)-1)=((l.length-1:Nat):Int)∧∃ x:Nat,IntKind.i64.wrap (((l.length-1:Nat):Int)/2)=(x:Int)∧x<l.length∧rd (encL l) x 1 false=some (.int .i64 (midL l)):=by
  intro l hl hne
  have hp:0<l.length:=List.length_pos_iff.2 hne
  have hlt:(l.length-1)/2<l.length:=by omega
  refine⟨by omega,by unfold maxN;omega, ?_,(l.length-1)/2, ?_,hlt, ?_⟩
  ·rw[show (l.length:Int)-1=((l.length-1:Nat):Int) by omega]
   exact wrap64 (by omega) (by omega)
  ·rw[show ((l.length-1:Nat):Int)/2=(((l.length-1)/2:Nat):Int) by omega]
   exact wrap64 (by omega) (by omega)
  ·rw[rd_ints l _ hlt]
   unfold midL
   simp[hlt]
 have K0:=hK 0 (by omega) (by omega)
 have K1:=hK 1 (by omega) (by omega)
 have K2:=hK 2 (by omega) (by omega)
 have K3:=hK 3 (by omega) (by omega)
 have K4:=hK 4 (by omega) (by omega)
 have L0:=fin _ (hL 0)
 have L1:=fin _ (hL 1)
 have L2:=fin _ (hL 2)
 have L3:=fin _ (hL 3)
 have L4:=fin _ (hL 4)
 clear hK hL fin
 unfold splitFrom splitFrom splitFrom splitFrom splitFrom splitFrom
 generalize cutsL m q b 0=l0 at *
 generalize cutsL m q b 1=l1 at *
 generalize cutsL m q b 2=l2 at *
 generalize cutsL m q b 3=l3 at *
 generalize cutsL m q b 4=l4 at *
 by_cases h0:l0=[]
 case neg =>
  obtain⟨a1,a2,a3,x,a4,a5,a6⟩:=L0 h0
  simp -implicitDefEqProofs [run_round,K0,h0,a1,a2,a3,a4,a5,a6,encL_nil]
 subst h0
 by_cases h1:l1=[]
 case neg =>
  obtain⟨a1,a2,a3,x,a4,a5,a6⟩:=L1 h1
  simp -implicitDefEqProofs [run_round,K0,K1,h1,a1,a2,a3,a4,a5,a6,encL_nil]
 subst h1
 by_cases h2:l2=[]
 case neg =>
  obtain⟨a1,a2,a3,x,a4,a5,a6⟩:=L2 h2
  simp -implicitDefEqProofs [run_round,K0,K1,K2,h2,a1,a2,a3,a4,a5,a6,encL_nil]
 subst h2
 by_cases h3:l3=[]
 case neg =>
  obtain⟨a1,a2,a3,x,a4,a5,a6⟩:=L3 h3
  simp -implicitDefEqProofs [run_round,K0,K1,K2,K3,h3,a1,a2,a3,a4,a5,a6,encL_nil]
 subst h3
 by_cases h4:l4=[]
 case neg =>
  obtain⟨a1,a2,a3,x,a4,a5,a6⟩:=L4 h4
  simp -implicitDefEqProofs [run_round,K0,K1,K2,K3,K4,h4,a1,a2,a3,a4,a5,a6,encL_nil]
 subst h4
 simp -implicitDefEqProofs [run_round,K0,K1,K2,K3,K4,encL_nil]
theorem c_Split:Contract Tryz.prog 67 (sp3 SplitC) :=
 contract_of_runs mixed (tbl_cons c_Cuts tbl_nil) Tryz.func67 m67 (sp3_runs runs_Split)
end Go.Co
/- CO: a part of a box, by numbers. -/
namespace Go.Co
open Go.Am Go.Proofs
attribute [-simp] Go.Am.eff_gcall
theorem rd_nlo (b:Box) (i:Nat) (h:i<5):rd [.int .i64 b.s0.lo,.int .i64 b.s0.hi,.int .i64 b.s1.lo,.int .i64 b.s1.hi,.int .i64 b.s2.lo,.int .i64 b.s2.hi,.int .i64 b.s3.lo,.int .i64 b.s3.hi,.int .i64 b.s4.lo,.int .i64 b.s4.hi] (i*2) 1 false=some (.int .i64 (b.get i).lo):=by
 have hf:i=0∨i=1∨i=2∨i=3∨i=4:=by omega
 rcases hf with rfl|rfl|rfl|rfl|rfl<;>rfl
theorem rd_nhi (b:Box) (i:Nat) (h:i<5):rd [.int .i64 b.s0.lo,.int .i64 b.s0.hi,.int .i64 b.s1.lo,.int .i64 b.s1.hi,.int .i64 b.s2.lo,.int .i64 b.s2.hi,.int .i64 b.s3.lo,.int .i64 b.s3.hi,.int .i64 b.s4.lo,.int .i64 b.s4.hi] (i*2+1) 1 false=some (.int .i64 (b.get i).hi):=by
 have hf:i=0∨i=1∨i=2∨i=3∨i=4:=by omega
 rcases hf with rfl|rfl|rfl|rfl|rfl<;>rfl
structure PartOk (b x:Box):Prop where
 some:x.empty=false
 sub:∀ i:Int,0≤i→i<5→(b.get i).lo≤(x.get i).lo∧(x.get i).hi≤(b.get i).hi
theorem PartOk.set {b x:Box} (h:PartOk b x) {i:Nat} (hi:i<5) {s:Span} (h1:s.lo≤s.hi) (h2:(x.get i).lo≤s.lo) (h3:s.hi≤(x.get i).hi):PartOk b (x.set i s):=by
 refine⟨empty_get.2 fun j j0 j5=>?_,fun j j0 j5=>?_⟩
 ·rw[set_get_ite x s (by omega) (by omega) j0 j5]
  split
  ·exact h1
  ·exact get_spans h.some j
 ·rw[set_get_ite x s (by omega) (by omega) j0 j5]
  have:=h.sub j j0 j5
  split
  ·rename_i e;subst e;omega
  ·exact this
theorem PartOk.small {b x:Box} (h:PartOk b x) (hb:smallB b):smallB x:=by
 have key:∀ i:Int,0≤i→i<5→Co.small (x.get i):=fun i i0 i5=>by
  have h1:=get_small hb i
  have h2:=h.sub i i0 i5
  have h3:=get_spans h.some i
  unfold Co.small at *
  omega
 exact⟨key 0 (by omega) (by omega),key 1 (by omega) (by omega),key 2 (by omega) (by omega),key 3 (by omega) (by omega),key 4 (by omega) (by omega)⟩
theorem small_ok {b:Box} (h:smallB b) (he:b.empty=false):okB b:=by
 have key:∀ i:Int,0≤i→i<5→okS64 (b.get i):=fun i i0 i5=>by
  have h1:=get_small h i
  have h2:=get_spans he i
  unfold Co.small at h1
  unfold okS64 ok64
  omega
 exact⟨key 0 (by omega) (by omega),key 1 (by omega) (by omega),key 2 (by omega) (by omega),key 3 (by omega) (by omega),key 4 (by omega) (by omega)⟩
theorem cut_sub (b:Box) {k:Int} (h0:0≤k) (h5:k<5) (n:Int):(∀ p t,InB (cutB b k n).1 p t→InB b p t)∧(∀ p t,InB (cutB b k n).2 p t→InB b p t):=by
 unfold cutB
 rw[if_pos ⟨h0,h5⟩]
 constructor
 ·intro p t h
  rw[inB_pt] at h ⊢
  intro i i0 i5
  have:=h i i0 i5
  simp only at this
  rw[set_get_ite b _ h0 h5 i0 i5] at this
  split at this
  ·rename_i e
   subst e
   exact ((cutS_1 _ _ _).1 this).1
  ·exact this
 ·intro p t h
  rw[inB_pt] at h ⊢
  intro i i0 i5
  have:=h i i0 i5
  simp only at this
  rw[set_get_ite b _ h0 h5 i0 i5] at this
  split at this
  ·rename_i e
   subst e
   exact ((cutS_2 _ _ _).1 this).1
  ·exact this
end Go.Co
/- CO: the document's own cuts of a box, by a set that is gone through in whatever order. -/
namespace Go.Co
open Go.Am Go.Proofs
attribute [-simp] Go.Am.eff_gcall
def isCut (f:Int) (s:Span) (w:Word):Prop:=(nd w).leaf=false∧(nd w).feature=f∧s.lo≤(nd w).cut∧(nd w).cut<s.hi
instance (f:Int) (s:Span) (w:Word):Decidable (isCut f s w):=by unfold isCut;exact inferInstance
@[simp] theorem isIt_mp (b g:Nat) (l:List AV):isIt (.mp b g::l)=true:=rfl
end Go.Co
/- CO: the document's own answers: right queries, what breaks them (written by mkCoS.py). -/
namespace Go.Co
open Go.Am Go.Proofs
@[simp high] theorem rd_spanN (b:Box) (k:Nat) (h:k<5):rd [.int .i64 b.s0.lo,.int .i64 b.s0.hi,.int .i64 b.s1.lo,.int .i64 b.s1.hi,.int .i64 b.s2.lo,.int .i64 b.s2.hi,.int .i64 b.s3.lo,.int .i64 b.s3.hi,.int .i64 b.s4.lo,.int .i64 b.s4.hi] (k*2) 2 true=some (.agg [.int .i64 (b.get k).lo,.int .i64 (b.get k).hi]):=by
 have hf:k=0∨k=1∨k=2∨k=3∨k=4:=by omega
 rcases hf with rfl|rfl|rfl|rfl|rfl<;>rfl
end Go.Co
/- CO: the document's own answers: leaves and bounds. -/
namespace Go.Co
open Go.Am Go.Proofs
end Go.Co
/- CO: what breaks a query, by the document. -/
namespace Go.Co
open Go.Am Go.Proofs
end Go.Co
/- CO: what is shown, closed, where a box is cut: by the document. -/
namespace Go.Co
open Go.Am Go.Proofs
attribute [-simp] Go.Am.eff_gcall
def pairB (q:Query) (b:Box):Box:=if paired q then b.set q.feature b.s4 else b
theorem cutB_halves {b:Box} {k n:Int} (h0:0≤k) (h5:k<5) (h1:(b.get k).lo≤n) (h2:n<(b.get k).hi):cutB b k n=(b.set k ⟨(b.get k).lo,n⟩,b.set k ⟨n+1,(b.get k).hi⟩):=by
 unfold cutB cutS
 rw[if_pos ⟨h0,h5⟩,if_neg (by omega)]
 unfold ofS
 rw[show (if n+1>(b.get k).lo then n+1 else (b.get k).lo)=n+1 from if_pos (by omega),if_neg (by omega),if_neg (by omega)]
theorem boundT_pts {l:List Word} {dim:Int} (h:RT l dim) {a b:Box} (ha:a.empty=false) (hb:b.empty=false) (hp:∀ p,(∃ t,InB a p t)↔∃ t,InB b p t):(boundT l a).a=(boundT l b).a∧(boundT l a).b=(boundT l b).b:=by
 obtain⟨_,a1,⟨p1,t1,q1,v1⟩,p2,t2,q2,v2⟩:=boundT_spec h ha
 obtain⟨_,b1,⟨p3,t3,q3,v3⟩,p4,t4,q4,v4⟩:=boundT_spec h hb
 obtain⟨u1,r1⟩:=(hp p1).1 ⟨t1,q1⟩
 obtain⟨u2,r2⟩:=(hp p2).1 ⟨t2,q2⟩
 obtain⟨u3,r3⟩:=(hp p3).2 ⟨t3,q3⟩
 obtain⟨u4,r4⟩:=(hp p4).2 ⟨t4,q4⟩
 have x1:=b1 p1 u1 r1
 have x2:=b1 p2 u2 r2
 have x3:=a1 p3 u3 r3
 have x4:=a1 p4 u4 r4
 omega
theorem pts_fold {c:Int} {a b:Box} (ha:a.empty=false) (hb:b.empty=false) (hp:∀ p,(∃ t,InB a p t)↔∃ t,InB b p t):∀(l:List Tree) (x:Int×Int),(∀ t∈l,∃ d,RT t.nodes d)→l.foldl (boundF c a) x=l.foldl (boundF c b) x
 | [],_,_=>rfl
 | t::l,x,h=>by
  obtain⟨d,hd⟩:=h t (by simp)
  have:=boundT_pts hd ha hb hp
  have e:boundF c a x t=boundF c b x t:=by unfold boundF;rw[this.1,this.2]
  rw[List.foldl_cons,List.foldl_cons,e,pts_fold ha hb hp l _ fun y hy=>h y (by simp[hy])]
theorem boundP_pts {m:Model} (hm:RM m) (c:Int) {a b:Box} (ha:a.empty=false) (hb:b.empty=false) (hp:∀ p,(∃ t,InB a p t)↔∃ t,InB b p t):boundP m c a=boundP m c b :=
 pts_fold ha hb hp _ _ fun t ht=>⟨_,hm.rt ht⟩
def shownM (m:Model) (q:Query) (b:Box):Bool :=
 if q.kind=1 then decide (q.lo≤(boundP m q.cls b).1)&&decide ((boundP m q.cls b).2≤q.hi) else
 if q.kind=2 then (decide (0=q.cls)||decide ((boundP m 0 b).2<(boundP m q.cls b).1))&&(decide (1=q.cls)||decide ((boundP m 1 b).2<(boundP m q.cls b).1))&&(decide (m.classes=2)||decide (2=q.cls)||decide ((boundP m 2 b).2<(boundP m q.cls b).1)) else
 if b.s4.hi≤(b.get q.feature).lo then true else if q.falls then decide ((boundP m q.cls (pairB q b)).2≤(boundP m q.cls b).1) else decide ((boundP m q.cls b).2≤(boundP m q.cls (pairB q b)).1)
theorem pair_some {q:Query} {b:Box} (he:b.empty=false):(pairB q b).empty=false:=by
 unfold pairB
 by_cases hp:paired q=true
 ·rw[if_pos hp]
  have hf:=paired_feature hp
  have h4:=(empty_spec he).2.2.2.2
  rw[set_empty he q.feature b.s4 (by omega) (by omega)]
  exact h4
 ·rw[if_neg hp];exact he
theorem pair_pts {q:Query} (hp:paired q=true) {b:Box} (he:b.empty=false) (p:Point):(∃ t,InB (pairB q b) p t)↔∃ t,InB (secondB q b) p t:=by
 unfold pairB secondB
 rw[if_pos hp,if_pos hp]
 have h4:=(empty_spec he).2.2.2.2
 have hf:=paired_feature hp
 have e4:(b.set q.feature b.s4).s4=b.s4:=by rcases hf with hf|hf|hf|hf<;>rw[hf]<;>rfl
 constructor
 ·rintro⟨t,h0,h1,h2,h3,h4⟩
  exact⟨0,h0,h1,h2,h3,by unfold InS;simp⟩
 ·rintro⟨t,h0,h1,h2,h3,h4'⟩
  refine⟨b.s4.lo,h0,h1,h2,h3, ?_⟩
  rw[e4]
  unfold Span.empty at h4
  simp at h4
  unfold InS
  omega
theorem first_pts {q:Query} (hp:paired q=true) {b:Box} (he:b.empty=false) (p:Point):(∃ t,InB b p t)↔∃ t,InB (firstB q b) p t:=by
 have h4:=(empty_spec he).2.2.2.2
 unfold Span.empty at h4
 simp at h4
 constructor
 ·rintro⟨t,h0,h1,h2,h3,_⟩
  exact⟨0,(first_in hp).2 ⟨rfl,h0,h1,h2,h3⟩⟩
 ·rintro⟨t,h⟩
  obtain⟨_,h0,h1,h2,h3⟩:=(first_in hp).1 h
  exact⟨b.s4.lo,h0,h1,h2,h3,by unfold InS;omega⟩
theorem change_shown {m:Model} (hm:RM m) {q:Query} (hp:paired q=true) (h0:0≤q.cls) (h1:q.cls<m.classes) {b:Box} (he:b.empty=false) :
  (changeM m q b).a=(boundP m q.cls (pairB q b)).1-(boundP m q.cls b).2∧(changeM m q b).b=(boundP m q.cls (pairB q b)).2-(boundP m q.cls b).1:=by
 rw[change_some hp h0 h1 he,boundP_pts hm q.cls (pair_some he) (second_some hp he) (pair_pts hp he),boundP_pts hm q.cls he (first_some hp he) (first_pts hp he)]
 exact⟨rfl,rfl⟩
theorem closed_shown {m:Model} (hm:RM m) {q:Query} (hq:okQuery m q=true) {b:Box} (hb:b.empty=false):closedM m q b=shownM m q b:=by
 rw[Bool.eq_iff_iff,closed_iff hm hq hb]
 have hs:=okQuery_spec hq
 have hk:=okKind_spec hs.2.2.2.2.2
 have hcl:=hm.classes
 unfold Shown shownM
 rcases hk with⟨k,_⟩|⟨k,k2,_⟩|⟨k,f0,f1,_⟩
 ·simp[k]
 ·have h2:m.classes=2∨m.classes=3:=by omega
  simp only[k,Int.reduceEq,false_and,true_and,false_or,or_false,if_false,if_true,Bool.and_eq_true,Bool.or_eq_true,decide_eq_true_eq,reduceIte]
  unfold ahead marD
  constructor
  ·intro h
   refine⟨⟨?_, ?_⟩, ?_⟩
   ·by_cases e:(0:Int)=q.cls
    ·exact .inl e
    ·have:=h 0 (by omega) (by omega) e;exact .inr (by omega)
   ·by_cases e:(1:Int)=q.cls
    ·exact .inl e
    ·have:=h 1 (by omega) (by omega) e;exact .inr (by omega)
   ·rcases h2 with h2|h2
    ·exact .inl (.inl h2)
    ·by_cases e:(2:Int)=q.cls
     ·exact .inl (.inr e)
     ·have:=h 2 (by omega) (by omega) e;exact .inr (by omega)
  ·rintro⟨⟨g0,g1⟩,g2⟩ o o0 o1 on
   have ho:o=0∨o=1∨o=2:=by omega
   rcases ho with rfl|rfl|rfl
   ·rcases g0 with g|g
    ·exact absurd g on
    ·omega
   ·rcases g1 with g|g
    ·exact absurd g on
    ·omega
   ·rcases g2 with (g|g)|g
    ·omega
    ·exact absurd g on
    ·omega
 ·have hp:paired q=true:=by unfold paired;simp;have:=hm.dim;omega
  obtain⟨e1,e2⟩:=change_shown hm hp hs.1 hs.2.1 hb
  rw[e1,e2]
  by_cases hle:b.s4.hi≤(b.get q.feature).lo
  ·simp[k,hle]
   intro h;omega
  ·have hlt:(b.get q.feature).lo<b.s4.hi:=by omega
   cases hf:q.falls<;>simp[k,hle,hlt]<;>omega
end Go.Co
