/- CO: texts of this claim, one behind the other. -/
import Derived.Test.YtlbfmeijjgphfaaGreatDoorCz5
import Derived.Test.YtlbfmeijjgphfaaGreatDoorCz6
import Derived.Test.YtlbfmeijjgphfaaGreatDoorCz4
import Derived.Test.YtlbfmeijjgphfaaGreatDoorCz1
import Derived.Test.YtlbfmeijjgphfaaGreatDoorAm4
import Derived.Test.YtlbfmeijjgphfaaGreatDoorCz3
set_option linter.unusedVariables false
set_option linter.unusedSimpArgs false
/- CO: right queries (written by mkCoJ.py). -/
set_option maxHeartbeats 16000000
set_option maxRecDepth 100000
namespace Go.Co
open Go.Am Go.Proofs
def c75_29:ACode:=.seq (.ops [⟨some 2,.box (.t 0) 10,none,[]⟩,⟨some 4,.mv (.c (.bool false)),none,[]⟩] [1,2]) (.seq (.seq (.ops [⟨some 7,.load 10 true (.t 2),none,[2]⟩,⟨some 8,.mv (.c (.int .i64 0)),none,[]⟩] [1,7,8]) (.block 0 (.loop (.keep [1,7,8] [] (.seq (.ops [⟨some 9,.bin .lss (.t 8) (.c (.int .i64 5)),none,[]⟩] [1,7,8,9]) (.seq (.cond (.t 9) .skip (.exit 0)) (.seq (.block 1 (.seq (.ops [⟨some 10,.mv (.t 8),none,[]⟩,⟨some 11,.idx (.t 7) (.t 8) 2 5 true,none,[]⟩,⟨some 6,.alloc [.int .i64 0,.int .i64 0],none,[]⟩,⟨some 5,.mv (.t 10),none,[]⟩,⟨none,.store (.t 6) 2 (.t 11),none,[6]⟩] [1,5,6,7,8]) (.seq (.seq (.ops [⟨some 12,.mv (.t 5),none,[]⟩,⟨some 13,.mv (.t 1),none,[]⟩,⟨some 14,.bin .geq (.t 12) (.t 13),none,[]⟩,⟨some 15,.mv (.t 14),none,[]⟩,⟨some 16,.load 2 true (.t 6),some (15,true),[6]⟩,⟨some 17,.build [.int .i64 0,.int .i64 0] [],some (15,true),[]⟩,⟨some 18,.eqa true [false,false] (.t 16) (.t 17),some (15,true),[]⟩,⟨some 19,.pick (.t 15) (.t 18) (.c (.bool false)),none,[]⟩] [1,6,7,8,19]) (.cond (.t 19) (.seq (.ops [⟨some 4,.mv (.c (.bool false)),none,[]⟩] [4]) .ret) .skip)) (.seq (.ops [⟨some 20,.load 2 true (.t 6),none,[6]⟩,⟨some 21,.call 81 [.t 20],none,[]⟩,⟨some 22,.mv (.t 21),none,[]⟩,⟨some 23,.fad (.t 6) 0,some (22,false),[6]⟩,⟨some 24,.load 1 false (.t 23),some (22,false),[6]⟩,⟨some 25,.call 70 [.t 24,.c (.int .i64 32)],some (22,false),[]⟩,⟨some 26,.un .not (.t 25),some (22,false),[]⟩,⟨some 27,.pick (.t 22) (.c (.bool true)) (.t 26),none,[]⟩,⟨some 28,.mv (.t 27),none,[]⟩,⟨some 29,.fad (.t 6) 1,some (28,false),[6]⟩,⟨some 30,.load 1 false (.t 29),some (28,false),[6]⟩,⟨some 31,.call 70 [.t 30,.c (.int .i64 32)],some (28,false),[]⟩,⟨some 32,.un .not (.t 31),some (28,false),[]⟩,⟨some 33,.pick (.t 28) (.c (.bool true)) (.t 32),none,[]⟩] [1,7,8,33]) (.cond (.t 33) (.seq (.ops [⟨some 4,.mv (.c (.bool false)),none,[]⟩] [4]) .ret) .skip))))) (.ops [⟨some 34,.bin .add (.t 8) (.c (.int .i64 1)),none,[]⟩,⟨some 8,.mv (.t 34),none,[]⟩] [1,7,8])))))))) (.seq (.ops [⟨some 4,.mv (.c (.bool true)),none,[]⟩] [4]) .ret))
theorem r75_29:type_of% (rr c75_29.eq_1):=rr rfl
def a75:AFun:=⟨2,35,c75_29,[.t 4]⟩
attribute [simp] r75_29
theorem m75:mFun Tryz.prog Tryz.f75 a75=true:=by decide +kernel
def c76_22:ACode:=.seq (.ops [⟨some 2,.box (.t 0) 6,none,[]⟩,⟨some 3,.box (.t 1) 17,none,[]⟩,⟨some 4,.mv (.c (.bool false)),none,[]⟩] [2,3]) (.seq (.seq (.ops [⟨some 5,.fad (.t 3) 0,none,[3]⟩,⟨some 6,.load 1 false (.t 5),none,[3]⟩] [2,3,6]) (.block 0 (.seq (.ops [⟨some 8,.bin .eql (.t 6) (.c (.int .i64 1)),none,[]⟩,⟨some 7,.mv (.t 8),none,[]⟩] [2,3,6,7]) (.cond (.t 7) (.seq (.ops [⟨some 9,.fad (.t 3) 12,none,[3]⟩,⟨some 10,.load 1 false (.t 9),none,[3]⟩,⟨some 11,.fad (.t 3) 13,none,[3]⟩,⟨some 12,.load 1 false (.t 11),none,[3]⟩,⟨some 13,.bin .leq (.t 10) (.t 12),none,[]⟩,⟨some 14,.mv (.t 13),none,[]⟩,⟨some 15,.fad (.t 3) 14,some (14,true),[3]⟩,⟨some 16,.load 1 false (.t 15),some (14,true),[3]⟩,⟨some 17,.bin .eql (.t 16) (.c (.int .i64 0)),some (14,true),[]⟩,⟨some 18,.pick (.t 14) (.t 17) (.c (.bool false)),none,[]⟩,⟨some 19,.mv (.t 18),none,[]⟩,⟨some 20,.fad (.t 3) 15,some (19,true),[3]⟩,⟨some 21,.load 1 false (.t 20),some (19,true),[3]⟩,⟨some 22,.un .not (.t 21),some (19,true),[]⟩,⟨some 23,.pick (.t 19) (.t 22) (.c (.bool false)),none,[]⟩,⟨some 4,.mv (.t 23),none,[]⟩] [4]) .ret) (.seq (.ops [⟨some 25,.bin .eql (.t 6) (.c (.int .i64 2)),none,[]⟩,⟨some 24,.mv (.t 25),none,[]⟩] [2,3,6,24]) (.cond (.t 24) (.seq (.ops [⟨some 26,.fad (.t 2) 1,none,[2]⟩,⟨some 27,.load 1 false (.t 26),none,[2]⟩,⟨some 28,.bin .geq (.t 27) (.c (.int .i64 2)),none,[]⟩,⟨some 29,.mv (.t 28),none,[]⟩,⟨some 30,.fad (.t 3) 12,some (29,true),[3]⟩,⟨some 31,.load 1 false (.t 30),some (29,true),[3]⟩,⟨some 32,.bin .eql (.t 31) (.c (.int .i64 0)),some (29,true),[]⟩,⟨some 33,.pick (.t 29) (.t 32) (.c (.bool false)),none,[]⟩,⟨some 34,.mv (.t 33),none,[]⟩,⟨some 35,.fad (.t 3) 13,some (34,true),[3]⟩,⟨some 36,.load 1 false (.t 35),some (34,true),[3]⟩,⟨some 37,.bin .eql (.t 36) (.c (.int .i64 0)),some (34,true),[]⟩,⟨some 38,.pick (.t 34) (.t 37) (.c (.bool false)),none,[]⟩,⟨some 39,.mv (.t 38),none,[]⟩,⟨some 40,.fad (.t 3) 14,some (39,true),[3]⟩,⟨some 41,.load 1 false (.t 40),some (39,true),[3]⟩,⟨some 42,.bin .eql (.t 41) (.c (.int .i64 0)),some (39,true),[]⟩,⟨some 43,.pick (.t 39) (.t 42) (.c (.bool false)),none,[]⟩,⟨some 44,.mv (.t 43),none,[]⟩,⟨some 45,.fad (.t 3) 15,some (44,true),[3]⟩,⟨some 46,.load 1 false (.t 45),some (44,true),[3]⟩,⟨some 47,.un .not (.t 46),some (44,true),[]⟩,⟨some 48,.pick (.t 44) (.t 47) (.c (.bool false)),none,[]⟩,⟨some 4,.mv (.t 48),none,[]⟩] [4]) .ret) (.seq (.ops [⟨some 50,.bin .eql (.t 6) (.c (.int .i64 3)),none,[]⟩,⟨some 49,.mv (.t 50),none,[]⟩] [2,3,49]) (.cond (.t 49) (.seq (.ops [⟨some 51,.fad (.t 3) 14,none,[3]⟩,⟨some 52,.load 1 false (.t 51),none,[3]⟩,⟨some 53,.bin .geq (.t 52) (.c (.int .i64 0)),none,[]⟩,⟨some 54,.mv (.t 53),none,[]⟩,⟨some 55,.fad (.t 3) 14,some (54,true),[3]⟩,⟨some 56,.load 1 false (.t 55),some (54,true),[3]⟩,⟨some 57,.fad (.t 2) 0,some (54,true),[2]⟩,⟨some 58,.load 1 false (.t 57),some (54,true),[2]⟩,⟨some 59,.bin .lss (.t 56) (.t 58),some (54,true),[]⟩,⟨some 60,.pick (.t 54) (.t 59) (.c (.bool false)),none,[]⟩,⟨some 61,.mv (.t 60),none,[]⟩,⟨some 62,.fad (.t 3) 12,some (61,true),[3]⟩,⟨some 63,.load 1 false (.t 62),some (61,true),[3]⟩,⟨some 64,.bin .eql (.t 63) (.c (.int .i64 0)),some (61,true),[]⟩,⟨some 65,.pick (.t 61) (.t 64) (.c (.bool false)),none,[]⟩,⟨some 66,.mv (.t 65),none,[]⟩,⟨some 67,.fad (.t 3) 13,some (66,true),[3]⟩,⟨some 68,.load 1 false (.t 67),some (66,true),[3]⟩,⟨some 69,.bin .eql (.t 68) (.c (.int .i64 0)),some (66,true),[]⟩,⟨some 70,.pick (.t 66) (.t 69) (.c (.bool false)),none,[]⟩,⟨some 4,.mv (.t 70),none,[]⟩] [4]) .ret) .skip)))))))) (.seq (.ops [⟨some 4,.mv (.c (.bool false)),none,[]⟩] [4]) .ret))
theorem r76_22:type_of% (rr c76_22.eq_1):=rr rfl
def a76:AFun:=⟨2,71,c76_22,[.t 4]⟩
attribute [simp] r76_22
theorem m76:mFun Tryz.prog Tryz.f76 a76=true:=by decide +kernel
def c40_3:ACode:=.seq (.ops [⟨some 2,.box (.t 0) 6,none,[]⟩,⟨some 3,.box (.t 1) 17,none,[]⟩,⟨some 4,.mv (.c (.bool false)),none,[]⟩] [2,3]) (.seq (.ops [⟨some 5,.load 6 true (.t 2),none,[2]⟩,⟨some 6,.call 38 [.t 5],none,[]⟩,⟨some 7,.mv (.t 6),none,[]⟩,⟨some 8,.fad (.t 3) 1,some (7,true),[3]⟩,⟨some 9,.load 1 false (.t 8),some (7,true),[3]⟩,⟨some 10,.bin .geq (.t 9) (.c (.int .i64 0)),some (7,true),[]⟩,⟨some 11,.pick (.t 7) (.t 10) (.c (.bool false)),none,[]⟩,⟨some 12,.mv (.t 11),none,[]⟩,⟨some 13,.fad (.t 3) 1,some (12,true),[3]⟩,⟨some 14,.load 1 false (.t 13),some (12,true),[3]⟩,⟨some 15,.fad (.t 2) 1,some (12,true),[2]⟩,⟨some 16,.load 1 false (.t 15),some (12,true),[2]⟩,⟨some 17,.bin .lss (.t 14) (.t 16),some (12,true),[]⟩,⟨some 18,.pick (.t 12) (.t 17) (.c (.bool false)),none,[]⟩,⟨some 19,.mv (.t 18),none,[]⟩,⟨some 20,.fad (.t 3) 16,some (19,true),[3]⟩,⟨some 21,.load 1 false (.t 20),some (19,true),[3]⟩,⟨some 22,.bin .geq (.t 21) (.c (.int .i64 0)),some (19,true),[]⟩,⟨some 23,.pick (.t 19) (.t 22) (.c (.bool false)),none,[]⟩,⟨some 24,.mv (.t 23),none,[]⟩,⟨some 25,.fad (.t 3) 16,some (24,true),[3]⟩,⟨some 26,.load 1 false (.t 25),some (24,true),[3]⟩,⟨some 27,.bin .leq (.t 26) (.c (.int .i64 65536)),some (24,true),[]⟩,⟨some 28,.pick (.t 24) (.t 27) (.c (.bool false)),none,[]⟩,⟨some 29,.mv (.t 28),none,[]⟩,⟨some 30,.fad (.t 3) 2,some (29,true),[3]⟩,⟨some 31,.load 10 true (.t 30),some (29,true),[3]⟩,⟨some 32,.fad (.t 2) 0,some (29,true),[2]⟩,⟨some 33,.load 1 false (.t 32),some (29,true),[2]⟩,⟨some 34,.call 75 [.t 31,.t 33],some (29,true),[]⟩,⟨some 35,.pick (.t 29) (.t 34) (.c (.bool false)),none,[]⟩,⟨some 36,.mv (.t 35),none,[]⟩,⟨some 37,.load 6 true (.t 2),some (36,true),[2]⟩,⟨some 38,.load 17 true (.t 3),some (36,true),[3]⟩,⟨some 39,.call 76 [.t 37,.t 38],some (36,true),[]⟩,⟨some 40,.pick (.t 36) (.t 39) (.c (.bool false)),none,[]⟩,⟨some 4,.mv (.t 40),none,[]⟩] [4]) .ret)
theorem r40_3:type_of% (rr c40_3.eq_1):=rr rfl
def a40:AFun:=⟨2,41,c40_3,[.t 4]⟩
attribute [simp] r40_3
theorem m40:mFun Tryz.prog Tryz.f40 a40=true:=by decide +kernel
def c37_3:ACode:=.seq (.ops [⟨some 1,.box (.t 0) 17,none,[]⟩,⟨some 2,.mv (.c (.bool false)),none,[]⟩] [1]) (.seq (.ops [⟨some 3,.fad (.t 1) 0,none,[1]⟩,⟨some 4,.load 1 false (.t 3),none,[1]⟩,⟨some 5,.bin .eql (.t 4) (.c (.int .i64 3)),none,[]⟩,⟨some 6,.mv (.t 5),none,[]⟩,⟨some 7,.fad (.t 1) 14,some (6,true),[1]⟩,⟨some 8,.load 1 false (.t 7),some (6,true),[1]⟩,⟨some 9,.bin .geq (.t 8) (.c (.int .i64 0)),some (6,true),[]⟩,⟨some 10,.pick (.t 6) (.t 9) (.c (.bool false)),none,[]⟩,⟨some 11,.mv (.t 10),none,[]⟩,⟨some 12,.fad (.t 1) 14,some (11,true),[1]⟩,⟨some 13,.load 1 false (.t 12),some (11,true),[1]⟩,⟨some 14,.bin .lss (.t 13) (.c (.int .i64 4)),some (11,true),[]⟩,⟨some 15,.pick (.t 11) (.t 14) (.c (.bool false)),none,[]⟩,⟨some 2,.mv (.t 15),none,[]⟩] [2]) .ret)
theorem r37_3:type_of% (rr c37_3.eq_1):=rr rfl
def a37:AFun:=⟨1,16,c37_3,[.t 2]⟩
attribute [simp] r37_3
theorem m37:mFun Tryz.prog Tryz.f37 a37=true:=by decide +kernel
def c15_12:ACode:=.seq (.ops [⟨some 1,.box (.t 0) 17,none,[]⟩,⟨some 2,.alloc [.int .i64 0,.int .i64 0,.int .i64 0,.int .i64 0,.int .i64 0,.int .i64 0,.int .i64 0,.int .i64 0,.int .i64 0,.int .i64 0],none,[]⟩] [1,2]) (.seq (.ops [⟨some 4,.fad (.t 1) 2,none,[1]⟩,⟨some 5,.load 10 true (.t 4),none,[1]⟩,⟨some 3,.alloc [.int .i64 0,.int .i64 0,.int .i64 0,.int .i64 0,.int .i64 0,.int .i64 0,.int .i64 0,.int .i64 0,.int .i64 0,.int .i64 0],none,[]⟩,⟨none,.store (.t 3) 10 (.t 5),none,[3]⟩] [1,2,3]) (.seq (.ops [⟨some 6,.build [.int .i64 0,.int .i64 0] [],none,[]⟩,⟨some 7,.iad (.t 3) (.c (.int .i64 4)) 2 5,none,[3]⟩,⟨none,.store (.t 7) 2 (.t 6),none,[3]⟩] [1,2,3]) (.seq (.seq (.ops [⟨some 8,.load 17 true (.t 1),none,[1]⟩,⟨some 9,.call 37 [.t 8],none,[]⟩] [1,2,3,9]) (.cond (.t 9) (.ops [⟨some 10,.fad (.t 1) 14,none,[1]⟩,⟨some 11,.load 1 false (.t 10),none,[1]⟩,⟨some 12,.iad (.t 3) (.t 11) 2 5,none,[3]⟩,⟨some 13,.load 2 true (.t 12),none,[3]⟩,⟨some 14,.iad (.t 3) (.c (.int .i64 4)) 2 5,none,[3]⟩,⟨none,.store (.t 14) 2 (.t 13),none,[3]⟩] [2,3]) .skip)) (.seq (.ops [⟨some 15,.load 10 true (.t 3),none,[3]⟩,⟨none,.store (.t 2) 10 (.t 15),none,[2]⟩] [2]) .ret))))
theorem r15_12:type_of% (rr c15_12.eq_1):=rr rfl
def a15:AFun:=⟨1,16,c15_12,[.cell 2 10 true]⟩
attribute [simp] r15_12
theorem m15:mFun Tryz.prog Tryz.f15 a15=true:=by decide +kernel
def c42_8:ACode:=.seq (.ops [⟨some 3,.box (.t 0) 17,none,[]⟩,⟨some 4,.box (.t 1) 4,none,[]⟩,⟨some 6,.alloc [.int .i64 0,.int .i64 0,.int .i64 0,.int .i64 0],none,[]⟩] [2,3,4,6]) (.seq (.seq (.ops [⟨some 7,.load 17 true (.t 3),none,[3]⟩,⟨some 8,.call 37 [.t 7],none,[]⟩] [2,3,4,6,8]) (.cond (.t 8) (.ops [⟨some 9,.fad (.t 3) 14,none,[3]⟩,⟨some 10,.load 1 false (.t 9),none,[3]⟩,⟨some 11,.mv (.t 2),none,[]⟩,⟨some 12,.iad (.t 4) (.t 10) 1 4,none,[4]⟩,⟨none,.store (.t 12) 1 (.t 11),none,[4]⟩] [4,6]) .skip)) (.seq (.ops [⟨some 13,.load 4 true (.t 4),none,[4]⟩,⟨none,.store (.t 6) 4 (.t 13),none,[6]⟩] [6]) .ret))
theorem r42_8:type_of% (rr c42_8.eq_1):=rr rfl
def a42:AFun:=⟨3,14,c42_8,[.cell 6 4 true]⟩
attribute [simp] r42_8
theorem m42:mFun Tryz.prog Tryz.f42 a42=true:=by decide +kernel
def c41_3:ACode:=.seq (.ops [⟨some 2,.box (.t 0) 2,none,[]⟩,⟨some 4,.mv (.c (.bool false)),none,[]⟩] [1,2]) (.seq (.ops [⟨some 5,.fad (.t 2) 0,none,[2]⟩,⟨some 6,.load 1 false (.t 5),none,[2]⟩,⟨some 7,.mv (.t 1),none,[]⟩,⟨some 8,.bin .leq (.t 6) (.t 7),none,[]⟩,⟨some 9,.mv (.t 8),none,[]⟩,⟨some 10,.mv (.t 1),some (9,true),[]⟩,⟨some 11,.fad (.t 2) 1,some (9,true),[2]⟩,⟨some 12,.load 1 false (.t 11),some (9,true),[2]⟩,⟨some 13,.bin .leq (.t 10) (.t 12),some (9,true),[]⟩,⟨some 14,.pick (.t 9) (.t 13) (.c (.bool false)),none,[]⟩,⟨some 4,.mv (.t 14),none,[]⟩] [4]) .ret)
theorem r41_3:type_of% (rr c41_3.eq_1):=rr rfl
def a41:AFun:=⟨2,15,c41_3,[.t 4]⟩
attribute [simp] r41_3
theorem m41:mFun Tryz.prog Tryz.f41 a41=true:=by decide +kernel
noncomputable def RegOk (b:Box) (dim:Int):Option Bool:=Part (1≤dim∧dim≤4) (okRegion b dim)
theorem runs_region1 (b:Box) (dim:Int) (hd:dim=1):Runs (tbl [(81,sp1 fun (s:Span)=>some s.empty),(70,sp2 Fits)]) a75 [Arg.enc b,Arg.enc dim] (Arg.enc (okRegion b dim)):=by
 refine⟨rfl,fun g=>run_def ?_⟩
 unfold a75
 have fz:fits 0=true:=rfl
 obtain⟨⟨l0,h0⟩,⟨l1,h1⟩,⟨l2,h2⟩,⟨l3,h3⟩,⟨l4,h4⟩⟩:=b
 by_cases e0:h0<l0
 case pos=>simp -implicitDefEqProofs [hd,run_round,Fits,fz,okRegion,okSpan,Span.empty,e0]
 cases f0:fits l0
 case false=>simp -implicitDefEqProofs [hd,run_round,Fits,fz,okRegion,okSpan,Span.empty,e0,f0]
 cases g0:fits h0
 case false=>simp -implicitDefEqProofs [hd,run_round,Fits,fz,okRegion,okSpan,Span.empty,e0,f0,g0]
 by_cases e1:l1=0
 case neg=>simp -implicitDefEqProofs [hd,run_round,Fits,fz,okRegion,okSpan,Span.empty,e0,f0,g0,e1]
 by_cases f1:h1=0
 case neg=>simp -implicitDefEqProofs [hd,run_round,Fits,fz,okRegion,okSpan,Span.empty,e0,f0,g0,e1,f1]
 by_cases e2:l2=0
 case neg=>simp -implicitDefEqProofs [hd,run_round,Fits,fz,okRegion,okSpan,Span.empty,e0,f0,g0,e1,f1,e2]
 by_cases f2:h2=0
 case neg=>simp -implicitDefEqProofs [hd,run_round,Fits,fz,okRegion,okSpan,Span.empty,e0,f0,g0,e1,f1,e2,f2]
 by_cases e3:l3=0
 case neg=>simp -implicitDefEqProofs [hd,run_round,Fits,fz,okRegion,okSpan,Span.empty,e0,f0,g0,e1,f1,e2,f2,e3]
 by_cases f3:h3=0
 case neg=>simp -implicitDefEqProofs [hd,run_round,Fits,fz,okRegion,okSpan,Span.empty,e0,f0,g0,e1,f1,e2,f2,e3,f3]
 by_cases e4:l4=0
 case neg=>simp -implicitDefEqProofs [hd,run_round,Fits,fz,okRegion,okSpan,Span.empty,e0,f0,g0,e1,f1,e2,f2,e3,f3,e4]
 by_cases f4:h4=0
 case neg=>simp -implicitDefEqProofs [hd,run_round,Fits,fz,okRegion,okSpan,Span.empty,e0,f0,g0,e1,f1,e2,f2,e3,f3,e4,f4]
 simp -implicitDefEqProofs [hd,run_round,Fits,fz,okRegion,okSpan,Span.empty,e0,f0,g0,e1,f1,e2,f2,e3,f3,e4,f4]
theorem runs_region2 (b:Box) (dim:Int) (hd:dim=2):Runs (tbl [(81,sp1 fun (s:Span)=>some s.empty),(70,sp2 Fits)]) a75 [Arg.enc b,Arg.enc dim] (Arg.enc (okRegion b dim)):=by
 refine⟨rfl,fun g=>run_def ?_⟩
 unfold a75
 have fz:fits 0=true:=rfl
 obtain⟨⟨l0,h0⟩,⟨l1,h1⟩,⟨l2,h2⟩,⟨l3,h3⟩,⟨l4,h4⟩⟩:=b
 by_cases e0:h0<l0
 case pos=>simp -implicitDefEqProofs [hd,run_round,Fits,fz,okRegion,okSpan,Span.empty,e0]
 cases f0:fits l0
 case false=>simp -implicitDefEqProofs [hd,run_round,Fits,fz,okRegion,okSpan,Span.empty,e0,f0]
 cases g0:fits h0
 case false=>simp -implicitDefEqProofs [hd,run_round,Fits,fz,okRegion,okSpan,Span.empty,e0,f0,g0]
 by_cases e1:h1<l1
 case pos=>simp -implicitDefEqProofs [hd,run_round,Fits,fz,okRegion,okSpan,Span.empty,e0,f0,g0,e1]
 cases f1:fits l1
 case false=>simp -implicitDefEqProofs [hd,run_round,Fits,fz,okRegion,okSpan,Span.empty,e0,f0,g0,e1,f1]
 cases g1:fits h1
 case false=>simp -implicitDefEqProofs [hd,run_round,Fits,fz,okRegion,okSpan,Span.empty,e0,f0,g0,e1,f1,g1]
 by_cases e2:l2=0
 case neg=>simp -implicitDefEqProofs [hd,run_round,Fits,fz,okRegion,okSpan,Span.empty,e0,f0,g0,e1,f1,g1,e2]
 by_cases f2:h2=0
 case neg=>simp -implicitDefEqProofs [hd,run_round,Fits,fz,okRegion,okSpan,Span.empty,e0,f0,g0,e1,f1,g1,e2,f2]
 by_cases e3:l3=0
 case neg=>simp -implicitDefEqProofs [hd,run_round,Fits,fz,okRegion,okSpan,Span.empty,e0,f0,g0,e1,f1,g1,e2,f2,e3]
 by_cases f3:h3=0
 case neg=>simp -implicitDefEqProofs [hd,run_round,Fits,fz,okRegion,okSpan,Span.empty,e0,f0,g0,e1,f1,g1,e2,f2,e3,f3]
 by_cases e4:l4=0
 case neg=>simp -implicitDefEqProofs [hd,run_round,Fits,fz,okRegion,okSpan,Span.empty,e0,f0,g0,e1,f1,g1,e2,f2,e3,f3,e4]
 by_cases f4:h4=0
 case neg=>simp -implicitDefEqProofs [hd,run_round,Fits,fz,okRegion,okSpan,Span.empty,e0,f0,g0,e1,f1,g1,e2,f2,e3,f3,e4,f4]
 simp -implicitDefEqProofs [hd,run_round,Fits,fz,okRegion,okSpan,Span.empty,e0,f0,g0,e1,f1,g1,e2,f2,e3,f3,e4,f4]
theorem runs_region3 (b:Box) (dim:Int) (hd:dim=3):Runs (tbl [(81,sp1 fun (s:Span)=>some s.empty),(70,sp2 Fits)]) a75 [Arg.enc b,Arg.enc dim] (Arg.enc (okRegion b dim)):=by
 refine⟨rfl,fun g=>run_def ?_⟩
 unfold a75
 have fz:fits 0=true:=rfl
 obtain⟨⟨l0,h0⟩,⟨l1,h1⟩,⟨l2,h2⟩,⟨l3,h3⟩,⟨l4,h4⟩⟩:=b
 by_cases e0:h0<l0
 case pos=>simp -implicitDefEqProofs [hd,run_round,Fits,fz,okRegion,okSpan,Span.empty,e0]
 cases f0:fits l0
 case false=>simp -implicitDefEqProofs [hd,run_round,Fits,fz,okRegion,okSpan,Span.empty,e0,f0]
 cases g0:fits h0
 case false=>simp -implicitDefEqProofs [hd,run_round,Fits,fz,okRegion,okSpan,Span.empty,e0,f0,g0]
 by_cases e1:h1<l1
 case pos=>simp -implicitDefEqProofs [hd,run_round,Fits,fz,okRegion,okSpan,Span.empty,e0,f0,g0,e1]
 cases f1:fits l1
 case false=>simp -implicitDefEqProofs [hd,run_round,Fits,fz,okRegion,okSpan,Span.empty,e0,f0,g0,e1,f1]
 cases g1:fits h1
 case false=>simp -implicitDefEqProofs [hd,run_round,Fits,fz,okRegion,okSpan,Span.empty,e0,f0,g0,e1,f1,g1]
 by_cases e2:h2<l2
 case pos=>simp -implicitDefEqProofs [hd,run_round,Fits,fz,okRegion,okSpan,Span.empty,e0,f0,g0,e1,f1,g1,e2]
 cases f2:fits l2
 case false=>simp -implicitDefEqProofs [hd,run_round,Fits,fz,okRegion,okSpan,Span.empty,e0,f0,g0,e1,f1,g1,e2,f2]
 cases g2:fits h2
 case false=>simp -implicitDefEqProofs [hd,run_round,Fits,fz,okRegion,okSpan,Span.empty,e0,f0,g0,e1,f1,g1,e2,f2,g2]
 by_cases e3:l3=0
 case neg=>simp -implicitDefEqProofs [hd,run_round,Fits,fz,okRegion,okSpan,Span.empty,e0,f0,g0,e1,f1,g1,e2,f2,g2,e3]
 by_cases f3:h3=0
 case neg=>simp -implicitDefEqProofs [hd,run_round,Fits,fz,okRegion,okSpan,Span.empty,e0,f0,g0,e1,f1,g1,e2,f2,g2,e3,f3]
 by_cases e4:l4=0
 case neg=>simp -implicitDefEqProofs [hd,run_round,Fits,fz,okRegion,okSpan,Span.empty,e0,f0,g0,e1,f1,g1,e2,f2,g2,e3,f3,e4]
 by_cases f4:h4=0
 case neg=>simp -implicitDefEqProofs [hd,run_round,Fits,fz,okRegion,okSpan,Span.empty,e0,f0,g0,e1,f1,g1,e2,f2,g2,e3,f3,e4,f4]
 simp -implicitDefEqProofs [hd,run_round,Fits,fz,okRegion,okSpan,Span.empty,e0,f0,g0,e1,f1,g1,e2,f2,g2,e3,f3,e4,f4]
theorem runs_region4 (b:Box) (dim:Int) (hd:dim=4):Runs (tbl [(81,sp1 fun (s:Span)=>some s.empty),(70,sp2 Fits)]) a75 [Arg.enc b,Arg.enc dim] (Arg.enc (okRegion b dim)):=by
 refine⟨rfl,fun g=>run_def ?_⟩
 unfold a75
 have fz:fits 0=true:=rfl
 obtain⟨⟨l0,h0⟩,⟨l1,h1⟩,⟨l2,h2⟩,⟨l3,h3⟩,⟨l4,h4⟩⟩:=b
 by_cases e0:h0<l0
 case pos=>simp -implicitDefEqProofs [hd,run_round,Fits,fz,okRegion,okSpan,Span.empty,e0]
 cases f0:fits l0
 case false=>simp -implicitDefEqProofs [hd,run_round,Fits,fz,okRegion,okSpan,Span.empty,e0,f0]
 cases g0:fits h0
 case false=>simp -implicitDefEqProofs [hd,run_round,Fits,fz,okRegion,okSpan,Span.empty,e0,f0,g0]
 by_cases e1:h1<l1
 case pos=>simp -implicitDefEqProofs [hd,run_round,Fits,fz,okRegion,okSpan,Span.empty,e0,f0,g0,e1]
 cases f1:fits l1
 case false=>simp -implicitDefEqProofs [hd,run_round,Fits,fz,okRegion,okSpan,Span.empty,e0,f0,g0,e1,f1]
 cases g1:fits h1
 case false=>simp -implicitDefEqProofs [hd,run_round,Fits,fz,okRegion,okSpan,Span.empty,e0,f0,g0,e1,f1,g1]
 by_cases e2:h2<l2
 case pos=>simp -implicitDefEqProofs [hd,run_round,Fits,fz,okRegion,okSpan,Span.empty,e0,f0,g0,e1,f1,g1,e2]
 cases f2:fits l2
 case false=>simp -implicitDefEqProofs [hd,run_round,Fits,fz,okRegion,okSpan,Span.empty,e0,f0,g0,e1,f1,g1,e2,f2]
 cases g2:fits h2
 case false=>simp -implicitDefEqProofs [hd,run_round,Fits,fz,okRegion,okSpan,Span.empty,e0,f0,g0,e1,f1,g1,e2,f2,g2]
 by_cases e3:h3<l3
 case pos=>simp -implicitDefEqProofs [hd,run_round,Fits,fz,okRegion,okSpan,Span.empty,e0,f0,g0,e1,f1,g1,e2,f2,g2,e3]
 cases f3:fits l3
 case false=>simp -implicitDefEqProofs [hd,run_round,Fits,fz,okRegion,okSpan,Span.empty,e0,f0,g0,e1,f1,g1,e2,f2,g2,e3,f3]
 cases g3:fits h3
 case false=>simp -implicitDefEqProofs [hd,run_round,Fits,fz,okRegion,okSpan,Span.empty,e0,f0,g0,e1,f1,g1,e2,f2,g2,e3,f3,g3]
 by_cases e4:l4=0
 case neg=>simp -implicitDefEqProofs [hd,run_round,Fits,fz,okRegion,okSpan,Span.empty,e0,f0,g0,e1,f1,g1,e2,f2,g2,e3,f3,g3,e4]
 by_cases f4:h4=0
 case neg=>simp -implicitDefEqProofs [hd,run_round,Fits,fz,okRegion,okSpan,Span.empty,e0,f0,g0,e1,f1,g1,e2,f2,g2,e3,f3,g3,e4,f4]
 simp -implicitDefEqProofs [hd,run_round,Fits,fz,okRegion,okSpan,Span.empty,e0,f0,g0,e1,f1,g1,e2,f2,g2,e3,f3,g3,e4,f4]
theorem runs_region (b:Box) (dim:Int) (c:Bool) (h:RegOk b dim=some c):Runs (tbl [(81,sp1 fun (s:Span)=>some s.empty),(70,sp2 Fits)]) a75 [Arg.enc b,Arg.enc dim] (Arg.enc c):=by
 obtain⟨hd,rfl⟩:=part_some h
 have hd:dim=1∨dim=2∨dim=3∨dim=4:=by omega
 rcases hd with hd|hd|hd|hd
 ·exact runs_region1 b dim hd
 ·exact runs_region2 b dim hd
 ·exact runs_region3 b dim hd
 ·exact runs_region4 b dim hd
theorem c_region:Contract Tryz.prog 75 (sp2 RegOk) :=
 contract_of_runs mixed (tbl_cons c_sEmpty (tbl_cons c_Fits tbl_nil)) Tryz.func75 m75 (sp2_runs runs_region)
theorem runs_kind (m:Model) (q:Query) (c:Bool) (h:some (okKind m q)=some c):Runs (tbl []) a76 [Arg.enc m,Arg.enc q] (Arg.enc c):=by
 cases h
 refine⟨rfl,fun g=>run_def ?_⟩
 unfold a76
 by_cases k1:q.kind=1
 case pos =>
  by_cases a0:q.lo≤q.hi
  case neg=>simp -implicitDefEqProofs [okKind,k1,a0]
  by_cases a1:q.feature=0
  case neg=>simp -implicitDefEqProofs [okKind,k1,a0,a1]
  cases q.falls<;>simp -implicitDefEqProofs [okKind,k1,a0,a1]
 by_cases k2:q.kind=2
 case pos =>
  by_cases a0:2≤m.classes
  case neg=>simp -implicitDefEqProofs [okKind,k1,k2,a0]
  by_cases a1:q.lo=0
  case neg=>simp -implicitDefEqProofs [okKind,k1,k2,a0,a1]
  by_cases a2:q.hi=0
  case neg=>simp -implicitDefEqProofs [okKind,k1,k2,a0,a1,a2]
  by_cases a3:q.feature=0
  case neg=>simp -implicitDefEqProofs [okKind,k1,k2,a0,a1,a2,a3]
  cases q.falls<;>simp -implicitDefEqProofs [okKind,k1,k2,a0,a1,a2,a3]
 by_cases k3:q.kind=3
 case pos =>
  by_cases a0:0≤q.feature
  case neg=>simp -implicitDefEqProofs [okKind,k1,k2,k3,a0]
  by_cases a1:q.feature<m.dim
  case neg=>simp -implicitDefEqProofs [okKind,k1,k2,k3,a0,a1]
  by_cases a2:q.lo=0
  case neg=>simp -implicitDefEqProofs [okKind,k1,k2,k3,a0,a1,a2]
  simp -implicitDefEqProofs [okKind,k1,k2,k3,a0,a1,a2]
 simp -implicitDefEqProofs [okKind,k1,k2,k3]
theorem c_kind:Contract Tryz.prog 76 (sp2 fun m q=>some (okKind m q)) :=
 contract_of_runs mixed tbl_nil Tryz.func76 m76 (sp2_runs runs_kind)
noncomputable def QRight (m:Model) (q:Query):Option Bool:=if m.dim<1 then some false else Part (RM m) (okQuery m q)
theorem runs_qRight (m:Model) (q:Query) (c:Bool) (h:QRight m q=some c):Runs (tbl [(38,sp1 MRight),(75,sp2 RegOk),(76,sp2 fun m q=>some (okKind m q))]) a40 [Arg.enc m,Arg.enc q] (Arg.enc c):=by
 unfold QRight at h
 split at h
 ·rename_i hd
  cases h
  refine⟨rfl,fun g=>run_def ?_⟩
  unfold a40
  have hM:MRight m=some false:=by unfold MRight;rw[if_pos hd]
  simp -implicitDefEqProofs [hM]
 ·rename_i hd
  obtain⟨hr,rfl⟩:=part_some h
  refine⟨rfl,fun g=>run_def ?_⟩
  unfold a40
  have hM:MRight m=some true:=by unfold MRight;rw[if_neg hd];exact part_of hr _
  have hR:RegOk q.region m.dim=some (okRegion q.region m.dim):=part_of hr.dim _
  by_cases a0:0≤q.cls
  case neg=>simp -implicitDefEqProofs [okQuery,hM,hR,a0]
  by_cases a1:q.cls<m.classes
  case neg=>simp -implicitDefEqProofs [okQuery,hM,hR,a0,a1]
  by_cases a2:0≤q.budget
  case neg=>simp -implicitDefEqProofs [okQuery,hM,hR,a0,a1,a2]
  by_cases a3:q.budget≤65536
  case neg=>simp -implicitDefEqProofs [okQuery,hM,hR,a0,a1,a2,a3]
  cases a4:okRegion q.region m.dim
  case false=>simp -implicitDefEqProofs [okQuery,hM,hR,a0,a1,a2,a3,a4]
  simp -implicitDefEqProofs [okQuery,hM,hR,a0,a1,a2,a3,a4]
theorem c_qRight:Contract Tryz.prog 40 (sp2 QRight) :=
 contract_of_runs mixed (tbl_cons c_mRight (tbl_cons c_region (tbl_cons c_kind tbl_nil))) Tryz.func40 m40 (sp2_runs runs_qRight)
theorem runs_paired (q:Query) (c:Bool) (h:some (paired q)=some c):Runs (tbl []) a37 [Arg.enc q] (Arg.enc c):=by
 cases h
 refine⟨rfl,fun g=>run_def ?_⟩
 unfold a37
 by_cases k1:q.kind=3
 case neg=>simp -implicitDefEqProofs [paired,k1]
 by_cases k2:0≤q.feature
 case neg=>simp -implicitDefEqProofs [paired,k1,k2]
 simp -implicitDefEqProofs [paired,k1,k2]
theorem c_paired:Contract Tryz.prog 37 (sp1 fun q=>some (paired q)) :=
 contract_of_runs mixed tbl_nil Tryz.func37 m37 (sp1_runs runs_paired)
theorem paired_feature {q:Query} (h:paired q=true):q.feature=0∨q.feature=1∨q.feature=2∨q.feature=3:=by
 unfold paired at h
 simp only[Bool.and_eq_true,decide_eq_true_eq] at h
 omega
theorem runs_Start (q:Query) (c:Box) (h:some (startOf q)=some c):Runs (tbl [(37,sp1 fun q=>some (paired q))]) a15 [Arg.enc q] (Arg.enc c):=by
 cases h
 refine⟨rfl,fun g=>run_def ?_⟩
 unfold a15
 cases hp:paired q
 ·simp -implicitDefEqProofs [startOf,hp]
 ·have hf:=paired_feature hp
  obtain⟨kind,cls,region,lo,hi,feature,falls,budget⟩:=q
  simp only at hf
  rcases hf with rfl|rfl|rfl|rfl<;>simp -implicitDefEqProofs [startOf,hp,Box.get]
theorem c_Start:Contract Tryz.prog 15 (sp1 fun q=>some (startOf q)) :=
 contract_of_runs mixed (tbl_cons c_paired tbl_nil) Tryz.func15 m15 (sp1_runs runs_Start)
theorem runs_Second (q:Query) (p:Point) (t:Int) (c:Point) (h:some (secondOf q p t)=some c):Runs (tbl [(37,sp1 fun q=>some (paired q))]) a42 [Arg.enc q,Arg.enc p,Arg.enc t] (Arg.enc c):=by
 cases h
 refine⟨rfl,fun g=>run_def ?_⟩
 unfold a42
 cases hp:paired q
 ·simp -implicitDefEqProofs [secondOf,hp]
 ·have hf:=paired_feature hp
  obtain⟨kind,cls,region,lo,hi,feature,falls,budget⟩:=q
  simp only at hf
  rcases hf with rfl|rfl|rfl|rfl<;>simp -implicitDefEqProofs [secondOf,hp,Point.set]
theorem c_Second:Contract Tryz.prog 42 (sp3 fun q p t=>some (secondOf q p t)) :=
 contract_of_runs mixed (tbl_cons c_paired tbl_nil) Tryz.func42 m42 (sp3_runs runs_Second)
theorem runs_sHas (s:Span) (n:Int) (c:Bool) (h:some (s.has n)=some c):Runs (tbl []) a41 [Arg.enc s,Arg.enc n] (Arg.enc c):=by
 cases h
 refine⟨rfl,fun g=>run_def ?_⟩
 unfold a41
 by_cases h1:s.lo≤n<;>simp -implicitDefEqProofs [Span.has,h1]
theorem c_sHas:Contract Tryz.prog 41 (sp2 fun (s:Span) n=>some (s.has n)) :=
 contract_of_runs mixed tbl_nil Tryz.func41 m41 (sp2_runs runs_sHas)
end Go.Co
/- CO: boxes of a query, cuts of boxes and their counts. -/
namespace Go.Co
open Go.Am Go.Proofs
def smallB (b:Box):Prop:=small b.s0∧small b.s1∧small b.s2∧small b.s3∧small b.s4
theorem get_spans {b:Box} (h:b.empty=false) (i:Int):(b.get i).lo≤(b.get i).hi:=by
 have:=empty_spec h
 unfold Span.empty at this
 simp only[decide_eq_false_iff_not] at this
 unfold Box.get
 split
 ·omega
 ·split
  ·omega
  ·split
   ·omega
   ·split<;>omega
theorem get_small {b:Box} (h:smallB b) (i:Int):small (b.get i):=by
 obtain⟨h0,h1,h2,h3,h4⟩:=h
 unfold Box.get
 split
 ·exact h0
 ·split
  ·exact h1
  ·split
   ·exact h2
   ·split
    ·exact h3
    ·exact h4
theorem set_empty {b:Box} (h:b.empty=false) (i:Int) (s:Span) (h0:0≤i) (h5:i<5):(b.set i s).empty=s.empty:=by
 obtain⟨e0,e1,e2,e3,e4⟩:=empty_spec h
 have:i=0∨i=1∨i=2∨i=3∨i=4:=by omega
 rcases this with rfl|rfl|rfl|rfl|rfl<;>simp[Box.set,Box.empty,e0,e1,e2,e3,e4]
theorem count_pos {m:Model} (hm:RM m) (q:Query) (b:Box):1≤countM m q b:=by
 have pos:∀ x y:Int,1≤x→1≤y→1≤x*y:=fun x y hx hy=>by
  have:=Int.mul_le_mul hx hy (by omega) (by omega)
  omega
 exact pos _ _ (pos _ _ (pos _ _ (pos _ _ (kN_le hm q b 0).1 (kN_le hm q b 1).1) (kN_le hm q b 2).1) (kN_le hm q b 3).1) (kN_le hm q b 4).1
end Go.Co
/- CO: the cells of a box, by places; points of one cell come to the same. -/
namespace Go.Co
open Go.Am Go.Proofs
theorem cuts_ok {m:Model} (hm:RM m) {q:Query} {b:Box} {i:Int}:∀ t∈cutsL m q b i,ok64 t:=by
 intro t ht
 unfold cutsL at ht
 split at ht
 ·simp at ht
 ·rw[List.mem_filter] at ht
  obtain⟨ht,_⟩:=ht
  obtain⟨tr,htr,w,hw,hl,_,rfl⟩:=mem_thr.1 ht
  have hr:=hm.rt htr
  obtain⟨j,hj,rfl⟩:=List.mem_iff_getElem.1 hw
  have:=ok64_fits (hr.cutOk hj)
  rwa [ndAt_lt hj] at this
theorem walk_same {l:List Word} {dim:Int} (h:RT l dim) {p o:Point} (hs:∀ i,i<l.length→(ndAt l i).leaf=false→(p.get (ndAt l i).feature≤(ndAt l i).cut↔o.get (ndAt l i).feature≤(ndAt l i).cut)):∀(f i:Nat),i<l.length→walk l p f i=walk l o f i
 | 0,_,_=>rfl
 | f+1,i,hi=>by
  unfold walk
  cases hl:(ndAt l i).leaf
  ·simp only[Bool.false_eq_true,if_false]
   have e:nxt (ndAt l i) p=nxt (ndAt l i) o:=by
    unfold nxt
    have:=hs i hi hl
    by_cases h1:p.get (ndAt l i).feature≤(ndAt l i).cut
    ·rw[if_pos h1,if_pos (this.1 h1)]
    ·rw[if_neg h1,if_neg (fun h2=>h1 (this.2 h2))]
   rw[← e]
   exact walk_same h hs f _ (nxt_lt h hi hl p).2
  ·simp only[if_true]
theorem set_get_ite (b:Box) {k i:Int} (s:Span) (h0:0≤k) (h5:k<5) (i0:0≤i) (i5:i<5):(b.set k s).get i=if i=k then s else b.get i:=by
 have h1:k=0∨k=1∨k=2∨k=3∨k=4:=by omega
 have h2:i=0∨i=1∨i=2∨i=3∨i=4:=by omega
 rcases h1 with rfl|rfl|rfl|rfl|rfl<;>rcases h2 with rfl|rfl|rfl|rfl|rfl<;>rfl
def ptG (p:Point) (t:Int) (i:Int):Int:=if i<4 then p.get i else t
theorem inB_pt {b:Box} {p:Point} {t:Int}:InB b p t↔∀ i:Int,0≤i→i<5→InS (b.get i) (ptG p t i):=by
 constructor
 ·rintro⟨h0,h1,h2,h3,h4⟩ i i0 i5
  have h1:i=0∨i=1∨i=2∨i=3∨i=4:=by omega
  rcases h1 with rfl|rfl|rfl|rfl|rfl<;>assumption
 ·intro h
  exact⟨h 0 (by omega) (by omega),h 1 (by omega) (by omega),h 2 (by omega) (by omega),h 3 (by omega) (by omega),h 4 (by omega) (by omega)⟩
theorem empty_get {b:Box}:b.empty=false↔∀ i:Int,0≤i→i<5→(b.get i).lo≤(b.get i).hi:=by
 constructor
 ·intro h i _ _;exact get_spans h i
 ·intro h
  have h0:=h 0 (by omega) (by omega)
  have h1:=h 1 (by omega) (by omega)
  have h2:=h 2 (by omega) (by omega)
  have h3:=h 3 (by omega) (by omega)
  have h4:=h 4 (by omega) (by omega)
  unfold Box.empty Span.empty
  simp only[Bool.or_eq_false_iff,decide_eq_false_iff_not]
  simp only[Box.get,Int.reduceEq,if_true,if_false] at h0 h1 h2 h3 h4
  omega
theorem cuts_in {m:Model} {q:Query} {b:Box} {k:Int}:∀ t∈cutsL m q b k,(b.get k).lo≤t∧t<(b.get k).hi:=by
 intro t ht
 unfold cutsL at ht
 split at ht
 ·simp at ht
 ·rw[List.mem_filter] at ht
  have:=ht.2
  simp only[outS,Bool.not_eq_true',Bool.or_eq_false_iff,decide_eq_false_iff_not] at this
  omega
structure PartTo (m:Model) (q:Query) (b:Box) (j:Nat) (x:Box):Prop where
 done:∀ i:Int,0≤i→i<j→(x.get i).lo≤(x.get i).hi∧(b.get i).lo≤(x.get i).lo∧(x.get i).hi≤(b.get i).hi∧∀ t∈cutsL m q b i,t<(x.get i).lo∨(x.get i).hi≤t
 rest:∀ i:Int,(j:Int)≤i→i<5→x.get i=b.get i
theorem uncut {m:Model} {q:Query} {x:Box} {k:Int} (h:cutsL m q x k=[]) (hf:¬ featOf q k<0) {n o:Int} (hn:InS (x.get k) n) (ho:InS (x.get k) o):∀ t∈thrL m (featOf q k),(n≤t↔o≤t):=by
 intro t ht
 unfold InS at hn ho
 by_cases hc:(x.get k).lo≤t∧t<(x.get k).hi
 ·have:t∈cutsL m q x k:=by
   unfold cutsL
   rw[if_neg hf,List.mem_filter]
   refine⟨ht, ?_⟩
   simp only[outS,Bool.not_eq_true',Bool.or_eq_false_iff,decide_eq_false_iff_not]
   omega
  rw[h] at this
  simp at this
 ·omega
theorem featOf_lt (q:Query) {k:Int} (h0:0≤k) (h4:k<4):featOf q k=k:=by unfold featOf;rw[if_pos ⟨h0,h4⟩]
def lowB (b:Box):Point:=⟨b.s0.lo,b.s1.lo,b.s2.lo,b.s3.lo⟩
theorem low_in {x:Box} (h:x.empty=false):InB x (lowB x) x.s4.hi:=by
 have:=empty_spec h
 unfold Span.empty at this
 simp only[decide_eq_false_iff_not] at this
 unfold InB InS lowB
 simp only
 omega
end Go.Co
/- CO: what of a tree a box needs. -/
namespace Go.Co
open Go.Am Go.Proofs
attribute [-simp] Go.Am.eff_gcall
def c53_13:ACode:=.seq (.ops [⟨some 3,.box (.t 1) 10,none,[]⟩,⟨some 4,.mv (.c (.nils)),none,[]⟩] [0,3]) (.seq (.seq (.ops [⟨some 6,.mv (.t 0),none,[]⟩,⟨some 7,.call 73 [.t 6,.c (.int .i64 4)],none,[]⟩,⟨some 8,.un .not (.t 7),none,[]⟩,⟨some 9,.mv (.t 8),none,[]⟩,⟨some 10,.load 10 true (.t 3),some (9,false),[3]⟩,⟨some 11,.call 52 [.t 10],some (9,false),[]⟩,⟨some 12,.pick (.t 9) (.c (.bool true)) (.t 11),none,[]⟩] [0,3,12]) (.cond (.t 12) (.seq (.ops [⟨some 4,.mv (.c (.nils)),none,[]⟩] [4]) .ret) .skip)) (.seq (.ops [⟨some 13,.mv (.t 0),none,[]⟩,⟨some 14,.build [.nils,.nils] [(0,1,.t 13)],none,[]⟩,⟨some 15,.box (.t 14) 2,none,[]⟩,⟨some 5,.mv (.t 15),none,[]⟩] [3,5]) (.seq (.ops [⟨some 16,.mv (.t 5),none,[]⟩,⟨some 17,.load 10 true (.t 3),none,[3]⟩,⟨some 18,.gcall 82 [.t 16,.c (.int .i64 0),.t 17] [15,18] 18,none,[15,18]⟩] [5]) (.seq (.ops [⟨some 19,.mv (.t 5),none,[]⟩,⟨some 20,.chk (.t 19),none,[15]⟩,⟨some 21,.fad (.t 20) 1,none,[15]⟩,⟨some 22,.load 1 false (.t 21),none,[15]⟩,⟨some 4,.mv (.t 22),none,[]⟩] [4]) .ret))))
def a53:AFun:=⟨2,23,c53_13,[.t 4]⟩
inductive OutV (out:List Word):AV→Hp→Prop
 | nil:out=[]→OutV out .nils []
 | own:OutV out (.own 1 0 0 out.length) [(1,⟨encL out,false,1⟩)]
end Go.Co
/- CO: what of a model a box needs. -/
namespace Go.Co
open Go.Am Go.Proofs
attribute [-simp] Go.Am.eff_gcall
theorem map_take {α β:Type} (f:α→β) (l:List α) (i:Nat) (h:i<l.length):(l.take (i+1)).map f=(l.take i).map f++[f l[i]]:=by
 rw[List.take_succ_eq_append_getElem h,List.map_append]
 rfl
end Go.Co
/- CO: a pruned tree's nodes stand in the order in which they are gone through. -/
namespace Go.Co
open Go.Am Go.Proofs
inductive PT
 | leaf (n:Node)
 | node (f c:Int) (l r:PT)
def PT.size:PT→Nat
 | .leaf _=>1
 | .node _ _ l r=>1+l.size+r.size
def PT.ok (dim:Int):PT→Prop
 | .leaf n=>n.leaf=true∧rightNode n=true
 | .node f c l r=>0≤f∧f<dim∧f<4∧fits c=true∧l.ok dim∧r.ok dim
theorem PT.pos:∀ p:PT,1≤p.size
 | .leaf _=>by simp[PT.size]
 | .node _ _ l r=>by simp only[PT.size];omega
end Go.Co
/- CO: models held against each other: told of the same model twice. -/
namespace Go.Co
open Go.Am Go.Proofs
attribute [-simp] Go.Am.eff_gcall
end Go.Co
/- CO: pruning again, within a smaller box. -/
namespace Go.Co
open Go.Am Go.Proofs
def PT.prune:PT→Box→PT
 | .leaf n,_=>.leaf n
 | .node f c l r,b=>if (cutB b f c).1.empty then r.prune (cutB b f c).2 else if (cutB b f c).2.empty then l.prune (cutB b f c).1 else .node f c (l.prune (cutB b f c).1) (r.prune (cutB b f c).2)
end Go.Co
/- CO: a pruned tree has the same pieces, and comes to the same. -/
namespace Go.Co
open Go.Am Go.Proofs
def PT.lvs:PT→Nat
 | .leaf _=>1
 | .node _ _ l r=>l.lvs+r.lvs
end Go.Co
/- CO: what breaks a query. -/
set_option maxHeartbeats 16000000
set_option maxRecDepth 100000
namespace Go.Co
open Go.Am Go.Proofs
def c19_59:ACode:=.seq (.ops [⟨some 4,.box (.t 0) 6,none,[]⟩,⟨some 5,.box (.t 1) 17,none,[]⟩,⟨some 6,.box (.t 2) 4,none,[]⟩,⟨some 8,.mv (.c (.bool false)),none,[]⟩] [3,4,5,6]) (.seq (.seq (.ops [⟨some 12,.load 6 true (.t 4),none,[4]⟩,⟨some 13,.load 17 true (.t 5),none,[5]⟩,⟨some 14,.call 40 [.t 12,.t 13],none,[]⟩,⟨some 15,.un .not (.t 14),none,[]⟩] [3,4,5,6,15]) (.cond (.t 15) (.seq (.ops [⟨some 8,.mv (.c (.bool false)),none,[]⟩] [8]) .ret) .skip)) (.seq (.ops [⟨some 16,.load 6 true (.t 4),none,[4]⟩,⟨some 17,.fad (.t 5) 1,none,[5]⟩,⟨some 18,.load 1 false (.t 17),none,[5]⟩,⟨some 19,.load 4 true (.t 6),none,[6]⟩,⟨some 20,.call 18 [.t 16,.t 18,.t 19],none,[]⟩,⟨some 9,.mv (.t 20),none,[]⟩] [3,4,5,6,9]) (.seq (.seq (.ops [⟨some 21,.fad (.t 5) 0,none,[5]⟩,⟨some 22,.load 1 false (.t 21),none,[5]⟩] [3,4,5,6,9,22]) (.block 0 (.seq (.ops [⟨some 24,.bin .eql (.t 22) (.c (.int .i64 1)),none,[]⟩,⟨some 23,.mv (.t 24),none,[]⟩] [3,4,5,6,9,22,23]) (.cond (.t 23) (.seq (.ops [⟨some 25,.fad (.t 5) 12,none,[5]⟩,⟨some 26,.load 1 false (.t 25),none,[5]⟩,⟨some 27,.fad (.t 5) 13,none,[5]⟩,⟨some 28,.load 1 false (.t 27),none,[5]⟩,⟨some 29,.build [.int .i64 0,.int .i64 0] [(0,1,.t 26),(1,1,.t 28)],none,[]⟩,⟨some 30,.mv (.t 9),none,[]⟩,⟨some 31,.call 41 [.t 29,.t 30],none,[]⟩,⟨some 32,.un .not (.t 31),none,[]⟩,⟨some 8,.mv (.t 32),none,[]⟩] [8]) .ret) (.seq (.ops [⟨some 34,.bin .eql (.t 22) (.c (.int .i64 2)),none,[]⟩,⟨some 33,.mv (.t 34),none,[]⟩] [3,4,5,6,9,33]) (.cond (.t 33) (.seq (.seq (.ops [⟨some 35,.fad (.t 4) 1,none,[4]⟩,⟨some 36,.load 1 false (.t 35),none,[4]⟩,⟨some 37,.mv (.c (.int .i64 0)),none,[]⟩] [4,5,6,9,36,37]) (.block 1 (.loop (.keep [4,5,6,9,36,37] [4,5,6] (.seq (.ops [⟨some 38,.bin .lss (.t 37) (.t 36),none,[]⟩] [4,5,6,9,36,37,38]) (.seq (.cond (.t 38) .skip (.exit 1)) (.seq (.block 2 (.seq (.ops [⟨some 39,.mv (.t 37),none,[]⟩,⟨some 10,.mv (.t 39),none,[]⟩] [4,5,6,9,10,36,37]) (.seq (.ops [⟨some 40,.mv (.t 10),none,[]⟩,⟨some 41,.fad (.t 5) 1,none,[5]⟩,⟨some 42,.load 1 false (.t 41),none,[5]⟩,⟨some 43,.bin .neq (.t 40) (.t 42),none,[]⟩,⟨some 44,.mv (.t 43),none,[]⟩,⟨some 45,.load 6 true (.t 4),some (44,true),[4]⟩,⟨some 46,.mv (.t 10),some (44,true),[]⟩,⟨some 47,.load 4 true (.t 6),some (44,true),[6]⟩,⟨some 48,.call 18 [.t 45,.t 46,.t 47],some (44,true),[]⟩,⟨some 49,.mv (.t 9),some (44,true),[]⟩,⟨some 50,.bin .geq (.t 48) (.t 49),some (44,true),[]⟩,⟨some 51,.pick (.t 44) (.t 50) (.c (.bool false)),none,[]⟩] [4,5,6,9,36,37,51]) (.cond (.t 51) (.seq (.ops [⟨some 8,.mv (.c (.bool true)),none,[]⟩] [8]) .ret) .skip)))) (.ops [⟨some 52,.bin .add (.t 37) (.c (.int .i64 1)),none,[]⟩,⟨some 37,.mv (.t 52),none,[]⟩] [4,5,6,9,36,37])))))))) (.seq (.ops [⟨some 8,.mv (.c (.bool false)),none,[]⟩] [8]) .ret)) .skip)))))) (.seq (.seq (.ops [⟨some 53,.fad (.t 5) 14,none,[5]⟩,⟨some 54,.load 1 false (.t 53),none,[5]⟩,⟨some 55,.iad (.t 6) (.t 54) 1 4,none,[6]⟩,⟨some 56,.load 1 false (.t 55),none,[6]⟩,⟨some 57,.mv (.t 3),none,[]⟩,⟨some 58,.bin .geq (.t 56) (.t 57),none,[]⟩] [3,4,5,6,9,58]) (.cond (.t 58) (.seq (.ops [⟨some 8,.mv (.c (.bool false)),none,[]⟩] [8]) .ret) .skip)) (.seq (.ops [⟨some 59,.load 6 true (.t 4),none,[4]⟩,⟨some 60,.fad (.t 5) 1,none,[5]⟩,⟨some 61,.load 1 false (.t 60),none,[5]⟩,⟨some 62,.load 17 true (.t 5),none,[5]⟩,⟨some 63,.load 4 true (.t 6),none,[6]⟩,⟨some 64,.mv (.t 3),none,[]⟩,⟨some 65,.call 42 [.t 62,.t 63,.t 64],none,[]⟩,⟨some 66,.call 18 [.t 59,.t 61,.t 65],none,[]⟩,⟨some 11,.mv (.t 66),none,[]⟩] [5,9,11]) (.seq (.seq (.ops [⟨some 67,.fad (.t 5) 15,none,[5]⟩,⟨some 68,.load 1 false (.t 67),none,[5]⟩] [9,11,68]) (.cond (.t 68) (.seq (.ops [⟨some 69,.mv (.t 11),none,[]⟩,⟨some 70,.mv (.t 9),none,[]⟩,⟨some 71,.bin .gtr (.t 69) (.t 70),none,[]⟩,⟨some 8,.mv (.t 71),none,[]⟩] [8]) .ret) .skip)) (.seq (.ops [⟨some 72,.mv (.t 11),none,[]⟩,⟨some 73,.mv (.t 9),none,[]⟩,⟨some 74,.bin .lss (.t 72) (.t 73),none,[]⟩,⟨some 8,.mv (.t 74),none,[]⟩] [8]) .ret)))))))
theorem r19_59:type_of% (rr c19_59.eq_1):=rr rfl
def a19:AFun:=⟨4,75,c19_59,[.t 8]⟩
attribute [simp] r19_59
theorem m19:mFun Tryz.prog Tryz.f19 a19=true:=by decide +kernel
theorem okQuery_spec {m:Model} {q:Query} (h:okQuery m q=true):0≤q.cls∧q.cls<m.classes∧0≤q.budget∧q.budget≤65536∧okRegion q.region m.dim=true∧okKind m q=true:=by
 unfold okQuery at h
 simp only[Bool.and_eq_true,decide_eq_true_eq] at h
 exact⟨h.1.1.1.1.1,h.1.1.1.1.2,h.1.1.1.2,h.1.1.2,h.1.2,h.2⟩
theorem okKind_spec {m:Model} {q:Query} (h:okKind m q=true) :
  (q.kind=1∧q.lo≤q.hi∧q.feature=0∧q.falls=false)∨(q.kind=2∧2≤m.classes∧q.lo=0∧q.hi=0∧q.feature=0∧q.falls=false)∨(q.kind=3∧0≤q.feature∧q.feature<m.dim∧q.lo=0∧q.hi=0):=by
 unfold okKind at h
 split at h
 ·simp only[Bool.and_eq_true,decide_eq_true_eq,Bool.not_eq_true'] at h
  exact .inl ⟨‹_›,h.1.1,h.1.2,h.2⟩
 ·split at h
  ·simp only[Bool.and_eq_true,decide_eq_true_eq,Bool.not_eq_true'] at h
   exact .inr (.inl ⟨‹_›,h.1.1.1.1,h.1.1.1.2,h.1.1.2,h.1.2,h.2⟩)
  ·split at h
   ·simp only[Bool.and_eq_true,decide_eq_true_eq] at h
    exact .inr (.inr ⟨‹_›,h.1.1.1,h.1.1.2,h.1.2,h.2⟩)
   ·cases h
noncomputable def BreaksC (m:Model) (q:Query) (p:Point) (t:Int):Option Bool:=Part (RM m) (breaks m q p t)
theorem runs_Breaks (m:Model) (q:Query) (p:Point) (t:Int) (c:Bool) (h:BreaksC m q p t=some c) :
  Runs (tbl [(40,sp2 QRight),(18,sp3 Eval),(41,sp2 fun (s:Span) n=>some (s.has n)),(42,sp3 fun q p t=>some (secondOf q p t))]) a19 [Arg.enc m,Arg.enc q,Arg.enc p,Arg.enc t] (Arg.enc c):=by
 obtain⟨hr,rfl⟩:=part_some h
 refine⟨rfl,fun g=>run_def ?_⟩
 unfold a19
 have hM:QRight m q=some (okQuery m q):=by unfold QRight;rw[if_neg (by have:=hr.dim;omega)];exact part_of hr _
 cases hq:okQuery m q
 case false=>simp -implicitDefEqProofs [hM,hq,breaks]
 have hs:=okQuery_spec hq
 have hE:=eval_of hr hs.1 hs.2.1 p
 have hc3:=hr.classes
 have hks:=okKind_spec hs.2.2.2.2.2
 obtain⟨kind,cls,region,lo,hi,feature,falls,budget⟩:=q
 simp only at hE hks hs
 rcases hks with⟨k,_⟩|⟨k,k2,_⟩|⟨k,f0,f1,_⟩
 ·subst k
  simp -implicitDefEqProofs [hM,hq,breaks,hE]
 ·subst k
  have e0:=eval_of hr (c:=0) (by omega) (by omega) p
  have e1:=eval_of hr (c:=1) (by omega) (by omega) p
  obtain⟨dim,classes,bias,trees⟩:=m
  simp only at hE hc3 k2 hs
  have hcl:classes=2∨classes=3:=by omega
  have hcs:cls=0∨cls=1∨cls=2:=by omega
  have rg2:List.range 2=[0,1]:=rfl
  have rg3:List.range 3=[0,1,2]:=rfl
  rcases hcl with rfl|rfl
  ·have hcs:cls=0∨cls=1:=by omega
   rcases hcs with rfl|rfl
   ·by_cases g0:evalM (⟨dim,2,bias,trees⟩:Model) 0 p≤evalM (⟨dim,2,bias,trees⟩:Model) 1 p<;>simp -implicitDefEqProofs [hM,hq,breaks,e0,e1,g0,run_round,beaten,rg2]
   ·by_cases g0:evalM (⟨dim,2,bias,trees⟩:Model) 1 p≤evalM (⟨dim,2,bias,trees⟩:Model) 0 p<;>simp -implicitDefEqProofs [hM,hq,breaks,e0,e1,g0,run_round,beaten,rg2]
  ·have e2:=eval_of hr (c:=2) (by omega) (by simp) p
   rcases hcs with rfl|rfl|rfl
   ·by_cases g0:evalM (⟨dim,3,bias,trees⟩:Model) 0 p≤evalM (⟨dim,3,bias,trees⟩:Model) 1 p<;>by_cases g1:evalM (⟨dim,3,bias,trees⟩:Model) 0 p≤evalM (⟨dim,3,bias,trees⟩:Model) 2 p<;>simp -implicitDefEqProofs [hM,hq,breaks,e0,e1,e2,g0,g1,run_round,beaten,rg3]
   ·by_cases g0:evalM (⟨dim,3,bias,trees⟩:Model) 1 p≤evalM (⟨dim,3,bias,trees⟩:Model) 0 p<;>by_cases g1:evalM (⟨dim,3,bias,trees⟩:Model) 1 p≤evalM (⟨dim,3,bias,trees⟩:Model) 2 p<;>simp -implicitDefEqProofs [hM,hq,breaks,e0,e1,e2,g0,g1,run_round,beaten,rg3]
   ·by_cases g0:evalM (⟨dim,3,bias,trees⟩:Model) 2 p≤evalM (⟨dim,3,bias,trees⟩:Model) 0 p<;>by_cases g1:evalM (⟨dim,3,bias,trees⟩:Model) 2 p≤evalM (⟨dim,3,bias,trees⟩:Model) 1 p<;>simp -implicitDefEqProofs [hM,hq,breaks,e0,e1,e2,g0,g1,run_round,beaten,rg3]
 ·subst k
  have f2:feature<4:=by have:=hr.dim;omega
  have hE2:=eval_of hr hs.1 hs.2.1 (secondOf ⟨3,cls,region,lo,hi,feature,falls,budget⟩ p t)
  by_cases g1:t≤p.get feature
  ·have g2:¬ p.get feature<t:=by omega
   simp -implicitDefEqProofs [hM,hq,breaks,hE,f0,f2,g1,g2]
  ·have g2:p.get feature<t:=by omega
   cases falls
   ·simp -implicitDefEqProofs [hM,hq,breaks,hE,hE2,f0,f2,g1,g2]
   ·simp -implicitDefEqProofs [hM,hq,breaks,hE,hE2,f0,f2,g1,g2]
theorem c_Breaks:Contract Tryz.prog 19 (sp4 BreaksC) :=
 contract_of_runs mixed (tbl_cons c_qRight (tbl_cons c_Eval (tbl_cons c_sHas (tbl_cons c_Second tbl_nil)))) Tryz.func19 m19 (sp4_runs runs_Breaks)
end Go.Co
/- CO: the cells of a box; does a query hold? -/
set_option maxHeartbeats 16000000
set_option maxRecDepth 100000
namespace Go.Co
open Go.Am Go.Proofs
attribute [-simp] Go.Am.eff_gcall
def c48_21:ACode:=.seq (.ops [⟨some 1,.box (.t 0) 10,none,[]⟩,⟨some 2,.alloc [.int .i64 0,.int .i64 0,.int .i64 0,.int .i64 0],none,[]⟩] [1,2]) (.seq (.ops [⟨some 3,.alloc [.int .i64 0,.int .i64 0,.int .i64 0,.int .i64 0],none,[]⟩] [1,2,3]) (.seq (.seq (.ops [⟨some 5,.mv (.c (.int .i64 0)),none,[]⟩] [1,2,3,5]) (.block 0 (.loop (.keep [1,2,3,5] [1,2,3] (.seq (.ops [⟨some 6,.bin .lss (.t 5) (.c (.int .i64 4)),none,[]⟩] [1,2,3,5,6]) (.seq (.cond (.t 6) .skip (.exit 0)) (.seq (.block 1 (.seq (.ops [⟨some 7,.mv (.t 5),none,[]⟩,⟨some 4,.mv (.t 7),none,[]⟩] [1,2,3,4,5]) (.ops [⟨some 8,.mv (.t 4),none,[]⟩,⟨some 9,.mv (.t 4),none,[]⟩,⟨some 10,.iad (.t 1) (.t 9) 2 5,none,[1]⟩,⟨some 11,.fad (.t 10) 0,none,[1]⟩,⟨some 12,.load 1 false (.t 11),none,[1]⟩,⟨some 13,.iad (.t 3) (.t 8) 1 4,none,[3]⟩,⟨none,.store (.t 13) 1 (.t 12),none,[3]⟩] [1,2,3,5]))) (.ops [⟨some 14,.bin .add (.t 5) (.c (.int .i64 1)),none,[]⟩,⟨some 5,.mv (.t 14),none,[]⟩] [1,2,3,5])))))))) (.seq (.ops [⟨some 15,.load 4 true (.t 3),none,[3]⟩,⟨none,.store (.t 2) 4 (.t 15),none,[2]⟩] [2]) .ret)))
theorem r48_21:type_of% (rr c48_21.eq_1):=rr rfl
def a48:AFun:=⟨1,16,c48_21,[.cell 2 4 true]⟩
attribute [simp] r48_21
theorem m48:mFun Tryz.prog Tryz.f48 a48=true:=by decide +kernel
def c46_3:ACode:=.seq (.ops [⟨some 4,.mv (.c (.bool false)),none,[]⟩] [0,1]) (.seq (.ops [⟨some 5,.mv (.t 0),none,[]⟩,⟨some 6,.mv (.t 1),none,[]⟩,⟨some 7,.call 78 [.t 5,.t 6],none,[]⟩,⟨some 8,.bin .geq (.t 7) (.c (.int .i64 0)),none,[]⟩,⟨some 4,.mv (.t 8),none,[]⟩] [4]) .ret)
def a46:AFun:=⟨2,9,c46_3,[.t 4]⟩
theorem lenB (l:List Box):l.length*10≤(encL l).length:=by rw[encL_length];exact Nat.le_refl _
theorem takeB (l:List Box):List.take (l.length*10) (encL l)=encL l:=by rw[List.take_of_length_le];rw[encL_length];exact Nat.le_refl _
theorem encL_snocB (X:List Box) (c:Box):encL (X++[c])=encL X++[.int .i64 c.s0.lo,.int .i64 c.s0.hi,.int .i64 c.s1.lo,.int .i64 c.s1.hi,.int .i64 c.s2.lo,.int .i64 c.s2.hi,.int .i64 c.s3.lo,.int .i64 c.s3.hi,.int .i64 c.s4.lo,.int .i64 c.s4.hi]:=by rw[encL_append];rfl
theorem runs_Low (b:Box) (r:Point) (h:some (lowB b)=some r):Runs (tbl []) a48 [Arg.enc b] (Arg.enc r):=by
 cases h
 refine⟨rfl,fun g=>run_def ?_⟩
 unfold a48 lowB
 simp -implicitDefEqProofs [run_round]
theorem c_Low:Contract Tryz.prog 48 (sp1 fun b=>some (lowB b)) :=
 contract_of_runs mixed tbl_nil Tryz.func48 m48 (sp1_runs runs_Low)
def corner (m:Model) (q:Query) (b:Box):Bool:=breaks m q (lowB b) b.s4.hi
@[simp] theorem dec_ref_query (q:Query):(Arg.dec (.ipt 0 [.int .i64 q.kind,.int .i64 q.cls,.int .i64 q.region.s0.lo,.int .i64 q.region.s0.hi,.int .i64 q.region.s1.lo,.int .i64 q.region.s1.hi,.int .i64 q.region.s2.lo,.int .i64 q.region.s2.hi,.int .i64 q.region.s3.lo,.int .i64 q.region.s3.hi,.int .i64 q.region.s4.lo,.int .i64 q.region.s4.hi,.int .i64 q.lo,.int .i64 q.hi,.int .i64 q.feature,.bool q.falls,.int .i64 q.budget]):Option (Ref Query))=some ⟨q⟩:=Arg.dec_enc (⟨q⟩:Ref Query)
structure CloH where
 m:Model
 q:Query
instance:Arg CloH where
 enc r:=.clo 47 [.ipt 0 (Row.enc r.m),.ipt 0 (Row.enc r.q)]
 dec x:=match x with
  | .clo f [.ipt 0 xs,.ipt 0 ys]=>if f=47 then (Row.dec xs).bind fun m=>(Row.dec ys).map fun q=>CloH.mk m q else none
  | _=>none
 dec_enc r:=by simp only[if_true,Row.dec_enc];rfl
 enc_dec x r h:=by
  split at h
  ·split at h
   ·rename_i he
    rw[Option.bind_eq_some_iff] at h
    obtain⟨a,ha,h⟩:=h
    rw[Option.map_eq_some_iff] at h
    obtain⟨c,hc,rfl⟩:=h
    rw[Row.enc_dec _ _ ha,Row.enc_dec _ _ hc,he]
   ·cases h
  ·cases h
@[simp] theorem enc_cloh (r:CloH):Arg.enc r=.clo 47 [.ipt 0 (Row.enc r.m),.ipt 0 (Row.enc r.q)]:=rfl
@[simp] theorem dec_cloh (m:Model) (q:Query):(Arg.dec (.clo 47 [.ipt 0 [.int .i64 m.dim,.int .i64 m.classes,.int .i64 m.bias.b0,.int .i64 m.bias.b1,.int .i64 m.bias.b2,.lst m.trees.length (encL m.trees)],.ipt 0 [.int .i64 q.kind,.int .i64 q.cls,.int .i64 q.region.s0.lo,.int .i64 q.region.s0.hi,.int .i64 q.region.s1.lo,.int .i64 q.region.s1.hi,.int .i64 q.region.s2.lo,.int .i64 q.region.s2.hi,.int .i64 q.region.s3.lo,.int .i64 q.region.s3.hi,.int .i64 q.region.s4.lo,.int .i64 q.region.s4.hi,.int .i64 q.lo,.int .i64 q.hi,.int .i64 q.feature,.bool q.falls,.int .i64 q.budget]]):Option CloH)=some ⟨m,q⟩:=Arg.dec_enc (⟨m,q⟩:CloH)
end Go.Co
/- CO: what a statement's reading of an argument says, type by type (written by mkCoSh.py). -/
namespace Go.Co
open Go.Am Go.RowKit
theorem okR_nil {xs:List AV} (h:okR [] xs):xs=[]:=by
 cases xs with
 | nil=>rfl
 | cons x xs=>simp[okR] at h
theorem okR_cons {s:Shp} {ss:List Shp} {xs:List AV} (h:okR (s::ss) xs):∃ x ys,xs=x::ys∧okS s x∧okR ss ys:=by
 cases xs with
 | nil=>simp[okR] at h
 | cons x xs=>simp only[okR] at h;exact⟨x,xs,rfl,h.1,h.2⟩
theorem okS_int {x:AV} (h:okS (.int .i64) x):∃ n,x=.int .i64 n∧ok64 n:=by
 cases x<;>simp only[okS] at h
 obtain⟨rfl,h1,h2⟩:=h
 exact⟨_,rfl,h1,h2⟩
theorem okS_word {x:AV} (h:okS (.int .u64) x):∃ n,x=.int .u64 n∧okW n:=by
 cases x<;>simp only[okS] at h
 obtain⟨rfl,h1,h2⟩:=h
 exact⟨_,rfl,h1,Int.lt_of_le_of_lt h2 (by decide)⟩
theorem okS_bool {x:AV} (h:okS .bool x):∃ b,x=.bool b:=by
 cases x<;>simp only[okS] at h
 exact⟨_,rfl⟩
class Sh (α:Type) [Row α] where
 ss:List Shp
 good:α→Prop
 len:ss.length=Row.sz α
 read:∀ xs,okR ss xs→∃ a,xs=Row.enc a∧good a
theorem rows_read {α:Type} [Row α] [Sh α]:∀(n:Nat) (xs:List AV),xs.length=n*Row.sz α→(∀ i,i<n→okR (Sh.ss α) ((xs.drop (i*Row.sz α)).take (Row.sz α)))→∃ l:List α,l.length=n∧xs=encL l∧∀ a∈l,Sh.good a
 | 0,xs,h,_=>⟨[],rfl,by rw[encL_nil];exact List.eq_nil_of_length_eq_zero (by simpa using h),by simp⟩
 | n+1,xs,h,hr=>by
  have hp:=Row.pos (α:=α)
  obtain⟨a,ha,hg⟩:=Sh.read _ (hr 0 (by omega))
  rw[Nat.succ_mul] at h
  obtain⟨l,hl,hx,hgl⟩:=rows_read (α:=α) n (xs.drop (Row.sz α)) (by rw[List.length_drop];omega) (fun i hi=>by
   have:=hr (i+1) (by omega)
   rw[Nat.succ_mul,Nat.add_comm,← List.drop_drop] at this
   exact this)
  refine⟨a::l,by simp[hl], ?_, ?_⟩
  ·rw[encL_cons,← hx]
   simp only[Nat.zero_mul,List.drop_zero] at ha
   rw[← ha,List.take_append_drop]
  ·intro b hb
   rcases List.mem_cons.1 hb with rfl|hb
   ·exact hg
   ·exact hgl b hb
theorem okS_list {α:Type} [Row α] [Sh α] {x:AV} (h:okS (.sl (Sh.ss α)) x):∃ l:List α,x=.lst l.length (encL l)∧(∀ a∈l,Sh.good a)∧l.length≤maxLen:=by
 cases x<;>simp only[okS] at h
 rename_i n xs
 rw[Sh.len] at h
 obtain⟨l,rfl,rfl,hg⟩:=rows_read (α:=α) n xs h.2.1 h.2.2
 exact⟨l,rfl,hg,h.1⟩
instance:Sh Int where
 ss:=[.int .i64]
 good n:=ok64 n
 len:=rfl
 read xs h:=by
  obtain⟨x,xs,rfl,h0,h⟩:=okR_cons h
  obtain rfl:=okR_nil h
  obtain⟨n,rfl,b⟩:=okS_int h0
  exact⟨n,rfl,b⟩
instance:Sh Word where
 ss:=[.int .u64]
 good n:=okW n.v
 len:=rfl
 read xs h:=by
  obtain⟨x,xs,rfl,h0,h⟩:=okR_cons h
  obtain rfl:=okR_nil h
  obtain⟨n,rfl,b⟩:=okS_word h0
  exact⟨⟨n⟩,rfl,b⟩
instance:Sh Span where
 ss:=[.int .i64,.int .i64]
 good a:=ok64 a.lo∧ok64 a.hi
 len:=rfl
 read xs h:=by
  obtain⟨x0,xs,rfl,h0,h⟩:=okR_cons h
  obtain⟨x1,xs,rfl,h1,h⟩:=okR_cons h
  obtain rfl:=okR_nil h
  obtain⟨v0,rfl,b0⟩:=okS_int h0
  obtain⟨v1,rfl,b1⟩:=okS_int h1
  exact⟨⟨v0,v1⟩,rfl,b0,b1⟩
instance:Sh Box where
 ss:=[.int .i64,.int .i64,.int .i64,.int .i64,.int .i64,.int .i64,.int .i64,.int .i64,.int .i64,.int .i64]
 good a:=ok64 a.s0.lo∧ok64 a.s0.hi∧ok64 a.s1.lo∧ok64 a.s1.hi∧ok64 a.s2.lo∧ok64 a.s2.hi∧ok64 a.s3.lo∧ok64 a.s3.hi∧ok64 a.s4.lo∧ok64 a.s4.hi
 len:=rfl
 read xs h:=by
  obtain⟨x0,xs,rfl,h0,h⟩:=okR_cons h
  obtain⟨x1,xs,rfl,h1,h⟩:=okR_cons h
  obtain⟨x2,xs,rfl,h2,h⟩:=okR_cons h
  obtain⟨x3,xs,rfl,h3,h⟩:=okR_cons h
  obtain⟨x4,xs,rfl,h4,h⟩:=okR_cons h
  obtain⟨x5,xs,rfl,h5,h⟩:=okR_cons h
  obtain⟨x6,xs,rfl,h6,h⟩:=okR_cons h
  obtain⟨x7,xs,rfl,h7,h⟩:=okR_cons h
  obtain⟨x8,xs,rfl,h8,h⟩:=okR_cons h
  obtain⟨x9,xs,rfl,h9,h⟩:=okR_cons h
  obtain rfl:=okR_nil h
  obtain⟨v0,rfl,b0⟩:=okS_int h0
  obtain⟨v1,rfl,b1⟩:=okS_int h1
  obtain⟨v2,rfl,b2⟩:=okS_int h2
  obtain⟨v3,rfl,b3⟩:=okS_int h3
  obtain⟨v4,rfl,b4⟩:=okS_int h4
  obtain⟨v5,rfl,b5⟩:=okS_int h5
  obtain⟨v6,rfl,b6⟩:=okS_int h6
  obtain⟨v7,rfl,b7⟩:=okS_int h7
  obtain⟨v8,rfl,b8⟩:=okS_int h8
  obtain⟨v9,rfl,b9⟩:=okS_int h9
  exact⟨⟨⟨v0,v1⟩,⟨v2,v3⟩,⟨v4,v5⟩,⟨v6,v7⟩,⟨v8,v9⟩⟩,rfl,b0,b1,b2,b3,b4,b5,b6,b7,b8,b9⟩
instance:Sh Point where
 ss:=[.int .i64,.int .i64,.int .i64,.int .i64]
 good a:=ok64 a.p0∧ok64 a.p1∧ok64 a.p2∧ok64 a.p3
 len:=rfl
 read xs h:=by
  obtain⟨x0,xs,rfl,h0,h⟩:=okR_cons h
  obtain⟨x1,xs,rfl,h1,h⟩:=okR_cons h
  obtain⟨x2,xs,rfl,h2,h⟩:=okR_cons h
  obtain⟨x3,xs,rfl,h3,h⟩:=okR_cons h
  obtain rfl:=okR_nil h
  obtain⟨v0,rfl,b0⟩:=okS_int h0
  obtain⟨v1,rfl,b1⟩:=okS_int h1
  obtain⟨v2,rfl,b2⟩:=okS_int h2
  obtain⟨v3,rfl,b3⟩:=okS_int h3
  exact⟨⟨v0,v1,v2,v3⟩,rfl,b0,b1,b2,b3⟩
instance:Sh Bias where
 ss:=[.int .i64,.int .i64,.int .i64]
 good a:=ok64 a.b0∧ok64 a.b1∧ok64 a.b2
 len:=rfl
 read xs h:=by
  obtain⟨x0,xs,rfl,h0,h⟩:=okR_cons h
  obtain⟨x1,xs,rfl,h1,h⟩:=okR_cons h
  obtain⟨x2,xs,rfl,h2,h⟩:=okR_cons h
  obtain rfl:=okR_nil h
  obtain⟨v0,rfl,b0⟩:=okS_int h0
  obtain⟨v1,rfl,b1⟩:=okS_int h1
  obtain⟨v2,rfl,b2⟩:=okS_int h2
  exact⟨⟨v0,v1,v2⟩,rfl,b0,b1,b2⟩
instance:Sh Node where
 ss:=[.bool,.int .i64,.int .i64,.int .i64,.int .i64,.int .i64]
 good a:=True∧ok64 a.value∧ok64 a.feature∧ok64 a.cut∧ok64 a.left∧ok64 a.right
 len:=rfl
 read xs h:=by
  obtain⟨x0,xs,rfl,h0,h⟩:=okR_cons h
  obtain⟨x1,xs,rfl,h1,h⟩:=okR_cons h
  obtain⟨x2,xs,rfl,h2,h⟩:=okR_cons h
  obtain⟨x3,xs,rfl,h3,h⟩:=okR_cons h
  obtain⟨x4,xs,rfl,h4,h⟩:=okR_cons h
  obtain⟨x5,xs,rfl,h5,h⟩:=okR_cons h
  obtain rfl:=okR_nil h
  obtain⟨v0,rfl⟩:=okS_bool h0
  obtain⟨v1,rfl,b1⟩:=okS_int h1
  obtain⟨v2,rfl,b2⟩:=okS_int h2
  obtain⟨v3,rfl,b3⟩:=okS_int h3
  obtain⟨v4,rfl,b4⟩:=okS_int h4
  obtain⟨v5,rfl,b5⟩:=okS_int h5
  exact⟨⟨v0,v1,v2,v3,v4,v5⟩,rfl,trivial,b1,b2,b3,b4,b5⟩
instance:Sh Tree where
 ss:=[.int .i64,.sl (Sh.ss Word)]
 good a:=ok64 a.cls∧((∀ x∈a.nodes,Sh.good x)∧a.nodes.length≤maxLen)
 len:=rfl
 read xs h:=by
  obtain⟨x0,xs,rfl,h0,h⟩:=okR_cons h
  obtain⟨x1,xs,rfl,h1,h⟩:=okR_cons h
  obtain rfl:=okR_nil h
  obtain⟨v0,rfl,b0⟩:=okS_int h0
  obtain⟨v1,rfl,b1⟩:=okS_list (α:=Word) h1
  exact⟨⟨v0,v1⟩,rfl,b0,b1⟩
instance:Sh Model where
 ss:=[.int .i64,.int .i64,.int .i64,.int .i64,.int .i64,.sl (Sh.ss Tree)]
 good a:=ok64 a.dim∧ok64 a.classes∧ok64 a.bias.b0∧ok64 a.bias.b1∧ok64 a.bias.b2∧((∀ x∈a.trees,Sh.good x)∧a.trees.length≤maxLen)
 len:=rfl
 read xs h:=by
  obtain⟨x0,xs,rfl,h0,h⟩:=okR_cons h
  obtain⟨x1,xs,rfl,h1,h⟩:=okR_cons h
  obtain⟨x2,xs,rfl,h2,h⟩:=okR_cons h
  obtain⟨x3,xs,rfl,h3,h⟩:=okR_cons h
  obtain⟨x4,xs,rfl,h4,h⟩:=okR_cons h
  obtain⟨x5,xs,rfl,h5,h⟩:=okR_cons h
  obtain rfl:=okR_nil h
  obtain⟨v0,rfl,b0⟩:=okS_int h0
  obtain⟨v1,rfl,b1⟩:=okS_int h1
  obtain⟨v2,rfl,b2⟩:=okS_int h2
  obtain⟨v3,rfl,b3⟩:=okS_int h3
  obtain⟨v4,rfl,b4⟩:=okS_int h4
  obtain⟨v5,rfl,b5⟩:=okS_list (α:=Tree) h5
  exact⟨⟨v0,v1,⟨v2,v3,v4⟩,v5⟩,rfl,b0,b1,b2,b3,b4,b5⟩
instance:Sh Piece where
 ss:=[.int .i64,.int .i64,.int .i64,.int .i64,.int .i64,.int .i64,.int .i64,.int .i64,.int .i64,.int .i64,.int .i64]
 good a:=ok64 a.box.s0.lo∧ok64 a.box.s0.hi∧ok64 a.box.s1.lo∧ok64 a.box.s1.hi∧ok64 a.box.s2.lo∧ok64 a.box.s2.hi∧ok64 a.box.s3.lo∧ok64 a.box.s3.hi∧ok64 a.box.s4.lo∧ok64 a.box.s4.hi∧ok64 a.value
 len:=rfl
 read xs h:=by
  obtain⟨x0,xs,rfl,h0,h⟩:=okR_cons h
  obtain⟨x1,xs,rfl,h1,h⟩:=okR_cons h
  obtain⟨x2,xs,rfl,h2,h⟩:=okR_cons h
  obtain⟨x3,xs,rfl,h3,h⟩:=okR_cons h
  obtain⟨x4,xs,rfl,h4,h⟩:=okR_cons h
  obtain⟨x5,xs,rfl,h5,h⟩:=okR_cons h
  obtain⟨x6,xs,rfl,h6,h⟩:=okR_cons h
  obtain⟨x7,xs,rfl,h7,h⟩:=okR_cons h
  obtain⟨x8,xs,rfl,h8,h⟩:=okR_cons h
  obtain⟨x9,xs,rfl,h9,h⟩:=okR_cons h
  obtain⟨x10,xs,rfl,h10,h⟩:=okR_cons h
  obtain rfl:=okR_nil h
  obtain⟨v0,rfl,b0⟩:=okS_int h0
  obtain⟨v1,rfl,b1⟩:=okS_int h1
  obtain⟨v2,rfl,b2⟩:=okS_int h2
  obtain⟨v3,rfl,b3⟩:=okS_int h3
  obtain⟨v4,rfl,b4⟩:=okS_int h4
  obtain⟨v5,rfl,b5⟩:=okS_int h5
  obtain⟨v6,rfl,b6⟩:=okS_int h6
  obtain⟨v7,rfl,b7⟩:=okS_int h7
  obtain⟨v8,rfl,b8⟩:=okS_int h8
  obtain⟨v9,rfl,b9⟩:=okS_int h9
  obtain⟨v10,rfl,b10⟩:=okS_int h10
  exact⟨⟨⟨⟨v0,v1⟩,⟨v2,v3⟩,⟨v4,v5⟩,⟨v6,v7⟩,⟨v8,v9⟩⟩,v10⟩,rfl,b0,b1,b2,b3,b4,b5,b6,b7,b8,b9,b10⟩
instance:Sh Step where
 ss:=[.bool,.int .i64,.int .i64]
 good a:=True∧ok64 a.place∧ok64 a.cut
 len:=rfl
 read xs h:=by
  obtain⟨x0,xs,rfl,h0,h⟩:=okR_cons h
  obtain⟨x1,xs,rfl,h1,h⟩:=okR_cons h
  obtain⟨x2,xs,rfl,h2,h⟩:=okR_cons h
  obtain rfl:=okR_nil h
  obtain⟨v0,rfl⟩:=okS_bool h0
  obtain⟨v1,rfl,b1⟩:=okS_int h1
  obtain⟨v2,rfl,b2⟩:=okS_int h2
  exact⟨⟨v0,v1,v2⟩,rfl,trivial,b1,b2⟩
instance:Sh Query where
 ss:=[.int .i64,.int .i64,.int .i64,.int .i64,.int .i64,.int .i64,.int .i64,.int .i64,.int .i64,.int .i64,.int .i64,.int .i64,.int .i64,.int .i64,.int .i64,.bool,.int .i64]
 good a:=ok64 a.kind∧ok64 a.cls∧ok64 a.region.s0.lo∧ok64 a.region.s0.hi∧ok64 a.region.s1.lo∧ok64 a.region.s1.hi∧ok64 a.region.s2.lo∧ok64 a.region.s2.hi∧ok64 a.region.s3.lo∧ok64 a.region.s3.hi∧ok64 a.region.s4.lo∧ok64 a.region.s4.hi∧ok64 a.lo∧ok64 a.hi∧ok64 a.feature∧True∧ok64 a.budget
 len:=rfl
 read xs h:=by
  obtain⟨x0,xs,rfl,h0,h⟩:=okR_cons h
  obtain⟨x1,xs,rfl,h1,h⟩:=okR_cons h
  obtain⟨x2,xs,rfl,h2,h⟩:=okR_cons h
  obtain⟨x3,xs,rfl,h3,h⟩:=okR_cons h
  obtain⟨x4,xs,rfl,h4,h⟩:=okR_cons h
  obtain⟨x5,xs,rfl,h5,h⟩:=okR_cons h
  obtain⟨x6,xs,rfl,h6,h⟩:=okR_cons h
  obtain⟨x7,xs,rfl,h7,h⟩:=okR_cons h
  obtain⟨x8,xs,rfl,h8,h⟩:=okR_cons h
  obtain⟨x9,xs,rfl,h9,h⟩:=okR_cons h
  obtain⟨x10,xs,rfl,h10,h⟩:=okR_cons h
  obtain⟨x11,xs,rfl,h11,h⟩:=okR_cons h
  obtain⟨x12,xs,rfl,h12,h⟩:=okR_cons h
  obtain⟨x13,xs,rfl,h13,h⟩:=okR_cons h
  obtain⟨x14,xs,rfl,h14,h⟩:=okR_cons h
  obtain⟨x15,xs,rfl,h15,h⟩:=okR_cons h
  obtain⟨x16,xs,rfl,h16,h⟩:=okR_cons h
  obtain rfl:=okR_nil h
  obtain⟨v0,rfl,b0⟩:=okS_int h0
  obtain⟨v1,rfl,b1⟩:=okS_int h1
  obtain⟨v2,rfl,b2⟩:=okS_int h2
  obtain⟨v3,rfl,b3⟩:=okS_int h3
  obtain⟨v4,rfl,b4⟩:=okS_int h4
  obtain⟨v5,rfl,b5⟩:=okS_int h5
  obtain⟨v6,rfl,b6⟩:=okS_int h6
  obtain⟨v7,rfl,b7⟩:=okS_int h7
  obtain⟨v8,rfl,b8⟩:=okS_int h8
  obtain⟨v9,rfl,b9⟩:=okS_int h9
  obtain⟨v10,rfl,b10⟩:=okS_int h10
  obtain⟨v11,rfl,b11⟩:=okS_int h11
  obtain⟨v12,rfl,b12⟩:=okS_int h12
  obtain⟨v13,rfl,b13⟩:=okS_int h13
  obtain⟨v14,rfl,b14⟩:=okS_int h14
  obtain⟨v15,rfl⟩:=okS_bool h15
  obtain⟨v16,rfl,b16⟩:=okS_int h16
  exact⟨⟨v0,v1,⟨⟨v2,v3⟩,⟨v4,v5⟩,⟨v6,v7⟩,⟨v8,v9⟩,⟨v10,v11⟩⟩,v12,v13,v14,v15,v16⟩,rfl,b0,b1,b2,b3,b4,b5,b6,b7,b8,b9,b10,b11,b12,b13,b14,trivial,b16⟩
instance:Sh Verdict where
 ss:=[.int .i64,.sl (Sh.ss Step),.int .i64,.int .i64,.int .i64,.int .i64,.int .i64,.int .i64]
 good a:=ok64 a.kind∧((∀ x∈a.proof,Sh.good x)∧a.proof.length≤maxLen)∧ok64 a.witness.p0∧ok64 a.witness.p1∧ok64 a.witness.p2∧ok64 a.witness.p3∧ok64 a.twin∧ok64 a.spent
 len:=rfl
 read xs h:=by
  obtain⟨x0,xs,rfl,h0,h⟩:=okR_cons h
  obtain⟨x1,xs,rfl,h1,h⟩:=okR_cons h
  obtain⟨x2,xs,rfl,h2,h⟩:=okR_cons h
  obtain⟨x3,xs,rfl,h3,h⟩:=okR_cons h
  obtain⟨x4,xs,rfl,h4,h⟩:=okR_cons h
  obtain⟨x5,xs,rfl,h5,h⟩:=okR_cons h
  obtain⟨x6,xs,rfl,h6,h⟩:=okR_cons h
  obtain⟨x7,xs,rfl,h7,h⟩:=okR_cons h
  obtain rfl:=okR_nil h
  obtain⟨v0,rfl,b0⟩:=okS_int h0
  obtain⟨v1,rfl,b1⟩:=okS_list (α:=Step) h1
  obtain⟨v2,rfl,b2⟩:=okS_int h2
  obtain⟨v3,rfl,b3⟩:=okS_int h3
  obtain⟨v4,rfl,b4⟩:=okS_int h4
  obtain⟨v5,rfl,b5⟩:=okS_int h5
  obtain⟨v6,rfl,b6⟩:=okS_int h6
  obtain⟨v7,rfl,b7⟩:=okS_int h7
  exact⟨⟨v0,v1,⟨v2,v3,v4,v5⟩,v6,v7⟩,rfl,b0,b1,b2,b3,b4,b5,b6,b7⟩
instance:Sh KTree where
 ss:=[.int .i64,.sl (Sh.ss Int),.sl (Sh.ss Int),.sl (Sh.ss Int),.sl (Sh.ss Int)]
 good a:=ok64 a.cls∧((∀ x∈a.part,Sh.good x)∧a.part.length≤maxLen)∧((∀ x∈a.dir,Sh.good x)∧a.dir.length≤maxLen)∧((∀ x∈a.cut,Sh.good x)∧a.cut.length≤maxLen)∧((∀ x∈a.val,Sh.good x)∧a.val.length≤maxLen)
 len:=rfl
 read xs h:=by
  obtain⟨x0,xs,rfl,h0,h⟩:=okR_cons h
  obtain⟨x1,xs,rfl,h1,h⟩:=okR_cons h
  obtain⟨x2,xs,rfl,h2,h⟩:=okR_cons h
  obtain⟨x3,xs,rfl,h3,h⟩:=okR_cons h
  obtain⟨x4,xs,rfl,h4,h⟩:=okR_cons h
  obtain rfl:=okR_nil h
  obtain⟨v0,rfl,b0⟩:=okS_int h0
  obtain⟨v1,rfl,b1⟩:=okS_list (α:=Int) h1
  obtain⟨v2,rfl,b2⟩:=okS_list (α:=Int) h2
  obtain⟨v3,rfl,b3⟩:=okS_list (α:=Int) h3
  obtain⟨v4,rfl,b4⟩:=okS_list (α:=Int) h4
  exact⟨⟨v0,v1,v2,v3,v4⟩,rfl,b0,b1,b2,b3,b4⟩
instance:Sh Forest where
 ss:=[.int .i64,.int .i64,.sl (Sh.ss Int),.sl (Sh.ss KTree)]
 good a:=ok64 a.dim∧ok64 a.classes∧((∀ x∈a.bias,Sh.good x)∧a.bias.length≤maxLen)∧((∀ x∈a.trees,Sh.good x)∧a.trees.length≤maxLen)
 len:=rfl
 read xs h:=by
  obtain⟨x0,xs,rfl,h0,h⟩:=okR_cons h
  obtain⟨x1,xs,rfl,h1,h⟩:=okR_cons h
  obtain⟨x2,xs,rfl,h2,h⟩:=okR_cons h
  obtain⟨x3,xs,rfl,h3,h⟩:=okR_cons h
  obtain rfl:=okR_nil h
  obtain⟨v0,rfl,b0⟩:=okS_int h0
  obtain⟨v1,rfl,b1⟩:=okS_int h1
  obtain⟨v2,rfl,b2⟩:=okS_list (α:=Int) h2
  obtain⟨v3,rfl,b3⟩:=okS_list (α:=KTree) h3
  exact⟨⟨v0,v1,v2,v3⟩,rfl,b0,b1,b2,b3⟩
instance:Sh Ask where
 ss:=[.int .i64,.int .i64,.int .i64,.int .i64,.int .i64,.int .i64,.bool,.sl (Sh.ss Int)]
 good a:=ok64 a.kind∧ok64 a.cls∧ok64 a.lo∧ok64 a.size∧ok64 a.feature∧ok64 a.budget∧True∧((∀ x∈a.spans,Sh.good x)∧a.spans.length≤maxLen)
 len:=rfl
 read xs h:=by
  obtain⟨x0,xs,rfl,h0,h⟩:=okR_cons h
  obtain⟨x1,xs,rfl,h1,h⟩:=okR_cons h
  obtain⟨x2,xs,rfl,h2,h⟩:=okR_cons h
  obtain⟨x3,xs,rfl,h3,h⟩:=okR_cons h
  obtain⟨x4,xs,rfl,h4,h⟩:=okR_cons h
  obtain⟨x5,xs,rfl,h5,h⟩:=okR_cons h
  obtain⟨x6,xs,rfl,h6,h⟩:=okR_cons h
  obtain⟨x7,xs,rfl,h7,h⟩:=okR_cons h
  obtain rfl:=okR_nil h
  obtain⟨v0,rfl,b0⟩:=okS_int h0
  obtain⟨v1,rfl,b1⟩:=okS_int h1
  obtain⟨v2,rfl,b2⟩:=okS_int h2
  obtain⟨v3,rfl,b3⟩:=okS_int h3
  obtain⟨v4,rfl,b4⟩:=okS_int h4
  obtain⟨v5,rfl,b5⟩:=okS_int h5
  obtain⟨v6,rfl⟩:=okS_bool h6
  obtain⟨v7,rfl,b7⟩:=okS_list (α:=Int) h7
  exact⟨⟨v0,v1,v2,v3,v4,v5,v6,v7⟩,rfl,b0,b1,b2,b3,b4,b5,trivial,b7⟩
instance:Sh Cutting where
 ss:=[.sl (Sh.ss Int),.sl (Sh.ss Int)]
 good a:=((∀ x∈a.place,Sh.good x)∧a.place.length≤maxLen)∧((∀ x∈a.cut,Sh.good x)∧a.cut.length≤maxLen)
 len:=rfl
 read xs h:=by
  obtain⟨x0,xs,rfl,h0,h⟩:=okR_cons h
  obtain⟨x1,xs,rfl,h1,h⟩:=okR_cons h
  obtain rfl:=okR_nil h
  obtain⟨v0,rfl,b0⟩:=okS_list (α:=Int) h0
  obtain⟨v1,rfl,b1⟩:=okS_list (α:=Int) h1
  exact⟨⟨v0,v1⟩,rfl,b0,b1⟩
variable {P:Program} {t:TypeId} {x:AV}
theorem arg_agg {α:Type} [Row α] [Sh α] (h1:isAggT P t=true) (h2:shp P 20 t=some (Sh.ss α)) (h:argOk P t x):∃ a:α,x=.agg (Row.enc a)∧Sh.good a:=by
 unfold argOk at h
 rw[h1] at h
 obtain⟨xs,ss,rfl,hs,hr⟩:=h
 rw[h2] at hs
 cases hs
 obtain⟨a,rfl,hg⟩:=Sh.read _ hr
 exact⟨a,rfl,hg⟩
theorem arg_cell {s:Shp} (h1:isAggT P t=false) (h2:shp P 20 t=some [s]) (h:argOk P t x):okS s x:=by
 unfold argOk at h
 rw[h1] at h
 obtain⟨s',hs,hr⟩:=h
 rw[h2] at hs
 cases hs
 exact hr
theorem arg_list {α:Type} [Row α] [Sh α] (h1:isAggT P t=false) (h2:shp P 20 t=some [.sl (Sh.ss α)]) (h:argOk P t x):∃ l:List α,x=.lst l.length (encL l)∧(∀ a∈l,Sh.good a)∧l.length≤maxLen:=okS_list (arg_cell h1 h2 h)
theorem argsOk_cons {t:TypeId} {ts:List TypeId} {xs:List AV} (h:argsOk P (t::ts) xs):∃ x ys,xs=x::ys∧argOk P t x∧argsOk P ts ys:=by
 cases xs with
 | nil=>simp[argsOk] at h
 | cons x xs=>simp only[argsOk] at h;exact⟨x,xs,rfl,h.1,h.2⟩
theorem argsOk_nil {xs:List AV} (h:argsOk P [] xs):xs=[]:=by
 cases xs with
 | nil=>rfl
 | cons x xs=>simp[argsOk] at h
end Go.Co
/- CO: pieces that meet, groups, levels. -/
namespace Go.Co
open Go.Am
instance rowList {α:Type} [Row α]:Row (List α) where
 sz:=1
 enc l:=[.lst l.length (encL l)]
 dec xs:=match xs with
  | [.lst n ys]=>decL α n ys
  | _=>none
 pos:=by decide
 len _:=rfl
 dec_enc l:=decL_encL l
 enc_dec xs a h:=by
  split at h
  ·obtain⟨h1,h2⟩:=decL_some _ _ _ h
   rw[h1,h2]
  ·cases h
@[simp] theorem enc_rowList {α:Type} [Row α] (l:List α):Row.enc l=[.lst l.length (encL l)]:=rfl
@[simp] theorem sz_rowList {α:Type} [Row α]:Row.sz (List α)=1:=rfl
instance {α:Type} [Row α]:Cells (List α):=⟨fun _=>rfl⟩
def meetB (a b:Box):Box:=⟨meetS a.s0 b.s0,meetS a.s1 b.s1,meetS a.s2 b.s2,meetS a.s3 b.s3,meetS a.s4 b.s4⟩
def meetF (x y:Piece):Option Piece:=if (meetB x.box y.box).empty then none else some ⟨meetB x.box y.box,x.value+y.value⟩
def row (x:Piece) (b:List Piece):List Piece:=b.filterMap (meetF x)
def smallG (k:Nat) (gs:List (List Piece)):Prop:=∀ g∈gs,(∀ x∈g,-(2:Int)^k≤x.value∧x.value≤(2:Int)^k)∧g.length≤1073741824
theorem pow_up {j k:Nat} (h:j≤k):(2:Int)^j≤2^k:=by
 have:(2:Nat)^j≤2^k:=Nat.pow_le_pow_right (by omega) h
 exact_mod_cast this
theorem smallG.up {j k:Nat} (h:j≤k) {gs:List (List Piece)} (hs:smallG j gs):smallG k gs:=by
 intro g hg
 refine⟨fun x hx=>?_,(hs g hg).2⟩
 have h1:=(hs g hg).1 x hx
 have h2:=pow_up h
 omega
end Go.Co
/- CO: what breaks in a cell breaks at its corner; parts of a region. -/
set_option maxHeartbeats 16000000
set_option maxRecDepth 100000
namespace Go.Co
open Go.Am Go.Proofs
attribute [-simp] Go.Am.eff_gcall
instance {α:Type} [Row α] [Sh α]:Sh (List α) where
 ss:=[.sl (Sh.ss α)]
 good l:=(∀ a∈l,Sh.good a)∧l.length≤maxLen
 len:=rfl
 read xs h:=by
  obtain⟨x0,xs,rfl,h0,h⟩:=okR_cons h
  obtain rfl:=okR_nil h
  obtain⟨l,rfl,hg,hl⟩:=okS_list h0
  exact⟨l,rfl,hg,hl⟩
def c51_23:ACode:=.seq (.ops [⟨some 3,.box (.t 0) 10,none,[]⟩,⟨some 4,.box (.t 1) 4,none,[]⟩,⟨some 6,.mv (.c (.bool false)),none,[]⟩] [2,3,4]) (.seq (.seq (.ops [⟨some 9,.load 4 true (.t 4),none,[4]⟩,⟨some 10,.mv (.c (.int .i64 0)),none,[]⟩] [2,3,9,10]) (.block 0 (.loop (.keep [2,3,9,10] [3] (.seq (.ops [⟨some 11,.bin .lss (.t 10) (.c (.int .i64 4)),none,[]⟩] [2,3,9,10,11]) (.seq (.cond (.t 11) .skip (.exit 0)) (.seq (.block 1 (.seq (.ops [⟨some 12,.mv (.t 10),none,[]⟩,⟨some 13,.idx (.t 9) (.t 10) 1 4 false,none,[]⟩,⟨some 7,.mv (.t 12),none,[]⟩,⟨some 8,.mv (.t 13),none,[]⟩] [2,3,7,8,9,10]) (.seq (.ops [⟨some 14,.mv (.t 7),none,[]⟩,⟨some 15,.iad (.t 3) (.t 14) 2 5,none,[3]⟩,⟨some 16,.load 2 true (.t 15),none,[3]⟩,⟨some 17,.mv (.t 8),none,[]⟩,⟨some 18,.call 41 [.t 16,.t 17],none,[]⟩,⟨some 19,.un .not (.t 18),none,[]⟩] [2,3,9,10,19]) (.cond (.t 19) (.seq (.ops [⟨some 6,.mv (.c (.bool false)),none,[]⟩] [6]) .ret) .skip)))) (.ops [⟨some 20,.bin .add (.t 10) (.c (.int .i64 1)),none,[]⟩,⟨some 10,.mv (.t 20),none,[]⟩] [2,3,9,10])))))))) (.seq (.ops [⟨some 21,.iad (.t 3) (.c (.int .i64 4)) 2 5,none,[3]⟩,⟨some 22,.load 2 true (.t 21),none,[3]⟩,⟨some 23,.mv (.t 2),none,[]⟩,⟨some 24,.call 41 [.t 22,.t 23],none,[]⟩,⟨some 6,.mv (.t 24),none,[]⟩] [6]) .ret))
theorem r51_23:type_of% (rr c51_23.eq_1):=rr rfl
def a51:AFun:=⟨3,25,c51_23,[.t 6]⟩
attribute [simp] r51_23
theorem m51:mFun Tryz.prog Tryz.f51 a51=true:=by decide +kernel
theorem point_set_get (p:Point) {k i:Int} (n:Int) (h0:0≤k) (h4:k<4) (i0:0≤i) (i4:i<4):(p.set k n).get i=if i=k then n else p.get i:=by
 have h1:k=0∨k=1∨k=2∨k=3:=by omega
 have h2:i=0∨i=1∨i=2∨i=3:=by omega
 rcases h1 with rfl|rfl|rfl|rfl<;>rcases h2 with rfl|rfl|rfl|rfl<;>rfl
def hasB (b:Box) (p:Point) (t:Int):Bool:=b.s0.has p.p0&&b.s1.has p.p1&&b.s2.has p.p2&&b.s3.has p.p3&&b.s4.has t
theorem hasB_iff {b:Box} {p:Point} {t:Int}:hasB b p t=true↔InB b p t:=by
 unfold hasB Span.has InB InS
 simp only[Bool.and_eq_true,decide_eq_true_eq]
 constructor
 ·rintro⟨⟨⟨⟨h0,h1⟩,h2⟩,h3⟩,h4⟩;exact⟨h0,h1,h2,h3,h4⟩
 ·rintro⟨h0,h1,h2,h3,h4⟩;exact⟨⟨⟨⟨h0,h1⟩,h2⟩,h3⟩,h4⟩
theorem runs_Has (b:Box) (p:Point) (t:Int) (c:Bool) (h:some (hasB b p t)=some c):Runs (tbl [(41,sp2 fun (s:Span) n=>some (s.has n))]) a51 [Arg.enc b,Arg.enc p,Arg.enc t] (Arg.enc c):=by
 cases h
 refine⟨rfl,fun g=>run_def ?_⟩
 unfold a51
 cases h0:b.s0.has p.p0
 case false=>simp -implicitDefEqProofs [hasB,run_round,h0]
 cases h1:b.s1.has p.p1
 case false=>simp -implicitDefEqProofs [hasB,run_round,h0,h1]
 cases h2:b.s2.has p.p2
 case false=>simp -implicitDefEqProofs [hasB,run_round,h0,h1,h2]
 cases h3:b.s3.has p.p3
 case false=>simp -implicitDefEqProofs [hasB,run_round,h0,h1,h2,h3]
 simp -implicitDefEqProofs [hasB,run_round,h0,h1,h2,h3]
theorem c_Has:Contract Tryz.prog 51 (sp3 fun b p t=>some (hasB b p t)) :=
 contract_of_runs mixed (tbl_cons c_sHas tbl_nil) Tryz.func51 m51 (sp3_runs runs_Has)
end Go.Co
