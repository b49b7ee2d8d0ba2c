/- CO: texts of this claim, one behind the other. -/
import Derived.Test.YtlbfmeijjgphfaaGreatDoorCz5
import Derived.Test.YtlbfmeijjgphfaaGreatDoorCz6
set_option linter.unusedVariables false
set_option linter.unusedSimpArgs false
/- CO: right queries (written by mkCoJ.py). -/
set_option maxHeartbeats 16000000
set_option maxRecDepth 100000
namespace Go.Co
open Go.Am Go.Proofs
def c75_29:ACode:=.seq (.ops [⟨some 2,.box (.t 0) 10,none,[]⟩,⟨some 4,.mv (.c (.bool false)),none,[]⟩] [1,2]) (.seq (.seq (.ops [⟨some 7,.load 10 true (.t 2),none,[2]⟩,⟨some 8,.mv (.c (.int .i64 0)),none,[]⟩] [1,7,8]) (.block 0 (.loop (.keep [1,7,8] [] (.seq (.ops [⟨some 9,.bin .lss (.t 8) (.c (.int .i64 5)),none,[]⟩] [1,7,8,9]) (.seq (.cond (.t 9) .skip (.exit 0)) (.seq (.block 1 (.seq (.ops [⟨some 10,.mv (.t 8),none,[]⟩,⟨some 11,.idx (.t 7) (.t 8) 2 5 true,none,[]⟩,⟨some 6,.alloc [.int .i64 0,.int .i64 0],none,[]⟩,⟨some 5,.mv (.t 10),none,[]⟩,⟨none,.store (.t 6) 2 (.t 11),none,[6]⟩] [1,5,6,7,8]) (.seq (.seq (.ops [⟨some 12,.mv (.t 5),none,[]⟩,⟨some 13,.mv (.t 1),none,[]⟩,⟨some 14,.bin .geq (.t 12) (.t 13),none,[]⟩,⟨some 15,.mv (.t 14),none,[]⟩,⟨some 16,.load 2 true (.t 6),some (15,true),[6]⟩,⟨some 17,.build [.int .i64 0,.int .i64 0] [],some (15,true),[]⟩,⟨some 18,.eqa true [false,false] (.t 16) (.t 17),some (15,true),[]⟩,⟨some 19,.pick (.t 15) (.t 18) (.c (.bool false)),none,[]⟩] [1,6,7,8,19]) (.cond (.t 19) (.seq (.ops [⟨some 4,.mv (.c (.bool false)),none,[]⟩] [4]) .ret) .skip)) (.seq (.ops [⟨some 20,.load 2 true (.t 6),none,[6]⟩,⟨some 21,.call 81 [.t 20],none,[]⟩,⟨some 22,.mv (.t 21),none,[]⟩,⟨some 23,.fad (.t 6) 0,some (22,false),[6]⟩,⟨some 24,.load 1 false (.t 23),some (22,false),[6]⟩,⟨some 25,.call 70 [.t 24,.c (.int .i64 32)],some (22,false),[]⟩,⟨some 26,.un .not (.t 25),some (22,false),[]⟩,⟨some 27,.pick (.t 22) (.c (.bool true)) (.t 26),none,[]⟩,⟨some 28,.mv (.t 27),none,[]⟩,⟨some 29,.fad (.t 6) 1,some (28,false),[6]⟩,⟨some 30,.load 1 false (.t 29),some (28,false),[6]⟩,⟨some 31,.call 70 [.t 30,.c (.int .i64 32)],some (28,false),[]⟩,⟨some 32,.un .not (.t 31),some (28,false),[]⟩,⟨some 33,.pick (.t 28) (.c (.bool true)) (.t 32),none,[]⟩] [1,7,8,33]) (.cond (.t 33) (.seq (.ops [⟨some 4,.mv (.c (.bool false)),none,[]⟩] [4]) .ret) .skip))))) (.ops [⟨some 34,.bin .add (.t 8) (.c (.int .i64 1)),none,[]⟩,⟨some 8,.mv (.t 34),none,[]⟩] [1,7,8])))))))) (.seq (.ops [⟨some 4,.mv (.c (.bool true)),none,[]⟩] [4]) .ret))
theorem r75_29:type_of% (rr c75_29.eq_1):=rr rfl
def a75:AFun:=⟨2,35,c75_29,[.t 4]⟩
attribute [simp] r75_29
theorem m75:mFun Tryz.prog Tryz.f75 a75=true:=by decide +kernel
def c76_22:ACode:=.seq (.ops [⟨some 2,.box (.t 0) 6,none,[]⟩,⟨some 3,.box (.t 1) 17,none,[]⟩,⟨some 4,.mv (.c (.bool false)),none,[]⟩] [2,3]) (.seq (.seq (.ops [⟨some 5,.fad (.t 3) 0,none,[3]⟩,⟨some 6,.load 1 false (.t 5),none,[3]⟩] [2,3,6]) (.block 0 (.seq (.ops [⟨some 8,.bin .eql (.t 6) (.c (.int .i64 1)),none,[]⟩,⟨some 7,.mv (.t 8),none,[]⟩] [2,3,6,7]) (.cond (.t 7) (.seq (.ops [⟨some 9,.fad (.t 3) 12,none,[3]⟩,⟨some 10,.load 1 false (.t 9),none,[3]⟩,⟨some 11,.fad (.t 3) 13,none,[3]⟩,⟨some 12,.load 1 false (.t 11),none,[3]⟩,⟨some 13,.bin .leq (.t 10) (.t 12),none,[]⟩,⟨some 14,.mv (.t 13),none,[]⟩,⟨some 15,.fad (.t 3) 14,some (14,true),[3]⟩,⟨some 16,.load 1 false (.t 15),some (14,true),[3]⟩,⟨some 17,.bin .eql (.t 16) (.c (.int .i64 0)),some (14,true),[]⟩,⟨some 18,.pick (.t 14) (.t 17) (.c (.bool false)),none,[]⟩,⟨some 19,.mv (.t 18),none,[]⟩,⟨some 20,.fad (.t 3) 15,some (19,true),[3]⟩,⟨some 21,.load 1 false (.t 20),some (19,true),[3]⟩,⟨some 22,.un .not (.t 21),some (19,true),[]⟩,⟨some 23,.pick (.t 19) (.t 22) (.c (.bool false)),none,[]⟩,⟨some 4,.mv (.t 23),none,[]⟩] [4]) .ret) (.seq (.ops [⟨some 25,.bin .eql (.t 6) (.c (.int .i64 2)),none,[]⟩,⟨some 24,.mv (.t 25),none,[]⟩] [2,3,6,24]) (.cond (.t 24) (.seq (.ops [⟨some 26,.fad (.t 2) 1,none,[2]⟩,⟨some 27,.load 1 false (.t 26),none,[2]⟩,⟨some 28,.bin .geq (.t 27) (.c (.int .i64 2)),none,[]⟩,⟨some 29,.mv (.t 28),none,[]⟩,⟨some 30,.fad (.t 3) 12,some (29,true),[3]⟩,⟨some 31,.load 1 false (.t 30),some (29,true),[3]⟩,⟨some 32,.bin .eql (.t 31) (.c (.int .i64 0)),some (29,true),[]⟩,⟨some 33,.pick (.t 29) (.t 32) (.c (.bool false)),none,[]⟩,⟨some 34,.mv (.t 33),none,[]⟩,⟨some 35,.fad (.t 3) 13,some (34,true),[3]⟩,⟨some 36,.load 1 false (.t 35),some (34,true),[3]⟩,⟨some 37,.bin .eql (.t 36) (.c (.int .i64 0)),some (34,true),[]⟩,⟨some 38,.pick (.t 34) (.t 37) (.c (.bool false)),none,[]⟩,⟨some 39,.mv (.t 38),none,[]⟩,⟨some 40,.fad (.t 3) 14,some (39,true),[3]⟩,⟨some 41,.load 1 false (.t 40),some (39,true),[3]⟩,⟨some 42,.bin .eql (.t 41) (.c (.int .i64 0)),some (39,true),[]⟩,⟨some 43,.pick (.t 39) (.t 42) (.c (.bool false)),none,[]⟩,⟨some 44,.mv (.t 43),none,[]⟩,⟨some 45,.fad (.t 3) 15,some (44,true),[3]⟩,⟨some 46,.load 1 false (.t 45),some (44,true),[3]⟩,⟨some 47,.un .not (.t 46),some (44,true),[]⟩,⟨some 48,.pick (.t 44) (.t 47) (.c (.bool false)),none,[]⟩,⟨some 4,.mv (.t 48),none,[]⟩] [4]) .ret) (.seq (.ops [⟨some 50,.bin .eql (.t 6) (.c (.int .i64 3)),none,[]⟩,⟨some 49,.mv (.t 50),none,[]⟩] [2,3,49]) (.cond (.t 49) (.seq (.ops [⟨some 51,.fad (.t 3) 14,none,[3]⟩,⟨some 52,.load 1 false (.t 51),none,[3]⟩,⟨some 53,.bin .geq (.t 52) (.c (.int .i64 0)),none,[]⟩,⟨some 54,.mv (.t 53),none,[]⟩,⟨some 55,.fad (.t 3) 14,some (54,true),[3]⟩,⟨some 56,.load 1 false (.t 55),some (54,true),[3]⟩,⟨some 57,.fad (.t 2) 0,some (54,true),[2]⟩,⟨some 58,.load 1 false (.t 57),some (54,true),[2]⟩,⟨some 59,.bin .lss (.t 56) (.t 58),some (54,true),[]⟩,⟨some 60,.pick (.t 54) (.t 59) (.c (.bool false)),none,[]⟩,⟨some 61,.mv (.t 60),none,[]⟩,⟨some 62,.fad (.t 3) 12,some (61,true),[3]⟩,⟨some 63,.load 1 false (.t 62),some (61,true),[3]⟩,⟨some 64,.bin .eql (.t 63) (.c (.int .i64 0)),some (61,true),[]⟩,⟨some 65,.pick (.t 61) (.t 64) (.c (.bool false)),none,[]⟩,⟨some 66,.mv (.t 65),none,[]⟩,⟨some 67,.fad (.t 3) 13,some (66,true),[3]⟩,⟨some 68,.load 1 false (.t 67),some (66,true),[3]⟩,⟨some 69,.bin .eql (.t 68) (.c (.int .i64 0)),some (66,true),[]⟩,⟨some 70,.pick (.t 66) (.t 69) (.c (.bool false)),none,[]⟩,⟨some 4,.mv (.t 70),none,[]⟩] [4]) .ret) .skip)))))))) (.seq (.ops [⟨some 4,.mv (.c (.bool false)),none,[]⟩] [4]) .ret))
theorem r76_22:type_of% (rr c76_22.eq_1):=rr rfl
def a76:AFun:=⟨2,71,c76_22,[.t 4]⟩
attribute [simp] r76_22
theorem m76:mFun Tryz.prog Tryz.f76 a76=true:=by decide +kernel
def c40_3:ACode:=.seq (.ops [⟨some 2,.box (.t 0) 6,none,[]⟩,⟨some 3,.box (.t 1) 17,none,[]⟩,⟨some 4,.mv (.c (.bool false)),none,[]⟩] [2,3]) (.seq (.ops [⟨some 5,.load 6 true (.t 2),none,[2]⟩,⟨some 6,.call 38 [.t 5],none,[]⟩,⟨some 7,.mv (.t 6),none,[]⟩,⟨some 8,.fad (.t 3) 1,some (7,true),[3]⟩,⟨some 9,.load 1 false (.t 8),some (7,true),[3]⟩,⟨some 10,.bin .geq (.t 9) (.c (.int .i64 0)),some (7,true),[]⟩,⟨some 11,.pick (.t 7) (.t 10) (.c (.bool false)),none,[]⟩,⟨some 12,.mv (.t 11),none,[]⟩,⟨some 13,.fad (.t 3) 1,some (12,true),[3]⟩,⟨some 14,.load 1 false (.t 13),some (12,true),[3]⟩,⟨some 15,.fad (.t 2) 1,some (12,true),[2]⟩,⟨some 16,.load 1 false (.t 15),some (12,true),[2]⟩,⟨some 17,.bin .lss (.t 14) (.t 16),some (12,true),[]⟩,⟨some 18,.pick (.t 12) (.t 17) (.c (.bool false)),none,[]⟩,⟨some 19,.mv (.t 18),none,[]⟩,⟨some 20,.fad (.t 3) 16,some (19,true),[3]⟩,⟨some 21,.load 1 false (.t 20),some (19,true),[3]⟩,⟨some 22,.bin .geq (.t 21) (.c (.int .i64 0)),some (19,true),[]⟩,⟨some 23,.pick (.t 19) (.t 22) (.c (.bool false)),none,[]⟩,⟨some 24,.mv (.t 23),none,[]⟩,⟨some 25,.fad (.t 3) 16,some (24,true),[3]⟩,⟨some 26,.load 1 false (.t 25),some (24,true),[3]⟩,⟨some 27,.bin .leq (.t 26) (.c (.int .i64 65536)),some (24,true),[]⟩,⟨some 28,.pick (.t 24) (.t 27) (.c (.bool false)),none,[]⟩,⟨some 29,.mv (.t 28),none,[]⟩,⟨some 30,.fad (.t 3) 2,some (29,true),[3]⟩,⟨some 31,.load 10 true (.t 30),some (29,true),[3]⟩,⟨some 32,.fad (.t 2) 0,some (29,true),[2]⟩,⟨some 33,.load 1 false (.t 32),some (29,true),[2]⟩,⟨some 34,.call 75 [.t 31,.t 33],some (29,true),[]⟩,⟨some 35,.pick (.t 29) (.t 34) (.c (.bool false)),none,[]⟩,⟨some 36,.mv (.t 35),none,[]⟩,⟨some 37,.load 6 true (.t 2),some (36,true),[2]⟩,⟨some 38,.load 17 true (.t 3),some (36,true),[3]⟩,⟨some 39,.call 76 [.t 37,.t 38],some (36,true),[]⟩,⟨some 40,.pick (.t 36) (.t 39) (.c (.bool false)),none,[]⟩,⟨some 4,.mv (.t 40),none,[]⟩] [4]) .ret)
theorem r40_3:type_of% (rr c40_3.eq_1):=rr rfl
def a40:AFun:=⟨2,41,c40_3,[.t 4]⟩
attribute [simp] r40_3
theorem m40:mFun Tryz.prog Tryz.f40 a40=true:=by decide +kernel
def c37_3:ACode:=.seq (.ops [⟨some 1,.box (.t 0) 17,none,[]⟩,⟨some 2,.mv (.c (.bool false)),none,[]⟩] [1]) (.seq (.ops [⟨some 3,.fad (.t 1) 0,none,[1]⟩,⟨some 4,.load 1 false (.t 3),none,[1]⟩,⟨some 5,.bin .eql (.t 4) (.c (.int .i64 3)),none,[]⟩,⟨some 6,.mv (.t 5),none,[]⟩,⟨some 7,.fad (.t 1) 14,some (6,true),[1]⟩,⟨some 8,.load 1 false (.t 7),some (6,true),[1]⟩,⟨some 9,.bin .geq (.t 8) (.c (.int .i64 0)),some (6,true),[]⟩,⟨some 10,.pick (.t 6) (.t 9) (.c (.bool false)),none,[]⟩,⟨some 11,.mv (.t 10),none,[]⟩,⟨some 12,.fad (.t 1) 14,some (11,true),[1]⟩,⟨some 13,.load 1 false (.t 12),some (11,true),[1]⟩,⟨some 14,.bin .lss (.t 13) (.c (.int .i64 4)),some (11,true),[]⟩,⟨some 15,.pick (.t 11) (.t 14) (.c (.bool false)),none,[]⟩,⟨some 2,.mv (.t 15),none,[]⟩] [2]) .ret)
theorem r37_3:type_of% (rr c37_3.eq_1):=rr rfl
def a37:AFun:=⟨1,16,c37_3,[.t 2]⟩
attribute [simp] r37_3
theorem m37:mFun Tryz.prog Tryz.f37 a37=true:=by decide +kernel
def c15_12:ACode:=.seq (.ops [⟨some 1,.box (.t 0) 17,none,[]⟩,⟨some 2,.alloc [.int .i64 0,.int .i64 0,.int .i64 0,.int .i64 0,.int .i64 0,.int .i64 0,.int .i64 0,.int .i64 0,.int .i64 0,.int .i64 0],none,[]⟩] [1,2]) (.seq (.ops [⟨some 4,.fad (.t 1) 2,none,[1]⟩,⟨some 5,.load 10 true (.t 4),none,[1]⟩,⟨some 3,.alloc [.int .i64 0,.int .i64 0,.int .i64 0,.int .i64 0,.int .i64 0,.int .i64 0,.int .i64 0,.int .i64 0,.int .i64 0,.int .i64 0],none,[]⟩,⟨none,.store (.t 3) 10 (.t 5),none,[3]⟩] [1,2,3]) (.seq (.ops [⟨some 6,.build [.int .i64 0,.int .i64 0] [],none,[]⟩,⟨some 7,.iad (.t 3) (.c (.int .i64 4)) 2 5,none,[3]⟩,⟨none,.store (.t 7) 2 (.t 6),none,[3]⟩] [1,2,3]) (.seq (.seq (.ops [⟨some 8,.load 17 true (.t 1),none,[1]⟩,⟨some 9,.call 37 [.t 8],none,[]⟩] [1,2,3,9]) (.cond (.t 9) (.ops [⟨some 10,.fad (.t 1) 14,none,[1]⟩,⟨some 11,.load 1 false (.t 10),none,[1]⟩,⟨some 12,.iad (.t 3) (.t 11) 2 5,none,[3]⟩,⟨some 13,.load 2 true (.t 12),none,[3]⟩,⟨some 14,.iad (.t 3) (.c (.int .i64 4)) 2 5,none,[3]⟩,⟨none,.store (.t 14) 2 (.t 13),none,[3]⟩] [2,3]) .skip)) (.seq (.ops [⟨some 15,.load 10 true (.t 3),none,[3]⟩,⟨none,.store (.t 2) 10 (.t 15),none,[2]⟩] [2]) .ret))))
theorem r15_12:type_of% (rr c15_12.eq_1):=rr rfl
def a15:AFun:=⟨1,16,c15_12,[.cell 2 10 true]⟩
attribute [simp] r15_12
theorem m15:mFun Tryz.prog Tryz.f15 a15=true:=by decide +kernel
def c42_8:ACode:=.seq (.ops [⟨some 3,.box (.t 0) 17,none,[]⟩,⟨some 4,.box (.t 1) 4,none,[]⟩,⟨some 6,.alloc [.int .i64 0,.int .i64 0,.int .i64 0,.int .i64 0],none,[]⟩] [2,3,4,6]) (.seq (.seq (.ops [⟨some 7,.load 17 true (.t 3),none,[3]⟩,⟨some 8,.call 37 [.t 7],none,[]⟩] [2,3,4,6,8]) (.cond (.t 8) (.ops [⟨some 9,.fad (.t 3) 14,none,[3]⟩,⟨some 10,.load 1 false (.t 9),none,[3]⟩,⟨some 11,.mv (.t 2),none,[]⟩,⟨some 12,.iad (.t 4) (.t 10) 1 4,none,[4]⟩,⟨none,.store (.t 12) 1 (.t 11),none,[4]⟩] [4,6]) .skip)) (.seq (.ops [⟨some 13,.load 4 true (.t 4),none,[4]⟩,⟨none,.store (.t 6) 4 (.t 13),none,[6]⟩] [6]) .ret))
theorem r42_8:type_of% (rr c42_8.eq_1):=rr rfl
def a42:AFun:=⟨3,14,c42_8,[.cell 6 4 true]⟩
attribute [simp] r42_8
theorem m42:mFun Tryz.prog Tryz.f42 a42=true:=by decide +kernel
def c41_3:ACode:=.seq (.ops [⟨some 2,.box (.t 0) 2,none,[]⟩,⟨some 4,.mv (.c (.bool false)),none,[]⟩] [1,2]) (.seq (.ops [⟨some 5,.fad (.t 2) 0,none,[2]⟩,⟨some 6,.load 1 false (.t 5),none,[2]⟩,⟨some 7,.mv (.t 1),none,[]⟩,⟨some 8,.bin .leq (.t 6) (.t 7),none,[]⟩,⟨some 9,.mv (.t 8),none,[]⟩,⟨some 10,.mv (.t 1),some (9,true),[]⟩,⟨some 11,.fad (.t 2) 1,some (9,true),[2]⟩,⟨some 12,.load 1 false (.t 11),some (9,true),[2]⟩,⟨some 13,.bin .leq (.t 10) (.t 12),some (9,true),[]⟩,⟨some 14,.pick (.t 9) (.t 13) (.c (.bool false)),none,[]⟩,⟨some 4,.mv (.t 14),none,[]⟩] [4]) .ret)
theorem r41_3:type_of% (rr c41_3.eq_1):=rr rfl
def a41:AFun:=⟨2,15,c41_3,[.t 4]⟩
attribute [simp] r41_3
theorem m41:mFun Tryz.prog Tryz.f41 a41=true:=by decide +kernel
noncomputable def RegOk (b:Box) (dim:Int):Option Bool:=Part (1≤dim∧dim≤4) (okRegion b dim)
theorem runs_region1 (b:Box) (dim:Int) (hd:dim=1):Runs (tbl [(81,sp1 fun (s:Span)=>some s.empty),(70,sp2 Fits)]) a75 [Arg.enc b,Arg.enc dim] (Arg.enc (okRegion b dim)):=by
 refine⟨rfl,fun g=>run_def ?_⟩
 unfold a75
 have fz:fits 0=true:=rfl
 obtain⟨⟨l0,h0⟩,⟨l1,h1⟩,⟨l2,h2⟩,⟨l3,h3⟩,⟨l4,h4⟩⟩:=b
 by_cases e0:h0<l0
 case pos=>simp -implicitDefEqProofs [hd,run_round,Fits,fz,okRegion,okSpan,Span.empty,e0]
 cases f0:fits l0
 case false=>simp -implicitDefEqProofs [hd,run_round,Fits,fz,okRegion,okSpan,Span.empty,e0,f0]
 cases g0:fits h0
 case false=>simp -implicitDefEqProofs [hd,run_round,Fits,fz,okRegion,okSpan,Span.empty,e0,f0,g0]
 by_cases e1:l1=0
 case neg=>simp -implicitDefEqProofs [hd,run_round,Fits,fz,okRegion,okSpan,Span.empty,e0,f0,g0,e1]
 by_cases f1:h1=0
 case neg=>simp -implicitDefEqProofs [hd,run_round,Fits,fz,okRegion,okSpan,Span.empty,e0,f0,g0,e1,f1]
 by_cases e2:l2=0
 case neg=>simp -implicitDefEqProofs [hd,run_round,Fits,fz,okRegion,okSpan,Span.empty,e0,f0,g0,e1,f1,e2]
 by_cases f2:h2=0
 case neg=>simp -implicitDefEqProofs [hd,run_round,Fits,fz,okRegion,okSpan,Span.empty,e0,f0,g0,e1,f1,e2,f2]
 by_cases e3:l3=0
 case neg=>simp -implicitDefEqProofs [hd,run_round,Fits,fz,okRegion,okSpan,Span.empty,e0,f0,g0,e1,f1,e2,f2,e3]
 by_cases f3:h3=0
 case neg=>simp -implicitDefEqProofs [hd,run_round,Fits,fz,okRegion,okSpan,Span.empty,e0,f0,g0,e1,f1,e2,f2,e3,f3]
 by_cases e4:l4=0
 case neg=>simp -implicitDefEqProofs [hd,run_round,Fits,fz,okRegion,okSpan,Span.empty,e0,f0,g0,e1,f1,e2,f2,e3,f3,e4]
 by_cases f4:h4=0
 case neg=>simp -implicitDefEqProofs [hd,run_round,Fits,fz,okRegion,okSpan,Span.empty,e0,f0,g0,e1,f1,e2,f2,e3,f3,e4,f4]
 simp -implicitDefEqProofs [hd,run_round,Fits,fz,okRegion,okSpan,Span.empty,e0,f0,g0,e1,f1,e2,f2,e3,f3,e4,f4]
theorem runs_region2 (b:Box) (dim:Int) (hd:dim=2):Runs (tbl [(81,sp1 fun (s:Span)=>some s.empty),(70,sp2 Fits)]) a75 [Arg.enc b,Arg.enc dim] (Arg.enc (okRegion b dim)):=by
 refine⟨rfl,fun g=>run_def ?_⟩
 unfold a75
 have fz:fits 0=true:=rfl
 obtain⟨⟨l0,h0⟩,⟨l1,h1⟩,⟨l2,h2⟩,⟨l3,h3⟩,⟨l4,h4⟩⟩:=b
 by_cases e0:h0<l0
 case pos=>simp -implicitDefEqProofs [hd,run_round,Fits,fz,okRegion,okSpan,Span.empty,e0]
 cases f0:fits l0
 case false=>simp -implicitDefEqProofs [hd,run_round,Fits,fz,okRegion,okSpan,Span.empty,e0,f0]
 cases g0:fits h0
 case false=>simp -implicitDefEqProofs [hd,run_round,Fits,fz,okRegion,okSpan,Span.empty,e0,f0,g0]
 by_cases e1:h1<l1
 case pos=>simp -implicitDefEqProofs [hd,run_round,Fits,fz,okRegion,okSpan,Span.empty,e0,f0,g0,e1]
 cases f1:fits l1
 case false=>simp -implicitDefEqProofs [hd,run_round,Fits,fz,okRegion,okSpan,Span.empty,e0,f0,g0,e1,f1]
 cases g1:fits h1
 case false=>simp -implicitDefEqProofs [hd,run_round,Fits,fz,okRegion,okSpan,Span.empty,e0,f0,g0,e1,f1,g1]
 by_cases e2:l2=0
 case neg=>simp -implicitDefEqProofs [hd,run_round,Fits,fz,okRegion,okSpan,Span.empty,e0,f0,g0,e1,f1,g1,e2]
 by_cases f2:h2=0
 case neg=>simp -implicitDefEqProofs [hd,run_round,Fits,fz,okRegion,okSpan,Span.empty,e0,f0,g0,e1,f1,g1,e2,f2]
 by_cases e3:l3=0
 case neg=>simp -implicitDefEqProofs [hd,run_round,Fits,fz,okRegion,okSpan,Span.empty,e0,f0,g0,e1,f1,g1,e2,f2,e3]
 by_cases f3:h3=0
 case neg=>simp -implicitDefEqProofs [hd,run_round,Fits,fz,okRegion,okSpan,Span.empty,e0,f0,g0,e1,f1,g1,e2,f2,e3,f3]
 by_cases e4:l4=0
 case neg=>simp -implicitDefEqProofs [hd,run_round,Fits,fz,okRegion,okSpan,Span.empty,e0,f0,g0,e1,f1,g1,e2,f2,e3,f3,e4]
 by_cases f4:h4=0
 case neg=>simp -implicitDefEqProofs [hd,run_round,Fits,fz,okRegion,okSpan,Span.empty,e0,f0,g0,e1,f1,g1,e2,f2,e3,f3,e4,f4]
 simp -implicitDefEqProofs [hd,run_round,Fits,fz,okRegion,okSpan,Span.empty,e0,f0,g0,e1,f1,g1,e2,f2,e3,f3,e4,f4]
theorem runs_region3 (b:Box) (dim:Int) (hd:dim=3):Runs (tbl [(81,sp1 fun (s:Span)=>some s.empty),(70,sp2 Fits)]) a75 [Arg.enc b,Arg.enc dim] (Arg.enc (okRegion b dim)):=by
 refine⟨rfl,fun g=>run_def ?_⟩
 unfold a75
 have fz:fits 0=true:=rfl
 obtain⟨⟨l0,h0⟩,⟨l1,h1⟩,⟨l2,h2⟩,⟨l3,h3⟩,⟨l4,h4⟩⟩:=b
 by_cases e0:h0<l0
 case pos=>simp -implicitDefEqProofs [hd,run_round,Fits,fz,okRegion,okSpan,Span.empty,e0]
 cases f0:fits l0
 case false=>simp -implicitDefEqProofs [hd,run_round,Fits,fz,okRegion,okSpan,Span.empty,e0,f0]
 cases g0:fits h0
 case false=>simp -implicitDefEqProofs [hd,run_round,Fits,fz,okRegion,okSpan,Span.empty,e0,f0,g0]
 by_cases e1:h1<l1
 case pos=>simp -implicitDefEqProofs [hd,run_round,Fits,fz,okRegion,okSpan,Span.empty,e0,f0,g0,e1]
 cases f1:fits l1
 case false=>simp -implicitDefEqProofs [hd,run_round,Fits,fz,okRegion,okSpan,Span.empty,e0,f0,g0,e1,f1]
 cases g1:fits h1
 case false=>simp -implicitDefEqProofs [hd,run_round,Fits,fz,okRegion,okSpan,Span.empty,e0,f0,g0,e1,f1,g1]
 by_cases e2:h2<l2
 case pos=>simp -implicitDefEqProofs [hd,run_round,Fits,fz,okRegion,okSpan,Span.empty,e0,f0,g0,e1,f1,g1,e2]
 cases f2:fits l2
 case false=>simp -implicitDefEqProofs [hd,run_round,Fits,fz,okRegion,okSpan,Span.empty,e0,f0,g0,e1,f1,g1,e2,f2]
 cases g2:fits h2
 case false=>simp -implicitDefEqProofs [hd,run_round,Fits,fz,okRegion,okSpan,Span.empty,e0,f0,g0,e1,f1,g1,e2,f2,g2]
 by_cases e3:l3=0
 case neg=>simp -implicitDefEqProofs [hd,run_round,Fits,fz,okRegion,okSpan,Span.empty,e0,f0,g0,e1,f1,g1,e2,f2,g2,e3]
 by_cases f3:h3=0
 case neg=>simp -implicitDefEqProofs [hd,run_round,Fits,fz,okRegion,okSpan,Span.empty,e0,f0,g0,e1,f1,g1,e2,f2,g2,e3,f3]
 by_cases e4:l4=0
 case neg=>simp -implicitDefEqProofs [hd,run_round,Fits,fz,okRegion,okSpan,Span.empty,e0,f0,g0,e1,f1,g1,e2,f2,g2,e3,f3,e4]
 by_cases f4:h4=0
 case neg=>simp -implicitDefEqProofs [hd,run_round,Fits,fz,okRegion,okSpan,Span.empty,e0,f0,g0,e1,f1,g1,e2,f2,g2,e3,f3,e4,f4]
 simp -implicitDefEqProofs [hd,run_round,Fits,fz,okRegion,okSpan,Span.empty,e0,f0,g0,e1,f1,g1,e2,f2,g2,e3,f3,e4,f4]
theorem runs_region4 (b:Box) (dim:Int) (hd:dim=4):Runs (tbl [(81,sp1 fun (s:Span)=>some s.empty),(70,sp2 Fits)]) a75 [Arg.enc b,Arg.enc dim] (Arg.enc (okRegion b dim)):=by
 refine⟨rfl,fun g=>run_def ?_⟩
 unfold a75
 have fz:fits 0=true:=rfl
 obtain⟨⟨l0,h0⟩,⟨l1,h1⟩,⟨l2,h2⟩,⟨l3,h3⟩,⟨l4,h4⟩⟩:=b
 by_cases e0:h0<l0
 case pos=>simp -implicitDefEqProofs [hd,run_round,Fits,fz,okRegion,okSpan,Span.empty,e0]
 cases f0:fits l0
 case false=>simp -implicitDefEqProofs [hd,run_round,Fits,fz,okRegion,okSpan,Span.empty,e0,f0]
 cases g0:fits h0
 case false=>simp -implicitDefEqProofs [hd,run_round,Fits,fz,okRegion,okSpan,Span.empty,e0,f0,g0]
 by_cases e1:h1<l1
 case pos=>simp -implicitDefEqProofs [hd,run_round,Fits,fz,okRegion,okSpan,Span.empty,e0,f0,g0,e1]
 cases f1:fits l1
 case false=>simp -implicitDefEqProofs [hd,run_round,Fits,fz,okRegion,okSpan,Span.empty,e0,f0,g0,e1,f1]
 cases g1:fits h1
 case false=>simp -implicitDefEqProofs [hd,run_round,Fits,fz,okRegion,okSpan,Span.empty,e0,f0,g0,e1,f1,g1]
 by_cases e2:h2<l2
 case pos=>simp -implicitDefEqProofs [hd,run_round,Fits,fz,okRegion,okSpan,Span.empty,e0,f0,g0,e1,f1,g1,e2]
 cases f2:fits l2
 case false=>simp -implicitDefEqProofs [hd,run_round,Fits,fz,okRegion,okSpan,Span.empty,e0,f0,g0,e1,f1,g1,e2,f2]
 cases g2:fits h2
 case false=>simp -implicitDefEqProofs [hd,run_round,Fits,fz,okRegion,okSpan,Span.empty,e0,f0,g0,e1,f1,g1,e2,f2,g2]
 by_cases e3:h3<l3
 case pos=>simp -implicitDefEqProofs [hd,run_round,Fits,fz,okRegion,okSpan,Span.empty,e0,f0,g0,e1,f1,g1,e2,f2,g2,e3]
 cases f3:fits l3
 case false=>simp -implicitDefEqProofs [hd,run_round,Fits,fz,okRegion,okSpan,Span.empty,e0,f0,g0,e1,f1,g1,e2,f2,g2,e3,f3]
 cases g3:fits h3
 case false=>simp -implicitDefEqProofs [hd,run_round,Fits,fz,okRegion,okSpan,Span.empty,e0,f0,g0,e1,f1,g1,e2,f2,g2,e3,f3,g3]
 by_cases e4:l4=0
 case neg=>simp -implicitDefEqProofs [hd,run_round,Fits,fz,okRegion,okSpan,Span.empty,e0,f0,g0,e1,f1,g1,e2,f2,g2,e3,f3,g3,e4]
 by_cases f4:h4=0
 case neg=>simp -implicitDefEqProofs [hd,run_round,Fits,fz,okRegion,okSpan,Span.empty,e0,f0,g0,e1,f1,g1,e2,f2,g2,e3,f3,g3,e4,f4]
 simp -implicitDefEqProofs [hd,run_round,Fits,fz,okRegion,okSpan,Span.empty,e0,f0,g0,e1,f1,g1,e2,f2,g2,e3,f3,g3,e4,f4]
theorem runs_region (b:Box) (dim:Int) (c:Bool) (h:RegOk b dim=some c):Runs (tbl [(81,sp1 fun (s:Span)=>some s.empty),(70,sp2 Fits)]) a75 [Arg.enc b,Arg.enc dim] (Arg.enc c):=by
 obtain⟨hd,rfl⟩:=part_some h
 have hd:dim=1∨dim=2∨dim=3∨dim=4:=by omega
 rcases hd with hd|hd|hd|hd
 ·exact runs_region1 b dim hd
 ·exact runs_region2 b dim hd
 ·exact runs_region3 b dim hd
 ·exact runs_region4 b dim hd
theorem c_region:Contract Tryz.prog 75 (sp2 RegOk) :=
 contract_of_runs mixed (tbl_cons c_sEmpty (tbl_cons c_Fits tbl_nil)) Tryz.func75 m75 (sp2_runs runs_region)
theorem runs_kind (m:Model) (q:Query) (c:Bool) (h:some (okKind m q)=some c):Runs (tbl []) a76 [Arg.enc m,Arg.enc q] (Arg.enc c):=by
 cases h
 refine⟨rfl,fun g=>run_def ?_⟩
 unfold a76
 by_cases k1:q.kind=1
 case pos =>
  by_cases a0:q.lo≤q.hi
  case neg=>simp -implicitDefEqProofs [okKind,k1,a0]
  by_cases a1:q.feature=0
  case neg=>simp -implicitDefEqProofs [okKind,k1,a0,a1]
  cases q.falls<;>simp -implicitDefEqProofs [okKind,k1,a0,a1]
 by_cases k2:q.kind=2
 case pos =>
  by_cases a0:2≤m.classes
  case neg=>simp -implicitDefEqProofs [okKind,k1,k2,a0]
  by_cases a1:q.lo=0
  case neg=>simp -implicitDefEqProofs [okKind,k1,k2,a0,a1]
  by_cases a2:q.hi=0
  case neg=>simp -implicitDefEqProofs [okKind,k1,k2,a0,a1,a2]
  by_cases a3:q.feature=0
  case neg=>simp -implicitDefEqProofs [okKind,k1,k2,a0,a1,a2,a3]
  cases q.falls<;>simp -implicitDefEqProofs [okKind,k1,k2,a0,a1,a2,a3]
 by_cases k3:q.kind=3
 case pos =>
  by_cases a0:0≤q.feature
  case neg=>simp -implicitDefEqProofs [okKind,k1,k2,k3,a0]
  by_cases a1:q.feature<m.dim
  case neg=>simp -implicitDefEqProofs [okKind,k1,k2,k3,a0,a1]
  by_cases a2:q.lo=0
  case neg=>simp -implicitDefEqProofs [okKind,k1,k2,k3,a0,a1,a2]
  simp -implicitDefEqProofs [okKind,k1,k2,k3,a0,a1,a2]
 simp -implicitDefEqProofs [okKind,k1,k2,k3]
theorem c_kind:Contract Tryz.prog 76 (sp2 fun m q=>some (okKind m q)) :=
 contract_of_runs mixed tbl_nil Tryz.func76 m76 (sp2_runs runs_kind)
noncomputable def QRight (m:Model) (q:Query):Option Bool:=if m.dim<1 then some false else Part (RM m) (okQuery m q)
theorem runs_qRight (m:Model) (q:Query) (c:Bool) (h:QRight m q=some c):Runs (tbl [(38,sp1 MRight),(75,sp2 RegOk),(76,sp2 fun m q=>some (okKind m q))]) a40 [Arg.enc m,Arg.enc q] (Arg.enc c):=by
 unfold QRight at h
 split at h
 ·rename_i hd
  cases h
  refine⟨rfl,fun g=>run_def ?_⟩
  unfold a40
  have hM:MRight m=some false:=by unfold MRight;rw[if_pos hd]
  simp -implicitDefEqProofs [hM]
 ·rename_i hd
  obtain⟨hr,rfl⟩:=part_some h
  refine⟨rfl,fun g=>run_def ?_⟩
  unfold a40
  have hM:MRight m=some true:=by unfold MRight;rw[if_neg hd];exact part_of hr _
  have hR:RegOk q.region m.dim=some (okRegion q.region m.dim):=part_of hr.dim _
  by_cases a0:0≤q.cls
  case neg=>simp -implicitDefEqProofs [okQuery,hM,hR,a0]
  by_cases a1:q.cls<m.classes
  case neg=>simp -implicitDefEqProofs [okQuery,hM,hR,a0,a1]
  by_cases a2:0≤q.budget
  case neg=>simp -implicitDefEqProofs [okQuery,hM,hR,a0,a1,a2]
  by_cases a3:q.budget≤65536
  case neg=>simp -implicitDefEqProofs [okQuery,hM,hR,a0,a1,a2,a3]
  cases a4:okRegion q.region m.dim
  case false=>simp -implicitDefEqProofs [okQuery,hM,hR,a0,a1,a2,a3,a4]
  simp -implicitDefEqProofs [okQuery,hM,hR,a0,a1,a2,a3,a4]
theorem c_qRight:Contract Tryz.prog 40 (sp2 QRight) :=
 contract_of_runs mixed (tbl_cons c_mRight (tbl_cons c_region (tbl_cons c_kind tbl_nil))) Tryz.func40 m40 (sp2_runs runs_qRight)
theorem runs_paired (q:Query) (c:Bool) (h:some (paired q)=some c):Runs (tbl []) a37 [Arg.enc q] (Arg.enc c):=by
 cases h
 refine⟨rfl,fun g=>run_def ?_⟩
 unfold a37
 by_cases k1:q.kind=3
 case neg=>simp -implicitDefEqProofs [paired,k1]
 by_cases k2:0≤q.feature
 case neg=>simp -implicitDefEqProofs [paired,k1,k2]
 simp -implicitDefEqProofs [paired,k1,k2]
theorem c_paired:Contract Tryz.prog 37 (sp1 fun q=>some (paired q)) :=
 contract_of_runs mixed tbl_nil Tryz.func37 m37 (sp1_runs runs_paired)
theorem paired_feature {q:Query} (h:paired q=true):q.feature=0∨q.feature=1∨q.feature=2∨q.feature=3:=by
 unfold paired at h
 simp only[Bool.and_eq_true,decide_eq_true_eq] at h
 omega
theorem runs_Start (q:Query) (c:Box) (h:some (startOf q)=some c):Runs (tbl [(37,sp1 fun q=>some (paired q))]) a15 [Arg.enc q] (Arg.enc c):=by
 cases h
 refine⟨rfl,fun g=>run_def ?_⟩
 unfold a15
 cases hp:paired q
 ·simp -implicitDefEqProofs [startOf,hp]
 ·have hf:=paired_feature hp
  obtain⟨kind,cls,region,lo,hi,feature,falls,budget⟩:=q
  simp only at hf
  rcases hf with rfl|rfl|rfl|rfl<;>simp -implicitDefEqProofs [startOf,hp,Box.get]
theorem c_Start:Contract Tryz.prog 15 (sp1 fun q=>some (startOf q)) :=
 contract_of_runs mixed (tbl_cons c_paired tbl_nil) Tryz.func15 m15 (sp1_runs runs_Start)
theorem runs_Second (q:Query) (p:Point) (t:Int) (c:Point) (h:some (secondOf q p t)=some c):Runs (tbl [(37,sp1 fun q=>some (paired q))]) a42 [Arg.enc q,Arg.enc p,Arg.enc t] (Arg.enc c):=by
 cases h
 refine⟨rfl,fun g=>run_def ?_⟩
 unfold a42
 cases hp:paired q
 ·simp -implicitDefEqProofs [secondOf,hp]
 ·have hf:=paired_feature hp
  obtain⟨kind,cls,region,lo,hi,feature,falls,budget⟩:=q
  simp only at hf
  rcases hf with rfl|rfl|rfl|rfl<;>simp -implicitDefEqProofs [secondOf,hp,Point.set]
theorem c_Second:Contract Tryz.prog 42 (sp3 fun q p t=>some (secondOf q p t)) :=
 contract_of_runs mixed (tbl_cons c_paired tbl_nil) Tryz.func42 m42 (sp3_runs runs_Second)
theorem runs_sHas (s:Span) (n:Int) (c:Bool) (h:some (s.has n)=some c):Runs (tbl []) a41 [Arg.enc s,Arg.enc n] (Arg.enc c):=by
 cases h
 refine⟨rfl,fun g=>run_def ?_⟩
 unfold a41
 by_cases h1:s.lo≤n<;>simp -implicitDefEqProofs [Span.has,h1]
theorem c_sHas:Contract Tryz.prog 41 (sp2 fun (s:Span) n=>some (s.has n)) :=
 contract_of_runs mixed tbl_nil Tryz.func41 m41 (sp2_runs runs_sHas)
end Go.Co
/- CO: boxes of a query, cuts of boxes and their counts. -/
namespace Go.Co
open Go.Am Go.Proofs
def smallB (b:Box):Prop:=small b.s0∧small b.s1∧small b.s2∧small b.s3∧small b.s4
theorem get_spans {b:Box} (h:b.empty=false) (i:Int):(b.get i).lo≤(b.get i).hi:=by
 have:=empty_spec h
 unfold Span.empty at this
 simp only[decide_eq_false_iff_not] at this
 unfold Box.get
 split
 ·omega
 ·split
  ·omega
  ·split
   ·omega
   ·split<;>omega
theorem get_small {b:Box} (h:smallB b) (i:Int):small (b.get i):=by
 obtain⟨h0,h1,h2,h3,h4⟩:=h
 unfold Box.get
 split
 ·exact h0
 ·split
  ·exact h1
  ·split
   ·exact h2
   ·split
    ·exact h3
    ·exact h4
theorem set_empty {b:Box} (h:b.empty=false) (i:Int) (s:Span) (h0:0≤i) (h5:i<5):(b.set i s).empty=s.empty:=by
 obtain⟨e0,e1,e2,e3,e4⟩:=empty_spec h
 have:i=0∨i=1∨i=2∨i=3∨i=4:=by omega
 rcases this with rfl|rfl|rfl|rfl|rfl<;>simp[Box.set,Box.empty,e0,e1,e2,e3,e4]
theorem count_pos {m:Model} (hm:RM m) (q:Query) (b:Box):1≤countM m q b:=by
 have pos:∀ x y:Int,1≤x→1≤y→1≤x*y:=fun x y hx hy=>by
  have:=Int.mul_le_mul hx hy (by omega) (by omega)
  omega
 exact pos _ _ (pos _ _ (pos _ _ (pos _ _ (kN_le hm q b 0).1 (kN_le hm q b 1).1) (kN_le hm q b 2).1) (kN_le hm q b 3).1) (kN_le hm q b 4).1
end Go.Co
/- CO: the cells of a box, by places; points of one cell come to the same. -/
namespace Go.Co
open Go.Am Go.Proofs
theorem cuts_ok {m:Model} (hm:RM m) {q:Query} {b:Box} {i:Int}:∀ t∈cutsL m q b i,ok64 t:=by
 intro t ht
 unfold cutsL at ht
 split at ht
 ·simp at ht
 ·rw[List.mem_filter] at ht
  obtain⟨ht,_⟩:=ht
  obtain⟨tr,htr,w,hw,hl,_,rfl⟩:=mem_thr.1 ht
  have hr:=hm.rt htr
  obtain⟨j,hj,rfl⟩:=List.mem_iff_getElem.1 hw
  have:=ok64_fits (hr.cutOk hj)
  rwa [ndAt_lt hj] at this
theorem walk_same {l:List Word} {dim:Int} (h:RT l dim) {p o:Point} (hs:∀ i,i<l.length→(ndAt l i).leaf=false→(p.get (ndAt l i).feature≤(ndAt l i).cut↔o.get (ndAt l i).feature≤(ndAt l i).cut)):∀(f i:Nat),i<l.length→walk l p f i=walk l o f i
 | 0,_,_=>rfl
 | f+1,i,hi=>by
  unfold walk
  cases hl:(ndAt l i).leaf
  ·simp only[Bool.false_eq_true,if_false]
   have e:nxt (ndAt l i) p=nxt (ndAt l i) o:=by
    unfold nxt
    have:=hs i hi hl
    by_cases h1:p.get (ndAt l i).feature≤(ndAt l i).cut
    ·rw[if_pos h1,if_pos (this.1 h1)]
    ·rw[if_neg h1,if_neg (fun h2=>h1 (this.2 h2))]
   rw[← e]
   exact walk_same h hs f _ (nxt_lt h hi hl p).2
  ·simp only[if_true]
theorem set_get_ite (b:Box) {k i:Int} (s:Span) (h0:0≤k) (h5:k<5) (i0:0≤i) (i5:i<5):(b.set k s).get i=if i=k then s else b.get i:=by
 have h1:k=0∨k=1∨k=2∨k=3∨k=4:=by omega
 have h2:i=0∨i=1∨i=2∨i=3∨i=4:=by omega
 rcases h1 with rfl|rfl|rfl|rfl|rfl<;>rcases h2 with rfl|rfl|rfl|rfl|rfl<;>rfl
def ptG (p:Point) (t:Int) (i:Int):Int:=if i<4 then p.get i else t
theorem inB_pt {b:Box} {p:Point} {t:Int}:InB b p t↔∀ i:Int,0≤i→i<5→InS (b.get i) (ptG p t i):=by
 constructor
 ·rintro⟨h0,h1,h2,h3,h4⟩ i i0 i5
  have h1:i=0∨i=1∨i=2∨i=3∨i=4:=by omega
  rcases h1 with rfl|rfl|rfl|rfl|rfl<;>assumption
 ·intro h
  exact⟨h 0 (by omega) (by omega),h 1 (by omega) (by omega),h 2 (by omega) (by omega),h 3 (by omega) (by omega),h 4 (by omega) (by omega)⟩
theorem empty_get {b:Box}:b.empty=false↔∀ i:Int,0≤i→i<5→(b.get i).lo≤(b.get i).hi:=by
 constructor
 ·intro h i _ _;exact get_spans h i
 ·intro h
  have h0:=h 0 (by omega) (by omega)
  have h1:=h 1 (by omega) (by omega)
  have h2:=h 2 (by omega) (by omega)
  have h3:=h 3 (by omega) (by omega)
  have h4:=h 4 (by omega) (by omega)
  unfold Box.empty Span.empty
  simp only[Bool.or_eq_false_iff,decide_eq_false_iff_not]
  simp only[Box.get,Int.reduceEq,if_true,if_false] at h0 h1 h2 h3 h4
  omega
theorem cuts_in {m:Model} {q:Query} {b:Box} {k:Int}:∀ t∈cutsL m q b k,(b.get k).lo≤t∧t<(b.get k).hi:=by
 intro t ht
 unfold cutsL at ht
 split at ht
 ·simp at ht
 ·rw[List.mem_filter] at ht
  have:=ht.2
  simp only[outS,Bool.not_eq_true',Bool.or_eq_false_iff,decide_eq_false_iff_not] at this
  omega
structure PartTo (m:Model) (q:Query) (b:Box) (j:Nat) (x:Box):Prop where
 done:∀ i:Int,0≤i→i<j→(x.get i).lo≤(x.get i).hi∧(b.get i).lo≤(x.get i).lo∧(x.get i).hi≤(b.get i).hi∧∀ t∈cutsL m q b i,t<(x.get i).lo∨(x.get i).hi≤t
 rest:∀ i:Int,(j:Int)≤i→i<5→x.get i=b.get i
theorem uncut {m:Model} {q:Query} {x:Box} {k:Int} (h:cutsL m q x k=[]) (hf:¬ featOf q k<0) {n o:Int} (hn:InS (x.get k) n) (ho:InS (x.get k) o):∀ t∈thrL m (featOf q k),(n≤t↔o≤t):=by
 intro t ht
 unfold InS at hn ho
 by_cases hc:(x.get k).lo≤t∧t<(x.get k).hi
 ·have:t∈cutsL m q x k:=by
   unfold cutsL
   rw[if_neg hf,List.mem_filter]
   refine⟨ht, ?_⟩
   simp only[outS,Bool.not_eq_true',Bool.or_eq_false_iff,decide_eq_false_iff_not]
   omega
  rw[h] at this
  simp at this
 ·omega
theorem featOf_lt (q:Query) {k:Int} (h0:0≤k) (h4:k<4):featOf q k=k:=by unfold featOf;rw[if_pos ⟨h0,h4⟩]
def lowB (b:Box):Point:=⟨b.s0.lo,b.s1.lo,b.s2.lo,b.s3.lo⟩
theorem low_in {x:Box} (h:x.empty=false):InB x (lowB x) x.s4.hi:=by
 have:=empty_spec h
 unfold Span.empty at this
 simp only[decide_eq_false_iff_not] at this
 unfold InB InS lowB
 simp only
 omega
end Go.Co
/- CO: what of a tree a box needs. -/
set_option maxHeartbeats 16000000
set_option maxRecDepth 100000
namespace Go.Co
open Go.Am Go.Proofs
attribute [-simp] Go.Am.eff_gcall
def c82_37:ACode:=.seq (.ops [⟨some 5,.box (.t 2) 10,none,[]⟩,⟨some 6,.mv (.c (.int .i64 0)),none,[]⟩] [0,1,5]) (.seq (.ops [⟨some 13,.mv (.t 0),none,[]⟩,⟨some 14,.chk (.t 13),none,[0]⟩,⟨some 15,.fad (.t 14) 0,none,[0]⟩,⟨some 16,.load 1 false (.t 15),none,[0]⟩,⟨some 17,.mv (.t 1),none,[]⟩,⟨some 18,.ias (.t 16) (.t 17) 1,none,[1,10001]⟩,⟨some 19,.load 1 false (.t 18),none,[1,10001]⟩,⟨some 20,.call 64 [.t 19],none,[]⟩,⟨some 12,.mv (.t 20),none,[]⟩,⟨some 21,.ext (.t 12) 0,none,[]⟩,⟨some 22,.ext (.t 12) 1,none,[]⟩,⟨some 7,.alloc [.bool false,.int .i64 0,.int .i64 0,.int .i64 0,.int .i64 0,.int .i64 0],none,[]⟩,⟨none,.store (.t 7) 6 (.t 21),none,[7]⟩,⟨some 8,.mv (.t 22),none,[]⟩] [0,1,5,7]) (.seq (.seq (.ops [⟨some 23,.fad (.t 7) 0,none,[7]⟩,⟨some 24,.load 1 false (.t 23),none,[7]⟩] [0,1,5,7,24]) (.cond (.t 24) (.seq (.ops [⟨some 25,.mv (.t 0),none,[]⟩,⟨some 26,.mv (.t 0),none,[]⟩,⟨some 27,.chk (.t 26),none,[0]⟩,⟨some 28,.fad (.t 27) 1,none,[0]⟩,⟨some 29,.load 1 false (.t 28),none,[0]⟩,⟨some 30,.mv (.t 0),none,[]⟩,⟨some 31,.chk (.t 30),none,[0]⟩,⟨some 32,.fad (.t 31) 0,none,[0]⟩,⟨some 33,.load 1 false (.t 32),none,[0]⟩,⟨some 34,.mv (.t 1),none,[]⟩,⟨some 35,.ias (.t 33) (.t 34) 1,none,[1,10001]⟩,⟨some 36,.load 1 false (.t 35),none,[1,10001]⟩,⟨some 37,.mkrow 37 1 1 [.int .u64 0] [(0,1,.t 36)],none,[]⟩,⟨some 38,.app 10001 [1,10001] (.t 29) (.t 37) 1,none,[1,37,10001]⟩,⟨some 39,.chk (.t 25),none,[0]⟩,⟨some 40,.fad (.t 39) 1,none,[0]⟩,⟨none,.store (.t 40) 1 (.t 38),none,[0]⟩] [0]) (.seq (.ops [⟨some 41,.mv (.t 0),none,[]⟩,⟨some 42,.chk (.t 41),none,[0]⟩,⟨some 43,.fad (.t 42) 1,none,[0]⟩,⟨some 44,.load 1 false (.t 43),none,[0]⟩,⟨some 45,.len (.t 44),none,[1,10001]⟩,⟨some 46,.bin .sub (.t 45) (.c (.int .i64 1)),none,[]⟩,⟨some 6,.mv (.t 46),none,[]⟩] [6]) .ret)) .skip)) (.seq (.ops [⟨some 48,.load 10 true (.t 5),none,[5]⟩,⟨some 49,.fad (.t 7) 2,none,[7]⟩,⟨some 50,.load 1 false (.t 49),none,[7]⟩,⟨some 51,.fad (.t 7) 3,none,[7]⟩,⟨some 52,.load 1 false (.t 51),none,[7]⟩,⟨some 53,.call 68 [.t 48,.t 50,.t 52],none,[]⟩,⟨some 47,.mv (.t 53),none,[]⟩,⟨some 54,.ext (.t 47) 0,none,[]⟩,⟨some 55,.ext (.t 47) 1,none,[]⟩,⟨some 9,.alloc [.int .i64 0,.int .i64 0,.int .i64 0,.int .i64 0,.int .i64 0,.int .i64 0,.int .i64 0,.int .i64 0,.int .i64 0,.int .i64 0],none,[]⟩,⟨some 10,.alloc [.int .i64 0,.int .i64 0,.int .i64 0,.int .i64 0,.int .i64 0,.int .i64 0,.int .i64 0,.int .i64 0,.int .i64 0,.int .i64 0],none,[]⟩,⟨none,.store (.t 9) 10 (.t 54),none,[9]⟩,⟨none,.store (.t 10) 10 (.t 55),none,[10]⟩] [0,7,9,10]) (.seq (.block 0 (.seq (.ops [⟨some 57,.load 10 true (.t 9),none,[9]⟩,⟨some 58,.call 52 [.t 57],none,[]⟩,⟨some 56,.mv (.t 58),none,[]⟩] [0,7,9,10,56]) (.cond (.t 56) (.seq (.ops [⟨some 59,.mv (.t 0),none,[]⟩,⟨some 60,.fad (.t 7) 5,none,[7]⟩,⟨some 61,.load 1 false (.t 60),none,[7]⟩,⟨some 62,.load 10 true (.t 10),none,[10]⟩,⟨some 63,.gcall 82 [.t 59,.t 61,.t 62] [0,1] 10001,none,[0,1,10001]⟩,⟨some 6,.mv (.t 63),none,[]⟩] [6]) .ret) (.seq (.ops [⟨some 65,.load 10 true (.t 10),none,[10]⟩,⟨some 66,.call 52 [.t 65],none,[]⟩,⟨some 64,.mv (.t 66),none,[]⟩] [0,7,9,10,64]) (.cond (.t 64) (.seq (.ops [⟨some 67,.mv (.t 0),none,[]⟩,⟨some 68,.fad (.t 7) 4,none,[7]⟩,⟨some 69,.load 1 false (.t 68),none,[7]⟩,⟨some 70,.load 10 true (.t 9),none,[9]⟩,⟨some 71,.gcall 82 [.t 67,.t 69,.t 70] [0,1] 10001,none,[0,1,10001]⟩,⟨some 6,.mv (.t 71),none,[]⟩] [6]) .ret) .skip))))) (.seq (.ops [⟨some 72,.mv (.t 0),none,[]⟩,⟨some 73,.chk (.t 72),none,[0]⟩,⟨some 74,.fad (.t 73) 1,none,[0]⟩,⟨some 75,.load 1 false (.t 74),none,[0]⟩,⟨some 76,.len (.t 75),none,[1,10001]⟩,⟨some 11,.mv (.t 76),none,[]⟩] [0,7,9,10,11]) (.seq (.ops [⟨some 77,.mv (.t 0),none,[]⟩,⟨some 78,.mv (.t 0),none,[]⟩,⟨some 79,.chk (.t 78),none,[0]⟩,⟨some 80,.fad (.t 79) 1,none,[0]⟩,⟨some 81,.load 1 false (.t 80),none,[0]⟩,⟨some 82,.mkrow 82 1 1 [.int .u64 0] [(0,1,.c (.int .u64 0))],none,[]⟩,⟨some 83,.app 10001 [1,10001] (.t 81) (.t 82) 1,none,[1,82,10001]⟩,⟨some 84,.chk (.t 77),none,[0]⟩,⟨some 85,.fad (.t 84) 1,none,[0]⟩,⟨none,.store (.t 85) 1 (.t 83),none,[0]⟩] [0,7,9,10,11]) (.seq (.ops [⟨some 86,.mv (.t 0),none,[]⟩,⟨some 87,.fad (.t 7) 4,none,[7]⟩,⟨some 88,.load 1 false (.t 87),none,[7]⟩,⟨some 89,.load 10 true (.t 9),none,[9]⟩,⟨some 90,.gcall 82 [.t 86,.t 88,.t 89] [0,10001] 10001,none,[0,1,10001]⟩,⟨some 91,.fad (.t 7) 4,none,[7]⟩,⟨none,.store (.t 91) 1 (.t 90),none,[7]⟩] [0,7,10,11]) (.seq (.ops [⟨some 92,.mv (.t 0),none,[]⟩,⟨some 93,.fad (.t 7) 5,none,[7]⟩,⟨some 94,.load 1 false (.t 93),none,[7]⟩,⟨some 95,.load 10 true (.t 10),none,[10]⟩,⟨some 96,.gcall 82 [.t 92,.t 94,.t 95] [0,10001] 10001,none,[0,1,10001]⟩,⟨some 97,.fad (.t 7) 5,none,[7]⟩,⟨none,.store (.t 97) 1 (.t 96),none,[7]⟩] [0,7,11]) (.seq (.ops [⟨some 98,.mv (.t 0),none,[]⟩,⟨some 99,.chk (.t 98),none,[0]⟩,⟨some 100,.fad (.t 99) 1,none,[0]⟩,⟨some 101,.load 1 false (.t 100),none,[0]⟩,⟨some 102,.mv (.t 11),none,[]⟩,⟨some 103,.load 6 true (.t 7),none,[7]⟩,⟨some 104,.call 108 [.t 103],none,[]⟩,⟨some 105,.ias (.t 101) (.t 102) 1,none,[1,10001]⟩,⟨none,.store (.t 105) 1 (.t 104),none,[1,10001]⟩] [11]) (.seq (.ops [⟨some 106,.mv (.t 11),none,[]⟩,⟨some 6,.mv (.t 106),none,[]⟩] [6]) .ret))))))))))
theorem r82_37:type_of% (rr c82_37.eq_1):=rr rfl
def a82:AFun:=⟨3,107,c82_37,[.t 6]⟩
attribute [simp] r82_37
theorem m82:mFun Tryz.prog Tryz.f82 a82=true:=by decide +kernel
def c53_13:ACode:=.seq (.ops [⟨some 3,.box (.t 1) 10,none,[]⟩,⟨some 4,.mv (.c (.nils)),none,[]⟩] [0,3]) (.seq (.seq (.ops [⟨some 6,.mv (.t 0),none,[]⟩,⟨some 7,.call 73 [.t 6,.c (.int .i64 4)],none,[]⟩,⟨some 8,.un .not (.t 7),none,[]⟩,⟨some 9,.mv (.t 8),none,[]⟩,⟨some 10,.load 10 true (.t 3),some (9,false),[3]⟩,⟨some 11,.call 52 [.t 10],some (9,false),[]⟩,⟨some 12,.pick (.t 9) (.c (.bool true)) (.t 11),none,[]⟩] [0,3,12]) (.cond (.t 12) (.seq (.ops [⟨some 4,.mv (.c (.nils)),none,[]⟩] [4]) .ret) .skip)) (.seq (.ops [⟨some 13,.mv (.t 0),none,[]⟩,⟨some 14,.build [.nils,.nils] [(0,1,.t 13)],none,[]⟩,⟨some 15,.box (.t 14) 2,none,[]⟩,⟨some 5,.mv (.t 15),none,[]⟩] [3,5]) (.seq (.ops [⟨some 16,.mv (.t 5),none,[]⟩,⟨some 17,.load 10 true (.t 3),none,[3]⟩,⟨some 18,.gcall 82 [.t 16,.c (.int .i64 0),.t 17] [15,18] 18,none,[15,18]⟩] [5]) (.seq (.ops [⟨some 19,.mv (.t 5),none,[]⟩,⟨some 20,.chk (.t 19),none,[15]⟩,⟨some 21,.fad (.t 20) 1,none,[15]⟩,⟨some 22,.load 1 false (.t 21),none,[15]⟩,⟨some 4,.mv (.t 22),none,[]⟩] [4]) .ret))))
theorem r53_13:type_of% (rr c53_13.eq_1):=rr rfl
def a53:AFun:=⟨2,23,c53_13,[.t 4]⟩
attribute [simp] r53_13
theorem m53:mFun Tryz.prog Tryz.f53 a53=true:=by decide +kernel
def c25_18:ACode:=.seq (.ops [⟨some 22,.bin .lss (.t 21) (.t 20),none,[]⟩] [2,3,4,19,20,21,22]) (.seq (.cond (.t 22) .skip (.exit 0)) (.seq (.block 1 (.seq (.ops [⟨some 23,.ias (.t 19) (.t 21) 2,none,[10205]⟩,⟨some 24,.load 2 true (.t 23),none,[10205]⟩,⟨some 7,.alloc [.int .i64 0,.nils],none,[]⟩,⟨none,.store (.t 7) 2 (.t 24),none,[7]⟩] [2,3,4,7,19,20,21]) (.ops [⟨some 25,.fad (.t 2) 5,none,[2]⟩,⟨some 26,.load 1 false (.t 25),none,[2]⟩,⟨some 27,.fad (.t 7) 0,none,[7]⟩,⟨some 28,.load 1 false (.t 27),none,[7]⟩,⟨some 29,.fad (.t 7) 1,none,[7]⟩,⟨some 30,.load 1 false (.t 29),none,[7]⟩,⟨some 31,.load 10 true (.t 3),none,[3]⟩,⟨some 32,.call 53 [.t 30,.t 31],none,[]⟩,⟨some 33,.build [.int .i64 0,.nils] [(0,1,.t 28),(1,1,.t 32)],none,[]⟩,⟨some 34,.mkrow 34 1 2 [.int .i64 0,.nils] [(0,2,.t 33)],none,[]⟩,⟨some 35,.app 10205 [10205] (.t 26) (.t 34) 2,none,[34,10205]⟩,⟨some 36,.fad (.t 2) 5,none,[2]⟩,⟨none,.store (.t 36) 1 (.t 35),none,[2]⟩] [2,3,4,19,20,21]))) (.ops [⟨some 37,.bin .add (.t 21) (.c (.int .i64 1)),none,[]⟩,⟨some 21,.mv (.t 37),none,[]⟩] [2,3,4,19,20,21])))
theorem r25_18:type_of% (rr c25_18.eq_1):=rr rfl
def c25_29:ACode:=.seq (.ops [⟨some 2,.box (.t 0) 6,none,[]⟩,⟨some 3,.box (.t 1) 10,none,[]⟩,⟨some 4,.alloc [.int .i64 0,.int .i64 0,.int .i64 0,.int .i64 0,.int .i64 0,.nils],none,[]⟩] [2,3,4]) (.seq (.seq (.ops [⟨some 8,.load 6 true (.t 2),none,[2]⟩,⟨some 9,.call 38 [.t 8],none,[10205]⟩,⟨some 10,.un .not (.t 9),none,[]⟩,⟨some 11,.mv (.t 10),none,[]⟩,⟨some 12,.load 10 true (.t 3),some (11,false),[3]⟩,⟨some 13,.call 52 [.t 12],some (11,false),[]⟩,⟨some 14,.pick (.t 11) (.c (.bool true)) (.t 13),none,[]⟩] [2,3,4,14]) (.cond (.t 14) (.seq (.ops [⟨some 15,.build [.int .i64 0,.int .i64 0,.int .i64 0,.int .i64 0,.int .i64 0,.nils] [],none,[]⟩,⟨none,.store (.t 4) 6 (.t 15),none,[4]⟩] [4]) .ret) .skip)) (.seq (.ops [⟨some 16,.fad (.t 2) 5,none,[2]⟩,⟨some 17,.load 1 false (.t 16),none,[2]⟩,⟨some 5,.mv (.t 17),none,[]⟩] [2,3,4,5]) (.seq (.ops [⟨some 18,.fad (.t 2) 5,none,[2]⟩,⟨none,.store (.t 18) 1 (.c (.nils)),none,[2]⟩] [2,3,4,5]) (.seq (.seq (.ops [⟨some 19,.mv (.t 5),none,[]⟩,⟨some 20,.len (.t 19),none,[10205]⟩,⟨some 21,.mv (.c (.int .i64 0)),none,[]⟩] [2,3,4,19,20,21]) (.block 0 (.loop (.keep [2,3,4,19,20,21] [2,3,4,10205] c25_18)))) (.seq (.ops [⟨some 38,.load 6 true (.t 2),none,[2]⟩,⟨none,.store (.t 4) 6 (.t 38),none,[4]⟩] [4]) .ret)))))
theorem r25_29:type_of% (rr c25_29.eq_1):=rr rfl
def a25:AFun:=⟨2,39,c25_29,[.cell 4 6 true]⟩
attribute [simp] r25_18 r25_29
theorem m25:mFun Tryz.prog Tryz.f25 a25=true:=by decide +kernel
def wdAt (l:List Word) (i:Nat):Word:=l.getD i default
theorem wdAt_lt {l:List Word} {i:Nat} (h:i<l.length):wdAt l i=l[i]:=by unfold wdAt;simp[h]
def stayN (old:List Word):Nat→Int→Box→List Word→Option (Int×List Word)
 | 0,_,_,_=>none
 | n+1,at_,b,out =>
  if 0≤at_∧at_<old.length then
   if (ndAt old at_.toNat).leaf then some ((out.length:Int),out++[wdAt old at_.toNat]) else
   if (cutB b (ndAt old at_.toNat).feature (ndAt old at_.toNat).cut).1.empty then stayN old n (ndAt old at_.toNat).right (cutB b (ndAt old at_.toNat).feature (ndAt old at_.toNat).cut).2 out else
   if (cutB b (ndAt old at_.toNat).feature (ndAt old at_.toNat).cut).2.empty then stayN old n (ndAt old at_.toNat).left (cutB b (ndAt old at_.toNat).feature (ndAt old at_.toNat).cut).1 out else
   (stayN old n (ndAt old at_.toNat).left (cutB b (ndAt old at_.toNat).feature (ndAt old at_.toNat).cut).1 (out++[⟨0⟩])).bind fun p =>
   (stayN old n (ndAt old at_.toNat).right (cutB b (ndAt old at_.toNat).feature (ndAt old at_.toNat).cut).2 p.2).bind fun r =>
   some ((out.length:Int),r.2.set out.length (pack { ndAt old at_.toNat with left:=p.1,right:=r.1 }))
  else none
theorem stayN_len {old:List Word}:∀(n:Nat) (at_:Int) (b:Box) (out:List Word) (k:Int) (out':List Word),stayN old n at_ b out=some (k,out')→k=out.length∧out.length<out'.length
 | 0,at_,b,out,k,out',h=>by cases h
 | n+1,at_,b,out,k,out',h=>by
  unfold stayN at h
  split at h
  ·split at h
   ·cases h;simp
   ·split at h
    ·exact stayN_len n _ _ _ _ _ h
    ·split at h
     ·exact stayN_len n _ _ _ _ _ h
     ·rw[Option.bind_eq_some_iff] at h
      obtain⟨⟨k1,o1⟩,h1,h⟩:=h
      rw[Option.bind_eq_some_iff] at h
      obtain⟨⟨k2,o2⟩,h2,h⟩:=h
      have g1:=stayN_len n _ _ _ _ _ h1
      have g2:=stayN_len n _ _ _ _ _ h2
      cases h
      simp at g1 ⊢
      simp only at g2
      omega
  ·cases h
def outOf:AV→Hp→Option (List Word)
 | .nils,[]=>some []
 | .own 1 0 0 n,[(1,⟨cs,false,1⟩)]=>(Arg.dec (.lst n cs):Option (List Word))
 | _,_=>none
open Classical in
noncomputable def stayG (n:Nat):GSp:=fun args h=>match args,h with
 | [.ptr 0 0 0,.int .i64 at_,x],(0,⟨[y,o],false,0⟩)::hx=>(Arg.dec x:Option Box).bind fun b=>(Arg.dec y:Option (List Word)).bind fun old=>(outOf o hx).bind fun out=>(stayN old n at_ b out).bind fun p =>
  if RT old 4∧okB b∧p.2.length≤1099511627776 then some (.int .i64 p.1,[(0,⟨[.lst old.length (encL old),.own 2 0 0 p.2.length],false,0⟩),(2,⟨encL p.2,false,1⟩)]) else none
 | _,_=>none
noncomputable abbrev prT (n:Nat):Cs:=tbl [(64,sp1 Unpack),(68,sp3 CutB),(52,sp1 fun (b:Box)=>some b.empty),(108,sp1 fun n=>some (pack n)),(1000000+82,gspec (stayG n))]
inductive OutV (out:List Word):AV→Hp→Prop
 | nil:out=[]→OutV out .nils []
 | own:OutV out (.own 1 0 0 out.length) [(1,⟨encL out,false,1⟩)]
theorem stayG_of {old:List Word} (hr:RT old 4) {n:Nat} {at_:Int} {b:Box} (hb:okB b) {out:List Word} {k:Int} {out':List Word} (hs:stayN old n at_ b out=some (k,out')) (hl:out'.length≤1099511627776) {o:AV} {hx:Hp} (ho:OutV out o hx) :
  stayG n [.ptr 0 0 0,.int .i64 at_,Arg.enc b] ((0,⟨[.lst old.length (encL old),o],false,0⟩)::hx)=some (.int .i64 k,[(0,⟨[.lst old.length (encL old),.own 2 0 0 out'.length],false,0⟩),(2,⟨encL out',false,1⟩)]):=by
 have h1:(Arg.dec (.lst old.length (encL old)):Option (List Word))=some old:=dec_lst old
 have h2:outOf o hx=some out:=by
  cases ho with
  | nil h=>subst h;rfl
  | own=>exact dec_lst out
 unfold stayG
 simp only[Arg.dec_enc,h1,h2,Option.bind_some,hs]
 rw[if_pos ⟨hr,hb,hl⟩]
theorem run_stay (old:List Word) (hr:RT old 4) (n:Nat) (at_:Int) (b:Box) (hb:okB b) (out:List Word) (k:Int) (out':List Word) (hs:stayN old (n+1) at_ b out=some (k,out')) (hl:out'.length≤1099511627776) (o:AV) (hx:Hp) (ho:OutV out o hx) :
  run (prT n) a82.code [] ⟨argEnv 0 [.ptr 0 0 0,.int .i64 at_,Arg.enc b],(0,⟨[.lst old.length (encL old),o],false,0⟩)::hx,fun _=>0⟩ (gfinN a82.res true (some 10001) (.int .i64 k) [(0,⟨[.lst old.length (encL old),.own 2 0 0 out'.length],false,0⟩),(2,⟨encL out',false,1⟩)]):=by
 have hlen:=stayN_len _ _ _ _ _ _ hs
 unfold a82
 unfold stayN at hs
 split at hs
 case isFalse=>cases hs
 rename_i hat
 obtain⟨i,rfl⟩:∃ i:Nat,at_=i:=⟨at_.toNat,by omega⟩
 have hi:i<old.length:=by omega
 have ei:((i:Nat):Int).toNat=i:=by omega
 rw[ei] at hs
 have hU:=unpack_at hr hi
 rw[wdAt_lt hi] at hs
 have b1:old.length≤maxN:=by have:=hr.le;unfold maxN;omega
 have hp1:(encL old).all AV.plain=true:=encL_plain old
 cases hlf:(ndAt old i).leaf
 case true =>
  rw[hlf] at hs
  simp only[if_true,Option.some.injEq,Prod.mk.injEq] at hs
  obtain⟨rfl,rfl⟩:=hs
  have e1:encL (out++[old[i]])=encL out++[.int .u64 old[i].v]:=by rw[encL_append];rfl
  have c1:out.length≤1099511627775:=by simp at hl;omega
  have c2:out.length≤9223372036854775806:=by omega
  have hl2:(encL out).length=out.length:=by have:(encL out).length=out.length*1:=encL_length out;omega
  have htk:List.take out.length (encL out)=encL out:=by rw[← hl2,List.take_length]
  have w0:IntKind.i64.wrap (out.length:Int)=out.length:=wrap64 (by omega) (by omega)
  rw[e1]
  have hp2:(encL out).all AV.plain=true:=encL_plain out
  cases ho with
  | nil h0 =>
   subst h0
   simp -implicitDefEqProofs [hi,rd_words,hU,hlf,encL_nil]
  | own =>
   have hp3:(encL out++[AV.int .u64 old[i].v]).all AV.plain=true:=by rw[List.all_append,hp2];rfl
   have c3:out.length+1≤maxN:=by unfold maxN;omega
   generalize hX:encL out++[AV.int .u64 old[i].v]=X at *
   simp -implicitDefEqProofs [hi,rd_words,hU,hlf,c1,c2,c3,hl2,htk,w0,hX,mapM1_nrm hp3]
 case false =>
  have hf:=hr.feature hi hlf
  have hct:=ok64_fits (hr.cutOk hi)
  have hok2:=okB_cut hb (ndAt old i).feature hct
  have hCu:=cutB_of hb (ndAt old i).feature hct
  rw[hlf] at hs
  simp only[Bool.false_eq_true,if_false] at hs
  generalize cutB b (ndAt old i).feature (ndAt old i).cut=xy at *
  obtain⟨x,y⟩:=xy
  simp only at hs hok2
  generalize ndAt old i=d at *
  obtain⟨lf,val,ft,ct,lt,rt⟩:=d
  simp only at hlf hs hCu
  subst hlf
  have hpo:(encL out).all AV.plain=true:=encL_plain out
  have hpo':(encL out').all AV.plain=true:=encL_plain out'
  have hmu:∀ gm,mapM1 (up1 gm) (encL out')=some (encL out'):=fun gm=>mapM1_up hpo'
  cases he1:x.empty
  case true =>
   rw[he1,if_pos rfl] at hs
   have hG:=stayG_of hr hok2.2 hs hl ho
   simp only[enc_Box] at hG
   cases ho with
   | nil h0 =>
    subst h0
    simp -implicitDefEqProofs [hi,rd_words,hU,hCu,he1,hG,hmu,mapM1_nrm hpo']
   | own =>
    simp -implicitDefEqProofs [hi,rd_words,hU,hCu,he1,hG,hmu,mapM1_nrm hpo',mapM1_nrm hpo]
  case false =>
   rw[he1] at hs
   simp only[Bool.false_eq_true,if_false] at hs
   cases he2:y.empty
   case true =>
    rw[he2,if_pos rfl] at hs
    have hG:=stayG_of hr hok2.1 hs hl ho
    simp only[enc_Box] at hG
    cases ho with
    | nil h0 =>
     subst h0
     simp -implicitDefEqProofs [hi,rd_words,hU,hCu,he1,he2,hG,hmu,mapM1_nrm hpo']
    | own =>
     simp -implicitDefEqProofs [hi,rd_words,hU,hCu,he1,he2,hG,hmu,mapM1_nrm hpo',mapM1_nrm hpo]
   case false =>
    rw[he2] at hs
    simp only[Bool.false_eq_true,if_false] at hs
    rw[Option.bind_eq_some_iff] at hs
    obtain⟨⟨k1,o1⟩,hs1,hs⟩:=hs
    rw[Option.bind_eq_some_iff] at hs
    obtain⟨⟨k2,o2⟩,hs2,hs⟩:=hs
    simp only[Option.some.injEq,Prod.mk.injEq] at hs hs2
    obtain⟨rfl,rfl⟩:=hs
    have g1:=stayN_len _ _ _ _ _ _ hs1
    have g2:=stayN_len _ _ _ _ _ _ hs2
    rw[List.length_set] at hl
    rw[List.length_append,List.length_singleton] at g1
    have ho1:OutV (out++[⟨0⟩]) (.own 1 0 0 (out++[(⟨0⟩:Word)]).length) [(1,⟨encL (out++[(⟨0⟩:Word)]),false,1⟩)]:=.own
    have hG1:=stayG_of hr hok2.1 hs1 (by omega) ho1
    have hG2:=stayG_of hr hok2.2 hs2 hl .own
    have e1:encL (out++[(⟨0⟩:Word)])=encL out++[.int .u64 0]:=by rw[encL_append];rfl
    rw[e1,List.length_append,List.length_singleton] at hG1
    simp only[enc_Box] at hG1 hG2
    have hp1:(encL out++[AV.int .u64 0]).all AV.plain=true:=by rw[List.all_append,hpo];rfl
    have hq1:(encL o1).all AV.plain=true:=encL_plain o1
    have hq2:(encL o2).all AV.plain=true:=encL_plain o2
    have hm1:∀ gm,mapM1 (up1 gm) (encL o1)=some (encL o1):=fun gm=>mapM1_up hq1
    have hm2:∀ gm,mapM1 (up1 gm) (encL o2)=some (encL o2):=fun gm=>mapM1_up hq2
    have c1:out.length≤1099511627775:=by omega
    have c2:out.length≤maxN:=by unfold maxN;omega
    have c3:out.length<o2.length:=by omega
    have hl2:(encL out).length=out.length:=by have:(encL out).length=out.length*1:=encL_length out;omega
    have hl3:(encL o2).length=o2.length:=by have:(encL o2).length=o2.length*1:=encL_length o2;omega
    have htk:List.take out.length (encL out)=encL out:=by rw[← hl2,List.take_length]
    have hwr:wr (encL o2) out.length [.int .u64 (pack ⟨false,val,ft,ct,k1,k2⟩).v]=encL (o2.set out.length (pack ⟨false,val,ft,ct,k1,k2⟩)):=by
     have:=wr_row o2 out.length c3 (pack ⟨false,val,ft,ct,k1,k2⟩)
     simpa using this
    have hDn:(Arg.dec (.agg [.bool false,.int .i64 val,.int .i64 ft,.int .i64 ct,.int .i64 k1,.int .i64 k2]):Option Node)=some ⟨false,val,ft,ct,k1,k2⟩:=Arg.dec_enc (⟨false,val,ft,ct,k1,k2⟩:Node)
    have hpk:∀ w:Word,(Arg.enc w)=.int .u64 w.v:=fun w=>rfl
    have hq3:(encL (o2.set out.length (pack ⟨false,val,ft,ct,k1,k2⟩))).all AV.plain=true:=encL_plain _
    have c5:out.length+1≤o2.length:=c3
    generalize hX:encL out++[AV.int .u64 0]=X at *
    have c4:X.length=out.length+1:=by rw[← hX];simp[hl2]
    cases ho with
    | nil h0 =>
     subst h0
     have hX':X=[.int .u64 0]:=by rw[← hX];rfl
     rw[hX'] at hG1 hp1
     simp only[List.length_nil,Nat.zero_add] at hG1 hwr hq3 c3 c5
     simp -implicitDefEqProofs [hi,rd_words,hU,hCu,he1,he2,hG1,hG2,hm1,hm2,mapM1_nrm hp1,mapM1_nrm hq1,mapM1_nrm hq2,mapM1_nrm hq3,hDn,hl3,c3,c5,hwr]
    | own =>
     simp -implicitDefEqProofs [hi,rd_words,hU,hCu,he1,he2,hG1,hG2,hm1,hm2,mapM1_nrm hp1,mapM1_nrm hq1,mapM1_nrm hq2,hDn,c1,c2,c3,c5,hl2,hl3,htk,hX,hwr,mapM1_nrm hq3]
theorem outV_of {o:AV} {hx:Hp} {out:List Word} (h:outOf o hx=some out):OutV out o hx:=by
 unfold outOf at h
 split at h
 ·cases h;exact .nil rfl
 ·have:=Arg.enc_dec _ _ h
  have e:Arg.enc out=.lst out.length (encL out):=rfl
  rw[e] at this
  injection this with h1 h2
  subst h1
  subst h2
  exact .own
 ·cases h
theorem c_stay:∀ n,Contract Tryz.prog (gBase+82) (gspec (stayG n))
 | 0=>gcontractN (C:=tbl [(64,sp1 Unpack),(68,sp3 CutB),(52,sp1 fun (b:Box)=>some b.empty),(108,sp1 fun n=>some (pack n))]) mixed (tbl_cons c_Unpack (tbl_cons c_bCut (tbl_cons c_bEmpty (tbl_cons c_Pack tbl_nil)))) Tryz.func82 m82 fun args h r h' hs=>by
   unfold stayG at hs
   split at hs
   ·rw[Option.bind_eq_some_iff] at hs
    obtain⟨b,hb,hs⟩:=hs
    rw[Option.bind_eq_some_iff] at hs
    obtain⟨old,ho,hs⟩:=hs
    rw[Option.bind_eq_some_iff] at hs
    obtain⟨out,hu,hs⟩:=hs
    cases hs
   ·cases hs
 | n+1=>gcontractN (C:=prT n) mixed (tbl_cons c_Unpack (tbl_cons c_bCut (tbl_cons c_bEmpty (tbl_cons c_Pack (tbl_cons (c_stay n) tbl_nil))))) Tryz.func82 m82 fun args h r h' hs=>by
   unfold stayG at hs
   split at hs
   ·rw[Option.bind_eq_some_iff] at hs
    obtain⟨b,hb,hs⟩:=hs
    rw[Option.bind_eq_some_iff] at hs
    obtain⟨old,ho,hs⟩:=hs
    rw[Option.bind_eq_some_iff] at hs
    obtain⟨out,hu,hs⟩:=hs
    rw[Option.bind_eq_some_iff] at hs
    obtain⟨⟨k,out'⟩,hst,hs⟩:=hs
    split at hs
    ·rename_i hc
     simp only[Option.some.injEq,Prod.mk.injEq] at hs
     obtain⟨rfl,rfl⟩:=hs
     obtain rfl:=Arg.enc_dec _ _ hb
     obtain rfl:=Arg.enc_dec _ _ ho
     exact⟨rfl,true,_,run_stay old hc.1 n _ b hc.2.1 out k out' hst hc.2.2 _ _ (outV_of hu)⟩
    ·cases hs
   ·cases hs
theorem stayN_some {old:List Word} {d:Int} (hr:RT old d):∀(n i:Nat) (b:Box) (out:List Word),i<old.length→old.length≤i+n→∃ k out',stayN old n i b out=some (k,out')∧out'.length+1≤out.length+2^n
 | 0,i,b,out,hi,hn=>by omega
 | n+1,i,b,out,hi,hn=>by
  unfold stayN
  have ei:((i:Nat):Int).toNat=i:=by omega
  rw[if_pos ⟨by omega,by omega⟩,ei]
  have hp:1≤2^n:=Nat.one_le_two_pow
  have hp2:2^(n+1)=2^n+2^n:=by rw[Nat.pow_succ];omega
  cases hl:(ndAt old i).leaf
  case true=>exact⟨_,_,rfl,by simp;omega⟩
  case false =>
   simp only[Bool.false_eq_true,if_false]
   have hin:=hr.inner i hi (by rw[← ndAt_lt hi];exact hl)
   rw[← ndAt_lt hi] at hin
   obtain⟨_,_,l1,l2,r1,r2⟩:=hin
   obtain⟨lt,hlt⟩:∃ lt:Nat,(ndAt old i).left=lt:=⟨(ndAt old i).left.toNat,by omega⟩
   obtain⟨rt,hrt⟩:∃ rt:Nat,(ndAt old i).right=rt:=⟨(ndAt old i).right.toNat,by omega⟩
   rw[hlt] at l1 l2 ⊢
   rw[hrt] at r1 r2 ⊢
   split
   ·obtain⟨k,o,h1,h2⟩:=stayN_some hr n rt (cutB b (ndAt old i).feature (ndAt old i).cut).2 out (by omega) (by omega)
    exact⟨k,o,h1,by omega⟩
   ·split
    ·obtain⟨k,o,h1,h2⟩:=stayN_some hr n lt (cutB b (ndAt old i).feature (ndAt old i).cut).1 out (by omega) (by omega)
     exact⟨k,o,h1,by omega⟩
    ·obtain⟨k,o,h1,h2⟩:=stayN_some hr n lt (cutB b (ndAt old i).feature (ndAt old i).cut).1 (out++[⟨0⟩]) (by omega) (by omega)
     obtain⟨k',o',h3,h4⟩:=stayN_some hr n rt (cutB b (ndAt old i).feature (ndAt old i).cut).2 o (by omega) (by omega)
     rw[h1]
     simp only[Option.bind_some]
     rw[h3]
     simp only[Option.bind_some]
     have hg:=stayN_len _ _ _ _ _ _ h1
     refine⟨_,_,rfl, ?_⟩
     rw[List.length_set]
     simp at h2 hg
     omega
def pruneT (l:List Word) (b:Box):List Word:=match stayN l 31 0 b [] with
 | some p=>p.2
 | none=>[]
noncomputable def PruneC (l:List Word) (b:Box):Option (List Word):=Part ((okL l∧l.length≤maxN)∧(RT l 4→okB b)) (if rightT l 4 && !b.empty then pruneT l b else [])
theorem runs_prTree (l:List Word) (b:Box) (r:List Word) (h:PruneC l b=some r):Runs (tbl [(73,sp2 TreeRightT),(52,sp1 fun (b:Box)=>some b.empty),(1000000+82,gspec (stayG 31))]) a53 [Arg.enc l,Arg.enc b] (Arg.enc r):=by
 obtain⟨⟨hw,hb⟩,rfl⟩:=part_some h
 clear h
 refine⟨rfl,fun g=>run_def ?_⟩
 unfold a53
 have hT:TreeRightT l 4=some (rightT l 4):=part_of hw _
 cases ht:rightT l 4
 case false =>
  rw[ht] at hT
  simp -implicitDefEqProofs [hT,encL_nil]
 case true =>
  rw[ht] at hT
  have hr:=rightT_true.1 ht
  cases he:b.empty
  case true=>simp -implicitDefEqProofs [hT,he,encL_nil]
  case false =>
   obtain⟨k,out,h1,h2⟩:=stayN_some hr 31 0 b [] hr.pos (by have:=hr.le;omega)
   have h1:stayN l 31 0 b []=some (k,out):=h1
   have hG:=stayG_of hr (hb hr) h1 (by simp at h2;omega) (.nil rfl)
   have hp:pruneT l b=out:=by unfold pruneT;rw[h1]
   have hpo:(encL out).all AV.plain=true:=encL_plain out
   have hm:∀ gm,mapM1 (up1 gm) (encL out)=some (encL out):=fun gm=>mapM1_up hpo
   have hl2:(encL out).length=out.length:=by have:(encL out).length=out.length*1:=encL_length out;omega
   have htk:List.take out.length (encL out)=encL out:=by rw[← hl2,List.take_length]
   simp only[enc_Box] at hG
   simp -implicitDefEqProofs [hT,he,hG,hp,hm,hl2,htk]
theorem c_prTree:Contract Tryz.prog 53 (sp2 PruneC) :=
 contract_of_runs mixed (tbl_cons c_tRightT (tbl_cons c_bEmpty (tbl_cons (c_stay 31) tbl_nil))) Tryz.func53 m53 (sp2_runs runs_prTree)
end Go.Co
/- CO: what of a model a box needs. -/
set_option maxHeartbeats 16000000
set_option maxRecDepth 100000
namespace Go.Co
open Go.Am Go.Proofs
attribute [-simp] Go.Am.eff_gcall
def prF (b:Box) (t:Tree):Tree:=⟨t.cls,pruneT t.nodes b⟩
def pruneM (m:Model) (b:Box):Model:={ m with trees:=m.trees.map (prF b) }
noncomputable def PrModelC (m:Model) (b:Box):Option Model:=Part (RM m∧okB b) (if b.empty then ⟨0,0,⟨0,0,0⟩,[]⟩ else pruneM m b)
theorem map_take {α β:Type} (f:α→β) (l:List α) (i:Nat) (h:i<l.length):(l.take (i+1)).map f=(l.take i).map f++[f l[i]]:=by
 rw[List.take_succ_eq_append_getElem h,List.map_append]
 rfl
theorem okL_of {l:List Word} {d:Int} (h:RT l d):okL l∧l.length≤maxN:=by
 refine⟨fun w hw=>?_,by have:=h.le;unfold maxN;omega⟩
 obtain⟨i,hi,rfl⟩:=List.getElem_of_mem hw
 exact (h.ok i hi).1
theorem runs_prModel (m:Model) (b:Box) (r:Model) (h:PrModelC m b=some r):Runs (tbl [(38,sp1 MRight),(52,sp1 fun (b:Box)=>some b.empty),(53,sp2 PruneC)]) a25 [Arg.enc m,Arg.enc b] (Arg.enc r):=by
 obtain⟨⟨hm,hb⟩,rfl⟩:=part_some h
 clear h
 refine⟨rfl,fun g=>run_def ?_⟩
 unfold a25
 have hR:MRight m=some true:=by unfold MRight;rw[if_neg (by have:=hm.dim;omega)];exact part_of hm _
 cases he:b.empty
 case true=>simp -implicitDefEqProofs [hR,he,encL_nil]
 case false =>
  have hle:=hm.trees
  have b3:m.trees.length≤maxN:=by unfold maxN;omega
  have hP:∀(i:Nat) (h:i<m.trees.length),PruneC m.trees[i].nodes b=some (pruneT m.trees[i].nodes b):=fun i h=>by
   have hr:=hm.rt (List.getElem_mem h)
   have h4:=hr.four
   unfold PruneC
   rw[part_of ⟨okL_of hr,fun _=>hb⟩,rightT_true.2 h4,he]
   rfl
  have hpm:Arg.enc (pruneM m b)=.agg [.int .i64 m.dim,.int .i64 m.classes,.int .i64 m.bias.b0,.int .i64 m.bias.b1,.int .i64 m.bias.b2,.lst (m.trees.map (prF b)).length (encL (m.trees.map (prF b)))]:=rfl
  simp only[Bool.false_eq_true,if_false,hpm]
  simp -implicitDefEqProofs [hR,he,b3]
  refine run_while (c:=c25_18) (fun n s=>∃(i:Nat) (V:AV) (hx:Hp) (g:Nat→Nat),i+n=m.trees.length∧((i=0∧V=.nils∧hx=[])∨(i≠0∧V=.own 10205 (g 10205) 0 i∧hx=[(10205,⟨encL ((m.trees.map (prF b)).take i),false,2⟩)])) ∧
   s=⟨[(2,.ptr 2 (g 2) 0),(3,.ptr 3 (g 3) 0),(4,.ptr 4 (g 4) 0),(19,.lst m.trees.length (encL m.trees)),(20,.int .i64 m.trees.length),(21,.int .i64 i)],(2,⟨[.int .i64 m.dim,.int .i64 m.classes,.int .i64 m.bias.b0,.int .i64 m.bias.b1,.int .i64 m.bias.b2,V],false,0⟩)::(3,⟨Row.enc b,false,0⟩)::(4,⟨[.int .i64 0,.int .i64 0,.int .i64 0,.int .i64 0,.int .i64 0,.nils],false,0⟩)::hx,g⟩) m.trees.length ⟨0,.nils,[],bump 4 (bump 3 (bump 2 g)),by omega,.inl ⟨rfl,rfl,rfl⟩,by simp⟩ ?_
  rintro n s ⟨i,V,hx,g,hi,hV,rfl⟩
  have hL:((m.trees.map (prF b)).take i).length=i:=by simp;omega
  have c5:i*2≤(encL ((m.trees.map (prF b)).take i)).length:=by rw[encL_length,hL];exact Nat.le_refl _
  have htk:List.take (i*2) (encL ((m.trees.map (prF b)).take i))=encL ((m.trees.map (prF b)).take i):=take_rows _ _ (by rw[hL];exact Nat.le_refl _)
  by_cases h1:i<m.trees.length
  case pos =>
   have w1:IntKind.i64.wrap ((i:Int)+1)=(i:Int)+1:=wrap64 (by omega) (by omega)
   have hrow:=rd_tree m.trees i h1
   have hPi:=hP i h1
   have c3:i≤1099511627775:=by omega
   have hE:encL ((m.trees.map (prF b)).take (i+1))=encL ((m.trees.map (prF b)).take i)++[.int .i64 m.trees[i].cls,.lst (pruneT m.trees[i].nodes b).length (encL (pruneT m.trees[i].nodes b))]:=by
    rw[List.take_succ_eq_append_getElem (show i<(m.trees.map (prF b)).length by simpa using h1),encL_append,List.getElem_map]
    rfl
   rcases hV with⟨rfl,rfl,rfl⟩|⟨hi0,rfl,rfl⟩
   ·simp -implicitDefEqProofs [h1,hrow,hPi,w1]
    refine⟨n-1,by omega,1,by omega,_,_,_,.inr ⟨by omega, ?_, ?_⟩,⟨?_, ?_, ?_,by omega⟩,⟨rfl,rfl⟩,rfl⟩
    ·simp
    ·rw[hE];rfl
    all_goals simp
   ·simp -implicitDefEqProofs [h1,hrow,hPi,w1,c3,c5,htk]
    refine⟨n-1,by omega,i+1,by omega,_,_,_,.inr ⟨by omega, ?_, ?_⟩,⟨?_, ?_, ?_,by omega⟩,⟨rfl,rfl⟩,rfl⟩
    ·simp
    ·rw[hE]
    all_goals simp
  case neg =>
   have hil:i=m.trees.length:=by omega
   have hT:(m.trees.map (prF b)).take i=m.trees.map (prF b):=List.take_of_length_le (by simp;omega)
   rw[hT] at c5 htk hV
   have hLm:(m.trees.map (prF b)).length=i:=by simp;omega
   rcases hV with⟨rfl,rfl,rfl⟩|⟨hi0,rfl,rfl⟩
   ·have h0:m.trees=[]:=List.length_eq_zero_iff.1 (by omega)
    simp -implicitDefEqProofs [h1,h0,encL_nil]
   ·simp -implicitDefEqProofs [h1,c5,htk,hLm]
    exact hil
theorem c_prModel:Contract Tryz.prog 25 (sp2 PrModelC) :=
 contract_of_runs mixed (tbl_cons c_mRight (tbl_cons c_bEmpty (tbl_cons c_prTree tbl_nil))) Tryz.func25 m25 (sp2_runs runs_prModel)
end Go.Co
