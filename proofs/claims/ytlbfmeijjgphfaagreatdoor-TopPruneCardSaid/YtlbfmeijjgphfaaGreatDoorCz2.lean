/- CO: texts of this claim, one behind the other. -/
import Derived.Test.YtlbfmeijjgphfaaGreatDoorCz1
set_option linter.unusedVariables false
set_option linter.unusedSimpArgs false
/- CO: numbers of 32 bits. -/
namespace Go.Co
open Go.Am Go.Proofs
def c116_17:ACode:=.seq (.ops [⟨some 4,.mv (.c (.bool false)),none,[]⟩] [0,1]) (.seq (.seq (.ops [⟨some 6,.mv (.t 1),none,[]⟩,⟨some 7,.bin .lss (.t 6) (.c (.int .i64 1)),none,[]⟩,⟨some 8,.mv (.t 7),none,[]⟩,⟨some 9,.mv (.t 1),some (8,false),[]⟩,⟨some 10,.bin .gtr (.t 9) (.c (.int .i64 64)),some (8,false),[]⟩,⟨some 11,.pick (.t 8) (.c (.bool true)) (.t 10),none,[]⟩] [0,1,11]) (.cond (.t 11) (.seq (.ops [⟨some 4,.mv (.c (.bool false)),none,[]⟩] [4]) .ret) .skip)) (.seq (.seq (.ops [⟨some 12,.mv (.t 1),none,[]⟩,⟨some 13,.bin .eql (.t 12) (.c (.int .i64 64)),none,[]⟩] [0,1,13]) (.cond (.t 13) (.seq (.ops [⟨some 4,.mv (.c (.bool true)),none,[]⟩] [4]) .ret) .skip)) (.seq (.ops [⟨some 14,.mv (.t 1),none,[]⟩,⟨some 15,.bin .sub (.t 14) (.c (.int .i64 1)),none,[]⟩,⟨some 16,.bin .shl (.c (.int .i64 1)) (.t 15),none,[]⟩,⟨some 5,.mv (.t 16),none,[]⟩] [0,5]) (.seq (.ops [⟨some 17,.mv (.t 0),none,[]⟩,⟨some 18,.mv (.t 5),none,[]⟩,⟨some 19,.un .neg (.t 18),none,[]⟩,⟨some 20,.bin .geq (.t 17) (.t 19),none,[]⟩,⟨some 21,.mv (.t 20),none,[]⟩,⟨some 22,.mv (.t 0),some (21,true),[]⟩,⟨some 23,.mv (.t 5),some (21,true),[]⟩,⟨some 24,.bin .sub (.t 23) (.c (.int .i64 1)),some (21,true),[]⟩,⟨some 25,.bin .leq (.t 22) (.t 24),some (21,true),[]⟩,⟨some 26,.pick (.t 21) (.t 25) (.c (.bool false)),none,[]⟩,⟨some 4,.mv (.t 26),none,[]⟩] [4]) .ret))))
theorem r116_17:type_of% (rr c116_17.eq_1):=rr rfl
def a116:AFun:=⟨2,27,c116_17,[.t 4]⟩
attribute [simp] r116_17
theorem m116:mFun Tryz.prog Tryz.f116 a116=true:=by decide +kernel
def c70_9:ACode:=.seq (.ops [⟨some 4,.mv (.c (.bool false)),none,[]⟩] [0,1]) (.seq (.seq (.ops [⟨some 5,.mv (.t 1),none,[]⟩,⟨some 6,.bin .lss (.t 5) (.c (.int .i64 1)),none,[]⟩,⟨some 7,.mv (.t 6),none,[]⟩,⟨some 8,.mv (.t 1),some (7,false),[]⟩,⟨some 9,.bin .gtr (.t 8) (.c (.int .i64 64)),some (7,false),[]⟩,⟨some 10,.pick (.t 7) (.c (.bool true)) (.t 9),none,[]⟩] [0,1,10]) (.cond (.t 10) (.seq (.ops [⟨some 4,.mv (.c (.bool false)),none,[]⟩] [4]) .ret) .skip)) (.seq (.ops [⟨some 11,.mv (.t 0),none,[]⟩,⟨some 12,.mv (.t 1),none,[]⟩,⟨some 13,.bin .sub (.t 12) (.c (.int .i64 1)),none,[]⟩,⟨some 14,.conv .u64 (.t 13),none,[]⟩,⟨some 15,.bin .shr (.t 11) (.t 14),none,[]⟩,⟨some 16,.bin .eql (.t 15) (.c (.int .i64 0)),none,[]⟩,⟨some 17,.mv (.t 16),none,[]⟩,⟨some 18,.mv (.t 0),some (17,false),[]⟩,⟨some 19,.mv (.t 1),some (17,false),[]⟩,⟨some 20,.bin .sub (.t 19) (.c (.int .i64 1)),some (17,false),[]⟩,⟨some 21,.conv .u64 (.t 20),some (17,false),[]⟩,⟨some 22,.bin .shr (.t 18) (.t 21),some (17,false),[]⟩,⟨some 23,.bin .eql (.t 22) (.c (.int .i64 (-1))),some (17,false),[]⟩,⟨some 24,.pick (.t 17) (.c (.bool true)) (.t 23),none,[]⟩,⟨some 4,.mv (.t 24),none,[]⟩] [4]) .ret))
theorem r70_9:type_of% (rr c70_9.eq_1):=rr rfl
def a70:AFun:=⟨2,25,c70_9,[.t 4]⟩
attribute [simp] r70_9
theorem m70:mFun Tryz.prog Tryz.f70 a70=true:=by decide +kernel
def c144_11:ACode:=.seq (.ops [⟨some 4,.mv (.c (.int .i64 0)),none,[]⟩] [0,1]) (.seq (.seq (.ops [⟨some 6,.mv (.t 1),none,[]⟩,⟨some 7,.bin .lss (.t 6) (.c (.int .i64 1)),none,[]⟩,⟨some 8,.mv (.t 7),none,[]⟩,⟨some 9,.mv (.t 1),some (8,false),[]⟩,⟨some 10,.bin .geq (.t 9) (.c (.int .i64 64)),some (8,false),[]⟩,⟨some 11,.pick (.t 8) (.c (.bool true)) (.t 10),none,[]⟩] [0,1,11]) (.cond (.t 11) (.seq (.ops [⟨some 12,.mv (.t 0),none,[]⟩,⟨some 4,.mv (.t 12),none,[]⟩] [4]) .ret) .skip)) (.seq (.ops [⟨some 13,.mv (.t 1),none,[]⟩,⟨some 14,.bin .sub (.c (.int .i64 64)) (.t 13),none,[]⟩,⟨some 15,.conv .u64 (.t 14),none,[]⟩,⟨some 5,.mv (.t 15),none,[]⟩] [0,5]) (.seq (.ops [⟨some 16,.mv (.t 0),none,[]⟩,⟨some 17,.mv (.t 5),none,[]⟩,⟨some 18,.bin .shl (.t 16) (.t 17),none,[]⟩,⟨some 19,.mv (.t 5),none,[]⟩,⟨some 20,.bin .shr (.t 18) (.t 19),none,[]⟩,⟨some 4,.mv (.t 20),none,[]⟩] [4]) .ret)))
theorem r144_11:type_of% (rr c144_11.eq_1):=rr rfl
def a144:AFun:=⟨2,21,c144_11,[.t 4]⟩
attribute [simp] r144_11
theorem m144:mFun Tryz.prog Tryz.f144 a144=true:=by decide +kernel
def Fits (n w:Int):Option Bool:=if w=32 then some (fits n) else none
theorem runs_rFits (n w:Int) (c:Bool) (h:Fits n w=some c):Runs (tbl []) a116 [Arg.enc n,Arg.enc w] (Arg.enc c):=by
 unfold Fits at h
 split at h
 ·rename_i hw
  subst hw
  cases h
  refine⟨rfl,fun g=>run_def ?_⟩
  unfold a116
  by_cases h1:-2147483648≤n<;>simp[fits,IntKind.wrap,IntKind.bits,IntKind.signed,ishl,ishr,h1]
 ·cases h
theorem runs_Fits (n w:Int) (c:Bool) (h:Fits n w=some c):Runs (tbl []) a70 [Arg.enc n,Arg.enc w] (Arg.enc c):=by
 unfold Fits at h
 split at h
 ·rename_i hw
  subst hw
  cases h
  refine⟨rfl,fun g=>run_def ?_⟩
  have e:fits n=(decide (n.fdiv 2147483648=0)||decide (n.fdiv 2147483648=-1)):=by
   unfold fits
   have:=Int.fdiv_eq_ediv_of_nonneg n (show (0:Int)≤2147483648 by omega)
   rw[this]
   by_cases h1:n/2147483648=0
   ·simp[h1];omega
   ·by_cases h2:n/2147483648=-1
    ·simp[h2];omega
    ·simp[h1,h2];omega
  unfold a70
  rw[e]
  by_cases h1:n.fdiv 2147483648=0<;>simp[IntKind.wrap,IntKind.bits,IntKind.signed,ishl,ishr,h1]
 ·cases h
def Wrap (n w:Int):Option Int:=if w=32∧-9223372036854775808≤n∧n≤9223372036854775807 then some (wrap32 n) else none
theorem runs_Wrap (n w c:Int) (h:Wrap n w=some c):Runs (tbl []) a144 [Arg.enc n,Arg.enc w] (Arg.enc c):=by
 unfold Wrap at h
 split at h
 ·rename_i hw
  obtain⟨rfl,h1,h2⟩:=hw
  cases h
  refine⟨rfl,fun g=>run_def ?_⟩
  unfold a144
  simp[wrap32,IntKind.wrap,IntKind.bits,IntKind.signed,ishl,ishr]
  rw[Int.fdiv_eq_ediv_of_nonneg _ (by omega)]
  split<;>omega
 ·cases h
theorem c_rFits:Contract Tryz.prog 116 (sp2 Fits):=contract_of_runs mixed tbl_nil Tryz.func116 m116 (sp2_runs runs_rFits)
theorem c_Fits:Contract Tryz.prog 70 (sp2 Fits):=contract_of_runs mixed tbl_nil Tryz.func70 m70 (sp2_runs runs_Fits)
theorem c_Wrap:Contract Tryz.prog 144 (sp2 Wrap):=contract_of_runs mixed tbl_nil Tryz.func144 m144 (sp2_runs runs_Wrap)
def c77_9:ACode:=.seq (.ops [⟨some 1,.box (.t 0) 6,none,[]⟩,⟨some 2,.mv (.c (.bool false)),none,[]⟩] [1]) (.seq (.seq (.ops [⟨some 3,.fad (.t 1) 0,none,[1]⟩,⟨some 4,.load 1 false (.t 3),none,[1]⟩] [1,4]) (.cond (.t 4) (.seq (.ops [⟨some 5,.fad (.t 1) 1,none,[1]⟩,⟨some 6,.load 1 false (.t 5),none,[1]⟩,⟨some 7,.call 116 [.t 6,.c (.int .i64 32)],none,[]⟩,⟨some 8,.mv (.t 7),none,[]⟩,⟨some 9,.fad (.t 1) 2,some (8,true),[1]⟩,⟨some 10,.load 1 false (.t 9),some (8,true),[1]⟩,⟨some 11,.bin .eql (.t 10) (.c (.int .i64 0)),some (8,true),[]⟩,⟨some 12,.pick (.t 8) (.t 11) (.c (.bool false)),none,[]⟩,⟨some 13,.mv (.t 12),none,[]⟩,⟨some 14,.fad (.t 1) 3,some (13,true),[1]⟩,⟨some 15,.load 1 false (.t 14),some (13,true),[1]⟩,⟨some 16,.bin .eql (.t 15) (.c (.int .i64 0)),some (13,true),[]⟩,⟨some 17,.pick (.t 13) (.t 16) (.c (.bool false)),none,[]⟩,⟨some 18,.mv (.t 17),none,[]⟩,⟨some 19,.fad (.t 1) 4,some (18,true),[1]⟩,⟨some 20,.load 1 false (.t 19),some (18,true),[1]⟩,⟨some 21,.bin .eql (.t 20) (.c (.int .i64 0)),some (18,true),[]⟩,⟨some 22,.pick (.t 18) (.t 21) (.c (.bool false)),none,[]⟩,⟨some 23,.mv (.t 22),none,[]⟩,⟨some 24,.fad (.t 1) 5,some (23,true),[1]⟩,⟨some 25,.load 1 false (.t 24),some (23,true),[1]⟩,⟨some 26,.bin .eql (.t 25) (.c (.int .i64 0)),some (23,true),[]⟩,⟨some 27,.pick (.t 23) (.t 26) (.c (.bool false)),none,[]⟩,⟨some 2,.mv (.t 27),none,[]⟩] [2]) .ret) .skip)) (.seq (.ops [⟨some 28,.fad (.t 1) 1,none,[1]⟩,⟨some 29,.load 1 false (.t 28),none,[1]⟩,⟨some 30,.bin .eql (.t 29) (.c (.int .i64 0)),none,[]⟩,⟨some 31,.mv (.t 30),none,[]⟩,⟨some 32,.fad (.t 1) 2,some (31,true),[1]⟩,⟨some 33,.load 1 false (.t 32),some (31,true),[1]⟩,⟨some 34,.bin .geq (.t 33) (.c (.int .i64 0)),some (31,true),[]⟩,⟨some 35,.pick (.t 31) (.t 34) (.c (.bool false)),none,[]⟩,⟨some 36,.mv (.t 35),none,[]⟩,⟨some 37,.fad (.t 1) 2,some (36,true),[1]⟩,⟨some 38,.load 1 false (.t 37),some (36,true),[1]⟩,⟨some 39,.bin .lss (.t 38) (.c (.int .i64 4)),some (36,true),[]⟩,⟨some 40,.pick (.t 36) (.t 39) (.c (.bool false)),none,[]⟩,⟨some 41,.mv (.t 40),none,[]⟩,⟨some 42,.fad (.t 1) 3,some (41,true),[1]⟩,⟨some 43,.load 1 false (.t 42),some (41,true),[1]⟩,⟨some 44,.call 116 [.t 43,.c (.int .i64 32)],some (41,true),[]⟩,⟨some 45,.pick (.t 41) (.t 44) (.c (.bool false)),none,[]⟩,⟨some 46,.mv (.t 45),none,[]⟩,⟨some 47,.fad (.t 1) 4,some (46,true),[1]⟩,⟨some 48,.load 1 false (.t 47),some (46,true),[1]⟩,⟨some 49,.bin .geq (.t 48) (.c (.int .i64 1)),some (46,true),[]⟩,⟨some 50,.pick (.t 46) (.t 49) (.c (.bool false)),none,[]⟩,⟨some 51,.mv (.t 50),none,[]⟩,⟨some 52,.fad (.t 1) 4,some (51,true),[1]⟩,⟨some 53,.load 1 false (.t 52),some (51,true),[1]⟩,⟨some 54,.bin .lss (.t 53) (.c (.int .i64 31)),some (51,true),[]⟩,⟨some 55,.pick (.t 51) (.t 54) (.c (.bool false)),none,[]⟩,⟨some 56,.mv (.t 55),none,[]⟩,⟨some 57,.fad (.t 1) 5,some (56,true),[1]⟩,⟨some 58,.load 1 false (.t 57),some (56,true),[1]⟩,⟨some 59,.bin .geq (.t 58) (.c (.int .i64 1)),some (56,true),[]⟩,⟨some 60,.pick (.t 56) (.t 59) (.c (.bool false)),none,[]⟩,⟨some 61,.mv (.t 60),none,[]⟩,⟨some 62,.fad (.t 1) 5,some (61,true),[1]⟩,⟨some 63,.load 1 false (.t 62),some (61,true),[1]⟩,⟨some 64,.bin .lss (.t 63) (.c (.int .i64 31)),some (61,true),[]⟩,⟨some 65,.pick (.t 61) (.t 64) (.c (.bool false)),none,[]⟩,⟨some 2,.mv (.t 65),none,[]⟩] [2]) .ret))
theorem r77_9:type_of% (rr c77_9.eq_1):=rr rfl
def a77:AFun:=⟨1,66,c77_9,[.t 2]⟩
attribute [simp] r77_9
theorem m77:mFun Tryz.prog Tryz.f77 a77=true:=by decide +kernel
def c43_15:ACode:=.seq (.ops [⟨some 1,.box (.t 0) 6,none,[]⟩,⟨some 2,.mv (.c (.int .u64 0)),none,[]⟩] [1]) (.seq (.seq (.ops [⟨some 3,.load 6 true (.t 1),none,[1]⟩,⟨some 4,.call 77 [.t 3],none,[]⟩,⟨some 5,.un .not (.t 4),none,[]⟩] [1,5]) (.cond (.t 5) (.seq (.ops [⟨some 2,.mv (.c (.int .u64 0)),none,[]⟩] [2]) .ret) .skip)) (.seq (.seq (.ops [⟨some 6,.fad (.t 1) 0,none,[1]⟩,⟨some 7,.load 1 false (.t 6),none,[1]⟩] [1,7]) (.cond (.t 7) (.seq (.ops [⟨some 8,.fad (.t 1) 1,none,[1]⟩,⟨some 9,.load 1 false (.t 8),none,[1]⟩,⟨some 10,.conv .u64 (.t 9),none,[]⟩,⟨some 11,.bin .and (.t 10) (.c (.int .u64 4294967295)),none,[]⟩,⟨some 12,.bin .or (.c (.int .u64 9223372036854775808)) (.t 11),none,[]⟩,⟨some 2,.mv (.t 12),none,[]⟩] [2]) .ret) .skip)) (.seq (.ops [⟨some 13,.fad (.t 1) 3,none,[1]⟩,⟨some 14,.load 1 false (.t 13),none,[1]⟩,⟨some 15,.conv .u64 (.t 14),none,[]⟩,⟨some 16,.bin .and (.t 15) (.c (.int .u64 4294967295)),none,[]⟩,⟨some 17,.fad (.t 1) 2,none,[1]⟩,⟨some 18,.load 1 false (.t 17),none,[1]⟩,⟨some 19,.conv .u64 (.t 18),none,[]⟩,⟨some 20,.bin .shl (.t 19) (.c (.int .u64 32)),none,[]⟩,⟨some 21,.bin .or (.t 16) (.t 20),none,[]⟩,⟨some 22,.fad (.t 1) 4,none,[1]⟩,⟨some 23,.load 1 false (.t 22),none,[1]⟩,⟨some 24,.conv .u64 (.t 23),none,[]⟩,⟨some 25,.bin .shl (.t 24) (.c (.int .u64 40)),none,[]⟩,⟨some 26,.bin .or (.t 21) (.t 25),none,[]⟩,⟨some 27,.fad (.t 1) 5,none,[1]⟩,⟨some 28,.load 1 false (.t 27),none,[1]⟩,⟨some 29,.conv .u64 (.t 28),none,[]⟩,⟨some 30,.bin .shl (.t 29) (.c (.int .u64 48)),none,[]⟩,⟨some 31,.bin .or (.t 26) (.t 30),none,[]⟩,⟨some 2,.mv (.t 31),none,[]⟩] [2]) .ret)))
theorem r43_15:type_of% (rr c43_15.eq_1):=rr rfl
def a43:AFun:=⟨1,32,c43_15,[.t 2]⟩
attribute [simp] r43_15
theorem m43:mFun Tryz.prog Tryz.f43 a43=true:=by decide +kernel
theorem runs_rRightNode (n:Node) (c:Bool) (h:some (rightNode n)=some c):Runs (tbl [(116,sp2 Fits)]) a77 [Arg.enc n] (Arg.enc c):=by
 cases h
 refine⟨rfl,fun g=>run_def ?_⟩
 obtain⟨leaf,value,feature,cut,left,right⟩:=n
 unfold a77
 cases leaf
 case false =>
  by_cases h1:value=0
  case neg=>simp -implicitDefEqProofs [rightNode,Fits,h1]
  by_cases h2:0≤feature
  case neg=>simp -implicitDefEqProofs [rightNode,Fits,h1,h2]
  by_cases h3:feature<4
  case neg=>simp -implicitDefEqProofs [rightNode,Fits,h1,h2,h3]
  cases h4:fits cut
  case false=>simp -implicitDefEqProofs [rightNode,Fits,h1,h2,h3,h4]
  by_cases h5:1≤left
  case neg=>simp -implicitDefEqProofs [rightNode,Fits,h1,h2,h3,h4,h5]
  by_cases h6:left<31
  case neg=>simp -implicitDefEqProofs [rightNode,Fits,h1,h2,h3,h4,h5,h6]
  by_cases h7:1≤right<;>simp -implicitDefEqProofs [rightNode,Fits,h1,h2,h3,h4,h5,h6,h7]
 case true =>
  cases h1:fits value
  case false=>simp -implicitDefEqProofs [rightNode,Fits,h1]
  by_cases h2:feature=0
  case neg=>simp -implicitDefEqProofs [rightNode,Fits,h1,h2]
  by_cases h3:cut=0
  case neg=>simp -implicitDefEqProofs [rightNode,Fits,h1,h2,h3]
  by_cases h4:left=0<;>simp -implicitDefEqProofs [rightNode,Fits,h1,h2,h3,h4]
theorem c_rRightNode:Contract Tryz.prog 77 (sp1 fun n=>some (rightNode n)) :=
 contract_of_runs mixed (tbl_cons c_rFits tbl_nil) Tryz.func77 m77 (sp1_runs runs_rRightNode)
theorem or_low (a b:Int) (k:Nat) (hk:k<64) (ha:0≤a) (h1:a<2^k) (hb:0≤b) (h2:b*2^k<18446744073709551616):ior .u64 a (b*2^k)=a+b*2^k:=by
 obtain⟨a,rfl⟩:∃ n:Nat,a=n:=⟨a.toNat,by omega⟩
 obtain⟨b,rfl⟩:∃ n:Nat,b=n:=⟨b.toNat,by omega⟩
 have e:((b:Int)*2^k)=((b*2^k:Nat):Int):=by simp
 have h1':a<2^k:=by
  have e2:((2:Int)^k)=((2^k:Nat):Int):=by simp
  rw[e2] at h1
  omega
 have h64:(2:Nat)^k≤2^63:=Nat.pow_le_pow_right (by omega) (by omega)
 rw[e] at h2 ⊢
 have hb2:b*2^k<18446744073709551616:=by omega
 rw[u_or _ _ ⟨by omega,by omega⟩ ⟨by omega,by omega⟩]
 have e3:((a:Int)).toNat=a:=by omega
 have e4:(((b*2^k:Nat):Int)).toNat=b*2^k:=by omega
 rw[e3,e4,Nat.or_comm,or_apart b a k h1']
 omega
theorem and_low (a:Int) (h:okW a):iand .u64 a 4294967295=a % 4294967296:=by
 rw[u_and _ _ h ⟨by omega,by omega⟩]
 have e:(4294967295:Int).toNat=4294967295:=rfl
 have:=and_mask a.toNat 0 32
 simp at this
 rw[e,this]
 have:=h.1
 omega
theorem runs_rPack (n:Node) (c:Word) (h:some (pack n)=some c):Runs (tbl [(77,sp1 fun n=>some (rightNode n))]) a43 [Arg.enc n] (Arg.enc c):=by
 cases h
 refine⟨rfl,fun g=>run_def ?_⟩
 obtain⟨leaf,value,feature,cut,left,right⟩:=n
 unfold a43
 cases h1:rightNode ⟨leaf,value,feature,cut,left,right⟩
 case false=>simp -implicitDefEqProofs [pack,h1]
 cases leaf
 case true =>
  have e1:ior .u64 9223372036854775808 (value % 4294967296)=9223372036854775808+value % 4294967296:=by
   rw[u_or _ _ ⟨by omega,by omega⟩ ⟨by omega,by omega⟩]
   have e:=or_apart 1 (value % 4294967296).toNat 63 (by omega)
   have e2:(9223372036854775808:Int).toNat=1*2^63:=rfl
   rw[e2,e]
   omega
  simp -implicitDefEqProofs [pack,h1,u_conv,and_low _ (okW_mod _),e1]
 case false =>
  have hb:=h1
  simp[rightNode] at hb
  have f1:feature % 18446744073709551616*4294967296%18446744073709551616=feature*2^32:=by omega
  have f2:left % 18446744073709551616*1099511627776%18446744073709551616=left*2^40:=by omega
  have f3:right % 18446744073709551616*281474976710656%18446744073709551616=right*2^48:=by omega
  have e1:=or_low (cut % 4294967296) feature 32 (by omega) (by omega) (by omega) (by omega) (by omega)
  have e2:=or_low (cut % 4294967296+feature*2^32) left 40 (by omega) (by omega) (by omega) (by omega) (by omega)
  have e3:=or_low (cut % 4294967296+feature*2^32+left*2^40) right 48 (by omega) (by omega) (by omega) (by omega) (by omega)
  simp -implicitDefEqProofs [pack,h1,u_conv,and_low _ (okW_mod _),f1,f2,f3]
  simp only[Int.reducePow] at e1 e2 e3
  rw[e1,e2,e3]
theorem c_rPack:Contract Tryz.prog 43 (sp1 fun n=>some (pack n)) :=
 contract_of_runs mixed (tbl_cons c_rRightNode tbl_nil) Tryz.func43 m43 (sp1_runs runs_rPack)
theorem and_15 (a:Int) (h:okW a):iand .u64 a 15=a % 16:=by
 rw[u_and _ _ h ⟨by omega,by omega⟩]
 have e:(15:Int).toNat=15:=rfl
 have:=and_mask a.toNat 0 4
 simp at this
 rw[e,this]
 have:=h.1
 omega
theorem and_255 (a:Int) (h:okW a):iand .u64 a 255=a % 256:=by
 rw[u_and _ _ h ⟨by omega,by omega⟩]
 have e:(255:Int).toNat=255:=rfl
 have:=and_mask a.toNat 0 8
 simp at this
 rw[e,this]
 have:=h.1
 omega
def Unpack (w:Word):Option (Node×Bool):=if 0≤w.v∧w.v<18446744073709551616 then some (unpack w) else none
end Go.Co
/- CO: nodes, by the program. -/
namespace Go.Co
open Go.Am Go.Proofs
def c181_3:ACode:=.seq (.ops [⟨some 2,.mv (.c (.bool false)),none,[]⟩] [0]) (.seq (.ops [⟨some 3,.mv (.t 0),none,[]⟩,⟨some 4,.bin .geq (.t 3) (.c (.int .i64 1)),none,[]⟩,⟨some 5,.mv (.t 4),none,[]⟩,⟨some 6,.mv (.t 0),some (5,true),[]⟩,⟨some 7,.bin .lss (.t 6) (.c (.int .i64 31)),some (5,true),[]⟩,⟨some 8,.pick (.t 5) (.t 7) (.c (.bool false)),none,[]⟩,⟨some 2,.mv (.t 8),none,[]⟩] [2]) .ret)
theorem r181_3:type_of% (rr c181_3.eq_1):=rr rfl
def a181:AFun:=⟨1,9,c181_3,[.t 2]⟩
attribute [simp] r181_3
theorem m181:mFun Tryz.prog Tryz.f181 a181=true:=by decide +kernel
def c147_9:ACode:=.seq (.ops [⟨some 1,.box (.t 0) 6,none,[]⟩,⟨some 2,.mv (.c (.bool false)),none,[]⟩] [1]) (.seq (.seq (.ops [⟨some 3,.fad (.t 1) 0,none,[1]⟩,⟨some 4,.load 1 false (.t 3),none,[1]⟩] [1,4]) (.cond (.t 4) (.seq (.ops [⟨some 5,.load 6 true (.t 1),none,[1]⟩,⟨some 6,.fad (.t 1) 1,none,[1]⟩,⟨some 7,.load 1 false (.t 6),none,[1]⟩,⟨some 8,.build [.bool false,.int .i64 0,.int .i64 0,.int .i64 0,.int .i64 0,.int .i64 0] [(0,1,.c (.bool true)),(1,1,.t 7)],none,[]⟩,⟨some 9,.eqa false [true,false,false,false,false,false] (.t 5) (.t 8),none,[]⟩,⟨some 10,.mv (.t 9),none,[]⟩,⟨some 11,.fad (.t 1) 1,some (10,true),[1]⟩,⟨some 12,.load 1 false (.t 11),some (10,true),[1]⟩,⟨some 13,.call 70 [.t 12,.c (.int .i64 32)],some (10,true),[]⟩,⟨some 14,.pick (.t 10) (.t 13) (.c (.bool false)),none,[]⟩,⟨some 2,.mv (.t 14),none,[]⟩] [2]) .ret) .skip)) (.seq (.ops [⟨some 15,.fad (.t 1) 1,none,[1]⟩,⟨some 16,.load 1 false (.t 15),none,[1]⟩,⟨some 17,.bin .eql (.t 16) (.c (.int .i64 0)),none,[]⟩,⟨some 18,.mv (.t 17),none,[]⟩,⟨some 19,.fad (.t 1) 2,some (18,true),[1]⟩,⟨some 20,.load 1 false (.t 19),some (18,true),[1]⟩,⟨some 21,.bin .geq (.t 20) (.c (.int .i64 0)),some (18,true),[]⟩,⟨some 22,.pick (.t 18) (.t 21) (.c (.bool false)),none,[]⟩,⟨some 23,.mv (.t 22),none,[]⟩,⟨some 24,.fad (.t 1) 2,some (23,true),[1]⟩,⟨some 25,.load 1 false (.t 24),some (23,true),[1]⟩,⟨some 26,.bin .lss (.t 25) (.c (.int .i64 4)),some (23,true),[]⟩,⟨some 27,.pick (.t 23) (.t 26) (.c (.bool false)),none,[]⟩,⟨some 28,.mv (.t 27),none,[]⟩,⟨some 29,.fad (.t 1) 3,some (28,true),[1]⟩,⟨some 30,.load 1 false (.t 29),some (28,true),[1]⟩,⟨some 31,.call 70 [.t 30,.c (.int .i64 32)],some (28,true),[]⟩,⟨some 32,.pick (.t 28) (.t 31) (.c (.bool false)),none,[]⟩,⟨some 33,.mv (.t 32),none,[]⟩,⟨some 34,.fad (.t 1) 4,some (33,true),[1]⟩,⟨some 35,.load 1 false (.t 34),some (33,true),[1]⟩,⟨some 36,.call 181 [.t 35],some (33,true),[]⟩,⟨some 37,.pick (.t 33) (.t 36) (.c (.bool false)),none,[]⟩,⟨some 38,.mv (.t 37),none,[]⟩,⟨some 39,.fad (.t 1) 5,some (38,true),[1]⟩,⟨some 40,.load 1 false (.t 39),some (38,true),[1]⟩,⟨some 41,.call 181 [.t 40],some (38,true),[]⟩,⟨some 42,.pick (.t 38) (.t 41) (.c (.bool false)),none,[]⟩,⟨some 2,.mv (.t 42),none,[]⟩] [2]) .ret))
theorem r147_9:type_of% (rr c147_9.eq_1):=rr rfl
def a147:AFun:=⟨1,43,c147_9,[.t 2]⟩
attribute [simp] r147_9
theorem m147:mFun Tryz.prog Tryz.f147 a147=true:=by decide +kernel
def c145_3:ACode:=.seq (.ops [⟨some 4,.mv (.c (.bool false)),none,[]⟩] [0,1]) (.seq (.ops [⟨some 5,.mv (.t 0),none,[]⟩,⟨some 6,.bin .geq (.t 5) (.c (.int .i64 0)),none,[]⟩,⟨some 7,.mv (.t 6),none,[]⟩,⟨some 8,.mv (.t 0),some (7,true),[]⟩,⟨some 9,.bin .lss (.t 8) (.c (.int .i64 64)),some (7,true),[]⟩,⟨some 10,.pick (.t 7) (.t 9) (.c (.bool false)),none,[]⟩,⟨some 11,.mv (.t 10),none,[]⟩,⟨some 12,.mv (.t 1),some (11,true),[]⟩,⟨some 13,.bin .geq (.t 12) (.c (.int .i64 1)),some (11,true),[]⟩,⟨some 14,.pick (.t 11) (.t 13) (.c (.bool false)),none,[]⟩,⟨some 15,.mv (.t 14),none,[]⟩,⟨some 16,.mv (.t 1),some (15,true),[]⟩,⟨some 17,.mv (.t 0),some (15,true),[]⟩,⟨some 18,.bin .sub (.c (.int .i64 64)) (.t 17),some (15,true),[]⟩,⟨some 19,.bin .leq (.t 16) (.t 18),some (15,true),[]⟩,⟨some 20,.pick (.t 15) (.t 19) (.c (.bool false)),none,[]⟩,⟨some 4,.mv (.t 20),none,[]⟩] [4]) .ret)
theorem r145_3:type_of% (rr c145_3.eq_1):=rr rfl
def a145:AFun:=⟨2,21,c145_3,[.t 4]⟩
attribute [simp] r145_3
theorem m145:mFun Tryz.prog Tryz.f145 a145=true:=by decide +kernel
def c146_3:ACode:=.seq (.ops [⟨some 2,.mv (.c (.int .u64 0)),none,[]⟩] [0]) (.seq (.ops [⟨some 3,.mv (.t 0),none,[]⟩,⟨some 4,.bin .sub (.c (.int .i64 64)) (.t 3),none,[]⟩,⟨some 5,.conv .u64 (.t 4),none,[]⟩,⟨some 6,.bin .shr (.c (.int .u64 18446744073709551615)) (.t 5),none,[]⟩,⟨some 2,.mv (.t 6),none,[]⟩] [2]) .ret)
theorem r146_3:type_of% (rr c146_3.eq_1):=rr rfl
def a146:AFun:=⟨1,7,c146_3,[.t 2]⟩
attribute [simp] r146_3
theorem m146:mFun Tryz.prog Tryz.f146 a146=true:=by decide +kernel
def c148_11:ACode:=.seq (.ops [⟨some 8,.mv (.c (.int .u64 0)),none,[]⟩] [0,1,2,3]) (.seq (.seq (.ops [⟨some 10,.mv (.t 1),none,[]⟩,⟨some 11,.mv (.t 2),none,[]⟩,⟨some 12,.call 145 [.t 10,.t 11],none,[]⟩,⟨some 13,.un .not (.t 12),none,[]⟩] [0,1,2,3,13]) (.cond (.t 13) (.seq (.ops [⟨some 14,.mv (.t 0),none,[]⟩,⟨some 8,.mv (.t 14),none,[]⟩] [8]) .ret) .skip)) (.seq (.ops [⟨some 15,.mv (.t 2),none,[]⟩,⟨some 16,.call 146 [.t 15],none,[]⟩,⟨some 17,.mv (.t 1),none,[]⟩,⟨some 18,.conv .u64 (.t 17),none,[]⟩,⟨some 19,.bin .shl (.t 16) (.t 18),none,[]⟩,⟨some 9,.mv (.t 19),none,[]⟩] [0,1,3,9]) (.seq (.ops [⟨some 20,.mv (.t 0),none,[]⟩,⟨some 21,.mv (.t 9),none,[]⟩,⟨some 22,.bin .andNot (.t 20) (.t 21),none,[]⟩,⟨some 23,.mv (.t 3),none,[]⟩,⟨some 24,.mv (.t 1),none,[]⟩,⟨some 25,.conv .u64 (.t 24),none,[]⟩,⟨some 26,.bin .shl (.t 23) (.t 25),none,[]⟩,⟨some 27,.mv (.t 9),none,[]⟩,⟨some 28,.bin .and (.t 26) (.t 27),none,[]⟩,⟨some 29,.bin .or (.t 22) (.t 28),none,[]⟩,⟨some 8,.mv (.t 29),none,[]⟩] [8]) .ret)))
theorem r148_11:type_of% (rr c148_11.eq_1):=rr rfl
def a148:AFun:=⟨4,30,c148_11,[.t 8]⟩
attribute [simp] r148_11
theorem m148:mFun Tryz.prog Tryz.f148 a148=true:=by decide +kernel
def c106_9:ACode:=.seq (.ops [⟨some 6,.mv (.c (.int .u64 0)),none,[]⟩] [0,1,2]) (.seq (.seq (.ops [⟨some 7,.mv (.t 1),none,[]⟩,⟨some 8,.mv (.t 2),none,[]⟩,⟨some 9,.call 145 [.t 7,.t 8],none,[]⟩,⟨some 10,.un .not (.t 9),none,[]⟩] [0,1,2,10]) (.cond (.t 10) (.seq (.ops [⟨some 6,.mv (.c (.int .u64 0)),none,[]⟩] [6]) .ret) .skip)) (.seq (.ops [⟨some 11,.mv (.t 0),none,[]⟩,⟨some 12,.mv (.t 1),none,[]⟩,⟨some 13,.conv .u64 (.t 12),none,[]⟩,⟨some 14,.bin .shr (.t 11) (.t 13),none,[]⟩,⟨some 15,.mv (.t 2),none,[]⟩,⟨some 16,.call 146 [.t 15],none,[]⟩,⟨some 17,.bin .and (.t 14) (.t 16),none,[]⟩,⟨some 6,.mv (.t 17),none,[]⟩] [6]) .ret))
theorem r106_9:type_of% (rr c106_9.eq_1):=rr rfl
def a106:AFun:=⟨3,18,c106_9,[.t 6]⟩
attribute [simp] r106_9
theorem m106:mFun Tryz.prog Tryz.f106 a106=true:=by decide +kernel
def c105_3:ACode:=.seq (.ops [⟨some 6,.mv (.c (.int .i64 0)),none,[]⟩] [0,1,2]) (.seq (.ops [⟨some 7,.mv (.t 0),none,[]⟩,⟨some 8,.mv (.t 1),none,[]⟩,⟨some 9,.mv (.t 2),none,[]⟩,⟨some 10,.call 106 [.t 7,.t 8,.t 9],none,[]⟩,⟨some 11,.conv .i64 (.t 10),none,[]⟩,⟨some 12,.mv (.t 2),none,[]⟩,⟨some 13,.call 144 [.t 11,.t 12],none,[]⟩,⟨some 6,.mv (.t 13),none,[]⟩] [6]) .ret)
theorem r105_3:type_of% (rr c105_3.eq_1):=rr rfl
def a105:AFun:=⟨3,14,c105_3,[.t 6]⟩
attribute [simp] r105_3
theorem m105:mFun Tryz.prog Tryz.f105 a105=true:=by decide +kernel
def c108_21:ACode:=.seq (.ops [⟨some 1,.box (.t 0) 6,none,[]⟩,⟨some 2,.mv (.c (.int .u64 0)),none,[]⟩] [1]) (.seq (.seq (.ops [⟨some 4,.load 6 true (.t 1),none,[1]⟩,⟨some 5,.call 147 [.t 4],none,[]⟩,⟨some 6,.un .not (.t 5),none,[]⟩] [1,6]) (.cond (.t 6) (.seq (.ops [⟨some 2,.mv (.c (.int .u64 0)),none,[]⟩] [2]) .ret) .skip)) (.seq (.seq (.ops [⟨some 7,.fad (.t 1) 0,none,[1]⟩,⟨some 8,.load 1 false (.t 7),none,[1]⟩] [1,8]) (.cond (.t 8) (.seq (.ops [⟨some 9,.fad (.t 1) 1,none,[1]⟩,⟨some 10,.load 1 false (.t 9),none,[1]⟩,⟨some 11,.conv .u64 (.t 10),none,[]⟩,⟨some 12,.call 148 [.c (.int .u64 9223372036854775808),.c (.int .i64 0),.c (.int .i64 32),.t 11],none,[]⟩,⟨some 2,.mv (.t 12),none,[]⟩] [2]) .ret) .skip)) (.seq (.ops [⟨some 13,.fad (.t 1) 3,none,[1]⟩,⟨some 14,.load 1 false (.t 13),none,[1]⟩,⟨some 15,.conv .u64 (.t 14),none,[]⟩,⟨some 16,.call 148 [.c (.int .u64 0),.c (.int .i64 0),.c (.int .i64 32),.t 15],none,[]⟩,⟨some 3,.mv (.t 16),none,[]⟩] [1,3]) (.seq (.ops [⟨some 17,.mv (.t 3),none,[]⟩,⟨some 18,.fad (.t 1) 2,none,[1]⟩,⟨some 19,.load 1 false (.t 18),none,[1]⟩,⟨some 20,.conv .u64 (.t 19),none,[]⟩,⟨some 21,.call 148 [.t 17,.c (.int .i64 32),.c (.int .i64 4),.t 20],none,[]⟩,⟨some 3,.mv (.t 21),none,[]⟩] [1,3]) (.seq (.ops [⟨some 22,.mv (.t 3),none,[]⟩,⟨some 23,.fad (.t 1) 4,none,[1]⟩,⟨some 24,.load 1 false (.t 23),none,[1]⟩,⟨some 25,.conv .u64 (.t 24),none,[]⟩,⟨some 26,.call 148 [.t 22,.c (.int .i64 40),.c (.int .i64 8),.t 25],none,[]⟩,⟨some 3,.mv (.t 26),none,[]⟩] [1,3]) (.seq (.ops [⟨some 27,.mv (.t 3),none,[]⟩,⟨some 28,.fad (.t 1) 5,none,[1]⟩,⟨some 29,.load 1 false (.t 28),none,[1]⟩,⟨some 30,.conv .u64 (.t 29),none,[]⟩,⟨some 31,.call 148 [.t 27,.c (.int .i64 48),.c (.int .i64 8),.t 30],none,[]⟩,⟨some 2,.mv (.t 31),none,[]⟩] [2]) .ret))))))
theorem r108_21:type_of% (rr c108_21.eq_1):=rr rfl
def a108:AFun:=⟨1,32,c108_21,[.t 2]⟩
attribute [simp] r108_21
theorem m108:mFun Tryz.prog Tryz.f108 a108=true:=by decide +kernel
def child (n:Int):Bool:=decide (1≤n)&&decide (n<31)
theorem runs_child (n:Int) (c:Bool) (h:some (child n)=some c):Runs (tbl []) a181 [Arg.enc n] (Arg.enc c):=by
 cases h
 refine⟨rfl,fun g=>run_def ?_⟩
 unfold a181
 by_cases h1:1≤n<;>simp -implicitDefEqProofs [child,h1]
theorem c_child:Contract Tryz.prog 181 (sp1 fun n=>some (child n)):=contract_of_runs mixed tbl_nil Tryz.func181 m181 (sp1_runs runs_child)
theorem runs_Right (n:Node) (c:Bool) (h:some (rightNode n)=some c):Runs (tbl [(70,sp2 Fits),(181,sp1 fun n=>some (child n))]) a147 [Arg.enc n] (Arg.enc c):=by
 cases h
 refine⟨rfl,fun g=>run_def ?_⟩
 obtain⟨leaf,value,feature,cut,left,right⟩:=n
 unfold a147
 cases leaf
 case false =>
  by_cases h1:value=0
  case neg=>simp -implicitDefEqProofs [rightNode,Fits,child,h1]
  by_cases h2:0≤feature
  case neg=>simp -implicitDefEqProofs [rightNode,Fits,child,h1,h2]
  by_cases h3:feature<4
  case neg=>simp -implicitDefEqProofs [rightNode,Fits,child,h1,h2,h3]
  cases h4:fits cut
  case false=>simp -implicitDefEqProofs [rightNode,Fits,child,h1,h2,h3,h4]
  by_cases h5:1≤left
  case neg=>simp -implicitDefEqProofs [rightNode,Fits,child,h1,h2,h3,h4,h5]
  by_cases h6:left<31
  case neg=>simp -implicitDefEqProofs [rightNode,Fits,child,h1,h2,h3,h4,h5,h6]
  simp -implicitDefEqProofs [rightNode,Fits,child,h1,h2,h3,h4,h5,h6]
 case true =>
  by_cases h2:feature=0
  case neg=>simp -implicitDefEqProofs [rightNode,Fits,h2]
  by_cases h3:cut=0
  case neg=>simp -implicitDefEqProofs [rightNode,Fits,h2,h3]
  by_cases h4:left=0
  case neg=>simp -implicitDefEqProofs [rightNode,Fits,h2,h3,h4]
  by_cases h5:right=0
  case neg=>simp -implicitDefEqProofs [rightNode,Fits,h2,h3,h4,h5]
  cases h1:fits value<;>simp -implicitDefEqProofs [rightNode,Fits,h1,h2,h3,h4,h5]
theorem c_Right:Contract Tryz.prog 147 (sp1 fun n=>some (rightNode n)) :=
 contract_of_runs mixed (tbl_cons c_Fits (tbl_cons c_child tbl_nil)) Tryz.func147 m147 (sp1_runs runs_Right)
def field (p w:Int):Bool:=decide (0≤p)&&decide (p<64)&&decide (1≤w)&&decide (w≤64-p)
theorem runs_field (p w:Int) (c:Bool) (h:some (field p w)=some c):Runs (tbl []) a145 [Arg.enc p,Arg.enc w] (Arg.enc c):=by
 cases h
 refine⟨rfl,fun g=>run_def ?_⟩
 unfold a145
 by_cases h1:0≤p
 case neg=>simp -implicitDefEqProofs [field,h1]
 by_cases h2:p<64
 case neg=>simp -implicitDefEqProofs [field,h1,h2]
 by_cases h3:1≤w
 case neg=>simp -implicitDefEqProofs [field,h1,h2,h3]
 have e:IntKind.i64.wrap (64-p)=64-p:=wrap64 (by omega) (by omega)
 simp -implicitDefEqProofs [field,h1,h2,h3,e]
theorem c_field:Contract Tryz.prog 145 (sp2 fun p w=>some (field p w)):=contract_of_runs mixed tbl_nil Tryz.func145 m145 (sp2_runs runs_field)
def ones (w:Int):Int:=if w=1 then 1 else if w=4 then 15 else if w=8 then 255 else 4294967295
def Mask (w:Int):Option Word:=if w=1∨w=4∨w=8∨w=32 then some ⟨ones w⟩ else none
theorem runs_mask (w:Int) (c:Word) (h:Mask w=some c):Runs (tbl []) a146 [Arg.enc w] (Arg.enc c):=by
 unfold Mask at h
 split at h
 ·rename_i hw
  cases h
  refine⟨rfl,fun g=>run_def ?_⟩
  unfold a146
  rcases hw with rfl|rfl|rfl|rfl<;>simp -implicitDefEqProofs [ones]<;>decide
 ·cases h
theorem c_mask:Contract Tryz.prog 146 (sp1 Mask):=contract_of_runs mixed tbl_nil Tryz.func146 m146 (sp1_runs runs_mask)
def aField (p w:Int):Prop:=(p=0∧w=32)∨(p=63∧w=1)∨(p=32∧w=4)∨(p=40∧w=8)∨(p=48∧w=8)
instance (p w:Int):Decidable (aField p w):=by unfold aField;exact inferInstance
def get (x p w:Int):Int:=x/2^p.toNat % 2^w.toNat
def Get (x:Word) (p w:Int):Option Word:=if okW x.v∧aField p w then some ⟨get x.v p w⟩ else none
theorem and_1 (a:Int) (h:okW a):iand .u64 a 1=a % 2:=by
 rw[u_and _ _ h ⟨by omega,by omega⟩]
 have e:(1:Int).toNat=1:=rfl
 rw[e,Nat.and_one_is_mod]
 have:=h.1
 omega
theorem runs_Get (x:Word) (p w:Int) (c:Word) (h:Get x p w=some c):Runs (tbl [(145,sp2 fun p w=>some (field p w)),(146,sp1 Mask)]) a106 [Arg.enc x,Arg.enc p,Arg.enc w] (Arg.enc c):=by
 unfold Get at h
 split at h
 ·rename_i hw
  cases h
  obtain⟨v⟩:=x
  obtain⟨hv,hf⟩:=hw
  simp only at hv
  have d (k:Int) (hk:0≤k):v.fdiv k=v/k:=Int.fdiv_eq_ediv_of_nonneg v hk
  have h1:=hv.1
  have h2:=hv.2
  have i1:=and_low v hv
  have i2:=and_15 (v/4294967296) ⟨by omega,by omega⟩
  have i3:=and_255 (v/1099511627776) ⟨by omega,by omega⟩
  have i4:=and_255 (v/281474976710656) ⟨by omega,by omega⟩
  have i5:=and_1 (v/9223372036854775808) ⟨by omega,by omega⟩
  refine⟨rfl,fun g=>run_def ?_⟩
  unfold a106
  rcases hf with⟨rfl,rfl⟩|⟨rfl,rfl⟩|⟨rfl,rfl⟩|⟨rfl,rfl⟩|⟨rfl,rfl⟩ <;>
   simp -implicitDefEqProofs [get,field,Mask,ones,d,i1,i2,i3,i4,i5]
 ·cases h
theorem c_Get:Contract Tryz.prog 106 (sp3 Get) :=
 contract_of_runs mixed (tbl_cons c_field (tbl_cons c_mask tbl_nil)) Tryz.func106 m106 (sp3_runs runs_Get)
def Signed (x:Word) (p w:Int):Option Int:=if okW x.v∧p=0∧w=32 then some (wrap32 (x.v % 4294967296)) else none
theorem runs_Signed (x:Word) (p w c:Int) (h:Signed x p w=some c):Runs (tbl [(106,sp3 Get),(144,sp2 Wrap)]) a105 [Arg.enc x,Arg.enc p,Arg.enc w] (Arg.enc c):=by
 unfold Signed at h
 split at h
 ·rename_i hw
  cases h
  obtain⟨v⟩:=x
  obtain⟨hv,rfl,rfl⟩:=hw
  simp only at hv
  have w1:IntKind.i64.wrap (v % 4294967296)=v % 4294967296:=wrap64 (by omega) (by omega)
  have b1:-9223372036854775808≤v % 4294967296∧v % 4294967296≤9223372036854775807:=by omega
  refine⟨rfl,fun g=>run_def ?_⟩
  unfold a105
  simp -implicitDefEqProofs [Get,get,aField,hv,Wrap,w1,b1]
 ·cases h
theorem c_Signed:Contract Tryz.prog 105 (sp3 Signed) :=
 contract_of_runs mixed (tbl_cons c_Get (tbl_cons c_Wrap tbl_nil)) Tryz.func105 m105 (sp3_runs runs_Signed)
def Put (x:Word) (p w:Int) (y:Word):Option Word:=if okW x.v∧aField p w∧w≠1∧get x.v p w=0 then some ⟨x.v+y.v % 2^w.toNat*2^p.toNat⟩ else none
theorem runs_Put (x:Word) (p w:Int) (y c:Word) (h:Put x p w y=some c):Runs (tbl [(145,sp2 fun p w=>some (field p w)),(146,sp1 Mask)]) a148 [Arg.enc x,Arg.enc p,Arg.enc w,Arg.enc y] (Arg.enc c):=by
 unfold Put at h
 split at h
 ·rename_i hw
  cases h
  obtain⟨v⟩:=x
  obtain⟨y⟩:=y
  obtain⟨hv,hf,hw1,hg⟩:=hw
  simp only at hv hg
  have hv1:=hv.1
  refine⟨rfl,fun g=>run_def ?_⟩
  unfold a148
  rcases hf with⟨rfl,rfl⟩|⟨rfl,rfl⟩|⟨rfl,rfl⟩|⟨rfl,rfl⟩|⟨rfl,rfl⟩
  ·simp[get] at hg
   have e:=put_bits v (y % 18446744073709551616) 4294967295 0 32 hv (okW_mod _) rfl ⟨by omega,by omega⟩ (by simp;omega)
   simp only[Nat.reducePow] at e
   simp -implicitDefEqProofs [field,Mask,ones,u_conv,e]
   omega
  ·exact absurd rfl hw1
  ·simp[get] at hg
   have e:=put_bits v (y*4294967296%18446744073709551616) 64424509440 32 4 hv (okW_mod _) rfl ⟨by omega,by omega⟩ (by simp;omega)
   simp only[Nat.reducePow] at e
   simp -implicitDefEqProofs [field,Mask,ones,u_conv,e]
   omega
  ·simp[get] at hg
   have e:=put_bits v (y*1099511627776%18446744073709551616) 280375465082880 40 8 hv (okW_mod _) rfl ⟨by omega,by omega⟩ (by simp;omega)
   simp only[Nat.reducePow] at e
   simp -implicitDefEqProofs [field,Mask,ones,u_conv,e]
   omega
  ·simp[get] at hg
   have e:=put_bits v (y*281474976710656%18446744073709551616) 71776119061217280 48 8 hv (okW_mod _) rfl ⟨by omega,by omega⟩ (by simp;omega)
   simp only[Nat.reducePow] at e
   simp -implicitDefEqProofs [field,Mask,ones,u_conv,e]
   omega
 ·cases h
theorem c_Put:Contract Tryz.prog 148 (sp4 Put) :=
 contract_of_runs mixed (tbl_cons c_field (tbl_cons c_mask tbl_nil)) Tryz.func148 m148 (sp4_runs runs_Put)
theorem runs_Pack (n:Node) (c:Word) (h:some (pack n)=some c):Runs (tbl [(147,sp1 fun n=>some (rightNode n)),(148,sp4 Put)]) a108 [Arg.enc n] (Arg.enc c):=by
 cases h
 refine⟨rfl,fun g=>run_def ?_⟩
 obtain⟨leaf,value,feature,cut,left,right⟩:=n
 unfold a108
 cases h1:rightNode ⟨leaf,value,feature,cut,left,right⟩
 case false=>simp -implicitDefEqProofs [pack,h1]
 cases leaf
 case true =>
  have e1:value % 18446744073709551616%4294967296=value % 4294967296:=by omega
  simp -implicitDefEqProofs [pack,h1,u_conv,Put,get,aField,okW,e1]
 case false =>
  have hb:=h1
  simp[rightNode] at hb
  have e1:cut % 18446744073709551616%4294967296=cut % 4294967296:=by omega
  have o1:okW (cut % 4294967296):=⟨by omega,by omega⟩
  have e2:feature % 18446744073709551616%16=feature:=by omega
  have g1:cut % 4294967296/4294967296%16=0:=by omega
  have o2:okW (cut % 4294967296+feature*4294967296):=⟨by omega,by omega⟩
  have e3:left % 18446744073709551616%256=left:=by omega
  have g2:(cut % 4294967296+feature*4294967296)/1099511627776%256=0:=by omega
  have o3:okW (cut % 4294967296+feature*4294967296+left*1099511627776):=⟨by omega,by omega⟩
  have e4:right % 18446744073709551616%256=right:=by omega
  have g3:(cut % 4294967296+feature*4294967296+left*1099511627776)/281474976710656%256=0:=by omega
  have o0:okW 0:=⟨by omega,by omega⟩
  simp -implicitDefEqProofs [pack,h1,u_conv,Put,get,aField,o0,o1,o2,o3,e1,e2,e3,e4,g1,g2,g3]
theorem c_Pack:Contract Tryz.prog 108 (sp1 fun n=>some (pack n)) :=
 contract_of_runs mixed (tbl_cons c_Right (tbl_cons c_Put tbl_nil)) Tryz.func108 m108 (sp1_runs runs_Pack)
def c107_3:ACode:=.seq (.ops [⟨some 5,.mv (.c (.int .i64 0)),none,[]⟩] [0,1,2]) (.seq (.ops [⟨some 6,.load 1 false (.t 2),none,[]⟩,⟨some 7,.mv (.t 0),none,[]⟩,⟨some 8,.mv (.t 1),none,[]⟩,⟨some 9,.call 106 [.t 6,.t 7,.t 8],none,[]⟩,⟨some 10,.conv .i64 (.t 9),none,[]⟩,⟨some 5,.mv (.t 10),none,[]⟩] [5]) .ret)
theorem r107_3:type_of% (rr c107_3.eq_1):=rr rfl
def a107:AFun:=⟨3,11,c107_3,[.t 5]⟩
attribute [simp] r107_3
theorem m107:mFun Tryz.prog Tryz.f107 a107=true:=by decide +kernel
def c64_20:ACode:=.seq (.ops [⟨some 1,.box (.t 0) 1,none,[]⟩,⟨some 2,.alloc [.bool false,.int .i64 0,.int .i64 0,.int .i64 0,.int .i64 0,.int .i64 0],none,[]⟩,⟨some 3,.mv (.c (.bool false)),none,[]⟩] [1,2]) (.seq (.ops [⟨some 7,.load 1 false (.t 1),none,[1]⟩,⟨some 8,.call 105 [.t 7,.c (.int .i64 0),.c (.int .i64 32)],none,[]⟩,⟨some 4,.mv (.t 8),none,[]⟩] [1,2,4]) (.seq (.ops [⟨some 9,.mv (.t 4),none,[]⟩,⟨some 10,.build [.bool false,.int .i64 0,.int .i64 0,.int .i64 0,.int .i64 0,.int .i64 0] [(0,1,.c (.bool true)),(1,1,.t 9)],none,[]⟩,⟨some 5,.alloc [.bool false,.int .i64 0,.int .i64 0,.int .i64 0,.int .i64 0,.int .i64 0],none,[]⟩,⟨none,.store (.t 5) 6 (.t 10),none,[5]⟩] [1,2,4,5]) (.seq (.seq (.ops [⟨some 11,.load 1 false (.t 1),none,[1]⟩,⟨some 12,.call 106 [.t 11,.c (.int .i64 63),.c (.int .i64 1)],none,[]⟩,⟨some 13,.bin .eql (.t 12) (.c (.int .u64 0)),none,[]⟩] [1,2,4,5,13]) (.cond (.t 13) (.seq (.ops [⟨some 14,.clo 107 [.t 1],none,[1]⟩,⟨some 6,.mv (.t 14),none,[]⟩] [1,2,4,5,6]) (.ops [⟨some 15,.mv (.t 4),none,[]⟩,⟨some 16,.mv (.t 6),none,[]⟩,⟨some 17,.dyn (.t 16) [.c (.int .i64 32),.c (.int .i64 4)],none,[]⟩,⟨some 18,.mv (.t 6),none,[]⟩,⟨some 19,.dyn (.t 18) [.c (.int .i64 40),.c (.int .i64 8)],none,[]⟩,⟨some 20,.mv (.t 6),none,[]⟩,⟨some 21,.dyn (.t 20) [.c (.int .i64 48),.c (.int .i64 8)],none,[]⟩,⟨some 22,.build [.bool false,.int .i64 0,.int .i64 0,.int .i64 0,.int .i64 0,.int .i64 0] [(3,1,.t 15),(2,1,.t 17),(4,1,.t 19),(5,1,.t 21)],none,[]⟩,⟨none,.store (.t 5) 6 (.t 22),none,[5]⟩] [1,2,5])) .skip)) (.seq (.seq (.ops [⟨some 23,.load 1 false (.t 1),none,[1]⟩,⟨some 24,.bin .eql (.t 23) (.c (.int .u64 0)),none,[]⟩,⟨some 25,.mv (.t 24),none,[]⟩,⟨some 26,.load 6 true (.t 5),some (25,false),[5]⟩,⟨some 27,.call 108 [.t 26],some (25,false),[]⟩,⟨some 28,.load 1 false (.t 1),some (25,false),[1]⟩,⟨some 29,.bin .neq (.t 27) (.t 28),some (25,false),[]⟩,⟨some 30,.pick (.t 25) (.c (.bool true)) (.t 29),none,[]⟩] [2,5,30]) (.cond (.t 30) (.seq (.ops [⟨some 31,.build [.bool false,.int .i64 0,.int .i64 0,.int .i64 0,.int .i64 0,.int .i64 0] [],none,[]⟩,⟨none,.store (.t 2) 6 (.t 31),none,[2]⟩,⟨some 3,.mv (.c (.bool false)),none,[]⟩] [2,3]) .ret) .skip)) (.seq (.ops [⟨some 32,.load 6 true (.t 5),none,[5]⟩,⟨none,.store (.t 2) 6 (.t 32),none,[2]⟩,⟨some 3,.mv (.c (.bool true)),none,[]⟩] [2,3]) .ret)))))
theorem r64_20:type_of% (rr c64_20.eq_1):=rr rfl
def a64:AFun:=⟨1,33,c64_20,[.cell 2 6 true,.t 3]⟩
attribute [simp] r64_20
theorem m64:mFun Tryz.prog Tryz.f64 a64=true:=by decide +kernel
def Unpack1 (p w:Int) (x:Ref Word):Option Int:=if okW x.v.v∧aField p w∧w≠32 then some (get x.v.v p w) else none
theorem runs_Unpack1 (p w:Int) (x:Ref Word) (c:Int) (h:Unpack1 p w x=some c):Runs (tbl [(106,sp3 Get)]) a107 [Arg.enc p,Arg.enc w,Arg.enc x] (Arg.enc c):=by
 unfold Unpack1 at h
 split at h
 ·rename_i hw
  cases h
  obtain⟨⟨v⟩⟩:=x
  obtain⟨hv,hf,hw⟩:=hw
  simp only at hv
  refine⟨rfl,fun g=>run_def ?_⟩
  unfold a107
  have hw2:w=1∨w=4∨w=8:=by rcases hf with⟨rfl,rfl⟩|⟨rfl,rfl⟩|⟨rfl,rfl⟩|⟨rfl,rfl⟩|⟨rfl,rfl⟩<;>omega
  have e1:IntKind.i64.wrap (get v p w)=get v p w:=by
   unfold get
   rcases hw2 with rfl|rfl|rfl<;>simp<;>refine wrap64 (by omega) (by omega)
  simp -implicitDefEqProofs [Get,hv,hf,e1]
 ·cases h
theorem c_Unpack1:Contract Tryz.prog 107 (sp3 Unpack1) :=
 contract_of_runs mixed (tbl_cons c_Get tbl_nil) Tryz.func107 m107 (sp3_runs runs_Unpack1)
theorem pack_ne (n:Node) (h:rightNode n=true):(pack n).v≠0:=by
 have hb:=h
 unfold pack
 rw[if_pos h]
 obtain⟨leaf,value,feature,cut,left,right⟩:=n
 cases leaf
 ·simp[rightNode] at hb
  simp
  omega
 ·simp
  omega
theorem runs_Unpack (w:Word) (c:Node×Bool) (h:Unpack w=some c):Runs (tbl [(105,sp3 Signed),(106,sp3 Get),(107,sp3 Unpack1),(108,sp1 fun n=>some (pack n))]) a64 [Arg.enc w] (Arg.enc c):=by
 unfold Unpack at h
 split at h
 ·rename_i hw
  cases h
  obtain⟨v⟩:=w
  simp only at hw
  have hv:okW v:=hw
  refine⟨rfl,fun g=>run_def ?_⟩
  unfold a64
  have w1:IntKind.i64.wrap (v/4294967296%16)=v/4294967296%16:=wrap64 (by omega) (by omega)
  by_cases hl:v/9223372036854775808=1
  ·have hl2:¬ v/9223372036854775808%2=0:=by omega
   have hr:raw v=⟨true,wrap32 (v % 4294967296),0,0,0,0⟩:=by simp[raw,hl]
   have hne:¬ v=0:=by omega
   by_cases h2:(pack ⟨true,wrap32 (v % 4294967296),0,0,0,0⟩).v=v
   ·have h3:pack ⟨true,wrap32 (v % 4294967296),0,0,0,0⟩=⟨v⟩:=by cases hp:pack ⟨true,wrap32 (v % 4294967296),0,0,0,0⟩;rw[hp] at h2;simpa using h2
    have h1:rightNode ⟨true,wrap32 (v % 4294967296),0,0,0,0⟩=true:=by
     cases h1:rightNode ⟨true,wrap32 (v % 4294967296),0,0,0,0⟩
     ·simp[pack,h1] at h3;omega
     ·rfl
    simp -implicitDefEqProofs [Signed,Get,get,hv,aField,Unpack1,hl2,hne,h2,unpack,hr,h1,h3]
   ·have h3:¬ pack ⟨true,wrap32 (v % 4294967296),0,0,0,0⟩=⟨v⟩:=fun e=>h2 (by rw[e])
    simp -implicitDefEqProofs [Signed,Get,get,hv,aField,Unpack1,hl2,hne,h2,unpack,hr,h3]
  ·have hl2:v/9223372036854775808%2=0:=by omega
   generalize hn:(⟨false,0,v/4294967296%16,wrap32 (v % 4294967296),v/1099511627776%256,v/281474976710656%256⟩:Node)=n at *
   have hr:raw v=n:=by rw[← hn];simp[raw,hl]
   by_cases hne:v=0
   ·have h3:¬ (rightNode n=true∧pack n=⟨v⟩):=fun⟨a,b⟩=>pack_ne n a (by rw[b];exact hne)
    rw[← hn] at hr h3
    subst hne
    clear hl2 hl
    have hv0:okW 0:=hv
    have hr0:raw 0=⟨false,0,0,0,0,0⟩:=by rw[hr];rfl
    have h30:rightNode ⟨false,0,0,0,0,0⟩=false:=rfl
    simp -implicitDefEqProofs [Signed,Get,get,hv0,aField,Unpack1,unpack,hr0,h30]
   ·by_cases h2:(pack n).v=v
    ·have h3:pack n=⟨v⟩:=by cases hp:pack n;rw[hp] at h2;simpa using h2
     have h1:rightNode n=true:=by
      cases h1:rightNode n
      ·simp[pack,h1] at h3;omega
      ·rfl
     rw[← hn] at h1 hr h2 h3
     simp -implicitDefEqProofs [Signed,Get,get,hv,aField,Unpack1,hl2,hne,h2,unpack,hr,h1,h3]
    ·have h3:¬ pack n=⟨v⟩:=fun e=>h2 (by rw[e])
     rw[← hn] at hr h2 h3
     simp -implicitDefEqProofs [Signed,Get,get,hv,aField,Unpack1,hl2,hne,h2,unpack,hr,h3]
 ·cases h
theorem c_Unpack:Contract Tryz.prog 64 (sp1 Unpack) :=
 contract_of_runs mixed (tbl_cons c_Signed (tbl_cons c_Get (tbl_cons c_Unpack1 (tbl_cons c_Pack tbl_nil)))) Tryz.func64 m64 (sp1_runs runs_Unpack)
end Go.Co
/- CO: spans and boxes. -/
namespace Go.Co
open Go.Am Go.Proofs
def c154_3:ACode:=.seq (.ops [⟨some 0,.alloc [.int .i64 0,.int .i64 0],none,[]⟩] [0]) (.seq (.ops [⟨some 1,.build [.int .i64 0,.int .i64 0] [(0,1,.c (.int .i64 1))],none,[]⟩,⟨none,.store (.t 0) 2 (.t 1),none,[0]⟩] [0]) .ret)
theorem r154_3:type_of% (rr c154_3.eq_1):=rr rfl
def a154:AFun:=⟨0,2,c154_3,[.cell 0 2 true]⟩
attribute [simp] r154_3
theorem m154:mFun Tryz.prog Tryz.f154 a154=true:=by decide +kernel
def c153_9:ACode:=.seq (.ops [⟨some 4,.alloc [.int .i64 0,.int .i64 0],none,[]⟩] [0,1,4]) (.seq (.seq (.ops [⟨some 5,.mv (.t 0),none,[]⟩,⟨some 6,.mv (.t 1),none,[]⟩,⟨some 7,.bin .gtr (.t 5) (.t 6),none,[]⟩] [0,1,4,7]) (.cond (.t 7) (.seq (.ops [⟨some 8,.call 154 [],none,[]⟩,⟨none,.store (.t 4) 2 (.t 8),none,[4]⟩] [4]) .ret) .skip)) (.seq (.ops [⟨some 9,.mv (.t 0),none,[]⟩,⟨some 10,.mv (.t 1),none,[]⟩,⟨some 11,.build [.int .i64 0,.int .i64 0] [(0,1,.t 9),(1,1,.t 10)],none,[]⟩,⟨none,.store (.t 4) 2 (.t 11),none,[4]⟩] [4]) .ret))
theorem r153_9:type_of% (rr c153_9.eq_1):=rr rfl
def a153:AFun:=⟨2,12,c153_9,[.cell 4 2 true]⟩
attribute [simp] r153_9
theorem m153:mFun Tryz.prog Tryz.f153 a153=true:=by decide +kernel
def c81_3:ACode:=.seq (.ops [⟨some 1,.box (.t 0) 2,none,[]⟩,⟨some 2,.mv (.c (.bool false)),none,[]⟩] [1]) (.seq (.ops [⟨some 3,.fad (.t 1) 0,none,[1]⟩,⟨some 4,.load 1 false (.t 3),none,[1]⟩,⟨some 5,.fad (.t 1) 1,none,[1]⟩,⟨some 6,.load 1 false (.t 5),none,[1]⟩,⟨some 7,.bin .gtr (.t 4) (.t 6),none,[]⟩,⟨some 2,.mv (.t 7),none,[]⟩] [2]) .ret)
theorem r81_3:type_of% (rr c81_3.eq_1):=rr rfl
def a81:AFun:=⟨1,8,c81_3,[.t 2]⟩
attribute [simp] r81_3
theorem m81:mFun Tryz.prog Tryz.f81 a81=true:=by decide +kernel
def c113_11:ACode:=.seq (.ops [⟨some 2,.box (.t 0) 2,none,[]⟩,⟨some 4,.alloc [.int .i64 0,.int .i64 0],none,[]⟩,⟨some 5,.alloc [.int .i64 0,.int .i64 0],none,[]⟩] [1,2,4,5]) (.seq (.ops [⟨some 7,.fad (.t 2) 0,none,[2]⟩,⟨some 8,.load 1 false (.t 7),none,[2]⟩,⟨some 9,.fad (.t 2) 1,none,[2]⟩,⟨some 10,.load 1 false (.t 9),none,[2]⟩,⟨some 11,.mv (.t 1),none,[]⟩,⟨some 12,.mnmx false (.t 10) (.t 11),none,[]⟩,⟨some 13,.call 153 [.t 8,.t 12],none,[]⟩,⟨some 6,.alloc [.int .i64 0,.int .i64 0],none,[]⟩,⟨none,.store (.t 6) 2 (.t 13),none,[6]⟩] [1,2,4,5,6]) (.seq (.seq (.ops [⟨some 14,.mv (.t 1),none,[]⟩,⟨some 15,.fad (.t 2) 1,none,[2]⟩,⟨some 16,.load 1 false (.t 15),none,[2]⟩,⟨some 17,.bin .geq (.t 14) (.t 16),none,[]⟩] [1,2,4,5,6,17]) (.cond (.t 17) (.seq (.ops [⟨some 18,.load 2 true (.t 6),none,[6]⟩,⟨some 19,.call 154 [],none,[]⟩,⟨none,.store (.t 4) 2 (.t 18),none,[4]⟩,⟨none,.store (.t 5) 2 (.t 19),none,[5]⟩] [4,5]) .ret) .skip)) (.seq (.ops [⟨some 20,.load 2 true (.t 6),none,[6]⟩,⟨some 21,.fad (.t 2) 0,none,[2]⟩,⟨some 22,.load 1 false (.t 21),none,[2]⟩,⟨some 23,.mv (.t 1),none,[]⟩,⟨some 24,.bin .add (.t 23) (.c (.int .i64 1)),none,[]⟩,⟨some 25,.mnmx true (.t 22) (.t 24),none,[]⟩,⟨some 26,.fad (.t 2) 1,none,[2]⟩,⟨some 27,.load 1 false (.t 26),none,[2]⟩,⟨some 28,.call 153 [.t 25,.t 27],none,[]⟩,⟨none,.store (.t 4) 2 (.t 20),none,[4]⟩,⟨none,.store (.t 5) 2 (.t 28),none,[5]⟩] [4,5]) .ret)))
theorem r113_11:type_of% (rr c113_11.eq_1):=rr rfl
def a113:AFun:=⟨2,29,c113_11,[.cell 4 2 true,.cell 5 2 true]⟩
attribute [simp] r113_11
theorem m113:mFun Tryz.prog Tryz.f113 a113=true:=by decide +kernel
def c52_23:ACode:=.seq (.ops [⟨some 1,.box (.t 0) 10,none,[]⟩,⟨some 2,.mv (.c (.bool false)),none,[]⟩] [1]) (.seq (.seq (.ops [⟨some 5,.load 10 true (.t 1),none,[1]⟩,⟨some 6,.mv (.c (.int .i64 0)),none,[]⟩] [5,6]) (.block 0 (.loop (.keep [5,6] [] (.seq (.ops [⟨some 7,.bin .lss (.t 6) (.c (.int .i64 5)),none,[]⟩] [5,6,7]) (.seq (.cond (.t 7) .skip (.exit 0)) (.seq (.block 1 (.seq (.ops [⟨some 8,.idx (.t 5) (.t 6) 2 5 true,none,[]⟩,⟨some 4,.alloc [.int .i64 0,.int .i64 0],none,[]⟩,⟨none,.store (.t 4) 2 (.t 8),none,[4]⟩] [4,5,6]) (.seq (.ops [⟨some 9,.load 2 true (.t 4),none,[4]⟩,⟨some 10,.call 81 [.t 9],none,[]⟩] [5,6,10]) (.cond (.t 10) (.seq (.ops [⟨some 2,.mv (.c (.bool true)),none,[]⟩] [2]) .ret) .skip)))) (.ops [⟨some 11,.bin .add (.t 6) (.c (.int .i64 1)),none,[]⟩,⟨some 6,.mv (.t 11),none,[]⟩] [5,6])))))))) (.seq (.ops [⟨some 2,.mv (.c (.bool false)),none,[]⟩] [2]) .ret))
theorem r52_23:type_of% (rr c52_23.eq_1):=rr rfl
def a52:AFun:=⟨1,12,c52_23,[.t 2]⟩
attribute [simp] r52_23
theorem m52:mFun Tryz.prog Tryz.f52 a52=true:=by decide +kernel
def c68_10:ACode:=.seq (.ops [⟨some 3,.box (.t 0) 10,none,[]⟩,⟨some 6,.alloc [.int .i64 0,.int .i64 0,.int .i64 0,.int .i64 0,.int .i64 0,.int .i64 0,.int .i64 0,.int .i64 0,.int .i64 0,.int .i64 0],none,[]⟩,⟨some 7,.alloc [.int .i64 0,.int .i64 0,.int .i64 0,.int .i64 0,.int .i64 0,.int .i64 0,.int .i64 0,.int .i64 0,.int .i64 0,.int .i64 0],none,[]⟩] [1,2,3,6,7]) (.seq (.ops [⟨some 10,.load 10 true (.t 3),none,[3]⟩,⟨some 11,.load 10 true (.t 3),none,[3]⟩,⟨some 8,.alloc [.int .i64 0,.int .i64 0,.int .i64 0,.int .i64 0,.int .i64 0,.int .i64 0,.int .i64 0,.int .i64 0,.int .i64 0,.int .i64 0],none,[]⟩,⟨some 9,.alloc [.int .i64 0,.int .i64 0,.int .i64 0,.int .i64 0,.int .i64 0,.int .i64 0,.int .i64 0,.int .i64 0,.int .i64 0,.int .i64 0],none,[]⟩,⟨none,.store (.t 8) 10 (.t 10),none,[8]⟩,⟨none,.store (.t 9) 10 (.t 11),none,[9]⟩] [1,2,3,6,7,8,9]) (.seq (.seq (.ops [⟨some 12,.mv (.t 1),none,[]⟩,⟨some 13,.bin .geq (.t 12) (.c (.int .i64 0)),none,[]⟩,⟨some 14,.mv (.t 13),none,[]⟩,⟨some 15,.mv (.t 1),some (14,true),[]⟩,⟨some 16,.bin .lss (.t 15) (.c (.int .i64 5)),some (14,true),[]⟩,⟨some 17,.pick (.t 14) (.t 16) (.c (.bool false)),none,[]⟩] [1,2,3,6,7,8,9,17]) (.cond (.t 17) (.ops [⟨some 19,.mv (.t 1),none,[]⟩,⟨some 20,.mv (.t 1),none,[]⟩,⟨some 21,.mv (.t 1),none,[]⟩,⟨some 22,.iad (.t 3) (.t 21) 2 5,none,[3]⟩,⟨some 23,.load 2 true (.t 22),none,[3]⟩,⟨some 24,.mv (.t 2),none,[]⟩,⟨some 25,.call 113 [.t 23,.t 24],none,[]⟩,⟨some 18,.mv (.t 25),none,[]⟩,⟨some 26,.ext (.t 18) 0,none,[]⟩,⟨some 27,.ext (.t 18) 1,none,[]⟩,⟨some 28,.iad (.t 8) (.t 19) 2 5,none,[8]⟩,⟨none,.store (.t 28) 2 (.t 26),none,[8]⟩,⟨some 29,.iad (.t 9) (.t 20) 2 5,none,[9]⟩,⟨none,.store (.t 29) 2 (.t 27),none,[9]⟩] [6,7,8,9]) .skip)) (.seq (.ops [⟨some 30,.load 10 true (.t 8),none,[8]⟩,⟨some 31,.load 10 true (.t 9),none,[9]⟩,⟨none,.store (.t 6) 10 (.t 30),none,[6]⟩,⟨none,.store (.t 7) 10 (.t 31),none,[7]⟩] [6,7]) .ret)))
theorem r68_10:type_of% (rr c68_10.eq_1):=rr rfl
def a68:AFun:=⟨3,32,c68_10,[.cell 6 10 true,.cell 7 10 true]⟩
attribute [simp] r68_10
theorem m68:mFun Tryz.prog Tryz.f68 a68=true:=by decide +kernel
theorem runs_none (c:Span) (h:some noneS=some c):Runs (tbl []) a154 [] (Arg.enc c):=by
 cases h
 refine⟨rfl,fun g=>run_def ?_⟩
 unfold a154
 simp -implicitDefEqProofs [noneS]
theorem c_none:Contract Tryz.prog 154 (sp0 (some noneS)):=contract_of_runs mixed tbl_nil Tryz.func154 m154 (sp0_runs runs_none)
theorem runs_of (lo hi:Int) (c:Span) (h:some (ofS lo hi)=some c):Runs (tbl [(154,sp0 (some noneS))]) a153 [Arg.enc lo,Arg.enc hi] (Arg.enc c):=by
 cases h
 refine⟨rfl,fun g=>run_def ?_⟩
 unfold a153
 by_cases h1:hi<lo<;>simp -implicitDefEqProofs [ofS,noneS,h1]
theorem c_of:Contract Tryz.prog 153 (sp2 fun lo hi=>some (ofS lo hi)) :=
 contract_of_runs mixed (tbl_cons c_none tbl_nil) Tryz.func153 m153 (sp2_runs runs_of)
theorem runs_sEmpty (s:Span) (c:Bool) (h:some s.empty=some c):Runs (tbl []) a81 [Arg.enc s] (Arg.enc c):=by
 cases h
 refine⟨rfl,fun g=>run_def ?_⟩
 unfold a81
 simp -implicitDefEqProofs [Span.empty]
theorem c_sEmpty:Contract Tryz.prog 81 (sp1 fun (s:Span)=>some s.empty):=contract_of_runs mixed tbl_nil Tryz.func81 m81 (sp1_runs runs_sEmpty)
def CutS (s:Span) (n:Int):Option (Span×Span):=if ok64 n∧ok64 s.hi then some (cutS s n) else none
theorem runs_sCut (s:Span) (n:Int) (c:Span×Span) (h:CutS s n=some c):Runs (tbl [(153,sp2 fun lo hi=>some (ofS lo hi)),(154,sp0 (some noneS))]) a113 [Arg.enc s,Arg.enc n] (Arg.enc c):=by
 unfold CutS at h
 split at h
 ·rename_i hb
  cases h
  obtain⟨⟨b1,b2⟩,b3,b4⟩:=hb
  refine⟨rfl,fun g=>run_def ?_⟩
  unfold a113
  by_cases h1:s.hi≤n
  ·by_cases h2:n<s.hi
   ·omega
   ·simp -implicitDefEqProofs [cutS,noneS,h1,h2]
  ·have e:IntKind.i64.wrap (n+1)=n+1:=wrap64 (by omega) (by omega)
   have h2:n<s.hi:=by omega
   simp -implicitDefEqProofs [cutS,h1,h2,e]
 ·cases h
theorem c_sCut:Contract Tryz.prog 113 (sp2 CutS) :=
 contract_of_runs mixed (tbl_cons c_of (tbl_cons c_none tbl_nil)) Tryz.func113 m113 (sp2_runs runs_sCut)
theorem runs_bEmpty (b:Box) (c:Bool) (h:some b.empty=some c):Runs (tbl [(81,sp1 fun (s:Span)=>some s.empty)]) a52 [Arg.enc b] (Arg.enc c):=by
 cases h
 refine⟨rfl,fun g=>run_def ?_⟩
 unfold a52
 cases h0:b.s0.empty
 case true=>simp -implicitDefEqProofs [Box.empty,run_round,h0]
 cases h1:b.s1.empty
 case true=>simp -implicitDefEqProofs [Box.empty,run_round,h0,h1]
 cases h2:b.s2.empty
 case true=>simp -implicitDefEqProofs [Box.empty,run_round,h0,h1,h2]
 cases h3:b.s3.empty
 case true=>simp -implicitDefEqProofs [Box.empty,run_round,h0,h1,h2,h3]
 cases h4:b.s4.empty<;>simp -implicitDefEqProofs [Box.empty,run_round,h0,h1,h2,h3,h4]
theorem c_bEmpty:Contract Tryz.prog 52 (sp1 fun (b:Box)=>some b.empty) :=
 contract_of_runs mixed (tbl_cons c_sEmpty tbl_nil) Tryz.func52 m52 (sp1_runs runs_bEmpty)
def CutB (b:Box) (p n:Int):Option (Box×Box):=if ok64 n∧ok64 (b.get p).hi then some (cutB b p n) else none
theorem runs_bCut (b:Box) (p n:Int) (c:Box×Box) (h:CutB b p n=some c):Runs (tbl [(113,sp2 CutS)]) a68 [Arg.enc b,Arg.enc p,Arg.enc n] (Arg.enc c):=by
 unfold CutB at h
 split at h
 ·rename_i hb
  cases h
  obtain⟨b1,b2⟩:=hb
  refine⟨rfl,fun g=>run_def ?_⟩
  unfold a68
  by_cases h1:0≤p
  case neg=>simp -implicitDefEqProofs [cutB,h1]
  by_cases h2:p<5
  case neg=>simp -implicitDefEqProofs [cutB,h1,h2]
  have hp:p=0∨p=1∨p=2∨p=3∨p=4:=by omega
  rcases hp with rfl|rfl|rfl|rfl|rfl<;>simp[Box.get] at b2<;>simp -implicitDefEqProofs [cutB,Box.get,Box.set,CutS,b1,b2]
 ·cases h
theorem c_bCut:Contract Tryz.prog 68 (sp3 CutB) :=
 contract_of_runs mixed (tbl_cons c_sCut tbl_nil) Tryz.func68 m68 (sp3_runs runs_bCut)
end Go.Co
/- CO: right trees of words; a tree that is grown of numbers is right. -/
namespace Go.Co
theorem pack_okW (n:Node):okW (pack n).v:=by
 unfold pack okW
 split
 ·rename_i h
  obtain⟨leaf,value,feature,cut,left,right⟩:=n
  cases leaf<;>simp[rightNode,fits] at h ⊢<;>omega
 ·simp
theorem raw_pack (n:Node) (h:rightNode n=true):raw (pack n).v=n:=by
 obtain⟨leaf,value,feature,cut,left,right⟩:=n
 have hb:=h
 unfold pack raw
 rw[if_pos h]
 cases leaf
 ·simp[rightNode,fits] at hb
  obtain⟨⟨⟨⟨⟨⟨⟨h0,h1⟩,h2⟩,h3,h4⟩,h5⟩,h6⟩,h7⟩,h8⟩:=hb
  have e:(cut % 4294967296+feature*4294967296+left*1099511627776+right*281474976710656)/9223372036854775808≠1:=by omega
  simp only[Bool.false_eq_true,if_false,wrap32,if_neg e,Node.mk.injEq,true_and]
  refine⟨?_, ?_, ?_, ?_, ?_⟩<;>omega
 ·simp[rightNode,fits] at hb
  obtain⟨⟨⟨⟨⟨h0,h1⟩,h2⟩,h3⟩,h4⟩,h5⟩:=hb
  have e:(9223372036854775808+value % 4294967296)/9223372036854775808=1:=by omega
  simp only[if_true,wrap32,if_pos e,Node.mk.injEq,true_and,h2,h3,h4,h5,and_true]
  omega
theorem unpack_pack (n:Node) (h:rightNode n=true):unpack (pack n)=(n,true):=by
 unfold unpack
 rw[raw_pack n h]
 simp[h]
theorem unpack_true {w:Word} (h:(unpack w).2=true):rightNode (unpack w).1=true∧pack (unpack w).1=w:=by
 unfold unpack at *
 split at h
 ·rename_i hh
  rw[if_pos hh]
  simpa using hh
 ·cases h
def nd (w:Word):Node:=(unpack w).1
theorem nd_pack (n:Node) (h:rightNode n=true):nd (pack n)=n:=by unfold nd;rw[unpack_pack n h]
def names (n:Node) (j:Nat):Bool := !n.leaf&&(decide (n.left=j)||decide (n.right=j))
structure RT (l:List Word) (dim:Int):Prop where
 ok:∀(i:Nat) (h:i<l.length),okW l[i].v∧(unpack l[i]).2=true
 pos:1≤l.length
 le:l.length≤31
 inner:∀(i:Nat) (h:i<l.length),(nd l[i]).leaf=false→(nd l[i]).feature<dim∧(nd l[i]).left≠(nd l[i]).right∧(i:Int)<(nd l[i]).left∧(nd l[i]).left<l.length∧(i:Int)<(nd l[i]).right∧(nd l[i]).right<l.length
 once:∀ j:Nat,1≤j→j<l.length→l.countP (fun w=>names (nd w) j)=1
structure NT (l:List Node) (dim:Int):Prop where
 ok:∀ n∈l,rightNode n=true
 pos:1≤l.length
 le:l.length≤31
 inner:∀(i:Nat) (h:i<l.length),l[i].leaf=false→l[i].feature<dim∧l[i].left≠l[i].right∧(i:Int)<l[i].left∧l[i].left<l.length∧(i:Int)<l[i].right∧l[i].right<l.length
 once:∀ j:Nat,1≤j→j<l.length→l.countP (fun n=>names n j)=1
theorem NT.words {l:List Node} {dim:Int} (h:NT l dim):RT (l.map pack) dim:=by
 have hp:∀(i:Nat) (hi:i<l.length),nd (pack l[i])=l[i]:=fun i hi=>nd_pack _ (h.ok _ (List.getElem_mem hi))
 refine⟨?_,by simpa using h.pos,by simpa using h.le, ?_, ?_⟩
 ·intro i hi
  simp only[List.getElem_map]
  have hi2:i<l.length:=by simpa using hi
  exact⟨pack_okW _,by rw[unpack_pack _ (h.ok _ (List.getElem_mem hi2))]⟩
 ·intro i hi
  have hi2:i<l.length:=by simpa using hi
  simp only[List.getElem_map,List.length_map,hp i hi2]
  exact h.inner i hi2
 ·intro j h1 h2
  rw[List.countP_map]
  rw[← h.once j h1 (by simpa using h2)]
  refine List.countP_congr fun n hn=>?_
  simp[nd_pack n (h.ok n hn)]
def leafN (v:Int):Node:=⟨true,v,0,0,0,0⟩
structure Gr where
 nodes:List Node
 leaves:List Int
def grow0 (t:KTree):Gr:=⟨[leafN (within (pick t.val 0) (-3000) 3000)],[0]⟩
def growK (t:KTree) (i:Nat) (s:Gr):Nat:=(within (t.part.getD i 0) 0 (s.leaves.length-1)).toNat
def growN (t:KTree) (dim:Int) (i:Nat) (n:Int):Node:=⟨false,0,within (pick t.dir i) 0 (dim-1),within (pick t.cut i) 0 9,n,n+1⟩
def growS (t:KTree) (dim:Int) (i:Nat) (s:Gr):Gr :=
 ⟨s.nodes.set (s.leaves.getD (growK t i s) 0).toNat (growN t dim i s.nodes.length)++[leafN (within (pick t.val (2*i+1)) (-3000) 3000),leafN (within (pick t.val (2*i+2)) (-3000) 3000)],
  s.leaves.take (growK t i s)++s.leaves.drop (growK t i s+1)++[(s.nodes.length:Int),s.nodes.length+1]⟩
def grow (t:KTree) (dim:Int):Nat→Gr
 | 0=>grow0 t
 | i+1=>growS t dim i (grow t dim i)
def treeNodes (t:KTree) (dim:Int):List Word:=(grow t dim (min t.part.length 7)).nodes.map pack
theorem within_le (n lo hi:Int) (h:lo≤hi):lo≤within n lo hi∧within n lo hi≤hi:=by
 unfold within
 have h1:=Int.emod_nonneg n (show hi-lo+1≠0 by omega)
 have h2:=Int.emod_lt_of_pos n (show 0<hi-lo+1 by omega)
 omega
theorem right_leafN (n:Int):rightNode (leafN (within n (-3000) 3000))=true:=by
 have:=within_le n (-3000) 3000 (by omega)
 have h1:fits (within n (-3000) 3000)=true:=by
  unfold fits
  rw[Bool.and_eq_true,decide_eq_true_eq,decide_eq_true_eq]
  omega
 simp[rightNode,leafN,h1]
structure GI (dim:Int) (i:Nat) (s:Gr):Prop where
 len:s.nodes.length=2*i+1
 lvs:s.leaves.length=i+1
 leaf:∀ x∈s.leaves,0≤x∧∃ h:x.toNat<s.nodes.length,(s.nodes[x.toNat]).leaf=true
 dis:s.leaves.Nodup
 ok:∀ n∈s.nodes,rightNode n=true
 val:∀ n∈s.nodes,-3000≤n.value∧n.value≤3000
 inner:∀(i:Nat) (h:i<s.nodes.length),s.nodes[i].leaf=false→s.nodes[i].feature<dim∧0≤s.nodes[i].cut∧s.nodes[i].cut≤9∧(i:Int)<s.nodes[i].left∧s.nodes[i].right=s.nodes[i].left+1∧s.nodes[i].right<s.nodes.length
 once:∀ j:Nat,1≤j→j<s.nodes.length→s.nodes.countP (fun n=>names n j)=1
theorem gi0 (t:KTree) (dim:Int):GI dim 0 (grow0 t):=by
 refine⟨rfl,rfl, ?_,by simp[grow0], ?_, ?_, ?_, ?_⟩
 ·intro x hx
  simp[grow0] at hx
  subst hx
  exact⟨by omega,by simp[grow0],rfl⟩
 ·intro n hn
  simp[grow0] at hn
  subst hn
  exact right_leafN _
 ·intro n hn
  simp[grow0] at hn
  subst hn
  exact within_le _ _ _ (by omega)
 ·intro i h hl
  simp[grow0] at h
  subst h
  simp[grow0,leafN] at hl
 ·intro j h1 h2
  simp[grow0] at h2
  omega
theorem nodup_cut {l:List Int} (h:l.Nodup) (k:Nat):(l.take k++l.drop (k+1)).Nodup:=by
 refine List.Nodup.sublist ?_ h
 have:l.take k++l.drop (k+1)=l.eraseIdx k:=(List.eraseIdx_eq_take_drop_succ l k).symm
 rw[this]
 exact List.eraseIdx_sublist l k
theorem mem_cut_ne {l:List Int} (h:l.Nodup) (k:Nat) (hk:k<l.length) {x:Int} (hx:x∈l.take k++l.drop (k+1)):x∈l∧x≠l[k]:=by
 rw[← List.eraseIdx_eq_take_drop_succ] at hx
 rw[List.mem_eraseIdx_iff_getElem] at hx
 obtain⟨j,hj,hne,rfl⟩:=hx
 refine⟨List.getElem_mem _,fun e=>?_⟩
 rw[List.Nodup] at h
 exact hne ((List.getElem_inj (h₀:=hj) (h₁:=hk) h).1 e)
theorem gi_step (t:KTree) (dim:Int) (i:Nat) (s:Gr) (hd:1≤dim) (hd4:dim≤4) (hi:i<7) (h:GI dim i s):GI dim (i+1) (growS t dim i s):=by
 obtain⟨len,lvs,leaf,dis,ok,val,inner,once⟩:=h
 have hk:=within_le (t.part.getD i 0) 0 (s.leaves.length-1) (by omega)
 have hk2:growK t i s<s.leaves.length:=by unfold growK;omega
 unfold growS
 generalize growK t i s=k at *
 have hat:s.leaves.getD k 0=s.leaves[k]:=by simp[hk2]
 obtain⟨h0,hl1,hl2⟩:=leaf _ (List.getElem_mem hk2)
 rw[hat]
 generalize ha:s.leaves[k].toNat=a at *
 have hw1:=within_le (pick t.dir i) 0 (dim-1) (by omega)
 have hw2:=within_le (pick t.cut i) 0 9 (by omega)
 generalize hN:growN t dim i s.nodes.length=N at *
 have N1:N.leaf=false:=by rw[← hN];rfl
 have N2:N.left=s.nodes.length:=by rw[← hN];rfl
 have N3:N.right=s.nodes.length+1:=by rw[← hN];rfl
 have N4:0≤N.feature∧N.feature<dim:=by rw[← hN];unfold growN;simp only;omega
 have N5:0≤N.cut∧N.cut≤9:=by rw[← hN];unfold growN;simp only;omega
 have N6:N.value=0:=by rw[← hN];rfl
 have hR:=right_leafN (pick t.val (2*i+1))
 have hR2:=right_leafN (pick t.val (2*i+2))
 have hv:=within_le (pick t.val (2*i+1)) (-3000) 3000 (by omega)
 have hv2:=within_le (pick t.val (2*i+2)) (-3000) 3000 (by omega)
 generalize within (pick t.val (2*i+1)) (-3000) 3000=v1 at *
 generalize within (pick t.val (2*i+2)) (-3000) 3000=v2 at *
 have hlen:(s.nodes.set a N++[leafN v1,leafN v2]).length=s.nodes.length+2:=by simp
 have hget:∀(j:Nat) (hj:j<(s.nodes.set a N++[leafN v1,leafN v2]).length),(s.nodes.set a N++[leafN v1,leafN v2])[j]=if j=a then N else if h:j<s.nodes.length then s.nodes[j] else if j=s.nodes.length then leafN v1 else leafN v2:=by
  intro j hj
  rw[List.getElem_append]
  by_cases h1:j<s.nodes.length
  ·simp only[List.length_set,h1,dif_pos,List.getElem_set]
   by_cases h2:j=a
   ·simp[h2]
   ·have:¬ a=j:=fun e=>h2 e.symm
    simp[h2,this]
  ·have h2:¬ j=a:=by omega
   simp only[List.length_set,h1,dif_neg,not_false_iff,h2,if_false]
   have:j=s.nodes.length∨j=s.nodes.length+1:=by simp at hj;omega
   rcases this with rfl|rfl
   ·simp
   ·simp
 have hmem:∀ n∈s.nodes.set a N++[leafN v1,leafN v2],n=N∨n∈s.nodes∨n=leafN v1∨n=leafN v2:=by
  intro n hn
  rw[List.mem_append] at hn
  rcases hn with hn|hn
  ·rcases List.mem_or_eq_of_mem_set hn with h1|h1
   ·exact Or.inr (Or.inl h1)
   ·exact Or.inl h1
  ·simp at hn
   rcases hn with h1|h1
   ·exact Or.inr (Or.inr (Or.inl h1))
   ·exact Or.inr (Or.inr (Or.inr h1))
 refine⟨by simp only[hlen];omega, ?_, ?_, ?_, ?_, ?_, ?_, ?_⟩
 ·simp
  omega
 ·intro x hx
  rw[List.mem_append] at hx
  rcases hx with hx|hx
  ·obtain⟨hx1,hx2⟩:=mem_cut_ne dis k hk2 hx
   obtain⟨hx0,hx3,hx4⟩:=leaf x hx1
   have hne:¬ x.toNat=a:=by
    intro e
    apply hx2
    omega
   refine⟨hx0,by rw[hlen];omega, ?_⟩
   rw[hget,if_neg hne,dif_pos hx3]
   exact hx4
  ·simp at hx
   rcases hx with rfl|rfl
   ·refine⟨by omega,by rw[hlen];omega, ?_⟩
    rw[hget,if_neg (by omega),dif_neg (by omega)]
    simp[leafN]
   ·refine⟨by omega,by rw[hlen];omega, ?_⟩
    rw[hget,if_neg (by omega),dif_neg (by omega)]
    split<;>rfl
 ·rw[List.nodup_append]
  refine⟨nodup_cut dis k, ?_, ?_⟩
  ·simp
   omega
  ·intro x hx y hy e
   subst e
   obtain⟨hx1,hx2⟩:=mem_cut_ne dis k hk2 hx
   obtain⟨hx0,hx3,hx4⟩:=leaf x hx1
   simp at hy
   omega
 ·intro n hn
  rcases hmem n hn with rfl|h1|rfl|rfl
  ·simp[rightNode,N1,N2,N3,N6,fits]
   omega
  ·exact ok n h1
  ·exact hR
  ·exact hR2
 ·intro n hn
  rcases hmem n hn with rfl|h1|rfl|rfl
  ·omega
  ·exact val n h1
  ·exact hv
  ·exact hv2
 ·intro j hj
  simp only[hlen]
  rw[hget j hj]
  intro hl
  split at hl
  ·rename_i e
   subst e
   simp only[if_true]
   omega
  ·rename_i e
   rw[if_neg e]
   split at hl
   ·rename_i hj2
    rw[dif_pos hj2]
    have:=inner j hj2 hl
    omega
   ·split at hl<;>cases hl
 ·intro j h1 h2
  rw[hlen] at h2
  rw[List.countP_append,List.countP_set hl1]
  have e1:names s.nodes[a] j=false:=by simp[names,hl2]
  have e2:names (leafN v1) j=false:=by simp[names,leafN]
  have e3:names (leafN v2) j=false:=by simp[names,leafN]
  simp only[e1,List.countP_cons,e2,e3,List.countP_nil,Bool.false_eq_true,if_false]
  by_cases hj:j<s.nodes.length
  ·have e4:names N j=false:=by simp[names,N1,N2,N3];omega
   simp[e4,once j h1 hj]
  ·have e4:names N j=true:=by simp[names,N1,N2,N3];omega
   have e5:s.nodes.countP (fun n=>names n j)=0:=by
    rw[List.countP_eq_zero]
    intro n hn
    obtain⟨m,hm,rfl⟩:=List.getElem_of_mem hn
    intro hc
    simp[names] at hc
    have:=inner m hm hc.1
    omega
   simp[e4,e5]
theorem gi (t:KTree) (dim:Int) (hd:1≤dim) (hd4:dim≤4):∀ i,i≤7→GI dim i (grow t dim i)
 | 0,_=>gi0 t dim
 | i+1,h=>gi_step t dim i _ hd hd4 (by omega) (gi t dim hd hd4 i (by omega))
theorem GI.nt {dim:Int} {i:Nat} {s:Gr} (hi:i≤7) (h:GI dim i s):NT s.nodes dim:=by
 refine⟨h.ok,by have:=h.len;omega,by have:=h.len;omega, ?_,h.once⟩
 intro j hj hl
 have:=h.inner j hj hl
 omega
theorem rt_treeNodes (t:KTree) (dim:Int) (hd:1≤dim) (hd4:dim≤4):RT (treeNodes t dim) dim :=
 ((gi t dim hd hd4 _ (Nat.min_le_right _ _)).nt (Nat.min_le_right _ _)).words
end Go.Co
/- CO: right models, right queries; what numbers make is right. -/
namespace Go.Co
def Bias.get (b:Bias) (c:Int):Int:=if c=0 then b.b0 else if c=1 then b.b1 else b.b2
structure RM (m:Model):Prop where
 dim:1≤m.dim∧m.dim≤4
 classes:1≤m.classes∧m.classes≤3
 bias:fits m.bias.b0=true∧fits m.bias.b1=true∧fits m.bias.b2=true
 none1:m.classes≤1→m.bias.b1=0
 none2:m.classes≤2→m.bias.b2=0
 trees:m.trees.length≤8
 tree:∀ t∈m.trees,0≤t.cls∧t.cls<m.classes∧RT t.nodes m.dim
def mDim (f:Forest):Int:=within f.dim 1 3
def mClasses (f:Forest):Int:=within f.classes 1 3
def mBias (f:Forest) (c:Nat):Int:=if (c:Int)<mClasses f then within (pick f.bias c) (-500) 500 else 0
def mTree (f:Forest) (t:KTree):Tree:=⟨within t.cls 0 (mClasses f-1),treeNodes t (mDim f)⟩
def modelOf (f:Forest):Model:=⟨mDim f,mClasses f,⟨mBias f 0,mBias f 1,mBias f 2⟩,(f.trees.take 4).map (mTree f)⟩
theorem mDim_le (f:Forest):1≤mDim f∧mDim f≤3:=within_le _ _ _ (by omega)
theorem mClasses_le (f:Forest):1≤mClasses f∧mClasses f≤3:=within_le _ _ _ (by omega)
theorem mBias_le (f:Forest) (c:Nat):-500≤mBias f c∧mBias f c≤500:=by
 unfold mBias
 split
 ·exact within_le _ _ _ (by omega)
 ·omega
theorem fits_of {n:Int} (h:-2147483648≤n∧n≤2147483647):fits n=true:=by
 unfold fits
 rw[Bool.and_eq_true,decide_eq_true_eq,decide_eq_true_eq]
 exact h
theorem of_fits {n:Int} (h:fits n=true):-2147483648≤n∧n≤2147483647:=by
 unfold fits at h
 rw[Bool.and_eq_true,decide_eq_true_eq,decide_eq_true_eq] at h
 exact h
theorem rm_modelOf (f:Forest):RM (modelOf f):=by
 have hd:=mDim_le f
 have hc:=mClasses_le f
 have hb:∀ c,fits (mBias f c)=true:=fun c=>fits_of (by have:=mBias_le f c;omega)
 refine⟨⟨hd.1,show mDim f≤4 by omega⟩,hc,⟨hb 0,hb 1,hb 2⟩, ?_, ?_, ?_, ?_⟩
 ·intro h
  show mBias f 1=0
  have h:mClasses f≤1:=h
  unfold mBias
  rw[if_neg (by omega)]
 ·intro h
  show mBias f 2=0
  have h:mClasses f≤2:=h
  unfold mBias
  rw[if_neg (by omega)]
 ·simp[modelOf]
  omega
 ·intro t ht
  simp only[modelOf,List.mem_map] at ht
  obtain⟨k,hk,rfl⟩:=ht
  have:=within_le k.cls 0 (mClasses f-1) (by omega)
  refine⟨this.1, ?_,rt_treeNodes k (mDim f) hd.1 (by omega)⟩
  show within k.cls 0 (mClasses f-1)<mClasses f
  omega
def rSpan (dim:Int) (l:List Int) (i:Nat):Span :=
 if (i:Int)<dim then ⟨within (pick l (2*i)) (-2) 9,within (pick l (2*i)) (-2) 9+within (pick l (2*i+1)) 0 11⟩ else ⟨0,0⟩
def regionOf (dim:Int) (l:List Int):Box:=⟨rSpan dim l 0,rSpan dim l 1,rSpan dim l 2,rSpan dim l 3,⟨0,0⟩⟩
theorem rSpan_le (dim:Int) (l:List Int) (i:Nat):-2≤(rSpan dim l i).lo∧(rSpan dim l i).lo≤(rSpan dim l i).hi∧(rSpan dim l i).hi≤20:=by
 have h1:=within_le (pick l (2*i)) (-2) 9 (by omega)
 have h2:=within_le (pick l (2*i+1)) 0 11 (by omega)
 unfold rSpan
 split
 ·simp only
  omega
 ·simp only
  omega
theorem rSpan_out {dim:Int} (l:List Int) {i:Nat} (h:dim≤i):rSpan dim l i=⟨0,0⟩:=by
 unfold rSpan
 rw[if_neg (by omega)]
def okSpan (dim:Int) (i:Int) (s:Span):Bool:=(decide (i<dim)||decide (s=⟨0,0⟩)) && !s.empty&&fits s.lo&&fits s.hi
def okRegion (b:Box) (dim:Int):Bool:=okSpan dim 0 b.s0&&okSpan dim 1 b.s1&&okSpan dim 2 b.s2&&okSpan dim 3 b.s3&&okSpan dim 4 b.s4
def okKind (m:Model) (q:Query):Bool :=
 if q.kind=1 then decide (q.lo≤q.hi)&&decide (q.feature=0) && !q.falls
 else if q.kind=2 then decide (2≤m.classes)&&decide (q.lo=0)&&decide (q.hi=0)&&decide (q.feature=0) && !q.falls
 else if q.kind=3 then decide (0≤q.feature)&&decide (q.feature<m.dim)&&decide (q.lo=0)&&decide (q.hi=0)
 else false
def okQuery (m:Model) (q:Query):Bool:=decide (0≤q.cls)&&decide (q.cls<m.classes)&&decide (0≤q.budget)&&decide (q.budget≤65536)&&okRegion q.region m.dim&&okKind m q
def qKind (m:Model) (a:Ask):Int:=if within a.kind 1 3=2∧m.classes<2 then 1 else within a.kind 1 3
def queryOf (m:Model) (a:Ask):Query where
 kind:=qKind m a
 cls:=within a.cls 0 (m.classes-1)
 region:=regionOf m.dim a.spans
 lo:=if qKind m a=1 then within a.lo (-9000) 9000 else 0
 hi:=if qKind m a=1 then within a.lo (-9000) 9000+within a.size 0 18000 else 0
 feature:=if qKind m a=3 then within a.feature 0 (m.dim-1) else 0
 falls:=if qKind m a=3 then a.falls else false
 budget:=within a.budget 0 65536
theorem okRegion_regionOf (dim:Int) (l:List Int) (h:dim≤4):okRegion (regionOf dim l) dim=true:=by
 have key:∀ i:Nat,okSpan dim i (rSpan dim l i)=true:=by
  intro i
  have h1:=rSpan_le dim l i
  unfold okSpan
  have h2:(rSpan dim l i).empty=false:=by
   unfold Span.empty
   rw[decide_eq_false_iff_not]
   omega
  rw[h2,fits_of (n:=(rSpan dim l i).lo) (by omega),fits_of (n:=(rSpan dim l i).hi) (by omega)]
  by_cases h3:(i:Int)<dim
  ·simp[h3]
  ·have:=rSpan_out (dim:=dim) l (i:=i) (by omega)
   simp[this]
 have k0:=key 0
 have k1:=key 1
 have k2:=key 2
 have k3:=key 3
 have k4:okSpan dim 4 ⟨0,0⟩=true:=by
  have:fits 0=true:=rfl
  simp[okSpan,Span.empty,this]
 unfold okRegion regionOf
 simp only[k4,Bool.and_true,Bool.and_eq_true]
 exact⟨⟨⟨k0,k1⟩,k2⟩,k3⟩
theorem qKind_le (m:Model) (a:Ask):1≤qKind m a∧qKind m a≤3:=by
 have:=within_le a.kind 1 3 (by omega)
 unfold qKind
 split<;>omega
theorem ok_queryOf (m:Model) (a:Ask) (h:RM m):okQuery m (queryOf m a)=true:=by
 have h1:=within_le a.cls 0 (m.classes-1) (by have:=h.classes;omega)
 have h2:=within_le a.budget 0 65536 (by omega)
 have h3:=okRegion_regionOf m.dim a.spans h.dim.2
 have h4:okKind m (queryOf m a)=true:=by
  have h5:=qKind_le m a
  have h6:qKind m a=1∨qKind m a=2∨qKind m a=3:=by omega
  have h7:=within_le a.size 0 18000 (by omega)
  have h8:=within_le a.feature 0 (m.dim-1) (by have:=h.dim;omega)
  unfold okKind queryOf
  rcases h6 with e|e|e
  ·simp[e]
   omega
  ·simp[e]
   unfold qKind at e
   split at e<;>omega
  ·simp[e]
   omega
 unfold okQuery
 rw[h4]
 simp[queryOf,h3]
 omega
end Go.Co
