/- CO: texts of this claim, one behind the other. -/
import Derived.Test.YtlbfmeijjgphfaaGreatDoorCz7
import Derived.Test.YtlbfmeijjgphfaaGreatDoorCz1
import Derived.Test.YtlbfmeijjgphfaaGreatDoorAm4
import Derived.Test.YtlbfmeijjgphfaaGreatDoorCz3
import Derived.Test.YtlbfmeijjgphfaaGreatDoorCz5
set_option linter.unusedVariables false
set_option linter.unusedSimpArgs false
/- CO: the cells of a box; does a query hold? -/
set_option maxHeartbeats 16000000
set_option maxRecDepth 100000
namespace Go.Co
open Go.Am Go.Proofs
attribute [-simp] Go.Am.eff_gcall
def c45_33:ACode:=.seq (.ops [⟨some 50,.bin .lss (.t 49) (.t 48),none,[]⟩] [4,5,6,13,14,15,17,33,41,42,43,47,48,49,50]) (.seq (.cond (.t 50) .skip (.exit 4)) (.seq (.block 5 (.seq (.ops [⟨some 51,.ias (.t 47) (.t 49) 1,none,[]⟩,⟨some 52,.load 1 false (.t 51),none,[]⟩,⟨some 19,.mv (.t 52),none,[]⟩] [4,5,6,13,14,15,17,19,33,41,42,43,47,48,49]) (.seq (.ops [⟨some 20,.alloc [.int .i64 0,.int .i64 0,.int .i64 0,.int .i64 0,.int .i64 0,.int .i64 0,.int .i64 0,.int .i64 0,.int .i64 0,.int .i64 0],none,[]⟩] [4,5,6,13,14,15,17,19,20,33,41,42,43,47,48,49]) (.seq (.ops [⟨some 54,.load 10 true (.t 17),none,[17]⟩,⟨some 55,.mv (.t 13),none,[]⟩,⟨some 56,.mv (.t 19),none,[]⟩,⟨some 57,.call 68 [.t 54,.t 55,.t 56],none,[]⟩,⟨some 53,.mv (.t 57),none,[]⟩,⟨some 58,.ext (.t 53) 0,none,[]⟩,⟨some 59,.ext (.t 53) 1,none,[]⟩,⟨none,.store (.t 20) 10 (.t 58),none,[20]⟩,⟨none,.store (.t 17) 10 (.t 59),none,[17]⟩] [4,5,6,13,14,15,17,20,33,41,42,43,47,48,49]) (.ops [⟨some 60,.mv (.t 15),none,[]⟩,⟨some 61,.load 10 true (.t 20),none,[20]⟩,⟨some 62,.mkrow 62 1 10 [.int .i64 0,.int .i64 0,.int .i64 0,.int .i64 0,.int .i64 0,.int .i64 0,.int .i64 0,.int .i64 0,.int .i64 0,.int .i64 0] [(0,10,.t 61)],none,[]⟩,⟨some 63,.app 15 [15] (.t 60) (.t 62) 10,none,[15,62]⟩,⟨some 15,.mv (.t 63),none,[]⟩] [4,5,6,13,14,15,17,33,41,42,43,47,48,49]))))) (.ops [⟨some 64,.bin .add (.t 49) (.c (.int .i64 1)),none,[]⟩,⟨some 49,.mv (.t 64),none,[]⟩] [4,5,6,13,14,15,17,33,41,42,43,47,48,49])))
theorem r45_33:type_of% (rr c45_33.eq_1):=rr rfl
def c45_45:ACode:=.seq (.ops [⟨some 44,.bin .lss (.t 43) (.t 42),none,[]⟩] [4,5,6,13,14,15,33,41,42,43,44]) (.seq (.cond (.t 44) .skip (.exit 2)) (.seq (.block 3 (.seq (.ops [⟨some 45,.ias (.t 41) (.t 43) 10,none,[12]⟩,⟨some 46,.load 10 true (.t 45),none,[12]⟩,⟨some 17,.alloc [.int .i64 0,.int .i64 0,.int .i64 0,.int .i64 0,.int .i64 0,.int .i64 0,.int .i64 0,.int .i64 0,.int .i64 0,.int .i64 0],none,[]⟩,⟨none,.store (.t 17) 10 (.t 46),none,[17]⟩] [4,5,6,13,14,15,17,33,41,42,43]) (.seq (.seq (.ops [⟨some 47,.mv (.t 14),none,[]⟩,⟨some 48,.len (.t 47),none,[]⟩,⟨some 49,.mv (.c (.int .i64 0)),none,[]⟩] [4,5,6,13,14,15,17,33,41,42,43,47,48,49]) (.block 4 (.loop (.keep [4,5,6,13,14,15,17,33,41,42,43,47,48,49] [4,5,6,12,15,17] c45_33)))) (.ops [⟨some 65,.mv (.t 15),none,[]⟩,⟨some 66,.load 10 true (.t 17),none,[17]⟩,⟨some 67,.mkrow 67 1 10 [.int .i64 0,.int .i64 0,.int .i64 0,.int .i64 0,.int .i64 0,.int .i64 0,.int .i64 0,.int .i64 0,.int .i64 0,.int .i64 0] [(0,10,.t 66)],none,[]⟩,⟨some 68,.app 15 [15] (.t 65) (.t 67) 10,none,[15,67]⟩,⟨some 15,.mv (.t 68),none,[]⟩] [4,5,6,13,14,15,33,41,42,43])))) (.ops [⟨some 69,.bin .add (.t 43) (.c (.int .i64 1)),none,[]⟩,⟨some 43,.mv (.t 69),none,[]⟩] [4,5,6,13,14,15,33,41,42,43])))
theorem r45_45:type_of% (rr c45_45.eq_1):=rr rfl
def c45_59:ACode:=.seq (.ops [⟨some 34,.bin .lss (.t 33) (.c (.int .i64 5)),none,[]⟩] [4,5,6,12,33,34]) (.seq (.cond (.t 34) .skip (.exit 0)) (.seq (.block 1 (.seq (.ops [⟨some 35,.mv (.t 33),none,[]⟩,⟨some 13,.mv (.t 35),none,[]⟩] [4,5,6,12,13,33]) (.seq (.ops [⟨some 36,.load 6 true (.t 4),none,[4]⟩,⟨some 37,.load 17 true (.t 5),none,[5]⟩,⟨some 38,.load 10 true (.t 6),none,[6]⟩,⟨some 39,.mv (.t 13),none,[]⟩,⟨some 40,.call 54 [.t 36,.t 37,.t 38,.t 39],none,[]⟩,⟨some 14,.mv (.t 40),none,[]⟩] [4,5,6,12,13,14,33]) (.seq (.ops [⟨some 15,.nil0 15 10,none,[]⟩] [4,5,6,12,13,14,15,33]) (.seq (.seq (.ops [⟨some 41,.mv (.t 12),none,[]⟩,⟨some 42,.len (.t 41),none,[12]⟩,⟨some 43,.mv (.c (.int .i64 0)),none,[]⟩] [4,5,6,13,14,15,33,41,42,43]) (.block 2 (.loop (.keep [4,5,6,13,14,15,33,41,42,43] [4,5,6,12,15] c45_45)))) (.ops [⟨some 70,.mv (.t 15),none,[]⟩,⟨some 12,.frz (.t 70),none,[15]⟩] [4,5,6,12,33])))))) (.ops [⟨some 71,.bin .add (.t 33) (.c (.int .i64 1)),none,[]⟩,⟨some 33,.mv (.t 71),none,[]⟩] [4,5,6,12,33])))
theorem r45_59:type_of% (rr c45_59.eq_1):=rr rfl
def c45_69:ACode:=.seq (.ops [⟨some 4,.box (.t 0) 6,none,[]⟩,⟨some 5,.box (.t 1) 17,none,[]⟩,⟨some 6,.box (.t 2) 10,none,[]⟩,⟨some 8,.mv (.c (.nils)),none,[]⟩,⟨some 9,.mv (.c (.bool false)),none,[]⟩] [3,4,5,6]) (.seq (.seq (.ops [⟨some 22,.load 6 true (.t 4),none,[4]⟩,⟨some 23,.load 17 true (.t 5),none,[5]⟩,⟨some 24,.load 10 true (.t 6),none,[6]⟩,⟨some 25,.mv (.t 3),none,[]⟩,⟨some 26,.call 29 [.t 22,.t 23,.t 24,.t 25],none,[]⟩,⟨some 21,.mv (.t 26),none,[]⟩,⟨some 27,.ext (.t 21) 0,none,[]⟩,⟨some 28,.ext (.t 21) 1,none,[]⟩,⟨some 10,.mv (.t 27),none,[]⟩,⟨some 11,.mv (.t 28),none,[]⟩] [4,5,6,11]) (.seq (.ops [⟨some 29,.mv (.t 11),none,[]⟩,⟨some 30,.un .not (.t 29),none,[]⟩] [4,5,6,30]) (.cond (.t 30) (.seq (.ops [⟨some 8,.mv (.c (.nils)),none,[]⟩,⟨some 9,.mv (.c (.bool false)),none,[]⟩] [8,9]) .ret) .skip))) (.seq (.ops [⟨some 31,.load 10 true (.t 6),none,[6]⟩,⟨some 32,.mkrow 12 1 10 [.int .i64 0,.int .i64 0,.int .i64 0,.int .i64 0,.int .i64 0,.int .i64 0,.int .i64 0,.int .i64 0,.int .i64 0,.int .i64 0] [(0,10,.t 31)],none,[]⟩,⟨some 12,.mv (.t 32),none,[]⟩] [4,5,6,12]) (.seq (.seq (.ops [⟨some 33,.mv (.c (.int .i64 0)),none,[]⟩] [4,5,6,12,33]) (.block 0 (.loop (.keep [4,5,6,12,33] [4,5,6,12] c45_59)))) (.seq (.ops [⟨some 72,.mv (.t 12),none,[]⟩,⟨some 8,.mv (.t 72),none,[]⟩,⟨some 9,.mv (.c (.bool true)),none,[]⟩] [8,9]) .ret))))
theorem r45_69:type_of% (rr c45_69.eq_1):=rr rfl
def a45:AFun:=⟨4,73,c45_69,[.t 8,.t 9]⟩
attribute [simp] r45_33 r45_45 r45_59 r45_69
theorem m45:mFun Tryz.prog Tryz.f45 a45=true:=by decide +kernel
def c48_21:ACode:=.seq (.ops [⟨some 1,.box (.t 0) 10,none,[]⟩,⟨some 2,.alloc [.int .i64 0,.int .i64 0,.int .i64 0,.int .i64 0],none,[]⟩] [1,2]) (.seq (.ops [⟨some 3,.alloc [.int .i64 0,.int .i64 0,.int .i64 0,.int .i64 0],none,[]⟩] [1,2,3]) (.seq (.seq (.ops [⟨some 5,.mv (.c (.int .i64 0)),none,[]⟩] [1,2,3,5]) (.block 0 (.loop (.keep [1,2,3,5] [1,2,3] (.seq (.ops [⟨some 6,.bin .lss (.t 5) (.c (.int .i64 4)),none,[]⟩] [1,2,3,5,6]) (.seq (.cond (.t 6) .skip (.exit 0)) (.seq (.block 1 (.seq (.ops [⟨some 7,.mv (.t 5),none,[]⟩,⟨some 4,.mv (.t 7),none,[]⟩] [1,2,3,4,5]) (.ops [⟨some 8,.mv (.t 4),none,[]⟩,⟨some 9,.mv (.t 4),none,[]⟩,⟨some 10,.iad (.t 1) (.t 9) 2 5,none,[1]⟩,⟨some 11,.fad (.t 10) 0,none,[1]⟩,⟨some 12,.load 1 false (.t 11),none,[1]⟩,⟨some 13,.iad (.t 3) (.t 8) 1 4,none,[3]⟩,⟨none,.store (.t 13) 1 (.t 12),none,[3]⟩] [1,2,3,5]))) (.ops [⟨some 14,.bin .add (.t 5) (.c (.int .i64 1)),none,[]⟩,⟨some 5,.mv (.t 14),none,[]⟩] [1,2,3,5])))))))) (.seq (.ops [⟨some 15,.load 4 true (.t 3),none,[3]⟩,⟨none,.store (.t 2) 4 (.t 15),none,[2]⟩] [2]) .ret)))
theorem r48_21:type_of% (rr c48_21.eq_1):=rr rfl
def a48:AFun:=⟨1,16,c48_21,[.cell 2 4 true]⟩
attribute [simp] r48_21
theorem m48:mFun Tryz.prog Tryz.f48 a48=true:=by decide +kernel
def c47_3:ACode:=.seq (.ops [⟨some 3,.box (.t 0) 10,none,[]⟩,⟨some 4,.mv (.c (.bool false)),none,[]⟩] [1,2,3]) (.seq (.ops [⟨some 5,.load 6 true (.t 1),none,[]⟩,⟨some 6,.load 17 true (.t 2),none,[]⟩,⟨some 7,.load 10 true (.t 3),none,[3]⟩,⟨some 8,.call 48 [.t 7],none,[]⟩,⟨some 9,.iad (.t 3) (.c (.int .i64 4)) 2 5,none,[3]⟩,⟨some 10,.fad (.t 9) 1,none,[3]⟩,⟨some 11,.load 1 false (.t 10),none,[3]⟩,⟨some 12,.call 19 [.t 5,.t 6,.t 8,.t 11],none,[]⟩,⟨some 4,.mv (.t 12),none,[]⟩] [4]) .ret)
theorem r47_3:type_of% (rr c47_3.eq_1):=rr rfl
def a47:AFun:=⟨3,13,c47_3,[.t 4]⟩
attribute [simp] r47_3
theorem m47:mFun Tryz.prog Tryz.f47 a47=true:=by decide +kernel
def c78_15:ACode:=.seq (.ops [⟨some 9,.bin .lss (.t 8) (.t 7),none,[]⟩] [0,1,7,8,9]) (.seq (.cond (.t 9) .skip (.exit 0)) (.seq (.block 1 (.seq (.ops [⟨some 10,.mv (.t 8),none,[]⟩,⟨some 5,.mv (.t 10),none,[]⟩] [0,1,5,7,8]) (.seq (.ops [⟨some 11,.mv (.t 1),none,[]⟩,⟨some 12,.mv (.t 0),none,[]⟩,⟨some 13,.mv (.t 5),none,[]⟩,⟨some 14,.ias (.t 12) (.t 13) 10,none,[]⟩,⟨some 15,.load 10 true (.t 14),none,[]⟩,⟨some 16,.dyn (.t 11) [.t 15],none,[]⟩] [0,1,5,7,8,16]) (.cond (.t 16) (.seq (.ops [⟨some 17,.mv (.t 5),none,[]⟩,⟨some 4,.mv (.t 17),none,[]⟩] [4]) .ret) .skip)))) (.ops [⟨some 18,.bin .add (.t 8) (.c (.int .i64 1)),none,[]⟩,⟨some 8,.mv (.t 18),none,[]⟩] [0,1,7,8])))
theorem r78_15:type_of% (rr c78_15.eq_1):=rr rfl
def c78_23:ACode:=.seq (.ops [⟨some 4,.mv (.c (.int .i64 0)),none,[]⟩] [0,1]) (.seq (.seq (.ops [⟨some 6,.mv (.t 0),none,[]⟩,⟨some 7,.len (.t 6),none,[]⟩,⟨some 8,.mv (.c (.int .i64 0)),none,[]⟩] [0,1,7,8]) (.block 0 (.loop (.keep [0,1,7,8] [] c78_15)))) (.seq (.ops [⟨some 4,.mv (.c (.int .i64 (-1))),none,[]⟩] [4]) .ret))
theorem r78_23:type_of% (rr c78_23.eq_1):=rr rfl
def a78:AFun:=⟨2,19,c78_23,[.t 4]⟩
attribute [simp] r78_15 r78_23
theorem m78:mFun Tryz.prog Tryz.f78 a78=true:=by decide +kernel
def c46_3:ACode:=.seq (.ops [⟨some 4,.mv (.c (.bool false)),none,[]⟩] [0,1]) (.seq (.ops [⟨some 5,.mv (.t 0),none,[]⟩,⟨some 6,.mv (.t 1),none,[]⟩,⟨some 7,.call 78 [.t 5,.t 6],none,[]⟩,⟨some 8,.bin .geq (.t 7) (.c (.int .i64 0)),none,[]⟩,⟨some 4,.mv (.t 8),none,[]⟩] [4]) .ret)
theorem r46_3:type_of% (rr c46_3.eq_1):=rr rfl
def a46:AFun:=⟨2,9,c46_3,[.t 4]⟩
attribute [simp] r46_3
theorem m46:mFun Tryz.prog Tryz.f46 a46=true:=by decide +kernel
def c23_11:ACode:=.seq (.ops [⟨some 3,.box (.t 0) 6,none,[]⟩,⟨some 4,.box (.t 1) 17,none,[]⟩,⟨some 6,.mv (.c (.bool false)),none,[]⟩,⟨some 7,.mv (.c (.bool false)),none,[]⟩] [2,3,4]) (.seq (.ops [⟨some 11,.load 6 true (.t 3),none,[3]⟩,⟨some 12,.load 17 true (.t 4),none,[4]⟩,⟨some 13,.load 17 true (.t 4),none,[4]⟩,⟨some 14,.call 15 [.t 13],none,[]⟩,⟨some 15,.mv (.t 2),none,[]⟩,⟨some 16,.call 45 [.t 11,.t 12,.t 14,.t 15],none,[]⟩,⟨some 10,.mv (.t 16),none,[]⟩,⟨some 17,.ext (.t 10) 0,none,[]⟩,⟨some 18,.ext (.t 10) 1,none,[]⟩,⟨some 8,.mv (.t 17),none,[]⟩,⟨some 9,.mv (.t 18),none,[]⟩] [3,4,8,9]) (.seq (.seq (.ops [⟨some 19,.mv (.t 9),none,[]⟩,⟨some 20,.un .not (.t 19),none,[]⟩] [3,4,8,20]) (.cond (.t 20) (.seq (.ops [⟨some 6,.mv (.c (.bool false)),none,[]⟩,⟨some 7,.mv (.c (.bool false)),none,[]⟩] [6,7]) .ret) .skip)) (.seq (.ops [⟨some 21,.mv (.t 8),none,[]⟩,⟨some 22,.clo 47 [.t 3,.t 4],none,[3,4]⟩,⟨some 23,.call 46 [.t 21,.t 22],none,[]⟩,⟨some 24,.un .not (.t 23),none,[]⟩,⟨some 6,.mv (.t 24),none,[]⟩,⟨some 7,.mv (.c (.bool true)),none,[]⟩] [6,7]) .ret)))
theorem r23_11:type_of% (rr c23_11.eq_1):=rr rfl
def a23:AFun:=⟨3,25,c23_11,[.t 6,.t 7]⟩
attribute [simp] r23_11
theorem m23:mFun Tryz.prog Tryz.f23 a23=true:=by decide +kernel
def doneC (k:Int) (ts:List Int) (L:List Box) (j:Nat):List Box:=(L.take j).flatMap (splitC k ts)
theorem doneC_succ (k:Int) (ts:List Int) (L:List Box) {j:Nat} (h:j<L.length):doneC k ts L (j+1)=doneC k ts L j++splitC k ts L[j]:=by
 unfold doneC
 rw[List.take_succ_eq_append_getElem h,List.flatMap_append]
 simp
theorem doneC_le (k:Int) (ts:List Int) (L:List Box) (j:Nat):(doneC k ts L j).length≤(L.flatMap (splitC k ts)).length:=by
 unfold doneC
 rw[flat_len,flat_len]
 exact Nat.mul_le_mul_right _ (List.length_take_le' j L)
theorem lenB (l:List Box):l.length*10≤(encL l).length:=by rw[encL_length];exact Nat.le_refl _
theorem takeB (l:List Box):List.take (l.length*10) (encL l)=encL l:=by rw[List.take_of_length_le];rw[encL_length];exact Nat.le_refl _
theorem encL_snocB (X:List Box) (c:Box):encL (X++[c])=encL X++[.int .i64 c.s0.lo,.int .i64 c.s0.hi,.int .i64 c.s1.lo,.int .i64 c.s1.hi,.int .i64 c.s2.lo,.int .i64 c.s2.hi,.int .i64 c.s3.lo,.int .i64 c.s3.hi,.int .i64 c.s4.lo,.int .i64 c.s4.hi]:=by rw[encL_append];rfl
noncomputable def CellsC (m:Model) (q:Query) (b:Box) (most:Int):Option (List Box×Bool):=Part (RM m∧okB b∧most≤1000000) (if countM m q b≤most then (stageC m q b 5,true) else ([],false))
theorem runs_Cells (m:Model) (q:Query) (b:Box) (most:Int) (r:List Box×Bool) (h:CellsC m q b most=some r):Runs (tbl [(29,sp4 CountC),(54,sp4 CutsC),(68,sp3 CutB)]) a45 [Arg.enc m,Arg.enc q,Arg.enc b,Arg.enc most] (Arg.enc r):=by
 obtain⟨⟨hm,hb,hmost⟩,rfl⟩:=part_some h
 clear h
 refine⟨rfl,fun g=>run_def ?_⟩
 unfold a45
 have hC:CountC m q b most=some (if countM m q b≤most then (countM m q b,true) else (0,false)):=part_of hm _
 by_cases hc:countM m q b≤most
 case neg =>
  rw[if_neg hc] at hC ⊢
  simp -implicitDefEqProofs [hC,encL_nil]
 rw[if_pos hc] at hC ⊢
 simp -implicitDefEqProofs [hC]
 refine run_while (c:=c45_59) (fun n s=>∃(p:Nat) (V:AV) (g:Nat→Nat),p+n=5∧((p=0∧V=.own 12 (g 12) 0 1∧stageC m q b p=[b])∨V=.lst (stageC m q b p).length (encL (stageC m q b p)))∧s=⟨[(4,.ptr 4 (g 4) 0),(5,.ptr 5 (g 5) 0),(6,.ptr 6 (g 6) 0),(12,V),(33,.int .i64 p)],
  [(4,⟨Row.enc m,false,0⟩),(5,⟨Row.enc q,false,0⟩),(6,⟨Row.enc b,false,0⟩),(12,⟨encL [b],false,10⟩)],g⟩) 5 ⟨0,.own 12 (bump 12 (bump 6 (bump 5 (bump 4 g))) 12) 0 1,bump 12 (bump 6 (bump 5 (bump 4 g))),by omega,by simp[stageC],by simp[encL]⟩ ?_
 rintro n s ⟨p,V,g,hp,hV,rfl⟩
 have hsl:=stage_count hm q b (j:=p)
 by_cases h1:p<5
 case neg =>
  have hp5:p=5:=by omega
  subst hp5
  have hV':V=.lst (stageC m q b 5).length (encL (stageC m q b 5)):=by
   rcases hV with⟨h,_⟩|h
   ·cases h
   ·exact h
  subst hV'
  simp -implicitDefEqProofs []
 have w1:IntKind.i64.wrap ((p:Int)+1)=(p:Int)+1:=wrap64 (by omega) (by omega)
 have hK:CutsC m q b p=some (cutsL m q b p):=part_of ⟨hm,.inr ⟨by omega,by omega⟩⟩ _
 have hkl:(cutsL m q b p).length≤248:=by rw[cutsL_len];exact cutN_le hm q b p
 have hS:stageC m q b (p+1)=(stageC m q b p).flatMap (splitC p (cutsL m q b p)):=rfl
 have hSl:=stage_count hm q b (j:=p+1)
 have hok:=stage_ok hm hb (q:=q) p
 have htk:=cuts_ok hm (q:=q) (b:=b) (i:=p)
 have hsl:=hsl (by omega)
 have hSl:=hSl (by omega)
 have h1i:(p:Int)<5:=by omega
 have p0:(0:Int)≤p:=by omega
 have m1:1≤maxN:=by decide
 generalize hSe:stageC m q b (p+1)=S at *
 generalize stageC m q b p=L at *
 generalize cutsL m q b p=ts at *
 have b1:ts.length≤maxN:=by unfold maxN;omega
 have b2:L.length≤maxN:=by unfold maxN;omega
 rcases hV with⟨_,rfl,rfl⟩|rfl
 ·simp -implicitDefEqProofs [h1i,hK,m1,b2]
  refine run_while (c:=c45_45) (fun n s=>∃(j:Nat) (g':Nat→Nat),j+n=1∧g' 12=g 12∧s=⟨[(4,.ptr 4 (g' 4) 0),(5,.ptr 5 (g' 5) 0),(6,.ptr 6 (g' 6) 0),(13,.int .i64 p),(14,.lst ts.length (encL ts)),(15,.own 15 (g' 15) 0 (doneC p ts [b] j).length),(33,.int .i64 p),(41,.own 12 (g 12) 0 1),(42,.int .i64 1),(43,.int .i64 j)],
   [(4,⟨Row.enc m,false,0⟩),(5,⟨Row.enc q,false,0⟩),(6,⟨Row.enc b,false,0⟩),(12,⟨encL [b],false,10⟩),(15,⟨encL (doneC p ts [b] j),false,10⟩)],g'⟩) 1 ⟨0,bump 15 g,by omega,by simp,by simp[encL_nil,doneC]⟩ ?_
  rintro n2 s ⟨j,g',hj,hg,rfl⟩
  have hDl:=doneC_le p ts [b] j
  rw[← hS] at hDl
  have nn0:(doneC p ts [b] j).length≤maxN:=by unfold maxN;omega
  by_cases h2:j<1
  case neg =>
   have hj1:j=1:=by omega
   subst hj1
   have hD:doneC p ts [b] 1=S:=by rw[hS];unfold doneC;simp
   have h2i:¬ ((1:Int)<1):=by omega
   rw[hD]
   simp -implicitDefEqProofs [w1,h2i,lenB,takeB]
   exact⟨n-1,by omega,p+1,by omega,.inr ⟨⟨by rw[hSe],by rw[hSe]⟩,by omega⟩⟩
  case pos =>
   have h2i:(j:Int)<1:=by omega
   have hrow:=rd_box [b] j (by simpa using h2)
   have hcj:okB ([b][j]'(by simpa using h2)):=hok _ (List.getElem_mem _)
   have hD:=doneC_succ p ts [b] (j:=j) (by simpa using h2)
   have hDl':=doneC_le p ts [b] (j+1)
   rw[← hS,hD,List.length_append] at hDl'
   generalize [b][j]'(by simpa using h2)=c0 at *
   have w2:IntKind.i64.wrap ((j:Int)+1)=(j:Int)+1:=wrap64 (by omega) (by omega)
   generalize hD1:doneC p ts [b] (j+1)=D1 at *
   generalize doneC p ts [b] j=D0 at *
   simp -implicitDefEqProofs [h2,h2i,hg,hrow,b1]
   refine run_while (c:=c45_33) (fun n s=>∃(i:Nat) (c':Box) (pre:List Box) (g'':Nat→Nat),i+n=ts.length∧okB c'∧pre.length=i∧pre++splitC p (ts.drop i) c'=splitC p ts c0∧g'' 12=g 12∧s=⟨[(4,.ptr 4 (g'' 4) 0),(5,.ptr 5 (g'' 5) 0),(6,.ptr 6 (g'' 6) 0),(13,.int .i64 p),(14,.lst ts.length (encL ts)),(15,.own 15 (g'' 15) 0 (D0++pre).length),(17,.ptr 17 (g'' 17) 0),(33,.int .i64 p),(41,.own 12 (g 12) 0 1),(42,.int .i64 1),(43,.int .i64 j),(47,.lst ts.length (encL ts)),(48,.int .i64 ts.length),(49,.int .i64 i)],
    [(4,⟨Row.enc m,false,0⟩),(5,⟨Row.enc q,false,0⟩),(6,⟨Row.enc b,false,0⟩),(12,⟨encL [b],false,10⟩),(15,⟨encL (D0++pre),false,10⟩),(17,⟨Row.enc c',false,0⟩)],g''⟩) ts.length ⟨0,c0,[],bump 17 g',by omega,hcj,rfl,by simp,by simp[hg],by simp⟩ ?_
   rintro n3 s ⟨i,c',pre,g'',hi,hc',hpl,hsp,hg'',rfl⟩
   have nn:(D0++pre).length≤maxN:=by rw[List.length_append];unfold maxN;omega
   have nn2:(D0++pre).length≤1099511627775:=by rw[List.length_append];omega
   have w3:IntKind.i64.wrap ((i:Int)+1)=(i:Int)+1:=wrap64 (by omega) (by omega)
   generalize hX:D0++pre=X at *
   by_cases h3:i<ts.length
   case pos =>
    have hrd:=rd_ints ts i h3
    have hCu:=cutB_of hc' p (htk _ (List.getElem_mem h3))
    have hok2:=okB_cut hc' p (htk _ (List.getElem_mem h3))
    rw[List.drop_eq_getElem_cons h3,splitC] at hsp
    generalize cutB c' p ts[i]=z at *
    obtain⟨x,y⟩:=z
    simp only at hsp hok2
    simp -implicitDefEqProofs [h3,hrd,hCu,w3,nn,nn2,lenB,takeB]
    exact⟨n3-1,by omega,i+1,by omega,y,hok2.2,pre++[x],by simp[hpl],by simpa using hsp,bump 15 (bump 62 (bump 20 g'')),by simp[hg''],⟨by simp,by simp,by simp,⟨by simp,by rw[← hX];simp;omega⟩,by simp,by omega⟩,⟨by rw[← List.append_assoc,hX,encL_snocB],rfl,rfl,rfl,rfl,rfl,rfl,rfl,rfl,rfl,rfl⟩,rfl⟩
   case neg =>
    have hi3:i=ts.length:=by omega
    subst hi3
    rw[List.drop_length,splitC] at hsp
    simp -implicitDefEqProofs [h3,w2,nn,nn2,lenB,takeB]
    have hDf:doneC p ts [b] (j+1)=X++[c']:=by rw[hD1,hD,← hsp,← List.append_assoc,hX]
    exact⟨n2-1,by omega,j+1,by omega,bump 15 (bump 67 g''),by simp[hg''],⟨by simp,by simp,by simp,⟨by simp,by rw[hDf];simp⟩,by omega⟩,by rw[hDf,encL_snocB],rfl⟩
 ·simp -implicitDefEqProofs [h1i,hK,m1,b2]
  refine run_while (c:=c45_45) (fun n s=>∃(j:Nat) (g':Nat→Nat),j+n=L.length∧g' 12=g 12∧s=⟨[(4,.ptr 4 (g' 4) 0),(5,.ptr 5 (g' 5) 0),(6,.ptr 6 (g' 6) 0),(13,.int .i64 p),(14,.lst ts.length (encL ts)),(15,.own 15 (g' 15) 0 (doneC p ts L j).length),(33,.int .i64 p),(41,.lst L.length (encL L)),(42,.int .i64 L.length),(43,.int .i64 j)],
   [(4,⟨Row.enc m,false,0⟩),(5,⟨Row.enc q,false,0⟩),(6,⟨Row.enc b,false,0⟩),(12,⟨encL [b],false,10⟩),(15,⟨encL (doneC p ts L j),false,10⟩)],g'⟩) L.length ⟨0,bump 15 g,by omega,by simp,by simp[encL_nil,doneC]⟩ ?_
  rintro n2 s ⟨j,g',hj,hg,rfl⟩
  have hDl:=doneC_le p ts L j
  rw[← hS] at hDl
  have nn0:(doneC p ts L j).length≤maxN:=by unfold maxN;omega
  by_cases h2:j<L.length
  case neg =>
   have hj1:j=L.length:=by omega
   subst hj1
   have hD:doneC p ts L L.length=S:=by rw[hS];unfold doneC;simp
   have h2i:¬ ((L.length:Int)<L.length):=by omega
   rw[hD]
   simp -implicitDefEqProofs [w1,h2i,lenB,takeB]
   exact⟨n-1,by omega,p+1,by omega,.inr ⟨⟨by rw[hSe],by rw[hSe]⟩,by omega⟩⟩
  case pos =>
   have h2i:(j:Int)<L.length:=by omega
   have hrow:=rd_box L j (by simpa using h2)
   have hcj:okB (L[j]'(by simpa using h2)):=hok _ (List.getElem_mem _)
   have hD:=doneC_succ p ts L (j:=j) (by simpa using h2)
   have hDl':=doneC_le p ts L (j+1)
   rw[← hS,hD,List.length_append] at hDl'
   generalize L[j]'(by simpa using h2)=c0 at *
   have w2:IntKind.i64.wrap ((j:Int)+1)=(j:Int)+1:=wrap64 (by omega) (by omega)
   generalize hD1:doneC p ts L (j+1)=D1 at *
   generalize doneC p ts L j=D0 at *
   simp -implicitDefEqProofs [h2,h2i,hg,hrow,b1]
   refine run_while (c:=c45_33) (fun n s=>∃(i:Nat) (c':Box) (pre:List Box) (g'':Nat→Nat),i+n=ts.length∧okB c'∧pre.length=i∧pre++splitC p (ts.drop i) c'=splitC p ts c0∧g'' 12=g 12∧s=⟨[(4,.ptr 4 (g'' 4) 0),(5,.ptr 5 (g'' 5) 0),(6,.ptr 6 (g'' 6) 0),(13,.int .i64 p),(14,.lst ts.length (encL ts)),(15,.own 15 (g'' 15) 0 (D0++pre).length),(17,.ptr 17 (g'' 17) 0),(33,.int .i64 p),(41,.lst L.length (encL L)),(42,.int .i64 L.length),(43,.int .i64 j),(47,.lst ts.length (encL ts)),(48,.int .i64 ts.length),(49,.int .i64 i)],
    [(4,⟨Row.enc m,false,0⟩),(5,⟨Row.enc q,false,0⟩),(6,⟨Row.enc b,false,0⟩),(12,⟨encL [b],false,10⟩),(15,⟨encL (D0++pre),false,10⟩),(17,⟨Row.enc c',false,0⟩)],g''⟩) ts.length ⟨0,c0,[],bump 17 g',by omega,hcj,rfl,by simp,by simp[hg],by simp⟩ ?_
   rintro n3 s ⟨i,c',pre,g'',hi,hc',hpl,hsp,hg'',rfl⟩
   have nn:(D0++pre).length≤maxN:=by rw[List.length_append];unfold maxN;omega
   have nn2:(D0++pre).length≤1099511627775:=by rw[List.length_append];omega
   have w3:IntKind.i64.wrap ((i:Int)+1)=(i:Int)+1:=wrap64 (by omega) (by omega)
   generalize hX:D0++pre=X at *
   by_cases h3:i<ts.length
   case pos =>
    have hrd:=rd_ints ts i h3
    have hCu:=cutB_of hc' p (htk _ (List.getElem_mem h3))
    have hok2:=okB_cut hc' p (htk _ (List.getElem_mem h3))
    rw[List.drop_eq_getElem_cons h3,splitC] at hsp
    generalize cutB c' p ts[i]=z at *
    obtain⟨x,y⟩:=z
    simp only at hsp hok2
    simp -implicitDefEqProofs [h3,hrd,hCu,w3,nn,nn2,lenB,takeB]
    exact⟨n3-1,by omega,i+1,by omega,y,hok2.2,pre++[x],by simp[hpl],by simpa using hsp,bump 15 (bump 62 (bump 20 g'')),by simp[hg''],⟨by simp,by simp,by simp,⟨by simp,by rw[← hX];simp;omega⟩,by simp,by omega⟩,⟨by rw[← List.append_assoc,hX,encL_snocB],rfl,rfl,rfl,rfl,rfl,rfl,rfl,rfl,rfl,rfl⟩,rfl⟩
   case neg =>
    have hi3:i=ts.length:=by omega
    subst hi3
    rw[List.drop_length,splitC] at hsp
    simp -implicitDefEqProofs [h3,w2,nn,nn2,lenB,takeB]
    have hDf:doneC p ts L (j+1)=X++[c']:=by rw[hD1,hD,← hsp,← List.append_assoc,hX]
    exact⟨n2-1,by omega,j+1,by omega,bump 15 (bump 67 g''),by simp[hg''],⟨by simp,by simp,by simp,⟨by simp,by rw[hDf];simp⟩,by omega⟩,by rw[hDf,encL_snocB],rfl⟩
theorem c_Cells:Contract Tryz.prog 45 (sp4 CellsC) :=
 contract_of_runs mixed (tbl_cons c_Count (tbl_cons c_Cuts (tbl_cons c_bCut tbl_nil))) Tryz.func45 m45 (sp4_runs runs_Cells)
theorem runs_Low (b:Box) (r:Point) (h:some (lowB b)=some r):Runs (tbl []) a48 [Arg.enc b] (Arg.enc r):=by
 cases h
 refine⟨rfl,fun g=>run_def ?_⟩
 unfold a48 lowB
 simp -implicitDefEqProofs [run_round]
theorem c_Low:Contract Tryz.prog 48 (sp1 fun b=>some (lowB b)) :=
 contract_of_runs mixed tbl_nil Tryz.func48 m48 (sp1_runs runs_Low)
def corner (m:Model) (q:Query) (b:Box):Bool:=breaks m q (lowB b) b.s4.hi
noncomputable def CornerC (b:Box) (m:Ref Model) (q:Ref Query):Option Bool:=Part (RM m.v) (corner m.v q.v b)
@[simp] theorem dec_ref_query (q:Query):(Arg.dec (.ipt 0 [.int .i64 q.kind,.int .i64 q.cls,.int .i64 q.region.s0.lo,.int .i64 q.region.s0.hi,.int .i64 q.region.s1.lo,.int .i64 q.region.s1.hi,.int .i64 q.region.s2.lo,.int .i64 q.region.s2.hi,.int .i64 q.region.s3.lo,.int .i64 q.region.s3.hi,.int .i64 q.region.s4.lo,.int .i64 q.region.s4.hi,.int .i64 q.lo,.int .i64 q.hi,.int .i64 q.feature,.bool q.falls,.int .i64 q.budget]):Option (Ref Query))=some ⟨q⟩:=Arg.dec_enc (⟨q⟩:Ref Query)
theorem runs_Corner (b:Box) (m:Ref Model) (q:Ref Query) (r:Bool) (h:CornerC b m q=some r):Runs (tbl [(48,sp1 fun b=>some (lowB b)),(19,sp4 BreaksC)]) a47 [Arg.enc b,Arg.enc m,Arg.enc q] (Arg.enc r):=by
 obtain⟨hm,rfl⟩:=part_some h
 clear h
 obtain⟨m⟩:=m
 obtain⟨q⟩:=q
 simp only at hm
 refine⟨rfl,fun g=>run_def ?_⟩
 unfold a47 corner
 have hB:BreaksC m q (lowB b) b.s4.hi=some (breaks m q (lowB b) b.s4.hi):=part_of hm _
 simp -implicitDefEqProofs [hB]
theorem c_Corner:Contract Tryz.prog 47 (sp3 CornerC) :=
 contract_of_runs mixed (tbl_cons c_Low (tbl_cons c_Breaks tbl_nil)) Tryz.func47 m47 (sp3_runs runs_Corner)
structure CloH where
 m:Model
 q:Query
instance:Arg CloH where
 enc r:=.clo 47 [.ipt 0 (Row.enc r.m),.ipt 0 (Row.enc r.q)]
 dec x:=match x with
  | .clo f [.ipt 0 xs,.ipt 0 ys]=>if f=47 then (Row.dec xs).bind fun m=>(Row.dec ys).map fun q=>CloH.mk m q else none
  | _=>none
 dec_enc r:=by simp only[if_true,Row.dec_enc];rfl
 enc_dec x r h:=by
  split at h
  ·split at h
   ·rename_i he
    rw[Option.bind_eq_some_iff] at h
    obtain⟨a,ha,h⟩:=h
    rw[Option.map_eq_some_iff] at h
    obtain⟨c,hc,rfl⟩:=h
    rw[Row.enc_dec _ _ ha,Row.enc_dec _ _ hc,he]
   ·cases h
  ·cases h
@[simp] theorem enc_cloh (r:CloH):Arg.enc r=.clo 47 [.ipt 0 (Row.enc r.m),.ipt 0 (Row.enc r.q)]:=rfl
@[simp] theorem dec_cloh (m:Model) (q:Query):(Arg.dec (.clo 47 [.ipt 0 [.int .i64 m.dim,.int .i64 m.classes,.int .i64 m.bias.b0,.int .i64 m.bias.b1,.int .i64 m.bias.b2,.lst m.trees.length (encL m.trees)],.ipt 0 [.int .i64 q.kind,.int .i64 q.cls,.int .i64 q.region.s0.lo,.int .i64 q.region.s0.hi,.int .i64 q.region.s1.lo,.int .i64 q.region.s1.hi,.int .i64 q.region.s2.lo,.int .i64 q.region.s2.hi,.int .i64 q.region.s3.lo,.int .i64 q.region.s3.hi,.int .i64 q.region.s4.lo,.int .i64 q.region.s4.hi,.int .i64 q.lo,.int .i64 q.hi,.int .i64 q.feature,.bool q.falls,.int .i64 q.budget]]):Option CloH)=some ⟨m,q⟩:=Arg.dec_enc (⟨m,q⟩:CloH)
noncomputable def IndexB (l:List Box) (r:CloH):Option Int:=Part (RM r.m∧l.length≤1099511627775) (idxF (corner r.m r.q) l)
theorem runs_IndexB (l:List Box) (r:CloH) (c:Int) (h:IndexB l r=some c):Runs (tbl [(47,sp3 CornerC)]) a78 [Arg.enc l,Arg.enc r] (Arg.enc c):=by
 obtain⟨⟨hm,hl⟩,rfl⟩:=part_some h
 obtain⟨m,q⟩:=r
 simp only at hm
 refine⟨rfl,fun g=>run_def ?_⟩
 unfold a78
 have b3:l.length≤maxN:=by unfold maxN;omega
 simp -implicitDefEqProofs [b3]
 refine run_while (c:=c78_15) (fun n s=>∃(i:Nat),i+n=l.length∧(∀(j:Nat) (hj:j<l.length),j<i→corner m q l[j]=false)∧s=⟨[(0,.lst l.length (encL l)),(1,Arg.enc (⟨m,q⟩:CloH)),(7,.int .i64 l.length),(8,.int .i64 i)],[],g⟩) l.length ⟨0,by omega,by simp,by simp⟩ ?_
 rintro n s ⟨i,hi,hno,rfl⟩
 by_cases h1:i<l.length
 case pos =>
  have w1:IntKind.i64.wrap ((i:Int)+1)=(i:Int)+1:=wrap64 (by omega) (by omega)
  have hrow:=rd_box l i h1
  have hR:CornerC l[i] ⟨m⟩ ⟨q⟩=some (corner m q l[i]):=part_of hm _
  cases hb:corner m q l[i]
  case false =>
   rw[hb] at hR
   have hno2:∀(j:Nat) (hj:j<l.length),j<i+1→corner m q l[j]=false:=fun j hj hji=>by
    by_cases e:j=i
    ·subst e;exact hb
    ·exact hno j hj (by omega)
   simp -implicitDefEqProofs [h1,hrow,hR,w1]
   exact⟨n-1,by omega,i+1,by omega,hno2,by omega⟩
  case true =>
   rw[hb] at hR
   have hidx:idxF (corner m q) l=i:=by
    have:l.findIdx (corner m q)=i:=(List.findIdx_eq h1).2 ⟨hb,fun j hj=>hno j (by omega) hj⟩
    unfold idxF
    rw[this,if_pos h1]
   simp -implicitDefEqProofs [h1,hrow,hR,w1,hidx]
 case neg =>
  have hidx:idxF (corner m q) l=-1:=by
   have:l.findIdx (corner m q)=l.length:=List.findIdx_eq_length.2 fun x hx=>by
    obtain⟨j,hj,rfl⟩:=List.mem_iff_getElem.1 hx
    exact hno j hj (by omega)
   unfold idxF
   rw[this,if_neg (by omega)]
  simp -implicitDefEqProofs [h1,hidx]
theorem c_IndexB:Contract Tryz.prog 78 (sp2 IndexB) :=
 contract_of_runs mixed (tbl_cons c_Corner tbl_nil) Tryz.func78 m78 (sp2_runs runs_IndexB)
noncomputable def ContainsB (l:List Box) (r:CloH):Option Bool:=Part (RM r.m∧l.length≤1099511627775) (l.any (corner r.m r.q))
theorem any_idx {α:Type} (f:α→Bool) (l:List α):l.any f=decide (0≤idxF f l):=by
 rcases idxF_spec (p:=f) (l:=l) with⟨e,h⟩|⟨i,hi,e,hb,_⟩
 ·rw[e]
  simp only[Int.reduceNeg,Int.reduceLE,decide_false]
  rw[List.any_eq_false]
  intro x hx
  rw[h x hx]
  simp
 ·rw[e]
  have:(0:Int)≤i:=by omega
  simp only[this,decide_true]
  exact List.any_eq_true.2 ⟨l[i],List.getElem_mem hi,hb⟩
theorem runs_ContainsB (l:List Box) (r:CloH) (c:Bool) (h:ContainsB l r=some c):Runs (tbl [(78,sp2 IndexB)]) a46 [Arg.enc l,Arg.enc r] (Arg.enc c):=by
 obtain⟨hr,rfl⟩:=part_some h
 obtain⟨m,q⟩:=r
 simp only at hr
 refine⟨rfl,fun g=>run_def ?_⟩
 unfold a46
 have hI:IndexB l ⟨m,q⟩=some (idxF (corner m q) l):=part_of hr _
 rw[any_idx]
 simp -implicitDefEqProofs [hI]
theorem c_ContainsB:Contract Tryz.prog 46 (sp2 ContainsB) :=
 contract_of_runs mixed (tbl_cons c_IndexB tbl_nil) Tryz.func46 m46 (sp2_runs runs_ContainsB)
def holdsM (m:Model) (q:Query):Bool := !(stageC m q (startOf q) 5).any (corner m q)
noncomputable def HoldsC (m:Model) (q:Query) (most:Int):Option (Bool×Bool):=Part (RM m∧okB (startOf q)∧most≤1000000) (if countM m q (startOf q)≤most then (holdsM m q,true) else (false,false))
theorem runs_Holds (m:Model) (q:Query) (most:Int) (r:Bool×Bool) (h:HoldsC m q most=some r):Runs (tbl [(15,sp1 fun q=>some (startOf q)),(45,sp4 CellsC),(46,sp2 ContainsB)]) a23 [Arg.enc m,Arg.enc q,Arg.enc most] (Arg.enc r):=by
 obtain⟨⟨hm,hb,hmost⟩,rfl⟩:=part_some h
 clear h
 refine⟨rfl,fun g=>run_def ?_⟩
 unfold a23 holdsM
 have hC:CellsC m q (startOf q) most=some (if countM m q (startOf q)≤most then (stageC m q (startOf q) 5,true) else ([],false)):=part_of ⟨hm,hb,hmost⟩ _
 by_cases hc:countM m q (startOf q)≤most
 case neg =>
  rw[if_neg hc] at hC ⊢
  simp -implicitDefEqProofs [hC,encL_nil]
 rw[if_pos hc] at hC ⊢
 have hl:=stage_count hm q (startOf q) (Nat.le_refl 5)
 generalize stageC m q (startOf q) 5=L at *
 have hK:ContainsB L ⟨m,q⟩=some (L.any (corner m q)):=part_of ⟨hm,by omega⟩ _
 simp -implicitDefEqProofs [hC,hK]
theorem c_Holds:Contract Tryz.prog 23 (sp3 HoldsC) :=
 contract_of_runs mixed (tbl_cons c_Start (tbl_cons c_Cells (tbl_cons c_ContainsB tbl_nil))) Tryz.func23 m23 (sp3_runs runs_Holds)
end Go.Co
/- CO: what a statement's reading of an argument says, type by type (written by mkCoSh.py). -/
namespace Go.Co
open Go.Am Go.RowKit
theorem okR_nil {xs:List AV} (h:okR [] xs):xs=[]:=by
 cases xs with
 | nil=>rfl
 | cons x xs=>simp[okR] at h
theorem okR_cons {s:Shp} {ss:List Shp} {xs:List AV} (h:okR (s::ss) xs):∃ x ys,xs=x::ys∧okS s x∧okR ss ys:=by
 cases xs with
 | nil=>simp[okR] at h
 | cons x xs=>simp only[okR] at h;exact⟨x,xs,rfl,h.1,h.2⟩
theorem okS_int {x:AV} (h:okS (.int .i64) x):∃ n,x=.int .i64 n∧ok64 n:=by
 cases x<;>simp only[okS] at h
 obtain⟨rfl,h1,h2⟩:=h
 exact⟨_,rfl,h1,h2⟩
theorem okS_word {x:AV} (h:okS (.int .u64) x):∃ n,x=.int .u64 n∧okW n:=by
 cases x<;>simp only[okS] at h
 obtain⟨rfl,h1,h2⟩:=h
 exact⟨_,rfl,h1,Int.lt_of_le_of_lt h2 (by decide)⟩
theorem okS_bool {x:AV} (h:okS .bool x):∃ b,x=.bool b:=by
 cases x<;>simp only[okS] at h
 exact⟨_,rfl⟩
class Sh (α:Type) [Row α] where
 ss:List Shp
 good:α→Prop
 len:ss.length=Row.sz α
 read:∀ xs,okR ss xs→∃ a,xs=Row.enc a∧good a
theorem rows_read {α:Type} [Row α] [Sh α]:∀(n:Nat) (xs:List AV),xs.length=n*Row.sz α→(∀ i,i<n→okR (Sh.ss α) ((xs.drop (i*Row.sz α)).take (Row.sz α)))→∃ l:List α,l.length=n∧xs=encL l∧∀ a∈l,Sh.good a
 | 0,xs,h,_=>⟨[],rfl,by rw[encL_nil];exact List.eq_nil_of_length_eq_zero (by simpa using h),by simp⟩
 | n+1,xs,h,hr=>by
  have hp:=Row.pos (α:=α)
  obtain⟨a,ha,hg⟩:=Sh.read _ (hr 0 (by omega))
  rw[Nat.succ_mul] at h
  obtain⟨l,hl,hx,hgl⟩:=rows_read (α:=α) n (xs.drop (Row.sz α)) (by rw[List.length_drop];omega) (fun i hi=>by
   have:=hr (i+1) (by omega)
   rw[Nat.succ_mul,Nat.add_comm,← List.drop_drop] at this
   exact this)
  refine⟨a::l,by simp[hl], ?_, ?_⟩
  ·rw[encL_cons,← hx]
   simp only[Nat.zero_mul,List.drop_zero] at ha
   rw[← ha,List.take_append_drop]
  ·intro b hb
   rcases List.mem_cons.1 hb with rfl|hb
   ·exact hg
   ·exact hgl b hb
theorem okS_list {α:Type} [Row α] [Sh α] {x:AV} (h:okS (.sl (Sh.ss α)) x):∃ l:List α,x=.lst l.length (encL l)∧(∀ a∈l,Sh.good a)∧l.length≤maxLen:=by
 cases x<;>simp only[okS] at h
 rename_i n xs
 rw[Sh.len] at h
 obtain⟨l,rfl,rfl,hg⟩:=rows_read (α:=α) n xs h.2.1 h.2.2
 exact⟨l,rfl,hg,h.1⟩
instance:Sh Int where
 ss:=[.int .i64]
 good n:=ok64 n
 len:=rfl
 read xs h:=by
  obtain⟨x,xs,rfl,h0,h⟩:=okR_cons h
  obtain rfl:=okR_nil h
  obtain⟨n,rfl,b⟩:=okS_int h0
  exact⟨n,rfl,b⟩
instance:Sh Word where
 ss:=[.int .u64]
 good n:=okW n.v
 len:=rfl
 read xs h:=by
  obtain⟨x,xs,rfl,h0,h⟩:=okR_cons h
  obtain rfl:=okR_nil h
  obtain⟨n,rfl,b⟩:=okS_word h0
  exact⟨⟨n⟩,rfl,b⟩
instance:Sh Span where
 ss:=[.int .i64,.int .i64]
 good a:=ok64 a.lo∧ok64 a.hi
 len:=rfl
 read xs h:=by
  obtain⟨x0,xs,rfl,h0,h⟩:=okR_cons h
  obtain⟨x1,xs,rfl,h1,h⟩:=okR_cons h
  obtain rfl:=okR_nil h
  obtain⟨v0,rfl,b0⟩:=okS_int h0
  obtain⟨v1,rfl,b1⟩:=okS_int h1
  exact⟨⟨v0,v1⟩,rfl,b0,b1⟩
instance:Sh Box where
 ss:=[.int .i64,.int .i64,.int .i64,.int .i64,.int .i64,.int .i64,.int .i64,.int .i64,.int .i64,.int .i64]
 good a:=ok64 a.s0.lo∧ok64 a.s0.hi∧ok64 a.s1.lo∧ok64 a.s1.hi∧ok64 a.s2.lo∧ok64 a.s2.hi∧ok64 a.s3.lo∧ok64 a.s3.hi∧ok64 a.s4.lo∧ok64 a.s4.hi
 len:=rfl
 read xs h:=by
  obtain⟨x0,xs,rfl,h0,h⟩:=okR_cons h
  obtain⟨x1,xs,rfl,h1,h⟩:=okR_cons h
  obtain⟨x2,xs,rfl,h2,h⟩:=okR_cons h
  obtain⟨x3,xs,rfl,h3,h⟩:=okR_cons h
  obtain⟨x4,xs,rfl,h4,h⟩:=okR_cons h
  obtain⟨x5,xs,rfl,h5,h⟩:=okR_cons h
  obtain⟨x6,xs,rfl,h6,h⟩:=okR_cons h
  obtain⟨x7,xs,rfl,h7,h⟩:=okR_cons h
  obtain⟨x8,xs,rfl,h8,h⟩:=okR_cons h
  obtain⟨x9,xs,rfl,h9,h⟩:=okR_cons h
  obtain rfl:=okR_nil h
  obtain⟨v0,rfl,b0⟩:=okS_int h0
  obtain⟨v1,rfl,b1⟩:=okS_int h1
  obtain⟨v2,rfl,b2⟩:=okS_int h2
  obtain⟨v3,rfl,b3⟩:=okS_int h3
  obtain⟨v4,rfl,b4⟩:=okS_int h4
  obtain⟨v5,rfl,b5⟩:=okS_int h5
  obtain⟨v6,rfl,b6⟩:=okS_int h6
  obtain⟨v7,rfl,b7⟩:=okS_int h7
  obtain⟨v8,rfl,b8⟩:=okS_int h8
  obtain⟨v9,rfl,b9⟩:=okS_int h9
  exact⟨⟨⟨v0,v1⟩,⟨v2,v3⟩,⟨v4,v5⟩,⟨v6,v7⟩,⟨v8,v9⟩⟩,rfl,b0,b1,b2,b3,b4,b5,b6,b7,b8,b9⟩
instance:Sh Point where
 ss:=[.int .i64,.int .i64,.int .i64,.int .i64]
 good a:=ok64 a.p0∧ok64 a.p1∧ok64 a.p2∧ok64 a.p3
 len:=rfl
 read xs h:=by
  obtain⟨x0,xs,rfl,h0,h⟩:=okR_cons h
  obtain⟨x1,xs,rfl,h1,h⟩:=okR_cons h
  obtain⟨x2,xs,rfl,h2,h⟩:=okR_cons h
  obtain⟨x3,xs,rfl,h3,h⟩:=okR_cons h
  obtain rfl:=okR_nil h
  obtain⟨v0,rfl,b0⟩:=okS_int h0
  obtain⟨v1,rfl,b1⟩:=okS_int h1
  obtain⟨v2,rfl,b2⟩:=okS_int h2
  obtain⟨v3,rfl,b3⟩:=okS_int h3
  exact⟨⟨v0,v1,v2,v3⟩,rfl,b0,b1,b2,b3⟩
instance:Sh Bias where
 ss:=[.int .i64,.int .i64,.int .i64]
 good a:=ok64 a.b0∧ok64 a.b1∧ok64 a.b2
 len:=rfl
 read xs h:=by
  obtain⟨x0,xs,rfl,h0,h⟩:=okR_cons h
  obtain⟨x1,xs,rfl,h1,h⟩:=okR_cons h
  obtain⟨x2,xs,rfl,h2,h⟩:=okR_cons h
  obtain rfl:=okR_nil h
  obtain⟨v0,rfl,b0⟩:=okS_int h0
  obtain⟨v1,rfl,b1⟩:=okS_int h1
  obtain⟨v2,rfl,b2⟩:=okS_int h2
  exact⟨⟨v0,v1,v2⟩,rfl,b0,b1,b2⟩
instance:Sh Node where
 ss:=[.bool,.int .i64,.int .i64,.int .i64,.int .i64,.int .i64]
 good a:=True∧ok64 a.value∧ok64 a.feature∧ok64 a.cut∧ok64 a.left∧ok64 a.right
 len:=rfl
 read xs h:=by
  obtain⟨x0,xs,rfl,h0,h⟩:=okR_cons h
  obtain⟨x1,xs,rfl,h1,h⟩:=okR_cons h
  obtain⟨x2,xs,rfl,h2,h⟩:=okR_cons h
  obtain⟨x3,xs,rfl,h3,h⟩:=okR_cons h
  obtain⟨x4,xs,rfl,h4,h⟩:=okR_cons h
  obtain⟨x5,xs,rfl,h5,h⟩:=okR_cons h
  obtain rfl:=okR_nil h
  obtain⟨v0,rfl⟩:=okS_bool h0
  obtain⟨v1,rfl,b1⟩:=okS_int h1
  obtain⟨v2,rfl,b2⟩:=okS_int h2
  obtain⟨v3,rfl,b3⟩:=okS_int h3
  obtain⟨v4,rfl,b4⟩:=okS_int h4
  obtain⟨v5,rfl,b5⟩:=okS_int h5
  exact⟨⟨v0,v1,v2,v3,v4,v5⟩,rfl,trivial,b1,b2,b3,b4,b5⟩
instance:Sh Tree where
 ss:=[.int .i64,.sl (Sh.ss Word)]
 good a:=ok64 a.cls∧((∀ x∈a.nodes,Sh.good x)∧a.nodes.length≤maxLen)
 len:=rfl
 read xs h:=by
  obtain⟨x0,xs,rfl,h0,h⟩:=okR_cons h
  obtain⟨x1,xs,rfl,h1,h⟩:=okR_cons h
  obtain rfl:=okR_nil h
  obtain⟨v0,rfl,b0⟩:=okS_int h0
  obtain⟨v1,rfl,b1⟩:=okS_list (α:=Word) h1
  exact⟨⟨v0,v1⟩,rfl,b0,b1⟩
instance:Sh Model where
 ss:=[.int .i64,.int .i64,.int .i64,.int .i64,.int .i64,.sl (Sh.ss Tree)]
 good a:=ok64 a.dim∧ok64 a.classes∧ok64 a.bias.b0∧ok64 a.bias.b1∧ok64 a.bias.b2∧((∀ x∈a.trees,Sh.good x)∧a.trees.length≤maxLen)
 len:=rfl
 read xs h:=by
  obtain⟨x0,xs,rfl,h0,h⟩:=okR_cons h
  obtain⟨x1,xs,rfl,h1,h⟩:=okR_cons h
  obtain⟨x2,xs,rfl,h2,h⟩:=okR_cons h
  obtain⟨x3,xs,rfl,h3,h⟩:=okR_cons h
  obtain⟨x4,xs,rfl,h4,h⟩:=okR_cons h
  obtain⟨x5,xs,rfl,h5,h⟩:=okR_cons h
  obtain rfl:=okR_nil h
  obtain⟨v0,rfl,b0⟩:=okS_int h0
  obtain⟨v1,rfl,b1⟩:=okS_int h1
  obtain⟨v2,rfl,b2⟩:=okS_int h2
  obtain⟨v3,rfl,b3⟩:=okS_int h3
  obtain⟨v4,rfl,b4⟩:=okS_int h4
  obtain⟨v5,rfl,b5⟩:=okS_list (α:=Tree) h5
  exact⟨⟨v0,v1,⟨v2,v3,v4⟩,v5⟩,rfl,b0,b1,b2,b3,b4,b5⟩
instance:Sh Piece where
 ss:=[.int .i64,.int .i64,.int .i64,.int .i64,.int .i64,.int .i64,.int .i64,.int .i64,.int .i64,.int .i64,.int .i64]
 good a:=ok64 a.box.s0.lo∧ok64 a.box.s0.hi∧ok64 a.box.s1.lo∧ok64 a.box.s1.hi∧ok64 a.box.s2.lo∧ok64 a.box.s2.hi∧ok64 a.box.s3.lo∧ok64 a.box.s3.hi∧ok64 a.box.s4.lo∧ok64 a.box.s4.hi∧ok64 a.value
 len:=rfl
 read xs h:=by
  obtain⟨x0,xs,rfl,h0,h⟩:=okR_cons h
  obtain⟨x1,xs,rfl,h1,h⟩:=okR_cons h
  obtain⟨x2,xs,rfl,h2,h⟩:=okR_cons h
  obtain⟨x3,xs,rfl,h3,h⟩:=okR_cons h
  obtain⟨x4,xs,rfl,h4,h⟩:=okR_cons h
  obtain⟨x5,xs,rfl,h5,h⟩:=okR_cons h
  obtain⟨x6,xs,rfl,h6,h⟩:=okR_cons h
  obtain⟨x7,xs,rfl,h7,h⟩:=okR_cons h
  obtain⟨x8,xs,rfl,h8,h⟩:=okR_cons h
  obtain⟨x9,xs,rfl,h9,h⟩:=okR_cons h
  obtain⟨x10,xs,rfl,h10,h⟩:=okR_cons h
  obtain rfl:=okR_nil h
  obtain⟨v0,rfl,b0⟩:=okS_int h0
  obtain⟨v1,rfl,b1⟩:=okS_int h1
  obtain⟨v2,rfl,b2⟩:=okS_int h2
  obtain⟨v3,rfl,b3⟩:=okS_int h3
  obtain⟨v4,rfl,b4⟩:=okS_int h4
  obtain⟨v5,rfl,b5⟩:=okS_int h5
  obtain⟨v6,rfl,b6⟩:=okS_int h6
  obtain⟨v7,rfl,b7⟩:=okS_int h7
  obtain⟨v8,rfl,b8⟩:=okS_int h8
  obtain⟨v9,rfl,b9⟩:=okS_int h9
  obtain⟨v10,rfl,b10⟩:=okS_int h10
  exact⟨⟨⟨⟨v0,v1⟩,⟨v2,v3⟩,⟨v4,v5⟩,⟨v6,v7⟩,⟨v8,v9⟩⟩,v10⟩,rfl,b0,b1,b2,b3,b4,b5,b6,b7,b8,b9,b10⟩
instance:Sh Step where
 ss:=[.bool,.int .i64,.int .i64]
 good a:=True∧ok64 a.place∧ok64 a.cut
 len:=rfl
 read xs h:=by
  obtain⟨x0,xs,rfl,h0,h⟩:=okR_cons h
  obtain⟨x1,xs,rfl,h1,h⟩:=okR_cons h
  obtain⟨x2,xs,rfl,h2,h⟩:=okR_cons h
  obtain rfl:=okR_nil h
  obtain⟨v0,rfl⟩:=okS_bool h0
  obtain⟨v1,rfl,b1⟩:=okS_int h1
  obtain⟨v2,rfl,b2⟩:=okS_int h2
  exact⟨⟨v0,v1,v2⟩,rfl,trivial,b1,b2⟩
instance:Sh Query where
 ss:=[.int .i64,.int .i64,.int .i64,.int .i64,.int .i64,.int .i64,.int .i64,.int .i64,.int .i64,.int .i64,.int .i64,.int .i64,.int .i64,.int .i64,.int .i64,.bool,.int .i64]
 good a:=ok64 a.kind∧ok64 a.cls∧ok64 a.region.s0.lo∧ok64 a.region.s0.hi∧ok64 a.region.s1.lo∧ok64 a.region.s1.hi∧ok64 a.region.s2.lo∧ok64 a.region.s2.hi∧ok64 a.region.s3.lo∧ok64 a.region.s3.hi∧ok64 a.region.s4.lo∧ok64 a.region.s4.hi∧ok64 a.lo∧ok64 a.hi∧ok64 a.feature∧True∧ok64 a.budget
 len:=rfl
 read xs h:=by
  obtain⟨x0,xs,rfl,h0,h⟩:=okR_cons h
  obtain⟨x1,xs,rfl,h1,h⟩:=okR_cons h
  obtain⟨x2,xs,rfl,h2,h⟩:=okR_cons h
  obtain⟨x3,xs,rfl,h3,h⟩:=okR_cons h
  obtain⟨x4,xs,rfl,h4,h⟩:=okR_cons h
  obtain⟨x5,xs,rfl,h5,h⟩:=okR_cons h
  obtain⟨x6,xs,rfl,h6,h⟩:=okR_cons h
  obtain⟨x7,xs,rfl,h7,h⟩:=okR_cons h
  obtain⟨x8,xs,rfl,h8,h⟩:=okR_cons h
  obtain⟨x9,xs,rfl,h9,h⟩:=okR_cons h
  obtain⟨x10,xs,rfl,h10,h⟩:=okR_cons h
  obtain⟨x11,xs,rfl,h11,h⟩:=okR_cons h
  obtain⟨x12,xs,rfl,h12,h⟩:=okR_cons h
  obtain⟨x13,xs,rfl,h13,h⟩:=okR_cons h
  obtain⟨x14,xs,rfl,h14,h⟩:=okR_cons h
  obtain⟨x15,xs,rfl,h15,h⟩:=okR_cons h
  obtain⟨x16,xs,rfl,h16,h⟩:=okR_cons h
  obtain rfl:=okR_nil h
  obtain⟨v0,rfl,b0⟩:=okS_int h0
  obtain⟨v1,rfl,b1⟩:=okS_int h1
  obtain⟨v2,rfl,b2⟩:=okS_int h2
  obtain⟨v3,rfl,b3⟩:=okS_int h3
  obtain⟨v4,rfl,b4⟩:=okS_int h4
  obtain⟨v5,rfl,b5⟩:=okS_int h5
  obtain⟨v6,rfl,b6⟩:=okS_int h6
  obtain⟨v7,rfl,b7⟩:=okS_int h7
  obtain⟨v8,rfl,b8⟩:=okS_int h8
  obtain⟨v9,rfl,b9⟩:=okS_int h9
  obtain⟨v10,rfl,b10⟩:=okS_int h10
  obtain⟨v11,rfl,b11⟩:=okS_int h11
  obtain⟨v12,rfl,b12⟩:=okS_int h12
  obtain⟨v13,rfl,b13⟩:=okS_int h13
  obtain⟨v14,rfl,b14⟩:=okS_int h14
  obtain⟨v15,rfl⟩:=okS_bool h15
  obtain⟨v16,rfl,b16⟩:=okS_int h16
  exact⟨⟨v0,v1,⟨⟨v2,v3⟩,⟨v4,v5⟩,⟨v6,v7⟩,⟨v8,v9⟩,⟨v10,v11⟩⟩,v12,v13,v14,v15,v16⟩,rfl,b0,b1,b2,b3,b4,b5,b6,b7,b8,b9,b10,b11,b12,b13,b14,trivial,b16⟩
instance:Sh Verdict where
 ss:=[.int .i64,.sl (Sh.ss Step),.int .i64,.int .i64,.int .i64,.int .i64,.int .i64,.int .i64]
 good a:=ok64 a.kind∧((∀ x∈a.proof,Sh.good x)∧a.proof.length≤maxLen)∧ok64 a.witness.p0∧ok64 a.witness.p1∧ok64 a.witness.p2∧ok64 a.witness.p3∧ok64 a.twin∧ok64 a.spent
 len:=rfl
 read xs h:=by
  obtain⟨x0,xs,rfl,h0,h⟩:=okR_cons h
  obtain⟨x1,xs,rfl,h1,h⟩:=okR_cons h
  obtain⟨x2,xs,rfl,h2,h⟩:=okR_cons h
  obtain⟨x3,xs,rfl,h3,h⟩:=okR_cons h
  obtain⟨x4,xs,rfl,h4,h⟩:=okR_cons h
  obtain⟨x5,xs,rfl,h5,h⟩:=okR_cons h
  obtain⟨x6,xs,rfl,h6,h⟩:=okR_cons h
  obtain⟨x7,xs,rfl,h7,h⟩:=okR_cons h
  obtain rfl:=okR_nil h
  obtain⟨v0,rfl,b0⟩:=okS_int h0
  obtain⟨v1,rfl,b1⟩:=okS_list (α:=Step) h1
  obtain⟨v2,rfl,b2⟩:=okS_int h2
  obtain⟨v3,rfl,b3⟩:=okS_int h3
  obtain⟨v4,rfl,b4⟩:=okS_int h4
  obtain⟨v5,rfl,b5⟩:=okS_int h5
  obtain⟨v6,rfl,b6⟩:=okS_int h6
  obtain⟨v7,rfl,b7⟩:=okS_int h7
  exact⟨⟨v0,v1,⟨v2,v3,v4,v5⟩,v6,v7⟩,rfl,b0,b1,b2,b3,b4,b5,b6,b7⟩
instance:Sh KTree where
 ss:=[.int .i64,.sl (Sh.ss Int),.sl (Sh.ss Int),.sl (Sh.ss Int),.sl (Sh.ss Int)]
 good a:=ok64 a.cls∧((∀ x∈a.part,Sh.good x)∧a.part.length≤maxLen)∧((∀ x∈a.dir,Sh.good x)∧a.dir.length≤maxLen)∧((∀ x∈a.cut,Sh.good x)∧a.cut.length≤maxLen)∧((∀ x∈a.val,Sh.good x)∧a.val.length≤maxLen)
 len:=rfl
 read xs h:=by
  obtain⟨x0,xs,rfl,h0,h⟩:=okR_cons h
  obtain⟨x1,xs,rfl,h1,h⟩:=okR_cons h
  obtain⟨x2,xs,rfl,h2,h⟩:=okR_cons h
  obtain⟨x3,xs,rfl,h3,h⟩:=okR_cons h
  obtain⟨x4,xs,rfl,h4,h⟩:=okR_cons h
  obtain rfl:=okR_nil h
  obtain⟨v0,rfl,b0⟩:=okS_int h0
  obtain⟨v1,rfl,b1⟩:=okS_list (α:=Int) h1
  obtain⟨v2,rfl,b2⟩:=okS_list (α:=Int) h2
  obtain⟨v3,rfl,b3⟩:=okS_list (α:=Int) h3
  obtain⟨v4,rfl,b4⟩:=okS_list (α:=Int) h4
  exact⟨⟨v0,v1,v2,v3,v4⟩,rfl,b0,b1,b2,b3,b4⟩
instance:Sh Forest where
 ss:=[.int .i64,.int .i64,.sl (Sh.ss Int),.sl (Sh.ss KTree)]
 good a:=ok64 a.dim∧ok64 a.classes∧((∀ x∈a.bias,Sh.good x)∧a.bias.length≤maxLen)∧((∀ x∈a.trees,Sh.good x)∧a.trees.length≤maxLen)
 len:=rfl
 read xs h:=by
  obtain⟨x0,xs,rfl,h0,h⟩:=okR_cons h
  obtain⟨x1,xs,rfl,h1,h⟩:=okR_cons h
  obtain⟨x2,xs,rfl,h2,h⟩:=okR_cons h
  obtain⟨x3,xs,rfl,h3,h⟩:=okR_cons h
  obtain rfl:=okR_nil h
  obtain⟨v0,rfl,b0⟩:=okS_int h0
  obtain⟨v1,rfl,b1⟩:=okS_int h1
  obtain⟨v2,rfl,b2⟩:=okS_list (α:=Int) h2
  obtain⟨v3,rfl,b3⟩:=okS_list (α:=KTree) h3
  exact⟨⟨v0,v1,v2,v3⟩,rfl,b0,b1,b2,b3⟩
instance:Sh Ask where
 ss:=[.int .i64,.int .i64,.int .i64,.int .i64,.int .i64,.int .i64,.bool,.sl (Sh.ss Int)]
 good a:=ok64 a.kind∧ok64 a.cls∧ok64 a.lo∧ok64 a.size∧ok64 a.feature∧ok64 a.budget∧True∧((∀ x∈a.spans,Sh.good x)∧a.spans.length≤maxLen)
 len:=rfl
 read xs h:=by
  obtain⟨x0,xs,rfl,h0,h⟩:=okR_cons h
  obtain⟨x1,xs,rfl,h1,h⟩:=okR_cons h
  obtain⟨x2,xs,rfl,h2,h⟩:=okR_cons h
  obtain⟨x3,xs,rfl,h3,h⟩:=okR_cons h
  obtain⟨x4,xs,rfl,h4,h⟩:=okR_cons h
  obtain⟨x5,xs,rfl,h5,h⟩:=okR_cons h
  obtain⟨x6,xs,rfl,h6,h⟩:=okR_cons h
  obtain⟨x7,xs,rfl,h7,h⟩:=okR_cons h
  obtain rfl:=okR_nil h
  obtain⟨v0,rfl,b0⟩:=okS_int h0
  obtain⟨v1,rfl,b1⟩:=okS_int h1
  obtain⟨v2,rfl,b2⟩:=okS_int h2
  obtain⟨v3,rfl,b3⟩:=okS_int h3
  obtain⟨v4,rfl,b4⟩:=okS_int h4
  obtain⟨v5,rfl,b5⟩:=okS_int h5
  obtain⟨v6,rfl⟩:=okS_bool h6
  obtain⟨v7,rfl,b7⟩:=okS_list (α:=Int) h7
  exact⟨⟨v0,v1,v2,v3,v4,v5,v6,v7⟩,rfl,b0,b1,b2,b3,b4,b5,trivial,b7⟩
instance:Sh Cutting where
 ss:=[.sl (Sh.ss Int),.sl (Sh.ss Int)]
 good a:=((∀ x∈a.place,Sh.good x)∧a.place.length≤maxLen)∧((∀ x∈a.cut,Sh.good x)∧a.cut.length≤maxLen)
 len:=rfl
 read xs h:=by
  obtain⟨x0,xs,rfl,h0,h⟩:=okR_cons h
  obtain⟨x1,xs,rfl,h1,h⟩:=okR_cons h
  obtain rfl:=okR_nil h
  obtain⟨v0,rfl,b0⟩:=okS_list (α:=Int) h0
  obtain⟨v1,rfl,b1⟩:=okS_list (α:=Int) h1
  exact⟨⟨v0,v1⟩,rfl,b0,b1⟩
variable {P:Program} {t:TypeId} {x:AV}
theorem arg_agg {α:Type} [Row α] [Sh α] (h1:isAggT P t=true) (h2:shp P 20 t=some (Sh.ss α)) (h:argOk P t x):∃ a:α,x=.agg (Row.enc a)∧Sh.good a:=by
 unfold argOk at h
 rw[h1] at h
 obtain⟨xs,ss,rfl,hs,hr⟩:=h
 rw[h2] at hs
 cases hs
 obtain⟨a,rfl,hg⟩:=Sh.read _ hr
 exact⟨a,rfl,hg⟩
theorem arg_cell {s:Shp} (h1:isAggT P t=false) (h2:shp P 20 t=some [s]) (h:argOk P t x):okS s x:=by
 unfold argOk at h
 rw[h1] at h
 obtain⟨s',hs,hr⟩:=h
 rw[h2] at hs
 cases hs
 exact hr
theorem arg_int (h1:isAggT P t=false) (h2:shp P 20 t=some [.int .i64]) (h:argOk P t x):∃ n,x=.int .i64 n∧ok64 n:=okS_int (arg_cell h1 h2 h)
theorem argsOk_cons {t:TypeId} {ts:List TypeId} {xs:List AV} (h:argsOk P (t::ts) xs):∃ x ys,xs=x::ys∧argOk P t x∧argsOk P ts ys:=by
 cases xs with
 | nil=>simp[argsOk] at h
 | cons x xs=>simp only[argsOk] at h;exact⟨x,xs,rfl,h.1,h.2⟩
theorem argsOk_nil {xs:List AV} (h:argsOk P [] xs):xs=[]:=by
 cases xs with
 | nil=>rfl
 | cons x xs=>simp[argsOk] at h
end Go.Co
/- CO: pieces that meet, groups, levels. -/
namespace Go.Co
open Go.Am
instance rowList {α:Type} [Row α]:Row (List α) where
 sz:=1
 enc l:=[.lst l.length (encL l)]
 dec xs:=match xs with
  | [.lst n ys]=>decL α n ys
  | _=>none
 pos:=by decide
 len _:=rfl
 dec_enc l:=decL_encL l
 enc_dec xs a h:=by
  split at h
  ·obtain⟨h1,h2⟩:=decL_some _ _ _ h
   rw[h1,h2]
  ·cases h
@[simp] theorem enc_rowList {α:Type} [Row α] (l:List α):Row.enc l=[.lst l.length (encL l)]:=rfl
@[simp] theorem sz_rowList {α:Type} [Row α]:Row.sz (List α)=1:=rfl
instance {α:Type} [Row α]:Cells (List α):=⟨fun _=>rfl⟩
def meetB (a b:Box):Box:=⟨meetS a.s0 b.s0,meetS a.s1 b.s1,meetS a.s2 b.s2,meetS a.s3 b.s3,meetS a.s4 b.s4⟩
def meetF (x y:Piece):Option Piece:=if (meetB x.box y.box).empty then none else some ⟨meetB x.box y.box,x.value+y.value⟩
def row (x:Piece) (b:List Piece):List Piece:=b.filterMap (meetF x)
def smallG (k:Nat) (gs:List (List Piece)):Prop:=∀ g∈gs,(∀ x∈g,-(2:Int)^k≤x.value∧x.value≤(2:Int)^k)∧g.length≤1073741824
theorem pow_up {j k:Nat} (h:j≤k):(2:Int)^j≤2^k:=by
 have:(2:Nat)^j≤2^k:=Nat.pow_le_pow_right (by omega) h
 exact_mod_cast this
theorem smallG.up {j k:Nat} (h:j≤k) {gs:List (List Piece)} (hs:smallG j gs):smallG k gs:=by
 intro g hg
 refine⟨fun x hx=>?_,(hs g hg).2⟩
 have h1:=(hs g hg).1 x hx
 have h2:=pow_up h
 omega
end Go.Co
/- CO: what breaks in a cell breaks at its corner; parts of a region. -/
set_option maxHeartbeats 16000000
set_option maxRecDepth 100000
namespace Go.Co
open Go.Am Go.Proofs
attribute [-simp] Go.Am.eff_gcall
instance {α:Type} [Row α] [Sh α]:Sh (List α) where
 ss:=[.sl (Sh.ss α)]
 good l:=(∀ a∈l,Sh.good a)∧l.length≤maxLen
 len:=rfl
 read xs h:=by
  obtain⟨x0,xs,rfl,h0,h⟩:=okR_cons h
  obtain rfl:=okR_nil h
  obtain⟨l,rfl,hg,hl⟩:=okS_list h0
  exact⟨l,rfl,hg,hl⟩
def c51_23:ACode:=.seq (.ops [⟨some 3,.box (.t 0) 10,none,[]⟩,⟨some 4,.box (.t 1) 4,none,[]⟩,⟨some 6,.mv (.c (.bool false)),none,[]⟩] [2,3,4]) (.seq (.seq (.ops [⟨some 9,.load 4 true (.t 4),none,[4]⟩,⟨some 10,.mv (.c (.int .i64 0)),none,[]⟩] [2,3,9,10]) (.block 0 (.loop (.keep [2,3,9,10] [3] (.seq (.ops [⟨some 11,.bin .lss (.t 10) (.c (.int .i64 4)),none,[]⟩] [2,3,9,10,11]) (.seq (.cond (.t 11) .skip (.exit 0)) (.seq (.block 1 (.seq (.ops [⟨some 12,.mv (.t 10),none,[]⟩,⟨some 13,.idx (.t 9) (.t 10) 1 4 false,none,[]⟩,⟨some 7,.mv (.t 12),none,[]⟩,⟨some 8,.mv (.t 13),none,[]⟩] [2,3,7,8,9,10]) (.seq (.ops [⟨some 14,.mv (.t 7),none,[]⟩,⟨some 15,.iad (.t 3) (.t 14) 2 5,none,[3]⟩,⟨some 16,.load 2 true (.t 15),none,[3]⟩,⟨some 17,.mv (.t 8),none,[]⟩,⟨some 18,.call 41 [.t 16,.t 17],none,[]⟩,⟨some 19,.un .not (.t 18),none,[]⟩] [2,3,9,10,19]) (.cond (.t 19) (.seq (.ops [⟨some 6,.mv (.c (.bool false)),none,[]⟩] [6]) .ret) .skip)))) (.ops [⟨some 20,.bin .add (.t 10) (.c (.int .i64 1)),none,[]⟩,⟨some 10,.mv (.t 20),none,[]⟩] [2,3,9,10])))))))) (.seq (.ops [⟨some 21,.iad (.t 3) (.c (.int .i64 4)) 2 5,none,[3]⟩,⟨some 22,.load 2 true (.t 21),none,[3]⟩,⟨some 23,.mv (.t 2),none,[]⟩,⟨some 24,.call 41 [.t 22,.t 23],none,[]⟩,⟨some 6,.mv (.t 24),none,[]⟩] [6]) .ret))
theorem r51_23:type_of% (rr c51_23.eq_1):=rr rfl
def a51:AFun:=⟨3,25,c51_23,[.t 6]⟩
attribute [simp] r51_23
theorem m51:mFun Tryz.prog Tryz.f51 a51=true:=by decide +kernel
theorem point_set_get (p:Point) {k i:Int} (n:Int) (h0:0≤k) (h4:k<4) (i0:0≤i) (i4:i<4):(p.set k n).get i=if i=k then n else p.get i:=by
 have h1:k=0∨k=1∨k=2∨k=3:=by omega
 have h2:i=0∨i=1∨i=2∨i=3:=by omega
 rcases h1 with rfl|rfl|rfl|rfl<;>rcases h2 with rfl|rfl|rfl|rfl<;>rfl
theorem beaten_same {m:Model} {q:Query} {p o:Point} (h:∀ c,evalM m c p=evalM m c o):beaten m q p=beaten m q o:=by
 unfold beaten
 simp only[h]
theorem breaks_corner {m:Model} (hm:RM m) {q:Query} {x:Box} (hn:∀ i:Int,0≤i→i<5→cutsL m q x i=[]) {p:Point} {t:Int} (hp:InB x p t) (h:breaks m q p t=true):corner m q x=true:=by
 have he:x.empty=false:=empty_false.2 ⟨p,t,hp⟩
 have hl:=low_in he
 have hE:∀ c,evalM m c p=evalM m c (lowB x):=fun c=>cell_eval hm hn hp hl c
 unfold corner
 unfold breaks at h ⊢
 cases hq:okQuery m q
 ·rw[hq] at h
  simp at h
 rw[hq] at h
 simp only[if_true] at h ⊢
 by_cases k1:q.kind=1
 ·rw[if_pos k1] at h ⊢
  rw[← hE]
  exact h
 rw[if_neg k1] at h ⊢
 by_cases k2:q.kind=2
 ·rw[if_pos k2] at h ⊢
  rw[← beaten_same hE]
  exact h
 rw[if_neg k2] at h ⊢
 have hks:=okKind_spec (okQuery_spec hq).2.2.2.2.2
 have hk:q.kind=3∧0≤q.feature∧q.feature<m.dim:=by omega
 have hd:=hm.dim
 have hpr:paired q=true:=by unfold paired;simp;omega
 by_cases hlt:p.get q.feature<t
 case neg=>rw[if_neg hlt] at h;cases h
 rw[if_pos hlt] at h
 have h1:=(inB_get.1 hp q.feature hk.2.1 (by omega)).1
 have h2:=(inB_get.1 hl q.feature hk.2.1 (by omega)).1
 have h3:InS x.s4 t:=hp.2.2.2.2
 have h4:InS x.s4 x.s4.hi:=hl.2.2.2.2
 have hlo:(lowB x).get q.feature=(x.get q.feature).lo:=by
  have:q.feature=0∨q.feature=1∨q.feature=2∨q.feature=3:=by omega
  rcases this with e|e|e|e<;>rw[e]<;>rfl
 have hc:(lowB x).get q.feature<x.s4.hi:=by
  rw[hlo]
  unfold InS at h1 h3
  omega
 rw[if_pos hc]
 have hS:∀ c,evalM m c (secondOf q p t)=evalM m c (secondOf q (lowB x) x.s4.hi):=fun c=>by
  refine eval_same hm (fun j j0 j4=>?_) c
  unfold secondOf
  rw[if_pos hpr,if_pos hpr,point_set_get p t hk.2.1 (by omega) j0 j4,point_set_get (lowB x) x.s4.hi hk.2.1 (by omega) j0 j4]
  by_cases e:j=q.feature
  ·rw[if_pos e,if_pos e]
   have f4:featOf q 4=q.feature:=by unfold featOf;rw[if_neg (by omega),if_pos ⟨rfl,hk.1⟩]
   have:=uncut (hn 4 (by omega) (by omega)) (by rw[f4];omega) (n:=t) (o:=x.s4.hi) h3 h4
   rwa [f4,← e] at this
  ·rw[if_neg e,if_neg e]
   have g1:=(inB_get.1 hp j j0 j4).1
   have g2:=(inB_get.1 hl j j0 j4).1
   have:=uncut (hn j j0 (by omega)) (by rw[featOf_lt q j0 j4];omega) g1 g2
   rwa [featOf_lt q j0 j4] at this
 rw[← hE,← hS]
 exact h
theorem holds_iff {m:Model} (hm:RM m) {q:Query} (hb:(startOf q).empty=false):holdsM m q=true↔∀ p t,InB (startOf q) p t→breaks m q p t=false:=by
 unfold holdsM
 rw[Bool.not_eq_true',List.any_eq_false]
 constructor
 ·intro h p t hp
  obtain⟨x,hx,hpx⟩:=cell_of (m:=m) (q:=q) hp
  cases hbr:breaks m q p t
  ·rfl
  ·exact absurd (breaks_corner hm (cell_spec hb hx).2.2 hpx hbr) (h x hx)
 ·intro h x hx
  obtain⟨h1,h2,_⟩:=cell_spec hb hx
  have:=h _ _ (within_inB h2 (low_in h1))
  unfold corner
  rw[this]
  simp
def hasB (b:Box) (p:Point) (t:Int):Bool:=b.s0.has p.p0&&b.s1.has p.p1&&b.s2.has p.p2&&b.s3.has p.p3&&b.s4.has t
theorem hasB_iff {b:Box} {p:Point} {t:Int}:hasB b p t=true↔InB b p t:=by
 unfold hasB Span.has InB InS
 simp only[Bool.and_eq_true,decide_eq_true_eq]
 constructor
 ·rintro⟨⟨⟨⟨h0,h1⟩,h2⟩,h3⟩,h4⟩;exact⟨h0,h1,h2,h3,h4⟩
 ·rintro⟨h0,h1,h2,h3,h4⟩;exact⟨⟨⟨⟨h0,h1⟩,h2⟩,h3⟩,h4⟩
theorem runs_Has (b:Box) (p:Point) (t:Int) (c:Bool) (h:some (hasB b p t)=some c):Runs (tbl [(41,sp2 fun (s:Span) n=>some (s.has n))]) a51 [Arg.enc b,Arg.enc p,Arg.enc t] (Arg.enc c):=by
 cases h
 refine⟨rfl,fun g=>run_def ?_⟩
 unfold a51
 cases h0:b.s0.has p.p0
 case false=>simp -implicitDefEqProofs [hasB,run_round,h0]
 cases h1:b.s1.has p.p1
 case false=>simp -implicitDefEqProofs [hasB,run_round,h0,h1]
 cases h2:b.s2.has p.p2
 case false=>simp -implicitDefEqProofs [hasB,run_round,h0,h1,h2]
 cases h3:b.s3.has p.p3
 case false=>simp -implicitDefEqProofs [hasB,run_round,h0,h1,h2,h3]
 simp -implicitDefEqProofs [hasB,run_round,h0,h1,h2,h3]
theorem c_Has:Contract Tryz.prog 51 (sp3 fun b p t=>some (hasB b p t)) :=
 contract_of_runs mixed (tbl_cons c_sHas tbl_nil) Tryz.func51 m51 (sp3_runs runs_Has)
end Go.Co
/- CO: pairs. -/
set_option maxHeartbeats 16000000
set_option maxRecDepth 100000
namespace Go.Co
open Go.Am Go.Proofs
def c150_3:ACode:=.seq (.ops [⟨some 1,.box (.t 0) 17,none,[]⟩,⟨some 2,.mv (.c (.bool false)),none,[]⟩] [1]) (.seq (.ops [⟨some 3,.fad (.t 1) 0,none,[1]⟩,⟨some 4,.load 1 false (.t 3),none,[1]⟩,⟨some 5,.bin .eql (.t 4) (.c (.int .i64 3)),none,[]⟩,⟨some 6,.mv (.t 5),none,[]⟩,⟨some 7,.fad (.t 1) 14,some (6,true),[1]⟩,⟨some 8,.load 1 false (.t 7),some (6,true),[1]⟩,⟨some 9,.bin .geq (.t 8) (.c (.int .i64 0)),some (6,true),[]⟩,⟨some 10,.pick (.t 6) (.t 9) (.c (.bool false)),none,[]⟩,⟨some 11,.mv (.t 10),none,[]⟩,⟨some 12,.fad (.t 1) 14,some (11,true),[1]⟩,⟨some 13,.load 1 false (.t 12),some (11,true),[1]⟩,⟨some 14,.bin .lss (.t 13) (.c (.int .i64 4)),some (11,true),[]⟩,⟨some 15,.pick (.t 11) (.t 14) (.c (.bool false)),none,[]⟩,⟨some 2,.mv (.t 15),none,[]⟩] [2]) .ret)
theorem r150_3:type_of% (rr c150_3.eq_1):=rr rfl
def a150:AFun:=⟨1,16,c150_3,[.t 2]⟩
attribute [simp] r150_3
theorem m150:mFun Tryz.prog Tryz.f150 a150=true:=by decide +kernel
def c151_8:ACode:=.seq (.ops [⟨some 2,.box (.t 0) 17,none,[]⟩,⟨some 3,.box (.t 1) 10,none,[]⟩,⟨some 4,.alloc [.int .i64 0,.int .i64 0,.int .i64 0,.int .i64 0,.int .i64 0,.int .i64 0,.int .i64 0,.int .i64 0,.int .i64 0,.int .i64 0],none,[]⟩] [2,3,4]) (.seq (.seq (.ops [⟨some 5,.load 17 true (.t 2),none,[2]⟩,⟨some 6,.call 150 [.t 5],none,[]⟩] [3,4,6]) (.cond (.t 6) (.ops [⟨some 7,.build [.int .i64 0,.int .i64 0] [],none,[]⟩,⟨some 8,.iad (.t 3) (.c (.int .i64 4)) 2 5,none,[3]⟩,⟨none,.store (.t 8) 2 (.t 7),none,[3]⟩] [3,4]) .skip)) (.seq (.ops [⟨some 9,.load 10 true (.t 3),none,[3]⟩,⟨none,.store (.t 4) 10 (.t 9),none,[4]⟩] [4]) .ret))
theorem r151_8:type_of% (rr c151_8.eq_1):=rr rfl
def a151:AFun:=⟨2,10,c151_8,[.cell 4 10 true]⟩
attribute [simp] r151_8
theorem m151:mFun Tryz.prog Tryz.f151 a151=true:=by decide +kernel
def c152_8:ACode:=.seq (.ops [⟨some 2,.box (.t 0) 17,none,[]⟩,⟨some 3,.box (.t 1) 10,none,[]⟩,⟨some 4,.alloc [.int .i64 0,.int .i64 0,.int .i64 0,.int .i64 0,.int .i64 0,.int .i64 0,.int .i64 0,.int .i64 0,.int .i64 0,.int .i64 0],none,[]⟩] [2,3,4]) (.seq (.seq (.ops [⟨some 5,.load 17 true (.t 2),none,[2]⟩,⟨some 6,.call 150 [.t 5],none,[]⟩] [2,3,4,6]) (.cond (.t 6) (.ops [⟨some 7,.fad (.t 2) 14,none,[2]⟩,⟨some 8,.load 1 false (.t 7),none,[2]⟩,⟨some 9,.iad (.t 3) (.c (.int .i64 4)) 2 5,none,[3]⟩,⟨some 10,.load 2 true (.t 9),none,[3]⟩,⟨some 11,.build [.int .i64 0,.int .i64 0] [],none,[]⟩,⟨some 12,.iad (.t 3) (.t 8) 2 5,none,[3]⟩,⟨none,.store (.t 12) 2 (.t 10),none,[3]⟩,⟨some 13,.iad (.t 3) (.c (.int .i64 4)) 2 5,none,[3]⟩,⟨none,.store (.t 13) 2 (.t 11),none,[3]⟩] [3,4]) .skip)) (.seq (.ops [⟨some 14,.load 10 true (.t 3),none,[3]⟩,⟨none,.store (.t 4) 10 (.t 14),none,[4]⟩] [4]) .ret))
theorem r152_8:type_of% (rr c152_8.eq_1):=rr rfl
def a152:AFun:=⟨2,15,c152_8,[.cell 4 10 true]⟩
attribute [simp] r152_8
theorem m152:mFun Tryz.prog Tryz.f152 a152=true:=by decide +kernel
def c111_3:ACode:=.seq (.ops [⟨some 2,.box (.t 0) 17,none,[]⟩,⟨some 3,.box (.t 1) 10,none,[]⟩,⟨some 4,.mv (.c (.bool false)),none,[]⟩] [2,3]) (.seq (.ops [⟨some 5,.load 17 true (.t 2),none,[2]⟩,⟨some 6,.call 150 [.t 5],none,[]⟩,⟨some 7,.mv (.t 6),none,[]⟩,⟨some 8,.load 10 true (.t 3),some (7,true),[3]⟩,⟨some 9,.call 52 [.t 8],some (7,true),[]⟩,⟨some 10,.un .not (.t 9),some (7,true),[]⟩,⟨some 11,.pick (.t 7) (.t 10) (.c (.bool false)),none,[]⟩,⟨some 12,.mv (.t 11),none,[]⟩,⟨some 13,.fad (.t 2) 14,some (12,true),[2]⟩,⟨some 14,.load 1 false (.t 13),some (12,true),[2]⟩,⟨some 15,.iad (.t 3) (.t 14) 2 5,some (12,true),[3]⟩,⟨some 16,.fad (.t 15) 0,some (12,true),[3]⟩,⟨some 17,.load 1 false (.t 16),some (12,true),[3]⟩,⟨some 18,.iad (.t 3) (.c (.int .i64 4)) 2 5,some (12,true),[3]⟩,⟨some 19,.fad (.t 18) 1,some (12,true),[3]⟩,⟨some 20,.load 1 false (.t 19),some (12,true),[3]⟩,⟨some 21,.bin .lss (.t 17) (.t 20),some (12,true),[]⟩,⟨some 22,.pick (.t 12) (.t 21) (.c (.bool false)),none,[]⟩,⟨some 4,.mv (.t 22),none,[]⟩] [4]) .ret)
theorem r111_3:type_of% (rr c111_3.eq_1):=rr rfl
def a111:AFun:=⟨2,23,c111_3,[.t 4]⟩
attribute [simp] r111_3
theorem m111:mFun Tryz.prog Tryz.f111 a111=true:=by decide +kernel
def c112_13:ACode:=.seq (.ops [⟨some 3,.box (.t 0) 6,none,[]⟩,⟨some 4,.box (.t 1) 17,none,[]⟩,⟨some 5,.box (.t 2) 10,none,[]⟩,⟨some 6,.mv (.c (.int .i64 0)),none,[]⟩,⟨some 7,.mv (.c (.int .i64 0)),none,[]⟩,⟨some 8,.mv (.c (.bool false)),none,[]⟩] [3,4,5]) (.seq (.ops [⟨some 16,.load 6 true (.t 3),none,[3]⟩,⟨some 17,.fad (.t 4) 1,none,[4]⟩,⟨some 18,.load 1 false (.t 17),none,[4]⟩,⟨some 19,.load 17 true (.t 4),none,[4]⟩,⟨some 20,.load 10 true (.t 5),none,[5]⟩,⟨some 21,.call 151 [.t 19,.t 20],none,[]⟩,⟨some 22,.call 109 [.t 16,.t 18,.t 21],none,[]⟩,⟨some 15,.mv (.t 22),none,[]⟩,⟨some 23,.ext (.t 15) 0,none,[]⟩,⟨some 24,.ext (.t 15) 1,none,[]⟩,⟨some 25,.ext (.t 15) 2,none,[]⟩,⟨some 9,.mv (.t 23),none,[]⟩,⟨some 10,.mv (.t 24),none,[]⟩,⟨some 11,.mv (.t 25),none,[]⟩] [3,4,5,9,10,11]) (.seq (.ops [⟨some 27,.load 6 true (.t 3),none,[3]⟩,⟨some 28,.fad (.t 4) 1,none,[4]⟩,⟨some 29,.load 1 false (.t 28),none,[4]⟩,⟨some 30,.load 17 true (.t 4),none,[4]⟩,⟨some 31,.load 10 true (.t 5),none,[5]⟩,⟨some 32,.call 152 [.t 30,.t 31],none,[]⟩,⟨some 33,.call 109 [.t 27,.t 29,.t 32],none,[]⟩,⟨some 26,.mv (.t 33),none,[]⟩,⟨some 34,.ext (.t 26) 0,none,[]⟩,⟨some 35,.ext (.t 26) 1,none,[]⟩,⟨some 36,.ext (.t 26) 2,none,[]⟩,⟨some 12,.mv (.t 34),none,[]⟩,⟨some 13,.mv (.t 35),none,[]⟩,⟨some 14,.mv (.t 36),none,[]⟩] [4,9,10,11,12,13,14]) (.seq (.seq (.ops [⟨some 37,.load 17 true (.t 4),none,[4]⟩,⟨some 38,.call 150 [.t 37],none,[]⟩,⟨some 39,.un .not (.t 38),none,[]⟩,⟨some 40,.mv (.t 39),none,[]⟩,⟨some 41,.mv (.t 11),some (40,false),[]⟩,⟨some 42,.un .not (.t 41),some (40,false),[]⟩,⟨some 43,.pick (.t 40) (.c (.bool true)) (.t 42),none,[]⟩,⟨some 44,.mv (.t 43),none,[]⟩,⟨some 45,.mv (.t 14),some (44,false),[]⟩,⟨some 46,.un .not (.t 45),some (44,false),[]⟩,⟨some 47,.pick (.t 44) (.c (.bool true)) (.t 46),none,[]⟩] [9,10,12,13,47]) (.cond (.t 47) (.seq (.ops [⟨some 6,.mv (.c (.int .i64 0)),none,[]⟩,⟨some 7,.mv (.c (.int .i64 0)),none,[]⟩,⟨some 8,.mv (.c (.bool false)),none,[]⟩] [6,7,8]) .ret) .skip)) (.seq (.ops [⟨some 48,.mv (.t 12),none,[]⟩,⟨some 49,.mv (.t 10),none,[]⟩,⟨some 50,.bin .sub (.t 48) (.t 49),none,[]⟩,⟨some 51,.mv (.t 13),none,[]⟩,⟨some 52,.mv (.t 9),none,[]⟩,⟨some 53,.bin .sub (.t 51) (.t 52),none,[]⟩,⟨some 6,.mv (.t 50),none,[]⟩,⟨some 7,.mv (.t 53),none,[]⟩,⟨some 8,.mv (.c (.bool true)),none,[]⟩] [6,7,8]) .ret))))
theorem r112_13:type_of% (rr c112_13.eq_1):=rr rfl
def a112:AFun:=⟨3,54,c112_13,[.t 6,.t 7,.t 8]⟩
attribute [simp] r112_13
theorem m112:mFun Tryz.prog Tryz.f112 a112=true:=by decide +kernel
theorem runs_pairs (q:Query) (c:Bool) (h:some (paired q)=some c):Runs (tbl []) a150 [Arg.enc q] (Arg.enc c):=by
 cases h
 refine⟨rfl,fun g=>run_def ?_⟩
 unfold a150
 by_cases k1:q.kind=3
 case neg=>simp -implicitDefEqProofs [paired,k1]
 by_cases k2:0≤q.feature
 case neg=>simp -implicitDefEqProofs [paired,k1,k2]
 simp -implicitDefEqProofs [paired,k1,k2]
theorem c_pairs:Contract Tryz.prog 150 (sp1 fun q=>some (paired q)) :=
 contract_of_runs mixed tbl_nil Tryz.func150 m150 (sp1_runs runs_pairs)
def firstB (q:Query) (b:Box):Box:=if paired q then { b with s4:=⟨0,0⟩ } else b
def secondB (q:Query) (b:Box):Box:=if paired q then { b.set q.feature b.s4 with s4:=⟨0,0⟩ } else b
def orderedB (q:Query) (b:Box):Bool:=paired q && !b.empty&&decide ((b.get q.feature).lo<b.s4.hi)
theorem runs_First (q:Query) (b:Box) (c:Box) (h:some (firstB q b)=some c):Runs (tbl [(150,sp1 fun q=>some (paired q))]) a151 [Arg.enc q,Arg.enc b] (Arg.enc c):=by
 cases h
 refine⟨rfl,fun g=>run_def ?_⟩
 unfold a151
 cases hp:paired q<;>simp -implicitDefEqProofs [firstB,hp]
theorem c_First:Contract Tryz.prog 151 (sp2 fun q b=>some (firstB q b)) :=
 contract_of_runs mixed (tbl_cons c_pairs tbl_nil) Tryz.func151 m151 (sp2_runs runs_First)
theorem runs_cSecond (q:Query) (b:Box) (c:Box) (h:some (secondB q b)=some c):Runs (tbl [(150,sp1 fun q=>some (paired q))]) a152 [Arg.enc q,Arg.enc b] (Arg.enc c):=by
 cases h
 refine⟨rfl,fun g=>run_def ?_⟩
 unfold a152
 cases hp:paired q
 ·simp -implicitDefEqProofs [secondB,hp]
 ·have hf:=paired_feature hp
  obtain⟨kind,cls,region,lo,hi,feature,falls,budget⟩:=q
  simp only at hf
  rcases hf with rfl|rfl|rfl|rfl<;>simp -implicitDefEqProofs [secondB,hp,Box.set]
theorem c_cSecond:Contract Tryz.prog 152 (sp2 fun q b=>some (secondB q b)) :=
 contract_of_runs mixed (tbl_cons c_pairs tbl_nil) Tryz.func152 m152 (sp2_runs runs_cSecond)
theorem runs_Ordered (q:Query) (b:Box) (c:Bool) (h:some (orderedB q b)=some c):Runs (tbl [(150,sp1 fun q=>some (paired q)),(52,sp1 fun (b:Box)=>some b.empty)]) a111 [Arg.enc q,Arg.enc b] (Arg.enc c):=by
 cases h
 refine⟨rfl,fun g=>run_def ?_⟩
 unfold a111
 cases hp:paired q
 ·simp -implicitDefEqProofs [orderedB,hp]
 ·have hf:=paired_feature hp
  cases he:b.empty
  case true=>simp -implicitDefEqProofs [orderedB,hp,he]
  obtain⟨kind,cls,region,lo,hi,feature,falls,budget⟩:=q
  simp only at hf
  rcases hf with rfl|rfl|rfl|rfl<;>simp -implicitDefEqProofs [orderedB,hp,he,Box.get]
theorem c_Ordered:Contract Tryz.prog 111 (sp2 fun q b=>some (orderedB q b)) :=
 contract_of_runs mixed (tbl_cons c_pairs (tbl_cons c_bEmpty tbl_nil)) Tryz.func111 m111 (sp2_runs runs_Ordered)
def changeM (m:Model) (q:Query) (b:Box):Tri Int Int Bool :=
 if paired q&&(boundM m q.cls (firstB q b)).c&&(boundM m q.cls (secondB q b)).c then
  ⟨(boundM m q.cls (secondB q b)).a-(boundM m q.cls (firstB q b)).b,(boundM m q.cls (secondB q b)).b-(boundM m q.cls (firstB q b)).a,true⟩ else ⟨0,0,false⟩
theorem boundM_le {m:Model} (hm:RM m) (c:Int) (b:Box):-19327352832≤(boundM m c b).a∧(boundM m c b).a≤19327352823∧-19327352832≤(boundM m c b).b∧(boundM m c b).b≤19327352823:=by
 unfold boundM
 split
 ·simp
 ·rename_i h
  have he:b.empty=false:=by cases he:b.empty<;>simp[he] at h ⊢
  have:=boundP_le hm c he
  simp only
  omega
theorem okB_first {b:Box} (h:okB b) (q:Query):okB (firstB q b)∧okB (secondB q b):=by
 have z:okS64 ⟨0,0⟩:=by unfold okS64 ok64;simp only;omega
 unfold firstB secondB
 cases paired q
 ·exact⟨h,h⟩
 ·have h2:=okB_set h q.feature h.2.2.2.2
  exact⟨⟨h.1,h.2.1,h.2.2.1,h.2.2.2.1,z⟩,h2.1,h2.2.1,h2.2.2.1,h2.2.2.2.1,z⟩
noncomputable def ChangeC (m:Model) (q:Query) (b:Box):Option (Tri Int Int Bool):=Part (RM m∧okB b) (changeM m q b)
theorem runs_Change (m:Model) (q:Query) (b:Box) (c:Tri Int Int Bool) (h:ChangeC m q b=some c):Runs (tbl [(151,sp2 fun q b=>some (firstB q b)),(152,sp2 fun q b=>some (secondB q b)),(109,sp3 BoundS),(150,sp1 fun q=>some (paired q))]) a112 [Arg.enc m,Arg.enc q,Arg.enc b] (Arg.enc c):=by
 obtain⟨⟨hm,hb⟩,rfl⟩:=part_some h
 clear h
 refine⟨rfl,fun g=>run_def ?_⟩
 unfold a112
 have hk:=okB_first hb q
 have s1:BoundS m q.cls (firstB q b)=some (boundM m q.cls (firstB q b)):=part_of ⟨hm,hk.1⟩ _
 have s2:BoundS m q.cls (secondB q b)=some (boundM m q.cls (secondB q b)):=part_of ⟨hm,hk.2⟩ _
 have l1:=boundM_le hm q.cls (firstB q b)
 have l2:=boundM_le hm q.cls (secondB q b)
 have w1:IntKind.i64.wrap ((boundM m q.cls (secondB q b)).a-(boundM m q.cls (firstB q b)).b)=(boundM m q.cls (secondB q b)).a-(boundM m q.cls (firstB q b)).b:=wrap64 (by omega) (by omega)
 have w2:IntKind.i64.wrap ((boundM m q.cls (secondB q b)).b-(boundM m q.cls (firstB q b)).a)=(boundM m q.cls (secondB q b)).b-(boundM m q.cls (firstB q b)).a:=wrap64 (by omega) (by omega)
 cases hp:paired q
 case false=>simp -implicitDefEqProofs [changeM,hp,s1,s2]
 cases h1:(boundM m q.cls (firstB q b)).c
 case false=>simp -implicitDefEqProofs [changeM,hp,s1,s2,h1]
 cases h2:(boundM m q.cls (secondB q b)).c<;>simp -implicitDefEqProofs [changeM,hp,s1,s2,h1,h2,w1,w2]
theorem c_Change:Contract Tryz.prog 112 (sp3 ChangeC) :=
 contract_of_runs mixed (tbl_cons c_First (tbl_cons c_cSecond (tbl_cons c_bSum (tbl_cons c_pairs tbl_nil)))) Tryz.func112 m112 (sp3_runs runs_Change)
end Go.Co
/- CO: what changes of pairs are. -/
namespace Go.Co
open Go.Am Go.Proofs
theorem first_in {q:Query} (hp:paired q=true) {b:Box} {p:Point} {t:Int}:InB (firstB q b) p t↔(t=0∧InS b.s0 p.p0∧InS b.s1 p.p1∧InS b.s2 p.p2∧InS b.s3 p.p3):=by
 unfold firstB InB
 rw[if_pos hp]
 simp only
 constructor
 ·rintro⟨h0,h1,h2,h3,h4⟩
  exact⟨by unfold InS at h4;simp only at h4;omega,h0,h1,h2,h3⟩
 ·rintro⟨rfl,h0,h1,h2,h3⟩
  exact⟨h0,h1,h2,h3,by unfold InS;simp⟩
theorem second_in {q:Query} (hp:paired q=true) {b:Box} {p:Point} {t:Int} (h:InB b p t):InB (secondB q b) (p.set q.feature t) 0:=by
 have hf:=paired_feature hp
 obtain⟨h0,h1,h2,h3,h4⟩:=h
 have z:InS ⟨0,0⟩ 0:=by unfold InS;simp
 unfold secondB
 rw[if_pos hp]
 rcases hf with hf|hf|hf|hf<;>rw[hf]<;>simp only[Box.set,Point.set,InB,if_true,Int.reduceEq,if_false,reduceIte]
 ·exact⟨h4,h1,h2,h3,z⟩
 ·exact⟨h0,h4,h2,h3,z⟩
 ·exact⟨h0,h1,h4,h3,z⟩
 ·exact⟨h0,h1,h2,h4,z⟩
theorem second_back {q:Query} (hp:paired q=true) {b:Box} (he:b.empty=false) {p:Point} {t:Int} (h:InB (secondB q b) p t):t=0∧∃ p' t',InB b p' t'∧p=p'.set q.feature t':=by
 have hf:=paired_feature hp
 obtain⟨p0,t0,h0,h1,h2,h3,h4⟩:=empty_false.1 he
 unfold secondB at h
 rw[if_pos hp] at h
 rcases hf with hf|hf|hf|hf<;>rw[hf] at h ⊢<;>simp only[Box.set,InB,if_true,Int.reduceEq,if_false,reduceIte] at h<;>obtain⟨k0,k1,k2,k3,k4⟩:=h <;>
  refine⟨by unfold InS at k4;simp only at k4;omega, ?_⟩
 ·exact⟨⟨p0.p0,p.p1,p.p2,p.p3⟩,p.p0,⟨h0,k1,k2,k3,k0⟩,rfl⟩
 ·exact⟨⟨p.p0,p0.p1,p.p2,p.p3⟩,p.p1,⟨k0,h1,k2,k3,k1⟩,rfl⟩
 ·exact⟨⟨p.p0,p.p1,p0.p2,p.p3⟩,p.p2,⟨k0,k1,h2,k3,k2⟩,rfl⟩
 ·exact⟨⟨p.p0,p.p1,p.p2,p0.p3⟩,p.p3,⟨k0,k1,k2,h3,k3⟩,rfl⟩
theorem first_some {q:Query} (hp:paired q=true) {b:Box} (he:b.empty=false):(firstB q b).empty=false:=by
 obtain⟨p,t,h0,h1,h2,h3,h4⟩:=empty_false.1 he
 exact empty_false.2 ⟨p,0,(first_in hp).2 ⟨rfl,h0,h1,h2,h3⟩⟩
theorem second_some {q:Query} (hp:paired q=true) {b:Box} (he:b.empty=false):(secondB q b).empty=false:=by
 obtain⟨p,t,h⟩:=empty_false.1 he
 exact empty_false.2 ⟨_,_,second_in hp h⟩
theorem change_some {m:Model} {q:Query} (hp:paired q=true) (h0:0≤q.cls) (h1:q.cls<m.classes) {b:Box} (he:b.empty=false) :
  changeM m q b=⟨(boundP m q.cls (secondB q b)).1-(boundP m q.cls (firstB q b)).2,(boundP m q.cls (secondB q b)).2-(boundP m q.cls (firstB q b)).1,true⟩:=by
 have e1:=first_some hp he
 have e2:=second_some hp he
 have a1:boundM m q.cls (firstB q b)=⟨(boundP m q.cls (firstB q b)).1,(boundP m q.cls (firstB q b)).2,true⟩:=by unfold boundM;rw[if_neg (by simp[e1];omega)]
 have a2:boundM m q.cls (secondB q b)=⟨(boundP m q.cls (secondB q b)).1,(boundP m q.cls (secondB q b)).2,true⟩:=by unfold boundM;rw[if_neg (by simp[e2];omega)]
 unfold changeM
 rw[a1,a2,hp]
 rfl
theorem change_sound {m:Model} (hm:RM m) {q:Query} (hp:paired q=true) (h0:0≤q.cls) (h1:q.cls<m.classes) {b:Box} {p:Point} {t:Int} (h:InB b p t) :
  (changeM m q b).a≤evalM m q.cls (p.set q.feature t)-evalM m q.cls p∧evalM m q.cls (p.set q.feature t)-evalM m q.cls p≤(changeM m q b).b:=by
 rw[change_some hp h0 h1 (empty_false.2 ⟨p,t,h⟩)]
 have k1:=bound_sound hm q.cls ((first_in hp (b:=b) (p:=p) (t:=0)).2 ⟨rfl,h.1,h.2.1,h.2.2.1,h.2.2.2.1⟩)
 have k2:=bound_sound hm q.cls (second_in hp h)
 simp only
 omega
end Go.Co
