/- The law TopOrder: what its text computes. -/
import Derived.Test.YtlbfmeijjgphfaaGreatDoorCz12
import Derived.Test.YtlbfmeijjgphfaaGreatDoorCz13
set_option maxHeartbeats 16000000
set_option maxRecDepth 100000
namespace Go.Co
open Go.Am Go.Proofs
set_option linter.unusedSimpArgs false
set_option linter.unusedVariables false
attribute [-simp] Go.Am.eff_gcall Go.Am.eff_gcal2
def c20_3:ACode:=.seq (.ops [⟨some 2,.nil0 2 1,none,[]⟩] [0]) (.seq (.ops [⟨some 3,.mv (.t 0),none,[]⟩,⟨some 4,.build [.bool false,.int .i64 0,.int .i64 0,.int .i64 0,.int .i64 0,.int .i64 0] [(0,1,.c (.bool true)),(1,1,.t 3)],none,[]⟩,⟨some 5,.call 43 [.t 4],none,[]⟩,⟨some 6,.mkrow 2 1 1 [.int .u64 0] [(0,1,.t 5)],none,[]⟩,⟨some 2,.mv (.t 6),none,[]⟩] [2]) .ret)
theorem r20_3:type_of% (rr c20_3.eq_1):=rr rfl
def a20:AFun:=⟨1,7,c20_3,[.t 2]⟩
attribute [simp] r20_3
theorem m20:mFun Tryz.prog Tryz.f20 a20=true:=by decide +kernel
def c5_25:ACode:=.seq (.ops [⟨some 3,.box (.t 0) 4,none,[]⟩,⟨some 4,.box (.t 1) 8,none,[]⟩,⟨some 6,.mv (.c (.bool false)),none,[]⟩] [2,3,4]) (.seq (.ops [⟨some 14,.load 4 true (.t 3),none,[3]⟩,⟨some 15,.call 10 [.t 14],none,[]⟩,⟨some 7,.alloc [.int .i64 0,.int .i64 0,.int .i64 0,.int .i64 0,.int .i64 0,.nils],none,[]⟩,⟨none,.store (.t 7) 6 (.t 15),none,[7]⟩] [2,4,7]) (.seq (.ops [⟨some 17,.load 6 true (.t 7),none,[7]⟩,⟨some 18,.load 8 true (.t 4),none,[4]⟩,⟨some 19,.load 6 true (.t 7),none,[7]⟩,⟨some 20,.call 12 [.t 18,.t 19],none,[]⟩,⟨some 21,.call 11 [.t 17,.t 20],none,[]⟩,⟨some 16,.mv (.t 21),none,[]⟩,⟨some 22,.ext (.t 16) 0,none,[]⟩,⟨some 23,.ext (.t 16) 1,none,[]⟩,⟨some 8,.alloc [.int .i64 0,.int .i64 0,.int .i64 0,.int .i64 0,.int .i64 0,.int .i64 0,.int .i64 0,.int .i64 0,.int .i64 0,.int .i64 0,.int .i64 0,.int .i64 0,.int .i64 0,.int .i64 0,.int .i64 0,.bool false,.int .i64 0],none,[]⟩,⟨none,.store (.t 8) 17 (.t 22),none,[8]⟩,⟨some 9,.mv (.t 23),none,[]⟩] [2,7,8,9]) (.seq (.seq (.ops [⟨some 24,.mv (.t 9),none,[]⟩,⟨some 25,.un .not (.t 24),none,[]⟩] [2,7,8,25]) (.cond (.t 25) (.seq (.ops [⟨some 26,.call 13 [],none,[]⟩,⟨some 6,.mv (.t 26),none,[]⟩] [6]) .ret) .skip)) (.seq (.ops [⟨some 27,.mv (.t 2),none,[]⟩,⟨some 28,.fad (.t 7) 5,none,[7]⟩,⟨some 29,.load 1 false (.t 28),none,[7]⟩,⟨some 30,.len (.t 29),none,[]⟩,⟨some 31,.call 17 [.t 27,.c (.int .i64 0),.t 30],none,[]⟩,⟨some 10,.mv (.t 31),none,[]⟩] [2,7,8,10]) (.seq (.ops [⟨some 32,.load 6 true (.t 7),none,[7]⟩,⟨some 11,.alloc [.int .i64 0,.int .i64 0,.int .i64 0,.int .i64 0,.int .i64 0,.nils],none,[]⟩,⟨none,.store (.t 11) 6 (.t 32),none,[11]⟩] [2,7,8,10,11]) (.seq (.ops [⟨some 33,.mkrow 33 0 2 [.int .i64 0,.nils] [],none,[]⟩,⟨some 34,.fad (.t 7) 5,none,[7]⟩,⟨some 35,.load 1 false (.t 34),none,[7]⟩,⟨some 36,.mv (.t 10),none,[]⟩,⟨some 37,.sl (.t 35) (some (.t 36)) none 2,none,[]⟩,⟨some 38,.app 38 [33] (.t 33) (.t 37) 2,none,[33]⟩,⟨some 39,.fad (.t 7) 5,none,[7]⟩,⟨some 40,.load 1 false (.t 39),none,[7]⟩,⟨some 41,.mv (.t 10),none,[]⟩,⟨some 42,.sl (.t 40) none (some (.t 41)) 2,none,[]⟩,⟨some 43,.app 11105 [38] (.t 38) (.t 42) 2,none,[38]⟩,⟨some 44,.fad (.t 11) 5,none,[11]⟩,⟨none,.store (.t 44) 1 (.t 43),none,[11]⟩] [2,7,8,11]) (.seq (.ops [⟨some 45,.load 6 true (.t 7),none,[7]⟩,⟨some 12,.alloc [.int .i64 0,.int .i64 0,.int .i64 0,.int .i64 0,.int .i64 0,.nils],none,[]⟩,⟨none,.store (.t 12) 6 (.t 45),none,[12]⟩] [2,7,8,11,12]) (.seq (.ops [⟨some 46,.mkrow 46 0 2 [.int .i64 0,.nils] [],none,[]⟩,⟨some 47,.fad (.t 7) 5,none,[7]⟩,⟨some 48,.load 1 false (.t 47),none,[7]⟩,⟨some 49,.app 49 [46] (.t 46) (.t 48) 2,none,[46]⟩,⟨some 50,.mv (.t 2),none,[]⟩,⟨some 51,.bin .and (.t 50) (.c (.int .i64 1023)),none,[]⟩,⟨some 52,.call 20 [.t 51],none,[]⟩,⟨some 53,.build [.int .i64 0,.nils] [(0,1,.c (.int .i64 0)),(1,1,.t 52)],none,[]⟩,⟨some 54,.mv (.t 2),none,[]⟩,⟨some 55,.bin .and (.t 54) (.c (.int .i64 1023)),none,[]⟩,⟨some 56,.un .neg (.t 55),none,[]⟩,⟨some 57,.call 20 [.t 56],none,[]⟩,⟨some 58,.build [.int .i64 0,.nils] [(0,1,.c (.int .i64 0)),(1,1,.t 57)],none,[]⟩,⟨some 59,.mkrow 59 2 2 [.int .i64 0,.nils] [(0,2,.t 53),(2,2,.t 58)],none,[]⟩,⟨some 60,.app 11205 [49] (.t 49) (.t 59) 2,none,[49,59]⟩,⟨some 61,.fad (.t 12) 5,none,[12]⟩,⟨none,.store (.t 61) 1 (.t 60),none,[12]⟩] [7,8,11,12]) (.seq (.ops [⟨some 62,.load 6 true (.t 7),none,[7]⟩,⟨some 63,.load 17 true (.t 8),none,[8]⟩,⟨some 64,.call 14 [.t 62,.t 63],none,[]⟩,⟨some 13,.alloc [.int .i64 0,.nils,.int .i64 0,.int .i64 0,.int .i64 0,.int .i64 0,.int .i64 0,.int .i64 0],none,[]⟩,⟨none,.store (.t 13) 8 (.t 64),none,[13]⟩] [8,11,12,13]) (.seq (.ops [⟨some 65,.load 6 true (.t 11),none,[11]⟩,⟨some 66,.load 17 true (.t 8),none,[8]⟩,⟨some 67,.call 14 [.t 65,.t 66],none,[11105]⟩,⟨some 68,.load 8 true (.t 13),none,[13]⟩,⟨some 69,.call 21 [.t 67,.t 68],none,[]⟩,⟨some 70,.mv (.t 69),none,[]⟩,⟨some 71,.load 6 true (.t 12),some (70,true),[12]⟩,⟨some 72,.load 17 true (.t 8),some (70,true),[8]⟩,⟨some 73,.call 14 [.t 71,.t 72],some (70,true),[11205]⟩,⟨some 74,.fld (.t 73) 0 1 false,some (70,true),[]⟩,⟨some 75,.fad (.t 13) 0,some (70,true),[13]⟩,⟨some 76,.load 1 false (.t 75),some (70,true),[13]⟩,⟨some 77,.bin .eql (.t 74) (.t 76),some (70,true),[]⟩,⟨some 78,.pick (.t 70) (.t 77) (.c (.bool false)),none,[]⟩,⟨some 79,.mv (.t 78),none,[]⟩,⟨some 80,.call 13 [],some (79,true),[]⟩,⟨some 81,.pick (.t 79) (.t 80) (.c (.bool false)),none,[]⟩,⟨some 6,.mv (.t 81),none,[]⟩] [6]) .ret))))))))))
theorem r5_25:type_of% (rr c5_25.eq_1):=rr rfl
def a5:AFun:=⟨3,82,c5_25,[.t 6]⟩
attribute [simp] r5_25
theorem m5:mFun Tryz.prog Tryz.f5 a5=true:=by decide +kernel
theorem runs_Leaf (n:Int) (r:List Word) (h:some [pack ⟨true,n,0,0,0,0⟩]=some r):Runs (tbl [(43,sp1 fun n=>some (pack n))]) a20 [Arg.enc n] (Arg.enc r):=by
 cases h
 refine⟨rfl,fun g=>run_def ?_⟩
 unfold a20
 simp -implicitDefEqProofs []
 rfl
theorem c_Leaf:Contract Tryz.prog 20 (sp1 fun n=>some [pack ⟨true,n,0,0,0,0⟩]) :=
 contract_of_runs mixed (tbl_cons c_rPack tbl_nil) Tryz.func20 m20 (sp1_runs runs_Leaf)
theorem and_1023 (n:Int):0≤iand IntKind.i64 n 1023∧iand IntKind.i64 n 1023≤1023:=by
 unfold iand
 have h:(BitVec.ofInt IntKind.i64.bits n &&& BitVec.ofInt IntKind.i64.bits 1023).toNat≤1023:=by
  rw[BitVec.toNat_and]
  exact Nat.le_trans Nat.and_le_right (by decide)
 rw[wrap64 (by omega) (by omega)]
 omega
noncomputable abbrev toT:Cs:=tbl [(10,sp1 ModelC),(12,sp2 QueryC),(11,sp2 EnoughC),(17,sp3 Within),(20,sp1 fun n=>some [pack ⟨true,n,0,0,0,0⟩]),(14,sp2 RunC),(21,sp2 VerdictsC),(13,sp0 (some true))]
theorem runs_law (f:Forest) (a:Ask) (cut:Int) (c:Bool) (h:some true=some c):Runs toT a5 [Arg.enc f,Arg.enc a,Arg.enc cut] (Arg.enc c):=by
 cases h
 refine⟨rfl,fun g=>run_def ?_⟩
 have hm:=rm_modelOf f
 have hM:ModelC f=some (modelOf f):=rfl
 have hl4:(modelOf f).trees.length≤4:=by
  unfold modelOf
  simp
  omega
 generalize modelOf f=m at *
 have hQ:QueryC a m=some (queryOf m a):=part_of ⟨hm.dim.1,hm.dim.2,hm.classes.1,hm.classes.2⟩ _
 generalize queryOf m a=q at *
 have hE:EnoughC m q=some (if countM m q (startOf q)≤1500 then (withBudget q (2*countM m q (startOf q)),true) else (withBudget q 0,false)):=part_of hm _
 generalize hcc:countM m q (startOf q)=cc at *
 by_cases h1:cc≤1500
 ·rw[if_pos h1] at hE
  clear hcc
  have hW:=within_of cut 0 m.trees.length (by omega)
  have hw:=within_le cut 0 m.trees.length (by omega)
  generalize within cut 0 m.trees.length=k at *
  obtain⟨j,rfl⟩:∃ j:Nat,k=j:=⟨k.toNat,by omega⟩
  have hj:j≤m.trees.length:=by omega
  have hv:=and_1023 cut
  have hperm:(m.trees.drop j++m.trees.take j).Perm m.trees:=by
   have:=List.perm_append_comm (l₁:=m.trees.drop j) (l₂:=m.trees.take j)
   rwa [List.take_append_drop] at this
  have f1:fits (iand IntKind.i64 cut 1023)=true:=fits_of (by omega)
  have f2:fits (-(iand IntKind.i64 cut 1023))=true:=fits_of (by omega)
  have wn:IntKind.i64.wrap (-(iand IntKind.i64 cut 1023))=-(iand IntKind.i64 cut 1023):=wrap64 (by omega) (by omega)
  generalize hu:iand IntKind.i64 cut 1023=u at *
  have hR1:RunC m (withBudget q (2*cc))=some (searchM m (withBudget q (2*cc))):=part_of hm _
  have hR2:RunC { m with trees:=m.trees.drop j++m.trees.take j } (withBudget q (2*cc))=some (searchM m (withBudget q (2*cc))):=by
   rw[← search_perm hperm]
   exact part_of (rm_perm hm hperm) _
  have hR3:RunC { m with trees:=m.trees++[leafT 0 u,leafT 0 (-u)] } (withBudget q (2*cc))=some (searchM m (withBudget q (2*cc))):=by
   rw[← search_leaves f1 f2]
   exact part_of (rm_leaves hm hl4 f1 f2) _
  generalize searchM m (withBudget q (2*cc))=v at *
  have hV:VerdictsC v v=some true:=part_of rfl _
  clear hm hperm
  unfold withBudget leafT at *
  obtain⟨dim,classes,bias,trees⟩:=m
  simp only at hl4 hj hw hW hR1 hR2 hR3 hE
  have r1:List.drop (j*2) (encL trees)=encL (trees.drop j):=encL_drop trees j
  have r2:List.take (j*2) (encL trees)=encL (trees.take j):=encL_take trees j
  have r3:∀(l:List Tree) (n:Nat),l.length*2≤n→List.take n (encL l)=encL l:=fun l n h=>take_rows l n h
  have c0:trees.length≤maxN:=by unfold maxN;omega
  have r4:=r3 (trees.drop j) ((trees.length-j)*2) (by simp)
  have r5:=r3 (trees.take j) (j*2) (by simp;omega)
  have r7:(encL (List.drop j trees)).length=(trees.length-j)*2:=by rw[encL_length,List.length_drop];rfl
  have r8:(encL (List.take j trees)).length=j*2:=by rw[encL_length,List.length_take,Nat.min_eq_left hj];rfl
  have c1:trees.length-j≤1099511627776:=by omega
  have c2:j≤1099511627776:=by omega
  have c3:trees.length≤1099511627776:=by omega
  have c4:trees.length≤1099511627774:=by omega
  have r9:(encL trees).length=trees.length*2:=by rw[encL_length];rfl
  have e1:encL (List.drop j trees)++encL (List.take j trees)=encL (trees.drop j++trees.take j):=(encL_append _ _).symm
  have hL:(trees.drop j++trees.take j).length=trees.length:=by rw[List.length_append,List.length_drop,List.length_take];omega
  generalize trees.drop j++trees.take j=L at *
  have e2:AV.lst trees.length (encL L)=AV.lst L.length (encL L):=by rw[hL]
  have e3:=r3 L (trees.length*2) (by omega)
  have e4:=r3 trees (trees.length*2) (Nat.le_refl _)
  have e5:encL trees++[AV.int IntKind.i64 0,AV.lst 1 (encL [pack ⟨true,u,0,0,0,0⟩]),AV.int IntKind.i64 0,AV.lst 1 (encL [pack ⟨true,-u,0,0,0,0⟩])]=encL (trees++[⟨0,[pack ⟨true,u,0,0,0,0⟩]⟩,⟨0,[pack ⟨true,-u,0,0,0,0⟩]⟩]):=by rw[encL_append];rfl
  have hL2:(trees++[(⟨0,[pack ⟨true,u,0,0,0,0⟩]⟩:Tree),⟨0,[pack ⟨true,-u,0,0,0,0⟩]⟩]).length=trees.length+2:=by rw[List.length_append];rfl
  generalize trees++[(⟨0,[pack ⟨true,u,0,0,0,0⟩]⟩:Tree),⟨0,[pack ⟨true,-u,0,0,0,0⟩]⟩]=K at *
  have e6:AV.lst (trees.length+2) (encL K)=AV.lst K.length (encL K):=by rw[hL2]
  have e7:=r3 K ((trees.length+2)*2) (by omega)
  have e8:(encL L).length=trees.length*2:=by rw[encL_length,hL];rfl
  have e9:(encL K).length=(trees.length+2)*2:=by rw[encL_length,hL2];rfl
  unfold a5
  simp -implicitDefEqProofs [hM,hQ,hE,hW,hR1,hR2,hR3,hV,wn,hj,c0,r1,r2,r4,r5,r7,r8,r9,c1,c2,c3,c4,hu,e1,e2,e3,e4,e5,e6,e7,e8,e9]
 ·rw[if_neg h1] at hE
  unfold withBudget at *
  unfold a5
  simp -implicitDefEqProofs [hM,hQ,hE]
noncomputable def law_sp:List AV→Option AV:=sp3 fun (_:Forest) (_:Ask) (_:Int)=>some true
theorem law_holds:Contract Tryz.prog 5 law_sp :=
 contract_of_runs mixed (tbl_cons c_Model (tbl_cons c_Query (tbl_cons c_enough (tbl_cons c_Within (tbl_cons c_Leaf (tbl_cons c_Run (tbl_cons c_Verdicts (tbl_cons c_awake tbl_nil)))))))) Tryz.func5 m5 (sp3_runs runs_law)
theorem law_says (f:Forest) (a:Ask) (cut:Int):law_sp [Arg.enc f,Arg.enc a,Arg.enc cut]=some (.bool true):=by
 simp only[law_sp,sp3,Arg.dec_enc,Option.bind_some]
 rfl
end Go.Co
